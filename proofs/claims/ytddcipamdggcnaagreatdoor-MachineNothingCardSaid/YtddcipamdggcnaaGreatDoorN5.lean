/- Part 5 of the proof. -/
import Derived.Lib.BytesEntry
import Derived.Scope
import Derived.Test.YtddcipamdggcnaaGreatDoorM4
set_option linter.all false
set_option maxRecDepth 100000
set_option maxHeartbeats 4000000
noncomputable section
open Go.Proofs.Tryz
open Go.IntKind (u8 u16 u32 u64 i64)
open Array renaming toList_append->Gt,ext'->fD,getD_eq_getD_getElem?->jG,length_toList->wF,replicate->zm
open BitVec renaming toNat_ofInt->Ku,ofInt->pP
open Bool renaming true->af,false->ag,and_eq_true->bD,not_eq_true'->n7
open Go renaming Program->aG,Addr->aI,TypeId->aM,Value->ai,World->aj,Oper->aw,Operand->bg,Exit->dE,run_underlying->dw,Code->eH,IntKind->fH,FuncId->fl,wp_ret->gC,wp_block->kx,heap_alloc_new->n6,sizeOf->pN
open Go.Addr renaming add_lit->iK
open Go.Builtin renaming append_->nh,zeroCells->qM
open Go.Deferred renaming ofValue->agf
open Go.Fence renaming wide->PR
open Go.Instr renaming storeAt->Gq,makeSlice->KE,buildSlice->YC,sureAddr->iY,loadAt->pO
open Go.IntKind renaming wrap_u16->YK
open Go.Lib renaming indexByte->YJ
open Go.Oper renaming wp->qK
open Go.Region renaming wanted->gk
open Go.Result renaming andThen_ok->ct,andThen->je
open Go.Sem renaming run_bind->bz,run_pure->cZ
open Go.Src renaming ofSlice->qN
open Go.Value renaming int->fI,slice->wN
open Go.World renaming cell?->zl
open Int renaming ofNat->dG,toNat_natCast->vn
open List renaming pairwise_cons->Be,foldl_cons->Bh,flatMap_append->Bi,getElem?_of_mem->DA,length_map->Gs,length_filter_le->KH,flatMap_def->KJ,pairwise_append->Ky,take_zero->PS,take_length->PT,length_singleton->YD,append_assoc->bW,range->bo,mem_cons->cF,append_nil->cT,countP_append->dZ,mem_append->eI,length_append->fL,nil_append->fQ,cons_append->fm,map_cons->gb,getD->gd,getElem?_append_left->gm,countP_cons->j5,take_append_drop->jH,getElem?_map->jW,getElem?_toArray->jX,mem_singleton->jZ,length_cons->jf,getElem?_eq_none->ju,sublist_append_right->kG,perm_middle->kH,map_map->l5,eq_nil_of_length_eq_zero->lz,Perm->mE,replicate->n_,map_congr_left->ni,countP_nil->oc,getElem?_range->pQ,mem_append_left->pS,mem_cons_of_mem->qQ,not_mem_nil->qS,nodup_cons->tS,getD_eq_getElem?_getD->tV,range_succ_eq_map->tZ,getElem?_append_right->vg,mem_cons_self->vi
open List.Perm renaming append_right->Bc,append_left->j4,trans->wK,refl->zq
open List.Sublist renaming cons->PU,append_right->YF,append_left->mD,cons_cons->wL
open Nat renaming beq->aA,add_sub_cancel_left->af9,ble->bZ,lt_or_ge->c9,le_refl->cY,eq_of_beq_eq_true->ck,zero_add->dS,blt->db,le_of_ble_eq_true->eO,le_trans->ia,blt_eq->jt,add_zero->lA,add_mul->n9,zero_le->oQ,eq_zero_or_pos->tU,beq_refl->tW,add_assoc->tY
open Option renaming some->aa,none->ae,map_eq_some_iff->iX,map_some->oO
open Option.some renaming injEq->aW,inj->cG
open Prod.mk renaming injEq->bC
open UInt8 renaming ofNat->KM
namespace Sx
open Go Go.RowKit Go.BigFrame
def St.dup {ms:List Nat} {w0 w:aj} {bs:List ao} {b:ao} (S:St ms w0 bs w) (hb:b∈bs) (hw:b.wr=ag):St ms w0 (b::bs) w:=by
 refine St.mk' S.ch ?_ ?_ ?_
 ·intro x hx;rcases cF.1 hx with rfl|hx
  ·exact S.at' hb
  ·exact S.at' hx
 ·intro x hx h;rcases cF.1 hx with rfl|hx
  ·rw[hw]at h;cases h
  ·exact S.nu hx h
 ·refine Be.2 ⟨?_,S.pw⟩;intro y hy;obtain⟨i,hi⟩:=DA hb;obtain⟨j,hj⟩:=DA hy;intro h;have Wz:y.wr=af:=by
   rcases h with h|h
   ·rw[hw]at h;cases h
   ·exact h
  have cL:j≠i:=λe=>by
   rw[e,hi]at hj;have:=cG hj;rw[this]at hw;rw[hw]at Wz;cases Wz
  exact(S.apart j i y b hj hi cL Wz).symm
end Sx
namespace Go.Proofs.YtddcipamdggcnaaGreatDoor
open Go Go.RowKit Go.BigFrame Sx Vx
variable{fr:Sd.aO->Nat×Sd.ax}
def wq (ic:Nat) (G:dQ):VB:=⟨ag,⟨90,(0,0)⟩,[.ptr ic 0,.int .i64 0,.raw (.pointer (aa ⟨G.a 0,0,ae⟩)),.raw (.pointer (aa ⟨G.a 1,0,ae⟩)),.raw (.pointer (aa ⟨G.a 2,0,ae⟩))]⟩
def iz (k:LK) (s:Sd.ah) (G:dQ):List VB:=[b_ k,gK k,fy k 3 s,fg s,wq 2 G]
structure eT (fr:Sd.aO->Nat×Sd.ax) where
 k:LK
 s:Sd.ah
 F:ba fr (a9 k s)
 fB:List ao
 G:dQ
 ic:Nat
 it:Nat
def eT.cB (m:eT fr):List ao:=(lits [0,1,m.ic,m.it] [0,1,m.ic,m.it] (du m.k m.s)).drop 2
def eT.B (m:eT fr):List ao:=m.cB++(m.F.B++(m.fB++m.G.B))
def eT.R (m:eT fr):VB:=⟨ag,⟨90,(0,0)⟩,[.raw (.pointer (aa ⟨m.ic,0,ae⟩)),.int .i64 0,.raw (.pointer (aa ⟨m.G.a 0,0,ae⟩)),.raw (.pointer (aa ⟨m.G.a 1,0,ae⟩)),.raw (.pointer (aa ⟨m.G.a 2,0,ae⟩))]⟩
inductive LG (fr:Sd.aO->Nat×Sd.ax) where
 |bj (u:aj)
 |core (g:Gh fr) (fB:List ao)
 |row (r:bx)
 |yl (y:YG)
 |b8 (b:dq)
 |nX (l:List dq)
 |rd (r:iE)
 |lX (s:dQ)
 |oH (m:eT fr)
 |jr (l:List j_)
instance:Bl (LG fr):=⟨λg=>match g with|.bj u=>cw u|.core g fB=>g.F.B++fB|.row r=>r.bl|.yl y=>y.B|.b8 b=>b.B|.nX l=>kZ l|.rd r=>r.B|.lX s=>s.B|.oH m=>m.B|.jr l=>ox l⟩
def Df:List (LG fr)->Option (List (LG fr)×YG)
 |[]=>ae
 |[.yl y]=>aa ([],y)
 |g::l=>(match Df l with|some (p,y)=>aa (g::p,y)|none=>ae)
def aeq:∀(ch p:List (LG fr)) (y:YG),Df ch=aa (p,y)->ch=p++[.yl y]
 |[],_,_,h=>by simp[Df]at h
 |[g],p,y,h=>by
  cases g<;>simp[Df]at h;obtain⟨rfl,rfl⟩:=h;rfl
 |g::g2::l,p,y,h=>by
  have e:Df (g::g2::l)=(match Df (g2::l)with|some (p,y)=>aa (g::p,y)|none=>ae):=by cases g<;>rfl
  rw[e]at h;split at h
  ·rename_i p' y' hy;simp only[aW,bC]at h;obtain⟨rfl,rfl⟩:=h;rw[aeq _ _ _ hy];rfl
  ·cases h
instance:Af (LG fr):=⟨.yl,Df,λ_=>rfl,aeq⟩
mutual
def iA (n:Nat):V->V
 |.ptr i o=>.ptr (i+n) o
 |.sl i o m c=>.sl (i+n) o m c
 |.eW i o m c x=>.eW (i+n) o m c x
 |.pe i o j z k=>.pe (i+n) o j z k
 |.fn f a b=>.fn f (qA n a) (qA n b)
 |.nz t v=>.nz t (iA n v)
 |.agg l=>.agg (qA n l)
 |.ay l=>.ay (qA n l)
 |v=>v
def qA (n:Nat):List V->List V
 |[]=>[]
 |v::l=>iA n v::qA n l
end
def Oq {ids xs:List Nat} (i:Nat):(ids++xs).getD (i+ids.length) 0=xs.getD i 0:=by
 simp[gd,vg (show ids.length<=i+ids.length by omega)]
mutual
theorem Dg {ids xs:List Nat}:∀v:V,den (ids++xs) (iA ids.length v)=den xs v
 |.ptr i _=>by simp only[iA,den,Oq]
 |.sl i _ _ _=>by simp only[iA,den,Oq]
 |.eW i _ _ _ _=>by simp only[iA,den,Oq]
 |.pe i _ _ _ _=>by simp only[iA,den,Oq]
 |.fn _ a b=>by simp only[iA,den,Ot a,Ot b]
 |.nz _ v=>by simp only[iA,den,Dg v]
 |.agg l=>by simp only[iA,den,WA l]
 |.ay l=>by simp only[iA,den,Ot l]
 |.int _ _=>by simp[iA,den]
 |.bool _=>by simp[iA,den]
 |.cv _ _ _=>by simp[iA,den]
 |.arr _ _ _=>by simp[iA,den]
 |.dO _ _ _ _=>by simp[iA,den]
 |.rest _=>by simp[iA,den]
 |.iD _ _ _=>by simp[iA,den]
 |.raw _=>by simp[iA,den]
theorem Ot {ids xs:List Nat}:∀l:List V,aE (ids++xs) (qA ids.length l)=aE xs l
 |[]=>by simp[qA,aE]
 |v::l=>by simp only[qA,aE,Dg v,Ot l]
theorem WA {ids xs:List Nat}:∀l:List V,ak (ids++xs) (qA ids.length l)=ak xs l
 |[]=>by simp[qA,ak]
 |v::l=>by
  simp only[qA,ak,WA l];congr 1;have h:=Dg (ids:=ids) (xs:=xs) v;cases v<;>simp only[iA,cl]at h⊢<;>first|rfl|rw[h]
end
def AQ (n:Nat):List VB->List VB
 |[]=>[]
 |b::l=>⟨b.wr,b.ty,qA n b.c⟩::AQ n l
def aer (n:Nat):∀l:List VB,(AQ n l).length=l.length
 |[]=>rfl
 |_::l=>by simp[AQ,aer n l]
def aes {ids xs:List Nat}:∀(is:List Nat) (bl:List VB),lits (ids++xs) is (AQ ids.length bl)=lits xs is bl
 |[],_=>by simp[lits]
 |_::_,[]=>by simp[lits,AQ]
 |i::is,b::bl=>by
  simp only[AQ,lits,aes is bl];unfold aC;simp only[WA]
abbrev Js (fr:Sd.aO->Nat×Sd.ax) (k:LK):=V->(s':Sd.ah)->ba fr (a9 k s')->List ao->List VB->Prop
abbrev LM (fr:Sd.aO->Nat×Sd.ax):=List V->(k:LK)->(s:Sd.ah)->ba fr (a9 k s)->Js fr k->Prop
def iV (bl:List VB) (ic it:Nat) (k:LK) (s:Sd.ah):List VB:=(bl.set ic (fy k it s)).set it (fg s)
def yS (M:aj->LM fr):dk (LG fr):=λargs bl ch K=>match args,ch with
 |.ptr ic 0::ar,.bj u::.core g fB::rest=>(match bl[ic]?with
  |some ⟨af,⟨131,(0,0)⟩,cc⟩=>(match CM cc with
   |some x=>(match bl[x.it]?with
    |some ⟨af,⟨181,(0,0)⟩,tc⟩=>(match tI tc with
     |some y=>cond (bu 0 ar&&(bY bl.length bl&&(db 1 ic&&(db 1 x.it&&!(aA ic x.it)))))
      ((bl[0]?=aa (b_ g.d.k)/\bl[1]?=aa (gK g.d.k)/\x=mX g.d.k x.it (gj x y g.d g.dx g.sx)/\y.b=x.p.cO/\y.m=x.p.iM/\x.p.queue=g.d.k.most)/\
        M u ar g.d.k (gj x y g.d g.dx g.sx) g.F λvv s' F' fn ex=>K (iA bl.length vv) (iV bl ic x.it g.d.k s'++ex) (.bj u::.core (a_ g.d.k s' F') (fn++fB)::rest)) False
     |none=>False)
    |_=>False)
   |none=>False)
  |_=>False)
 |_,_=>False
abbrev cQ (a b:Nat):List Nat:=[0,1,a,b]
def yT (f:fl) (M:aj->LM fr):Prop:=∀(u:aj) (ar:List V) (k:LK) (s:Sd.ah) (F:ba fr (a9 k s)) (Kb:Js fr k) (a b:Nat) (R:List ao) (ms:List Nat) (w0 w:aj),bu 0 ar=af->s.c.p.queue=k.most->M u ar k s F Kb->
 St ms w0 (lits (cQ a b) (cQ a b) (du k s)++(F.B++(cw u++R))) w->
 aX prog f (aE (cQ a b) (.ptr 2 0::ar)).toArray w λv w'=>∃(vv:V) (s':Sd.ah) (F':ba fr (a9 k s')) (fn:List ao) (ex:List VB) (xs:List Nat),xs.length=ex.length/\den xs vv=v/\bY 0 ex=af/\Kb vv s' F' fn ex/\
  St ms w0 (lits (cQ a b) (cQ a b) (du k s')++(lits xs xs ex++(F'.B++(fn++(cw u++R))))) w'
def Ou {ids:List Nat} {it a b:Nat} (n:Nat) {k:LK} {s:Sd.ah} (h:ids.getD it 0=b):aC ids n (fy k it s)=aC (cQ a b) n (fy k 3 s):=by
 have e:(cQ a b).getD 3 0=b:=rfl;simp only[aC,fy,CL,mX,ak,cl,den,h,e]
structure Jt (bl:List VB) (ic it:Nat) (k:LK) (s:Sd.ah):Prop where
 h0:bl[0]?=aa (b_ k)
 h1:bl[1]?=aa (gK k)
 hc:bl[ic]?=aa (fy k it s)
 ht:bl[it]?=aa (fg s)
def Ov {ids:List Nat} {bl:List VB} {ic it:Nat} {k:LK} {s:Sd.ah} (H:Jt bl ic it k s) (hg:Gl gS ids):
 ([0,1,ic,it].map λj=>aC ids (ids.getD j 0) (bl.getD j e_))=lits (cQ (ids.getD ic 0) (ids.getD it 0)) (cQ (ids.getD ic 0) (ids.getD it 0)) (du k s):=by
 have g0:=(hg 0 0 rfl).2;have g1:=(hg 1 1 rfl).2;simp only[gb,List.map_nil,ln H.h0,ln H.h1,ln H.hc,ln H.ht,g0,g1,du,lits];rw[jz (ids':=cQ (ids.getD ic 0) (ids.getD it 0)) (AE k),jz (ids':=cQ (ids.getD ic 0) (ids.getD it 0)) (U1 k),jz (ids':=cQ (ids.getD ic 0) (ids.getD it 0)) (yA s),
  Ou (a:=ids.getD ic 0) _ rfl]
def aet {bl:List VB} {ic it:Nat} {k:LK} {s:Sd.ah} (H:Jt bl ic it k s) (h2:1<ic) (h3:1<it) (n3:ic≠it) (s':Sd.ah):Jt (iV bl ic it k s') ic it k s':=by
 have l2:=lT H.hc;have l3:=lT H.ht;unfold iV;refine⟨?_,?_,?_,?_⟩
 ·rw[nQ oM,nQ oM];exact H.h0
 ·rw[nQ oM,nQ oM];exact H.h1
 ·rw[nQ oM,AF l2]
 ·rw[AF (by simpa using l3)]
def aeu {bl:List VB} {ids r:List Nat} {a b:Nat} {x y:VB} (hr:∀j∈r,j≠a/\j≠b):
 (r.map λj=>aC ids (ids.getD j 0) (((bl.set a x).set b y).getD j e_))=r.map λj=>aC ids (ids.getD j 0) (bl.getD j e_):=by
 apply ni;intro j hj;obtain⟨h1,h2⟩:=hr j hj;simp only[gd,List.getElem?_set];rw[if_neg (Ne.symm h2),if_neg (Ne.symm h1)]
def Ju {n:Nat} {b:VB} (hb:bu n b.c=af):∀(bl:List VB) (i:Nat),bY n bl=af->bY n (bl.set i b)=af
 |[],_,_=>by simp[bY]
 |c::l,0,h=>by simp only[bY,bD,List.set_cons_zero]at h⊢;exact⟨hb,h.2⟩
 |c::l,i+1,h=>by simp only[bY,bD,List.set_cons_succ]at h⊢;exact⟨h.1,Ju hb l i h.2⟩
def Dh {ids ids':List Nat}:∀(xs:List Nat) (ex:List VB),bY 0 ex=af->lits ids xs ex=lits ids' xs ex
 |[],_,_=>by simp[lits]
 |_::_,[],_=>by simp[lits]
 |i::is,b::bl,h=>by
  simp only[bY,bD]at h;simp only[lits];rw[jz (ids':=ids') h.1,Dh is bl h.2]
def aev {f:Nat} {M:aj->LM fr} (h:yT f M):Sound prog gS f (yS M):=by
 intro args ids bl ch R ms w0 w K hg hl S hc;unfold yS at hc;split at hc
 ·rename_i ic ar u g fB rest;split at hc
  ·rename_i cc vE;split at hc
   ·rename_i x hx;split at hc
    ·rename_i tc pE;split at hc
     ·rename_i y hy;cases hq:bu 0 ar&&(bY bl.length bl&&(db 1 ic&&(db 1 x.it&&!(aA ic x.it))))with
      |false=>rw[hq]at hc;exact hc.elim
      |true=>
       rw[hq]at hc;simp only[bD,n7,jt]at hq;obtain⟨q0,qw,q2,q3,q6⟩:=hq;have n3:ic≠x.it:=λe=>by rw[e,tW]at q6;cases q6
       obtain⟨⟨e3,e4,e5,e6,e7,e8⟩,hM⟩:=hc;obtain rfl:=IH hx;obtain rfl:=yy hy;have H:Jt bl ic x.it g.d.k (gj x y g.d g.dx g.sx):=by
        refine⟨e3,e4,?_,?_⟩
        ·rw[vE];congr 1;unfold fy;rw[<-e5]
        ·rw[pE];congr 1;unfold fg;have:y=v3 (gj x y g.d g.dx g.sx):=by
          obtain⟨y1,y2,y3,y4,y5,y6,y7,y8⟩:=y;simp only at e6 e7;subst e6 e7;rfl
         rw[<-this]
       have l2:=lT H.hc;have l3:=lT H.ht;obtain⟨r,hr,hp⟩:=Fb (bl:=bl) (ids:=ids) hl (is:=[0,1,ic,x.it]) (by simp;omega) (by
        intro i hi;simp only[cF,qS,or_false]at hi;rcases hi with rfl|rfl|rfl|rfl<;>omega)
       have kl:=hp bl rfl;rw[Ov H hg]at kl;have S1:=S.perm (bs':=lits (cQ (ids.getD ic 0) (ids.getD x.it 0)) (cQ (ids.getD ic 0) (ids.getD x.it 0)) (du g.d.k (gj x y g.d g.dx g.sx))++(g.F.B++(cw u++((r.map λj=>aC ids (ids.getD j 0) (bl.getD j e_))++(fB++au rest R))))) (by
        refine(kl.append_right _).trans ?_;rw[bW];refine j4 _ ?_;show((r.map λj=>aC ids (ids.getD j 0) (bl.getD j e_))++(cw u++((g.F.B++fB)++au rest R))).Perm _;exact dR λf=>by simp only[dZ];omega)
       have uO:=h u ar g.d.k (gj x y g.d g.dx g.sx) g.F _ _ _ _ ms w0 w q0 e8 hM S1;have cN:aE ids (.ptr ic 0::ar)=aE (cQ (ids.getD ic 0) (ids.getD x.it 0)) (.ptr 2 0::ar):=by
        have a1:aE ids ar=aE [] ar:=by have:=oZ (ids:=[]) (more:=ids) ar q0;simpa using this
        have a2:aE (cQ (ids.getD ic 0) (ids.getD x.it 0)) ar=aE [] ar:=by have:=oZ (ids:=[]) (more:=cQ (ids.getD ic 0) (ids.getD x.it 0)) ar q0;simpa using this
        simp only[aE,den,a1,a2];rfl
       rw[cN];refine uO.mono ?_;rintro v w' ⟨vv,s',F',fn,ex,xs,fS,Jv,uX,hK,S2⟩;refine⟨iA bl.length vv,xs,iV bl ic x.it g.d.k s'++ex,.bj u::.core (a_ g.d.k s' F') (fn++fB)::rest,?_,?_,?_,hK⟩
       ·rw[<-hl,Dg];exact Jv.symm
       ·simp[iV,hl,fS]
       ·have H':=aet H q2 q3 n3 s';have uP:=hp (iV bl ic x.it g.d.k s') (by simp[iV]);rw[Ov H' hg]at uP;have II:(r.map λj=>aC ids (ids.getD j 0) ((iV bl ic x.it g.d.k s').getD j e_))=r.map λj=>aC ids (ids.getD j 0) (bl.getD j e_):=by
         unfold iV;refine aeu ?_;intro j hj;have:=hr j hj;simp only[cF,qS,or_false,not_or]at this;omega
        rw[II]at uP;have cX:ids.length=(iV bl ic x.it g.d.k s').length:=by simp[iV,hl]
        have WB:bY ids.length (iV bl ic x.it g.d.k s')=af:=by
         unfold iV;rw[<-hl]at qw l3;refine Ju ?_ _ _ (Ju ?_ _ _ qw)
         ·exact xy (oQ _) _ (yA s')
         ·simp only[fy,CL,mX,bu,da,bD,jt,Bool.true_and,Bool.and_true];exact l3
        rw[fu _ _ _ _ cX,fw _ _ WB,Dh (ids':=xs) xs ex uX];refine S2.perm ?_;show mE _ ((lits ids ids (iV bl ic x.it g.d.k s')++lits xs xs ex)++(cw u++((F'.B++(fn++fB))++au rest R)));refine wK ?_ ((uP.symm.append_right _).append_right _);exact dR λf=>by simp only[dZ];omega
     ·exact hc.elim
    ·exact hc.elim
   ·exact hc.elim
  ·exact hc.elim
 ·exact hc.elim
def Ow {f:Nat} {M:aj->LM fr} (h:yT f M):vL prog gS ⟨f,ag,yS M⟩:=⟨aev h,λe=>by cases e⟩
end Go.Proofs.YtddcipamdggcnaaGreatDoor
namespace Sx
open Go Go.RowKit Go.BigFrame
def St.mq {ms:List Nat} {w0 w:aj} {b:ao} {bs:List ao} (S:St ms w0 (b::bs) w):St ms w0 (⟨b.id,ag,b.obj⟩::bs) w:=by
 refine St.mk' S.ch ?_ ?_ ?_
 ·intro x hx;rcases cF.1 hx with rfl|hx
  ·exact S.at' (x:=b) (vi)
  ·exact S.at' (qQ _ hx)
 ·intro x hx h;rcases cF.1 hx with rfl|hx
  ·cases h
  ·exact S.nu (qQ _ hx) h
 ·have:=Be.1 S.pw;refine Be.2 ⟨?_,this.2⟩;intro y hy h;refine this.1 y hy ?_;rcases h with h|h
  ·cases h
  ·exact .inr h
end Sx
namespace Go.Proofs.YtddcipamdggcnaaGreatDoor
open Go Go.RowKit Go.BigFrame Sx Vx
variable{fr:Sd.aO->Nat×Sd.ax}
def eU (s:Sd.ah):Sd.ah:=⟨s.c,[],[]⟩
def lv (l:List Sd.Rec) (j:Nat):List ai:=[.int .i64 (l.getD j default).kind,.int .i64 (l.getD j default).source,.int .i64 (l.getD j default).seq,.int .i64 (l.getD j default).an,.int .i64 (l.getD j default).code,.int .i64 (l.getD j default).how]
def aew:∀(l:List Sd.Rec),(bo l.length).flatMap (lv l)=vZ l
 |[]=>rfl
 |r::l=>by
  rw[jf,tZ,List.flatMap_cons,List.flatMap_map];have e:(λj=>lv (r::l) (Nat.succ j))=lv l:=by funext j;rfl
  rw[e,aew l];rfl
def lx (ty:aM) (z n:Nat) (g:Nat->List ai) (us:List ai):VB:=⟨ag,ty,[.iD z n g,.rest us]⟩
def Jw (ids:List Nat) (ty z n:Nat) (g:Nat->List ai) (us:List ai):ak ids (lx ty z n g us).c=(bo n).flatMap g++us:=by
 simp only[lx,ak,cl,cT]
structure lY where
 x:Option aI
 n:Nat
 c:Nat
def kE (l:List (Int×Sd.aO)) (fv:Nat->lY) (j:Nat):List ai:=[.int .i64 (l.getD j default).1,.slice (fv j).x (fv j).n (fv j).c]
def FH (fr:Sd.aO->Nat×Sd.ax) (l:List (Int×Sd.aO)) (fv:Nat->lY) (fn:List ao):Prop:=∀j,j<l.length->∃x c b,fv j=⟨x,(fr (l.getD j default).2).1,c⟩/\eQ 5 (fr (l.getD j default).2).1 (fr (l.getD j default).2).2 x c b/\∀y∈b,y∈fn
def atu {l:List (Int×Sd.aO)} {so:List ai} {B:List ao} (h:CK fr l so B):∃fv,so=(bo l.length).flatMap (kE l fv)/\FH fr l fv B:=by
 induction h with
 |nil=>exact⟨λ_=>⟨ae,0,0⟩,rfl,λj hj=>absurd hj sP⟩
 |@snoc l olds bl h k r x c b hb ih=>
  obtain⟨fv,e,hf⟩:=ih;refine⟨λj=>if j=l.length then⟨x,(fr r).1,c⟩else fv j,?_,?_⟩
  ·rw[fL,YD,List.range_succ,Bi,e];congr 1
   ·simp only[KJ];congr 1;apply ni;intro j hj;have hj:=List.mem_range.1 hj;unfold kE;dsimp only;rw[if_neg (show¬j=l.length by omega),tV,tV,gm hj]
   ·simp[kE,gd]
  ·intro j hj;by_cases h1:j=l.length
   ·subst h1;have e2:(l++[(k,r)]).getD l.length default=(k,r):=by simp[gd]
    rw[e2];exact⟨x,c,b,sP,hb,λy hy=>by simp[hy]⟩
   ·have zF:j<l.length:=by simp at hj;omega
    obtain⟨x',c',b',h2,h3,h4⟩:=hf j zF;have e2:(l++[(k,r)]).getD j default=l.getD j default:=by rw[tV,tV,gm zF]
    rw[e2];exact⟨x',c',b',by simp only[if_neg h1];exact h2,h3,λy hy=>by simp[h4 y hy]⟩
def WC (s:Sd.ah) (vs vr:V):V:=.agg [.int .i64 s.c.mode,.int .i64 s.c.pt.cls,.int .i64 s.c.pt.now.a,.int .i64 s.c.pt.now.b,.int .i64 s.c.pt.now.c,.int .i64 s.c.pt.now.d,.int .i64 s.c.gF.mQ,.int .i64 s.c.gF.source,.int .i64 s.c.gF.seq,
 .int .i64 s.c.pt.cd.mQ,.int .i64 s.c.pt.cd.source,.int .i64 s.c.pt.cd.seq,vs,vr,.cv .u8 32 s.c.head]
structure TR where
 xs:Option aI
 cs:Nat
 ts:Nat
 us:List ai
 fv:Nat->lY
 xr:Option aI
 cr:Nat
 tr:Nat
 ur:List ai
def TR.sB (r:TR) (s:Sd.ah):VB:=lx r.ts 2 s.bw.length (kE s.bw r.fv) r.us
def TR.rB (r:TR) (s:Sd.ah):VB:=lx r.tr 6 s.aV.length (lv s.aV) r.ur
def TR.v (r:TR) (s:Sd.ah) (i:Nat):V:=WC s (.eW i 0 s.bw.length r.cs r.xs) (.eW (i+1) 0 s.aV.length r.cr r.xr)
def Di (k:LK) (sv:Sd.ah) (K:Js fr k):Prop:=∀(s':Sd.ah),s'=sv->∀(r:TR) (fn:List ao) (F0:ba fr (a9 k (eU s'))),cj=F0.vs->cj=F0.vr->FH fr s'.bw r.fv fn->K (r.v s' 0) (eU s') F0 fn [r.sB s',r.rB s']
def atv {k:LK} {s':Sd.ah} (F':ba fr (a9 k s')):∃F0:ba fr (a9 k (eU s')),cj=F0.vs/\cj=F0.vr/\F0.B=F'.Bq++F'.Bk:=
 ⟨⟨ae,0,ae,0,F'.Bq,[],[],[],F'.Bk,[],F'.hq,uf 6 64,uf 2 61,.nil,F'.hk⟩,rfl,rfl,rfl⟩
def Jx {ms:List Nat} {w0 w:aj} {z T n c:Nat} {olds:List ai} {x:Option aI} {B R:List ao} {k:LK} {g:Nat->List ai} (h:dD z T olds x n c B) (S:St ms w0 (B++R) w) (kp:(⟨0,ag,.cells (ak [] (b_ k).c).toArray k.tg (0,0)⟩:ao)∈R) (hg:olds=(bo n).flatMap g):
 ∃(i ty:Nat) (us:List ai),wN x n c=.slice (bif aA n 0 then x else aa ⟨i,0,ae⟩) n c/\St ms w0 (⟨i,ag,.cells ((bo n).flatMap g++us).toArray ty (0,0)⟩::R) w:=by
 rcases h.2.2 with⟨rfl,rfl,rfl,rfl⟩|⟨b,tail,rfl,rfl,_⟩
 ·exact⟨0,k.tg,ak [] (b_ k).c,rfl,by simpa using S.dup kp rfl⟩
 ·refine⟨b,T,tail,?_,?_⟩
  ·cases aA n 0<;>rfl
  ·rw[<-hg];exact S.mq
def Ox {f n:Nat} {M:aj->LM fr} {L:List (bK (Gh fr))} (hL:aH prog gS L)
 (h:∀(u:aj) (ar:List V) (k:LK) (s:Sd.ah) (F:ba fr (a9 k s)) (Kb:Js fr k),bu 0 ar=af->s.c.p.queue=k.most->M u ar k s F Kb->br (bM prog gS L) n f (.ptr 2 0::ar) (du k s) [a_ k s F] (uZ k s λs' F'=>Di k s' Kb)):yT f M:=by
 intro u ar k s F Kb a b R0 ms w0 w h0 hq hM S;generalize hR:cw u++R0=R at S⊢;have hg:Gl gS (cQ a b):=by
  intro g i di;unfold gS at di;split at di
  ·obtain rfl:=cG di;exact⟨sP,rfl⟩
  ·obtain rfl:=cG di;exact⟨sP,rfl⟩
  ·cases di
 refine(eZ hL.T hL.Q n (C:=bM prog gS L) (ids:=cQ a b) (bl:=du k s) (ch:=[a_ k s F]) (R:=R) (ms:=ms) (w0:=w0) (w:=w) hg rfl (by
  have e:au [a_ k s F] R=F.B++R:=rfl;rw[e];exact S) (h u ar k s F Kb h0 hq hM)).mono ?_
 rintro v w' ⟨x,more,bl',ch',rfl,h1,S',s',F',rfl,hb,rfl,hT⟩;have hl4:(du k s').length=4:=rfl;have pF:bl'=du k s'++bl'.drop 4:=by rw[<-hb,jH]
 rw[pF]at S';have e2:lits (cQ a b++more) (cQ a b++more) (du k s'++bl'.drop 4)=lits (cQ a b) (cQ a b) (du k s')++lits (cQ a b++more) more (bl'.drop 4):=by
  rw[fu _ _ _ _ (by rw[hl4];rfl)];rw[fw (ids:=cQ a b) (more:=more) (cQ a b) (du k s') rfl]
 rw[e2]at S';obtain⟨F0,v1,v2,hB⟩:=atv F';have e3:au [a_ k s' F'] R=F'.Br++(F'.Bs++(F'.Bf++(F'.Bq++F'.Bk)))++R:=rfl;rw[e3]at S';have fE:du k (eU s')=du k s':=rfl;have S1:St ms w0 (F'.Br++(F'.Bs++(lits (cQ a b) (cQ a b) (du k (eU s'))++(F0.B++(F'.Bf++R))))) w':=by
  rw[fE,hB];have S2:St ms w0 (lits (cQ a b) (cQ a b) (du k s')++(F'.Br++(F'.Bs++(F'.Bf++(F'.Bq++F'.Bk)))++R)) w':=by
   refine S'.sub ?_;simp only[bW];exact mD (kG _ _) _
  exact S2.perm (dR λf=>by simp only[dZ];omega)
 have kp:(⟨0,ag,.cells (ak [] (b_ k).c).toArray k.tg (0,0)⟩:ao)∈lits (cQ a b) (cQ a b) (du k (eU s')):=by
  have:aC (cQ a b) 0 (b_ k)=aC [] 0 (b_ k):=jz (AE k);show _∈aC (cQ a b) 0 (b_ k)::_;rw[this];exact vi
 obtain⟨fv,hso,Ht⟩:=atu F'.hf;have S2:=S1.perm (bs':=F'.Bs++(F'.Br++(lits (cQ a b) (cQ a b) (du k (eU s'))++(F0.B++(F'.Bf++R))))) (dR λf=>by simp only[dZ];omega);obtain⟨i1,t1,u1,q1,S3⟩:=Jx (k:=k) F'.hs S2 (by simp[kp]) hso;have S3':St ms w0 (⟨i1,ag,.cells ((bo s'.bw.length).flatMap (kE s'.bw fv)++u1).toArray t1 (0,0)⟩::(F'.Br++(lits (cQ a b) (cQ a b) (du k (eU s'))++(F0.B++(F'.Bf++R))))) w':=S3;have S4:=S3'.perm (bs':=F'.Br++(⟨i1,ag,.cells ((bo s'.bw.length).flatMap (kE s'.bw fv)++u1).toArray t1 (0,0)⟩::(lits (cQ a b) (cQ a b) (du k (eU s'))++(F0.B++(F'.Bf++R))))) (dR λf=>by simp only[dZ,j5];omega);obtain⟨i2,t2,u2,q2,S5⟩:=Jx (k:=k) F'.hr S4 (by simp[kp]) (aew s'.aV).symm
 let r:TR:=⟨F'.xs,F'.cs,t1,u1,fv,F'.xr,F'.cr,t2,u2⟩
 refine⟨_,_,F0,F'.Bf,_,[i1,i2],rfl,?_,rfl,hT _ rfl r F'.Bf F0 v1 v2 Ht,?_⟩
 ·simp only[TR.v,WC,qu,ba.vs,ba.vr,den,ak,cl];have e1:wN F'.xs (a9 k s').bw.length F'.cs=_:=q1;have e2:wN F'.xr (a9 k s').aV.length F'.cr=_:=q2;rw[e1,e2];rfl
 ·have e1:lits [i1,i2] [i1,i2] [r.sB s',r.rB s']=[⟨i1,ag,.cells ((bo s'.bw.length).flatMap (kE s'.bw fv)++u1).toArray t1 (0,0)⟩,⟨i2,ag,.cells ((bo s'.aV.length).flatMap (lv s'.aV)++u2).toArray t2 (0,0)⟩]:=by
   simp only[lits,aC,TR.rB,TR.sB,Jw,r];rfl
  rw[e1];have S6:St ms w0 (⟨i2,ag,.cells ((bo s'.aV.length).flatMap (lv s'.aV)++u2).toArray t2 (0,0)⟩::(⟨i1,ag,.cells ((bo s'.bw.length).flatMap (kE s'.bw fv)++u1).toArray t1 (0,0)⟩::(lits (cQ a b) (cQ a b) (du k (eU s'))++(F0.B++(F'.Bf++R))))) w':=S5;refine S6.perm ?_;exact dR λf=>by simp only[dZ,j5,oc];omega
structure eV (k:LK) (s:Sd.ah):Prop where
 i:Sd.Inv s.c
 x:Sd.Ext s.c
 key:∀i,i<4->1<=k.kn i/\k.kn i<=64
 ke:∀i,i<4->s.c.p.k i=(k.kn i,k.kf i)
 e1:s.bw=[]
 e2:s.aV=[]
def eV.rm {k:LK} {s:Sd.ah} (h:eV k s) (n:Nat) (hn:n<=1000):Rm s n:=⟨by rw[h.e1];simpa using hn,by rw[h.e2];simpa using hn⟩
def eV.tb {k:LK} {s:Sd.ah} (h:eV k s):TB s.c.t:=⟨h.i.tok.aF,h.i.lR⟩
def eV.tk {k:LK} {s:Sd.ah} (h:eV k s):TkP s where
 c:=⟨h.i.p,h.tb,h.x.t.oa.1,h.x.t.oa.2,h.x.t.la.1,h.x.t.la.2,by rcases h.i.tok.offer with e|e<;>omega,
  λa ha=>by
   obtain⟨_,h1,h2,_,_,h3,h4,h5⟩:=h.i.q.each a ha;have:=h.i.p.ask;exact⟨⟨oM,oM⟩,⟨oM,oM⟩,⟨oM,oM⟩⟩,
  ⟨h.x.pt.bh.1,h.x.pt.bh.2.1,h.x.pt.bh.2.2.1,h.x.pt.bh.2.2.2,h.x.pt.now.1,h.x.pt.now.2.1,h.x.pt.now.2.2.1,h.x.pt.now.2.2.2⟩⟩
 r:=h.rm 28 dC
 h:=h.x.aq.hi
 b:=⟨h.x.aq.st,h.x.aq.ss 0,h.x.aq.ss 1,h.x.aq.ss 2⟩
def WD (C:Sd.aL):LM fr:=λar k s F K=>match ar with
 |[]=>(eV k s/\cj=F.vs/\cj=F.vr)/\Di k (s.tick C) K
 |_=>False
def WE (C:Sd.aL):LM fr:=λar k s F K=>match ar with
 |[.bool b]=>(eV k s/\cj=F.vs/\cj=F.vr)/\Di k (s.lC C b) K
 |_=>False
def WG (C:Sd.aL):LM fr:=λar k s F K=>match ar with
 |[.agg xl]=>(match E3 xl with
  |some x=>(eV k s/\cj=F.vs/\cj=F.vr)/\Di k (s.ig C x) K
  |none=>False)
 |_=>False
def yU (C:Sd.aL) (s:Sd.ah) (l code:Int) (n:Nat) (f:Sd.ax):Sd.ah:=if 1<=l/\l<=3 then s.item C l code n f else s
def aex (C:Sd.aL):LM fr:=λar k s F K=>match ar with
 |[.int .i64 l,.agg [.int .i64 code,.raw vp]]=>(eV k s/\cj=F.vs/\cj=F.vr/\vp=fa k/\k.pn<=58/\By k.pf)/\Di k (yU C s l code k.pn k.pf) K
 |_=>False
def Oy {k:LK} {s:Sd.ah} {F:ba fr (a9 k s)} (hq:s.c.p.queue=k.most) (h1:cj=F.vs) (h2:cj=F.vr):Jk k s F:=⟨h1,h2,rfl,rfl,rfl,rfl,rfl,hq⟩
section
variable(k:LK) (s:Sd.ah) (F:ba fr (a9 k s)) (Kb:(s':Sd.ah)->ba fr (a9 k s')->Prop)
def atw (C:Sd.aL):br (bM prog gS (LC fr C)) 60 35 [.ptr 2 0] (du k s) [a_ k s F] (uZ k s Kb)=uZ k s Kb (.agg (qu s cj cj)) (du k s) [a_ k s F]:=kR
end
end Go.Proofs.YtddcipamdggcnaaGreatDoor
namespace Go.Proofs.YtddcipamdggcnaaGreatDoor
section
open Go Go.RowKit Go.BigFrame Sx Vx
variable{fr:Sd.aO->Nat×Sd.ax}
section
variable(ht:Body (fr:=fr) 124 dt)
include ht
def atx:yT (fr:=fr) 58 (λ_=>WD (aP aY)):=by
 refine Ox (n:=60) (asK ht) ?_;intro u ar k s F Kb h0 hq hM;unfold WD at hM;split at hM
 ·rw[asO];exact⟨Oy hq hM.1.2.1 hM.1.2.2,mY (M:=FA (aP aY)) ⟨hM.1.1.tk,λF'=>⟨_,F',rfl,rfl,rfl,hM.2⟩⟩⟩
 ·exact hM.elim
def aty:yT (fr:=fr) 57 (λ_=>WE (aP aY)):=by
 refine Ox (n:=60) (asM ht) ?_;intro u ar k s F Kb h0 hq hM;unfold WE at hM;split at hM
 ·rename_i b;rw[asP];exact⟨Oy hq hM.1.2.1 hM.1.2.2,mY (M:=Fo (aP aY)) ⟨⟨hM.1.1.rm 8 dC,hM.1.1.tb⟩,λF'=>⟨_,F',rfl,rfl,rfl,hM.2⟩⟩⟩
 ·exact hM.elim
def atz:yT (fr:=fr) 56 (λ_=>WG (aP aY)):=by
 refine Ox (n:=60) (asL ht) ?_;intro u ar k s F Kb h0 hq hM;unfold WG at hM;split at hM
 ·rename_i xl;split at hM
  ·rename_i x hx;obtain rfl:=M0 hx;rw[asQ];have hb:bV s.c.samples:=⟨by have:=hM.1.1.i.samples;omega,by have:=hM.1.1.i.samples;omega⟩;refine⟨Oy hq hM.1.2.1 hM.1.2.2,mY (M:=Fl (aP aY)) ?_⟩;show(IV s/\bV s.c.samples/\bV s.c.beyond)/\_;exact⟨⟨⟨hM.1.1.rm 8 dC,hM.1.1.i.p,hM.1.1.tb⟩,hb,hM.1.1.x.be⟩,λF'=>⟨_,F',rfl,rfl,rfl,hM.2⟩⟩
  ·exact hM.elim
 ·exact hM.elim
def atA:yT (fr:=fr) 55 (λ_=>aex (aP aY)):=by
 refine Ox (n:=60) (asN ht) ?_;intro u ar k s F Kb h0 hq hM;unfold aex at hM;split at hM
 ·rename_i l code vp;have hC:=hM.1.1;have v1:=hM.1.2.1;have v2:=hM.1.2.2.1;have p1:=hM.1.2.2.2.2.1;have p2:=hM.1.2.2.2.2.2;have hT:=hM.2;rw[hM.1.2.2.2.1,asR];unfold aea;have il:¬(1<=l/\l<=3)->uZ k s (λs' F'=>Di k s' Kb) (.agg (qu s cj cj)) (du k s) [a_ k s F]:=λh=>⟨s,F,by rw[<-v1,<-v2],rfl,rfl,by unfold yU at hT;rw[if_neg h]at hT;exact hT⟩;refine aJ (λe1=>aJ (λe2=>?_) (λe2=>il (by simp at e1 e2;omega))) (λe1=>il (by simp at e1;omega));have hl:1<=l/\l<=3:=by simp at e1 e2;omega
  unfold yU at hT;rw[if_pos hl]at hT;have hd:∀i,i<3->(s.c.doors i).many<=9223372036854775807:=λi _=>by have:=hC.x.d i;omega
  exact⟨Oy hq v1 v2,mY (M:=Fx (aP aY)) ⟨⟨rfl,⟨hC.rm 8 dC,hC.i,hl,hd,hC.key,hC.ke,p1,p2⟩⟩,λF'=>⟨_,F',rfl,rfl,rfl,hT⟩⟩⟩
 ·exact hM.elim
end
def pJ (l:List Sd.Ask) (j:Nat):List ai:=[.int .i64 (l.getD j default).source]
def aey:∀(l:List Sd.Ask) (ids:List Nat),(bo l.length).flatMap (pJ l)=ak ids (u5 l)
 |[],_=>rfl
 |r::l,ids=>by
  rw[jf,tZ,List.flatMap_cons,List.flatMap_map];have e:(λj=>pJ (r::l) (Nat.succ j))=pJ l:=by funext j;rfl
  rw[e,aey l ids];rfl
def atC (k:LK) (s:Sd.ah) (F:ba fr (a9 k s)) (K:Js fr k):Prop:=
 ∀(x:Option aI) (c ty:Nat) (us:List ai),K (.agg (qx s (.eW 0 0 s.c.q.length c x))) s F [] [lx ty 1 s.c.q.length (pJ s.c.q) us]
def WH:LM fr:=λar k s F K=>match ar with
 |[]=>atC k s F K
 |_=>False
def atD (l:List Sd.Ask) (u:List ai):bY 0 [Dc l u]=af:=by
 have:∀l:List Sd.Ask,bu 0 (u5 l++[.rest u])=af:=by
  intro l;induction l with
  |nil=>rfl
  |cons a l ih=>simp only[u5,fm,bu,da,ih,Bool.and_self]
 simp only[bY,Dc,this,Bool.and_self]
def yV {Q:Prop} (hq:Q):∀(n j:Nat),n+j<=5->Oe n j Q
 |0,_,_=>hq
 |n+1,j,h=>⟨trivial,⟨oM,oM⟩,trivial,trivial,yV hq n (j+1) oM⟩
def atE (ht:Body (fr:=fr) 124 dt):yT (fr:=fr) 37 (λ_=>WH (fr:=fr)):=by
 intro u0 ar k s F Kb a b R0 ms w0 w h0 hq hM S;generalize hR:cw u0++R0=R at S⊢;unfold WH at hM;split at hM
 ·have hg:Gl gS (cQ a b):=by
   intro g i di;unfold gS at di;split at di
   ·obtain rfl:=cG di;exact⟨sP,rfl⟩
   ·obtain rfl:=cG di;exact⟨sP,rfl⟩
   ·cases di
  let K:VK (Gh fr):=λv bl ch=>ch=[a_ k s F]/\((s.c.q=[]/\v=.agg (qx s (.raw cj))/\bl=du k s)\/(s.c.q≠[]/\∃c u,v=.agg (qx s (.sl 4 0 s.c.q.length c))/\bl=du k s++[Dc s.c.q u]))
  have k0:s.c.q=[]->K (.agg (qx s (.raw cj))) (du k s) [a_ k s F]:=λe=>⟨rfl,.inl ⟨e,rfl,rfl⟩⟩;have k1:s.c.q≠[]->∀c u,K (.agg (qx s (.sl 4 0 s.c.q.length c))) (du k s++[Dc s.c.q u]) [a_ k s F]:=λe c u=>⟨rfl,.inr ⟨e,c,u,rfl,rfl⟩⟩;have cV:br (gy prog gS (L8 fr (aP aY)) (Ca prog) Ez) 60 37 [.ptr 2 0] (du k s) [a_ k s F] (bA 4 K):=by
   rw[asU];refine⟨rfl,λe x c=>yV (k0 e) 5 0 dC,λa1 e c t c1 u1 _ _=>?_,λa1 b1 e c t c1 u1 h1 h2=>?_,λa1 b1 d1 e c t c1 u1 h1 h2=>?_⟩
   ·have:=k1 (by rw[e];simp) c1 u1;rw[e]at this;exact yV this 5 0 dC
   ·have hk:=k1 (by rw[e];simp);rw[e]at hk;exact⟨⟨h1,h2⟩,λc2 u2 _ _=>yV (hk c2 u2) 5 0 dC,λc2 u2 _ _=>yV (hk c2 u2) 5 0 dC⟩
   ·have hk:=k1 (by rw[e];simp);rw[e]at hk;exact⟨⟨h1,h2⟩,λc2 u2 g1 g2=>⟨⟨g1,g2⟩,λc3 u3 _ _=>yV (hk c3 u3) 5 0 dC,λc3 u3 _ _=>yV (hk c3 u3) 5 0 dC⟩,λc2 u2 g1 g2=>⟨⟨g1,g2⟩,λc3 u3 _ _=>yV (hk c3 u3) 5 0 dC,λc3 u3 _ _=>yV (hk c3 u3) 5 0 dC⟩⟩
  refine(eZ (C3 aY ht).T (C3 aY ht).Q 60 (C:=gy prog gS (L8 fr (aP aY)) (Ca prog) Ez) (ids:=cQ a b) (bl:=du k s) (ch:=[a_ k s F]) (R:=R) (ms:=ms) (w0:=w0) (w:=w) hg rfl (by
   have e:au [a_ k s F] R=F.B++R:=rfl;rw[e];exact S) cV).mono ?_
  rintro v w' ⟨x,more,bl',ch',rfl,h1,S',hK⟩;obtain⟨v2,cn,bl2,hv,cX,S2,rfl,lb⟩:=iP (n0:=4) h1 sP S' hK;have ht4:(cQ a b++more).take 4=cQ a b:=rfl;rw[ht4]at hv cX S2;have eR:au [a_ k s F] R=F.B++R:=rfl;rw[eR]at S2;rw[hv];have iL:∀(i ty:Nat) (us:List ai),lits [i] [i] [lx ty 1 s.c.q.length (pJ s.c.q) us]=[⟨i,ag,.cells ((bo s.c.q.length).flatMap (pJ s.c.q)++us).toArray ty (0,0)⟩]:=λi ty us=>by
   simp only[lits,aC,Jw];rfl
  rcases lb with⟨e,rfl,rfl⟩|⟨e,c,u,rfl,rfl⟩
  ·obtain rfl:cn=[]:=lz (by simpa[du]using cX);refine⟨_,s,F,[],_,[0],rfl,?_,rfl,hM ae 0 k.tg (ak [] (b_ k).c),?_⟩
   ·simp only[qx,nN,yq,den,ak,cl,cT,fm,fQ,e];rfl
   ·simp only[cT]at S2;have S3:=S2.dup (b:=aC [0] 0 (b_ k)) (by
     refine pS _ ?_;rw[jz (ids':=cQ a b) (AE k)];exact vi) rfl
    rw[iL];have e2:(⟨0,ag,.cells ((bo s.c.q.length).flatMap (pJ s.c.q)++ak [] (b_ k).c).toArray k.tg (0,0)⟩:ao)=aC [0] 0 (b_ k):=by
     rw[e,jz (ids':=[]) (AE k)];rfl
    rw[e2];exact S3.perm kH.symm
  ·match cn,cX with
   |[x],_=>
    refine⟨_,s,F,[],_,[x],rfl,?_,rfl,hM ae c 3 u,?_⟩
    ·have hn:aA s.c.q.length 0=ag:=by
      cases hb:aA s.c.q.length 0 with
      |false=>rfl
      |true=>exact absurd (lz (ck hb)) e
     have hg4:(cQ a b++[x]).getD 4 0=x:=rfl;have Oz:([x]:List Nat).getD 0 0=x:=rfl;simp only[qx,nN,yq,den,ak,cl,cT,fm,fQ,hn,cond_false,hg4,Oz];rfl
    ·have e2:lits (cQ a b++[x]) (cQ a b++[x]) (du k s++[Dc s.c.q u])=lits (cQ a b) (cQ a b) (du k s)++[⟨x,af,.cells ((bo s.c.q.length).flatMap (pJ s.c.q)++u).toArray 3 (0,0)⟩]:=by
      rw[fu _ _ _ _ rfl,fw (ids:=cQ a b) (more:=[x]) (cQ a b) (du k s) rfl,Dh (ids':=[x]) [x] _ (atD _ _)];simp only[lits,aC,Dc,jK,ak,cl,cT,aey s.c.q [x]]
     rw[e2]at S2;have S3:=(S2.perm (bs':=⟨x,af,.cells ((bo s.c.q.length).flatMap (pJ s.c.q)++u).toArray 3 (0,0)⟩::(lits (cQ a b) (cQ a b) (du k s)++(F.B++R))) (dR λf=>by simp only[dZ,j5,oc];omega)).mq;rw[iL];exact S3.perm (dR λf=>by simp only[dZ,j5,oc];omega)
   |[],h=>simp[du]at h
   |_::_::_,h=>simp[du]at h
 ·exact hM.elim
def atF (d:Fd) (h:(∃i,i<4/\d=fX i)\/∀v m,(d.set v m).x=m.x):∀v,d.low<=v->v<=d.high->∀m:Sd.bQ,Sd.kr m.x->Sd.kr (d.set v m).x:=by
 intro v h1 h2 m hm;rcases h with⟨i,hi,rfl⟩|h
 ·have hv:Sd.Bd v:=⟨by have:(-32768:Int)<=v:=h1;omega,by have:v<=(32767:Int):=h2;omega⟩;have:i=0\/i=1\/i=2\/i=3:=oM;rcases this with rfl|rfl|rfl|rfl
  ·exact⟨hv,hm.2.1,hm.2.2.1,hm.2.2.2⟩
  ·exact⟨hm.1,hv,hm.2.2.1,hm.2.2.2⟩
  ·exact⟨hm.1,hm.2.1,hv,hm.2.2.2⟩
  ·exact⟨hm.1,hm.2.1,hm.2.2.1,hv⟩
 ·rw[h];exact hm
def atG {n:Nat} {f:Nat->Int} {m:Sd.bQ} (h:aY n f=aa m):Sd.kr m.x:=by
 unfold aY at h;split at h
 ·cases h
 split at h
 ·rename_i l hl;refine NZ (λm=>Sd.kr m.x) l 1 _ m ?_ Sd.FF h;intro d hd;refine atF d ?_;have fx:∀i,i<4->(∃j,j<4/\fX i=fX j)\/∀v m,((fX i).set v m).x=m.x:=λi hi=>.inl ⟨i,hi,rfl⟩;have b0:=fx 0 dC;have b1:=fx 1 dC;have b2:=fx 2 dC;have b3:=fx 3 dC
  have fo:∀d:Fd,(∀v m,(d.set v m).x=m.x)->(∃i,i<4/\d=fX i)\/∀v m,(d.set v m).x=m.x:=λd h=>.inr h;have a1:=fo CD λ_ _=>rfl;have a2:=fo jS λ_ _=>rfl;have a3:=fo E5 λ_ _=>rfl;have a4:=fo rN λ_ _=>rfl;have a5:=fo E6 λ_ _=>rfl;have a6:=fo vY λ_ _=>rfl;have a7:=fo E7 λ_ _=>rfl
  unfold uV at hl
  repeat' split at hl
  all_goals first|(cases hl;done)|(obtain rfl:=cG hl;simp at hd;rcases hd with rfl|rfl|rfl|rfl|rfl|rfl|rfl<;>assumption)|(obtain rfl:=cG hl;simp at hd;rcases hd with rfl|rfl|rfl|rfl|rfl|rfl<;>assumption)|(obtain rfl:=cG hl;simp at hd;rcases hd with rfl|rfl|rfl|rfl|rfl<;>assumption)|(obtain rfl:=cG hl;simp at hd;rcases hd with rfl|rfl|rfl|rfl<;>assumption)|(obtain rfl:=cG hl;simp at hd;rcases hd with rfl|rfl|rfl<;>assumption)|(obtain rfl:=cG hl;simp at hd;rcases hd with rfl|rfl<;>assumption)|(obtain rfl:=cG hl;simp at hd;subst hd;assumption)|(obtain rfl:=cG hl;simp at hd)
 ·cases h
section
variable{k:LK} {s:Sd.ah} {b:Prop}
def Jy {C:Sd.aL} {s':Sd.ah} {kind l:Int} (e:Sd.fW C b s s' kind l):s'.c.p=s.c.p:=by
 rcases e.Au with h|⟨how,h,_⟩
 ·exact h.p
 ·exact h.p
def eV.of {C:Sd.aL} {s':Sd.ah} {kind l:Int} (h:eV k s) (e:Sd.fW C b s s' kind l) (x:Sd.Ext s'.c):eV k (eU s'):=⟨e.1,x,h.key,λi hi=>by show s'.c.p.k i=_;rw[Jy e];exact h.ke i hi,rfl,rfl⟩
def eV.tick (h:eV k s):eV k (eU (s.tick (aP aY))):=h.of (b:=False) (Sd.Ww h.i).1 (Sd.att h.i h.x)
def eV.lC (h:eV k s) (x:Bool):eV k (eU (s.lC (aP aY) x)):=h.of (b:=False) (Sd.Ws h.i) (Sd.atn h.x)
def eV.ig (h:eV k s) {x:Sd.ft} (hx:Sd.kr x.x):eV k (eU (s.ig (aP aY) x)):=h.of (b:=False) (Sd.Wq h.i) (Sd.atl hx h.i.p h.x)
def eV.item (h:eV k s) (l code:Int) (n:Nat) (f:Sd.ax):eV k (eU (yU (aP aY) s l code n f)):=by
 unfold yU;split
 ·rename_i hl;exact h.of (b:=False) (Sd.T5 Db h.i hl (λe=>e.elim)) (Sd.atk (λ_ _ _ hm=>atG hm) hl h.i.p h.x)
 ·exact⟨h.i,h.x,h.key,h.ke,rfl,rfl⟩
end
def dB (u:aj) (a:Option aI):Sd.ax:=λj=>match a with
 |some x=>(match u.cell? (x.add j)with|some (.int _ v)=>if 0<=v/\v<=255 then v else 0|_=>0)
 |none=>0
def atH (u:aj) (a:Option aI):By (dB u a):=by
 intro j;unfold dB;split
 ·split
  ·split
   ·assumption
   ·exact⟨dC,dC⟩
  ·exact⟨dC,dC⟩
 ·exact⟨dC,dC⟩
def atI {u:aj} {a:Option aI} {n c:Nat} {f:Nat->Int} (h:jc u a n c f) (hb:∀j,j<n->0<=f j/\f j<=255):jc u a n c (dB u a):=by
 refine⟨h.1,h.2.1,λx e j hj=>?_⟩;have hc:=h.2.2 x e j hj;have:dB u a j=f j:=by
  unfold dB;rw[e];simp only[hc];rw[if_pos (hb j hj)]
 rw[this];exact hc
def aez:Sd.ax:=λ_=>0
def gL (n d:Nat) (f:Sd.ax):VB:=⟨af,⟨5,(0,0)⟩,[.cv .u8 n f,.cv .u8 d aez]⟩
def Jz (ids:List Nat) (n d:Nat) (f:Sd.ax):(ak ids (gL n d f).c).toArray=bE n f (n+d):=by
 have e:(bo d).map (λj=>fI .u8 (aez j))=n_ d (.int .u8 0):=by
  show(bo d).map (λ_=>fI .u8 0)=_;rw[List.map_const'];simp
 simp only[gL,ak,cl,bE,cI,cT,e];rw[show n+d-n=d by omega]
def atJ {u w:aj} {B:List ao} {ms:List Nat} {w0:aj} (S:St ms w0 B w) (h:∀y∈cw u,y∈B) {x:aI} {v:ai} (hc:u.cell? x=aa v):w.cell? x=aa v:=by
 unfold zl at hc⊢;split at hc
 ·rename_i cs ty fr' hb;have:=S.at' (h _ (Mp hb));simp only at this;rw[this];exact hc
 ·cases hc
def WJ {u w:aj} {B:List ao} {ms:List Nat} {w0:aj} (S:St ms w0 B w) (h:∀y∈cw u,y∈B) {a:Option aI} {n c:Nat} {f:Nat->Int} (hk:jc u a n c f):jc w a n c f:=
 ⟨hk.1,hk.2.1,λx e j hj=>atJ S h (hk.2.2 x e j hj)⟩
def OA {w:aj} {m:Nat} {g:Nat->Int} {x:Option aI} {t tx ty:aM} {xv:ai} (hs:Src prog 1 tx xv m (cI m g) w) (ht:prog.underlying t=aa (.slice 5)) (hm:0<m) (hb:m<=140737488355328) (x:aI):
 ∃c' w',(nh #[t,tx] ty #[.slice (aa x) 0 0,xv]).run prog w=.ok (.slice (aa ⟨w.heap.size,0,ae⟩) m c') w'/\Ch [] w w'/\m<=c'/\w'.heap[w.heap.size]?=aa (.cells (bE m g c') 5 (0,0)):=by
 have hi:(prog.info? 5).map (λi=>(i.zero.map (·.cells),i.size,i.bytes))=aa (aa #[.int .u8 0],1,1):=kR;obtain⟨i,cu,hi⟩:=iX.1 hi;simp only[bC]at hi;obtain⟨hz,dc,j6⟩:=hi;obtain⟨z0,nv,pV⟩:=iX.1 hz;have ie:Src prog i.size tx xv m (cI m g) w:=by rw[dc];exact hs
 have hold:(Builtin.firstCells i.size 0 (.slice (aa x) 0 0)).run prog w.drew=.ok (([]:List ai).toArray) w.drew:=
  run_firstCells_some (P:=prog) w.drew i.size 0 x 0 0 [] (by rw[Nat.zero_mul];rfl) (λj v hj=>nomatch hj)
 have bT:=run_append_grow_src (P:=prog) w t tx ty 5 i z0 ht cu nv (aa x) 0 0 [] hold xv m (cI m g) ie oM oM (by rw[j6];exact growslice_fits oM oM);have fh:=grownCap_ge w (0+m) 0 5;rw[dS]at bT fh;refine⟨_,_,bT,((Ch.refl [] w).drew).trans (Ch.alloc [] w.drew _) (λx hx=>.inl hx),fh,?_⟩;have:=n6 w.drew (.cells (([]++cI m g).toArray++qM z0.cells (grownCap w m 0 5-m)) 5);refine Eq.trans this ?_;congr 2;apply fD;rw[pV,Gt,Qu];rfl
def WK {w:aj} {g:Nat->Int} {t tx ty:aM} {xv:ai} (hs:Src prog 1 tx xv 0 (cI 0 g) w) (ht:prog.underlying t=aa (.slice 5)) (x:aI):
 (nh #[t,tx] ty #[.slice (aa x) 0 0,xv]).run prog w=.ok (.slice (aa x) 0 0) w:=by
 have hi:(prog.info? 5).map (λi=>(i.zero.map (·.cells),i.size,i.bytes))=aa (aa #[.int .u8 0],1,1):=kR;obtain⟨i,cu,hi⟩:=iX.1 hi;simp only[bC]at hi;obtain⟨hz,dc,j6⟩:=hi;exact run_append_nothing (P:=prog) w t tx ty 5 i ht cu (aa x) 0 0 (cY _) xv (by rw[dc];exact hs)
end
end Go.Proofs.YtddcipamdggcnaaGreatDoor
namespace Sd
structure Fd where
 kind:Int
 size:Nat
 code:Int
 n:Nat
 f:ax
def Dj:ax:=λ_=>0
def jA (f:ax):Nat->Nat->Nat
 |0,j=>j
 |n+1,j=>if f j=165 then j else jA f n (j+1)
def JA (f:ax):∀n j,j<=jA f n j/\jA f n j<=j+n
 |0,j=>⟨cY _,cY _⟩
 |n+1,j=>by
  unfold jA;split
  ·exact⟨cY _,oM⟩
  ·have:=JA f n (j+1);omega
def yW:Fd:=⟨0,0,0,0,Dj⟩
def AR (code:Int):Fd:=⟨3,1,code,0,Dj⟩
def eg (crc:ax->Nat->Int) (n:Nat) (f:ax):Fd:=
 if n=0 then yW
 else if f 0≠165 then⟨1,jA f n 0,0,0,Dj⟩
 else if n=1 then yW
 else if f 1≠1 then AR 10
 else if n=2 then yW
 else if 32<f 2 then AR 11
 else if n<5+(f 2).toNat then yW
 else if crc (λj=>f (1+j)) (2+(f 2).toNat)≠f (3+(f 2).toNat)*256+f (4+(f 2).toNat)then AR 12
 else⟨2,5+(f 2).toNat,0,(f 2).toNat,λj=>f (3+j)⟩
structure It where
 code:Int
 n:Nat
 f:ax
def u7 (d:Fd):List It:=if d.kind=2 then[⟨0,d.n,d.f⟩]else if d.kind=3 then[⟨d.code,0,Dj⟩]else[]
def iW (crc:ax->Nat->Int):Nat->Nat->ax->List It×Nat×ax
 |0,n,f=>([],n,f)
 |k+1,n,f=>
  let d:=eg crc n f
  if d.kind=0 then([],n,f)
  else
   let r:=iW crc k (n-d.size) (λj=>f (d.size+j))
   (u7 d++r.1,r.2)
def oI (n:Nat) (f g:ax):ax:=λj=>if j<n then f j else g (j-n)
abbrev Rest:=Nat×ax
def sd (crc:ax->Nat->Int) (r:Rest) (n:Nat) (f:ax):List It×Rest:=iW crc (r.1+n) (r.1+n) (oI r.1 r.2 f)
section
variable{crc:ax->Nat->Int}
def OB (n:Nat) (f:ax) (h:(eg crc n f).kind≠0) (h0:∀j,0<=f j):1<=(eg crc n f).size/\(eg crc n f).size<=n:=by
 revert h;unfold eg;split
 ·intro h;exact absurd rfl h
 ·rename_i hn;split
  ·rename_i h1;intro _;have h2:=JA f n 0;refine⟨?_,by simpa using h2.2⟩;show 1<=jA f n 0;obtain⟨m,rfl⟩:=Nat.exists_eq_succ_of_ne_zero hn;unfold jA;rw[if_neg h1];exact(JA f m 1).1
  ·split
   ·intro h;exact absurd rfl h
   ·split
    ·intro _;exact⟨cY _,by show 1<=n;omega⟩
    ·split
     ·intro h;exact absurd rfl h
     ·split
      ·intro _;exact⟨cY _,by show 1<=n;omega⟩
      ·split
       ·intro h;exact absurd rfl h
       ·split
        ·intro _;exact⟨cY _,by show 1<=n;omega⟩
        ·intro _;exact⟨by show 1<=5+_;omega,by show 5+_<=n;omega⟩
def atK (n:Nat) (f:ax):(eg crc n f).n<=32:=by
 unfold eg
 repeat' split
 all_goals first|exact oQ _|(show(f 2).toNat<=32;omega)
def aeA:∀(k n:Nat) (f:ax),n<=k->(∀j,0<=f j)->(eg crc (iW crc k n f).2.1 (iW crc k n f).2.2).kind=0
 |0,n,f,h,_=>by
  obtain rfl:n=0:=oM;rfl
 |k+1,n,f,h,h0=>by
  unfold iW;dsimp only;split
  ·rename_i hk;exact hk
  ·rename_i hk;have:=OB n f hk h0;exact aeA k _ _ oM λj=>h0 _
def aeB {k n:Nat} {f:ax} (h:(eg crc n f).kind=0):iW crc k n f=([],n,f):=by
 cases k with
 |zero=>rfl
 |succ k=>unfold iW;dsimp only;rw[if_pos h]
end
end Sd
namespace Go.Proofs.YtddcipamdggcnaaGreatDoor
section
open Go Go.RowKit Go.BigFrame Sx Vx
def u9 (n:Nat) (f:Nat->Int):Int:=bif aA (Sd.jA f n 0) n then-1 else((Sd.jA f n 0:Nat):Int)
def aeC {f:Nat->Int}:∀(n j:Nat),(∀i,i<n->0<=f (j+i)/\f (j+i)<=255)->YJ ((bo n).map λi=>KM (f (j+i)).toNat) 165=if Sd.jA f n j=j+n then-1 else((Sd.jA f n j:Nat):Int)-j
 |0,j,_=>by simp[YJ,Sd.jA]
 |n+1,j,h=>by
  rw[tZ,gb,l5];have e:((λi=>KM (f (j+i)).toNat)∘Nat.succ)=λi=>KM (f ((j+1)+i)).toNat:=by
   funext i;simp only[Function.comp_apply];rw[show j+Nat.succ i=j+1+i by omega]
  rw[e];unfold YJ Sd.jA;have h0:=h 0 oM;rw[lA]at h0;have hq:(KM (f (j+0)).toNat==165)=decide (f j=165):=by
   rw[lA];by_cases he:f j=165
   ·rw[he];rfl
   ·rw[decide_eq_false he];refine beq_eq_false_iff_ne.2 λhx=>he ?_;have h1:=congrArg UInt8.toNat hx;rw[UInt8.toNat_ofNat']at h1;have h2:(165:UInt8).toNat=165:=rfl;rw[h2]at h1;omega
  rw[hq];by_cases he:f j=165
  ·rw[if_pos (by simp[he]),if_pos he,if_neg oM];omega
  ·rw[if_neg (by simp[he]),if_neg he];have hi:=aeC n (j+1) λi hi=>by have:=h (i+1) oM;rwa [show j+(i+1)=j+1+i by omega]at this
   have hle:=Sd.JA f n (j+1);by_cases hx:Sd.jA f n (j+1)=j+1+n
   ·rw[if_pos hx]at hi;have uz:Sd.jA f n (j+1)=j+(n+1):=oM;rw[hi,if_pos uz];rfl
   ·rw[if_neg hx]at hi;have uz:¬Sd.jA f n (j+1)=j+(n+1):=oM;have fh:((j+1:Nat):Int)<=((Sd.jA f n (j+1):Nat):Int):=by have:=hle.1;omega
    have hc:¬(((Sd.jA f n (j+1):Nat):Int)-((j+1:Nat):Int)==-1)=af:=by rw[beq_iff_eq];omega
    rw[hi,if_neg hc,if_neg uz];omega
def atL {n:Nat} {f:Nat->Int} (h:∀i,i<n->0<=f i/\f i<=255):YJ (Lib.bytesOf ((bo n).map f)) 165=u9 n f:=by
 have:=aeC (f:=f) n 0 (λi hi=>by rw[dS];exact h i hi);have e0:(λi=>KM (f (0+i)).toNat)=λi=>KM (f i).toNat:=by funext i;rw[dS]
 rw[e0,dS]at this;unfold Lib.bytesOf;rw[l5];refine Eq.trans this ?_;rw[show((0:Nat):Int)=0 from rfl,Int.sub_zero];unfold u9;by_cases hx:Sd.jA f n 0=n
 ·rw[if_pos hx,hx,tW];rfl
 ·rw[if_neg hx];cases hb:aA (Sd.jA f n 0) n with
  |true=>exact absurd (ck hb) hx
  |false=>rfl
def ix_ (b o n c:Nat) (f:Nat->Int) (w:aj) (hB:cA w b o n f) (hf:∀i,i<n->0<=f i/\f i<=255):
 aX prog 159 #[.slice (aa ⟨b,o,ae⟩) n c,.int .u8 165] w λv w1=>v=.int .i64 (u9 n f)/\Ch [] w w1:=by
 have S0:=St.nil [] w;refine iZ Tryz.func159 rfl ?_;refine aR (aZ ?_);refine fp ?_;refine aT (aQ (aR (aZ ?_)));refine dh ?_;refine dh ?_;refine av (.int .i64 (u9 n f)) ?_ kR ?_
 ·refine fp ?_;refine aT (aQ (gC ?_));refine gD rfl (fR [.tmp 4] [.int .i64 (u9 n f)] (.int .i64 (u9 n f)) ⟨jw,trivial⟩) ?_;exact⟨rfl,S0.ch⟩
 ·have h:=Lib.run_indexByteSlice (P:=prog) (w:=w) b o n c ((bo n).map f) sP (λi hi=>by rw[hB i hi];simp[gd,hi]) 165;rw[show(165:Int).toNat.toUInt8=165 from rfl,atL hf]at h;have h2:=run_callFunc_extern (P:=prog) Tryz.func200 kR kR kR (e:=Extern.BytealgIndexByte.indexByte) kR #[.slice (aa ⟨b,o,ae⟩) n c,.int .u8 165] w;rw[h]at h2;exact Eq.trans (b:=(callFunc 200 #[.slice (aa ⟨b,o,ae⟩) n c,.int .u8 165]).run prog w) kR h2
def jV (N:Nat) (f:Nat->Int) (us:List ai):VB:=⟨ag,⟨5,(0,0)⟩,[.rest [],.arr .u8 N f,.rest us]⟩
def WM:QF:=⟨157,λargs bl=>match args with
 |[.sl i o n c]=>(match bl[i]?with
  |some ⟨_,_,[.rest [],.arr .u8 N f,.rest us]⟩=>aa ((o+n<=N/\n<=1000000),.int .u16 (b9 (λj=>f (o+j)) n))
  |_=>ae)
 |_=>ae⟩
def WN {ids:List Nat} {N:Nat} {f:Nat->Int} {us:List ai} {w:aj} {b:Nat} {ty:BT} (h:w.heap[b]?=aa (.cells (ak ids [.rest [],.arr .u8 N f,.rest us]).toArray ty.t ty.fz)) {o n:Nat} (hn:o+n<=N):cA w b o n (λj=>f (o+j)):=by
 intro j hj;rw[cell_of h];have e:ak ids [.rest [],.arr .u8 N f,.rest us]=((bo N).map λj=>fI .u8 (f j))++us:=by simp only[ak,cl,fQ,cT]
 rw[e,jX,gm (by simp;omega),jW,pQ oM];rfl
def atM (gl:Nat->Option Nat):WM.Ok prog gl:=by
 intro args bl p_ v_ h hp ids w _ hm;unfold WM at h;dsimp only at h;split at h
 ·rename_i i o n c;split at h
  ·rename_i wr ty N f us hb;simp only[aW,bC]at h;obtain⟨rfl,rfl⟩:=h;exact ab_ (ids.getD i 0) o n c (λj=>f (o+j)) hp.2 w (WN (hm.2 i _ hb) hp.1)
  ·cases h
 ·cases h
def WO:QF:=⟨159,λargs bl=>match args with
 |[.sl i o n c,.int .u8 165]=>(match bl[i]?with
  |some ⟨_,_,[.rest [],.arr .u8 N f,.rest us]⟩=>aa ((o+n<=N/\∀j,j<N->0<=f j/\f j<=255),.int .i64 (u9 n (λj=>f (o+j))))
  |_=>ae)
 |_=>ae⟩
def atN (gl:Nat->Option Nat):WO.Ok prog gl:=by
 intro args bl p_ v_ h hp ids w _ hm;unfold WO at h;dsimp only at h;split at h
 ·rename_i i o n c;split at h
  ·rename_i wr ty N f us hb;simp only[aW,bC]at h;obtain⟨rfl,rfl⟩:=h;exact ix_ (ids.getD i 0) o n c (λj=>f (o+j)) w (WN (hm.2 i _ hb) hp.1) (λj hj=>hp.2 (o+j) oM)
  ·cases h
 ·cases h
variable{fr:Sd.aO->Nat×Sd.ax}
def FI (k:LK) (x:Option aI) (n c:Nat) (f:Sd.ax):LK:={k with px:=x,pn:=n,pc:=c,pf:=f}
def Dk (k:LK):Prop:=k.px=ae/\k.pn=0/\k.pc=0
end
section
open Go Go.RowKit Go.BigFrame Sx Vx
variable{fr:Sd.aO->Nat×Sd.ax}
structure WQ where
 kind:Int
 link:Int
 code:Int
 x:Option aI
 n:Nat
 c:Nat
 s:Sd.ft
 bad:Bool
def aeD (C:Sd.aL) (u:aj) (s:Sd.ah) (o:WQ):Sd.ah:=
 if o.kind.tmod 4=1 then s.ig C o.s else if o.kind.tmod 4=2 then s.lC C o.bad else if o.kind.tmod 4=3 then s.tick C else yU C s o.link o.code (dp 40 o.n) (dB u o.x)
def OC (k:LK) (s:Sd.ah):Prop:=aa (b_ k)=aa (b_ k)/\aa (gK k)=aa (gK k)/\mX k 3 s=mX k 3 (bO s)/\s.c.p.cO=s.c.p.cO/\s.c.p.iM=s.c.p.iM/\s.c.p.queue=k.most
section
variable(C:Sd.aL) (k:LK) (s:Sd.ah) (F:ba fr (a9 k s)) (u:aj) (fB:List ao) (o:WQ) (X:VK (LG fr))
end
def eV.step {k:LK} {s:Sd.ah} (h:eV k s) (u:aj) (o:WQ) (hx:Sd.kr o.s.x):eV k (eU (aeD (aP aY) u s o)):=by
 unfold aeD;split
 ·exact h.ig hx
 split
 ·exact h.lC _
 split
 ·exact h.tick
 ·exact h.item _ _ _ _
end
section
open Go Go.RowKit Go.BigFrame Sx Vx
section
variable{G:Type} [Bl G]
def pick_run {C:Ctx Empty} {f n:Nat} {ids:List Nat} {bl:List VB} {ch:List G} {R:List ao} {ms:List Nat} {w0 w:aj} (hT:∀f c,C.T f=aa c->Sound C.P C.gl f c) (hQ:nG C) (hg:C.gl=cJ) (hl:ids.length=bl.length) (S:St ms w0 (lits ids ids bl++au ch R) w)
 (is:List Nat) (hn:is.Nodup) (bs:List VB) (hb:is.map (bl[·]?)=bs.map aa) (hw:bY 0 bs=af) {args args':List V} (cN:aE ids args=aE (is.map λi=>ids.getD i 0) args') {v0:V} (Gi:da 0 v0=af)
 (cV:br C n f args' bs [] (λv b _=>v=v0/\b.take bs.length=bs)):aX C.P f (aE ids args).toArray w λv w'=>v=den [] v0/\St ms w0 (lits ids ids bl++au ch R) w':=by
 have hlen:is.length=bs.length:=by have:=congrArg List.length hb;simpa using this
 have t_:∀(k i:Nat),is[k]?=aa i->∃b,bs[k]?=aa b/\bl[i]?=aa b:=by
  intro k i hk;have:=congrArg (λl=>l[k]?) hb;simp only[jW,hk,oO]at this;cases hbk:bs[k]?with
  |none=>rw[hbk]at this;simp at this
  |some b=>rw[hbk]at this;simp only[oO,aW]at this;exact⟨b,rfl,this⟩
 have cH:∀i∈is,i<bl.length:=by
  intro i hi;obtain⟨k,hk⟩:=DA hi;obtain⟨b,_,h2⟩:=t_ k i hk;exact lT h2
 obtain⟨r,hr,hp⟩:=Fb (bl:=bl) (ids:=ids) hl hn cH;have kl:=hp bl rfl;have Eg:∀(Ya:List Nat),(is.map λj=>aC ids (ids.getD j 0) (bl.getD j e_))=lits Ya (is.map λi=>ids.getD i 0) bs:=by
  intro Ya;clear hr hp kl cN cV cH;induction is generalizing bs with
  |nil=>simp[lits]
  |cons i is ih=>
   cases bs with
   |nil=>simp at hlen
   |cons b bs=>
    simp only[gb,List.cons.injEq]at hb;simp only[bY,bD]at hw;simp only[gb,lits,ln hb.1];rw[jz (ids':=Ya) hw.1,ih (tS.1 hn).2 bs hb.2 hw.2 (by simpa using hlen) (λk i hk=>t_ (k+1) i (by simpa using hk))]
 rw[Eg (is.map λi=>ids.getD i 0)]at kl;have S1:St ms w0 (lits (is.map λi=>ids.getD i 0) (is.map λi=>ids.getD i 0) bs++au ([]:List Empty) ((r.map λj=>aC ids (ids.getD j 0) (bl.getD j e_))++au ch R)) w:=by
  refine S.perm ((kl.append_right _).trans ?_);simp only[au,bW];exact zq _
 rw[cN];refine(eZ hT hQ n (λg i h=>by rw[hg]at h;cases h) (by simpa using hlen) S1 cV).mono ?_;rintro v w' ⟨x,more,bl',ch',rfl,pD,S2,rfl,hbs⟩;refine⟨by have:=g_ (ids:=[]) (more:=(is.map λi=>ids.getD i 0)++more) x Gi;simpa using this,?_⟩;have pF:bl'=bs++bl'.drop bs.length:=by have:=jH bs.length bl';rw[hbs]at this;exact this.symm
 rw[pF,fu _ _ _ _ (by simpa using hlen),Dh (ids':=is.map λi=>ids.getD i 0) (is.map λi=>ids.getD i 0) bs hw]at S2;have cz:au ch' ((r.map λj=>aC ids (ids.getD j 0) (bl.getD j e_))++au ch R)=(r.map λj=>aC ids (ids.getD j 0) (bl.getD j e_))++au ch R:=by
  match ch' with
  |[]=>rfl
  |e::_=>exact nomatch e
 rw[cz]at S2;have S3:St ms w0 ((lits (is.map λi=>ids.getD i 0) (is.map λi=>ids.getD i 0) bs)++((r.map λj=>aC ids (ids.getD j 0) (bl.getD j e_))++au ch R)) w':=S2.sub (YF (List.sublist_append_left _ _) _);refine S3.perm ?_;refine wK ?_ (kl.symm.append_right _);rw[bW]
end
def ntG (q:Nat->Int) (k:Nat):List ai:=[.int .i64 (q k)]
def ntsL (n:Nat) (q:Nat->Int) (a b:Bool) (ty Dl:BT) (u u':List ai):List VB:=[⟨a,ty,[.iD 1 n (ntG q),.rest u]⟩,⟨b,Dl,[.iD 1 n (ntG q),.rest u']⟩]
def ntsV (n c c':Nat) (x x':Option aI) (j:{j:Nat //j<=n}):List V:=[.eW 0 0 n c x,.eW 1 0 n c' x',.int .i64 j.1]
def lpNts (n c c':Nat) (x x':Option aI) (q:Nat->Int) (a b:Bool) (ty Dl:BT) (u u':List ai):Lp Empty:=Ah (X:={j:Nat //j<=n}) (λj=>n-j.1) 26 2 [0,1,5] (ntsV n c c' x x') (λ_=>ntsL n q a b ty Dl u u') (λ_=>[]) (λ_=>rfl) (λ_=>rfl) (λ_=>rfl)
section
variable(n c c':Nat) (y y':Option aI) (q:Nat->Int) (a b:Bool) (ty Dl:BT) (u u':List ai) (K:VK Empty)
def ntsX:Prop:=
 let B:=ntsL n q a b ty Dl u u'
 cond ((n:Int)!=n) (K (.bool ag) B []) ((af=af/\xH (ntsV n c c' y y') (λ_=>ntsL n q a b ty Dl u u') (λ_=>([]:List Empty)) [.eW 0 0 n c y,.eW 1 0 n c' y',.int .i64 0] B [])/\∀(x:{j:Nat //j<=n}) (g:Nat->ai),
  cond (decide ((x.1:Int)<n)) ((0<=(x.1:Int)/\(x.1:Int)<n)/\((x.1:Int).toNat<n/\∀j,(ntG q j).length=1)/\(0<=(x.1:Int)/\(x.1:Int)<n)/\((x.1:Int).toNat<n/\∀j,(ntG q j).length=1)/\
   cond (q (x.1:Int).toNat !=q (x.1:Int).toNat) (K (.bool ag) B []) (af=af/\xI (λj=>n-j.1) (ntsV n c c' y y') (λ_=>ntsL n q a b ty Dl u u') (λ_=>([]:List Empty)) x [.eW 0 0 n c y,.eW 1 0 n c' y',.int .i64 (i64.wrap ((x.1:Int)+1))] B [])) (K (.bool af) B []))
def nts_vc:br (vN prog cJ ([]:List (bK Empty)) (ph 0 (lpNts n c c' y y' q a b ty Dl u u'))) 60 38 [.eW 0 0 n c y,.eW 1 0 n c' y'] (ntsL n q a b ty Dl u u') [] K=ntsX n c c' y y' q a b ty Dl u u' K:=kR
end
def nts_ok {n c c':Nat} {y y':Option aI} {q:Nat->Int} {a b:Bool} {ty Dl:BT} {u u':List ai} {K:VK Empty} (hn:n<=1000000) (hK:K (.bool af) (ntsL n q a b ty Dl u u') []):ntsX n c c' y y' q a b ty Dl u u' K:=by
 unfold ntsX;refine aJ (λe=>by simp at e) (λ_=>⟨⟨rfl,⟨0,oQ _⟩,rfl,rfl,rfl⟩,?_⟩);rintro⟨j,hj⟩ g;dsimp only;refine aJ (λe=>?_) (λ_=>hK);have cH:(j:Int)<n:=by simpa using e
 have hl:∀k,(ntG q k).length=1:=λ_=>rfl;refine⟨⟨oM,cH⟩,⟨oM,hl⟩,⟨oM,cH⟩,⟨oM,hl⟩,?_⟩;refine aJ (λe=>by simp at e) (λ_=>⟨rfl,⟨j+1,oM⟩,by show n-(j+1)<n-j;omega,?_,rfl,rfl⟩);unfold ntsV;rw[pH oM];rfl
def intsC {G:Type}:dk G:=λargs bl ch K=>match args with
 |[.eW i 0 n _ _,.eW j 0 m _ _]=>(match bl[i]?,bl[j]?with
  |some ⟨_,_,[.iD 1 n' g,.rest _]⟩,aa ⟨_,_,[.iD 1 m' g',.rest _]⟩=>cond (!(aA i j)) ((n'=n/\m'=n/\m=n/\n<=1000000/\g'=g/\∃q,g=ntG q)/\K (.bool af) bl ch) False
  |_,_=>False)
 |_=>False
def ints_sound {G:Type} [Bl G] {gl:Nat->Option Nat}:Sound (G:=G) prog gl 38 intsC:=by
 intro args ids bl ch R ms w0 w K hg hl S hc;unfold intsC at hc;split at hc
 ·rename_i i n c x j m c' x';split at hc
  ·rename_i a ty n' g u b Dl m' g' u' hi hj;cases hq:!(aA i j)with
   |false=>rw[hq]at hc;exact hc.elim
   |true=>
    rw[hq]at hc;obtain⟨⟨rfl,rfl,rfl,hn,rfl,q,rfl⟩,hK⟩:=hc;have ua:i≠j:=λe=>by rw[e,tW]at hq;cases hq
    have cV:br (vN prog cJ ([]:List (bK Empty)) (ph 0 (lpNts m c c' x x' q a b ty Dl u u'))) 60 38 [.eW 0 0 m c x,.eW 1 0 m c' x'] (ntsL m q a b ty Dl u u') [] (λv bl _=>v=.bool af/\bl.take (ntsL m q a b ty Dl u u').length=ntsL m q a b ty Dl u u'):=by
     rw[nts_vc];exact nts_ok hn ⟨rfl,rfl⟩
    refine(pick_run (C:=vN prog cJ ([]:List (bK Empty)) (ph 0 (lpNts m c c' x x' q a b ty Dl u u'))) (_root_.Go.Proofs.YtddcipamdggcnaaGreatDoor.aH.TL (aH.nil:aH (G:=Empty) prog cJ [])) (_root_.Go.Proofs.YtddcipamdggcnaaGreatDoor.aH.QL (aH.nil:aH (G:=Empty) prog cJ [])) rfl hl S [i,j] (by simp[ua]) (ntsL m q a b ty Dl u u') (by simp[hi,hj,ntsL]) rfl (args:=[.eW i 0 m c x,.eW j 0 m c' x']) rfl rfl cV).mono ?_;rintro v w' ⟨rfl,S2⟩;exact⟨.bool af,[],bl,ch,rfl,by simpa using hl,by simpa using S2,hK⟩
  ·exact hc.elim
 ·exact hc.elim
def ints_quiet {G:Type}:jo (intsC (G:=G)):=by
 intro args bl ch K hc;unfold intsC at hc⊢;split at hc
 ·rename_i i n c x j m c' x';split at hc
  ·rename_i a ty n' g u b Dl m' g' u' hi hj;cases hq:!(aA i j)with
   |false=>rw[hq]at hc;exact hc.elim
   |true=>rw[hq]at hc;exact⟨hc.1,hc.2,[],sP⟩
  ·exact hc.elim
 ·exact hc.elim
end
end Go.Proofs.YtddcipamdggcnaaGreatDoor
namespace Sx
open Go Go.RowKit Go.BigFrame
def St.WR {w:aj} {bs:List ao} (h:∀y∈bs,y.wr=ag/\w.heap[y.id]?=aa y.obj):St [] w bs w:=by
 refine St.mk' (Ch.refl _ _) (λy hy=>(h y hy).2) (λy hy e=>by rw[(h y hy).1]at e;cases e) ?_;refine List.pairwise_of_forall_mem_list (λx hx y hy hc=>?_);rcases hc with hc|hc
 ·rw[(h x hx).1]at hc;cases hc
 ·rw[(h y hy).1]at hc;cases hc
end Sx
namespace Go.Proofs.YtddcipamdggcnaaGreatDoor
open Go Go.RowKit Go.BigFrame Sx Vx
section
variable{G:Type} [Bl G]
def JB (P:aG):(bg->V)->Op->List VB->List G->VK G->Prop:=λe op bl ch K=>match op with
 |.call c=>(match c.callee,c.args.toList,c.argTypes.toList with
  |.builtin .append,[s,xs],[t,tx]=>(match P.underlying t,P.underlying tx with
   |some (.slice 5),aa (.slice _)=>(match e s,e xs with
    |.sl i 0 0 0,.sl j o m c=>(match bl[j]?with
     |some ⟨_,_,[.rest [],.arr .u8 N f,.rest us]⟩=>cond (bY bl.length bl) ((o+m<=N/\m<=c/\m<=1000000)/\(m=0->K (.sl i 0 0 0) bl ch)/\(0<m->∀d:Nat,K (.sl bl.length 0 m (m+d)) (bl++[gL m d (λj=>f (o+j))]) ch)) False
     |_=>False)
    |_,_=>False)
   |_,_=>False)
  |_,_,_=>False)
 |_=>False
def WS {gl:Nat->Option Nat}:ik (G:=G) prog gl (JB prog):=by
 intro e op ids bl ch R ms w0 w K ρ o hg hl S bd ho h;unfold JB at h;split at h
 ·rename_i c;split at h
  ·rename_i s xs t tx ff cN dU;split at h
   ·rename_i T ht gr;split at h
    ·rename_i i j q m c' gE fS;split at h
     ·rename_i wr ty N f us hb;cases hq:bY bl.length bl with
      |false=>rw[hq]at h;exact h.elim
      |true=>
       rw[hq]at h;simp only[cond_true]at h;obtain⟨⟨hn,atO,hm⟩,h0,h1⟩:=h;have aS:=(gx hl S hb).2;have h8:cA w (ids.getD j 0) q m (λj=>f (q+j)):=WN aS hn;have hk:dM w (aa ⟨ids.getD j 0,q,ae⟩) m c' (λj=>f (q+j)):=⟨hm,atO,(λe=>nomatch e),λx e k hkm=>by
        obtain rfl:=cG e;rw[iK];exact h8 k hkm⟩
       have fi:=DY (P:=prog) hk gr;obtain⟨mR,ar,iO⟩:=c;simp only at ff cN dU;have e2:ar=#[s,xs]:=by rw[<-cN]
       have e3:iO=#[t,tx]:=by rw[<-dU]
       subst ff e2 e3;have j9:ρ s=.slice (aa ⟨ids.getD i 0,0,ae⟩) 0 0:=by rw[bd,gE];simp only[den]
       have oA:ρ xs=.slice (aa ⟨ids.getD j 0,q,ae⟩) m c':=by rw[bd,fS];simp only[den]
       rcases tU m with rfl|m0
       ·have bT:=WK (ty:=o.type) (t:=t) fi ht ⟨ids.getD i 0,0,ae⟩;refine⟨_,[],_,_,w,.inl ?_,by simpa using hl,by simpa using S,h0 rfl⟩;rw[jJ (P:=prog) (ρ:=ρ) (o:=o) ho j9 oA bT];simp only[cT,den]
       ·obtain⟨c2,w2,bT,cz,hle,u_⟩:=OA (x:=aa ⟨ids.getD j 0,q,ae⟩) (ty:=o.type) (t:=t) fi ht m0 oM ⟨ids.getD i 0,0,ae⟩;have h2:=h1 m0 (c2-m);rw[show m+(c2-m)=c2 by omega]at h2;refine⟨_,[w.heap.size],_,_,w2,.inl ?_,by simp[hl],?_,h2⟩
        ·rw[jJ (P:=prog) (ρ:=ρ) (o:=o) ho j9 oA bT];simp only[den];rw[<-hl,lG]
        ·have e:aC (ids++[w.heap.size]) w.heap.size (gL m (c2-m) (λj=>f (q+j)))=⟨w.heap.size,af,.cells (bE m (λj=>f (q+j)) c2) 5 (0,0)⟩:=by
          unfold aC;rw[Jz,show m+(c2-m)=c2 by omega];rfl
         rw[fu _ _ _ _ hl,fw _ _ (by rw[hl];exact hq)];simp only[lits,e];refine(S.new cz (cY _) u_).perm ?_;rw[bW];exact kH.symm
     ·exact h.elim
    ·exact h.elim
   ·exact h.elim
  ·exact h.elim
 ·exact h.elim
end
def atP (N:Nat) (f:Nat->Int) (us:List ai) (o m c:Nat) (K:VK Empty):Prop:=
 (o+m<=N/\m<=c/\m<=1000000)/\(m=0->K (.sl 1 0 0 0) [jV N f us,⟨af,⟨5,(0,0)⟩,[]⟩] [])/\(0<m->∀d:Nat,K (.sl 1 0 m (m+d)) [jV N f us,gL m d (λj=>f (o+j))] [])
def atQ (N:Nat) (f:Nat->Int) (us:List ai) (o m c:Nat) (K:VK Empty):br (gy prog cJ ([]:List (bK Empty)) (JB prog) WS) 60 158 [.sl 0 o m c] [jV N f us] [] (bA 1 K)=atP N f us o m c K:=kR
def atS (b o m c N:Nat) (f:Nat->Int) (us:List ai) (w:aj) {ty:BT} (aS:w.heap[b]?=aa (.cells (ak [] [.rest [],.arr .u8 N f,.rest us]).toArray 5 (0,0))) (h1:o+m<=N) (h2:m<=c) (h3:m<=1000000):
 aX prog 158 #[.slice (aa ⟨b,o,ae⟩) m c] w λv w'=>∃b2 c2,v=.slice (aa ⟨b2,0,ae⟩) m c2/\m<=c2/\w.heap.size<=b2/\w'.heap[b2]?=aa (.cells (bE m (λj=>f (o+j)) c2) 5 (0,0))/\Ch [] w w':=by
 have S:St [] w (lits [b] [b] [jV N f us]++au ([]:List Empty) []) w:=by
  refine St.WR ?_;intro y hy;simp only[lits,au,cT,cF,qS,or_false]at hy;subst hy;exact⟨rfl,aS.trans rfl⟩
 let K:VK Empty:=λv bl _=>∃x:VB,bl=[jV N f us,x]/\((m=0/\v=.sl 1 0 0 0/\x=⟨af,⟨5,(0,0)⟩,[]⟩)\/(∃d,v=.sl 1 0 m (m+d)/\x=gL m d (λj=>f (o+j))))
 have cV:br (gy prog cJ ([]:List (bK Empty)) (JB prog) WS) 60 158 [.sl 0 o m c] [jV N f us] [] (bA 1 K):=by
  rw[atQ];exact⟨⟨h1,h2,h3⟩,λe=>⟨_,rfl,.inl ⟨e,rfl,rfl⟩⟩,λ_ d=>⟨_,rfl,.inr ⟨d,rfl,rfl⟩⟩⟩
 have hok:aH (G:=Empty) prog cJ []:=aH.nil;refine(eZ (C:=gy prog cJ ([]:List (bK Empty)) (JB prog) WS) hok.T hok.Q 60 (ids:=[b]) (λg i h=>by cases h) rfl S cV).mono ?_;rintro v w' ⟨y,more,bl',ch',rfl,h1,S',hK⟩;obtain⟨v2,cn,bl2,AS,cX,S2,x,rfl,hx⟩:=iP (n0:=1) h1 sP S' hK;have ht:List.take 1 ([b]++more)=[b]:=rfl;rw[ht]at AS cX S2;have hm:cn.length=1:=by simpa using cX
 match cn,hm with
 |[z],_=>
  have S3:St [] w ([aC ([b]++[z]) b (jV N f us),aC ([b]++[z]) z x]++au ch' []) w':=S2;rcases hx with⟨e0,rfl,rfl⟩|⟨d,rfl,rfl⟩
  ·subst e0;refine⟨z,0,AS,cY _,(S3.own 1 _ rfl rfl).resolve_left sP,?_,S3.ch⟩;exact S3.at_ 1 _ rfl
  ·refine⟨z,m+d,AS,oM,(S3.own 1 _ rfl rfl).resolve_left sP,?_,S3.ch⟩;have:=S3.at_ 1 _ rfl;simp only[aC]at this;rw[Jz]at this;exact this
end Go.Proofs.YtddcipamdggcnaaGreatDoor
namespace Go.Proofs.YtddcipamdggcnaaGreatDoor
section
open Go Go.RowKit Go.BigFrame Sx Vx
variable{fr:Sd.aO->Nat×Sd.ax}
def WT:dk (LG fr):=λargs bl ch K=>match args with
 |[.sl j o m c]=>(match bl[j]?with
  |some ⟨_,⟨5,(0,0)⟩,[.rest [],.arr .u8 N f,.rest us]⟩=>(o+m<=N/\m<=c/\m<=1000000)/\∀b:dq,b.n=m->b.f=(λj=>f (o+j))->b.x.isSome=af->K (.raw b.v) bl (ch++[.b8 b])
  |_=>False)
 |_=>False
def aeE (ids:List Nat) (N:Nat) (f:Nat->Int) (us:List ai):ak ids [.rest [],.arr .u8 N f,.rest us]=ak [] [.rest [],.arr .u8 N f,.rest us]:=by simp only[ak,cl]
def atT {gl:Nat->Option Nat}:Sound prog gl 158 (WT (fr:=fr)):=by
 intro args ids bl ch R ms w0 w K hg hl S hc;unfold WT at hc;split at hc
 ·rename_i j o m c;split at hc
  ·rename_i wr N f us hb;obtain⟨⟨h1,h2,h3⟩,hK⟩:=hc;have aS:=(gx hl S hb).2;rw[aeE]at aS;refine(atS (ids.getD j 0) o m c N f us w (ty:=⟨0,(0,0)⟩) aS h1 h2 h3).mono ?_;rintro v w' ⟨b2,c2,rfl,Qp,GV,u_,cz⟩
   let b:dq:=⟨m,λj=>f (o+j),aa ⟨b2,0,ae⟩,c2,[⟨b2,af,.cells (bE m (λj=>f (o+j)) c2) 5 (0,0)⟩],Qp,.inr ⟨b2,rfl,rfl⟩⟩
   refine⟨.raw b.v,[],bl,ch++[.b8 b],rfl,by simpa using hl,?_,hK b rfl rfl rfl⟩;rw[cT,kY];have e2:au [LG.b8 (fr:=fr) b] R=⟨b2,af,.cells (bE m (λj=>f (o+j)) c2) 5 (0,0)⟩::R:=rfl;rw[e2,fe (_::R) ch];have hn:=S.new cz GV u_;rw[fe R ch]at hn;refine hn.perm ?_;exact dR λf=>by simp only[dZ,j5];omega
  ·exact hc.elim
 ·exact hc.elim
def JC (fr:Sd.aO->Nat×Sd.ax):List (bK (LG fr)):=⟨158,ag,WT⟩::qL (LG fr) [WM,WO]
def atU {gl:Nat->Option Nat}:aH (G:=LG fr) prog gl (JC fr):=aH.cons ⟨atT,λe=>by cases e⟩ (kA (bP.cons (atM _) (bP.cons (atN _) bP.nil)))
def jC (k s c:Int) (v:ai):V:=.agg [.int .i64 k,.int .i64 s,.int .i64 c,.raw v]
section
variable(N o n c:Nat) (f:Nat->Int) (k:V->List (LG fr)->Prop)
def OD (fd:V) (ch:List (LG fr)):Prop:=((0:Int)<=0/\(0:Int)<(n:Int))/\o+(0:Int).toNat<N/\cond (f (o+(0:Int).toNat)!=165)
 ((o+n<=N/\∀j,j<N->0<=f j/\f j<=255)/\cond (decide (u9 n (λj=>f (o+j))<0)) (k (jC 1 (n:Int) 0 cj) ch) (k (jC 1 (u9 n (λj=>f (o+j))) 0 cj) ch)) (k fd ch)
def FJ (fd:V) (ch:List (LG fr)):Prop:=((0:Int)<=1/\(1:Int)<(n:Int))/\o+(1:Int).toNat<N/\cond (f (o+(1:Int).toNat)!=1) (OD N o n f k (jC 3 1 10 cj) ch) (OD N o n f k fd ch)
def aeF (ch:List (LG fr)):Prop:=
 let q:=f (o+(2:Int).toNat)
 let e:=i64.wrap (3+i64.wrap q)
 let e1:=i64.wrap (e+1)
 let p1:=bif aA c (1:Int).toNat then o else o+(1:Int).toNat
 let p3:=bif aA c (3:Int).toNat then o else o+(3:Int).toNat
 ((0:Int)<=2/\(2:Int)<(n:Int))/\o+(2:Int).toNat<N/\cond (decide (i64.wrap q>32)) (FJ N o n f k (jC 3 1 11 cj) ch)
   (cond (decide ((n:Int)<i64.wrap (e+2))) (FJ N o n f k (jC 0 0 0 cj) ch)
    (((0:Int)<=1/\1<=e/\e<=(c:Int))/\(0<=e/\e<(n:Int))/\o+e.toNat<N/\(0<=e1/\e1<(n:Int))/\o+e1.toNat<N/\(p1+(e.toNat-(1:Int).toNat)<=N/\e.toNat-(1:Int).toNat<=1000000)/\
      cond (b9 (λj=>f (p1+j)) (e.toNat-(1:Int).toNat)!=bits .or .u16 (u16.wrap (u16.wrap (f (o+e.toNat))*2^8)) (u16.wrap (f (o+e1.toNat))))
       (FJ N o n f k (jC 3 1 12 cj) ch)
       (((0:Int)<=3/\3<=e/\e<=(c:Int))/\(p3+(e.toNat-(3:Int).toNat)<=N/\e.toNat-(3:Int).toNat<=c-(3:Int).toNat/\e.toNat-(3:Int).toNat<=1000000)/\
         ∀b:dq,b.n=e.toNat-(3:Int).toNat->b.f=(λj=>f (p3+j))->b.x.isSome=af->FJ N o n f k (jC 2 (i64.wrap (e+2)) 0 b.v) (ch++[.b8 b]))))
def va (n:Nat):Int:=if(3:Int)<(n:Int)then 3 else(n:Int)
def WU (ch:List (LG fr)):Prop:=cond (va n==3) (aeF N o n c f k ch) (cond (va n==2) (FJ N o n f k (jC 0 0 0 cj) ch) (cond (va n==1) (OD N o n f k (jC 0 0 0 cj) ch) (k (jC 0 0 0 cj) ch)))
end
def atV (N o n c:Nat) (f:Nat->Int) (us:List ai) (ch:List (LG fr)) (K:VK (LG fr)):
 br (bM prog cJ (JC fr)) 60 88 [.sl 0 o n c] [jV N f us] ch (bA 1 K)=WU N o n c f (λv ch=>K v [jV N f us] ch) ch:=kR
def atW {x y:Int} (hx:0<=x/\x<=255) (hy:0<=y/\y<=255):bits .or .u16 (u16.wrap (u16.wrap x*2^8)) (u16.wrap y)=x*256+y:=by
 have e3:u16.wrap (u16.wrap x*2^8)=x*256:=by
  rw[YK,YK];omega
 have e4:u16.wrap y=y:=by rw[YK];omega
 rw[e3,e4];obtain⟨a,rfl⟩:∃a:Nat,x=a:=⟨x.toNat,oM⟩;obtain⟨b,rfl⟩:∃b:Nat,y=b:=⟨y.toNat,oM⟩;have vC:a<256:=oM;have w8:b<256:=oM;unfold bits;have h1:(pP 16 ((a:Int)*256)).toNat=a*256:=by simp only[Ku];omega
 have h2:(pP 16 (b:Int)).toNat=b:=by simp only[Ku];omega
 have h3:(a*256|||b)=a*256+b:=by
  have:=Nat.shiftLeft_add_eq_or_of_lt (i:=8) (b:=b) oM a;rw[Nat.shiftLeft_eq]at this;exact this.symm
 show u16.wrap (((pP 16 ((a:Int)*256)|||pP 16 (b:Int)).toNat:Nat):Int)=_;rw[BitVec.toNat_or,h1,h2,h3,YK];omega
section
variable{N o n c:Nat} {f:Nat->Int} {k:V->List (LG fr)->Prop}
def WV (hn:0<n) (h1:o+n<=N) (hb:∀j,j<N->0<=f j/\f j<=255) {fd:V} {ch:List (LG fr)} (hs:f (o+0)≠165->k (jC 1 ((Sd.jA (λj=>f (o+j)) n 0:Nat):Int) 0 cj) ch) (hf:f (o+0)=165->k fd ch):OD N o n f k fd ch:=by
 refine⟨⟨Int.le_refl _,oM⟩,by show o+0<N;omega,aJ (λe=>?_) (λe=>hf (by simpa using e))⟩;have e':f (o+0)≠165:=by simpa using e
 have hle:=Sd.JA (λj=>f (o+j)) n 0;refine⟨⟨h1,hb⟩,aJ (λe2=>?_) (λe2=>?_)⟩
 ·have e2:=of_decide_eq_true e2;unfold u9 at e2;cases hq:aA (Sd.jA (λj=>f (o+j)) n 0) n with
  |true=>have:=ck hq;have h:=hs e';rw[this]at h;exact h
  |false=>rw[hq]at e2;simp only[cond_false]at e2;omega
 ·have e2:=of_decide_eq_false e2;unfold u9 at e2⊢;cases hq:aA (Sd.jA (λj=>f (o+j)) n 0) n with
  |true=>rw[hq]at e2;exact absurd (by decide:(-1:Int)<0) e2
  |false=>exact hs e'
def JD (hn:1<n) (h1:o+n<=N) (hb:∀j,j<N->0<=f j/\f j<=255) {fd:V} {ch:List (LG fr)} (hs:f (o+0)≠165->k (jC 1 ((Sd.jA (λj=>f (o+j)) n 0:Nat):Int) 0 cj) ch) (hv:f (o+0)=165->f (o+1)≠1->k (jC 3 1 10 cj) ch)
 (hf:f (o+0)=165->f (o+1)=1->k fd ch):FJ N o n f k fd ch:=
 ⟨⟨dC,oM⟩,by show o+1<N;omega,aJ (λe=>WV oM h1 hb hs (λh=>hv h (by simpa using e))) (λe=>WV oM h1 hb hs (λh=>hf h (by simpa using e)))⟩
structure NxK (n:Nat) (g:Nat->Int) (k:V->List (LG fr)->Prop) (ch:List (LG fr)):Prop where
 no:(Sd.eg b9 n g).kind≠2->∀ch',(∃l,ch'=ch++l)->k (jC (Sd.eg b9 n g).kind ((Sd.eg b9 n g).size:Nat) (Sd.eg b9 n g).code cj) ch'
 yes:(Sd.eg b9 n g).kind=2->∀b:dq,b.n=(Sd.eg b9 n g).n->(∀j,b.f j=(Sd.eg b9 n g).f j)->b.x.isSome=af->k (jC 2 ((Sd.eg b9 n g).size:Nat) 0 b.v) (ch++[.b8 b])
def atX (h1:o+n<=N) (h2:n<=c) (h3:n<=1000000) (hb:∀j,j<N->0<=f j/\f j<=255) {ch:List (LG fr)} (hk:NxK n (λj=>f (o+j)) k ch):WU N o n c f k ch:=by
 obtain⟨il,I_⟩:=hk;have cz:∀l,∃l',ch++l=ch++l':=λl=>⟨l,rfl⟩;have pL:∃l',ch=ch++l':=⟨[],sP⟩;have FK:n≠0->f (o+0)≠165->∀ch',(∃l,ch'=ch++l)->k (jC 1 ((Sd.jA (λj=>f (o+j)) n 0:Nat):Int) 0 cj) ch':=λhn h=>by
  have e:Sd.eg b9 n (λj=>f (o+j))=⟨1,Sd.jA (λj=>f (o+j)) n 0,0,0,Sd.Dj⟩:=by unfold Sd.eg;rw[if_neg hn,if_pos h]
  rw[e]at il;exact il (by show(1:Int)≠2;decide)
 unfold WU;have hm:va n=if n<=3 then(n:Int)else 3:=by unfold va;split<;>split<;>omega
 refine aJ (λe=>?_) λe0=>aJ (λe=>?_) λe1=>aJ (λe=>?_) λe2=>?_
 ·have e:va n=3:=by simpa using e
  have hn:3<=n:=by rw[hm]at e;split at e<;>omega
  have OE:f (o+0)=165->f (o+1)≠1->∀ch',(∃l,ch'=ch++l)->k (jC 3 1 10 cj) ch':=λa b=>by
   have e:Sd.eg b9 n (λj=>f (o+j))=Sd.AR 10:=by unfold Sd.eg;rw[if_neg oM,if_neg (by simpa using a),if_neg oM,if_pos b]
   rw[e]at il;exact il dC
  have hq:=hb (o+2) oM;have nx:f (o+0)=165->f (o+1)=1->Sd.eg b9 n (λj=>f (o+j))=(if 32<f (o+2)then Sd.AR 11 else if n<5+(f (o+2)).toNat then Sd.yW else if b9 (λj=>f (o+(1+j))) (2+(f (o+2)).toNat)≠f (o+(3+(f (o+2)).toNat))*256+f (o+(4+(f (o+2)).toNat))then Sd.AR 12 else⟨2,5+(f (o+2)).toNat,0,(f (o+2)).toNat,λj=>f (o+(3+j))⟩):=λa b=>by
   unfold Sd.eg;rw[if_neg oM,if_neg (by simpa using a),if_neg oM,if_neg (by simpa using b),if_neg oM]
  unfold aeF;have t2:o+(2:Int).toNat=o+2:=rfl;have w0:i64.wrap (f (o+2))=f (o+2):=pH oM;dsimp only;rw[t2,w0];generalize hgq:f (o+2)=q at hq nx w0⊢;obtain⟨m,rfl⟩:∃m:Nat,q=m:=⟨q.toNat,oM⟩;rw[show i64.wrap (3+(m:Int))=((3+m:Nat):Int) by rw[pH oM];omega];rw[show i64.wrap (((3+m:Nat):Int)+1)=((4+m:Nat):Int) by rw[pH oM];omega,show i64.wrap (((3+m:Nat):Int)+2)=((5+m:Nat):Int) by rw[pH oM];omega];simp only[vn]at nx⊢;refine⟨⟨dC,oM⟩,oM,aJ (λe3=>?_) λe3=>aJ (λe4=>?_) λe4=>?_⟩
  ·have e3:=of_decide_eq_true e3;refine JD oM h1 hb (λh=>FK oM h _ pL) (λa b=>OE a b _ pL) (λa b=>?_);have:=nx a b;rw[if_pos oM]at this;rw[this]at il;exact il dC _ pL
  ·have e3:=of_decide_eq_false e3;have e4:=of_decide_eq_true e4;refine JD oM h1 hb (λh=>FK oM h _ pL) (λa b=>OE a b _ pL) (λa b=>?_);have:=nx a b;rw[if_neg oM,if_pos oM]at this;rw[this]at il;exact il dC _ pL
  ·have e3:=of_decide_eq_false e3;have e4:=of_decide_eq_false e4;have p1:(bif aA c (1:Int).toNat then o else o+(1:Int).toNat)=o+1:=by
    have:aA c (1:Int).toNat=ag:=by
     cases hq:aA c (1:Int).toNat with
     |false=>rfl
     |true=>have:=ck hq;have e:(1:Int).toNat=1:=rfl;omega
    rw[this];rfl
   have p3:(bif aA c (3:Int).toNat then o else o+(3:Int).toNat)=o+3:=by
    have:aA c (3:Int).toNat=ag:=by
     cases hq:aA c (3:Int).toNat with
     |false=>rfl
     |true=>have:=ck hq;have e:(3:Int).toNat=3:=rfl;omega
    rw[this];rfl
   rw[p1,p3];have d1:3+m-(1:Int).toNat=2+m:=by have e:(1:Int).toNat=1:=rfl;omega
   have d3:3+m-(3:Int).toNat=m:=by have e:(3:Int).toNat=3:=rfl;omega
   have c3:c-(3:Int).toNat=c-3:=rfl;have b3:=hb (o+(3+m)) oM;have b4:=hb (o+(4+m)) oM;rw[d1,d3,c3,atW b3 b4];have ec:(λj=>f (o+1+j))=λj=>f (o+(1+j)):=by funext j;rw[tY]
   have ec3:(λj=>f (o+3+j))=λj=>f (o+(3+j)):=by funext j;rw[tY]
   rw[ec,ec3];refine⟨⟨dC,oM,oM⟩,⟨oM,oM⟩,oM,⟨oM,oM⟩,oM,⟨oM,oM⟩,aJ (λe5=>?_) λe5=>⟨⟨dC,oM,oM⟩,⟨oM,oM,oM⟩,λb qU BN hx=>?_⟩⟩
   ·have e5:b9 (λj=>f (o+(1+j))) (2+m)≠f (o+(3+m))*256+f (o+(4+m)):=by simpa using e5
    refine JD oM h1 hb (λh=>FK oM h _ pL) (λa b=>OE a b _ pL) (λa b=>?_);have:=nx a b;rw[if_neg oM,if_neg oM,if_pos e5]at this;rw[this]at il;exact il dC _ pL
   ·have e5:¬b9 (λj=>f (o+(1+j))) (2+m)≠f (o+(3+m))*256+f (o+(4+m)):=by simpa using e5
    refine JD oM h1 hb (λh=>FK oM h _ (cz _)) (λa b=>OE a b _ (cz _)) (λa b'=>?_);have:=nx a b';rw[if_neg oM,if_neg oM,if_neg e5]at this;rw[this]at I_;exact I_ rfl b qU (λj=>by rw[BN]) hx
 ·have e:va n=2:=by simpa using e
  have hn:n=2:=by rw[hm]at e;split at e<;>omega
  subst hn;refine JD dC h1 hb (λh=>FK dC h _ pL) (λa b=>?_) (λa b=>?_)
  ·have e:Sd.eg b9 2 (λj=>f (o+j))=Sd.AR 10:=by unfold Sd.eg;rw[if_neg oM,if_neg (by simpa using a),if_neg oM,if_pos b]
   rw[e]at il;exact il dC _ pL
  ·have e:Sd.eg b9 2 (λj=>f (o+j))=Sd.yW:=by unfold Sd.eg;rw[if_neg oM,if_neg (by simpa using a),if_neg oM,if_neg (by simpa using b),if_pos rfl]
   rw[e]at il;exact il dC _ pL
 ·have e:va n=1:=by simpa using e
  have hn:n=1:=by rw[hm]at e;split at e<;>omega
  subst hn;refine WV dC h1 hb (λh=>FK dC h _ pL) (λa=>?_);have e:Sd.eg b9 1 (λj=>f (o+j))=Sd.yW:=by unfold Sd.eg;rw[if_neg oM,if_neg (by simpa using a),if_pos rfl]
  rw[e]at il;exact il dC _ pL
 ·have e0:va n≠3:=by simpa using e0
  have e1:va n≠2:=by simpa using e1
  have e2:va n≠1:=by simpa using e2
  have hn:n=0:=by
   rw[hm]at e0 e1 e2;split at e0<;>omega
  subst hn;have e:Sd.eg b9 0 (λj=>f (o+j))=Sd.yW:=by unfold Sd.eg;rw[if_pos rfl]
  rw[e]at il;exact il dC _ pL
def Ol:dk (LG fr):=λargs bl ch K=>match args with
 |[.sl j o n c]=>(match bl[j]?with
  |some ⟨_,⟨5,(0,0)⟩,[.rest [],.arr .u8 N f,.rest us]⟩=>(o+n<=N/\n<=c/\n<=1000000/\∀j,j<N->0<=f j/\f j<=255)/\
   ((Sd.eg b9 n (λj=>f (o+j))).kind=0->K (jC 0 0 0 cj) bl ch)/\
   ((Sd.eg b9 n (λj=>f (o+j))).kind=1->K (jC 1 ((Sd.eg b9 n (λj=>f (o+j))).size:Nat) 0 cj) bl ch)/\
   ((Sd.eg b9 n (λj=>f (o+j))).kind=3->K (jC 3 ((Sd.eg b9 n (λj=>f (o+j))).size:Nat) (Sd.eg b9 n (λj=>f (o+j))).code cj) bl ch)/\
   ((Sd.eg b9 n (λj=>f (o+j))).kind=2->∀b:dq,b.n=(Sd.eg b9 n (λj=>f (o+j))).n->(∀j,b.f j=(Sd.eg b9 n (λj=>f (o+j))).f j)->b.x.isSome=af->K (jC 2 ((Sd.eg b9 n (λj=>f (o+j))).size:Nat) 0 b.v) bl (ch++[.b8 b]))
  |_=>False)
 |_=>False
def atY {n:Nat} {g:Nat->Int}:let d:=Sd.eg b9 n g;(d.kind=0/\d.size=0/\d.code=0)\/(d.kind=1/\d.code=0)\/(d.kind=3)\/(d.kind=2/\d.code=0):=by
 unfold Sd.eg;dsimp only
 repeat' split
 all_goals simp[Sd.yW,Sd.AR]
def atZ {gl:Nat->Option Nat}:Sound prog gl 88 (Ol (fr:=fr)):=by
 intro args ids bl ch R ms w0 w K hg hl S hc;unfold Ol at hc;split at hc
 ·rename_i j o n c;split at hc
  ·rename_i wr N f us hb;obtain⟨⟨h1,h2,h3,j6⟩,k0,k1,k3,k2⟩:=hc;have aS:=(gx hl S hb).2;rw[aeE]at aS;have aS:w.heap[ids.getD j 0]?=aa (.cells (ak [] [.rest [],.arr .u8 N f,.rest us]).toArray 5 (0,0)):=aS;have ha:(aE ids [V.sl j o n c]).toArray=#[.slice (aa ⟨ids.getD j 0,o,ae⟩) n c]:=by simp only[aE,den]
   rw[ha];generalize ids.getD j 0=b at aS⊢;have S':St [] w (lits [b] [b] [jV N f us]++au ([]:List (LG fr)) []) w:=by
    refine St.WR ?_;intro y hy;simp only[lits,au,cT,cF,qS,or_false]at hy;subst hy;exact⟨rfl,aS.trans rfl⟩
   let d:=Sd.eg b9 n (λj=>f (o+j))
   let X:VK (LG fr):=λv bl ch=>bl=[jV N f us]/\((d.kind≠2/\v=jC d.kind (d.size:Nat) d.code cj)\/(d.kind=2/\∃b:dq,v=jC 2 (d.size:Nat) 0 b.v/\ch=[.b8 b]/\b.n=d.n/\(∀j,b.f j=d.f j)/\b.x.isSome=af))
   have cV:br (bM prog cJ (JC fr)) 60 88 [.sl 0 o n c] [jV N f us] [] (bA 1 X):=by
    rw[atV];exact atX h1 h2 h3 j6 ⟨λe ch' _=>⟨rfl,.inl ⟨e,rfl⟩⟩,λe b e1 e2 e3=>⟨rfl,.inr ⟨e,b,rfl,rfl,e1,e2,e3⟩⟩⟩
   have hok:aH (G:=LG fr) prog cJ (JC fr):=atU;refine(eZ (C:=bM prog cJ (JC fr)) hok.T hok.Q 60 (ids:=[b]) (λg i h=>by cases h) rfl S' cV).mono ?_;rintro v w' ⟨y,more,bl',ch',rfl,g1,g2,hK⟩;obtain⟨v2,cn,bl2,AS,cX,S2,rfl,hX⟩:=iP (n0:=1) g1 sP g2 hK;rw[AS];have aeG:∀(is:List Nat) (k s c:Int) (v:ai),den is (jC k s c v)=den ids (jC k s c v):=λis k s c v=>by simp only[jC,den,ak,cl]
   rcases hX with⟨hk,rfl⟩|⟨hk,b8,rfl,rfl,e1,e2,e3⟩
   ·refine⟨_,[],bl,ch,aeG _ _ _ _ _|>.trans (by rw[cT]),by simpa using hl,by simpa using S.quiet S2.ch,?_⟩;have hd:(d.kind=0/\d.size=0/\d.code=0)\/(d.kind=1/\d.code=0)\/(d.kind=3)\/(d.kind=2/\d.code=0):=atY;rcases hd with⟨a1,a2,a3⟩|⟨a1,a2⟩|a1|⟨a1,_⟩
    ·have:=k0 a1;rw[a1,a2,a3];exact this
    ·have:=k1 a1;rw[a1,a2];exact this
    ·have:=k3 a1;rw[a1];exact this
    ·exact absurd a1 hk
   ·obtain⟨j7,iL⟩:=b8.h;rcases iL with⟨ex,_⟩|⟨b2,ex,eB⟩
    ·rw[ex]at e3;cases e3
    ·have S3:St [] w (lits _ _ _++(b8.B++[])) w':=S2;rw[eB]at S3;have hm:(⟨b2,af,.cells (bE b8.n b8.f b8.c) 5 (0,0)⟩:ao)∈lits (List.take 1 ([b]++more)++cn) (List.take 1 ([b]++more)++cn) [jV N f us]++([⟨b2,af,.cells (bE b8.n b8.f b8.c) 5 (0,0)⟩]++[]):=sP;have hn:=S.new S3.ch ((S3.nu hm rfl).resolve_left sP) (S3.at' hm);refine⟨_,[],bl,ch++[.b8 b8],aeG _ _ _ _ _|>.trans (by rw[cT]),by simpa using hl,?_,k2 hk b8 e1 e2 e3⟩;rw[cT,kY];have e4:au [LG.b8 (fr:=fr) b8] R=⟨b2,af,.cells (bE b8.n b8.f b8.c) 5 (0,0)⟩::R:=by show b8.B++R=_;rw[eB];rfl
     rw[e4,fe (_::R) ch];rw[fe R ch]at hn;refine hn.perm ?_;exact dR λf=>by simp only[dZ,j5];omega
  ·exact hc.elim
 ·exact hc.elim
end
def WW (P:aG):(bg->V)->Op->List VB->List (LG fr)->VK (LG fr)->Prop:=λe op bl ch K=>match op with
 |.buildSlice t 0 ps=>(match ps.toList,P.underlying t with
  |[],aa (.slice T)=>(match eo P T,me P T with
   |some (z+1),aa zc=>cond (aA (cD zc) (z+1)) (∀r:bx,r.T=T->r.z=z+1->r.os=[]->r.n=0->K r.v bl (ch++[.row r])) False
   |_,_=>False)
  |_,_=>False)
 |.call c=>(match c.callee,c.args.toList,c.argTypes.toList with
  |.builtin .append,[s,xs],[t,tx]=>(match P.underlying t,P.underlying tx with
   |some (.slice T),aa (.slice _)=>(match uB P T,e xs,ch with
    |some (z,cd),.eW i 0 m cc x,.bj u::.core g fB::.row r::rest=>(match bl[i]?with
     |some ⟨_,_,[.iD z' m' f,.rest _]⟩=>cond (aA z z'&&bZ cd 10000000)
      ((e s=r.v/\r.T=T/\r.z=z/\m'=m/\(∀j,(f j).length=z)/\(∀j u,u∈f j->u.oneCell'=af)/\r.n+m<=1000000)/\
        ∀r2:bx,r2.T=r.T->r2.z=r.z->r2.os=r.os++(bo m).flatMap f->r2.n=r.n+m->K r2.v bl (.bj u::.core g fB::.row r2::rest)) False
     |_=>False)
    |_,_,_=>False)
   |_,_=>False)
  |_,_,_=>False)
 |_=>False
def WX {z:Nat} {f:Nat->List ai} (h:∀j,(f j).length=z):∀m,((bo m).flatMap f).length=m*z
 |0=>sP
 |m+1=>by rw[List.range_succ,Bi,fL,WX h m];simp[h,n9]
def lgB (u:aj) (g:Gh fr) (fB:List ao) (r:bx) (rest:List (LG fr)) (R:List ao):au (LG.bj u::LG.core g fB::LG.row r::rest) R=(cw u++(g.F.B++fB))++(r.bl++au rest R):=by
 show cw u++((g.F.B++fB)++(r.bl++au rest R))=_;simp only[bW]
def at0 {P:aG} {gl:Nat->Option Nat}:ik P gl (WW (fr:=fr) P):=by
 intro e op ids bl ch R ms w0 w K ρ o hg hl S bd ho h;unfold WW at h;split at h
 ·rename_i t ps;split at h
  ·rename_i T rv hu;split at h
   ·rename_i z zc hz Ra;cases hq:aA (cD zc) (z+1)with
    |false=>rw[hq]at h;exact h.elim
    |true=>
     rw[hq]at h;simp only[cond_true]at h;have bT:=ZJ (P:=P) (ids:=ids) (w:=w) (len:=0) (ps:=[]) (c:=[]) hu hz Ra (ck hq) sP rfl
     let r:bx:=⟨T,z+1,[],aa ⟨w.heap.size,0,ae⟩,0,0,[⟨w.heap.size,af,.cells #[] T (0,0)⟩],sP,cY _,.inr ⟨w.heap.size,[],rfl,rfl,sP⟩⟩
     have hn:=S.new (Ch.alloc [] w (.cells #[] T)) (cY _) (n6 w _);refine⟨r.v,[],bl,ch++[.row r],w.alloc (.cells #[] T),.inl ?_,by simpa using hl,?_,h r rfl rfl rfl rfl⟩
     ·unfold execOp;have hp0:ps=#[]:=by apply fD;simpa using rv
      subst hp0;simp only[ho];rw[bz];have h2:(YC t 0 #[]).run P w=.ok (.slice (aa ⟨w.heap.size,0,ae⟩) 0 0) (w.alloc (.cells #[] T)):=bT;have h3:((#[]:Array (Nat×bg)).map λ(x:Nat×bg)=>match x with|(i,x)=>(i,ρ x))=#[]:=sP;rw[h3,h2];rfl
     ·rw[cT,kY];have e2:au [LG.row (fr:=fr) r] R=⟨w.heap.size,af,.cells #[] T (0,0)⟩::R:=rfl;rw[e2,fe (_::R) ch];rw[fe R ch]at hn;refine hn.perm ?_;exact dR λf=>by simp only[dZ,j5];omega
   ·exact h.elim
  ·exact h.elim
 ·rename_i c;split at h
  ·rename_i s xs t tx ff cN dU;split at h
   ·rename_i T T' ht gr;split at h
    ·rename_i z cd i m cc x u g fB r rest cu fS;split at h
     ·rename_i wr ty z' m' f us hb;cases hq:aA z z'&&bZ cd 10000000 with
      |false=>rw[hq]at h;exact h.elim
      |true=>
       rw[hq]at h;simp only[cond_true]at h;simp only[bD]at hq;obtain⟨q1,q4⟩:=hq;obtain rfl:=ck q1;have q4:=eO q4;obtain⟨⟨hs,rfl,rfl,rfl,hf,WY,hn⟩,hK⟩:=h;have hi:(P.info? r.T).map (λi=>(i.zero.map (·.cells.size),i.size,i.bytes))=aa (aa r.z,r.z,cd):=by
        unfold uB at cu;split at cu
        ·rename_i inf uC;split at cu
         ·rename_i v hv;cases ry:aA v.cells.size inf.size with
          |false=>rw[ry]at cu;simp at cu
          |true=>
           rw[ry]at cu;simp only[cond_true,aW,bC]at cu;have:=ck ry;simp[uC,hv,this,cu.1,cu.2]
         ·cases cu
        ·cases cu
       have aS:=(gx hl S hb).2;have hlen:=WX hf m';have nF:∀u∈(bo m').flatMap f,u.oneCell'=af:=λu hu=>by
        obtain⟨j,_,hj⟩:=List.mem_flatMap.1 hu;exact WY j u hj
       have fi:Src P r.z tx (.slice (bif aA m' 0 then x else aa ⟨ids.getD i 0,0,ae⟩) m' cc) m' ((bo m').flatMap f) w:=by
        by_cases h0:m'=0
        ·subst h0;cases x with
         |none=>exact Src.ofNil w gr cc
         |some a=>exact qN w gr a 0 cc [] sP (λj u hj=>by simp at hj) (λu hu=>by simp at hu)
        ·have uu:aA m' 0=ag:=by
          cases uu:aA m' 0 with
          |false=>rfl
          |true=>exact absurd (ck uu) h0
         rw[uu];refine qN w gr ⟨ids.getD i 0,0,ae⟩ m' cc _ hlen (λj u hj=>?_) nF;rw[iK,cell_of aS];simp only[ak,cl,cT];have WZ:j<((bo m').flatMap f).length:=by
          rcases c9 j ((bo m').flatMap f).length with h|h
          ·exact h
          ·rw[ju h]at hj;cases hj
         rw[jX,dS,gm WZ];exact hj
       have e1:lits ids ids bl++au (LG.bj u::LG.core g fB::LG.row r::rest) R=(lits ids ids bl++(cw u++(g.F.B++fB)))++(r.bl++au rest R):=by
        simp only[lgB,bW]
       rw[e1]at S;have jM:(r.n+m')*cd<=140737488355328:=ia (Nat.mul_le_mul hn q4) dC;obtain⟨v,w',bT,hc,x',c',bl',rfl,gp,qe⟩:=DP (P:=P) (ty:=o.type) r.h (λy hy=>S.at' (by simp[hy])) cd fi ht hi jM (ia hn dC);have S2:=S.vw r.h.wr hc (λy hy=>(qe y hy).1) (λy hy=>(qe y hy).2) gp.pw;refine⟨_,[],bl,_,w',.inl ?_,by simpa using hl,?_,hK ⟨r.T,r.z,_,x',r.n+m',c',bl',gp⟩ rfl rfl rfl rfl⟩
       ·obtain⟨mR,ar,iO⟩:=c;simp only at ff cN dU;have e2:ar=#[s,xs]:=by rw[<-cN]
        have e3:iO=#[t,tx]:=by rw[<-dU]
        subst ff e2 e3;have:=jJ (P:=P) (ρ:=ρ) (o:=o) ho (sv:=.slice r.x r.n r.c) (xv:=.slice (bif aA m' 0 then x else aa ⟨ids.getD i 0,0,ae⟩) m' cc) (by rw[bd,hs];simp only[bx.v,den]) (by rw[bd,fS];simp only[den]) bT;simpa[den,bx.v]using this
       ·rw[cT];have e4:lits ids ids bl++au (LG.bj u::LG.core g fB::LG.row ⟨r.T,r.z,r.os++(bo m').flatMap f,x',r.n+m',c',bl',gp⟩::rest) R=(lits ids ids bl++(cw u++(g.F.B++fB)))++(bl'++au rest R):=by
         simp only[lgB,bW]
        rw[e4];exact S2
     ·exact h.elim
    ·exact h.elim
   ·exact h.elim
  ·exact h.elim
 ·exact h.elim
end
end Go.Proofs.YtddcipamdggcnaaGreatDoor
namespace Vx
open Go Go.RowKit Go.BigFrame Sx
variable{G:Type} [Bl G]
def scK (rec:List V->List VB->List G->ov G->Prop) (K:ov G):ov G:=λe fr bl ch=>match e with
 |.normal=>rec fr bl ch K
 |_=>False
def OF (C:Ctx G) (n:Nat) (f:fl) (args:List V) (bl:List VB) (ch:List G) (K:VK G):Prop:=match C.P.funcs[f]?with
 |some fn=>(match fn.body with
  |some (.seq a (.scope b))=>uy C n a (args++pg (fn.ntmps-args.length)) bl ch (scK (uy C n b) (B8 C.P fn K))
  |_=>False)
 |none=>False
def at1 {C:Ctx G} (hT:∀f c,C.T f=aa c->Sound C.P C.gl f c) (hQ:nG C) (n:Nat) {f:Nat} {args:List V} {ids:List Nat} {bl:List VB} {ch:List G} {R:List ao} {ms:List Nat} {w0 w:aj} {K:VK G}
 (hg:Gl C.gl ids) (hl:ids.length=bl.length) (S:St ms w0 (lits ids ids bl++au ch R) w) (h:OF C n f args bl ch K):
 aX C.P f (aE ids args).toArray w λv w'=>∃x more bl' ch',v=den (ids++more) x/\(ids++more).length=bl'.length/\St ms w0 (lits (ids++more) (ids++more) bl'++au ch' R) w'/\K x bl' ch':=by
 unfold OF at h;split at h
 ·rename_i fn hf;split at h
  ·rename_i a b hb;refine calls_of_wp hf hb ?_;have e:({tmps:=(aE ids args).toArray++zm (fn.ntmps-(aE ids args).toArray.size) undef,defers:=[]}:Act)=act ids (args++pg (fn.ntmps-args.length)):=by
    simp only[act,RS,RR];congr 1;apply fD;simp[rj]
   rw[e];refine wp_seq (wpIn_wide (n:=0)|>.1 (sound hT hQ n ae a hg hl S h ?_).1);intro e1 B2 more jy R2 w1 g1 g2 g3;unfold scK at g3;split at g3
   ·refine wp_scope_straight (wpIn_wide (n:=0)|>.1 (sound hT hQ n ae b (hg.app more) g1 g2 g3 ?_).1);intro e2 o9 cn bl2 ch2 w2 k1 k2 k3;have key:=aas (R':=λv w'=>∃x more bl' ch',v=den (ids++more) x/\(ids++more).length=bl'.length/\St ms w0 (lits (ids++more) (ids++more) bl'++au ch' R) w'/\K x bl' ch') k1 k2 k3 (λx hx=>by
     rw[bW]at k1 k2⊢;exact⟨x,more++cn,bl2,ch2,rfl,k1,k2,hx⟩)
    cases e2<;>first|exact key|(unfold B8 at k3;exact k3.elim)
   ·exact g3.elim
  ·exact h.elim
 ·exact h.elim
end Vx
namespace Go.Proofs.YtddcipamdggcnaaGreatDoor
open Go Go.RowKit Go.BigFrame Sx Vx
variable{fr:Sd.aO->Nat×Sd.ax}
def nY (T z:Nat) (s:V) (m:Nat) (news:List ai) (bl:List VB) (K:VK (LG fr)):List (LG fr)->List (LG fr)->Prop
 |_,[]=>False
 |pre,.row g::l=>bif aA g.T T then cond (aA g.z z) ((s=g.v/\g.n+m<=1000000)/\∀(x:Option aI) (c:Nat) (bk:List ao) (h:dD z T (g.os++news) x (g.n+m) c bk),K (.raw (.slice x (g.n+m) c)) bl (pre++.row ⟨T,z,g.os++news,x,g.n+m,c,bk,h⟩::l)) False
  else nY T z s m news bl K (pre++[.row g]) l
 |pre,g::l=>nY T z s m news bl K (pre++[g]) l
def JE (P:aG):(bg->V)->Op->List VB->List (LG fr)->VK (LG fr)->Prop:=λe op bl ch K=>match op with
 |.call c=>(match c.callee,c.args.toList,c.argTypes.toList with
  |.builtin .append,[s,xs],[t,tx]=>(match P.underlying t,P.underlying tx with
   |some (.slice T),aa (.slice _)=>(match uB P T with
    |some (z,cd)=>(match e xs with
     |.sl i 0 m _=>(match bl[i]?with
      |some b=>cond (aA (cD b.c) (m*z)&&(bu 0 b.c&&(nA b.c&&bZ cd 10000000))) (nY T z (e s) m (ak [] b.c) bl K [] ch) False
      |none=>False)
     |.eW i 0 m cc x=>(match bl[i]?with
      |some ⟨_,_,[.iD z' m' f,.rest _]⟩=>cond (aA z z'&&bZ cd 10000000) ((m'=m/\(∀j,(f j).length=z)/\(∀j u,u∈f j->u.oneCell'=af))/\nY T z (e s) m ((bo m).flatMap f) bl K [] ch) False
      |_=>False)
     |_=>False)
    |none=>False)
   |_,_=>False)
  |_,_,_=>False)
 |_=>False
def aeH {T z:Nat} {s:V} {m:Nat} {news:List ai} {bl:List VB} {K:VK (LG fr)}:∀(ch pre:List (LG fr)),nY T z s m news bl K pre ch->∃(l1:List (LG fr)) (g:bx) (l2:List (LG fr)),ch=l1++.row g::l2/\g.T=T/\g.z=z/\s=g.v/\g.n+m<=1000000/\
 ∀(x:Option aI) (c:Nat) (bk:List ao) (h:dD z T (g.os++news) x (g.n+m) c bk),K (.raw (.slice x (g.n+m) c)) bl ((pre++l1)++.row ⟨T,z,g.os++news,x,g.n+m,c,bk,h⟩::l2)
 |[],pre,h=>h.elim
 |g0::l,pre,h=>by
  have step:∀g0,nY T z s m news bl K (pre++[g0]) l->∃(l1:List (LG fr)) (g:bx) (l2:List (LG fr)),g0::l=l1++.row g::l2/\g.T=T/\g.z=z/\s=g.v/\g.n+m<=1000000/\
   ∀(x:Option aI) (c:Nat) (bk:List ao) (h:dD z T (g.os++news) x (g.n+m) c bk),K (.raw (.slice x (g.n+m) c)) bl ((pre++l1)++.row ⟨T,z,g.os++news,x,g.n+m,c,bk,h⟩::l2):=by
   intro g0 h;obtain⟨l1,g',l2,rfl,h1,h2,h3,h4,h5⟩:=aeH l _ h;refine⟨g0::l1,g',l2,rfl,h1,h2,h3,h4,?_⟩;intro x c bk hh;have:=h5 x c bk hh;simpa[bW]using this
  cases g0 with
  |row g=>
   unfold nY at h;cases hb:aA g.T T with
   |true=>
    rw[hb]at h;simp only[cond_true]at h;cases hz:aA g.z z with
    |false=>rw[hz]at h;exact h.elim
    |true=>
     rw[hz]at h;exact⟨[],g,l,rfl,ck hb,ck hz,h.1.1,h.1.2,by simpa using h.2⟩
   |false=>rw[hb]at h;exact step _ h
  |bj u=>unfold nY at h;exact step _ h
  |core g fB=>unfold nY at h;exact step _ h
  |yl y=>unfold nY at h;exact step _ h
  |b8 b=>unfold nY at h;exact step _ h
  |nX b=>unfold nY at h;exact step _ h
  |rd b=>unfold nY at h;exact step _ h
  |lX b=>unfold nY at h;exact step _ h
  |oH b=>unfold nY at h;exact step _ h
  |jr b=>unfold nY at h;exact step _ h
def W0 {P:aG} {gl:Nat->Option Nat}:ik P gl (JE (fr:=fr) P):=by
 intro e op ids bl ch R ms w0 w K ρ o hg hl S bd ho h;unfold JE at h;split at h
 ·rename_i c;split at h
  ·rename_i s xs t tx ff cN dU;split at h
   ·rename_i T T' ht gr;split at h
    ·rename_i z cd cu;have key:∀(m cc:Nat) (a:Option aI) (news:List ai),bZ cd 10000000=af->ρ xs=.slice a m cc->Src P z tx (.slice a m cc) m news w->nY T z (e s) m news bl K [] ch->
      ∃x more bl' ch' w',((execOp ρ o).run P w=.ok (.value (den (ids++more) x)) w'\/((execOp ρ o).run P w=.ok .skip w'/\x=fU))/\(ids++more).length=bl'.length/\St ms w0 (lits (ids++more) (ids++more) bl'++au ch' R) w'/\K x bl' ch':=by
      intro m cc a news q4 uj fi h;have q4:=eO q4;obtain⟨l1,g,l2,rfl,rfl,rfl,hs,hn,hK⟩:=aeH _ _ h;have hi:=Hm cu;have e1:lits ids ids bl++au (l1++.row g::l2) R=(lits ids ids bl++au l1 [])++(g.bl++au l2 R):=by
       rw[kY,fe (au (.row g::l2) R) l1];simp only[au,bW];rfl
      rw[e1]at S;have jM:(g.n+m)*cd<=140737488355328:=ia (Nat.mul_le_mul hn q4) dC;obtain⟨v,w',bT,hc,x',c',bl',rfl,gp,qe⟩:=DP (P:=P) (ty:=o.type) g.h (λy hy=>S.at' (by simp[hy])) cd fi ht hi jM (ia hn dC);have S2:=S.vw g.h.wr hc (λy hy=>(qe y hy).1) (λy hy=>(qe y hy).2) gp.pw;refine⟨_,[],bl,_,w',.inl ?_,by simpa using hl,?_,hK x' c' bl' gp⟩
      ·obtain⟨mR,ar,iO⟩:=c;simp only at ff cN dU;have e2:ar=#[s,xs]:=by rw[<-cN]
       have e3:iO=#[t,tx]:=by rw[<-dU]
       subst ff e2 e3;have:=jJ (P:=P) (ρ:=ρ) (o:=o) ho (sv:=.slice g.x g.n g.c) (xv:=.slice a m cc) (by rw[bd,hs];simp only[bx.v,den]) uj bT;simpa[den]using this
      ·rw[cT];have e4:lits ids ids bl++au (([]++l1)++.row ⟨g.T,g.z,g.os++news,x',g.n+m,c',bl',gp⟩::l2) R=(lits ids ids bl++au l1 [])++(bl'++au l2 R):=by
        rw[fQ,kY,fe (au (_::l2) R) l1];simp only[au,bW];rfl
       rw[e4];exact S2
     split at h
     ·rename_i i m cc fS;split at h
      ·rename_i b hb;cases hq:aA (cD b.c) (m*z)&&(bu 0 b.c&&(nA b.c&&bZ cd 10000000))with
       |false=>rw[hq]at h;exact h.elim
       |true=>
        rw[hq]at h;simp only[cond_true]at h;simp only[bD]at hq;obtain⟨q1,q2,q3,q4⟩:=hq;have q1:=ck q1;have hd:ak ids b.c=ak [] b.c:=by have:=jl (ids:=[]) (more:=ids) b.c q2;simpa using this
        have aS:=(gx hl S hb).2;have hlen:(ak [] b.c).length=m*z:=by rw[<-q1];exact lF b.c
        refine key m cc (aa ⟨ids.getD i 0,0,ae⟩) _ q4 (by rw[bd,fS];simp only[den]) ?_ h;refine qN w gr ⟨ids.getD i 0,0,ae⟩ m cc _ hlen (λj u hj=>?_) (λu hu=>BJ q3 u hu);rw[iK,cell_of aS,hd];simpa using hj
      ·exact h.elim
     ·rename_i i m cc x fS;split at h
      ·rename_i wr ty z' m' f us hb;cases hq:aA z z'&&bZ cd 10000000 with
       |false=>rw[hq]at h;exact h.elim
       |true=>
        rw[hq]at h;simp only[cond_true]at h;simp only[bD]at hq;obtain⟨q1,q4⟩:=hq;obtain rfl:=ck q1;obtain⟨⟨rfl,hf,WY⟩,h⟩:=h;have aS:=(gx hl S hb).2;have hlen:=WX hf m';have nF:∀u∈(bo m').flatMap f,u.oneCell'=af:=λu hu=>by
         obtain⟨j,_,hj⟩:=List.mem_flatMap.1 hu;exact WY j u hj
        refine key m' cc (bif aA m' 0 then x else aa ⟨ids.getD i 0,0,ae⟩) _ q4 (by rw[bd,fS];simp only[den]) ?_ h;by_cases h0:m'=0
        ·subst h0;cases x with
         |none=>exact Src.ofNil w gr cc
         |some a=>exact qN w gr a 0 cc [] sP (λj u hj=>by simp at hj) (λu hu=>by simp at hu)
        ·have uu:aA m' 0=ag:=by
          cases uu:aA m' 0 with
          |false=>rfl
          |true=>exact absurd (ck uu) h0
         rw[uu];refine qN w gr ⟨ids.getD i 0,0,ae⟩ m' cc _ hlen (λj u hj=>?_) nF;rw[iK,cell_of aS];simp only[ak,cl,cT];have WZ:j<((bo m').flatMap f).length:=by
          rcases c9 j ((bo m').flatMap f).length with h|h
          ·exact h
          ·rw[ju h]at hj;cases hj
         rw[jX,dS,gm WZ];exact hj
      ·exact h.elim
     ·exact h.elim
    ·exact h.elim
   ·exact h.elim
  ·exact h.elim
 ·exact h.elim
def AT (P:aG) (gl:Nat->Option Nat) (L:List (bK (LG fr))) (lp:Nat->List V->Option (Lp (LG fr))):Ctx (LG fr):=⟨P,qc L,gl,s8 L,JE P,W0,lp,xi,zW⟩
def aeI {P:aG} {gl:Nat->Option Nat} {L:List (bK (LG fr))} {lp:Nat->List V->Option (Lp (LG fr))} (h:aH P gl L):∀f c,(AT P gl L lp).T f=aa c->Sound (AT P gl L lp).P (AT P gl L lp).gl f c:=h.T
def aeJ {P:aG} {gl:Nat->Option Nat} {L:List (bK (LG fr))} {lp:Nat->List V->Option (Lp (LG fr))} (h:aH P gl L):nG (AT P gl L lp):=h.Q
end Go.Proofs.YtddcipamdggcnaaGreatDoor
namespace Go.Proofs.YtddcipamdggcnaaGreatDoor
section
open Go Go.RowKit Go.BigFrame Sx Vx
variable{fr:Sd.aO->Nat×Sd.ax}
def qB (p:Int×lY):List ai:=[.int .i64 p.1,.slice p.2.x p.2.n p.2.c]
inductive ly:List (Int×lY)->List dq->List Sd.It->Prop
 |nil:ly [] [] []
 |W3 {L bs fC} (h:ly L bs fC) (code:Int) (i:Sd.It) (h1:i.code=code) (h2:i.n=0) (h3:By i.f):ly (L++[(code,⟨ae,0,0⟩)]) bs (fC++[i])
 |body {L bs fC} (h:ly L bs fC) (b:dq) (i:Sd.It) (h1:i.code=0) (h2:i.n=b.n) (h3:∀j,b.f j=i.f j) (h4:b.x.isSome=af) (h5:b.n<=32) (h6:By b.f):ly (L++[(0,⟨b.x,b.n,b.c⟩)]) (bs++[b]) (fC++[i])
def OG (N:Nat) (f:Nat->Int) (o n c k:Nat) (os:List ai) (bs:List dq):Prop:=∃L fC q,k=L.length/\os=L.flatMap qB/\ly L bs fC/\o+n<=N/\n<=c/\k+n<=N/\n<=q/\(n=0\/o+n=N)/\
 (Sd.iW b9 N N f).1=fC++(Sd.iW b9 q n (λj=>f (o+j))).1/\(Sd.iW b9 N N f).2.1=(Sd.iW b9 q n (λj=>f (o+j))).2.1/\∀j,j<(Sd.iW b9 N N f).2.1->(Sd.iW b9 N N f).2.2 j=(Sd.iW b9 q n (λj=>f (o+j))).2.2 j
structure AU (N:Nat) (f:Nat->Int) where
 o:Nat
 n:Nat
 c:Nat
 k:Nat
 os:List ai
 x:Option aI
 cc:Nat
 bk:List ao
 h:dD 2 140 os x k cc bk
 bs:List dq
 g:OG N f o n c k os bs
def qD:List dq->List (LG fr)
 |[]=>[]
 |b::l=>.b8 b::qD l
section
variable(N:Nat) (f:Nat->Int) (us:List ai)
def W4 (s:AU N f):List V:=[.sl 0 s.o s.n s.c,.raw (.slice s.x s.k s.cc)]
def JF (s:AU N f):List (LG fr):=.row ⟨140,2,s.os,s.x,s.k,s.cc,s.bk,s.h⟩::qD s.bs
def W5:Lp (LG fr):=Ah (X:=AU N f) (λs=>s.n) 35 1 [0,4] (W4 N f) (λ_=>[jV N f us]) (JF N f) (λ_=>rfl) (λ_=>rfl) (λ_=>rfl)
def JG (fr:Sd.aO->Nat×Sd.ax):List (bK (LG fr)):=[⟨88,ag,Ol⟩]
def at2:aH (G:=LG fr) prog cJ (JG fr):=aH.cons ⟨atZ,λe=>by cases e⟩ aH.nil
def OH:bx:=bx.nil 140 2
def jD (s:AU N f):Sd.Fd:=Sd.eg b9 s.n (λj=>f (s.o+j))
def OI (s:AU N f) (v:V) (ch:List (LG fr)):Prop:=
 ((0:Int)<=((jD N f s).size:Nat)/\(((jD N f s).size:Nat):Int)<=(s.n:Int))/\af=af/\xI (λs:AU N f=>s.n) (W4 N f) (λ_=>[jV N f us]) (JF N f) s
   [.sl 0 (bif aA s.c (((jD N f s).size:Nat):Int).toNat then s.o else s.o+(((jD N f s).size:Nat):Int).toNat) (s.n-(((jD N f s).size:Nat):Int).toNat) (s.c-(((jD N f s).size:Nat):Int).toNat),v] [jV N f us] ch
def alX (c:Nat) (K:VK (LG fr)):Prop:=(af=af/\xH (W4 N f) (λ_=>[jV N f us]) (JF (fr:=fr) N f) [.sl 0 0 N c,.raw cj] [jV N f us] [.row OH])/\∀(s:AU N f) (g:Nat->ai),
 (s.o+s.n<=N/\s.n<=s.c/\s.n<=1000000/\∀j,j<N->0<=f j/\f j<=255)/\
 ((jD N f s).kind=0->K (.ay [.raw (.slice s.x s.k s.cc),.int .i64 (s.n:Int)]) [jV N f us] (JF N f s))/\
 ((jD N f s).kind=1->OI (fr:=fr) N f us s (.raw (.slice s.x s.k s.cc)) (JF N f s))/\
 ((jD N f s).kind=3->(V.raw (.slice s.x s.k s.cc)=V.raw (.slice s.x s.k s.cc)/\s.k+1<=1000000)/\∀(x:Option aI) (c:Nat) (bk:List ao) (h:dD 2 140 (s.os++[.int .i64 (jD N f s).code,cj]) x (s.k+1) c bk),
   OI (fr:=fr) N f us s (.raw (.slice x (s.k+1) c)) (.row ⟨140,2,s.os++[.int .i64 (jD N f s).code,cj],x,s.k+1,c,bk,h⟩::qD s.bs))/\
 ((jD N f s).kind=2->∀b:dq,b.n=(jD N f s).n->(∀j,b.f j=(jD N f s).f j)->b.x.isSome=af->(V.raw (.slice s.x s.k s.cc)=V.raw (.slice s.x s.k s.cc)/\s.k+1<=1000000)/\
   ∀(x:Option aI) (c:Nat) (bk:List ao) (h:dD 2 140 (s.os++[.int .i64 0,b.v]) x (s.k+1) c bk),
   OI (fr:=fr) N f us s (.raw (.slice x (s.k+1) c)) (.row ⟨140,2,s.os++[.int .i64 0,b.v],x,s.k+1,c,bk,h⟩::(qD s.bs++[.b8 b])))
def at3 (c:Nat) (K:VK (LG fr)):OF (AT prog cJ (JG fr) (λi _=>ph 0 (W5 N f us) i)) 60 75 [.sl 0 0 N c] [jV N f us] [.row OH] (bA 1 K)=alX N f us c K:=kR
end
def ly.len {L:List (Int×lY)} {bs:List dq} {fC:List Sd.It} (h:ly L bs fC):L.length=fC.length:=by
 induction h with
 |nil=>rfl
 |W3 h code i h1 h2 h3 ih=>simp[ih]
 |body h b i h1 h2 h3 h4 h5 h6 ih=>simp[ih]
def at4 (q:Nat) (g:Sd.ax):Sd.iW b9 q 0 g=([],0,g):=Sd.aeB rfl
def aeK:∀(a:List dq) (b:dq),qD (fr:=fr) (a++[b])=qD a++[.b8 b]
 |[],_=>rfl
 |x::a,b=>by simp only[fm,qD,aeK a b]
def at5 {n:Nat} {g:Nat->Int} (hg:By g):By (Sd.eg b9 n g).f:=by
 have h0:By Sd.Dj:=λj=>⟨Int.le_refl 0,by show(0:Int)<=255;decide⟩;unfold Sd.eg
 repeat' split
 all_goals first|exact h0|exact λj=>hg _
section
variable{N:Nat} {f:Nat->Int} {us:List ai}
def OG.step {o n c k:Nat} {os:List ai} {bs:List dq} (h:OG N f o n c k os bs) (hf:By f) {d:Sd.Fd} (hd:d=Sd.eg b9 n (λj=>f (o+j))) (h0:d.kind≠0) {os':List ai} {bs':List dq} {k':Nat}
 (pC:∀L fC,ly L bs fC->∃L',ly (L++L') bs' (fC++Sd.u7 d)/\os'=os++L'.flatMap qB/\k'=k+L'.length/\L'.length<=1):
 d.size<=n/\n-d.size<n/\OG N f (bif aA c d.size then o else o+d.size) (n-d.size) (c-d.size) k' os' bs':=by
 obtain⟨L,fC,q,h1,h2,h3,h4,h5,h6,h7,h8,h9,mu,nV⟩:=h;have dc:=Sd.OB (crc:=b9) n (λj=>f (o+j)) (by rw[<-hd];exact h0) (λj=>(hf _).1);rw[<-hd]at dc;obtain⟨L',g1,g2,g3,g4⟩:=pC L fC h3;refine⟨dc.2,oM,L++L',fC++Sd.u7 d,q-1,by simp[h1,g3],by rw[g2,h2,Bi],g1,?_,oM,oM,oM,?_,?_⟩
 ·cases hb:aA c d.size with
  |true=>simp only[cond_true];omega
  |false=>simp only[cond_false];omega
 ·cases hb:aA c d.size with
  |true=>have:=ck hb;exact .inl oM
  |false=>simp only[cond_false];omega
 ·obtain⟨q',rfl⟩:∃q',q=q'+1:=⟨q-1,oM⟩;have e:Sd.iW b9 (q'+1) n (λj=>f (o+j))=(Sd.u7 d++(Sd.iW b9 q' (n-d.size) (λj=>f (o+(d.size+j)))).1,(Sd.iW b9 q' (n-d.size) (λj=>f (o+(d.size+j)))).2):=by
   conv=>lhs;unfold Sd.iW
   dsimp only;rw[<-hd,if_neg h0]
  rw[e]at h9 mu nV;rw[Nat.add_sub_cancel];cases hb:aA c d.size with
  |true=>
   have hc:=ck hb;have hn:n-d.size=0:=oM;rw[hn,at4]at h9 mu nV⊢;simp only at h9 mu nV⊢;refine⟨by rw[h9];simp,mu,λj hj=>?_⟩;rw[mu]at hj;omega
  |false=>
   simp only[cond_false];have ef:(λj=>f (o+d.size+j))=λj=>f (o+(d.size+j)):=by funext j;rw[tY]
   rw[ef];refine⟨by rw[h9,bW],mu,nV⟩
def W6 {s:AU N f} (hf:By f) (h0:(jD N f s).kind≠0) {os':List ai} {bs':List dq} {k':Nat} (pC:∀L fC,ly L s.bs fC->∃L',ly (L++L') bs' (fC++Sd.u7 (jD N f s))/\os'=s.os++L'.flatMap qB/\k'=s.k+L'.length/\L'.length<=1)
 {x:Option aI} {cc:Nat} {bk:List ao} {h:dD 2 140 os' x k' cc bk} {ch:List (LG fr)} (cz:ch=.row ⟨140,2,os',x,k',cc,bk,h⟩::qD bs'):OI (fr:=fr) N f us s (.raw (.slice x k' cc)) ch:=by
 obtain⟨h1,h2,h3⟩:=s.g.step hf (d:=jD N f s) rfl h0 pC;refine⟨⟨oM,oM⟩,rfl,⟨_,_,_,k',os',x,cc,bk,h,bs',h3⟩,?_,?_,rfl,cz⟩
 ·exact h2
 ·rfl
def at6 (hf:By f) {c:Nat} (hN:N<=c) (hb:N<=1000000) {K:VK (LG fr)}
 (hK:∀(L:List (Int×lY)) (bs:List dq) (n:Nat) (g:Sd.ax) (x:Option aI) (cc:Nat) (bk:List ao) (h:dD 2 140 (L.flatMap qB) x L.length cc bk),ly L bs (Sd.iW b9 N N f).1->n=(Sd.iW b9 N N f).2.1->n<=N->L.length<=N->(∀j,j<n->(Sd.iW b9 N N f).2.2 j=f (N-n+j))->
  K (.ay [.raw (.slice x L.length cc),.int .i64 (n:Int)]) [jV N f us] (.row ⟨140,2,L.flatMap qB,x,L.length,cc,bk,h⟩::qD bs)):alX N f us c K:=by
 refine⟨⟨rfl,⟨0,N,c,0,[],ae,0,[],uf 2 _,[],⟨[],[],N,rfl,rfl,.nil,oM,hN,oM,cY _,.inr oM,?_,?_,?_⟩⟩,rfl,rfl,rfl⟩,λs g=>⟨?_,?_,?_,?_,?_⟩⟩
 ·simp
 ·simp
 ·simp
 ·obtain⟨L,fC,q,h1,h2,h3,h4,h5,h6,h7,h8,h9,mu,nV⟩:=s.g;exact⟨h4,h5,oM,λj _=>hf j⟩
 ·intro h0;obtain⟨o,n,cs,k,os,x,cc,bk,h,bs,L,fC,q,h1,h2,h3,h4,h5,h6,h7,h8,h9,mu,nV⟩:=s;subst h1 h2;have h0:(Sd.eg b9 n (λj=>f (o+j))).kind=0:=h0;rw[Sd.aeB h0]at h9 mu nV;simp only[cT]at h9 mu nV;refine hK L bs n (λj=>f (o+j)) x cc bk h (by rw[h9];exact h3) mu.symm oM oM ?_;intro j hj;rw[nV j (by rw[mu];exact hj)];rcases h8 with h8|h8
  ·omega
  ·rw[show N-n+j=o+j by omega]
 ·intro hk;exact W6 hf (by rw[hk];decide) (os':=s.os) (bs':=s.bs) (k':=s.k) (λL fC h=>⟨[],by have e:Sd.u7 (jD N f s)=[]:=(by unfold Sd.u7;rw[hk];rfl);rw[e];simpa using h,sP,rfl,oQ _⟩) (h:=s.h) rfl
 ·intro hk;have hle:s.k+1<=1000000:=by
   obtain⟨L,fC,q,h1,h2,h3,h4,h5,h6,h7,h8,h9,mu,nV⟩:=s.g;have:=Sd.OB (crc:=b9) s.n (λj=>f (s.o+j)) (by show(jD N f s).kind≠0;rw[hk];decide) (λj=>(hf _).1);omega
  refine⟨⟨rfl,hle⟩,λx c bk h=>?_⟩;refine W6 hf (by rw[hk];decide) (bs':=s.bs) (k':=s.k+1) (λL fC hL=>⟨[((jD N f s).code,⟨ae,0,0⟩)],?_,by simp[qB,cj],rfl,cY _⟩) (h:=h) rfl;have e:Sd.u7 (jD N f s)=[⟨(jD N f s).code,0,Sd.Dj⟩]:=by unfold Sd.u7;rw[hk];rfl
  rw[e];exact .W3 hL _ _ rfl rfl (λj=>⟨Int.le_refl 0,by show(0:Int)<=255;decide⟩)
 ·intro hk b h1 h2 h3;have hle:s.k+1<=1000000:=by
   obtain⟨L,fC,q,h1,h2,h3,h4,h5,h6,h7,h8,h9,mu,nV⟩:=s.g;have:=Sd.OB (crc:=b9) s.n (λj=>f (s.o+j)) (by show(jD N f s).kind≠0;rw[hk];decide) (λj=>(hf _).1);omega
  refine⟨⟨rfl,hle⟩,λx c bk h=>?_⟩;refine W6 hf (by rw[hk];decide) (bs':=s.bs++[b]) (k':=s.k+1) (λL fC hL=>⟨[(0,⟨b.x,b.n,b.c⟩)],?_,by simp[qB,dq.v],rfl,cY _⟩) (h:=h) (by rw[aeK]);have e:Sd.u7 (jD N f s)=[⟨0,(jD N f s).n,(jD N f s).f⟩]:=by unfold Sd.u7;rw[hk];rfl
  rw[e];refine .body hL b _ rfl h1.symm h2 h3 (by rw[h1];exact Sd.atK _ _) (λj=>?_);rw[h2 j];exact at5 (λj=>hf _) j
end
end
end Go.Proofs.YtddcipamdggcnaaGreatDoor
namespace Sx
open Go Go.RowKit Go.BigFrame Vx
def St.join {ms:List Nat} {w0 w w':aj} {B N:List ao} (S:St ms w0 B w) (S':St [] w N w') (hw:∀y∈N,y.wr=af):St ms w0 (N++B) w':=by
 have hq:=S.quiet S'.ch;have fh:∀y∈N,w.heap.size<=y.id:=λy hy=>(S'.nu hy (hw y hy)).resolve_left sP;refine St.mk' hq.ch ?_ ?_ ?_
 ·intro x hx;rcases eI.1 hx with hx|hx
  ·exact S'.at' hx
  ·exact hq.at' hx
 ·intro x hx h;rcases eI.1 hx with hx|hx
  ·exact .inr (ia S.ch.size (fh x hx))
  ·exact hq.nu hx h
 ·rw[Ky];refine⟨S'.pw,hq.pw,λx hx y hy _=>?_⟩;have h1:=fh x hx;have h2:=S.ge hy;omega
def at7 {P:aG} {w:aj} {b n c m T:Nat} {f g:Nat->Int} (aS:w.heap[b]?=aa (.cells (bE n f c) T (0,0))) (l9:n+m<=c)
 {t tx ty:aM} {xv:ai} (hs:Src P 1 tx xv m (cI m g) w) (ht:P.underlying t=aa (.slice T)) (hi:(P.info? T).map (λi=>(i.zero.map (·.cells),i.size,i.bytes))=aa (aa #[.int .u8 0],1,1)):
 ∃w',(nh #[t,tx] ty #[.slice (aa ⟨b,0,ae⟩) n c,xv]).run P w=.ok (.slice (aa ⟨b,0,ae⟩) (n+m) c) w'/\Ch [b] w w'/\w'.heap[b]?=aa (.cells (bE (n+m) (cx n f g) c) T (0,0)):=by
 obtain⟨i,cu,hi⟩:=iX.1 hi;simp only[bC]at hi;obtain⟨hz,dc,j6⟩:=hi;obtain⟨z0,nv,pV⟩:=iX.1 hz;have j7:n<=c:=oM;have ie:Src P i.size tx xv m (cI m g) w:=by rw[dc];exact hs
 rcases tU m with j8|j8
 ·subst j8;refine⟨w,run_append_nothing (P:=P) w t tx ty T i ht cu (aa ⟨b,0,ae⟩) n c j7 xv ie,Ch.refl _ _,?_⟩;have e:cI (n+0) (cx n f g)=cI n f:=DX λj hj=>by simp[cx,GR (show j<n by omega)]
  have e2:bE (n+0) (cx n f g) c=bE n f c:=by unfold bE;rw[e];rfl
  rw[e2];exact aS
 ·have fE:=run_storeCells_at (P:=P) b n T (cI m g) 0 (bE n f c) w aS (by rw[Zk f j7,gf];omega) hs.one;simp only[lA,gf]at fE;have bT:(nh #[t,tx] ty #[.slice (aa ⟨b,0,ae⟩) n c,xv]).run P w=.ok (.slice (aa ⟨b,0,ae⟩) (n+m) c) (w.setRow b ((bE n f c).toList.take n++cI m g++(bE n f c).toList.drop (n+m)).toArray):=by
   rcases ie.kind with⟨e',hk⟩|hk<;>simp[nh,dw ht,dw hk,pN,typeInfo,cu,ie.len,l9,hs.cells,iK,dc,fE,je]
  refine⟨_,bT,Ch.setRow w b _,?_⟩;have:=setRow_heap w b (bE n f c) ((bE n f c).toList.take n++cI m g++(bE n f c).toList.drop (n+m)).toArray T (0,0) aS;rw[this];congr 2;unfold bE;congr 1;show(cI n f++_).take n++_++(cI n f++_).drop (n+m)=_;rw[List.take_left' (gf n f),<-List.drop_drop,List.drop_left' (gf n f),List.drop_replicate,<-K_];congr 2;omega
section
variable{P:aG} {ops:Array aw} {rest:List aw} {o:aw} {a:Act} {w w0:aj} {ms:List Nat} {Q:dE->Act->aj->Prop}
def aeL {R:List ao} {T b n c m:Nat} {f g:Nat->Int} {t tx:aM} {s x:bg} {xv:ai} (S:St ms w0 (⟨b,af,.cells (bE n f c) T (0,0)⟩::R) w) (hs:Src P 1 tx xv m (cI m g) w) (l9:n+m<=c)
 (k:∀w',St ms w0 (⟨b,af,.cells (bE (n+m) (cx n f g) c) T (0,0)⟩::R) w'->WL P ops Q rest (a.put o.dst (.slice (aa ⟨b,0,ae⟩) (n+m) c)) w')
 (ho:o.op=.call ⟨.builtin .append,#[s,x],#[t,tx]⟩:=by rfl) (hw:gk o (yielded ops a.tmps)=af:=by kernel_rfl) (wZ:a.eval s=.slice (aa ⟨b,0,ae⟩) n c:=by kernel_rfl) (uj:a.eval x=xv:=by kernel_rfl)
 (ht:P.underlying t=aa (.slice T):=by kernel_rfl) (cu:(P.info? T).map (λi=>(i.zero.map (·.cells),i.size,i.bytes))=aa (aa #[.int .u8 0],1,1):=by kernel_rfl):WL P ops Q (o::rest) a w:=
 WL.want hw λK hK=>by
  obtain⟨w',bT,hc,u_⟩:=at7 (P:=P) (ty:=o.type) (S.at_ 0 _ rfl) l9 hs ht cu;have S2:=S.step (i:=0) rfl rfl hc u_;unfold qK;rw[jJ ho wZ uj bT];exact hK _ _ (k w' S2)
end
end Sx
namespace Go.Proofs.YtddcipamdggcnaaGreatDoor
open Go Go.RowKit Go.BigFrame Sx Vx
def aua {P:aG} {w:aj} {t el:aM} {n:Nat} {inf:TypeInfo} {k1 k2:fH} (hu:P.underlying t=aa (.slice el)) (hi:P.info? el=aa inf) (hz:eo P el=aa (0+1)) (h0:me P el=aa [.int .u8 0]) (hn:n<=1000000) (hb:inf.bytes<=100):
 (KE t (.int k1 ((0:Nat):Int)) (.int k2 (n:Int))).run P w=.ok (.slice (aa ⟨w.heap.size,0,ae⟩) 0 n) (w.alloc (.cells (bE 0 (λ_=>0) n) el)):=by
 rcases tU n with rfl|h1
 ·have e1:(decide ((((0:Nat):Int))<0)||decide ((inf.bytes:Int)*((0:Nat):Int)>2^48))=ag:=sP;have e2:¬(0*inf.bytes>roomBytes):=sP;simp only[KE,bz,dw hu,ct,asInt,asIntOf,cZ,G0 hi,Md (oQ 1000000),e1,Bool.false_or,askRoom,if_neg e2,vn,gi hz];simp only[show decide (((0:Nat):Int)<0)=ag by simp,show decide (((0:Nat):Int)>((0:Nat):Int))=ag by simp,Bool.or_self,Bool.false_eq_true,if_false,bz,cZ,ct,gi hz];rw[if_pos trivial];simp only[bz,cZ,ct,show Array.range (0*(0+1))=#[]from rfl,Array.map_empty];rfl
 ·exact abc (ids:=[]) hu hi hz h0 h1 hn hb
def AV:Sd.aO->Nat×Sd.ax:=λ_=>(0,λ_=>0)
def aub (b N c:Nat) (f:Nat->Int) (hf:By f) (hN:N<=c) (hb:N<=1000000) (w:aj) (aS:w.heap[b]?=aa (.cells (bE N f c) 5 (0,0))):
 aX prog 75 #[.slice (aa ⟨b,0,ae⟩) N c] w λv w'=>∃(L:List (Int×lY)) (bs:List dq) (n:Nat) (g:Sd.ax) (x:Option aI) (cc:Nat) (bk:List ao),v=.tuple #[.slice x L.length cc,.int .i64 (n:Int)]/\dD 2 140 (L.flatMap qB) x L.length cc bk/\
  ly L bs (Sd.iW b9 N N f).1/\n=(Sd.iW b9 N N f).2.1/\n<=N/\L.length<=N/\(∀j,j<n->(Sd.iW b9 N N f).2.2 j=f (N-n+j))/\St [] w (bk++kZ bs) w':=by
 let us:List ai:=n_ (c-N) (.int .u8 0)
 have S:St [] w (lits [b] [b] [jV N f us]++au ([.row OH]:List (LG AV)) []) w:=by
  refine St.WR ?_;intro y hy;simp only[lits,au,cT,cF,qS,or_false,fm,fQ]at hy;rcases hy with rfl|hy
  ·refine⟨rfl,aS.trans ?_⟩;simp only[aC,jV,ak,cl,fQ,cT];rfl
  ·exact(qS hy).elim
 let X:VK (LG AV):=λv bl ch=>bl=[jV N f us]/\∃(L:List (Int×lY)) (bs:List dq) (n:Nat) (g:Sd.ax) (x:Option aI) (cc:Nat) (bk:List ao) (h:dD 2 140 (L.flatMap qB) x L.length cc bk),
  v=.ay [.raw (.slice x L.length cc),.int .i64 (n:Int)]/\ch=.row ⟨140,2,L.flatMap qB,x,L.length,cc,bk,h⟩::qD bs/\ly L bs (Sd.iW b9 N N f).1/\n=(Sd.iW b9 N N f).2.1/\n<=N/\L.length<=N/\(∀j,j<n->(Sd.iW b9 N N f).2.2 j=f (N-n+j))
 have cV:OF (AT prog cJ (JG AV) (λi _=>ph 0 (W5 N f us) i)) 60 75 [.sl 0 0 N c] [jV N f us] [.row OH] (bA 1 X):=by
  rw[at3];exact at6 hf hN hb λL bs n g x cc bk h h1 h2 h3 h4 h5=>⟨rfl,L,bs,n,g,x,cc,bk,h,rfl,rfl,h1,h2,h3,h4,h5⟩
 have hok:aH (G:=LG AV) prog cJ (JG AV):=at2;refine(at1 (C:=AT prog cJ (JG AV) (λi _=>ph 0 (W5 N f us) i)) (aeI hok) (aeJ hok) 60 (ids:=[b]) (λg i h=>by cases h) rfl S cV).mono ?_;rintro v w' ⟨y,more,bl',ch',rfl,g1,g2,hK⟩;obtain⟨v2,cn,bl2,AS,cX,S2,rfl,L,bs,n,g,x,cc,bk,h,rfl,rfl,h1,h2,h3,h4,h5⟩:=iP (n0:=1) g1 sP g2 hK;refine⟨L,bs,n,g,x,cc,bk,?_,h,h1,h2,h3,h4,h5,?_⟩
 ·rw[AS];simp only[den,aE]
 ·have eb:∀(bs:List dq),au (qD (fr:=AV) bs) []=kZ bs:=by
   intro bs;induction bs with
   |nil=>rfl
   |cons b l ih=>show b.B++au (qD l) []=b.B++kZ l;rw[ih]
  have e:au (LG.row (fr:=AV) ⟨140,2,L.flatMap qB,x,L.length,cc,bk,h⟩::qD bs) []=bk++kZ bs:=by
   show bk++au (qD bs) []=_;rw[eb]
  rw[e]at S2;exact S2.sub (kG _ _)
end Go.Proofs.YtddcipamdggcnaaGreatDoor
namespace Go.Proofs.YtddcipamdggcnaaGreatDoor
section
open Go Go.RowKit Go.BigFrame Sx Vx
def auc {n:Nat} {f g:Nat->Int} (hf:By f) (hg:By g):By (cx n f g):=by
 intro j;unfold cx;cases db j n with
 |true=>exact hf j
 |false=>exact hg _
def aeM (n:Nat) (f g:Nat->Int):cx n f g=Sd.oI n f g:=by
 funext j;unfold cx Sd.oI;by_cases h:j<n
 ·rw[GR h,if_pos h];rfl
 ·rw[Qr h,if_neg h];rfl
def dq.wr (b:dq):∀y∈b.B,y.wr=af:=by
 intro y hy;rcases b.h.2 with⟨_,_,_,e⟩|⟨_,_,e⟩<;>rw[e]at hy<;>simp at hy;subst hy;rfl
def aeN:∀(l:List dq),∀y∈kZ l,y.wr=af
 |[],_,hy=>by simp[kZ]at hy
 |b::l,y,hy=>by
  rcases eI.1 hy with hy|hy
  ·exact b.wr y hy
  ·exact aeN l y hy
def dq.key (b:dq) {w:aj} (hn:b.n<=1000000) (aS:∀y∈b.B,w.heap[y.id]?=aa y.obj):dM w b.x b.n b.c b.f:=by
 refine⟨hn,b.h.1,?_,?_⟩
 ·intro e;rcases b.h.2 with⟨_,h2,h3,_⟩|⟨bb,h2,_⟩
  ·exact⟨h2,h3⟩
  ·rw[e]at h2;cases h2
 ·intro x e j hj;rcases b.h.2 with⟨h1,_⟩|⟨bb,h2,h3⟩
  ·rw[e]at h1;cases h1
  ·rw[e]at h2;obtain rfl:=cG h2;have:=aS _ (by rw[h3];exact jZ.2 rfl);rw[iK,cell_of this,dS];simp only[bE,jX];rw[gm (by rw[gf];exact hj),rh _ hj]
def aud {ρ:bg->ai} {o:aw} {l c:bg} {n:Nat} {w:aj} (hn:n<=1000000) (ho:o.op=.makeSlice 23 l c:=by rfl) (hl:ρ l=.int .i64 ((0:Nat):Int):=by kernel_rfl) (hc:ρ c=.int .i64 ((n:Nat):Int):=by kernel_rfl):
 (execOp ρ o).run prog w=.ok (.value (.slice (aa ⟨w.heap.size,0,ae⟩) 0 n)) (w.alloc (.cells (bE 0 (λ_=>0) n) 5)):=by
 have hmk:=aua (P:=prog) (w:=w) (t:=23) (el:=5) (n:=n) (k1:=.i64) (k2:=.i64) (inf:=_) kR rfl kR kR hn dC;unfold execOp;rw[ho];simp only[hl,hc];rw[bz,hmk];rfl
section
variable{sb:Nat} {rr:dq} {xb:Option aI} {nb cb:Nat} {fb:Nat->Int} {E R:List ao} {ms:List Nat} {w0 w:aj}
def aue (hE:∀w:aj,(∀y∈E,w.heap[y.id]?=aa y.obj)->dM w xb nb cb fb) (Ht:By rr.f) (hfb:By fb) (dc:rr.n+nb<=1000000)
 (S:St ms w0 (⟨sb,af,.cells #[.slice rr.x rr.n rr.c] 133 (0,0)⟩::(rr.B++(E++R))) w):
 aX prog 54 #[.pointer (aa ⟨sb,0,ae⟩),.slice xb nb cb] w λv w'=>∃(L:List (Int×lY)) (bs:List dq) (x:Option aI) (cc:Nat) (bk:List ao) (r':dq),v=.slice x L.length cc/\dD 2 140 (L.flatMap qB) x L.length cc bk/\
  ly L bs (Sd.sd b9 (rr.n,rr.f) nb fb).1/\r'.n=(Sd.sd b9 (rr.n,rr.f) nb fb).2.1/\r'.n<=rr.n+nb/\(∀j,j<r'.n->(Sd.sd b9 (rr.n,rr.f) nb fb).2.2 j=r'.f j)/\By r'.f/\L.length<=rr.n+nb/\
  St ms w0 (⟨sb,af,.cells #[.slice r'.x r'.n r'.c] 133 (0,0)⟩::(r'.B++((bk++kZ bs)++(E++R)))) w':=by
 refine iZ Tryz.func54 rfl ?_;refine aR (aZ ?_);refine fp ?_;refine aT (aQ (aR (aZ ?_)));refine dh ?_;refine av (.pointer (aa ⟨sb,0,ae⟩)) ?_;refine av (.pointer (aa ⟨sb,0,ae⟩)) ?_;refine mF S 0 (.slice rr.x rr.n rr.c) sb 0 ?_;refine av (.int .i64 ((rr.n:Nat):Int)) ?_;refine dh ?_;refine av (.int .i64 ((nb:Nat):Int)) ?_;refine nj (.int .i64 (i64.wrap (((rr.n:Nat):Int)+((nb:Nat):Int)))) (.int .i64 ((rr.n+nb:Nat):Int)) (by rw[pH oM];rfl) ?_;refine fc S (λb=>.slice (aa ⟨b,0,ae⟩) 0 (rr.n+nb)) (.cells (bE 0 (λ_=>0) (rr.n+nb)) 5) ?_ kR ?_
 ·intro ab w1 S1;refine fp ?_;refine aT (aQ (aR (aZ ?_)));refine dh ?_;refine dh ?_;refine av (.pointer (aa ⟨sb,0,ae⟩)) ?_;refine av (.pointer (aa ⟨sb,0,ae⟩)) ?_;refine mF S1 1 (.slice rr.x rr.n rr.c) sb 0 ?_;refine aeL (n:=0) (c:=rr.n+nb) (f:=λ_=>0) (g:=rr.f) (xv:=.slice rr.x rr.n rr.c) S1 (DY (e':=5) (rr.key oM (λy hy=>S1.at' (by simp[hy])))) oM ?_;intro w2 S2;refine fp ?_;refine aT (aQ (aR (aZ ?_)));refine dh ?_;refine dh ?_;refine aeL (n:=0+rr.n) (c:=rr.n+nb) (f:=cx 0 (λ_=>0) rr.f) (g:=fb) (xv:=.slice xb nb cb) S2 (DY (e':=5) (hE _ (λy hy=>S2.at' (by simp[hy])))) oM ?_;intro w3 S3;refine fp ?_;refine aT (aQ (aR (aZ ?_)));refine dh ?_;have eN:0+rr.n+nb=rr.n+nb:=oM;have eF:cx (0+rr.n) (cx 0 (λ_=>0) rr.f) fb=Sd.oI rr.n rr.f fb:=by rw[dS,xU 0,aeM]
  have j6:By (Sd.oI rr.n rr.f fb):=by rw[<-aeM];exact auc Ht hfb
  have aeO:=S3.at_ 0 _ rfl;simp only[eN,eF]at aeO;refine fY 75 #[.slice (aa ⟨ab,0,ae⟩) (0+rr.n+nb) (rr.n+nb)] ?_;rw[eN];refine(aub ab (rr.n+nb) (rr.n+nb) (Sd.oI rr.n rr.f fb) j6 (cY _) dc w3 aeO).mono ?_;rintro _ w4 ⟨L,bs,n,g,x,cc,bk,rfl,iL,h1,h2,h3,h4,h5,S4⟩;have hwr:∀y∈bk++kZ bs,y.wr=af:=λy hy=>by
   rcases eI.1 hy with hy|hy
   ·exact iL.wr y hy
   ·exact aeN bs y hy
  have S5:=St.join S3 S4 hwr;generalize hN:rr.n+nb=N at*;refine dh ?_;refine av (.slice x L.length cc) ?_;refine av (.int .i64 (n:Int)) ?_;refine fp ?_;refine fp ?_;refine aT (aQ (aR (aZ ?_)));refine dh ?_;refine dh ?_;refine dh ?_;refine av (.int .i64 ((N:Nat):Int)) ?_;refine dh ?_;refine nj (.int .i64 (i64.wrap (((N:Nat):Int)-((n:Nat):Int)))) (.int .i64 ((N-n:Nat):Int)) (by rw[pH oM];congr 1;omega) ?_;have hnn:N-(N-n)=n:=oM;refine nj (.slice (aa ⟨ab,(if N=N-n then 0 else 0+(N-n)),ae⟩) (N-(N-n)) (N-(N-n))) (.slice (aa ⟨ab,(if N=N-n then 0 else 0+(N-n)),ae⟩) n n) (by rw[hnn]) ?_ kR (Zj (kd:=.i64) (e:=5) (k:=N-n) (n:=N) (c:=N) oM (cY _) _ rfl);have S6:St ms w0 ([⟨sb,af,.cells #[.slice rr.x rr.n rr.c] 133 (0,0)⟩]++([]++((bk++kZ bs)++(E++R)))) w4:=by
   have p:((bk++kZ bs)++(⟨ab,af,.cells (bE (0+rr.n+nb) (cx (0+rr.n) (cx 0 (λ_=>0) rr.f) fb) N) 5 (0,0)⟩::⟨sb,af,.cells #[.slice rr.x rr.n rr.c] 133 (0,0)⟩::(rr.B++(E++R)))).Perm
    ((⟨ab,af,.cells (bE (0+rr.n+nb) (cx (0+rr.n) (cx 0 (λ_=>0) rr.f) fb) N) 5 (0,0)⟩::rr.B)++(⟨sb,af,.cells #[.slice rr.x rr.n rr.c] 133 (0,0)⟩::((bk++kZ bs)++(E++R)))):=
    dR λf=>by simp only[dZ,j5];omega
   have:=(S5.perm p).sub (kG _ _);exact this
  have OJ:w4.heap[ab]?=aa (.cells (bE N (Sd.oI rr.n rr.f fb) N) 5 (0,0)):=by
   have:=S5.at' (x:=⟨ab,af,.cells (bE (0+rr.n+nb) (cx (0+rr.n) (cx 0 (λ_=>0) rr.f) fb) N) 5 (0,0)⟩) sP;rw[show 0+rr.n+nb=N by omega,eF]at this;exact this
  have h8:cA w4 ab (if N=N-n then 0 else 0+(N-n)) n (λj=>Sd.oI rr.n rr.f fb (N-n+j)):=by
   intro j hj;rw[if_neg oM,cell_of OJ];simp only[bE,jX];rw[gm (by rw[gf];omega),dS,rh _ oM]
  have hs8:=BF (P:=prog) (e':=5) (tx:=23) (c:=n) h8;refine Qx (n:=0) (c:=0) (f:=λ_=>0) (g:=λj=>Sd.oI rr.n rr.f fb (N-n+j)) (m:=n) (xs:=ae) (T:=5) (xv:=.slice (aa ⟨ab,(if N=N-n then 0 else 0+(N-n)),ae⟩) n n) S6 ⟨cY _,.inl ⟨rfl,rfl,rfl,rfl⟩⟩ hs8 oM ?_;intro xr cr Br w5 ZS S7;refine av (.pointer (aa ⟨sb,0,ae⟩)) ?_;refine av (.pointer (aa ⟨sb,0,ae⟩)) ?_;refine store_ S7 0 (.slice xr (0+n) cr) sb 0 ?_;intro w6 S8;refine aT (aQ (aR (aZ ?_)));refine dh ?_;refine fp ?_;refine aT (aQ (gC ?_));refine gD rfl (fR [.tmp 4] [.slice x L.length cc] (.slice x L.length cc) ⟨jw,trivial⟩) ?_
  let r':dq:=⟨0+n,cx 0 (λ_=>0) (λj=>Sd.oI rr.n rr.f fb (N-n+j)),xr,cr,Br,ZS⟩
  have w9:cx 0 (λ_=>0) (λj=>Sd.oI rr.n rr.f fb (N-n+j))=λj=>Sd.oI rr.n rr.f fb (N-n+j):=xU 0 _ _;have et:Sd.sd b9 (rr.n,rr.f) nb fb=Sd.iW b9 N N (Sd.oI rr.n rr.f fb):=by unfold Sd.sd;simp only[hN]
  rw[et];refine⟨L,bs,x,cc,bk,r',rfl,iL,h1,?_,?_,?_,?_,h4,?_⟩
  ·show 0+n=_;rw[dS];exact h2
  ·show 0+n<=N;omega
  ·intro j hj;have hj:j<0+n:=hj;show _=cx 0 (λ_=>0) (λj=>Sd.oI rr.n rr.f fb (N-n+j)) j;rw[w9];exact h5 j oM
  ·show By (cx 0 (λ_=>0) (λj=>Sd.oI rr.n rr.f fb (N-n+j)));rw[w9];exact λj=>j6 _
  ·exact S8.conv kR
 ·exact aud dc
end
variable{fr:Sd.aO->Nat×Sd.ax}
def auf {k:LK} {s:Sd.ah} (F:ba fr (a9 k s)) (h:Dk k) (b:dq):∃F1:ba fr (a9 (FI k b.x b.n b.c b.f) s),F1.vs=F.vs/\F1.vr=F.vr/\F1.B=F.B++b.B:=by
 refine⟨⟨F.xs,F.cs,F.xr,F.cr,F.Bq,F.Br,F.Bs,F.Bf,F.Bk++b.B,F.so,F.hq,F.hr,F.hs,F.hf,?_⟩,rfl,rfl,?_⟩
 ·obtain⟨b0,b1,b2,b3,b4,hB,h0,h1,h2,h3,h4⟩:=F.hk;have e4:b4=[]:=by
   rcases h4.2 with⟨_,_,_,e⟩|⟨y,e,_⟩
   ·exact e
   ·have:k.px=aa ⟨y,0,ae⟩:=e;rw[h.1]at this;cases this
  subst e4;exact⟨b0,b1,b2,b3,b.B,by rw[hB];simp,h0,h1,h2,h3,b.h⟩
 ·simp only[ba.B,bW]
def aug {k:LK} {s:Sd.ah} (h:Dk k) (b:dq) (F1:ba fr (a9 (FI k b.x b.n b.c b.f) s)):∃F:ba fr (a9 k s),F.vs=F1.vs/\F.vr=F1.vr/\F1.B=F.B++b.B:=by
 obtain⟨b0,b1,b2,b3,b4,hB,h0,h1,h2,h3,h4⟩:=F1.hk;have e4:b4=b.B:=by
  rcases h4.2 with⟨e,_,_,e1⟩|⟨y,e,e2⟩
  ·have e:b.x=ae:=e;rcases b.h.2 with⟨_,_,_,e3⟩|⟨z,e3,_⟩
   ·rw[e1,e3]
   ·rw[e]at e3;cases e3
  ·have e:b.x=aa ⟨y,0,ae⟩:=e;rcases b.h.2 with⟨e3,_⟩|⟨z,e3,e4⟩
   ·rw[e]at e3;cases e3
   ·rw[e]at e3;obtain rfl:y=z:=by simpa using e3
    rw[e2,e4];rfl
 subst e4;refine⟨⟨F1.xs,F1.cs,F1.xr,F1.cr,F1.Bq,F1.Br,F1.Bs,F1.Bf,b0++(b1++(b2++(b3++[]))),F1.so,F1.hq,F1.hr,F1.hs,F1.hf,⟨b0,b1,b2,b3,[],rfl,h0,h1,h2,h3,by show k.pn<=k.pc;rw[h.2.1,h.2.2];exact cY _,.inl ⟨h.1,h.2.1,h.2.2,rfl⟩⟩⟩,rfl,rfl,?_⟩;simp only[ba.B,hB,bW,cT]
def auh {bs:List dq} {b:dq} (h:b∈bs):∃Q,(kZ bs).Perm (b.B++Q):=by
 induction bs with
 |nil=>cases h
 |cons a l ih=>
  rcases cF.1 h with rfl|h
  ·exact⟨kZ l,zq _⟩
  ·obtain⟨Q,hQ⟩:=ih h;refine⟨a.B++Q,?_⟩;show(a.B++kZ l).Perm _;exact(j4 _ hQ).trans (dR λf=>by simp only[dZ];omega)
def aeP {rest:List (LG fr)} {g:LG fr} (h:g∈rest) (R:List ao):∃Q,(au rest R).Perm (Bl.B g++Q):=by
 induction rest with
 |nil=>cases h
 |cons a l ih=>
  rcases cF.1 h with rfl|h
  ·exact⟨au l R,zq _⟩
  ·obtain⟨Q,hQ⟩:=ih h;refine⟨Bl.B a++Q,?_⟩;exact(j4 _ hQ).trans (dR λf=>by simp only[dZ];omega)
def W7 (C:Sd.aL):dk (LG fr):=λargs bl ch K=>match args,ch with
 |[.ptr ic 0,.int .i64 l,.agg [.int .i64 code,.raw v]],.bj u::.core g fB::rest=>(match bl[ic]?with
  |some ⟨af,⟨131,(0,0)⟩,cc⟩=>(match CM cc with
   |some x=>(match bl[x.it]?with
    |some ⟨af,⟨181,(0,0)⟩,tc⟩=>(match tI tc with
     |some y=>cond (bY bl.length bl&&(db 1 ic&&(db 1 x.it&&!(aA ic x.it))))
      ((bl[0]?=aa (b_ g.d.k)/\bl[1]?=aa (gK g.d.k)/\x=mX g.d.k x.it (gj x y g.d g.dx g.sx)/\y.b=x.p.cO/\y.m=x.p.iM/\x.p.queue=g.d.k.most)/\
        Dk g.d.k/\∃b:dq,(v=b.v/\(b.B=[]\/∃bs,LG.nX bs∈rest/\b∈bs)/\eV g.d.k (gj x y g.d g.dx g.sx)/\cj=g.F.vs/\cj=g.F.vr/\b.n<=58/\By b.f)/\
        Di g.d.k (yU C (gj x y g.d g.dx g.sx) l code b.n b.f) λvv s' F' fn ex=>K (iA bl.length vv) (iV bl ic x.it g.d.k s'++ex) (.bj u::.core (a_ g.d.k s' F') (fn++fB)::rest)) False
     |none=>False)
    |_=>False)
   |none=>False)
  |_=>False)
 |_,_=>False
def aui (ht:Body (fr:=fr) 124 dt):Sound prog gS 55 (W7 (fr:=fr) (aP aY)):=by
 intro args ids bl ch R ms w0 w K hg hl S hc;unfold W7 at hc;split at hc
 ·rename_i ic l code v u g fB rest;split at hc
  ·rename_i cc vE;split at hc
   ·rename_i x hx;split at hc
    ·rename_i tc pE;split at hc
     ·rename_i y hy;cases hq:bY bl.length bl&&(db 1 ic&&(db 1 x.it&&!(aA ic x.it)))with
      |false=>rw[hq]at hc;exact hc.elim
      |true=>
       rw[hq]at hc;simp only[bD,n7,jt]at hq;obtain⟨qw,q2,q3,q4⟩:=hq;have n4:ic≠x.it:=λe=>by rw[e,tW]at q4;cases q4
       obtain⟨⟨e3,e4,e5,e6,e7,e8⟩,OK,b,⟨rfl,hbm,hC,v1,v2,p1,p2⟩,hT⟩:=hc;obtain rfl:=IH hx;obtain rfl:=yy hy;have H:Jt bl ic x.it g.d.k (gj x y g.d g.dx g.sx):=by
        refine⟨e3,e4,?_,?_⟩
        ·rw[vE];congr 1;unfold fy;rw[<-e5]
        ·rw[pE];congr 1;unfold fg;have:y=v3 (gj x y g.d g.dx g.sx):=by
          obtain⟨y1,y2,y3,y4,y5,y6,y7,y8⟩:=y;simp only at e6 e7;subst e6 e7;rfl
         rw[<-this]
       have l2:=lT H.hc;have l3:=lT H.ht;obtain⟨Q,hQ⟩:∃Q,(au rest R).Perm (b.B++Q):=by
        rcases hbm with e|⟨bs,h1,h2⟩
        ·exact⟨au rest R,by rw[e];exact zq _⟩
        ·obtain⟨Q1,JH⟩:=aeP h1 R;obtain⟨Q2,JI⟩:=auh h2;refine⟨Q2++Q1,JH.trans ?_⟩;rw[<-bW];exact Bc _ JI
       obtain⟨r,hr,hp⟩:=Fb (bl:=bl) (ids:=ids) hl (is:=[0,1,ic,x.it]) (by simp;omega) (by
        intro i hi;simp only[cF,qS,or_false]at hi;rcases hi with rfl|rfl|rfl|rfl<;>omega)
       have kl:=hp bl rfl;rw[Ov H hg]at kl;obtain⟨F1,f1,f2,f3⟩:=auf (k:=g.d.k) (s:=gj x y g.d g.dx g.sx) g.F OK b;have S1:=S.perm (bs':=lits (cQ (ids.getD ic 0) (ids.getD x.it 0)) (cQ (ids.getD ic 0) (ids.getD x.it 0)) (du g.d.k (gj x y g.d g.dx g.sx))++(F1.B++(cw u++((r.map λj=>aC ids (ids.getD j 0) (bl.getD j e_))++(fB++Q))))) (by
        refine(kl.append_right _).trans ?_;rw[show F1.B=ba.B (d:=g.d) g.F++b.B from f3];show(_++(cw u++((g.F.B++fB)++au rest R))).Perm _;exact dR λf=>by have:=hQ.countP_eq f;simp only[dZ]at this⊢;omega)
       have hC':eV (FI g.d.k b.x b.n b.c b.f) (gj x y g.d g.dx g.sx):=⟨hC.i,hC.x,hC.key,hC.ke,hC.e1,hC.e2⟩;have uO:=atA ht u [.int .i64 l,.agg [.int .i64 code,.raw (fa (FI g.d.k b.x b.n b.c b.f))]] (FI g.d.k b.x b.n b.c b.f) (gj x y g.d g.dx g.sx) F1
        (λvv s' OL fn ex=>cj=OL.vs/\cj=OL.vr/\∀F':ba fr (a9 g.d.k s'),cj=F'.vs->cj=F'.vr->K (iA bl.length vv) (iV bl ic x.it g.d.k s'++ex) (.bj u::.core (a_ g.d.k s' F') (fn++fB)::rest))
        _ _ _ ms w0 w rfl e8 ⟨⟨hC',by rw[f1];exact v1,by rw[f2];exact v2,rfl,p1,p2⟩,λs2 e2 tr fn F0 w1 w2 hf=>⟨w1,w2,λF' z1 z2=>hT s2 e2 tr fn F' z1 z2 hf⟩⟩ S1
       have cN:aE ids [.ptr ic 0,.int .i64 l,.agg [.int .i64 code,.raw b.v]]=aE (cQ (ids.getD ic 0) (ids.getD x.it 0)) (.ptr 2 0::[.int .i64 l,.agg [.int .i64 code,.raw (fa (FI g.d.k b.x b.n b.c b.f))]]):=rfl;rw[cN];refine uO.mono ?_;rintro v w' ⟨vv,s',OL,fn,ex,xs,fS,Jv,uX,⟨w1,w2,hK⟩,S2⟩;obtain⟨F',g1,g2,g3⟩:=aug OK b OL;refine⟨iA bl.length vv,xs,iV bl ic x.it g.d.k s'++ex,.bj u::.core (a_ g.d.k s' F') (fn++fB)::rest,?_,?_,?_,hK F' (by rw[g1];exact w1) (by rw[g2];exact w2)⟩
       ·rw[<-hl,Dg];exact Jv.symm
       ·simp[iV,hl,fS]
       ·have H':=aet H q2 q3 n4 s';have uP:=hp (iV bl ic x.it g.d.k s') (by simp[iV]);rw[Ov H' hg]at uP;have II:(r.map λj=>aC ids (ids.getD j 0) ((iV bl ic x.it g.d.k s').getD j e_))=r.map λj=>aC ids (ids.getD j 0) (bl.getD j e_):=by
         unfold iV;refine aeu ?_;intro j hj;have:=hr j hj;simp only[cF,qS,or_false,not_or]at this;omega
        rw[II]at uP;have cX:ids.length=(iV bl ic x.it g.d.k s').length:=by simp[iV,hl]
        have WB:bY ids.length (iV bl ic x.it g.d.k s')=af:=by
         unfold iV;rw[<-hl]at qw l3;refine Ju ?_ _ _ (Ju ?_ _ _ qw)
         ·exact xy (oQ _) _ (yA s')
         ·simp only[fy,CL,mX,bu,da,bD,jt,Bool.true_and,Bool.and_true];exact l3
        rw[fu _ _ _ _ cX,fw _ _ WB,Dh (ids':=xs) xs ex uX];rw[g3]at S2;have S3:St ms w0 (lits (cQ (ids.getD ic 0) (ids.getD x.it 0)) (cQ (ids.getD ic 0) (ids.getD x.it 0)) (du g.d.k s')++(lits xs xs ex++((F'.B++b.B)++(fn++(cw u++((r.map λj=>aC ids (ids.getD j 0) (bl.getD j e_))++(fB++Q))))))) w':=S2;refine S3.perm ?_;show mE _ ((lits ids ids (iV bl ic x.it g.d.k s')++lits xs xs ex)++(cw u++((F'.B++(fn++fB))++au rest R)));refine wK ?_ ((uP.symm.append_right _).append_right _);exact dR λf=>by have:=hQ.countP_eq f;simp only[dZ]at this⊢;omega
     ·exact hc.elim
    ·exact hc.elim
   ·exact hc.elim
  ·exact hc.elim
 ·exact hc.elim
def wu (L:List (Int×lY)) (j:Nat):List ai:=qB (L.getD j (0,⟨ae,0,0⟩))
def aeQ:∀(l:List (Int×lY)),(bo l.length).flatMap (wu l)=l.flatMap qB
 |[]=>rfl
 |r::l=>by
  rw[jf,tZ,List.flatMap_cons,List.flatMap_map];have e:(λj=>wu (r::l) (Nat.succ j))=wu l:=by funext j;rfl
  rw[e,aeQ l];rfl
def dQ.AW (s:dQ) (i:Nat) (r:dq):ao:=⟨s.a i,af,.cells #[.slice r.x r.n r.c] 133 (0,0)⟩
def dQ.pick (s:dQ) {i:Nat} (hi:i<3):∃Q,s.B.Perm ((s.AW i (s.r i)::(s.r i).B)++Q)/\∀r,(s.set i r).B.Perm ((s.AW i r::r.B)++Q):=by
 match i,hi with
 |0,_=>
  exact⟨(s.iQ 1::(s.r 1).B)++(s.iQ 2::(s.r 2).B),zq _,λr=>zq _⟩
 |1,_=>
  refine⟨(s.iQ 0::(s.r 0).B)++(s.iQ 2::(s.r 2).B),?_,λr=>?_⟩
  ·show((s.iQ 0::(s.r 0).B)++((s.iQ 1::(s.r 1).B)++(s.iQ 2::(s.r 2).B))).Perm ((s.iQ 1::(s.r 1).B)++((s.iQ 0::(s.r 0).B)++(s.iQ 2::(s.r 2).B)));exact dR λf=>by simp only[dZ];omega
  ·show((s.iQ 0::(s.r 0).B)++((s.AW 1 r::r.B)++(s.iQ 2::(s.r 2).B))).Perm ((s.AW 1 r::r.B)++((s.iQ 0::(s.r 0).B)++(s.iQ 2::(s.r 2).B)));exact dR λf=>by simp only[dZ];omega
 |2,_=>
  refine⟨(s.iQ 0::(s.r 0).B)++(s.iQ 1::(s.r 1).B),?_,λr=>?_⟩
  ·show((s.iQ 0::(s.r 0).B)++((s.iQ 1::(s.r 1).B)++(s.iQ 2::(s.r 2).B))).Perm ((s.iQ 2::(s.r 2).B)++((s.iQ 0::(s.r 0).B)++(s.iQ 1::(s.r 1).B)));exact dR λf=>by simp only[dZ];omega
  ·show((s.iQ 0::(s.r 0).B)++((s.iQ 1::(s.r 1).B)++(s.AW 2 r::r.B))).Perm ((s.AW 2 r::r.B)++((s.iQ 0::(s.r 0).B)++(s.iQ 1::(s.r 1).B)));exact dR λf=>by simp only[dZ];omega
def kN (S:dQ) (i:Nat) (eb:iE):List Sd.It×Sd.Rest:=Sd.sd b9 ((S.r i).n,(S.r i).f) eb.n eb.f
def W8:dk (LG fr):=λargs bl ch K=>match args,ch with
 |[.raw (.pointer (aa ⟨a,0,ae⟩)),.raw bv],g0::g1::g2::g3::.lX S::.rd eb::rest=>∃(i:Nat) (k:LK),(i<3/\a=S.a i/\bv=eb.v/\bl[0]?=aa (b_ k)/\By (S.r i).f/\By eb.f/\(S.r i).n+eb.n<=1000000/\bY bl.length bl=af)/\
  ∀(L:List (Int×lY)) (bs:List dq) (x:Option aI) (cc ty:Nat) (us:List ai) (r':dq),ly L bs (kN S i eb).1->r'.n=(kN S i eb).2.1->r'.n<=(S.r i).n+eb.n->(∀j,j<r'.n->(kN S i eb).2.2 j=r'.f j)->By r'.f->L.length<=(S.r i).n+eb.n->
   K (.eW bl.length 0 L.length cc x) (bl++[lx ty 2 L.length (wu L) us]) (g0::g1::g2::g3::.lX (S.set i r')::.rd eb::.nX bs::rest)
 |_,_=>False
def auj:Sound prog gS 54 (W8 (fr:=fr)):=by
 intro args ids bl ch R ms w0 w K hg hl S hc;unfold W8 at hc;split at hc
 ·rename_i a bv g0 g1 g2 g3 G eb rest;obtain⟨i,k,⟨hi,rfl,rfl,kp,jM,hJ,dc,Es⟩,hK⟩:=hc;obtain⟨Q,JH,JI⟩:=G.pick hi;have e0:∀(G:dQ) (rest:List (LG fr)),(au (g0::g1::g2::g3::.lX G::.rd eb::rest) R)=Bl.B g0++(Bl.B g1++(Bl.B g2++(Bl.B g3++(G.B++(eb.B++au rest R))))):=λ_ _=>rfl;rw[e0]at S;have S1:St ms w0 (⟨G.a i,af,.cells #[.slice (G.r i).x (G.r i).n (G.r i).c] 133 (0,0)⟩::((G.r i).B++(eb.B++(Q++(lits ids ids bl++(Bl.B g0++(Bl.B g1++(Bl.B g2++(Bl.B g3++au rest R))))))))) w:=by
   refine S.perm ?_;exact dR λf=>by have:=JH.countP_eq f;simp only[dZ,j5,dQ.AW]at this⊢;omega
  refine(aue (λw hw=>eb.h w hw) jM hJ dc S1).mono ?_;rintro v w' ⟨L,bs,x,cc,bk,r',rfl,iL,h1,h2,h3,h4,h5,h6,S2⟩;have hrt:(⟨0,ag,.cells (ak [] (b_ k).c).toArray k.tg (0,0)⟩:ao)∈lits ids ids bl:=by
   have h0:=(hg 0 0 rfl);have hm:aC ids (ids.getD 0 0) (b_ k)∈lits ids ids bl:=by
    match ids,bl,kp,hl with
    |i0::is,b0::bs0,kp,hl=>
     have e:b0=b_ k:=by simpa using kp
     rw[e];exact vi
    |[],b0::bs0,kp,hl=>cases hl
   rw[h0.2,jz (ids':=[]) (AE k)]at hm;exact hm
  have S3:St ms w0 (bk++(⟨G.a i,af,.cells #[.slice r'.x r'.n r'.c] 133 (0,0)⟩::(r'.B++(kZ bs++(eb.B++(Q++(lits ids ids bl++(Bl.B g0++(Bl.B g1++(Bl.B g2++(Bl.B g3++au rest R))))))))))) w':=by
   refine S2.perm ?_;exact dR λf=>by simp only[dZ,j5];omega
  obtain⟨ib,ty,us,hv,S4⟩:=Jx (k:=k) iL S3 (by simp[hrt]) (aeQ L).symm;refine⟨.eW bl.length 0 L.length cc x,[ib],_,_,?_,by simp[hl],?_,hK L bs x cc ty us r' h1 h2 h3 h4 h5 h6⟩
  ·rw[hv];simp only[den];rw[<-hl,lG]
  ·rw[e0,fu _ _ _ _ hl,fw _ _ (by rw[hl];exact Es)];have hb:lits (ids++[ib]) [ib] [lx ty 2 L.length (wu L) us]=[⟨ib,ag,.cells ((bo L.length).flatMap (wu L)++us).toArray ty (0,0)⟩]:=by
    simp only[lits,aC,Jw];rfl
   rw[hb];refine S4.perm ?_;have e1:au (.nX bs::rest) R=kZ bs++au rest R:=rfl;rw[e1];exact dR λf=>by have:=(JI r').countP_eq f;simp only[dZ,j5,oc,dQ.AW]at this⊢;omega
 ·exact hc.elim
def FL:eH->Option (eH×eH)
 |.rangeFunc _ _ a b=>aa (a,b)
 |.seq x y=>(match FL x with|some r=>aa r|none=>FL y)
 |.block _ c=>FL c
 |.cond _ x y=>(match FL x with|some r=>aa r|none=>FL y)
 |_=>ae
noncomputable def gM:eH×eH:=match prog.funcs[13]?with
 |some fn=>(match fn.body with|some c=>(match FL c with|some r=>r|none=>(.skip,.skip))|none=>(.skip,.skip))
 |none=>(.skip,.skip)
def aeR (P:aG) (fr:Sd.aO->Nat×Sd.ax):Ctx (LG fr):=AT P gS [] (λ_ _=>ae)
def aeS {P:aG}:aH (G:=LG fr) P gS []:=aH.nil
def wv (P:aG) (rf:eH×eH) (L:List (bK (LG fr))) (lp:Nat->List V->Option (Lp (LG fr))):Ctx (LG fr):=⟨P,qc L,gS,s8 L,JE P,W0,lp,yC (aeR P fr) 60 42 5 22 rf.1 rf.2,ah3 (C:=aeR P fr) (aeI aeS) (aeJ aeS) 60 42 5 22 rf.1 rf.2⟩
def yY (fr:Sd.aO->Nat×Sd.ax) (C:Sd.aL):List (bK (LG fr)):=[⟨54,ag,W8⟩,⟨55,ag,W7 C⟩,⟨56,ag,yS λ_=>WG C⟩,⟨57,ag,yS λ_=>WE C⟩,⟨58,ag,yS λ_=>WD C⟩]
def auk (ht:Body (fr:=fr) 124 dt):aH prog gS (yY fr (aP aY)):=
 aH.cons ⟨auj,λe=>by cases e⟩ (aH.cons ⟨aui ht,λe=>by cases e⟩ (aH.cons (Ow (atz ht)) (aH.cons (Ow (aty ht)) (aH.cons (Ow (atx ht)) aH.nil))))
def FM (s:Sd.ah) (vs vr:V):List V:=[.int .i64 s.c.mode,.int .i64 s.c.pt.cls,.int .i64 s.c.pt.now.a,.int .i64 s.c.pt.now.b,.int .i64 s.c.pt.now.c,.int .i64 s.c.pt.now.d,.int .i64 s.c.gF.mQ,.int .i64 s.c.gF.source,.int .i64 s.c.gF.seq,
 .int .i64 s.c.pt.cd.mQ,.int .i64 s.c.pt.cd.source,.int .i64 s.c.pt.cd.seq,vs,vr,.cv .u8 32 s.c.head]
structure gP where
 oS:List ai
 xS:Option aI
 nS:Nat
 cS:Nat
 bS:List ao
 hS:dD 2 61 oS xS nS cS bS
 oR:List ai
 xR:Option aI
 nR:Nat
 cR:Nat
 bR:List ao
 hR:dD 6 64 oR xR nR cR bR
structure YA where
 fn:Nat
 l:Nat
 d:Nat
 a:Nat
 tm:Array ai
def m_ (r:gP):LG fr:=.row ⟨61,2,r.oS,r.xS,r.nS,r.cS,r.bS,r.hS⟩
def na (r:gP):LG fr:=.row ⟨64,6,r.oR,r.xR,r.nR,r.cR,r.bR,r.hR⟩
def oJ (y:YA) (s:Sd.ah) (r:gP):LG fr:=.yl ⟨y.l,y.d,y.a,y.fn,y.tm,22,gM.1,gM.2,48,FM s (.raw (.slice r.xS r.nS r.cS)) (.raw (.slice r.xR r.nR r.cR))⟩
def dv (kd src:Int) (v:ai) (sm:Sd.ft) (bad:Bool):List V:=[.int .i64 kd,.int .i64 src,.raw v,.bool sm.valid,.int .i64 sm.x.a,.int .i64 sm.x.b,.int .i64 sm.x.c,.int .i64 sm.x.d,.bool sm.pW,.bool bad]
def iB (k:LK) (s:Sd.ah) (G:dQ) (ev:List V):List VB:=[b_ k,gK k,fy k 3 s,fg s,wq 2 G,⟨af,⟨38,(0,0)⟩,ev⟩,⟨af,⟨33,(0,0)⟩,[.ptr 4 0]⟩]
def nf (u:aj) (k:LK) (s:Sd.ah) (F:ba fr (a9 k s)) (fB:List ao) (r:gP) (G:dQ) (eb:iE) (y:YA):List (LG fr):=[.bj u,.core (a_ k s F) fB,m_ r,na r,.lX G,.rd eb,oJ y s r]
def yX (y:YA) (rw:gP) (s':Sd.ah) (r:TR) (X:gP->Prop):Prop:=
 (y.l=y.l/\22=22/\gM.1=gM.1/\gM.2=gM.2/\y.tm.size=42/\y.tm.getD 5 undef=.pointer (aa ⟨y.a,0,ae⟩))/\
 (s'.bw.length=s'.bw.length/\(∀j,(kE s'.bw r.fv j).length=2)/\∀j u,u∈kE s'.bw r.fv j->u.oneCell'=af)/\
 (V.raw (.slice rw.xS rw.nS rw.cS)=V.raw (.slice rw.xS rw.nS rw.cS)/\rw.nS+s'.bw.length<=1000000)/\
 ∀(x:Option aI) (c:Nat) (bk:List ao) (h:dD 2 61 (rw.oS++(bo s'.bw.length).flatMap (kE s'.bw r.fv)) x (rw.nS+s'.bw.length) c bk),
 (s'.aV.length=s'.aV.length/\(∀j,(lv s'.aV j).length=6)/\∀j u,u∈lv s'.aV j->u.oneCell'=af)/\
 (V.raw (.slice rw.xR rw.nR rw.cR)=V.raw (.slice rw.xR rw.nR rw.cR)/\rw.nR+s'.aV.length<=1000000)/\
 ∀(x2:Option aI) (c2:Nat) (W9:List ao) (h2:dD 6 64 (rw.oR++(bo s'.aV.length).flatMap (lv s'.aV)) x2 (rw.nR+s'.aV.length) c2 W9),
 X ⟨rw.oS++(bo s'.bw.length).flatMap (kE s'.bw r.fv),x,rw.nS+s'.bw.length,c,bk,h,rw.oR++(bo s'.aV.length).flatMap (lv s'.aV),x2,rw.nR+s'.aV.length,c2,W9,h2⟩
def JJ (k:LK) (sv:Sd.ah) (X:(s':Sd.ah)->TR->List ao->ba fr (a9 k (eU s'))->Prop):Prop:=∀s',s'=sv->∀(r:TR) (fn:List ao) (F0:ba fr (a9 k (eU s'))),cj=F0.vs->cj=F0.vr->FH fr s'.bw r.fv fn->X s' r fn F0
section
variable(C:Sd.aL) (u:aj) (k:LK) (s:Sd.ah) (F:ba fr (a9 k s)) (fB:List ao) (rw:gP) (G:dQ) (eb:iE) (y:YA) (kd src:Int) (v:ai) (sm:Sd.ft) (bad:Bool) (K:VK (LG fr))
def Dm (ev:List V) (s:Sd.ah) (F:ba fr (a9 k s)) (fB:List ao) (rw:gP):Prop:=K (.ay []) (iB k s G ev) (nf u k s F fB rw G eb y)
def OM (X:Prop):Prop:=OC k s/\(eV k (bO s)/\cj=F.vs/\cj=F.vr)/\X
end
end
section
open Go Go.RowKit Go.BigFrame Sx Vx
section
variable{fr:Sd.aO->Nat×Sd.ax} (C:Sd.aL) (u:aj) (k:LK) (s:Sd.ah) (F:ba fr (a9 k s)) (fB:List ao) (rw:gP) (G:dQ) (eb:iE) (y:YA) (kd src:Int) (v:ai) (sm:Sd.ft) (bad:Bool) (K:VK (LG fr))
def aul:br (wv prog gM (yY fr C) (λ_ _=>ae)) 60 53 [.raw (.func (.yield y.l) #[] #[]),.ptr 5 0,.ptr 6 0] (iB k s G (dv 3 src v sm bad)) (nf u k s F fB rw G eb y) (bA 7 K)=
 (OM k s F (JJ (fr:=fr) k ((bO s).tick C) λs' r fn F0=>yX y rw s' r λbH=>Dm u k G eb y K (dv 3 src v sm bad) (eU s') F0 (fn++fB) bH)):=kR
def aum:br (wv prog gM (yY fr C) (λ_ _=>ae)) 60 53 [.raw (.func (.yield y.l) #[] #[]),.ptr 5 0,.ptr 6 0] (iB k s G (dv 2 src v sm bad)) (nf u k s F fB rw G eb y) (bA 7 K)=
 (OM k s F (JJ (fr:=fr) k ((bO s).lC C bad) λs' r fn F0=>yX y rw s' r λbH=>Dm u k G eb y K (dv 2 src v sm bad) (eU s') F0 (fn++fB) bH)):=kR
def aun:br (wv prog gM (yY fr C) (λ_ _=>ae)) 60 53 [.raw (.func (.yield y.l) #[] #[]),.ptr 5 0,.ptr 6 0] (iB k s G (dv 1 src v sm bad)) (nf u k s F fB rw G eb y) (bA 7 K)=
 (OM k s F (JJ (fr:=fr) k ((bO s).ig C sm) λs' r fn F0=>yX y rw s' r λbH=>Dm u k G eb y K (dv 1 src v sm bad) (eU s') F0 (fn++fB) bH)):=kR
def auo (m:Nat):br (wv prog gM (yY fr C) (λ_ _=>ae)) 60 53 [.raw (.func (.yield y.l) #[] #[]),.ptr 5 0,.ptr 6 0] (iB k s G (dv (Int.negSucc m) src v sm bad)) (nf u k s F fB rw G eb y) (bA 7 K)=
 (Dm u k G eb y K (dv (Int.negSucc m) src v sm bad) s F fB rw):=kR
def aup (m:Nat):br (wv prog gM (yY fr C) (λ_ _=>ae)) 60 53 [.raw (.func (.yield y.l) #[] #[]),.ptr 5 0,.ptr 6 0] (iB k s G (dv (dG (m+4)) src v sm bad)) (nf u k s F fB rw G eb y) (bA 7 K)=
 (Dm u k G eb y K (dv (dG (m+4)) src v sm bad) s F fB rw):=kR
end
end
end Go.Proofs.YtddcipamdggcnaaGreatDoor
namespace Sd
def Gr (n:Nat) (s t:ah):Prop:=t.aV.length<=s.aV.length+n/\t.bw.length<=s.bw.length+n
def Gr.trans {n m:Nat} {s t u:ah} (h:Gr n s t) (k:Gr m t u):Gr (n+m) s u:=⟨by have:=h.1;have:=k.1;omega,by have:=h.2;have:=k.2;omega⟩
def Gr.le {n m:Nat} {s t:ah} (h:Gr n s t) (k:n<=m):Gr m s t:=⟨by have:=h.1;omega,by have:=h.2;omega⟩
def Gr.of {n m:Nat} {s s0 t:ah} (h:Gr n s0 t) (h1:s0.aV=s.aV) (h2:s0.bw=s.bw) (k:n<=m):Gr m s t:=⟨by have:=h.1;rw[h1]at this;omega,by have:=h.2;rw[h2]at this;omega⟩
def Gr.fin {n:Nat} {s t t':ah} (h:Gr n s t) (h1:t'.aV=t.aV) (h2:t'.bw=t.bw):Gr n s t':=⟨by rw[h1];exact h.1,by rw[h2];exact h.2⟩
def Gr.c0 {s t:ah} (h1:t.aV=s.aV) (h2:t.bw=s.bw):Gr 0 s t:=⟨by rw[h1];exact cY _,by rw[h2];exact cY _⟩
section
variable(C:aL) (s:ah)
def JK (l:Int) (r:aO):Gr 1 s (s.tell l r):=⟨by simp[ah.tell],by simp[ah.tell]⟩
def ON (l:Int) (r:aO):Gr 1 s (s.eh l r):=by
 unfold ah.eh;split
 ·exact JK s l r
 ·exact(Gr.c0 rfl rfl).le oM
def nZ (k a n e h:Int):Gr 1 s (s.record C k a n e h):=⟨by simp[ah.record],by simp[ah.record]⟩
def AX (l n e:Int):Gr 2 s (s.refuse C l n e):=(JK s _ _).trans (nZ C _ _ _ _ _ _)
def OO (l e:Int):Gr 1 s (s.jx C l e):=nZ C _ _ _ _ _ _
def wx (l n:Int):Gr 1 s (s.done l n):=JK s _ _
def JL (l w e:Int):Gr 1 s (s.gone l w e):=ON s _ _
def FN (t:Tok) (how n:Int):Gr 3 s (s.goes C t how n):=
 ((Gr.c0 (s:=s) (t:={s with c:={s.c with t:=t,q:=Q.drop s.c.q t.aF}}) rfl rfl).trans (((ON _ _ _).trans (ON _ _ _)).trans (nZ C _ _ _ _ _ _))).le oM
def aeT (a:Int):Gr 2 s (s.leave C a):=by
 unfold ah.leave;dsimp only;split
 ·exact(Gr.c0 rfl rfl).le oM
 ·exact(Gr.of ((JL _ _ _ _).trans (nZ C _ _ _ _ _ _)) rfl rfl oM)
def auq (m:Int) (b:Label):Gr 0 s (s.ei m b):=Gr.c0 rfl rfl
def OP {α:Type} {f:ah->α->ah} {n:Nat} (h:∀s a,Gr n s (f s a)):∀(l:List α) (s:ah),Gr (n*l.length) s (l.foldl f s)
 |[],s=>(Gr.c0 rfl rfl).le oM
 |a::l,s=>by
  rw[Bh];exact((h s a).trans (OP h l _)).le (by rw[jf,Nat.mul_add];omega)
def aur (l:Int) (n:Nat) (f:ax):Gr 10 s (s.sV C l n f):=by
 unfold ah.sV;dsimp only
 repeat' split
 all_goals first
  |exact(OO C s _ _).le oM
  |exact(AX C s _ _ _).le oM
  |exact Gr.of ((JK _ _ _).trans (nZ C _ _ _ _ _ _)) rfl rfl oM
def aus (l:Int) (n:Nat) (f:ax):Gr 10 s (s.prove C l n f):=by
 unfold ah.prove;dsimp only
 repeat' split
 all_goals first
  |exact Gr.of (OO C _ _ _) rfl rfl oM
  |exact Gr.of (AX C _ _ _ _) rfl rfl oM
  |exact Gr.of ((JK _ _ _).trans (nZ C _ _ _ _ _ _)) rfl rfl oM
def aut (l:Int) (m:bQ):Gr 10 s (s.kW C l m):=by
 unfold ah.kW;split
 ·exact(wx s _ _).le oM
 split
 ·exact(Gr.of ((aeT C _ _).trans ((nZ C _ _ _ _ _ _).trans (wx _ _ _))) rfl rfl oM)
 split
 ·unfold ah.ask;dsimp only;split
  ·exact(AX C s _ _ _).le oM
  ·split
   ·exact(Gr.of ((FN C _ _ _ _).trans (wx _ _ _)) rfl rfl oM)
   ·exact(Gr.of ((nZ C _ _ _ _ _ _).trans (wx _ _ _)) rfl rfl oM)
 split
 ·unfold ah.offer;dsimp only;split
  ·exact(AX C s _ _ _).le oM
  ·exact(Gr.of ((ON _ _ _).trans ((nZ C _ _ _ _ _ _).trans (wx _ _ _))) rfl rfl oM)
 split
 ·unfold ah.accept;dsimp only;split
  ·exact(AX C s _ _ _).le oM
  ·exact((FN C _ _ _ _).trans (wx _ _ _)).le oM
 split
 ·unfold ah.gh;dsimp only;split
  ·exact(AX C s _ _ _).le oM
  ·exact(Gr.of ((JL _ _ _ _).trans ((nZ C _ _ _ _ _ _).trans (wx _ _ _))) rfl rfl oM)
 split
 ·unfold ah.release;dsimp only;split
  ·exact(AX C s _ _ _).le oM
  ·exact(Gr.of ((FN C _ _ _ _).trans (wx _ _ _)) rfl rfl oM)
 split
 ·unfold ah.command;dsimp only;split
  ·exact(AX C s _ _ _).le oM
  ·split
   ·exact(Gr.of ((nZ C _ _ _ _ _ _).trans (wx _ _ _)) rfl rfl oM)
   ·exact(Gr.of ((nZ C _ _ _ _ _ _).trans (wx _ _ _)) rfl rfl oM)
 ·exact(Gr.c0 rfl rfl).le oM
def auu (l code:Int) (n:Nat) (f:ax):Gr 10 s (s.item C l code n f):=by
 unfold ah.item;split
 ·exact(OO C s _ _).le oM
 split
 ·exact aur C s _ _ _
 split
 ·exact aus C s _ _ _
 split
 ·exact(OO C s _ _).le oM
 ·exact(Gr.of (aut C _ _ _) rfl rfl oM)
def auv (x:ft):Gr 10 s (s.ig C x):=by
 unfold ah.ig;dsimp only
 repeat' split
 all_goals first
  |exact Gr.of (FN C _ _ _ _) rfl rfl oM
  |exact Gr.of (nZ C _ _ _ _ _ _) rfl rfl oM
  |exact(Gr.c0 rfl rfl).le oM
end
def Ql (s t:ah):Prop:=t.c.q.length<=s.c.q.length
def Ql.trans {s t u:ah} (h:Ql s t) (k:Ql t u):Ql s u:=ia k h
def Ql.of {s t:ah} (h:t.c.q=s.c.q):Ql s t:=by unfold Ql;rw[h];exact cY _
def W_ (q:List Ask) (a:Int):(Q.drop q a).length<=q.length:=KH _ _
def auw (C:aL) (s:ah) (a:Int):Ql s (s.leave C a):=by
 unfold ah.leave;dsimp only;split
 ·exact W_ _ _
 ·unfold Ql;rw[ah.Ih,ah.lQ];exact W_ _ _
def auy (C:aL) (s:ah) (t:Tok) (how n:Int):Ql s (s.goes C t how n):=by
 unfold Ql ah.goes;dsimp only;rw[ah.Ih,ah.kB,ah.kB];exact W_ _ _
def aeU {α:Type} {f:ah->α->ah} (h:∀s a,Ql s (f s a)):∀(l:List α) (s:ah),Ql s (l.foldl f s)
 |[],s=>cY _
 |a::l,s=>(h s a).trans (aeU h l _)
def auz (C:aL) (s:ah) (bad:Bool) (hq:s.c.q.length<=3):Gr 10 s (s.lC C bad):=by
 unfold ah.lC;dsimp only;split
 ·exact(Gr.c0 rfl rfl).le oM
 ·have h2:∀s2:ah,Gr 3 s s2->Ql s s2->Gr 10 s (s2.c.q.foldl (λ(s:ah) (a:Ask)=>({s with c:={s.c with q:=Q.drop s.c.q a.source}}:ah).gone a.source 4 29) s2):=by
   intro s2 g q;refine(g.trans (OP (n:=1) (f:=λ(s:ah) (a:Ask)=>({s with c:={s.c with q:=Q.drop s.c.q a.source}}:ah).gone a.source 4 29) (λs a=>Gr.of (JL _ _ _ _) rfl rfl oM) s2.c.q s2)).le ?_;have:s2.c.q.length<=s.c.q.length:=q;omega
  split
  ·refine Gr.fin ?_ rfl rfl;exact h2 _ (Gr.of (FN C _ _ _ _) rfl rfl oM) (Ql.trans (Ql.of (s:=s) rfl) (auy C _ _ _ _))
  ·refine Gr.fin ?_ rfl rfl;exact h2 _ ((Gr.c0 rfl rfl).le oM) (Ql.of rfl)
def auA (C:aL) (s:ah):Gr 3 s (s.dz C):=by
 unfold ah.dz;dsimp only
 repeat' split
 all_goals first
  |exact Gr.of ((FN C _ _ _ _).trans (auq _ _ _)) rfl rfl oM
  |exact(Gr.c0 rfl rfl).le oM
def auB (C:aL) (s:ah) (hq:s.c.q.length<=3) (he:s.c.aq.ended.length<=4):Gr 40 s (s.tick C):=by
 unfold ah.tick;dsimp only;have g1:=OP (n:=3) (f:=λ(s:ah) (x:Int)=>if linked x then(s.record C 5 x 0 0 0).leave C x else s.record C 5 x 0 0 0) (λs x=>by
  split
  ·exact(nZ C s _ _ _ _ _).trans (aeT C _ _)
  ·exact(nZ C s _ _ _ _ _).le oM) s.c.aq.ended {s with c:={s.c with aq:=s.c.aq.tick}}
 have q1:=aeU (f:=λ(s:ah) (x:Int)=>if linked x then(s.record C 5 x 0 0 0).leave C x else s.record C 5 x 0 0 0) (λs x=>by
  split
  ·exact Ql.trans (Ql.of (ah.Ih C s _ _ _ _ _)) (auw C _ _)
  ·exact Ql.of (ah.Ih C s _ _ _ _ _)) s.c.aq.ended {s with c:={s.c with aq:=s.c.aq.tick}}
 generalize List.foldl (λ(s:ah) (x:Int)=>if linked x then(s.record C 5 x 0 0 0).leave C x else s.record C 5 x 0 0 0) {s with c:={s.c with aq:=s.c.aq.tick}} s.c.aq.ended=s1 at*;have G1:Gr 12 s s1:=(Gr.of g1 rfl rfl oM);have Q1:s1.c.q.length<=3:=ia q1 hq;have H:∀s3:ah,Gr 2 s1 s3->s3.c.q=s1.c.q->Gr 40 s (((Q.gone s3.c.q).foldl (λ(s:ah) (a:Ask)=>(s.gone a.source a.source 30).record C 12 a.source 0 30 0) {s3 with c:={s3.c with q:=Q.kept s3.c.q}}).dz C):=by
  intro s3 g3 e3;have hl:(Q.gone s3.c.q).length<=3:=by
   rw[e3];refine ia ?_ Q1;unfold Q.gone;refine ia (KH _ _) ?_;unfold Q.oX;rw[Gs];exact cY _
  have hf:=OP (n:=2) (f:=λ(s:ah) (a:Ask)=>(s.gone a.source a.source 30).record C 12 a.source 0 30 0) (λs a=>(JL s _ _ _).trans (nZ C _ _ _ _ _ _)) (Q.gone s3.c.q) {s3 with c:={s3.c with q:=Q.kept s3.c.q}};have hf:Gr 6 s3 _:=Gr.of hf rfl rfl (Nat.mul_le_mul_left 2 hl);have:=((G1.trans g3).trans hf).trans (auA C _);exact⟨ia this.1 (by show s.aV.length+(12+2+6+3)<=_;omega),ia this.2 (by show s.bw.length+(12+2+6+3)<=_;omega)⟩
 refine Gr.fin (H _ ?_ ?_) rfl rfl
 ·split
  ·exact Gr.of ((JL _ _ _ _).trans (nZ C _ _ _ _ _ _)) rfl rfl oM
  ·exact(Gr.c0 rfl rfl).le oM
 ·split
  ·rw[ah.Ih,ah.lQ];rfl
  ·rfl
def aeV (l:List Rec):Int:=l.foldl (λa r=>if r.kind=8 then a+1 else a) 0
def aeW (l:List Rec):Int:=l.foldl (λa r=>if r.kind=8 then r.how else a) 0
structure Wn where
 p:aU
 xh:Int
 xe:Int
 xo:Int
 auC:Bool
 n:Nat
 q:Nat->Int
 yh:Int
 ye:Int
 yo:Int
 auD:Bool
 on:Int->Bool
 l:List Rec
 kind:Int
 link:Int
def auE (w:Wn) (how:Int):Prop:=
 (how=1/\w.kind=0/\w.xo=w.yh/\w.link=w.yh)\/
 (how=2/\w.kind<2/\0<w.n/\w.q 0=w.yh/\(w.kind=1↔w.xh=0))\/
 (how=3/\w.kind=0/\w.link=w.yh/\eL w.p w.yh w.xh=af/\w.auC=ag)\/
 (how=4/\w.kind=1/\w.yh=0)\/
 (how=5/\w.kind=3/\w.on w.xh=ag/\w.on w.yh=af)\/
 (how=6/\w.yh=4/\((w.kind=2/\w.auD=af)\/(w.kind=3/\w.xe=65535/\w.on w.xh=ag)))
structure ay1 (w:Wn):Prop where
 hx:0<=w.xh/\w.xh<=4
 hy:0<=w.yh/\w.yh<=4
 ex:0<=w.xe/\w.xe<=65535
 kd:0<=w.kind/\w.kind<=3
 len:w.l.length<=1000
 ay2:∀j,j<w.l.length->(w.l.getD j default).kind=8->(w.l.getD j default).source=w.yh/\(w.l.getD j default).an=w.ye
 how:(w.yh=w.xh/\w.ye=w.xe/\aeV w.l=0)\/(w.yh≠w.xh/\aeV w.l=1/\w.yo=-1/\((w.ye=w.xe+1)\/(w.xe=65535/\w.ye=w.xe/\aeW w.l=6))/\auE w (aeW w.l))
def uK.link {a b:Core} {k l l' how:Int} (h:uK a b k l how) (hk:k≠0):uK a b k l' how:=by
 unfold uK at h⊢;rcases h with h|h|h|h|h|h
 ·exact absurd h.2.1 hk
 ·exact .inr (.inl h)
 ·exact absurd h.2.1 hk
 ·exact .inr (.inr (.inr (.inl h)))
 ·exact .inr (.inr (.inr (.inr (.inl h))))
 ·exact .inr (.inr (.inr (.inr (.inr h))))
def fW.link {C:aL} {b:Prop} {s s':ah} {k l l':Int} (h:fW C b s s' k l) (hk:k≠0):fW C b s s' k l':=
 ⟨h.inv,h.Au.imp id λ⟨how,g,w⟩=>⟨how,g,w.link hk⟩⟩
def ah.glue (a b:ah):ah:=⟨b.c,a.bw++b.bw,a.aV++b.aV⟩
def ah.bare (s:ah):ah:=⟨s.c,[],[]⟩
def tP (C:aL) (l:Int):List It->ah->ah
 |[],s=>s
 |i::is,s=>tP C l is (s.glue (s.bare.item C l i.code i.n i.f))
structure Ev where
 kind:Int
 source:Int
 n:Nat
 f:ax
 s:ft
 bad:Bool
structure fG where
 s:ah
 r:Nat->Rest
def FO (r:Nat->Rest) (i:Nat) (x:Rest):Nat->Rest:=λj=>if j=i then x else r j
def fG.step (C:aL) (crc:ax->Nat->Int) (m:fG) (e:Ev):fG:=
 if e.kind=0 then
  if 1<=e.source/\e.source<=3 then
   let t:=sd crc (m.r (e.source.toNat-1)) e.n e.f
   ⟨tP C e.source t.1 m.s.bare,FO m.r (e.source.toNat-1) t.2⟩
  else⟨m.s.bare,m.r⟩
 else if e.kind=1 then⟨m.s.bare.ig C e.s,m.r⟩
 else if e.kind=2 then⟨m.s.bare.lC C e.bad,m.r⟩
 else if e.kind=3 then⟨m.s.bare.tick C,m.r⟩
 else⟨m.s.bare,m.r⟩
end Sd
namespace Go.Proofs.YtddcipamdggcnaaGreatDoor
section
open Go Go.RowKit Go.BigFrame Sx Vx
variable{fr:Sd.aO->Nat×Sd.ax}
structure Acc (S s:Sd.ah) (rw:gP) (fB:List ao) (fr:Sd.aO->Nat×Sd.ax):Prop where
 c:s=eU S
 nS:rw.nS=S.bw.length
 oS:∃fv,rw.oS=(bo S.bw.length).flatMap (kE S.bw fv)/\FH fr S.bw fv fB
 nR:rw.nR=S.aV.length
 oR:rw.oR=(bo S.aV.length).flatMap (lv S.aV)
def JM {α:Type} (a b:List α) (d:α) {j:Nat} (h:j<a.length):(a++b).getD j d=a.getD j d:=by
 rw[tV,tV,gm h]
def JN {α:Type} (a b:List α) (d:α) (j:Nat):(a++b).getD (a.length+j) d=b.getD j d:=by
 rw[tV,tV,vg oM,af9]
def aeX {α:Type} (a b:List α) (g g1 g2:Nat->List ai) (h1:∀j,j<a.length->g j=g1 j) (h2:∀j,g (a.length+j)=g2 j):
 (bo (a.length+b.length)).flatMap g=(bo a.length).flatMap g1++(bo b.length).flatMap g2:=by
 rw[List.range_add,Bi,List.flatMap_map];congr 1
 ·rw[KJ,KJ];congr 1;exact ni λj hj=>h1 j (List.mem_range.1 hj)
 ·rw[KJ,KJ];congr 1;exact ni λj _=>h2 j
def Acc.next {S s s':Sd.ah} {rw:gP} {fB fn:List ao} (h:Acc S s rw fB fr) {r:TR} (hf:FH fr s'.bw r.fv fn) {bH:gP} (e1:bH.nS=rw.nS+s'.bw.length) (e2:bH.oS=rw.oS++(bo s'.bw.length).flatMap (kE s'.bw r.fv)) (e3:bH.nR=rw.nR+s'.aV.length) (e4:bH.oR=rw.oR++(bo s'.aV.length).flatMap (lv s'.aV)):
 Acc (S.glue s') (eU s') bH (fn++fB) fr:=by
 obtain⟨fv,o1,o2⟩:=h.oS;refine⟨rfl,?_,⟨λj=>if j<S.bw.length then fv j else r.fv (j-S.bw.length),?_,?_⟩,?_,?_⟩
 ·rw[e1,h.nS];simp[Sd.ah.glue]
 ·rw[e2,o1];show _=(bo (S.bw++s'.bw).length).flatMap _;rw[fL];refine(aeX S.bw s'.bw _ _ _ (λj hj=>?_) (λj=>?_)).symm
  ·show kE (S.bw++s'.bw) _ j=_;unfold kE;rw[JM _ _ _ hj];simp only[if_pos hj]
  ·show kE (S.bw++s'.bw) _ _=_;unfold kE;rw[JN];simp only[if_neg (show¬S.bw.length+j<S.bw.length by omega),af9]
 ·intro j hj;have hj:j<(S.bw++s'.bw).length:=hj;rw[fL]at hj;show∃x c b,_=(⟨x,(fr ((S.bw++s'.bw).getD j default).2).1,c⟩:lY)/\eQ 5 (fr ((S.bw++s'.bw).getD j default).2).1 (fr ((S.bw++s'.bw).getD j default).2).2 x c b/\_;by_cases cH:j<S.bw.length
  ·obtain⟨x,c,b,h1,h2,h3⟩:=o2 j cH;rw[JM _ _ _ cH];exact⟨x,c,b,by simp only[if_pos cH];exact h1,h2,λy hy=>by simp[h3 y hy]⟩
  ·obtain⟨x,c,b,h1,h2,h3⟩:=hf (j-S.bw.length) oM;have e:=JN S.bw s'.bw default (j-S.bw.length);rw[show S.bw.length+(j-S.bw.length)=j by omega]at e;rw[e];exact⟨x,c,b,by simp only[if_neg cH];exact h1,h2,λy hy=>by simp[h3 y hy]⟩
 ·rw[e3,h.nR];simp[Sd.ah.glue]
 ·rw[e4,h.oR];show _=(bo (S.aV++s'.aV).length).flatMap _;rw[fL];refine(aeX S.aV s'.aV _ _ _ (λj hj=>?_) (λj=>?_)).symm
  ·show lv (S.aV++s'.aV) j=_;unfold lv;rw[JM _ _ _ hj]
  ·show lv (S.aV++s'.aV) _=_;unfold lv;rw[JN]
structure wy (fr:Sd.aO->Nat×Sd.ax) (C:Sd.aL) (k:LK) (l:Int) (S0:Sd.ah) (G:dQ) (i:Nat) (eb:iE) where
 L:List (Int×lY)
 bs:List dq
 x:Option aI
 cc:Nat
 ty:Nat
 us:List ai
 r':dq
 j:Nat
 s:Sd.ah
 F:ba fr (a9 k s)
 fB:List ao
 rw:gP
 hL:ly L bs (kN G i eb).1
 h1:r'.n=(kN G i eb).2.1
 h2:∀j,j<r'.n->(kN G i eb).2.2 j=r'.f j
 h3:By r'.f
 h4:L.length<=1000
 hj:j<=L.length
 ok:eV k s
 most:s.c.p.queue=k.most
 v1:cj=F.vs
 v2:cj=F.vr
 acc:Acc (Sd.tP C l ((kN G i eb).1.take j) S0) s rw fB fr
 b1:rw.nS<=10*j
 b2:rw.nR<=10*j
section
variable(C:Sd.aL) (u:aj) (k:LK) (l:Int) (S0:Sd.ah) (G:dQ) (i:Nat) (eb:iE) (y:YA) (v:ai) (sm:Sd.ft) (bad:Bool) (K:VK (LG fr))
def Xa (X:wy fr C k l S0 G i eb):List V:=[.raw (.func (.yield y.l) #[] #[]),.ptr 5 0,.ptr 6 0,.eW 7 0 X.L.length X.cc X.x,.int .i64 (X.L.length:Int),.int .i64 (X.j:Int)]
def Xb (X:wy fr C k l S0 G i eb):List VB:=iB k X.s G (dv 0 l v sm bad)++[lx X.ty 2 X.L.length (wu X.L) X.us]
def Xc (X:wy fr C k l S0 G i eb):List (LG fr):=[.bj u,.core (a_ k X.s X.F) X.fB,m_ X.rw,na X.rw,.lX (G.set i X.r'),.rd eb,.nX X.bs,oJ y X.s X.rw]
def FP:Lp (LG fr):=Ah (X:=wy fr C k l S0 G i eb) (λX=>X.L.length-X.j) 77 8 [0,1,2,28,29,30] (Xa C k l S0 G i eb y) (Xb C k l S0 G i eb v sm bad) (Xc C u k l S0 G i eb y) (λ_=>rfl) (λ_=>rfl) (λ_=>rfl)
def FQ (X:wy fr C k l S0 G i eb):Int×lY:=X.L.getD (X.j:Int).toNat (0,⟨ae,0,0⟩)
def imE (X:wy fr C k l S0 G i eb) (s':Sd.ah) (F0:ba fr (a9 k (eU s'))) (fn:List ao) (bH:gP):Prop:=af=af/\xI (λX:wy fr C k l S0 G i eb=>X.L.length-X.j) (Xa C k l S0 G i eb y) (Xb C k l S0 G i eb v sm bad) (Xc C u k l S0 G i eb y) X
 [.raw (.func (.yield y.l) #[] #[]),.ptr 5 0,.ptr 6 0,.eW 7 0 X.L.length X.cc X.x,.int .i64 (X.L.length:Int),.int .i64 (i64.wrap ((X.j:Int)+1))] (iB k (eU s') G (dv 0 l v sm bad)++[lx X.ty 2 X.L.length (wu X.L) X.us])
 [.bj u,.core (a_ k (eU s') F0) (fn++X.fB),m_ bH,na bH,.lX (G.set i X.r'),.rd eb,.nX X.bs,oJ y (eU s') bH]
def OQ (s:Sd.ah) (F:ba fr (a9 k s)) (fB:List ao) (rw:gP):Prop:=
 ∃(i':Nat) (k':LK),(i'<3/\G.a i=G.a i'/\v=eb.v/\(iB k s G (dv 0 l v sm bad))[0]?=aa (b_ k')/\By (G.r i').f/\By eb.f/\(G.r i').n+eb.n<=1000000/\bY (iB k s G (dv 0 l v sm bad)).length (iB k s G (dv 0 l v sm bad))=af)/\
  ∀(L:List (Int×lY)) (bs:List dq) (x:Option aI) (cc ty:Nat) (us:List ai) (r':dq),ly L bs (kN G i' eb).1->r'.n=(kN G i' eb).2.1->r'.n<=(G.r i').n+eb.n->(∀j,j<r'.n->(kN G i' eb).2.2 j=r'.f j)->By r'.f->L.length<=(G.r i').n+eb.n->
   (af=af/\xH (Xa C k l S0 G i eb y) (Xb C k l S0 G i eb v sm bad) (Xc C u k l S0 G i eb y)
    [.raw (.func (.yield y.l) #[] #[]),.ptr 5 0,.ptr 6 0,.eW 7 0 L.length cc x,.int .i64 (L.length:Int),.int .i64 0] (iB k s G (dv 0 l v sm bad)++[lx ty 2 L.length (wu L) us])
    [.bj u,.core (a_ k s F) fB,m_ rw,na rw,.lX (G.set i' r'),.rd eb,.nX bs,oJ y s rw])/\
   ∀(X:wy fr C k l S0 G i eb) (g:Nat->ai),cond (decide ((X.j:Int)<(X.L.length:Int)))
    (((0:Int)<=(X.j:Int)/\(X.j:Int)<(X.L.length:Int))/\((X.j:Int).toNat<X.L.length/\∀j,(wu X.L j).length=2)/\OC k X.s/\Dk k/\∃b:dq,(wN (FQ C k l S0 G i eb X).2.x (FQ C k l S0 G i eb X).2.n (FQ C k l S0 G i eb X).2.c=b.v/\
     (b.B=[]\/∃bs,LG.nX bs∈[m_ X.rw,na X.rw,.lX (G.set i X.r'),.rd eb,.nX X.bs,oJ (fr:=fr) y X.s X.rw]/\b∈bs)/\eV k (bO X.s)/\cj=X.F.vs/\cj=X.F.vr/\b.n<=58/\By b.f)/\
      JJ (fr:=fr) k (yU C (bO X.s) l (FQ C k l S0 G i eb X).1 b.n b.f) λs' r fn F0=>yX y X.rw s' r λbH=>imE C u k l S0 G i eb y v sm bad X s' F0 fn bH)
    (K (.ay []) (iB k X.s G (dv 0 l v sm bad)) [.bj u,.core (a_ k X.s X.F) X.fB,m_ X.rw,na X.rw,.lX (G.set i X.r'),.rd eb,.nX X.bs,oJ y X.s X.rw])
end
section
variable(C:Sd.aL) (u:aj) (k:LK) (S0:Sd.ah) (G:dQ) (eb:iE) (y:YA) (v:ai) (sm:Sd.ft) (bad:Bool) (K:VK (LG fr)) (s:Sd.ah) (F:ba fr (a9 k s)) (fB:List ao) (rw:gP)
def auF:br (wv prog gM (yY fr C) (λi _=>ph 1 (FP C u k 1 S0 G 0 eb y v sm bad) i)) 60 53 [.raw (.func (.yield y.l) #[] #[]),.ptr 5 0,.ptr 6 0] (iB k s G (dv 0 1 v sm bad)) (nf u k s F fB rw G eb y) (bA 7 K)=
 OQ C u k 1 S0 G 0 eb y v sm bad K s F fB rw:=kR
def auG:br (wv prog gM (yY fr C) (λi _=>ph 1 (FP C u k 2 S0 G 1 eb y v sm bad) i)) 60 53 [.raw (.func (.yield y.l) #[] #[]),.ptr 5 0,.ptr 6 0] (iB k s G (dv 0 2 v sm bad)) (nf u k s F fB rw G eb y) (bA 7 K)=
 OQ C u k 2 S0 G 1 eb y v sm bad K s F fB rw:=kR
def auH:br (wv prog gM (yY fr C) (λi _=>ph 1 (FP C u k 3 S0 G 2 eb y v sm bad) i)) 60 53 [.raw (.func (.yield y.l) #[] #[]),.ptr 5 0,.ptr 6 0] (iB k s G (dv 0 3 v sm bad)) (nf u k s F fB rw G eb y) (bA 7 K)=
 OQ C u k 3 S0 G 2 eb y v sm bad K s F fB rw:=kR
end
def aeY {y:YA} {rw:gP} {s':Sd.ah} {r:TR} {X:gP->Prop} (ht:y.tm.size=42/\y.tm.getD 5 undef=.pointer (aa ⟨y.a,0,ae⟩)) (h1:rw.nS+s'.bw.length<=1000000) (h2:rw.nR+s'.aV.length<=1000000)
 (hX:∀bH:gP,bH.nS=rw.nS+s'.bw.length->bH.oS=rw.oS++(bo s'.bw.length).flatMap (kE s'.bw r.fv)->bH.nR=rw.nR+s'.aV.length->bH.oR=rw.oR++(bo s'.aV.length).flatMap (lv s'.aV)->X bH):yX y rw s' r X:=by
 refine⟨⟨rfl,rfl,rfl,rfl,ht.1,ht.2⟩,⟨rfl,λ_=>rfl,λj u hu=>?_⟩,⟨rfl,h1⟩,λx c bk h=>⟨⟨rfl,λ_=>rfl,λj u hu=>?_⟩,⟨rfl,h2⟩,λx2 c2 W9 h2=>hX _ rfl rfl rfl rfl⟩⟩
 ·simp only[kE,cF,qS,or_false]at hu;rcases hu with rfl|rfl<;>rfl
 ·simp only[lv,cF,qS,or_false]at hu;rcases hu with rfl|rfl|rfl|rfl|rfl|rfl<;>rfl
def ly.get {L:List (Int×lY)} {bs:List dq} {fC:List Sd.It} (h:ly L bs fC):∀{j:Nat},j<L.length->∃(b:dq) (i:Sd.It),fC[j]?=aa i/\(L.getD j (0,⟨ae,0,0⟩)).1=i.code/\wN (L.getD j (0,⟨ae,0,0⟩)).2.x (L.getD j (0,⟨ae,0,0⟩)).2.n (L.getD j (0,⟨ae,0,0⟩)).2.c=b.v/\(b.B=[]\/b∈bs)/\b.n=i.n/\b.f=i.f/\b.n<=32/\By b.f:=by
 induction h with
 |nil=>intro j hj;simp at hj
 |@W3 L bs fC h code i h1 h2 h3 ih=>
  intro j hj;have hlen:=h.len;by_cases cH:j<L.length
  ·obtain⟨b,i',g1,g2,g3,g4,g5⟩:=ih cH;rw[JM _ _ _ cH];exact⟨b,i',by rw[gm oM];exact g1,g2,g3,g4,g5⟩
  ·have e:j=L.length:=by simp at hj;omega
   subst e;have e:=JN L [(code,(⟨ae,0,0⟩:lY))] (0,⟨ae,0,0⟩) 0;rw[lA]at e;rw[e];refine⟨⟨0,i.f,ae,0,[],cY _,.inl ⟨rfl,rfl,rfl,rfl⟩⟩,i,?_,h1.symm,rfl,.inl rfl,h2.symm,rfl,oQ _,h3⟩;rw[hlen,vg (cY _),Nat.sub_self];rfl
 |@body L bs fC h b i h1 h2 h3 h4 h5 h6 ih=>
  intro j hj;have hlen:=h.len;by_cases cH:j<L.length
  ·obtain⟨b',i',g1,g2,g3,g4,g5⟩:=ih cH;rw[JM _ _ _ cH];exact⟨b',i',by rw[gm oM];exact g1,g2,g3,g4.imp id (λh=>by simp[h]),g5⟩
  ·have e:j=L.length:=by simp at hj;omega
   subst e;have e:=JN L [((0:Int),(⟨b.x,b.n,b.c⟩:lY))] (0,⟨ae,0,0⟩) 0;rw[lA]at e;rw[e];refine⟨b,i,?_,h1.symm,rfl,.inr sP,h2.symm,funext h3,h5,h6⟩;rw[hlen,vg (cY _),Nat.sub_self];rfl
def aeZ (C:Sd.aL) (l:Int):∀(fC:List Sd.It) (i:Sd.It) (s:Sd.ah),Sd.tP C l (fC++[i]) s=(Sd.tP C l fC s).glue ((Sd.tP C l fC s).bare.item C l i.code i.n i.f)
 |[],i,s=>rfl
 |a::fC,i,s=>aeZ C l fC i _
section
variable{u:aj} {k:LK} {l:Int} {S0:Sd.ah} {G:dQ} {i:Nat} {eb:iE} {y:YA} {v:ai} {sm:Sd.ft} {bad:Bool} {K:VK (LG fr)} {s:Sd.ah} {F:ba fr (a9 k s)} {fB:List ao} {rw:gP}
def Xd (hl:1<=l/\l<=3) (hi:i<3) (hv:v=eb.v) (hr:By (G.r i).f) (he:By eb.f) (dc:(G.r i).n+eb.n<=1000) (ht:y.tm.size=42/\y.tm.getD 5 undef=.pointer (aa ⟨y.a,0,ae⟩)) (hok:eV k s) (auI:s.c.p.queue=k.most) (OK:Dk k) (v1:cj=F.vs) (v2:cj=F.vr)
 (OR:Acc S0 s rw fB fr) (hS:rw.nS=0) (hR:rw.nR=0)
 (hK:∀X:wy fr (aP aY) k l S0 G i eb,X.j=X.L.length->K (.ay []) (iB k X.s G (dv 0 l v sm bad)) [.bj u,.core (a_ k X.s X.F) X.fB,m_ X.rw,na X.rw,.lX (G.set i X.r'),.rd eb,.nX X.bs,oJ y X.s X.rw]):
 OQ (aP aY) u k l S0 G i eb y v sm bad K s F fB rw:=by
 refine⟨i,k,⟨hi,rfl,hv,rfl,hr,he,oM,rfl⟩,λL bs x cc ty us r' h1 h2 h3 h4 h5 h6=>⟨⟨rfl,⟨L,bs,x,cc,ty,us,r',0,s,F,fB,rw,h1,h2,h4,h5,oM,oQ _,hok,auI,v1,v2,OR,oM,oM⟩,rfl,rfl,rfl⟩,λX g=>aJ (λe=>?_) (λe=>?_)⟩⟩
 ·have cH:X.j<X.L.length:=by have:=of_decide_eq_true e;omega
  have AY:((X.j:Int)).toNat=X.j:=vn _;obtain⟨b,it,g1,g2,g3,g4,g5,g6,g7,g8⟩:=X.hL.get cH;have hP:FQ (aP aY) k l S0 G i eb X=X.L.getD X.j (0,⟨ae,0,0⟩):=by unfold FQ;rw[AY]
  refine⟨⟨oM,oM⟩,⟨oM,λ_=>rfl⟩,⟨rfl,rfl,by rw[nT],rfl,rfl,X.most⟩,OK,b,⟨by rw[hP];exact g3,g4.imp id (λh=>⟨X.bs,sP,h⟩),by rw[nT];exact X.ok,X.v1,X.v2,oM,g8⟩,?_⟩;rw[hP,g2,g5,g6,nT];intro s' ie r fn F0 w1 w2 hf;have Xe:s'=X.s.item (aP aY) l it.code it.n it.f:=by rw[ie];unfold yU;rw[if_pos hl]
  have JO:=Sd.auu (aP aY) X.s l it.code it.n it.f;rw[<-Xe]at JO;have q1:s'.aV.length<=10:=by have:=JO.1;rw[X.ok.e2]at this;simpa using this
  have q2:s'.bw.length<=10:=by have:=JO.2;rw[X.ok.e1]at this;simpa using this
  have b1:=X.b1;have b2:=X.b2;have hL:=X.h4;refine aeY ht oM oM λbH e1 e2 e3 e4=>?_;have ae0:=X.acc.next hf e1 e2 e3 e4;have bT:Sd.tP (aP aY) l ((kN G i eb).1.take (X.j+1)) S0=(Sd.tP (aP aY) l ((kN G i eb).1.take X.j) S0).glue s':=by
   have ht:(kN G i eb).1.take (X.j+1)=(kN G i eb).1.take X.j++[it]:=by
    rw[List.take_add_one,g1];rfl
   rw[ht,aeZ];congr 1;rw[Xe];congr 1;exact X.acc.c.symm
  rw[<-bT]at ae0;have auJ:eV k (eU s'):=by
   have:=X.ok.item l it.code it.n it.f;rw[ie];exact this
  have auK:(eU s').c.p.queue=k.most:=by
   have:s'.c.p=X.s.c.p:=by rw[Xe];exact Jy (b:=False) (Sd.T5 Db X.ok.i hl (λe=>e.elim))
   show s'.c.p.queue=_;rw[this];exact X.most
  refine⟨rfl,⟨X.L,X.bs,X.x,X.cc,X.ty,X.us,X.r',X.j+1,eU s',F0,fn++X.fB,bH,X.hL,X.h1,X.h2,X.h3,X.h4,cH,auJ,auK,w1,w2,ae0,oM,oM⟩,?_,?_,rfl,rfl⟩
  ·show X.L.length-(X.j+1)<X.L.length-X.j;omega
  ·rw[show i64.wrap ((X.j:Int)+1)=((X.j+1:Nat):Int) by rw[pH oM];rfl];rfl
 ·have fh:¬X.j<X.L.length:=by have:=of_decide_eq_false e;omega
  exact hK X (by have:=X.hj;omega)
end
end
end Go.Proofs.YtddcipamdggcnaaGreatDoor
namespace Sd
def qb (n:Nat) (f:ax):ax:=λj=>if j<n then f j else 0
def takeN (crc:ax->Nat->Int) (r:Rest) (n:Nat) (f:ax):List It×Rest:=((sd crc r n f).1,((sd crc r n f).2.1,qb (sd crc r n f).2.1 (sd crc r n f).2.2))
def fG.go (C:aL) (crc:ax->Nat->Int) (m:fG) (e:Ev):fG:=
 if e.kind=0 then
  if 1<=e.source/\e.source<=3 then⟨tP C e.source (takeN crc (m.r (e.source.toNat-1)) e.n e.f).1 m.s.bare,FO m.r (e.source.toNat-1) (takeN crc (m.r (e.source.toNat-1)) e.n e.f).2⟩
  else⟨m.s.bare,m.r⟩
 else if e.kind=1 then⟨m.s.bare.ig C e.s,m.r⟩
 else if e.kind=2 then⟨m.s.bare.lC C e.bad,m.r⟩
 else if e.kind=3 then⟨m.s.bare.tick C,m.r⟩
 else⟨m.s.bare,m.r⟩
def auP {crc:ax->Nat->Int} {n:Nat} {f:ax} (h:(eg crc n f).kind=0):n<=36:=by
 revert h;unfold eg;split
 ·intro _;omega
 split
 ·intro h;exact absurd (show(1:Int)=0 from h) dC
 split
 ·intro _;omega
 split
 ·intro h;exact absurd (show(3:Int)=0 from h) dC
 split
 ·intro _;omega
 split
 ·intro h;exact absurd (show(3:Int)=0 from h) dC
 split
 ·intro _;omega
 split
 ·intro h;exact absurd (show(3:Int)=0 from h) dC
 ·intro h;exact absurd (show(2:Int)=0 from h) dC
def auQ {crc:ax->Nat->Int} {r:Rest} {n:Nat} {f:ax} (hr:∀j,0<=r.2 j) (hf:∀j,0<=f j):(sd crc r n f).2.1<=36:=by
 refine auP (crc:=crc) (f:=(sd crc r n f).2.2) ?_;refine aeA (crc:=crc) _ _ _ (cY _) (λj=>?_);unfold oI;split
 ·exact hr j
 ·exact hf _
end Sd
namespace Go.Proofs.YtddcipamdggcnaaGreatDoor
section
open Go Go.RowKit Go.BigFrame Sx Vx
variable{fr:Sd.aO->Nat×Sd.ax}
def auS {T n:Nat} {f:Nat->Int} {x:Option aI} {c:Nat} {B:List ao} (h:eQ T n f x c B):eQ T n (Sd.qb n f) x c B:=by
 refine⟨h.1,h.2.imp id ?_⟩;rintro⟨b,h1,h2⟩;refine⟨b,h1,?_⟩;rw[h2];have e:bE n f c=bE n (Sd.qb n f) c:=by
  unfold bE;rw[DX (g:=Sd.qb n f) λj hj=>by unfold Sd.qb;rw[if_pos hj]]
 rw[e]
def dq.cut (b:dq):dq:=⟨b.n,Sd.qb b.n b.f,b.x,b.c,b.B,auS b.h⟩
def auT {n:Nat} {f:Nat->Int} (h:By f):By (Sd.qb n f):=by
 intro j;unfold Sd.qb;split
 ·exact h j
 ·exact⟨Int.le_refl 0,dC⟩
def fP (G:dQ):Nat->Sd.Rest:=λj=>((G.r j).n,(G.r j).f)
def iJ (kd src:Int) (eb:iE) (sm:Sd.ft) (bad:Bool):Sd.Ev:=⟨kd,src,eb.n,eb.f,sm,bad⟩
structure oK (k:LK) (s:Sd.ah) (F:ba fr (a9 k s)) (G:dQ):Prop where
 ok:eV k s
 most:s.c.p.queue=k.most
 np:Dk k
 v1:cj=F.vs
 v2:cj=F.vr
 rb:∀i,i<3->By (G.r i).f
 rn:∀i,i<3->(G.r i).n<=36
def OV (k:LK) (m:Sd.fG) (s':Sd.ah) (F':ba fr (a9 k s')) (f_:List ao) (bH:gP) (G':dQ) (a:Nat->Nat):Prop:=oK k s' F' G'/\Acc m.s s' bH f_ fr/\fP G'=m.r/\G'.a=a/\bH.nS<=10000/\bH.nR<=10000
section
variable{u:aj} {k:LK} {G:dQ} {eb:iE} {y:YA} {v:ai} {sm:Sd.ft} {bad:Bool} {s:Sd.ah} {F:ba fr (a9 k s)} {fB:List ao} {rw:gP} {kd src:Int} {R:List ao} {ms:List Nat} {w0 w:aj}
def OW (u:aj) (k:LK) (m:Sd.fG) (ev:List V) (a:Nat->Nat) (eb:iE) (y:YA):VK (LG fr):=λv bl ch=>v=.ay []/\∃(s':Sd.ah) (F':ba fr (a9 k s')) (f_:List ao) (bH:gP) (G':dQ) (bs:List dq),
 OV k m s' F' f_ bH G' a/\bl=iB k s' G' ev/\au ch []=au [.bj u,.core (a_ k s' F') f_,m_ bH,na bH,.lX G',.rd eb,.nX bs,oJ y s' bH] []
def ae2 {ic:Nat} {G G':dQ} (h:G'.a=G.a):wq ic G'=wq ic G:=by unfold wq;rw[h]
def ae3 {k:LK} {s:Sd.ah} {G G':dQ} {ev:List V} (h:G'.a=G.a):iB k s G' ev=iB k s G ev:=by unfold iB;rw[ae2 h]
theorem FT (h:eV k s) (hS:rw.nS=0) (hR:rw.nR=0):Acc s s rw fB fr:=by
 have e:s=eU s:=by
  obtain⟨c,se,re⟩:=s;have h1:se=[]:=h.e1;have h2:re=[]:=h.e2;subst h1 h2;rfl
 have oS:rw.oS=[]:=by have:=rw.hS.1;rw[hS]at this;exact lz (by simpa using this)
 have oR:rw.oR=[]:=by have:=rw.hR.1;rw[hR]at this;exact lz (by simpa using this)
 refine⟨e,by rw[hS,h.e1];rfl,⟨λ_=>⟨ae,0,0⟩,by rw[oS,h.e1];rfl,λj hj=>?_⟩,by rw[hR,h.e2];rfl,by rw[oR,h.e2];rfl⟩;rw[h.e1]at hj;exact absurd hj (Nat.not_lt_zero _)
def auU {s t:Sd.ah} (h:eV k s):s.glue t=t:=by
 unfold Sd.ah.glue;rw[h.e1,h.e2];rfl
def FU {s:Sd.ah} (h:eV k s):s.bare=s:=by
 obtain⟨c,se,re⟩:=s;have h1:se=[]:=h.e1;have h2:re=[]:=h.e2;subst h1 h2;rfl
def Xg {ev:List V} {sv:Sd.ah} (M:oK k s F G) (ht:y.tm.size=42/\y.tm.getD 5 undef=.pointer (aa ⟨y.a,0,ae⟩)) (hS:rw.nS=0) (hR:rw.nR=0) (hg:Sd.Gr 40 s sv) (hok:eV k (eU sv)) (hp:sv.c.p=s.c.p):
 OM k s F (JJ (fr:=fr) k sv λs' r fn F0=>yX y rw s' r λbH=>Dm u k G eb y (OW u k ⟨sv,fP G⟩ ev G.a eb y) ev (eU s') F0 (fn++fB) bH):=by
 refine⟨⟨rfl,rfl,by rw[nT],rfl,rfl,M.most⟩,⟨by rw[nT];exact M.ok,M.v1,M.v2⟩,?_⟩;intro s' ie r fn F0 w1 w2 hf;subst ie;have q1:s'.aV.length<=40:=by have:=hg.1;rw[M.ok.e2]at this;simpa using this
 have q2:s'.bw.length<=40:=by have:=hg.2;rw[M.ok.e1]at this;simpa using this
 refine aeY ht oM oM λbH e1 e2 e3 e4=>?_;have OR:=(FT (fB:=fB) (fr:=fr) M.ok hS hR).next hf e1 e2 e3 e4;rw[auU M.ok]at OR;refine⟨rfl,eU s',F0,fn++fB,bH,G,[],⟨⟨hok,by show s'.c.p.queue=_;rw[hp];exact M.most,M.np,w1,w2,M.rb,M.rn⟩,OR,rfl,rfl,oM,oM⟩,rfl,rfl⟩
end
section
variable{u:aj} {k:LK} {G:dQ} {eb:iE} {y:YA} {v:ai} {sm:Sd.ft} {bad:Bool} {s:Sd.ah} {F:ba fr (a9 k s)} {fB:List ao} {rw:gP} {kd src:Int} {R:List ao} {ms:List Nat} {w0 w:aj} {ids:List Nat}
def CmE (u:aj) (k:LK) (m:Sd.fG) (ev:List V) (G:dQ) (eb:iE) (y:YA) (fr:Sd.aO->Nat×Sd.ax) (ids:List Nat) (R:List ao) (ms:List Nat) (w0 w':aj):Prop:=∃(s':Sd.ah) (F':ba fr (a9 k s')) (f_:List ao) (bH:gP) (G':dQ),
 OV k m s' F' f_ bH G' G.a/\St ms w0 (lits ids ids (iB k s' G ev)++au (nf u k s' F' f_ bH G' eb y) R) w'
def AZ {L:List (bK (LG fr))} {lp:Nat->List V->Option (Lp (LG fr))} (hL:aH prog gS L) {m:Sd.fG} {ev:List V} (hg:Gl gS ids) (hl:ids.length=7) (S:St ms w0 (lits ids ids (iB k s G ev)++au (nf u k s F fB rw G eb y) R) w)
 (h:Hd (br (wv prog gM L lp) 60 53 [.raw (.func (.yield y.l) #[] #[]),.ptr 5 0,.ptr 6 0] (iB k s G ev) (nf u k s F fB rw G eb y) (bA 7 (OW u k m ev G.a eb y)))):
 aX prog 53 (aE ids [.raw (.func (.yield y.l) #[] #[]),.ptr 5 0,.ptr 6 0]).toArray w λ_ w'=>CmE u k m ev G eb y fr ids R ms w0 w':=by
 refine(eZ (C:=wv prog gM L lp) hL.T hL.Q 60 hg (show ids.length=(iB k s G ev).length from hl) S h.h).mono ?_;rintro v w' ⟨x,more,bl',ch',rfl,g1,g2,hK⟩;have h7:7<=(ids++more).length:=by simp;omega
 obtain⟨v2,cn,bl2,AS,cX,S2,rfl,s',F',f_,bH,G',bs,hC,rfl,cz⟩:=iP (n0:=7) g1 h7 g2 hK;have ht:List.take 7 (ids++more)=ids:=by rw[List.take_append_of_le_length oM,List.take_of_length_le oM]
 rw[ht]at cX S2;have hm:cn=[]:=by
  have:(ids++cn).length=7:=cX;simp at this;exact lz oM
 subst hm;rw[cT]at S2;refine⟨s',F',f_,bH,G',hC,?_⟩;have ha:G'.a=G.a:=hC.2.2.2.1;rw[ae3 ha]at S2;rw[fe R ch',cz]at S2;have S3:St ms w0 (lits ids ids (iB k s' G ev)++(cw u++(Bl.B (LG.core (a_ k s' F') f_)++(Bl.B (m_ (fr:=fr) bH)++(Bl.B (na (fr:=fr) bH)++(G'.B++(eb.B++(kZ bs++(Bl.B (oJ (fr:=fr) y s' bH)++R))))))))) w':=by
  have e:au [LG.bj u,.core (a_ k s' F') f_,m_ bH,na bH,.lX G',.rd eb,.nX bs,oJ y s' bH] []++R=cw u++(Bl.B (LG.core (a_ k s' F') f_)++(Bl.B (m_ (fr:=fr) bH)++(Bl.B (na (fr:=fr) bH)++(G'.B++(eb.B++(kZ bs++(Bl.B (oJ (fr:=fr) y s' bH)++R))))))):=by
   show(cw u++(Bl.B (LG.core (a_ k s' F') f_)++(Bl.B (m_ (fr:=fr) bH)++(Bl.B (na (fr:=fr) bH)++(G'.B++(eb.B++(kZ bs++(Bl.B (oJ (fr:=fr) y s' bH)++[]))))))))++R=_;simp only[bW,fQ]
  rw[e]at S2;exact S2
 refine S3.sub ?_;refine mD ?_ _;show List.Sublist (cw u++(Bl.B (LG.core (a_ k s' F') f_)++(Bl.B (m_ (fr:=fr) bH)++(Bl.B (na (fr:=fr) bH)++(G'.B++(eb.B++(Bl.B (oJ (fr:=fr) y s' bH)++R))))))) _;refine mD (mD (mD (mD (mD (mD (kG _ _) _) _) _) _) _) _
end
def auV {be bm ty:Nat} {yv:ai} {src:Int} {v:ai} {sm:Sd.ft} {bad wr:Bool} {R:List ao} {ms:List Nat} {w0 w:aj} (h:src<1\/3<src)
 (S:St ms w0 (⟨be,wr,.cells #[.int .i64 0,.int .i64 src,v,.bool sm.valid,.int .i64 sm.x.a,.int .i64 sm.x.b,.int .i64 sm.x.c,.int .i64 sm.x.d,.bool sm.pW,.bool bad] ty (0,0)⟩::R) w):
 aX prog 53 #[yv,.pointer (aa ⟨be,0,ae⟩),.pointer (aa ⟨bm,0,ae⟩)] w λv w'=>Ch [] w w':=by
 have S0:=St.nil [] w;refine iZ Tryz.func53 rfl ?_;refine aR (aZ ?_);refine av (.pointer (aa ⟨be,0,ae⟩)) ?_;refine mF S 0 (.int .i64 0) be 0 ?_;refine aT (aQ (kx (aR (aZ ?_))));refine av (.bool af) ?_;refine fp ?_;refine aT (aQ (pT af (λ_=>?_) (λe=>by cases e)));refine aR (aR (aZ ?_));refine av (.pointer (aa ⟨be,1,ae⟩)) ?_;refine mF S 0 (.int .i64 src) be 1 ?_;refine av (.bool (decide (src<1))) ?_;refine dh ?_;have fin:∀(a:Act),a.defers=[]->bodyPost prog (Tryz.f53) (λe w'=>∃v,e=.returned v/\Ch [] w w') .ret a w:=λa ha=>gD (R:=λ_ w'=>Ch [] w w') (v:=.tuple #[]) ha (fR (fn:=Tryz.f53) [] [] (.tuple #[]) trivial) S0.ch;by_cases h1:src<1
 ·refine YN 13 (decide (src<1)) af (decide_eq_true h1) ?_;refine ub ?_;refine ub ?_;refine ub ?_;refine av (.bool af) ?_;refine aT (aQ (pT af (λ_=>gC ?_) (λe=>by cases e)));exact fin _ rfl
 ·refine YN 13 (decide (src<1)) ag (decide_eq_false h1) ?_;refine av (.pointer (aa ⟨be,1,ae⟩)) ?_;refine mF S 0 (.int .i64 src) be 1 ?_;refine av (.bool (decide (src>3))) ?_;refine av (.bool (decide (src>3))) ?_;refine aT (aQ (pT (decide (src>3)) (λ_=>gC ?_) (λe=>absurd (of_decide_eq_false e) oM)));exact fin _ rfl
section
variable{u:aj} {k:LK} {G:dQ} {eb:iE} {y:YA} {v:ai} {sm:Sd.ft} {bad:Bool} {s:Sd.ah} {F:ba fr (a9 k s)} {fB:List ao} {rw:gP} {kd src:Int} {R:List ao} {ms:List Nat} {w0 w:aj} {ids:List Nat}
def auW {G:dQ} {i:Nat} {r:dq}:fP (G.set i r)=Sd.FO (fP G) i (r.n,r.f):=by
 funext j;unfold fP Sd.FO dQ.set;by_cases h:j=i
 ·simp only[if_pos h]
 ·simp only[if_neg h]
def auX (G:dQ) {i:Nat} (hi:i<3) (r:dq):(G.set i r.cut).B=(G.set i r).B:=by
 match i,hi with
 |0,_=>rfl
 |1,_=>rfl
 |2,_=>rfl
def ae4 {ev:List V} (M:oK k s F G) (hS:rw.nS=0) (hR:rw.nR=0):Dm u k G eb y (OW u k ⟨s.bare,fP G⟩ ev G.a eb y) ev s F fB rw:=by
 refine⟨rfl,s,F,fB,rw,G,[],⟨M,?_,rfl,rfl,oM,oM⟩,rfl,rfl⟩;rw[FU M.ok];exact FT M.ok hS hR
def Xh (l:Int) (i:Nat) (hl:1<=l/\l<=3) (hi:i<3) (Xi:l.toNat-1=i) (M:oK k s F G) (he:By eb.f) (X:wy fr (aP aY) k l s G i eb) (hX:X.j=X.L.length):
 OW u k (Sd.fG.go (aP aY) b9 ⟨s,fP G⟩ (iJ 0 l eb sm bad)) (dv 0 l v sm bad) G.a eb y (.ay []) (iB k X.s G (dv 0 l v sm bad)) [.bj u,.core (a_ k X.s X.F) X.fB,m_ X.rw,na X.rw,.lX (G.set i X.r'),.rd eb,.nX X.bs,oJ (fr:=fr) y X.s X.rw]:=by
 have yZ:Sd.fG.go (aP aY) b9 ⟨s,fP G⟩ (iJ 0 l eb sm bad)=⟨Sd.tP (aP aY) l (kN G i eb).1 s,Sd.FO (fP G) i ((kN G i eb).2.1,Sd.qb (kN G i eb).2.1 (kN G i eb).2.2)⟩:=by
  unfold Sd.fG.go;rw[if_pos (show(iJ 0 l eb sm bad).kind=0 from rfl),if_pos (show 1<=(iJ 0 l eb sm bad).source/\(iJ 0 l eb sm bad).source<=3 from hl)];show(⟨Sd.tP _ l (Sd.takeN b9 (fP G (l.toNat-1)) eb.n eb.f).1 s.bare,Sd.FO (fP G) (l.toNat-1) (Sd.takeN b9 (fP G (l.toNat-1)) eb.n eb.f).2⟩:Sd.fG)=_;rw[Xi,FU M.ok];rfl
 have auY:((X.r'.cut).n,(X.r'.cut).f)=((kN G i eb).2.1,Sd.qb (kN G i eb).2.1 (kN G i eb).2.2):=by
  show(X.r'.n,Sd.qb X.r'.n X.r'.f)=_;rw[X.h1];congr 1;funext j;unfold Sd.qb;split
  ·rename_i hj;exact(X.h2 j (by rw[X.h1];exact hj)).symm
  ·rfl
 have hle:X.r'.n<=36:=by
  rw[X.h1];exact Sd.auQ (r:=((G.r i).n,(G.r i).f)) (λj=>(M.rb i hi j).1) (λj=>(he j).1)
 have hlen:X.L.length=(kN G i eb).1.length:=X.hL.len;rw[yZ];refine⟨rfl,X.s,X.F,X.fB,X.rw,G.set i X.r'.cut,X.bs,⟨⟨X.ok,X.most,M.np,X.v1,X.v2,?_,?_⟩,?_,?_,rfl,?_,?_⟩,?_,?_⟩
 ·intro j hj;show By (if j=i then X.r'.cut else G.r j).f;split
  ·exact auT X.h3
  ·exact M.rb j hj
 ·intro j hj;show(if j=i then X.r'.cut else G.r j).n<=36;split
  ·exact hle
  ·exact M.rn j hj
 ·have:=X.acc;rw[hX,hlen,PT]at this;exact this
 ·rw[auW,auY]
 ·have:=X.b1;have:=X.h4;omega
 ·have:=X.b2;have:=X.h4;omega
 ·exact(ae3 (G:=G) (G':=G.set i X.r'.cut) rfl).symm
 ·have e:∀(GG OX:dQ),OX.B=GG.B->au [LG.bj u,.core (a_ k X.s X.F) X.fB,m_ X.rw,na X.rw,.lX GG,.rd eb,.nX X.bs,oJ (fr:=fr) y X.s X.rw] []=au [LG.bj u,.core (a_ k X.s X.F) X.fB,m_ X.rw,na X.rw,.lX OX,.rd eb,.nX X.bs,oJ (fr:=fr) y X.s X.rw] []:=by
   intro GG OX h;show cw u++(_++(_++(_++(GG.B++(eb.B++_)))))=cw u++(_++(_++(_++(OX.B++(eb.B++_)))));rw[h]
  exact e _ _ (auX G hi X.r')
end
section
variable{u:aj} {k:LK} {G:dQ} {eb:iE} {y:YA} {v:ai} {sm:Sd.ft} {bad:Bool} {s:Sd.ah} {F:ba fr (a9 k s)} {fB:List ao} {rw:gP} {kd src:Int} {R:List ao} {ms:List Nat} {w0 w:aj} {ids:List Nat}
def auZ {C:Sd.aL} {m:Sd.fG} (hk:¬(0<=kd/\kd<=3)):Sd.fG.go C b9 m (iJ kd src eb sm bad)=⟨m.s.bare,m.r⟩:=by
 unfold Sd.fG.go;rw[if_neg (show¬(iJ kd src eb sm bad).kind=0 from λe=>hk ⟨by have e:kd=0:=e;omega,by have e:kd=0:=e;omega⟩),if_neg (show¬(iJ kd src eb sm bad).kind=1 from λe=>hk ⟨by have e:kd=1:=e;omega,by have e:kd=1:=e;omega⟩),
  if_neg (show¬(iJ kd src eb sm bad).kind=2 from λe=>hk ⟨by have e:kd=2:=e;omega,by have e:kd=2:=e;omega⟩),if_neg (show¬(iJ kd src eb sm bad).kind=3 from λe=>hk ⟨by have e:kd=3:=e;omega,by have e:kd=3:=e;omega⟩)]
def au0 (ht:Body (fr:=fr) 124 dt) (hg:Gl gS ids) (hl:ids.length=7) (M:oK k s F G) (hy:y.tm.size=42/\y.tm.getD 5 undef=.pointer (aa ⟨y.a,0,ae⟩)) (hS:rw.nS=0) (hR:rw.nR=0)
 (hv:kd=0->(1<=src/\src<=3)->v=eb.v) (he:By eb.f) (hn:eb.n<=900) (hx:Sd.kr sm.x) (S:St ms w0 (lits ids ids (iB k s G (dv kd src v sm bad))++au (nf u k s F fB rw G eb y) R) w):
 aX prog 53 (aE ids [.raw (.func (.yield y.l) #[] #[]),.ptr 5 0,.ptr 6 0]).toArray w λ_ w'=>CmE u k (Sd.fG.go (aP aY) b9 ⟨s,fP G⟩ (iJ kd src eb sm bad)) (dv kd src v sm bad) G eb y fr ids R ms w0 w':=by
 have hC:=auk ht;have hq:s.c.q.length<=3:=by have:=M.ok.i.q.len;have:=M.ok.i.p.queue;omega
 have dc:∀i,i<3->(G.r i).n+eb.n<=1000:=λi hi=>by have:=M.rn i hi;omega
 by_cases h0:kd=0
 ·subst h0;by_cases fi:1<=src/\src<=3
  ·have h3:src=1\/src=2\/src=3:=oM;rcases h3 with rfl|rfl|rfl
   ·exact AZ (lp:=λi _=>ph 1 (FP (aP aY) u k 1 s G 0 eb y v sm bad) i) hC hg hl S ⟨by
     rw[auF];exact Xd dC dC (hv rfl fi) (M.rb 0 dC) he (dc 0 dC) hy M.ok M.most M.np M.v1 M.v2 (FT M.ok hS hR) hS hR λX hX=>Xh 1 0 dC dC rfl M he X hX⟩
   ·exact AZ (lp:=λi _=>ph 1 (FP (aP aY) u k 2 s G 1 eb y v sm bad) i) hC hg hl S ⟨by
     rw[auG];exact Xd dC dC (hv rfl fi) (M.rb 1 dC) he (dc 1 dC) hy M.ok M.most M.np M.v1 M.v2 (FT M.ok hS hR) hS hR λX hX=>Xh 2 1 dC dC rfl M he X hX⟩
   ·exact AZ (lp:=λi _=>ph 1 (FP (aP aY) u k 3 s G 2 eb y v sm bad) i) hC hg hl S ⟨by
     rw[auH];exact Xd dC dC (hv rfl fi) (M.rb 2 dC) he (dc 2 dC) hy M.ok M.most M.np M.v1 M.v2 (FT M.ok hS hR) hS hR λX hX=>Xh 3 2 dC dC rfl M he X hX⟩
  ·have yZ:Sd.fG.go (aP aY) b9 ⟨s,fP G⟩ (iJ 0 src eb sm bad)=⟨s.bare,fP G⟩:=by
    unfold Sd.fG.go;rw[if_pos (show(iJ 0 src eb sm bad).kind=0 from rfl),if_neg (show¬(1<=(iJ 0 src eb sm bad).source/\(iJ 0 src eb sm bad).source<=3)from fi)]
   rw[yZ]
   match ids,hl with
   |[i0,i1,i2,i3,i4,i5,i6],_=>
    have S1:St ms w0 (⟨i5,af,.cells #[.int .i64 0,.int .i64 src,v,.bool sm.valid,.int .i64 sm.x.a,.int .i64 sm.x.b,.int .i64 sm.x.c,.int .i64 sm.x.d,.bool sm.pW,.bool bad] 38 (0,0)⟩::(([aC [i0,i1,i2,i3,i4,i5,i6] i0 (b_ k),aC [i0,i1,i2,i3,i4,i5,i6] i1 (gK k),aC [i0,i1,i2,i3,i4,i5,i6] i2 (fy k 3 s),aC [i0,i1,i2,i3,i4,i5,i6] i3 (fg s),aC [i0,i1,i2,i3,i4,i5,i6] i4 (wq 2 G),aC [i0,i1,i2,i3,i4,i5,i6] i6 ⟨af,⟨33,(0,0)⟩,[.ptr 4 0]⟩])++au (nf u k s F fB rw G eb y) R)) w:=by
     refine S.perm ?_;show mE ([aC [i0,i1,i2,i3,i4,i5,i6] i0 (b_ k),aC [i0,i1,i2,i3,i4,i5,i6] i1 (gK k),aC [i0,i1,i2,i3,i4,i5,i6] i2 (fy k 3 s),aC [i0,i1,i2,i3,i4,i5,i6] i3 (fg s),aC [i0,i1,i2,i3,i4,i5,i6] i4 (wq 2 G),aC [i0,i1,i2,i3,i4,i5,i6] i5 ⟨af,⟨38,(0,0)⟩,dv 0 src v sm bad⟩,aC [i0,i1,i2,i3,i4,i5,i6] i6 ⟨af,⟨33,(0,0)⟩,[.ptr 4 0]⟩]++au (nf u k s F fB rw G eb y) R) _;have e5:aC [i0,i1,i2,i3,i4,i5,i6] i5 ⟨af,⟨38,(0,0)⟩,dv 0 src v sm bad⟩=⟨i5,af,.cells #[.int .i64 0,.int .i64 src,v,.bool sm.valid,.int .i64 sm.x.a,.int .i64 sm.x.b,.int .i64 sm.x.c,.int .i64 sm.x.d,.bool sm.pW,.bool bad] 38 (0,0)⟩:=rfl;rw[e5];exact dR λf=>by simp only[dZ,j5,oc];omega
    refine(auV (bm:=i6) (yv:=.func (.yield y.l) #[] #[]) oM S1).mono ?_;intro v' w' cz;refine⟨s,F,fB,rw,G,⟨M,?_,rfl,rfl,oM,oM⟩,S.quiet cz⟩;rw[FU M.ok];exact FT M.ok hS hR
 by_cases h1:kd=1
 ·subst h1;refine AZ (lp:=λ_ _=>ae) hC hg hl S ⟨?_⟩;rw[aun,nT];have yZ:Sd.fG.go (aP aY) b9 ⟨s,fP G⟩ (iJ 1 src eb sm bad)=⟨s.ig (aP aY) sm,fP G⟩:=by
   show(⟨s.bare.ig _ sm,fP G⟩:Sd.fG)=_;rw[FU M.ok]
  rw[yZ];exact Xg M hy hS hR ((Sd.auv (aP aY) s sm).le dC) (M.ok.ig hx) (Jy (b:=False) (Sd.Wq M.ok.i))
 by_cases h2:kd=2
 ·subst h2;refine AZ (lp:=λ_ _=>ae) hC hg hl S ⟨?_⟩;rw[aum,nT];have yZ:Sd.fG.go (aP aY) b9 ⟨s,fP G⟩ (iJ 2 src eb sm bad)=⟨s.lC (aP aY) bad,fP G⟩:=by
   show(⟨s.bare.lC _ bad,fP G⟩:Sd.fG)=_;rw[FU M.ok]
  rw[yZ];exact Xg M hy hS hR ((Sd.auz (aP aY) s bad hq).le dC) (M.ok.lC bad) (Jy (b:=False) (Sd.Ws M.ok.i))
 by_cases h3:kd=3
 ·subst h3;refine AZ (lp:=λ_ _=>ae) hC hg hl S ⟨?_⟩;rw[aul,nT];have yZ:Sd.fG.go (aP aY) b9 ⟨s,fP G⟩ (iJ 3 src eb sm bad)=⟨s.tick (aP aY),fP G⟩:=by
   show(⟨s.bare.tick _,fP G⟩:Sd.fG)=_;rw[FU M.ok]
  rw[yZ];exact Xg M hy hS hR (Sd.auB (aP aY) s hq (ad9 _).2) M.ok.tick (Jy (b:=False) (Sd.Ww M.ok.i).1)
 rw[auZ oM];have N7:(∃m:Nat,kd=Int.negSucc m)\/∃m:Nat,kd=dG (m+4):=by
  cases kd with
  |negSucc m=>exact .inl ⟨m,rfl⟩
  |ofNat n=>exact .inr ⟨n-4,by
   have a0:¬(n:Int)=0:=h0;have a1:¬(n:Int)=1:=h1;have a2:¬(n:Int)=2:=h2;have a3:¬(n:Int)=3:=h3;congr 1;omega⟩
 rcases N7 with⟨m,rfl⟩|⟨m,rfl⟩
 ·exact AZ (lp:=λ_ _=>ae) hC hg hl S ⟨by rw[auo];exact ae4 M hS hR⟩
 ·exact AZ (lp:=λ_ _=>ae) hC hg hl S ⟨by rw[aup];exact ae4 M hS hR⟩
end
end
end Go.Proofs.YtddcipamdggcnaaGreatDoor
namespace Vx
open Go Go.RowKit Go.BigFrame Sx
variable{G:Type} [Bl G]
def FV (C:Ctx G) (n:Nat) (K:jn G):List eH->jn G
 |[]=>K
 |A::l=>λfr bl ch=>uy C n A fr bl ch λe fr bl ch=>match e with
  |.normal=>FV C n K l fr bl ch
  |_=>False
def FX (T:eH):List eH->eH
 |[]=>T
 |A::l=>.seq A (FX T l)
def FY:eH->eH
 |.seq a _=>a
 |c=>c
def JR:eH->eH
 |.seq _ b=>b
 |c=>c
def Xj {C:Ctx G} (hT:∀f c,C.T f=aa c->Sound C.P C.gl f c) (hQ:nG C) (n:Nat) {K:jn G} {T:eH} {Q:dE->Act->aj->Prop} {R:List ao} {ms:List Nat} {w0:aj}:∀(l:List eH) {fr:List V} {bl:List VB} {ch:List G} {ids:List Nat} {w:aj},
 Gl C.gl ids->ids.length=bl.length->St ms w0 (lits ids ids bl++au ch R) w->FV C n K l fr bl ch->
 (∀fr' more bl' ch' w',(ids++more).length=bl'.length->St ms w0 (lits (ids++more) (ids++more) bl'++au ch' R) w'->K fr' bl' ch'->T.wp C.P Q (act (ids++more) fr') w')->(FX T l).wp C.P Q (act ids fr) w
 |[],fr,bl,ch,ids,w,hg,hl,S,h,hk=>by
  have:=hk fr [] bl ch w (by simpa using hl) (by simpa using S) h;rw[cT]at this;exact this
 |A::l,fr,bl,ch,ids,w,hg,hl,S,h,hk=>by
  refine wp_seq (wpIn_wide (n:=0)|>.1 (sound hT hQ n ae A hg hl S h ?_).1);intro e B2 more jy R2 w1 g1 g2 g3;cases e with
  |normal=>
   refine Xj hT hQ n l (hg.app more) g1 g2 g3 ?_;intro o9 cn bl2 ch2 w2 k1 k2 k3;rw[bW]at k1 k2⊢;exact hk o9 (more++cn) bl2 ch2 w2 k1 k2 k3
  |_=>exact g3.elim
end Vx
namespace Go.Proofs.YtddcipamdggcnaaGreatDoor
open Go Go.RowKit Go.BigFrame Sx Vx
variable{fr:Sd.aO->Nat×Sd.ax}
noncomputable def ae5:eH:=match prog.funcs[13]?with
 |some fn=>(match fn.body with|some c=>c|none=>.skip)
 |none=>.skip
noncomputable def ae6:eH:=JR ae5
noncomputable def ae7:eH:=JR ae6
noncomputable def Xk:eH:=JR ae7
noncomputable def JS:eH:=FY (FY Xk)
noncomputable def OY:eH:=JR (FY Xk)
noncomputable def stepT:eH:=JR Xk
noncomputable def JT:List eH:=[FY ae5,FY ae6,FY ae7]
def Xl:LM fr:=λar k s F K=>match ar with
 |[]=>(eV k s/\cj=F.vs/\cj=F.vr)/\K (.agg (qu s cj cj)) s F [] []
 |_=>False
def au1 (ht:Body (fr:=fr) 124 dt):yT (fr:=fr) 35 (λ_=>Xl (fr:=fr)):=by
 intro u ar k s F Kb a b R0 ms w0 w h0 hq hM S;unfold Xl at hM;split at hM
 ·generalize hR:cw u++R0=R at S⊢;have hg:Gl gS (cQ a b):=by
   intro g i di;unfold gS at di;split at di
   ·obtain rfl:=cG di;exact⟨sP,rfl⟩
   ·obtain rfl:=cG di;exact⟨sP,rfl⟩
   ·cases di
  have cV:Hd (br (bM prog gS (LC fr (aP aY))) 60 35 [.ptr 2 0] (du k s) [a_ k s F] (uZ k s λs' F'=>∃h:s'=s,h▸F'=F)):=⟨by
   rw[atw];exact⟨s,F,by rw[<-hM.1.2.1,<-hM.1.2.2],rfl,rfl,rfl,rfl⟩⟩
  have hok:=asJ ht;refine(eZ hok.T hok.Q 60 (C:=bM prog gS (LC fr (aP aY))) (ids:=cQ a b) (bl:=du k s) (ch:=[a_ k s F]) (R:=R) (ms:=ms) (w0:=w0) (w:=w) hg rfl (by
   have e:au [a_ k s F] R=F.B++R:=rfl;rw[e];exact S) cV.h).mono ?_
  rintro v w' ⟨x,more,bl',ch',rfl,h1,S',s',F',rfl,hb,rfl,rfl,hF⟩;obtain rfl:F'=F:=hF;have pF:bl'=du k s'++bl'.drop 4:=by rw[<-hb,jH]
  rw[pF]at S';have e2:lits (cQ a b++more) (cQ a b++more) (du k s'++bl'.drop 4)=lits (cQ a b) (cQ a b) (du k s')++lits (cQ a b++more) more (bl'.drop 4):=by
   rw[fu _ _ _ _ rfl];rw[fw (ids:=cQ a b) (more:=more) (cQ a b) (du k s') rfl]
  rw[e2]at S';refine⟨.agg (qu s' cj cj),s',F',[],[],[],rfl,?_,rfl,hM.2,?_⟩
  ·rw[<-hM.1.2.1,<-hM.1.2.2];simp only[qu,den,ak,cl]
  ·refine S'.sub ?_;show List.Sublist (lits (cQ a b) (cQ a b) (du k s')++([]++(F'.B++([]++R)))) _;rw[bW];refine mD ?_ _;exact kG _ _
 ·exact hM.elim
def Dn (fr:Sd.aO->Nat×Sd.ax):List (bK (LG fr)):=[⟨35,ag,yS λ_=>Xl⟩]
def au2 (ht:Body (fr:=fr) 124 dt):aH prog gS (Dn fr):=aH.cons (Ow (au1 ht)) aH.nil
def wz (u:aj) (k:LK) (s:Sd.ah) (F:ba fr (a9 k s)) (fB:List ao) (G:dQ) (eb:iE):List (LG fr):=[.bj u,.core (a_ k s F) fB,.lX G,.rd eb]
def au3:prog.funcs[13]?.bind (·.body)=aa (FX (.seq (FX OY [JS]) stepT) JT):=kR
noncomputable def y9:List V:=match me prog 48 with|some z=>z|none=>[]
def y_ (s:Sd.ah) (ev:List V):List V:=[.ptr 4 0,.agg ev,fU,.ptr 5 0,.ptr 6 0,.ptr 7 0,fU,.ptr 4 0,.ptr 4 0,.ptr 4 0,.ptr 2 0,.bool ag,fU,fU,.ptr 4 0,.ptr 4 0,.ptr 4 0,.ptr 2 0,.agg (qu s cj cj),.ptr 4 0,.agg ev,.fn 53 [] [.ptr 9 0,.ptr 8 0]]++pg 20
noncomputable def OZ (k:LK) (s:Sd.ah) (G:dQ) (ev:List V):List VB:=iz k s G++[⟨af,⟨38,(0,0)⟩,ev⟩,⟨af,⟨48,(0,0)⟩,y9⟩,⟨af,⟨48,(0,0)⟩,qu s cj cj⟩,⟨af,⟨33,(0,0)⟩,[.ptr 4 0]⟩,⟨af,⟨38,(0,0)⟩,ev⟩]
section
variable(u:aj) (k:LK) (s:Sd.ah) (F:ba fr (a9 k s)) (fB:List ao) (G:dQ) (eb:iE) (kd src:Int) (v:ai) (sm:Sd.ft) (bad:Bool) (K:jn (LG fr))
def sgX:Prop:=OC k s/\(eV k (bO s)/\cj=F.vs/\cj=F.vr)/\K (y_ (bO s) (dv kd src v sm bad)) (OZ k (bO s) G (dv kd src v sm bad)) (wz u k (bO s) F ([]++fB) G eb)
def au4:FV (bM prog gS (Dn fr)) 60 (FV (bM prog gS (Dn fr)) 60 K [JS]) JT ([.ptr 4 0,.agg (dv kd src v sm bad)]++pg 40) (iz k s G) (wz u k s F fB G eb)=sgX u k s F fB G eb kd src v sm bad K:=kR
end
end Go.Proofs.YtddcipamdggcnaaGreatDoor
namespace Go.Proofs.YtddcipamdggcnaaGreatDoor
section
open Go Go.RowKit Go.BigFrame Sx Vx
section
variable{P:aG} {ops:Array aw} {rest:List aw} {o:aw} {a:Act} {w:aj} {Q:dE->Act->aj->Prop}
def au5 {x:bg} {ty:aM} {ad:aI} {v:ai} (hw:gk o (yielded ops a.tmps)=af) (ho:o.op=.load ty x) (hx:a.eval x=.pointer (aa ad)) (xk:(loadVar ty ad).run P w=.ok v w) (k:WL P ops Q rest (a.put o.dst v) w):WL P ops Q (o::rest) a w:=
 WL.want hw λK hK=>by
  unfold qK execOp;simp only[ho,hx,pO,iY,bz,cZ,ct,xk];exact hK _ _ k
def au6 {tmps:Array ai} {t ty:Nat} {ad:aI} {v:ai} (h:tmps.getD t undef=.pointer (aa ad)) (xk:(loadVar ty ad).run P w=.ok v w):(vo tmps (.cell t ty)).run P w=.ok v w:=by
 simp only[vo,h,bz,asAddr,cZ,ct,xk]
def au7 {x y:bg} {ty:aM} {ad:aI} {v:ai} {w':aj} (hw:gk o (yielded ops a.tmps)=af) (ho:o.op=.store ty x y) (hx:a.eval x=.pointer (aa ad)) (hy:a.eval y=v) (fE:(storeVar ty ad v).run P w=.ok () w') (k:WL P ops Q rest (a.put o.dst undef) w'):WL P ops Q (o::rest) a w:=
 WL.want hw λK hK=>by
  unfold qK execOp;simp only[ho,hx,hy,Gq,iY,bz,cZ,ct,fE];exact hK _ _ k
end
section
variable{t4 t5 d:Nat} {cs c0:Array ai} {a:Act} {R:List ao} {ms:List Nat} {w0 w:aj} {Rp:ai->aj->Prop}
def au8 (Dp:cs.size=46) (h0:c0.size=46) (nF:cs.toList.all (·.oneCell')=af) (ha4:a.tmps[4]?=aa (.pointer (aa ⟨t4,0,ae⟩))) (ha5:a.tmps[5]?=aa (.pointer (aa ⟨t5,0,ae⟩))) (dc:a.tmps.size=42) (hd:a.defers=[⟨.collected d,#[]⟩])
 (S:St ms w0 (⟨t4,af,.cells c0 48 (0,0)⟩::⟨t5,af,.cells cs 48 (0,0)⟩::⟨d,af,.deferred (aa [])⟩::R) w)
 (hR:∀w',St ms w0 (⟨t4,af,.cells cs 48 (0,0)⟩::⟨t5,af,.cells cs 48 (0,0)⟩::R) w'->Rp (.agg cs) w'):
 stepT.wp prog (bodyPostM PR 0 prog (Tryz.f13) (λe w'=>∃v,e=.returned v/\Rp v w')) a w:=by
 have e:stepT=.seq (.region 10 [⟨aa 41,.load 48 (.tmp 5),48,"machine.go:50",#[],ae⟩,⟨ae,.store 48 (.tmp 4) (.tmp 41),0,"machine.go:50",#[⟨0,.data⟩,⟨0,.phase⟩],ae⟩].toArray ag) .ret:=kR;rw[e];have lH:(prog.underlying 48).map jI=aa af:=kR;have hn:(prog.info? 48).map (·.size)=aa 46:=kR;have ev:∀(a:Act) (i:Nat) (v:ai),a.tmps[i]?=aa v->a.eval (.tmp i)=v:=λa i v h=>by
  show a.tmps.getD i undef=v;rw[jG,h];rfl
 have au9:=S.at_ 1 _ rfl;have xk:=Bp (P:=prog) (off:=0) (n:=46) (vs:=cs) au9 lH hn (by rw[dS,<-Dp];exact Array.extract_size) Dp;refine wp_seq (aZ (au5 (x:=.tmp 5) rfl rfl (ev a 5 _ ha5) xk ?_));have b4:(a.put (aa 41) (.agg cs)).tmps[4]?=aa (.pointer (aa ⟨t4,0,ae⟩)):=by
  show(a.tmps.setIfInBounds 41 (.agg cs))[4]?=_;rw[Array.getElem?_setIfInBounds_ne dC];exact ha4
 have b41:(a.put (aa 41) (.agg cs)).tmps[41]?=aa (.agg cs):=by
  show(a.tmps.setIfInBounds 41 (.agg cs))[41]?=_;rw[Array.getElem?_setIfInBounds_self_of_lt oM]
 have OJ:=S.at_ 0 _ rfl;have fE:=Gv (P:=prog) (off:=0) (v:=.agg cs) (vs:=cs.toList) OJ rfl (hn.trans (congrArg aa (by rw[wF,Dp]))) (by rw[wF,Dp,h0];exact cY _) nF;refine au7 (x:=.tmp 4) (y:=.tmp 41) rfl rfl (ev _ 4 _ b4) (ev _ 41 _ b41) fE ?_;have mL:splice c0 0 cs.toList=cs:=by
  unfold splice;apply fD;simp[Dp,h0]
 have S2:=S.step (i:=0) rfl rfl (Ch.setRow w t4 _) (setRow_heap w t4 c0 (splice c0 0 cs.toList) 48 (0,0) OJ);rw[mL]at S2⊢;refine aT (aQ (gC ?_));show LeavesInM PR 0 prog _ _ _ a.defers .returning _;rw[hd];have ae8:=S2.at_ 2 ⟨d,af,.deferred (aa [])⟩ rfl;have S3:=S2.step (i:=2) (x:=⟨d,af,.deferred (aa [])⟩) rfl rfl (Ch.putObj _ d (.deferred ae)) (World.putObj_heap_same (oe ae8));refine⟨(λe=>nomatch e),.inl ⟨d,_,rfl,run_takeDeferred ae8,?_⟩⟩;have S4:St ms w0 (⟨t4,af,.cells cs 48 (0,0)⟩::⟨t5,af,.cells cs 48 (0,0)⟩::R) ((w.setRow t4 cs).putObj d (.deferred ae)):=by
  refine S3.sub ?_;exact wL _ (wL _ (List.sublist_cons_self _ _))
 have au_:=Bp (P:=prog) (off:=0) (n:=46) (vs:=cs) (S4.at_ 0 _ rfl) lH hn (by rw[dS,<-Dp];exact Array.extract_size) Dp;refine⟨.agg cs,fR (fn:=Tryz.f13) [.cell 4 48] [.agg cs] (.agg cs) ⟨?_,trivial⟩,_,rfl,hR _ S4⟩;refine au6 ?_ au_;rw[jG];exact congrArg (λo:Option ai=>o.getD undef) b4
end
variable{fr:Sd.aO->Nat×Sd.ax}
def ava:OY=.block 0 (.rangeFunc (.tmp 21) #[22] gM.1 gM.2):=kR
def Xm:gP:=⟨[],ae,0,0,[],uf 2 _,[],ae,0,0,[],uf 6 _⟩
section
variable{u:aj} {k:LK} {G:dQ} {eb:iE} {v:ai} {sm:Sd.ft} {bad:Bool} {s:Sd.ah} {F:ba fr (a9 k s)} {fB:List ao} {kd src:Int} {R:List ao} {ms:List Nat} {w0 w:aj} {i0 i1 i2 i3 i4 i5 i6 i7 i8 i9:Nat}
def avb (ht:Body (fr:=fr) 124 dt) (hg:Gl gS [i0,i1,i2,i3,i4]) (M:oK k s F G) (hv:kd=0->(1<=src/\src<=3)->v=eb.v) (he:By eb.f) (hn:eb.n<=900) (hx:Sd.kr sm.x) {Q:dE->Act->aj->Prop}
 (S:St ms w0 (lits [i0,i1,i2,i3,i4,i5,i6,i7,i8,i9] [i0,i1,i2,i3,i4,i5,i6,i7,i8,i9] (OZ k s G (dv kd src v sm bad))++au (wz u k s F fB G eb) R) w)
 (hQ:∀(s':Sd.ah) (F':ba fr (a9 k s')) (f_:List ao) (bH:gP) (G':dQ) (d:Nat) (w':aj),OV k (Sd.fG.go (aP aY) b9 ⟨s,fP G⟩ (iJ kd src eb sm bad)) s' F' f_ bH G' G.a->
  St ms w0 (⟨i6,af,.cells (ak [] y9).toArray 48 (0,0)⟩::⟨i7,af,.cells (ak [] (FM s' (.raw (.slice bH.xS bH.nS bH.cS)) (.raw (.slice bH.xR bH.nR bH.cR)))).toArray 48 (0,0)⟩::⟨d,af,.deferred (aa [])⟩::
   (lits [i0,i1,i2,i3,i4] [i0,i1,i2,i3,i4] (iz k s' G)++au [LG.bj u,.core (a_ k s' F') f_,m_ bH,na bH,.lX G',.rd eb] R)) w'->
  Q .normal {act [i0,i1,i2,i3,i4,i5,i6,i7,i8,i9] (y_ s (dv kd src v sm bad))with defers:=[⟨.collected d,#[]⟩]} w'):
 OY.wp prog Q (act [i0,i1,i2,i3,i4,i5,i6,i7,i8,i9] (y_ s (dv kd src v sm bad))) w:=by
 rw[ava];refine kx (wpIn_wide (n:=0)|>.1 (wpIn_rangeFunc λfn _=>?_))
 let ids:=[i0,i1,i2,i3,i4,i5,i6,i7,i8,i9]
 let y:YA:=⟨fn,w.heap.size+1,w.heap.size,i7,(aE ids (y_ s (dv kd src v sm bad))).toArray⟩
 have ae9:∀w2:aj,w2=((w.alloc (.deferred (aa []))).alloc (.loop {state:=.ready,pending:=ae,fn,tmps:=y.tm,params:=#[22],assign:=gM.1,body:=gM.2,defers:=w.heap.size}))->
  St ms w0 (lits [i0,i1,i2,i3,i4,i9,i8] [i0,i1,i2,i3,i4,i9,i8] (iB k s G (dv kd src v sm bad))++au (nf u k s F fB Xm G eb y) (⟨i6,af,.cells (ak [] y9).toArray 48 (0,0)⟩::R)) w2:=by
  rintro w2 rfl;have S1:=S.new (Ch.alloc [] w (.deferred (aa []))) (cY _) (n6 w _);have S2:=S1.new (Ch.alloc [] (w.alloc (.deferred (aa []))) (.loop {state:=.ready,pending:=ae,fn,tmps:=y.tm,params:=#[22],assign:=gM.1,body:=gM.2,defers:=w.heap.size})) (cY _) (n6 _ _);rw[World.size_alloc]at S2;have hA:lits [i0,i1,i2,i3,i4,i5,i6,i7,i8,i9] [i0,i1,i2,i3,i4,i5,i6,i7,i8,i9] (OZ k s G (dv kd src v sm bad))=lits [i0,i1,i2,i3,i4] [i0,i1,i2,i3,i4] (iz k s G)++[⟨i5,af,.cells (ak [] (dv kd src v sm bad)).toArray 38 (0,0)⟩,⟨i6,af,.cells (ak [] y9).toArray 48 (0,0)⟩,⟨i7,af,.cells (ak [] (qu s cj cj)).toArray 48 (0,0)⟩,⟨i8,af,.cells #[.pointer (aa ⟨i4,0,ae⟩)] 33 (0,0)⟩,⟨i9,af,.cells (ak [] (dv kd src v sm bad)).toArray 38 (0,0)⟩]:=kR;have hB:lits [i0,i1,i2,i3,i4,i9,i8] [i0,i1,i2,i3,i4,i9,i8] (iB k s G (dv kd src v sm bad))=lits [i0,i1,i2,i3,i4] [i0,i1,i2,i3,i4] (iz k s G)++[⟨i9,af,.cells (ak [] (dv kd src v sm bad)).toArray 38 (0,0)⟩,⟨i8,af,.cells #[.pointer (aa ⟨i4,0,ae⟩)] 33 (0,0)⟩]:=kR;rw[hA]at S2;rw[hB];have e1:au (wz u k s F fB G eb) R=cw u++(((a_ k s F).F.B++fB)++(G.B++(eb.B++R))):=rfl;have e2:au (nf u k s F fB Xm G eb y) (⟨i6,af,.cells (ak [] y9).toArray 48 (0,0)⟩::R)=cw u++(((a_ k s F).F.B++fB)++(G.B++(eb.B++([⟨w.heap.size+1,af,.loop {state:=.ready,pending:=ae,fn,tmps:=y.tm,params:=#[22],assign:=gM.1,body:=gM.2,defers:=w.heap.size}⟩,⟨w.heap.size,af,.deferred (aa [])⟩,⟨i7,af,.cells (ak [] (qu s cj cj)).toArray 48 (0,0)⟩]++(⟨i6,af,.cells (ak [] y9).toArray 48 (0,0)⟩::R))))):=rfl;rw[e1]at S2;rw[e2];have S3:=S2.perm (bs':=⟨i5,af,.cells (ak [] (dv kd src v sm bad)).toArray 38 (0,0)⟩::((lits [i0,i1,i2,i3,i4] [i0,i1,i2,i3,i4] (iz k s G)++[⟨i9,af,.cells (ak [] (dv kd src v sm bad)).toArray 38 (0,0)⟩,⟨i8,af,.cells #[.pointer (aa ⟨i4,0,ae⟩)] 33 (0,0)⟩])++(cw u++(((a_ k s F).F.B++fB)++(G.B++(eb.B++([⟨w.heap.size+1,af,.loop {state:=.ready,pending:=ae,fn,tmps:=y.tm,params:=#[22],assign:=gM.1,body:=gM.2,defers:=w.heap.size}⟩,⟨w.heap.size,af,.deferred (aa [])⟩,⟨i7,af,.cells (ak [] (qu s cj cj)).toArray 48 (0,0)⟩]++(⟨i6,af,.cells (ak [] y9).toArray 48 (0,0)⟩::R)))))))) (dR λf=>by simp only[dZ,j5,oc];omega);exact S3.sub (List.sublist_cons_self _ _)
 have LR:(act [i0,i1,i2,i3,i4,i5,i6,i7,i8,i9] (y_ s (dv kd src v sm bad))).eval (.tmp 21)=.func (.func 53) #[] #[.pointer (aa ⟨i9,0,ae⟩),.pointer (aa ⟨i8,0,ae⟩)]:=by
  rw[aav];rfl
 have hg7:Gl gS [i0,i1,i2,i3,i4,i9,i8]:=by
  intro g i di;have h:=hg g i di;unfold gS at di;split at di
  ·obtain rfl:=cG di;exact⟨sP,h.2⟩
  ·obtain rfl:=cG di;exact⟨sP,h.2⟩
  ·cases di
 have hy:y.tm.size=42/\y.tm.getD 5 undef=.pointer (aa ⟨y.a,0,ae⟩):=⟨by simp[y,rj,y_,pg],by
  have:=zO (ids:=ids) (y_ s (dv kd src v sm bad)) 5;exact this⟩
 let W:aj:=((w.alloc (.deferred (aa []))).alloc (.loop {state:=.ready,pending:=ae,fn,tmps:=y.tm,params:=#[22],assign:=gM.1,body:=gM.2,defers:=w.heap.size}))
 refine⟨w.heap.size+1,[⟨.collected w.heap.size,#[]⟩],W,⟨.fn (.func 53) #[.pointer (aa ⟨i9,0,ae⟩),.pointer (aa ⟨i8,0,ae⟩)],#[]++#[.func (.yield (w.heap.size+1)) #[] #[]]⟩,W,53,(#[]++#[.func (.yield (w.heap.size+1)) #[] #[]])++#[.pointer (aa ⟨i9,0,ae⟩),.pointer (aa ⟨i8,0,ae⟩)],W,run_enterLoop_outer fn y.tm #[22] gM.1 gM.2,?_,λ_ _=>trivial,Ri kR _ _,(λe=>nomatch e),callsIn_wide.2 ?_⟩
 ·simp only[resolve,rangeCall,LR,agf,cZ];congr 2;rw[Array.map_singleton];rfl
 ·have hc:=au0 (y:=y) (rw:=Xm) ht hg7 rfl M hy rfl rfl hv he hn hx (ae9 W rfl);have cN:(aE [i0,i1,i2,i3,i4,i9,i8] [.raw (.func (.yield y.l) #[] #[]),.ptr 5 0,.ptr 6 0]).toArray=(#[]++#[.func (.yield (w.heap.size+1)) #[] #[]])++#[.pointer (aa ⟨i9,0,ae⟩),.pointer (aa ⟨i8,0,ae⟩)]:=by
   simp only[aE,den];rfl
  rw[cN]at hc;unfold aX at hc;refine Calls.mono hc ?_;clear hc ae9;rintro e w' ⟨v',rfl,s',F',f_,bH,G',hC,S'⟩;have ha:G'.a=G.a:=hC.2.2.2.1;have hB:lits [i0,i1,i2,i3,i4,i9,i8] [i0,i1,i2,i3,i4,i9,i8] (iB k s' G (dv kd src v sm bad))=lits [i0,i1,i2,i3,i4] [i0,i1,i2,i3,i4] (iz k s' G)++[⟨i9,af,.cells (ak [] (dv kd src v sm bad)).toArray 38 (0,0)⟩,⟨i8,af,.cells #[.pointer (aa ⟨i4,0,ae⟩)] 33 (0,0)⟩]:=kR;rw[hB]at S'
  let lo:Obj:=.loop {state:=.ready,pending:=ae,fn,tmps:=y.tm,params:=#[22],assign:=gM.1,body:=gM.2,defers:=w.heap.size}
  let cs:Obj:=.cells (ak [] (FM s' (.raw (.slice bH.xS bH.nS bH.cS)) (.raw (.slice bH.xR bH.nR bH.cR)))).toArray 48 (0,0)
  let e6:ao:=⟨i6,af,.cells (ak [] y9).toArray 48 (0,0)⟩
  have e2:au (nf u k s' F' f_ bH G' eb y) (e6::R)=cw u++(((a_ k s' F').F.B++f_)++(bH.bS++(bH.bR++(G'.B++(eb.B++([⟨w.heap.size+1,af,lo⟩,⟨w.heap.size,af,.deferred (aa [])⟩,⟨i7,af,cs⟩]++(e6::R))))))):=rfl;have S1:St ms w0 ((lits [i0,i1,i2,i3,i4] [i0,i1,i2,i3,i4] (iz k s' G)++[⟨i9,af,.cells (ak [] (dv kd src v sm bad)).toArray 38 (0,0)⟩,⟨i8,af,.cells #[.pointer (aa ⟨i4,0,ae⟩)] 33 (0,0)⟩])++(cw u++(((a_ k s' F').F.B++f_)++(bH.bS++(bH.bR++(G'.B++(eb.B++([⟨w.heap.size+1,af,lo⟩,⟨w.heap.size,af,.deferred (aa [])⟩,⟨i7,af,cs⟩]++(e6::R))))))))) w':=by rw[<-e2];exact S'
  have S2:=S1.perm (bs':=⟨w.heap.size+1,af,lo⟩::⟨i9,af,.cells (ak [] (dv kd src v sm bad)).toArray 38 (0,0)⟩::⟨i8,af,.cells #[.pointer (aa ⟨i4,0,ae⟩)] 33 (0,0)⟩::e6::⟨i7,af,cs⟩::⟨w.heap.size,af,.deferred (aa [])⟩::(lits [i0,i1,i2,i3,i4] [i0,i1,i2,i3,i4] (iz k s' G)++(cw u++(((a_ k s' F').F.B++f_)++(bH.bS++(bH.bR++(G'.B++(eb.B++R)))))))) (dR λf=>by simp only[dZ,j5,oc];omega);have aS:w'.heap[w.heap.size+1]?=aa lo:=S2.at_ 0 ⟨w.heap.size+1,af,lo⟩ rfl;have S3:=S2.step (i:=0) (x:=⟨w.heap.size+1,af,lo⟩) rfl rfl (Ch.putObj w' (w.heap.size+1) (.loop {state:=.exhausted,pending:=ae,fn,tmps:=y.tm,params:=#[22],assign:=gM.1,body:=gM.2,defers:=w.heap.size})) (World.putObj_heap_same (oe aS));refine⟨ae,_,run_endLoop aS sP,?_⟩;show Q .normal _ _;refine hQ s' F' f_ bH G' w.heap.size _ hC ?_;have S4:=S3.sub (bs':=e6::⟨i7,af,cs⟩::⟨w.heap.size,af,.deferred (aa [])⟩::(lits [i0,i1,i2,i3,i4] [i0,i1,i2,i3,i4] (iz k s' G)++(cw u++(((a_ k s' F').F.B++f_)++(bH.bS++(bH.bR++(G'.B++(eb.B++R)))))))) (PU _ (PU _ (PU _ (List.Sublist.refl _))));exact S4
end
section
variable{u:aj} {k:LK} {G:dQ} {eb:iE} {v:ai} {sm:Sd.ft} {bad:Bool} {s:Sd.ah} {F:ba fr (a9 k s)} {fB:List ao} {kd src:Int} {R:List ao} {ms:List Nat} {w0 w:aj} {i0 i1 i2 i3 i4:Nat}
def JU (s':Sd.ah) (bH:gP):Array ai:=(ak [] (FM s' (.raw (.slice bH.xS bH.nS bH.cS)) (.raw (.slice bH.xR bH.nR bH.cR)))).toArray
def avc (s':Sd.ah) (bH:gP):(JU s' bH).size=46:=by
 unfold JU FM;simp[ak,cl,den]
def avd (s':Sd.ah) (bH:gP):(JU s' bH).toList.all (·.oneCell')=af:=kR
def ave:(ak [] y9).toArray.size=46:=kR
def avf (n:Nat) (ids:List Nat) (args:List V):({tmps:=(aE ids args).toArray++zm (n-(aE ids args).toArray.size) undef,defers:=[]}:Act)=act ids (args++pg (n-args.length)):=by
 simp only[act,RS,RR];congr 1;apply fD;simp[rj]
def avg (ht:Body (fr:=fr) 124 dt) (hg:Gl gS [i0,i1,i2,i3,i4]) (M:oK k s F G) (hv:kd=0->(1<=src/\src<=3)->v=eb.v) (he:By eb.f) (hn:eb.n<=900) (hx:Sd.kr sm.x)
 (S:St ms w0 (lits [i0,i1,i2,i3,i4] [i0,i1,i2,i3,i4] (iz k s G)++au (wz u k s F fB G eb) R) w):
 aX prog 13 (aE [i0,i1,i2,i3,i4] [.ptr 4 0,.agg (dv kd src v sm bad)]).toArray w λvv w'=>∃(s':Sd.ah) (F':ba fr (a9 k s')) (f_:List ao) (bH:gP) (G':dQ),
  OV k (Sd.fG.go (aP aY) b9 ⟨s,fP G⟩ (iJ kd src eb sm bad)) s' F' f_ bH G' G.a/\vv=.agg (JU s' bH)/\
  St ms w0 (lits [i0,i1,i2,i3,i4] [i0,i1,i2,i3,i4] (iz k s' G)++au [LG.bj u,.core (a_ k s' F') f_,m_ bH,na bH,.lX G',.rd eb] R) w':=by
 have hf:=Tryz.func13;have hb:(Tryz.f13).body=aa (FX (.seq (FX OY [JS]) stepT) JT):=by
  have:=au3;rw[hf]at this;exact this
 refine callsIn_wide (n:=0)|>.1 (callsIn_of_wp_marks hf hb trivial (wpIn_wide (n:=0)|>.2 ?_));have hnt:(Tryz.f13).ntmps=42:=kR;have e:=avf 42 [i0,i1,i2,i3,i4] [.ptr 4 0,.agg (dv kd src v sm bad)];rw[hnt];rw[e];have hok:=au2 (fr:=fr) ht
 let K2:jn (LG fr):=λfr' bl' ch'=>fr'=y_ (bO s) (dv kd src v sm bad)/\bl'=OZ k (bO s) G (dv kd src v sm bad)/\ch'=wz u k (bO s) F ([]++fB) G eb
 have cV:Hd (FV (bM prog gS (Dn fr)) 60 (FV (bM prog gS (Dn fr)) 60 K2 [JS]) JT ([.ptr 4 0,.agg (dv kd src v sm bad)]++pg 40) (iz k s G) (wz u k s F fB G eb)):=⟨by
  rw[au4];exact⟨⟨rfl,rfl,by rw[nT],rfl,rfl,M.most⟩,⟨by rw[nT];exact M.ok,M.v1,M.v2⟩,rfl,rfl,rfl⟩⟩
 refine Xj (C:=bM prog gS (Dn fr)) hok.T hok.Q 60 JT hg rfl S cV.h ?_;intro B2 more jy R2 w1 g1 g2 g3;refine wp_seq (Xj (C:=bM prog gS (Dn fr)) hok.T hok.Q 60 [JS] (hg.app more) g1 g2 g3 ?_);rintro o9 cn bl2 ch2 w2 k1 k2 ⟨rfl,rfl,rfl⟩;rw[bW]at k1 k2⊢;generalize more++cn=mm at k1 k2⊢;have Hg:mm.length=5:=by
  have:([i0,i1,i2,i3,i4]++mm).length=10:=k1;simp at this;omega
 match mm,Hg with
 |[i5,i6,i7,i8,i9],_=>
  have cz:au (wz u k (bO s) F ([]++fB) G eb) R=au (wz u k s F fB G eb) R:=rfl;rw[cz,nT]at k2;rw[nT];refine avb (F:=F) (fB:=fB) ht hg M hv he hn hx k2 ?_;intro s' F' f_ bH G' d w' hC S';refine au8 (t4:=i6) (t5:=i7) (d:=d) (avc s' bH) ave (avd s' bH) rfl rfl (by simp[act,rj,y_,pg]) rfl S' ?_;intro w3 S3;refine⟨s',F',f_,bH,G',hC,rfl,S3.sub (PU _ (PU _ (List.Sublist.refl _)))⟩
end
def FZ {ids:List Nat}:∀(is:List Nat) (bl:List VB) (_:is.length=bl.length) (i:Nat) (b:VB),bl[i]?=aa b->aC ids (is.getD i 0) b∈lits ids is bl
 |[],[],_,i,b,h=>by simp at h
 |j::is,c::bl,hl,0,b,h=>by
  obtain rfl:c=b:=by simpa using h
  exact vi
 |j::is,c::bl,hl,i+1,b,h=>qQ _ (FZ is bl (by simpa using hl) i b (by simpa using h))
 |[],_::_,h,_,_,_=>by simp at h
 |_::_,[],h,_,_,_=>by simp at h
def Xn:List VB->Nat->Nat
 |[],_=>0
 |_::_,0=>0
 |b::l,i+1=>match b.c with
  |[.raw _,.int _ _,.raw _,.raw _,.raw _]=>Xn l i+1
  |_=>Xn l i
def Dq:List (LG fr)->Nat->Option (List (LG fr)×eT fr×List (LG fr))
 |[],_=>ae
 |g::l,n=>match g,n with
  |.oH m,0=>aa ([],m,l)
  |.oH m,n+1=>(match Dq l n with|some (p,x,q)=>aa (.oH m::p,x,q)|none=>ae)
  |g,n=>(match Dq l n with|some (p,x,q)=>aa (g::p,x,q)|none=>ae)
def ae_:∀{ch:List (LG fr)} {n:Nat} {p:List (LG fr)} {m:eT fr} {q:List (LG fr)},Dq ch n=aa (p,m,q)->ch=p++.oH m::q
 |[],_,_,_,_,h=>by simp[Dq]at h
 |g::l,n,p,m,q,h=>by
  have step:∀{k:Nat} {g:LG fr},(match Dq l k with|some (p,x,q)=>aa (g::p,x,q)|none=>ae)=aa (p,m,q)->g::l=p++.oH m::q:=by
   intro k g h;split at h
   ·rename_i p' x' q' h';simp only[aW,bC]at h;obtain⟨rfl,rfl,rfl⟩:=h;rw[ae_ h'];rfl
   ·cases h
  unfold Dq at h;split at h
  ·simp only[aW,bC]at h;obtain⟨rfl,rfl,rfl⟩:=h;rfl
  ·exact step h
  ·exact step h
abbrev MKb (fr:Sd.aO->Nat×Sd.ax):=V->eT fr->List VB->Prop
abbrev MM (fr:Sd.aO->Nat×Sd.ax):=List V->eT fr->List (LG fr)->MKb fr->Prop
def F5 (M:MM fr):dk (LG fr):=λargs bl ch K=>match args,ch with
 |.ptr im 0::ar,.bj u::rest=>(match Dq rest (Xn bl im)with
  |some (p,m,q)=>cond (bY bl.length bl) ((bl[0]?=aa (b_ m.k)/\bl[1]?=aa (gK m.k)/\bl[im]?=aa m.R)/\M ar m (p++q) λvv m' ex=>K (iA bl.length vv) (bl++ex) (.bj u::(p++.oH m'::q))) False
  |none=>False)
 |_,_=>False
def ng (m:eT fr) (im:Nat):List Nat:=[0,1,m.ic,m.it,im]
def eT.wA (m:eT fr) (im:Nat):List ao:=lits (ng m im) (ng m im) (iz m.k m.s m.G)
def Xo (f:fl) (M:MM fr):Prop:=∀(u:aj) (ids:List Nat) (ar:List V) (m:eT fr) (rest:List (LG fr)) (Kb:MKb fr) (im:Nat) (R:List ao) (ms:List Nat) (w0 w:aj),M ar m rest Kb->
 St ms w0 (m.wA im++(m.F.B++(m.fB++(m.G.B++(cw u++au rest R))))) w->
 aX prog f (.pointer (aa ⟨im,0,ae⟩)::aE ids ar).toArray w λv w'=>∃(vv:V) (m':eT fr) (ex:List VB) (xs:List Nat),xs.length=ex.length/\den xs vv=v/\bY 0 ex=af/\Kb vv m' ex/\
  St ms w0 (m'.wA im++(lits xs xs ex++(m'.F.B++(m'.fB++(m'.G.B++(cw u++au rest R)))))) w'
def eT.afa (m:eT fr) (im:Nat) (ids:List Nat):m.wA im=[aC ids 0 (b_ m.k),aC ids 1 (gK m.k)]++(m.cB++[aC ids im m.R]):=by
 unfold eT.wA;simp only[iz,ng,lits];rw[jz (ids':=ids) (AE m.k),jz (ids':=ids) (U1 m.k),jz (ids':=ids) (b:=fg m.s) (yA m.s)];have e1:aC [0,1,m.ic,m.it,im] m.ic (fy m.k 3 m.s)=aC [0,1,m.ic,m.it] m.ic (fy m.k 3 m.s):=by
  rw[Ou (a:=m.ic) (b:=m.it) _ rfl]
 have e2:aC [0,1,m.ic,m.it,im] im (wq 2 m.G)=aC ids im m.R:=by
  simp only[aC,wq,eT.R,ak,cl,den];rfl
 have e3:m.cB=[aC [0,1,m.ic,m.it] m.ic (fy m.k 3 m.s),aC ids m.it (fg m.s)]:=by
  unfold eT.cB;simp only[du,lits,List.drop];rw[jz (ids':=ids) (b:=fg m.s) (yA m.s)]
 rw[e1,e2,e3];rfl
def afb {f:Nat} {M:MM fr} (h:Xo f M):Sound prog gS f (F5 M):=by
 intro args ids bl ch R ms w0 w K hg hl S hc;unfold F5 at hc;split at hc
 ·rename_i im ar u rest;split at hc
  ·rename_i p m q hm;obtain rfl:=ae_ hm;cases hq:bY bl.length bl with
   |false=>rw[hq]at hc;exact hc.elim
   |true=>
    rw[hq]at hc;obtain⟨⟨e0,e1,e2⟩,hM⟩:=hc;have g0:=(hg 0 0 rfl).2;have g1:=(hg 1 1 rfl).2;have m0:=FZ (ids:=ids) ids bl hl 0 _ e0;have m1:=FZ (ids:=ids) ids bl hl 1 _ e1;have m2:=FZ (ids:=ids) ids bl hl im _ e2;rw[g0]at m0;rw[g1]at m1;have S1:=((S.dup (pS _ m2) rfl).dup (qQ _ (pS _ m1)) rfl).dup (qQ _ (qQ _ (pS _ m0))) rfl;have S2:=S1.perm (bs':=m.wA (ids.getD im 0)++(m.F.B++(m.fB++(m.G.B++(cw u++au (p++q) (lits ids ids bl++R)))))) (by
     rw[m.afa _ ids,kY,fe (au q (lits ids ids bl++R)) p,fe (lits ids ids bl++R) q];show mE (_::_::_::(lits ids ids bl++(cw u++au (p++.oH m::q) R))) _;rw[kY,fe (au (.oH m::q) R) p];show mE (_::_::_::(lits ids ids bl++(cw u++(au p []++((m.cB++(m.F.B++(m.fB++m.G.B)))++au q R))))) _;rw[fe R q];exact dR λf=>by simp only[dZ,j5,oc];omega)
    have uO:=h u ids ar m (p++q) _ (ids.getD im 0) _ ms w0 w hM S2;have cN:aE ids (.ptr im 0::ar)=.pointer (aa ⟨ids.getD im 0,0,ae⟩)::aE ids ar:=by simp only[aE,den]
    rw[cN];refine uO.mono ?_;rintro v w' ⟨vv,m',ex,xs,fS,Jv,uX,hK,S3⟩;refine⟨iA bl.length vv,xs,bl++ex,_,?_,by simp[hl,fS],?_,hK⟩
    ·rw[<-hl,Dg];exact Jv.symm
    ·rw[m'.afa _ ids]at S3;have S4:St ms w0 ([aC ids 0 (b_ m'.k),aC ids 1 (gK m'.k),aC ids (ids.getD im 0) m'.R]++((lits ids ids bl++lits xs xs ex)++(cw u++au (p++.oH m'::q) R))) w':=by
      refine S3.perm ?_;rw[kY,fe (au q (lits ids ids bl++R)) p,fe (lits ids ids bl++R) q,kY,fe (au (.oH m'::q) R) p];show mE _ (_++((lits ids ids bl++lits xs xs ex)++(cw u++(au p []++((m'.cB++(m'.F.B++(m'.fB++m'.G.B)))++au q R)))));rw[fe R q];exact dR λf=>by simp only[dZ,j5,oc];omega
     rw[fu _ _ _ _ hl,fw _ _ (by rw[hl];exact hq),Dh (ids':=xs) xs ex uX];exact S4.sub (kG _ _)
  ·exact hc.elim
 ·exact hc.elim
def avh {T n:Nat} {f:Nat->Int} {x:Option aI} {c:Nat} {B:List ao} (h:eQ T n f x c B) (hn:n<=1000000) {w:aj} (hw:∀y∈B,w.heap[y.id]?=aa y.obj):dM w x n c f:=by
 refine⟨hn,h.1,?_,?_⟩
 ·intro e;rcases h.2 with⟨_,h1,h2,_⟩|⟨b,h1,_⟩
  ·exact⟨h1,h2⟩
  ·rw[e]at h1;cases h1
 ·intro y e j hj;rcases h.2 with⟨h1,_⟩|⟨b,h1,h2⟩
  ·rw[e]at h1;cases h1
  ·rw[e]at h1;obtain rfl:=cG h1;have aS:=hw _ (by rw[h2];exact List.mem_singleton_self _);rw[iK,cell_of aS,dS];unfold bE;rw[jX,gm (by rw[gf];exact hj)];exact rh f hj
def j_.red (b:j_):iE:=⟨b.n,b.f,b.x,b.c,b.B,λw h=>by
 rcases b.h with⟨h1,h2,h3,h4⟩|h1
 ·exact⟨b.le,h2,λe=>⟨h1,h3 e⟩,λx e j hj=>absurd hj oM⟩
 ·exact avh h1 b.le h⟩
def avi {bs:List j_} {b:j_} (h:b∈bs):∃Q,(ox bs).Perm (b.B++Q):=by
 induction bs with
 |nil=>cases h
 |cons a l ih=>
  rcases cF.1 h with rfl|h
  ·exact⟨ox l,zq _⟩
  ·obtain⟨Q,hQ⟩:=ih h;refine⟨a.B++Q,?_⟩;show(a.B++ox l).Perm _;exact(j4 _ hQ).trans (dR λf=>by simp only[dZ];omega)
def iE.nil:iE:=⟨0,λ_=>0,ae,0,[],λw h=>⟨dC,cY _,λ_=>⟨rfl,rfl⟩,λx e=>nomatch e⟩⟩
structure A0 (m m':eT fr) (t:Sd.ah) (rr:Nat->Sd.Rest) (r:TR):Prop where
 k:m'.k=m.k
 ic:m'.ic=m.ic
 it:m'.it=m.it
 a:m'.G.a=m.G.a
 s:m'.s=eU t
 ok:oK m'.k m'.s m'.F m'.G
 rs:fP m'.G=rr
 f:FH fr t.bw r.fv m'.fB
 nS:t.bw.length<=10000
 nR:t.aV.length<=10000
def A0.R {m m':eT fr} {t:Sd.ah} {rr:Nat->Sd.Rest} {r:TR} (h:A0 m m' t rr r):m'.R=m.R:=by
 unfold eT.R;rw[h.ic,h.a]
def EvB (kd src:Int) (vv:V) (rest:List (LG fr)) (eb:iE):Prop:=(kd=0->(1<=src/\src<=3)->vv=.raw eb.v)/\(eb.B=[]\/∃bs,LG.jr bs∈rest/\∃b∈bs,eb.B=b.B)/\By eb.f/\eb.n<=900
def O0:V->Bool
 |.raw _=>af
 |.sl _ _ _ _=>af
 |_=>ag
def Xp (C:Sd.aL):MM fr:=λar m rest Kb=>match ar with
 |[.agg [.int .i64 kd,.int .i64 src,vv,.bool vl,.int .i64 a,.int .i64 b,.int .i64 c,.int .i64 d,.bool gv,.bool bad]]=>cond (O0 vv) (oK m.k m.s m.F m.G/\Sd.kr ⟨a,b,c,d⟩/\
  ∃eb:iE,EvB kd src vv rest eb/\∀(t:Sd.ah),t=(Sd.fG.go C b9 ⟨m.s,fP m.G⟩ (iJ kd src eb ⟨vl,⟨a,b,c,d⟩,gv⟩ bad)).s->∀(r:TR) (m':eT fr),A0 m m' t (Sd.fG.go C b9 ⟨m.s,fP m.G⟩ (iJ kd src eb ⟨vl,⟨a,b,c,d⟩,gv⟩ bad)).r r->Kb (r.v t 0) m' [r.sB t,r.rB t]) False
 |_=>False
section
variable{u:aj}
def avj {ids js:List Nat} {kd src:Int} {vv:V} {sm:Sd.ft} {bad:Bool} (h:O0 vv=af) (im:Nat):(aE (js++[im]) [.ptr js.length 0,.agg (dv kd src (den ids vv) sm bad)]).toArray=(.pointer (aa ⟨im,0,ae⟩)::aE ids [.agg [.int .i64 kd,.int .i64 src,vv,.bool sm.valid,.int .i64 sm.x.a,.int .i64 sm.x.b,.int .i64 sm.x.c,.int .i64 sm.x.d,.bool sm.pW,.bool bad]]).toArray:=by
 have e2:(js++[im]).getD js.length 0=im:=by simp[gd]
 unfold O0 at h;split at h
 ·simp only[aE,den,dv,ak,cl,e2]
 ·simp only[aE,den,dv,ak,cl,e2]
 ·cases h
def avk (ht:Body (fr:=fr) 124 dt):Xo 13 (Xp (fr:=fr) (aP aY)):=by
 intro u ids ar m rest Kb im R ms w0 w hM S;unfold Xp at hM;split at hM
 ·rename_i kd src vv vl a b c d gv bad;cases nF:O0 vv with
  |false=>rw[nF]at hM;exact hM.elim
  |true=>
   rw[nF]at hM;obtain⟨hok,hx,eb,⟨hv,hb,he,hn⟩,hK⟩:=hM;obtain⟨Q,hQ⟩:∃Q,(au rest R).Perm (eb.B++Q):=by
    rcases hb with e|⟨bs,h1,b,h2,h3⟩
    ·exact⟨au rest R,by rw[e];exact zq _⟩
    ·obtain⟨Q1,JH⟩:=aeP h1 R;obtain⟨Q2,JI⟩:=avi h2;refine⟨Q2++Q1,JH.trans ?_⟩;rw[<-bW,h3];exact Bc _ JI
   have S1:St ms w0 (lits [0,1,m.ic,m.it,im] [0,1,m.ic,m.it,im] (iz m.k m.s m.G)++au (wz u m.k m.s m.F m.fB m.G eb) Q) w:=by
    refine S.perm ?_;show mE (m.wA im++_) (m.wA im++(cw u++((m.F.B++m.fB)++(m.G.B++(eb.B++Q)))));refine j4 _ ?_;have h1:(m.F.B++(m.fB++(m.G.B++(cw u++au rest R)))).Perm ((m.F.B++(m.fB++(m.G.B++cw u)))++(eb.B++Q)):=by
     refine wK ?_ (j4 _ hQ);exact dR λf=>by simp only[dZ];omega
    refine h1.trans ?_;exact dR λf=>by simp only[dZ];omega
   have hg:Gl gS [0,1,m.ic,m.it,im]:=by
    intro g i di;unfold gS at di;split at di
    ·obtain rfl:=cG di;exact⟨sP,rfl⟩
    ·obtain rfl:=cG di;exact⟨sP,rfl⟩
    ·cases di
   have uO:=avg (u:=u) (kd:=kd) (src:=src) (v:=den ids vv) (sm:=⟨vl,⟨a,b,c,d⟩,gv⟩) (bad:=bad) ht hg hok (λe1 e2=>by rw[hv e1 e2];simp only[den]) he hn hx S1;have cN:=avj (ids:=ids) (js:=[0,1,m.ic,m.it]) (kd:=kd) (src:=src) (sm:=⟨vl,⟨a,b,c,d⟩,gv⟩) (bad:=bad) nF im;have afc:(aE [0,1,m.ic,m.it,im] [.ptr 4 0,.agg (dv kd src (den ids vv) ⟨vl,⟨a,b,c,d⟩,gv⟩ bad)]).toArray=(.pointer (aa ⟨im,0,ae⟩)::aE ids [.agg [.int .i64 kd,.int .i64 src,vv,.bool vl,.int .i64 a,.int .i64 b,.int .i64 c,.int .i64 d,.bool gv,.bool bad]]).toArray:=cN;rw[afc]at uO;refine uO.mono ?_;clear uO cN afc S S1;rintro v w' ⟨s',F',f_,bH,G',⟨hM',hA,hr,ha,hnS,hnR⟩,rfl,S2⟩;revert hK hA hr;generalize (Sd.fG.go (aP aY) b9 ⟨m.s,fP m.G⟩ (iJ kd src eb ⟨vl,⟨a,b,c,d⟩,gv⟩ bad)).r=rr;generalize (Sd.fG.go (aP aY) b9 ⟨m.s,fP m.G⟩ (iJ kd src eb ⟨vl,⟨a,b,c,d⟩,gv⟩ bad)).s=t;intro hK hA hr;obtain⟨rfl,nS,⟨fv,oS,hf⟩,nR,oR⟩:=hA;have kp:(⟨0,ag,.cells (ak [] (b_ m.k).c).toArray m.k.tg (0,0)⟩:ao)∈lits [0,1,m.ic,m.it,im] [0,1,m.ic,m.it,im] (iz m.k (eU t) m.G):=by
    have:aC [0,1,m.ic,m.it,im] 0 (b_ m.k)=aC [] 0 (b_ m.k):=jz (AE m.k);show _∈aC [0,1,m.ic,m.it,im] 0 (b_ m.k)::_;rw[this];exact vi
   have S3:St ms w0 (bH.bS++(bH.bR++(lits [0,1,m.ic,m.it,im] [0,1,m.ic,m.it,im] (iz m.k (eU t) m.G)++(F'.B++(f_++(G'.B++(cw u++au rest R))))))) w':=by
    refine S2.perm ?_;show mE (_++(cw u++((F'.B++f_)++(bH.bS++(bH.bR++(G'.B++(eb.B++Q))))))) _;have h1:(bH.bS++(bH.bR++(lits [0,1,m.ic,m.it,im] [0,1,m.ic,m.it,im] (iz m.k (eU t) m.G)++(F'.B++(f_++(G'.B++(cw u++au rest R))))))).Perm
     ((bH.bS++(bH.bR++(lits [0,1,m.ic,m.it,im] [0,1,m.ic,m.it,im] (iz m.k (eU t) m.G)++(F'.B++(f_++(G'.B++cw u))))))++(eb.B++Q)):=by
     refine wK ?_ (j4 _ hQ);exact dR λf=>by simp only[dZ];omega
    refine wK ?_ h1.symm;exact dR λf=>by simp only[dZ];omega
   have hS':=bH.hS;rw[nS]at hS';obtain⟨i1,t1,u1,q1,S4⟩:=Jx (k:=m.k) (g:=kE t.bw fv) hS' S3 (by simp[kp]) oS;have S5:=S4.perm (bs':=bH.bR++(⟨i1,ag,.cells ((bo t.bw.length).flatMap (kE t.bw fv)++u1).toArray t1 (0,0)⟩::(lits [0,1,m.ic,m.it,im] [0,1,m.ic,m.it,im] (iz m.k (eU t) m.G)++(F'.B++(f_++(G'.B++(cw u++au rest R))))))) (dR λf=>by simp only[dZ,j5];omega);have hR':=bH.hR;rw[nR]at hR';obtain⟨i2,t2,u2,q2,S6⟩:=Jx (k:=m.k) (g:=lv t.aV) hR' S5 (by simp[kp]) oR
   let r:TR:=⟨bH.xS,bH.cS,t1,u1,fv,bH.xR,bH.cR,t2,u2⟩
   let m':eT fr:=⟨m.k,eU t,F',f_,G',m.ic,m.it⟩
   refine⟨r.v t 0,m',[r.sB t,r.rB t],[i1,i2],rfl,?_,rfl,hK t rfl r m' ⟨rfl,rfl,rfl,ha,rfl,hM',hr,hf,oM,oM⟩,?_⟩
   ·unfold JU FM;rw[nS,nR];simp only[TR.v,WC,den,ak,cl,eU];rw[q1,q2];rfl
   ·have e1:lits [i1,i2] [i1,i2] [r.sB t,r.rB t]=[⟨i1,ag,.cells ((bo t.bw.length).flatMap (kE t.bw fv)++u1).toArray t1 (0,0)⟩,⟨i2,ag,.cells ((bo t.aV.length).flatMap (lv t.aV)++u2).toArray t2 (0,0)⟩]:=by
     simp only[lits,aC,TR.rB,TR.sB,Jw,r];rfl
    have e2:m'.wA im=lits [0,1,m.ic,m.it,im] [0,1,m.ic,m.it,im] (iz m.k (eU t) m.G):=by
     show lits _ _ [b_ m.k,gK m.k,fy m.k 3 (eU t),fg (eU t),wq 2 G']=_;rw[ae2 ha];rfl
    rw[e1,e2];refine S6.perm ?_;show mE _ (_++(_++(F'.B++(f_++(G'.B++(cw u++au rest R))))));exact dR λf=>by simp only[dZ,j5,oc];omega
 ·exact hM.elim
end
def JV (P:aG):(bg->V)->Op->List VB->List (LG fr)->VK (LG fr)->Prop:=λe op bl ch K=>match op with
 |.call c=>(match c.callee,c.args.toList,c.argTypes.toList with
  |.builtin .append,[s,xs],[t,tx]=>(match P.underlying t,P.underlying tx with
   |some (.slice 5),aa (.slice _)=>(match e s,e xs,ch with
    |.sl i 0 0 0,.raw (.slice a m c),.bj u::rest=>cond (bY bl.length bl) ((jc u a m c (dB u a)/\m<=1000000)/\(m=0->K (.sl i 0 0 0) bl (.bj u::rest))/\(0<m->∀d:Nat,K (.sl bl.length 0 m (m+d)) (bl++[gL m d (dB u a)]) (.bj u::rest))) False
    |_,_,_=>False)
   |_,_=>False)
  |_,_,_=>False)
 |_=>False
def Xq {gl:Nat->Option Nat}:ik (G:=LG fr) prog gl (JV prog):=by
 intro e op ids bl ch R ms w0 w K ρ o hg hl S bd ho h;unfold JV at h;split at h
 ·rename_i c;split at h
  ·rename_i s xs t tx ff cN dU;split at h
   ·rename_i T ht gr;split at h
    ·rename_i i a m c' u rest gE fS;cases hq:bY bl.length bl with
     |false=>rw[hq]at h;exact h.elim
     |true=>
      rw[hq]at h;obtain⟨⟨hk,hm⟩,h0,h1⟩:=h;have uq:∀y∈cw u,y∈lits ids ids bl++au (.bj u::rest) R:=λy hy=>by
       refine List.mem_append_right _ ?_;show y∈cw u++au rest R;exact pS _ hy
      have fi:=DY (P:=prog) (⟨hm,WJ S uq hk⟩:dM w a m c' (dB u a)) gr;obtain⟨mR,ar,iO⟩:=c;simp only at ff cN dU;have e2:ar=#[s,xs]:=by rw[<-cN]
      have e3:iO=#[t,tx]:=by rw[<-dU]
      subst ff e2 e3;have j9:ρ s=.slice (aa ⟨ids.getD i 0,0,ae⟩) 0 0:=by rw[bd,gE];simp only[den]
      have oA:ρ xs=.slice a m c':=by rw[bd,fS];simp only[den]
      by_cases j8:m=0
      ·subst j8;refine⟨_,[],bl,_,w,.inl ?_,by simpa using hl,by simpa using S,h0 rfl⟩;rw[jJ (P:=prog) (ρ:=ρ) (o:=o) ho j9 oA (WK (g:=dB u a) fi ht ⟨ids.getD i 0,0,ae⟩)];simp only[den,cT]
      ·obtain⟨c2,w2,bT,cz,hle,u_⟩:=OA (g:=dB u a) (x:=a) (ty:=o.type) (t:=t) fi ht oM oM ⟨ids.getD i 0,0,ae⟩;have h2:=h1 oM (c2-m);rw[show m+(c2-m)=c2 by omega]at h2;refine⟨_,[w.heap.size],_,_,w2,.inl ?_,by simp[hl],?_,h2⟩
       ·rw[jJ (P:=prog) (ρ:=ρ) (o:=o) ho j9 oA bT];simp only[den];rw[<-hl,lG]
       ·have e:aC (ids++[w.heap.size]) w.heap.size (gL m (c2-m) (dB u a))=⟨w.heap.size,af,.cells (bE m (dB u a) c2) 5 (0,0)⟩:=by
         unfold aC;rw[Jz,show m+(c2-m)=c2 by omega];rfl
        rw[fu _ _ _ _ hl,fw _ _ (by rw[hl];exact hq)];simp only[lits,e];refine(S.new cz (cY _) u_).perm ?_;rw[bW];exact kH.symm
    ·exact h.elim
   ·exact h.elim
  ·exact h.elim
 ·exact h.elim
def B6 {G:Type} [Bl G] {C:Ctx G} {f n:Nat} {args:List V} {ch0:List G} {K:VK G} (hT:∀f c,C.T f=aa c->Sound C.P C.gl f c) (hQ:nG C) (F6:C.gl=cJ) (cV:br C n f args [] ch0 K)
 {Y:List ao} {ms:List Nat} {w0 w:aj} (S:St ms w0 (au ch0 Y) w):
 aX C.P f (aE [] args).toArray w λv w'=>∃(x:V) (more:List Nat) (bl':List VB) (ch':List G),v=den more x/\more.length=bl'.length/\St ms w0 (lits more more bl'++au ch' Y) w'/\K x bl' ch':=
 eZ hT hQ n (ids:=[]) (bl:=[]) (λg i h=>by rw[F6]at h;cases h) rfl S cV
def avl {G:Type} [Bl G] {C:Ctx G} {f n:Nat} {ids:List Nat} {bl:List VB} {args args':List V} {ch0 rest:List G} {R:List ao} {ms:List Nat} {w0 w:aj} {K:VK G} (hT:∀f c,C.T f=aa c->Sound C.P C.gl f c) (hQ:nG C) (F6:C.gl=cJ) (hl:ids.length=bl.length)
 (hw:bY bl.length bl=af) (ha:aE ids args=aE [] args') (S:St ms w0 (lits ids ids bl++au (ch0++rest) R) w) (cV:br C n f args' [] ch0 (bA 0 λv b c=>K (iA bl.length v) (bl++AQ bl.length b) (c++rest))):
 aX C.P f (aE ids args).toArray w λv w'=>∃x more bl' ch',v=den (ids++more) x/\(ids++more).length=bl'.length/\St ms w0 (lits (ids++more) (ids++more) bl'++au ch' R) w'/\K x bl' ch':=by
 have S1:St ms w0 (au ch0 (lits ids ids bl++au rest R)) w:=S.perm (by
  rw[kY,fe (au rest R) ch0,fe (lits ids ids bl++au rest R) ch0];exact dR λf=>by simp only[dZ];omega)
 rw[ha];refine(B6 hT hQ F6 cV S1).mono ?_;rintro v w' ⟨x,more,bl',ch',rfl,h1,S',hK⟩;obtain⟨v2,cn,bl2,hv,cX,S2,lb⟩:=iP (n0:=0) h1 (oQ _) S' hK;simp only[PS,fQ]at hv cX S2;refine⟨_,cn,_,_,?_,?_,?_,lb⟩
 ·rw[hv,<-hl,Dg]
 ·rw[fL,fL,aer,hl,cX]
 ·rw[fu _ _ _ _ hl,fw _ _ (by rw[hl];exact hw),<-hl,aes];refine S2.perm ?_;rw[kY,fe (au rest R) ch',fe (lits ids ids bl++au rest R) ch'];exact dR λf=>by simp only[dZ];omega
def avm {ids:List Nat} {args:List V} (ha:bu 0 args=af):aE ids args=aE [] args:=by have:=oZ (ids:=[]) (more:=ids) args ha;simpa using this
def qG (n:Nat):Nat:=if n=0 then 1 else dp 64 n
def lZ (n:Nat) (f:Sd.ax):Sd.ax:=if n=0 then λ_=>7 else f
def avn (n:Nat):1<=qG n/\qG n<=64:=by unfold qG dp;split<;>omega
def JW:dk (LG fr):=λargs bl ch K=>match args,ch with
 |[.raw (.slice a n c)],.bj u::rest=>cond (bY bl.length bl) (jc u a n c (dB u a)/\∀d:Nat,K (.sl bl.length 0 (qG n) (qG n+d)) (bl++[gL (qG n) d (lZ n (dB u a))]) (.bj u::rest)) False
 |_,_=>False
def avo (u:aj) (a:Option aI) (n c:Nat) (K:VK (LG fr)):Prop:=
 let m:Int:=if(64:Int)<((n:Nat):Int)then 64 else((n:Nat):Int)
 cond ((n:Int)==0) (K (.sl 0 0 1 1) [⟨af,⟨5,(0,0)⟩,[.int .u8 7]⟩] [.bj u])
  ((0<=m/\m<=(c:Int))/\(jc u a m.toNat c (dB u a)/\m.toNat<=1000000)/\(m.toNat=0->K (.sl 0 0 0 0) [⟨af,⟨5,(0,0)⟩,[]⟩] [.bj u])/\(0<m.toNat->∀d:Nat,K (.sl 0 0 m.toNat (m.toNat+d)) [gL m.toNat d (dB u a)] [.bj u]))
def avp (u:aj) (a:Option aI) (n c:Nat) (K:VK (LG fr)):br (gy prog cJ ([]:List (bK (LG fr))) (JV prog) Xq) 60 30 [.raw (.slice a n c)] [] [.bj u] (bA 0 K)=avo u a n c K:=kR
def avq {gl:Nat->Option Nat}:Sound prog gl 30 (JW (fr:=fr)):=by
 intro args ids bl ch R ms w0 w K hg hl S hc;unfold JW at hc;split at hc
 ·rename_i a n c u rest;cases hq:bY bl.length bl with
  |false=>rw[hq]at hc;exact hc.elim
  |true=>
   rw[hq]at hc;obtain⟨hk,hK⟩:=hc
   let K0:VK (LG fr):=λv b ch=>ch=[.bj u]/\∃m d,qG n=m/\v=.sl 0 0 m (m+d)/\∃B,b=[B]/\aC [0] 0 B=aC [0] 0 (gL m d (lZ n (dB u a)))/\bu 0 B.c=af
   have cV:br (gy prog cJ ([]:List (bK (LG fr))) (JV prog) Xq) 60 30 [.raw (.slice a n c)] [] [.bj u] (bA 0 K0):=by
    rw[avp];refine aJ (λe=>?_) (λe=>?_)
    ·have e:n=0:=by simpa using e
     subst e;exact⟨rfl,1,0,rfl,rfl,_,rfl,rfl,rfl⟩
    ·have e:n≠0:=by simpa using e
     have hm:(if(64:Int)<((n:Nat):Int)then 64 else((n:Nat):Int))=((dp 64 n:Nat):Int):=Zm 64 n;rw[hm];have hn:qG n=dp 64 n:=by unfold qG;rw[if_neg e]
     have hf:lZ n (dB u a)=dB u a:=by unfold lZ;rw[if_neg e]
     have h1:=hk.1;have hle:dp 64 n<=n:=by unfold dp;omega
     have Cm:0<dp 64 n:=by unfold dp;omega
     have h64:dp 64 n<=64:=by unfold dp;omega
     refine⟨⟨oM,oM⟩,?_⟩;rw[vn];exact⟨⟨(hk.cut hle oM).2,oM⟩,λh0=>absurd h0 oM,λ_ d=>⟨rfl,_,d,hn,rfl,_,rfl,by rw[hf],rfl⟩⟩
   rw[avm (ids:=ids) (args:=[.raw (.slice a n c)]) rfl];refine(B6 (C:=gy prog cJ ([]:List (bK (LG fr))) (JV prog) Xq) (aH.nil (P:=prog) (gl:=cJ)).T (aH.nil (P:=prog) (gl:=cJ)).Q rfl cV (Y:=lits ids ids bl++au rest R) (S.perm (dR λf=>by simp only[au,dZ];show _+(List.countP f (cw u)+_)=List.countP f (cw u)+_;omega))).mono ?_;rintro v w' ⟨x,more,bl',ch',rfl,h1,S',uG⟩;obtain⟨v2,cn,bl2,hv,cX,S2,rfl,m,d,hm,rfl,B,rfl,hB,hwB⟩:=iP (n0:=0) h1 (oQ _) S' uG
   match cn,cX with
   |[b],_=>
    have hd:=hK d;rw[hm]at hd;refine⟨_,[b],_,_,?_,by simp[hl],?_,hd⟩
    ·rw[hv];have:(ids++[b]).getD bl.length 0=b:=by rw[<-hl];simp[gd]
     simp only[den,this,PS,fQ];rfl
    ·have e1:aC [b] b B=aC (ids++[b]) b (gL m d (lZ n (dB u a))):=by
      have q1:aC [b] b B=aC [0] b B:=jz hwB;have q2:aC (ids++[b]) b (gL m d (lZ n (dB u a)))=aC [0] b (gL m d (lZ n (dB u a))):=jz rfl;rw[q1,q2];unfold aC at hB⊢;simp only[ao.mk.injEq,Obj.cells.injEq]at hB⊢;exact⟨trivial,hB.2⟩
     rw[fu _ _ _ _ hl,fw _ _ (by rw[hl];exact hq)];simp only[PS,fQ,lits]at S2;rw[e1]at S2;refine S2.perm ?_;show mE ([_]++(cw u++(lits ids ids bl++au rest R))) ((lits ids ids bl++[_])++(cw u++au rest R));exact dR λf=>by simp only[dZ,j5,oc];omega
   |[],h=>simp at h
   |_::_::_,h=>simp at h
 ·exact hc.elim
def avr:jo (JW (fr:=fr)):=by
 intro args bl ch K hc;unfold JW at hc⊢;split at hc
 ·cases hq:bY bl.length bl with
  |false=>rw[hq]at hc;exact hc.elim
  |true=>rw[hq]at hc;exact⟨hc.1,λd=>⟨hc.2 d,_,rfl⟩⟩
 ·exact hc.elim
def dY (a m:Int):Int:=(i64.wrap (a.tmod m+m)).tmod m
def JX (a:Int) {m:Int} (h:0<m) (h2:m<=1000000):0<=dY a m/\dY a m<m:=by
 unfold dY;have h1:=Int.tmod_lt_of_pos a h;have h3:-m<a.tmod m:=by
  have:=Int.lt_tmod_of_pos a h;omega
 have hw:i64.wrap (a.tmod m+m)=a.tmod m+m:=pH oM;rw[hw];exact⟨Int.tmod_nonneg _ oM,Int.tmod_lt_of_pos _ h⟩
def JY:dk (LG fr):=λargs bl ch K=>match args with
 |[.int .i64 a,.int .i64 (.ofNat 3)]=>cond (db bl.length 5) ((dY a 3=0->K (.int .i64 0) bl ch)/\(dY a 3=1->K (.int .i64 1) bl ch)/\(dY a 3=2->K (.int .i64 2) bl ch)) (K (.int .i64 (dY a 3)) bl ch)
 |[.int .i64 a,.int .i64 (.ofNat 2)]=>(dY a 2=0->K (.int .i64 0) bl ch)/\(dY a 2=1->K (.int .i64 1) bl ch)
 |[.int .i64 a,.int .i64 (.ofNat (m+1))]=>K (.int .i64 (dY a (.ofNat (m+1)))) bl ch
 |_=>False
def avs (a:Int) (m:Nat) (X:V->Prop):dP prog [] 60 31 [.int .i64 a,.int .i64 (.ofNat (m+1))] X=X (.int .i64 (dY a (.ofNat (m+1)))):=kR
def avt (a:Int) (m:Nat) (ids:List Nat) (w:aj):aX prog 31 (aE ids [.int .i64 a,.int .i64 (.ofNat (m+1))]).toArray w λx w'=>x=den ids (.int .i64 (dY a (.ofNat (m+1))))/\Ch [] w w':=
 xE bP.nil 60 (by rw[avs]) rfl rfl ids w
def avu {gl:Nat->Option Nat}:Sound prog gl 31 (JY (fr:=fr)):=by
 intro args ids bl ch R ms w0 w K hg hl S hc;have go:∀(a:Int) (m:Nat),K (.int .i64 (dY a (.ofNat (m+1)))) bl ch->aX prog 31 (aE ids [.int .i64 a,.int .i64 (.ofNat (m+1))]).toArray w λv w'=>∃x more bl' ch',v=den (ids++more) x/\(ids++more).length=bl'.length/\St ms w0 (lits (ids++more) (ids++more) bl'++au ch' R) w'/\K x bl' ch':=by
  intro a m hK;refine(avt a m ids w).mono ?_;rintro v w' ⟨rfl,cz⟩;exact⟨_,[],bl,ch,sP,by simpa using hl,by simpa using S.quiet cz,hK⟩
 have cast:∀(a:Int) (m:Nat) (r:Int),dY a (.ofNat (m+1))=r->K (.int .i64 r) bl ch->K (.int .i64 (dY a (.ofNat (m+1)))) bl ch:=λa m r e h=>by rw[e];exact h
 unfold JY at hc;split at hc
 ·rename_i a;refine go a 2 ?_;have hb:=JX a (m:=3) dC dC;cases hq:db bl.length 5 with
  |false=>rw[hq]at hc;exact hc
  |true=>
   rw[hq]at hc;have h3:dY a (.ofNat (2+1))=dY a 3:=rfl;have:dY a 3=0\/dY a 3=1\/dY a 3=2:=oM;rcases this with e|e|e
   ·exact cast a 2 _ e (hc.1 e)
   ·exact cast a 2 _ e (hc.2.1 e)
   ·exact cast a 2 _ e (hc.2.2 e)
 ·rename_i a;refine go a 1 ?_;have hb:=JX a (m:=2) dC dC;have:dY a 2=0\/dY a 2=1:=oM;rcases this with e|e
  ·exact cast a 1 _ e (hc.1 e)
  ·exact cast a 1 _ e (hc.2 e)
 ·rename_i a m _ _;exact go a m hc
 ·exact hc.elim
def avv:jo (JY (fr:=fr)):=by
 intro args bl ch K hc;unfold JY at hc⊢;split at hc
 ·cases hq:db bl.length 5 with
  |false=>rw[hq]at hc;exact⟨hc,[],sP⟩
  |true=>rw[hq]at hc;exact⟨λe=>⟨hc.1 e,[],sP⟩,λe=>⟨hc.2.1 e,[],sP⟩,λe=>⟨hc.2.2 e,[],sP⟩⟩
 ·exact⟨λe=>⟨hc.1 e,[],sP⟩,λe=>⟨hc.2 e,[],sP⟩⟩
 ·exact⟨hc,[],sP⟩
 ·exact hc.elim
def iN:V->Int|.int .i64 n=>n|_=>0
def sA:V->Option aI|.raw (.slice a _ _)=>a|_=>ae
def sN:V->Nat|.raw (.slice _ n _)=>n|_=>0
def sC:V->Nat|.raw (.slice _ _ c)=>c|_=>0
def kF (i:Nat):Bool:=bZ 5 i&&bZ i 8
def afd (i:Nat) (v:V):Bool:=match v with
 |.int .i64 _=>!kF i
 |.raw (.slice _ _ _)=>kF i
 |_=>ag
def JZ:List V->Nat->Bool
 |[],i=>aA i 56
 |v::l,i=>afd i v&&JZ l (i+1)
structure n5 where
 q:Nat->Int
 ka:Nat->Option aI
 kn:Nat->Nat
 kc:Nat->Nat
def Xr (l:List V):Option n5:=match l with
 |[.dO p ka kn kc]=>aa ⟨p.i,ka,kn,kc⟩
 |l=>bif JZ l 0 then aa ⟨λi=>iN (nth l i),λj=>sA (nth l (j+5)),λj=>sN (nth l (j+5)),λj=>sC (nth l (j+5))⟩else ae
def zb (i:Nat) (v:V):ai:=bif kF i then .slice (sA v) (sN v) (sC v)else .int .i64 (iN v)
def afe (ids:List Nat):∀(l:List V) (i:Nat),JZ l i=af->i+l.length=56/\ak ids l=(bo l.length).map λj=>zb (i+j) (nth l j)
 |[],i,h=>⟨ck h,rfl⟩
 |v::l,i,h=>by
  unfold JZ at h;rw[bD]at h;obtain⟨h1,h2⟩:=afe ids l (i+1) h.2;refine⟨by simp;omega,?_⟩;rw[jf,tZ,gb,l5];simp only[ak,h2];have e:ak ids l=(bo l.length).map ((λj=>zb (i+j) (nth (v::l) j))∘Nat.succ):=by
   rw[h2];apply ni;intro j _;show zb (i+1+j) (nth l j)=zb (i+(j+1)) (nth l j);rw[show i+1+j=i+(j+1) by omega]
  rw[<-h2,e];have hv:cl v (den ids v)=[zb (i+0) (nth (v::l) 0)]:=by
   have h3:=h.1;unfold afd at h3;split at h3
   ·have:kF i=ag:=by simpa using h3
    simp only[cl,den,lD,lE,kX,zb,lA,this,cond_false,iN]
   ·simp only[cl,den,lD,lE,kX,zb,lA,h3,cond_true,sA,sN,sC]
   ·cases h3
  rw[hv];rfl
def avw {l:List V} {x:n5} (h:Xr l=aa x) (k:Nat->Nat×Sd.ax) (ids:List Nat):ak ids l=sW ⟨x.q,k⟩ x.ka x.kn x.kc:=by
 unfold Xr at h;split at h
 ·cases h;simp only[ak,cl,cT];rfl
 ·cases hb:JZ l 0 with
  |false=>rw[hb]at h;cases h
  |true=>
   rw[hb]at h;cases h;obtain⟨h1,h2⟩:=afe ids l 0 hb;rw[h2,show l.length=56 by omega];unfold sW;apply ni;intro j hj;have hj:=List.mem_range.1 hj;show zb (0+j) (nth l j)=_;rw[dS];unfold zb kF;cases hk:bZ 5 j&&bZ j 8 with
   |false=>rfl
   |true=>
    rw[bD]at hk;have:=eO hk.1;simp only[cond_true];rw[show j-5+5=j by omega]
def sf (o1 o2 o3:Int) (q:Nat->Int) (i:Nat):Int:=
 bif bZ i 13 then(bif aA i 1 then o1 else bif aA i 2 then o2 else bif aA i 3 then o3 else bif aA i 4 then 4 else bif aA i 9 then 1 else bif bZ 10 i&&bZ i 12 then bits .and .i64 (q i) 14 else 0)
 else bif bZ i 33 then bits .and .i64 (q i) 15
 else bif bZ i 38 then bits .and .i64 (q i) 31
 else bif bZ i 41 then dY (q i) 5
 else bif bZ i 46 then i64.wrap (1+dY (q i) 1000)
 else bif aA i 47 then dY (q i) 1001
 else bif bZ i 49 then i64.wrap (1+dY (q i) 3)
 else bif aA i 50 then 0
 else bif bZ i 53 then dY (q i) 1001
 else bif aA i 54 then i64.wrap (1+dY (q i) 1000)
 else bits .and .i64 (q i) 65535
def Dr (q:Nat->Int) (o1 o2 o3:Int):Prop:=
 (dY (q 1) 3=0/\((dY (q 2) 2=0/\o1=1/\o2=2/\o3=3)\/(dY (q 2) 2=1/\o1=1/\o2=3/\o3=2)))\/
 (dY (q 1) 3=1/\((dY (q 2) 2=0/\o1=2/\o2=1/\o3=3)\/(dY (q 2) 2=1/\o1=2/\o2=3/\o3=1)))\/
 (dY (q 1) 3=2/\((dY (q 2) 2=0/\o1=3/\o2=2/\o3=1)\/(dY (q 2) 2=1/\o1=3/\o2=1/\o3=2)))
def k4 {α:Type} (a b c d:α):Nat->α:=λj=>match j with|0=>a|1=>b|2=>c|_=>d
def avx (o1 o2 o3:Int) (q:Nat->Int) (kn d:Nat->Nat):List V:=(bo 56).map λi=>bif kF i then .sl (i-5) 0 (qG (kn (i-5))) (qG (kn (i-5))+d (i-5))else .int .i64 (sf o1 o2 o3 q i)
def O1 (p:Nat->Int) (n d:Nat->Nat):List V:=(bo 56).map λi=>bif kF i then .sl (i-5) 0 (n (i-5)) (n (i-5)+d (i-5))else .int .i64 (p i)
section
variable(x:n5) (f:Nat->Nat×Sd.ax) (u:aj) (K:VK (LG fr))
def O2 (i d:Nat):VB:=gL (qG (x.kn i)) d (lZ (x.kn i) (dB u (x.ka i)))
def tQ (i:Nat):Prop:=jc u (x.ka i) (x.kn i) (x.kc i) (dB u (x.ka i))
def Xs (d3:Nat) (o1 o2 o3:Int):Prop:=tQ x u 0/\∀d0:Nat,tQ x u 1/\∀d1:Nat,tQ x u 2/\∀d2:Nat,K (.agg (avx o1 o2 o3 x.q x.kn (k4 d0 d1 d2 d3))) [O2 x u 0 d0,O2 x u 1 d1,O2 x u 2 d2,O2 x u 3 d3] [.bj u]
def Xt (d3:Nat) (o1 o2 o3:Int):Prop:=(dY (x.q 2) 2=0->Xs x u K d3 o1 o2 o3)/\(dY (x.q 2) 2=1->Xs x u K d3 o1 o3 o2)
def aff:Prop:=tQ x u 3/\∀d3:Nat,(dY (x.q 1) 3=0->Xt x u K d3 1 2 3)/\(dY (x.q 1) 3=1->Xt x u K d3 2 1 3)/\(dY (x.q 1) 3=2->Xt x u K d3 3 2 1)
def Xu (fr:Sd.aO->Nat×Sd.ax):List (bK (LG fr)):=[⟨30,af,JW⟩,⟨31,af,JY⟩]
def afg:aH prog cJ (Xu fr):=aH.cons ⟨avq,λ_=>avr⟩ (aH.cons ⟨avu,λ_=>avv⟩ aH.nil)
def avy:br (bM prog cJ (Xu fr)) 60 10 [.agg [.dO ⟨x.q,f⟩ x.ka x.kn x.kc]] [] [.bj u] (bA 0 K)=aff x u K:=kR
end
structure Made (x:n5) (p:Nat->Int) (n:Nat->Nat):Prop where
 o:Dr x.q (p 1) (p 2) (p 3)
 p:∀i,i<56->kF i=ag->p i=sf (p 1) (p 2) (p 3) x.q i
 n:∀j,n j=qG (x.kn j)
def afh (x:n5) (u:aj) (K:VK (LG fr)):Prop:=(tQ x u 0/\tQ x u 1/\tQ x u 2/\tQ x u 3)/\∀(p:Nat->Int) (n d:Nat->Nat),Made x p n->
 K (.agg (O1 p n d)) [gL (n 0) (d 0) (lZ (x.kn 0) (dB u (x.ka 0))),gL (n 1) (d 1) (lZ (x.kn 1) (dB u (x.ka 1))),gL (n 2) (d 2) (lZ (x.kn 2) (dB u (x.ka 2))),gL (n 3) (d 3) (lZ (x.kn 3) (dB u (x.ka 3)))] [.bj u]
def avz {x:n5} {u:aj} {K:VK (LG fr)} (h:afh x u K):aff x u K:=by
 obtain⟨⟨r0,r1,r2,r3⟩,hK⟩:=h;have g:∀(d3:Nat) (o1 o2 o3:Int),Dr x.q o1 o2 o3->Xs x u K d3 o1 o2 o3:=λd3 o1 o2 o3 h=>⟨r0,λd0=>⟨r1,λd1=>⟨r2,λd2=>hK (sf o1 o2 o3 x.q) (λj=>qG (x.kn j)) (k4 d0 d1 d2 d3) ⟨h,λ_ _ _=>rfl,λ_=>rfl⟩⟩⟩⟩;refine⟨r3,λd3=>⟨λe=>⟨λe2=>g d3 _ _ _ ?_,λe2=>g d3 _ _ _ ?_⟩,λe=>⟨λe2=>g d3 _ _ _ ?_,λe2=>g d3 _ _ _ ?_⟩,λe=>⟨λe2=>g d3 _ _ _ ?_,λe2=>g d3 _ _ _ ?_⟩⟩⟩<;>(unfold Dr;omega)
def Xv:dk (LG fr):=λargs bl ch K=>match args,ch with
 |[.agg l],.bj u::rest=>(match Xr l with
  |some x=>cond (bY bl.length bl) (afh x u λv b c=>K (iA bl.length v) (bl++AQ bl.length b) (c++rest)) False
  |none=>False)
 |_,_=>False
def avA {gl:Nat->Option Nat}:Sound prog gl 10 (Xv (fr:=fr)):=by
 intro args ids bl ch R ms w0 w K hg hl S hc;unfold Xv at hc;split at hc
 ·rename_i l u rest;split at hc
  ·rename_i x hx;cases hq:bY bl.length bl with
   |false=>rw[hq]at hc;exact hc.elim
   |true=>
    rw[hq]at hc;refine avl (C:=bM prog cJ (Xu fr)) (n:=60) (args':=[.agg [.dO ⟨x.q,λ_=>(0,λ_=>0)⟩ x.ka x.kn x.kc]]) (ch0:=[.bj u]) (rest:=rest) afg.T afg.Q rfl hl hq ?_ S (by rw[avy];exact avz hc);simp only[aE,den,avw hx (λ_=>(0,λ_=>0)) ids,ak,cl,cT]
  ·exact hc.elim
 ·exact hc.elim
end
end Go.Proofs.YtddcipamdggcnaaGreatDoor
