/- Part 1 of the proof. -/
import Derived.Test.YtggfpcggakghnaaGreatDoorProg
import Derived.Test.YtggfpcggakghnaaGreatDoorL0
set_option linter.all false
set_option maxRecDepth 100000
set_option maxHeartbeats 4000000
noncomputable section
open Go.Proofs.Tryz
open Go.IntKind (u8 u16 u32 u64 i64)
open Array renaming replicate->A5,getElem?_eq_none->DF,getD->DJ,all_eq_true_iff_forall_mem->HR,getElem?_eq_getElem->HT,toList_setIfInBounds->HU,ext'->eO,getD_eq_getD_getElem?->iY,getElem?_setIfInBounds->pD,getElem?_replicate->yD
open Bool renaming or_eq_true->A8,and_eq_true->a_,not_eq_true'->lv
open Go renaming ResultVar->HO,Program->aC,TypeId->aD,Addr->aI,Operand->aZ,Value->ab,World->ae,Oper->an,Exit->dN,run_underlying->dg,IntKind->eE,FuncId->eN,wp_ret->gh,wp_block->iL,wp_skip->jr,heap_alloc_new->mC,sizeOf->nY,MapEntry->uo
open Go.Addr renaming add_lit->hU,add->ug
open Go.Builtin renaming append_->mD,zeroCells->nz
open Go.Code renaming rounds->A6
open Go.Exit renaming inBlock->HN
open Go.Instr renaming slice->DH,storeAt->HM,findNow->My,buildSlice->Uu,makeSlice->Ux,mapUpdate->acC,sureAddr->iJ,loadAt->pC,indexAt->sG,sliceAt->sH,sliceBounds->sJ,sliceBound->yG
open Go.IntKind renaming bits->pJ,signed->pL,wrap->sE
open Go.IntWalk renaming i64_in->yK
open Go.Oper renaming looksAt->HY,upon_skip->acA,wp->nv,upon_value->yJ
open Go.Place renaming get->acz
open Go.Region renaming wanted->gf,binds->pE,ready->pG
open Go.Result renaming andThen_ok->cd,andThen->jb
open Go.Sem renaming run_bind->bj,run_pure->cW
open Go.Src renaming ofSlice->qR
open Go.Value renaming bool->A_,int->dT
open Go.World renaming cell?->wx
open Int renaming ofNat->cU,fdiv->iM,toNat_natCast->ux
open List renaming range_succ->Ba,mem_cons_self->Bb,singleton_append->DL,flatMap_append->DM,getElem?_drop->DN,getElem?_set_ne->HL,getElem?_take->MA,count_replicate_self->Uo,length_singleton->Uv,getElem?_take_of_lt->Uy,append_assoc->bN,mem_cons->bY,range->bh,append_nil->cI,map_cons->eQ,mem_append->ez,all_eq_true->fK,cons_append->fb,nil_append->fc,length_append->fi,getElem?_append_left->gI,getElem?_map->iI,getElem?_eq_getElem->iK,getElem?_toArray->iX,take_append_drop->iZ,mem_singleton->i_,getElem?_eq_none->ig,getD->ij,perm_middle->jH,replicate->kO,length_cons->ly,getElem?_range->mF,map_map->mG,mem_append_left->mH,mem_of_getElem?->nx,mem_map->ny,nodup_cons->pF,map_congr_left->pH,map_append->qT,mem_append_right->qU,perm_append_comm_assoc->qV,length_take->uk,ext_getElem?->um,range_succ_eq_map->uu,map_nil->uw,mem_cons_of_mem->wy,any_eq_true->yA
open List.Perm renaming append_right->DG,append_left->pI
open List.Sublist renaming append_right->acB
open Nat renaming mul_le_mul_right->Mv,le_of_not_lt->Uw,beq->ax,eq_of_beq_eq_true->b9,ble->bA,lt_or_ge->cE,blt->cj,le_refl->dE,le_of_ble_eq_true->dz,zero_add->eh,blt_eq->gV,le_trans->iH,add_mul->lU,add_zero->nZ,beq_refl->qS,eq_zero_or_pos->uh,ble_eq_true_of_le->uj,add_assoc->yF
open Option renaming getD_some->Un,map_eq_some_iff->gH,map_some->lx
open Option.some renaming injEq->aS,inj->ck
open Prod.mk renaming injEq->bd
namespace Vx
open Go Go.RowKit Go.BigFrame Sx
section
variable{ids:List Nat} {P:aC} {w w0:ae} {ms:List Nat} {e:aZ->V} {ρ:aZ->ab} {bl:List VB} {R:List ai}
theorem j7 (b:Nat):(ids++[b]).getD ids.length 0=b:=by simp[ij]
theorem Vz {t el:aD} {len z:Nat} {zc c:List V} {ps:List (Nat×V)} (hu:P.underlying t=some (.slice el)) (hz:dX P el=some (z+1)) (h0:l7 P el=some zc) (hl:bW zc=z+1) (hb:len*(z+1)<=2^24)
 (hf:wY (λi=>some (i*(z+1),z+1)) (kC zc len) ps=some c):(Uu t len (ps.map λp=>(p.1,den ids p.2)).toArray).run P w=.ok (.slice (some ⟨w.heap.size,0,none⟩) len len) (w.alloc (.cells (ah ids c).toArray el)):=by
 have Ep:=Nn (ids:=ids) (place:=λi=>some (i*(z+1),z+1)) (λi x hx=>hx) ps _ c hf;obtain⟨v0,z1,z2⟩:=zj (P:=P) (w:=w) (ids:=ids) h0;have uL:¬(len*(z+1)>2^24):=by omega
 have hv:v0.cells.size=z+1:=by rw[<-Array.length_toList,z2,j6,hl]
 have Er:(Array.range (len*(z+1))).map (λi=>v0.cells[i%v0.cells.size]!)=(ah ids (kC zc len)).toArray:=by
  apply eO;rw[NB v0.cells z hv,z2,Vy]
 by_cases kV:len*(z+1)=0
 ·have s8:len=0:=by rcases Nat.mul_eq_zero.1 kV with h|h;exact h;omega
  subst s8;simp only[Uu,bj,dg hu,cd,gj hz,if_neg uL];simp only[kC,ah]at Ep;simp only[Nat.zero_mul,if_true,bj,cW,cd,List.toList_toArray,show Array.range 0=#[]from rfl,Array.map_empty];rw[Ep];rfl
 ·simp only[Uu,bj,dg hu,cd,gj hz,if_neg uL,if_neg kV,z1,cW,List.toList_toArray];rw[Er,Ep];rfl
theorem adF (aW:∀x,ρ x=den ids (e x)) (o:an) {v:V} {b:VB} (h:Eo P e ids.length o.op=some (v,b)):
 (execOp ρ o).run P w=.ok (.value (den (ids++[w.heap.size]) v)) (w.alloc (.cells (ah ids b.c).toArray b.ty.t))/\b.wr=true/\b.ty.fz=(0,0):=by
 unfold execOp;unfold Eo at h;split at h
 ·rename_i t ho;split at h
  ·rename_i z hz;simp only[aS,bd]at h;obtain⟨rfl,rfl⟩:=h;obtain⟨v0,z1,z2⟩:=zj (P:=P) (w:=w) (ids:=ids) hz;have zk:v0.cells=(ah ids z).toArray:=by apply eO;simpa using z2
   refine⟨?_,rfl,rfl⟩;simp only[ho,Instr.alloc,bj,z1,cd,newVar,newRow,zk,den,j7];rfl
  ·cases h
 ·rename_i t x ho;cases hq:oz (e x)with
  |false=>rw[hq]at h;simp at h
  |true=>
   rw[hq]at h;simp only[cond_true,aS,bd]at h;obtain⟨rfl,rfl⟩:=h;have hc:(ρ x).cells=(ah ids (jf (e x))).toArray:=by apply eO;rw[aW,Nh hq]
   refine⟨?_,rfl,rfl⟩;simp only[ho,Instr.box,bj,newVar,newRow,hc,den,j7];rfl
 ·rename_i t len ps ho;split at h
  ·rename_i el hu;split at h
   ·rename_i z zc hz NC;cases hq:ax (bW zc) (z+1)&&(bA (len*(z+1)) (2^24)&&!(ax len 0&&(ax z 5||ax z 13)))with
    |false=>rw[hq]at h;simp at h
    |true=>
     rw[hq]at h;simp only[cond_true]at h;simp only[a_]at hq;split at h
     ·rename_i c hc;simp only[aS,bd]at h;obtain⟨rfl,rfl⟩:=h;have:=Vz (ids:=ids) (w:=w) hu hz NC (b9 hq.1) (dz hq.2.1) hc;refine⟨?_,rfl,rfl⟩;simp only[ho];rw[bj,show(ps.map λ(x:Nat×aZ)=>match x with|(i,x)=>(i,ρ x))=(ps.map λ(p:Nat×aZ)=>(p.1,ρ p.2))from rfl,Vt ps aW,this];simp[den,j7]
     ·cases h
   ·cases h
  ·cases h
 ·cases h
theorem grow (hl:ids.length=bl.length) (S:St ms w0 (lits ids ids bl++R) w) (b:VB) (hw:b.wr=true) (hf:b.ty.fz=(0,0)) (h1:bI ids.length bl=true) (h2:ba ids.length b.c=true):
 St ms w0 (lits (ids++[w.heap.size]) (ids++[w.heap.size]) (bl++[b])++R) (w.alloc (.cells (ah ids b.c).toArray b.ty.t))/\(ids++[w.heap.size]).length=(bl++[b]).length:=by
 refine⟨?_,by simp[hl]⟩;have h:=S.new (Ch.alloc [] w (.cells (ah ids b.c).toArray b.ty.t)) (dE _) (mC w _);have e:ay (ids++[w.heap.size]) w.heap.size b=⟨w.heap.size,true,.cells (ah ids b.c).toArray b.ty.t (0,0)⟩:=by
  simp only[ay,jO _ h2,hw,hf]
 rw[eZ _ _ _ _ hl,e_ _ _ h1];simp only[lits,e];refine h.perm ?_;rw[bN];exact jH.symm
end
def uO:List V->Option (eE×Nat×(Nat->Int))
 |.arr k n f::_=>some (k,n,f)
 |_=>none
def IF (f:Nat->Int) (i:Nat) (v:Int):Nat->Int:=λj=>bif ax j i then v else f j
def IG (i:Nat) (v:Int):List V->List V
 |.arr k n f::r=>.arr k n (IF f i v)::r
 |l=>l
def Es:List V->Option (List Bool)
 |[]=>some []
 |.bool b::l=>(match Es l with|some r=>some (b::r)|none=>none)
 |_=>none
def VA (P:aC) (t:aD):Bool:=match P.underlying t with|some .bool=>true|_=>false
def VC (l:List Bool) (j:Nat):Bool:=l.getD j false
def zl (P:aC) (bl:List VB) (t:aD) (x:V):Option (Prop×V):=match x with
 |.pe i o j z k=>(match bl[i]?with
  |some b=>(match b.c with
   |.eU z' n g::_=>(match o with
    |0=>bif ax z z' then(match rv P t ((g j).map zg) k with|some v=>some ((j<n/\∀j,(g j).length=z),v)|none=>none)else none
    |_=>none)
   |.rest pre::.eU z' n g::_=>bif ax z z' then(match rv P t ((g j).map zg) k with|some v=>some ((o=pre.length/\j<n/\∀j,(g j).length=z),v)|none=>none)else none
   |c=>(match uO c,z,k,qe P t with
    |some (kd,n,f),1,0,some false=>some (o+j<n,.int kd (f (o+j)))
    |none,1,0,some false=>(match wV c o 5 with|some l=>(match Es l with|some r=>some (j<5,.bool (VC r j))|none=>none)|none=>none)
    |_,_,_,_=>none))
  |none=>none)
 |_=>none
def zm (P:aC) (bl:List VB) (t:aD) (x v:V):Prop:=sZ P bl t x=some v\/∃p,zl P bl t x=some (p,v)/\p
def Et (P:aC) (e:aZ->V) (bl:List VB):Op->Option (Prop×V)
 |.indexAddr t x ix=>(match e x with
  |.sl i o n _=>(match bl[i]?with
   |some b=>(match b.c with
    |.eU z' _ _::_=>(match o with
     |0=>(match P.underlying t,e ix with
      |some (.slice el),.int _ m=>(match dX P el with
       |some z=>bif ax z z' then some ((0<=m/\m<(n:Int)),.pe i 0 m.toNat z 0)else none
       |none=>none)
      |_,_=>none)
     |_=>none)
    |.rest pre::.eU z' _ _::_=>(match P.underlying t,e ix with
     |some (.slice el),.int _ m=>(match dX P el with
      |some z=>bif ax z z' then some ((0<=m/\m<(n:Int)),.pe i o m.toNat z 0)else none
      |none=>none)
     |_,_=>none)
    |c=>(match uO c,P.underlying t,e ix with
     |some _,some (.slice el),.int _ m=>(match dX P el with
      |some 1=>some ((0<=m/\m<(n:Int)),.pe i o m.toNat 1 0)
      |_=>none)
     |_,_,_=>none))
   |none=>none)
  |.ptr i o=>(match bl[i]?with
   |some b=>(match uO b.c,P.underlying t,e ix with
    |some _,some (.array n el),.int _ m=>(match dX P el with
     |some 1=>some ((0<=m/\m<(n:Int)),.pe i o m.toNat 1 0)
     |_=>none)
    |none,some (.array n el),.int _ m=>bif ax n 5&&VA P el then(match dX P el with
     |some 1=>some ((0<=m/\m<(n:Int)),.pe i o m.toNat 1 0)
     |_=>none)else none
    |_,_,_=>none)
   |none=>none)
  |.fS i o n _ _=>(match bl[i]?with
   |some b=>(match b.c with
    |.eU z' _ _::_=>(match o with
     |0=>(match P.underlying t,e ix with
      |some (.slice el),.int _ m=>(match dX P el with
       |some z=>bif ax z z' then some ((0<=m/\m<(n:Int)),.pe i 0 m.toNat z 0)else none
       |none=>none)
      |_,_=>none)
     |_=>none)
    |.rest pre::.eU z' _ _::_=>(match P.underlying t,e ix with
     |some (.slice el),.int _ m=>(match dX P el with
      |some z=>bif ax z z' then some ((0<=m/\m<(n:Int)),.pe i o m.toNat z 0)else none
      |none=>none)
     |_,_=>none)
    |_=>none)
   |none=>none)
  |_=>none)
 |.slice t x none (some hi) none=>(match e x with
  |.sl i o n c=>(match bl[i]?with
   |some b=>(match b.c with
    |.eU z' _ _::_=>(match o with
     |0=>(match P.underlying t,e hi with
      |some (.slice el),.int _ m=>(match dX P el with
       |some z=>some ((0<=m/\m<=(c:Int)),.sl i 0 m.toNat c)
       |none=>none)
      |_,_=>none)
     |_=>none)
    |.rest pre::.eU z' _ _::_=>(match P.underlying t,e hi with
     |some (.slice el),.int _ m=>(match dX P el with
      |some z=>some ((0<=m/\m<=(c:Int)),.sl i o m.toNat c)
      |none=>none)
     |_,_=>none)
    |_=>none)
   |none=>none)
  |.raw (.slice a n c)=>(match P.underlying t,e hi with
   |some (.slice el),.int _ m=>(match dX P el with
    |some z=>some ((0<=m/\m<=(c:Int)),.raw (.slice a m.toNat c))
    |none=>none)
   |_,_=>none)
  |_=>none)
 |.index t x ix=>(match P.underlying t,e x,e ix with
  |some (.array n el),.agg l,.int _ m=>(match uO l,dX P el,qe P el with
   |some (kd,N,f),some 1,some false=>some (((0<=m/\m<(n:Int))/\m.toNat<N),.int kd (f m.toNat))
   |_,_,_=>none)
  |_,_,_=>none)
 |.slice t x (some lo) none none=>(match e x,P.underlying t,e lo with
  |.raw (.slice (some ⟨b,q,none⟩) n c),some (.slice el),.int _ (.ofNat k)=>(match dX P el with
   |some 1=>some ((k<n/\n<=c),.raw (.slice (some ⟨b,q+k,none⟩) (n-k) (c-k)))
   |_=>none)
  |_,_,_=>none)
 |_=>none
def ND (P:aC) (bl:List VB) (t:aD) (x y:V):Option (Prop×List VB):=match x,y with
 |.pe i o j 1 0,.int VD v=>(match bl[i]?with
  |some ⟨true,⟨ty,(0,0)⟩,c⟩=>(match uO c,qe P t,dX P t with
   |some (kd,n,f),some false,some 1=>(match decEq kd VD with
    |isTrue _=>some (o+j<n,bl.set i ⟨true,⟨ty,(0,0)⟩,IG (o+j) v c⟩)
    |isFalse _=>none)
   |_,_,_=>none)
  |_=>none)
 |.pe i o j 1 0,.bool b=>(match ID P bl t (.ptr i (o+j)) (.bool b)with|some bl'=>some (True,bl')|none=>none)
 |_,_=>none
section
variable{ids:List Nat} {P:aC} {w w0:ae} {ms:List Nat} {e:aZ->V} {ρ:aZ->ab} {bl:List VB} {R:List ai}
theorem adG {k:eE} {n q:Nat} {f:Nat->Int} {v:Int} {r:List ab} (h:q<n):((((bh n).map λj=>dT k (f j))++r).take q++[.int k v])++(((bh n).map λj=>dT k (f j))++r).drop (q+1)=((bh n).map λj=>dT k (IF f q v j))++r:=by
 have e:=List.set_eq_take_append_cons_drop (l:=((bh n).map λj=>dT k (f j))++r) (i:=q) (a:=.int k v);rw[if_pos (by simp;omega)]at e;rw[bN,DL,<-e,List.set_append_left _ _ (by simpa using h)];congr 1;apply um;intro i;rw[List.getElem?_set];by_cases hi:q=i
 ·subst hi;simp[h,IF]
 ·rw[if_neg hi];simp only[iI];cases hr:(bh n)[i]?with
  |none=>rfl
  |some y=>
   obtain rfl:y=i:=by
    rcases cE i n with h1|h1
    ·rw[mF h1]at hr;exact(ck hr).symm
    ·rw[ig (by simpa using h1)]at hr;cases hr
   have hb:ax y q=false:=by
    cases hb:ax y q with
    |false=>rfl
    |true=>exact absurd (b9 hb).symm hi
   simp only[lx,IF,hb,cond_false]
theorem VE {l:List V} {k:eE} {n:Nat} {f:Nat->Int} (h:uO l=some (k,n,f)) (ids:List Nat):ah ids l=((bh n).map λj=>dT k (f j))++ah ids (l.drop 1):=by
 unfold uO at h;split at h
 ·simp only[aS,bd]at h;obtain⟨rfl,rfl,rfl⟩:=h;simp only[ah,cl,List.drop_succ_cons,List.drop_zero]
 ·cases h
theorem NF:∀{l:List V} {r:List Bool},Es l=some r->∀ids,ah ids l=r.map A_
 |[],r,h,ids=>by simp only[Es,aS]at h;subst h;rfl
 |v::l,r,h,ids=>by
  unfold Es at h;split at h
  ·rename_i e;cases e
  ·rename_i b l' e;cases e;split at h
   ·rename_i r' hr;simp only[aS]at h;subst h;simp only[ah,cl,den,NF hr ids,eQ,fb,fc]
   ·cases h
  ·cases h
theorem adH {bl ex:List VB} {i:Nat} {b:VB} (h:bl[i]?=some b):(bl++ex)[i]?=some b:=by
 have hi:i<bl.length:=by rcases cE i bl.length with h'|h';exact h';simp[h']at h
 rw[gI hi,h]
theorem adI {t:aD} {x:V} {p:Prop} {v:V} {ex:List VB} (h:zl P bl t x=some (p,v)):zl P (bl++ex) t x=some (p,v):=by
 unfold zl at h⊢;split at h
 ·split at h
  ·rename_i hb;rw[adH hb];exact h
  ·cases h
 ·cases h
theorem adJ {z:Nat} (g:Nat->List ab) (hz:∀j,(g j).length=z):∀(n j:Nat),j<n->(((bh n).flatMap g).drop (j*z)).take z=g j:=by
 intro n;induction n with
 |zero=>intro j h;omega
 |succ n ih=>
  intro j h;have hl:((bh n).flatMap g).length=n*z:=by
   clear ih h;induction n with
   |zero=>simp
   |succ n ih=>rw[Ba,DM,fi,ih];simp[hz,lU]
  rw[Ba,DM];rcases cE j n with h1|h1
  ·have h2:j*z+z<=n*z:=by rw[<-Nat.succ_mul];exact Mv z h1
   rw[List.drop_append_of_le_length (by omega),List.take_append_of_le_length (by rw[List.length_drop];omega)];exact ih j h1
  ·obtain rfl:j=n:=by omega
   rw[List.drop_append,List.drop_eq_nil_of_le (by omega),hl,Nat.sub_self];simp only[fc,List.flatMap_cons,List.flatMap_nil,cI,List.drop_zero];exact List.take_of_length_le (Nat.le_of_eq (hz j))
theorem VF {z n j k m:Nat} {g:Nat->List ab} {r:List ab} (hz:∀j,(g j).length=z) (hj:j<n) (hk:k+m<=z):((((bh n).flatMap g)++r).drop (j*z+k)).take m=((g j).drop k).take m:=by
 have h1:=adJ g hz n j hj;have hl:((bh n).flatMap g).length=n*z:=by
  clear h1 hj;induction n with
  |zero=>simp
  |succ n ih=>rw[Ba,DM,fi,ih];simp[hz,lU]
 have h2:j*z+z<=n*z:=by rw[<-Nat.succ_mul];exact Mv z hj
 rw[<-h1];apply um;intro i;simp only[MA,DN];split
 ·rename_i hi;rw[if_pos (by omega),gI (by omega),yF]
 ·rfl
theorem VG {α:Type} (pre l:List α) (i:Nat):(pre++l).drop (pre.length+i)=l.drop i:=by
 rw[List.drop_append,List.drop_eq_nil_of_le (by omega)];simp
theorem VH (hl:ids.length=bl.length) (S:St ms w0 (lits ids ids bl++R) w) {t:aD} {u:V} {i o j z k n:Nat} {g:Nat->List ab} {pre r:List ab} {b:VB} (hb:bl[i]?=some b) (hD:ah ids b.c=pre++(((bh n).flatMap g)++r)) (ho:o=pre.length) (hu:rv P t ((g j).map zg) k=some u) (hj:j<n) (hz:∀j,(g j).length=z):
 (pC t (den ids (.pe i o j z k))).run P w=.ok (den ids u) w:=by
 subst ho;have aK:=(fp hl S hb).2;rw[hD]at aK;have hg:ah ids ((g j).map zg)=g j:=Ix (g j);unfold rv at hu;simp only[pC,den,iJ,bj,cW,cd];split at hu
 ·rename_i m ha hn;split at hu
  ·rename_i c qf;simp only[aS]at hu;subst hu;obtain⟨g1,g2,g3⟩:=wW (ids:=ids) qf;rw[hg]at g1 g3;rw[hz]at g3;refine DR (n:=m) aK ?_ ?_ ?_ ?_
   ·unfold qe at ha;split at ha
    ·rename_i d hd;rw[hd];simpa using ha
    ·cases ha
   ·unfold dX at hn;split at hn
    ·rename_i d hd;rw[hd];simpa using hn
    ·cases hn
   ·apply eO;have:=VF (r:=r) (n:=n) hz hj g3;simp only[Array.toList_extract,List.extract];rw[show pre.length+(j*z+k)+m-(pre.length+(j*z+k))=m by omega,VG,this,g1]
   ·simpa using g2
  ·cases hu
 ·rename_i ha;have h1:=Ng (ids:=ids) hu;rw[hg]at h1;have hkz:k<z:=by
   rcases cE k z with h|h
   ·exact h
   ·rw[ig (by rw[hz];exact h)]at h1;cases h1
  have h2:=VF (r:=r) (n:=n) (j:=j) (k:=k) (m:=1) hz hj (by omega);have h3:(pre++((List.flatMap g (bh n))++r))[pre.length+(j*z+k)]?=(g j)[k]?:=by
   rw[<-VG pre]at h2;have:=congrArg (λl=>l[0]?) h2;simp only[MA,DN,nZ]at this;simpa using this
  refine Bh aK ?_ (by rw[iX,h3,h1]);unfold qe at ha;split at ha
  ·rename_i d hd;rw[hd];simpa using ha
  ·cases ha
 ·cases hu
theorem VI (hl:ids.length=bl.length) (S:St ms w0 (lits ids ids bl++R) w) {t:aD} {x v:V} {p:Prop} (h:zl P bl t x=some (p,v)) (hp:p):(pC t (den ids x)).run P w=.ok (den ids v) w:=by
 unfold zl at h;split at h
 ·rename_i i o j z k;split at h
  ·rename_i b hb;split at h
   ·rename_i z' n g r hc;split at h
    ·cases hq:ax z z' with
     |false=>rw[hq]at h;simp at h
     |true=>
      rw[hq]at h;simp only[cond_true]at h;split at h
      ·rename_i u hu;simp only[aS,bd]at h;obtain⟨rfl,rfl⟩:=h;exact VH hl S (pre:=[]) hb (by rw[hc];simp only[ah,cl,fc];rfl) rfl hu hp.1 hp.2
      ·cases h
    ·cases h
   ·rename_i pre z' n g r hc;cases hq:ax z z' with
    |false=>rw[hq]at h;simp at h
    |true=>
     rw[hq]at h;simp only[cond_true]at h;split at h
     ·rename_i u hu;simp only[aS,bd]at h;obtain⟨rfl,rfl⟩:=h;exact VH hl S (pre:=pre) hb (by rw[hc];simp only[ah,cl];rfl) hp.1 hu hp.2.1 hp.2.2
     ·cases h
   ·split at h
    ·rename_i kd n f hA qg;simp only[aS,bd]at h;obtain⟨rfl,rfl⟩:=h;have aK:=(fp hl S hb).2;simp only[pC,den,iJ,bj,cW,cd];refine Bh aK ?_ ?_
     ·unfold qe at qg;split at qg
      ·rename_i d hd;rw[hd];simpa using qg
      ·cases qg
     ·rw[iX,VE hA ids,show o+(j*1+0)=o+j by omega,gI (by simpa using hp)];simp[mF hp]
    ·rename_i hA qg;split at h
     ·rename_i l hg;split at h
      ·rename_i r hr;simp only[aS,bd]at h;obtain⟨rfl,rfl⟩:=h;have aK:=(fp hl S hb).2;obtain⟨g1,g2,g3⟩:=wW (ids:=ids) hg;rw[NF hr]at g1;have hr5:r.length=5:=by have:=g2;rw[NF hr]at this;simpa using this
       simp only[pC,den,iJ,bj,cW,cd];refine Bh aK ?_ ?_
       ·unfold qe at qg;split at qg
        ·rename_i d hd;rw[hd];simpa using qg
        ·cases qg
       ·have h1:=congrArg (λl=>l[j]?) g1;simp only[MA,DN,if_pos hp,iI]at h1;rw[iX,show o+(j*1+0)=o+j by omega,h1,iK (by omega)];simp[VC,ij,iK (show j<r.length by omega)]
      ·cases h
     ·cases h
    ·cases h
  ·cases h
 ·cases h
theorem zm.run (hl:ids.length=bl.length) (S:St ms w0 (lits ids ids bl++R) w) {t:aD} {x v:V} (h:zm P bl t x v):(pC t (den ids x)).run P w=.ok (den ids v) w:=by
 rcases h with h|⟨p,h,hp⟩
 ·exact IE (P:=P) hl S h
 ·exact VI hl S h hp
theorem VJ (aW:∀x,ρ x=den ids (e x)) (o:an) {p:Prop} {v:V} (h:Et P e bl o.op=some (p,v)) (hp:p):(execOp ρ o).run P w=.ok (.value (den ids v)) w:=by
 generalize jz:o.op=op at h;unfold Et at h;split at h
 ·rename_i t x ix;split at h
  ·rename_i i o n c hx;split at h
   ·rename_i b hb;split at h
    ·rename_i z' n' g r hc;split at h
     ·split at h
      ·rename_i el kk m hu gZ;split at h
       ·rename_i z hz;cases hq:ax z z' with
        |false=>rw[hq]at h;simp at h
        |true=>
         rw[hq]at h;simp only[cond_true,aS,bd]at h;obtain⟨rfl,rfl⟩:=h;unfold execOp;simp only[jz,aW,hx,gZ,den,sG,asIntOf,iJ,bj,cW,cd,dg hu];rw[if_pos hp];simp[bj,gj hz,ry]
       ·cases h
      ·cases h
     ·cases h
    ·rename_i pre z' n' g r hc;split at h
     ·rename_i el kk m hu gZ;split at h
      ·rename_i z hz;cases hq:ax z z' with
       |false=>rw[hq]at h;simp at h
       |true=>
        rw[hq]at h;simp only[cond_true,aS,bd]at h;obtain⟨rfl,rfl⟩:=h;unfold execOp;simp only[jz,aW,hx,gZ,den,sG,asIntOf,iJ,bj,cW,cd,dg hu];rw[if_pos hp];simp[bj,gj hz,ry]
      ·cases h
     ·cases h
    ·split at h
     ·rename_i el kk m hA hu gZ;split at h
      ·rename_i hz;simp only[aS,bd]at h;obtain⟨rfl,rfl⟩:=h;unfold execOp;simp only[jz,aW,hx,gZ,den,sG,asIntOf,iJ,bj,cW,cd,dg hu];rw[if_pos hp];simp[bj,gj hz,ry]
      ·cases h
     ·cases h
   ·cases h
  ·rename_i i o hx;split at h
   ·rename_i b hb;split at h
    ·rename_i n el kk m hA hu gZ;split at h
     ·rename_i hz;simp only[aS,bd]at h;obtain⟨rfl,rfl⟩:=h;unfold execOp;simp only[jz,aW,hx,gZ,den,sG,asIntOf,iJ,bj,cW,cd,dg hu];rw[if_pos hp];simp[bj,gj hz,ry]
     ·cases h
    ·rename_i n el kk m hA hu gZ;cases hq:ax n 5&&VA P el with
     |false=>rw[hq]at h;simp at h
     |true=>
      rw[hq]at h;simp only[cond_true]at h;split at h
      ·rename_i hz;simp only[aS,bd]at h;obtain⟨rfl,rfl⟩:=h;unfold execOp;simp only[jz,aW,hx,gZ,den,sG,asIntOf,iJ,bj,cW,cd,dg hu];rw[if_pos hp];simp[bj,gj hz,ry]
      ·cases h
    ·cases h
   ·cases h
  ·rename_i i o n c y hx;split at h
   ·rename_i b hb;split at h
    ·rename_i z' n' g r hc;split at h
     ·split at h
      ·rename_i el kk m hu gZ;split at h
       ·rename_i z hz;cases hq:ax z z' with
        |false=>rw[hq]at h;simp at h
        |true=>
         rw[hq]at h;simp only[cond_true,aS,bd]at h;obtain⟨rfl,rfl⟩:=h;have NG:ax n 0=false:=by
          cases uP:ax n 0 with
          |false=>rfl
          |true=>exact absurd (b9 uP) (by omega)
         unfold execOp;simp only[jz,aW,hx,gZ,den,NG,cond_false,sG,asIntOf,iJ,bj,cW,cd,dg hu];rw[if_pos hp];simp[bj,gj hz,ry]
       ·cases h
      ·cases h
     ·cases h
    ·rename_i pre z' n' g r hc;split at h
     ·rename_i el kk m hu gZ;split at h
      ·rename_i z hz;cases hq:ax z z' with
       |false=>rw[hq]at h;simp at h
       |true=>
        rw[hq]at h;simp only[cond_true,aS,bd]at h;obtain⟨rfl,rfl⟩:=h;have NG:ax n 0=false:=by
         cases uP:ax n 0 with
         |false=>rfl
         |true=>exact absurd (b9 uP) (by omega)
        unfold execOp;simp only[jz,aW,hx,gZ,den,NG,cond_false,sG,asIntOf,iJ,bj,cW,cd,dg hu];rw[if_pos hp];simp[bj,gj hz,ry]
      ·cases h
     ·cases h
    ·cases h
   ·cases h
  ·cases h
 ·rename_i t x hi;split at h
  ·rename_i i o n c hx;split at h
   ·rename_i b hb;split at h
    ·rename_i z' n' g r hc;split at h
     ·split at h
      ·rename_i el kk m hu gZ;split at h
       ·rename_i z hz;simp only[aS,bd]at h;obtain⟨rfl,rfl⟩:=h;have j8:∀code,(yG (.int kk m) c code).run P w=.ok m.toNat w:=by
         intro code;simp only[yG,asIntOf,bj,cW,cd];rw[if_pos hp];rfl
        have hs:=gj (P:=P) (w:=w) hz;unfold execOp;simp[jz,aW,hx,gZ,den,sH,DH,sJ,dg hu,j8,hs,jb,ug]
       ·cases h
      ·cases h
     ·cases h
    ·rename_i pre z' n' g r hc;split at h
     ·rename_i el kk m hu gZ;split at h
      ·rename_i z hz;simp only[aS,bd]at h;obtain⟨rfl,rfl⟩:=h;have j8:∀code,(yG (.int kk m) c code).run P w=.ok m.toNat w:=by
        intro code;simp only[yG,asIntOf,bj,cW,cd];rw[if_pos hp];rfl
       have hs:=gj (P:=P) (w:=w) hz;unfold execOp;simp[jz,aW,hx,gZ,den,sH,DH,sJ,dg hu,j8,hs,jb,ug]
      ·cases h
     ·cases h
    ·cases h
   ·cases h
  ·rename_i a n c hx;split at h
   ·rename_i el kk m hu gZ;split at h
    ·rename_i z hz;simp only[aS,bd]at h;obtain⟨rfl,rfl⟩:=h;have j8:∀code,(yG (.int kk m) c code).run P w=.ok m.toNat w:=by
      intro code;simp only[yG,asIntOf,bj,cW,cd];rw[if_pos hp];rfl
     have hs:=gj (P:=P) (w:=w) hz;unfold execOp;cases a<;>simp[jz,aW,hx,gZ,den,sH,DH,sJ,dg hu,j8,hs,jb,ug]
    ·cases h
   ·cases h
  ·cases h
 ·rename_i t x ix;split at h
  ·rename_i n el l kk m hu hx gZ;split at h
   ·rename_i kd N f hA hz qg;simp only[aS,bd]at h;obtain⟨rfl,rfl⟩:=h;unfold execOp;simp only[jz,aW,hx,gZ,den,Instr.index,asIntOf,bj,cW,cd,dg hu];rw[if_pos hp.1];have hg:l6 l m.toNat=some (.int kd (f m.toNat)):=by
     unfold uO at hA;split at hA
     ·rename_i k2 n2 f2 r;cases hA;have:bA N m.toNat=false:=by
       cases hb:bA N m.toNat with
       |false=>rfl
       |true=>exact absurd (dz hb) (by have:=hp.2;omega)
      simp only[l6,this,cond_false]
     ·cases hA
    have:=No (ids:=ids) (w:=w) (t:=el) (l:=l) (off:=m.toNat*1) (v:=.int kd (f m.toNat)) (by unfold rv;rw[qg];simpa using hg);simp[bj,gj hz]at this⊢;rw[this];rfl
   ·cases h
  ·cases h
 ·rename_i t x lo;split at h
  ·rename_i b q n c el kd k hx hu NH;split at h
   ·rename_i hz;simp only[aS,bd]at h;obtain⟨rfl,rfl⟩:=h;have hs:(P.info? el).map (·.size)=some 1:=by
     unfold dX at hz;split at hz
     ·rename_i inf hi;rw[hi];exact hz
     ·cases hz
    exact ac5 (o:=o) (w:=w) (k:=k) (kd:=kd) (by omega) hp.2 (q+k) (by rw[if_neg (by omega)]) jz hu hs (by rw[aW,hx];rfl) (by rw[aW,NH];rfl)
   ·cases h
  ·cases h
 ·cases h
theorem adK (hl:ids.length=bl.length) (S:St ms w0 (lits ids ids bl++R) w) {t:aD} {x y:V} {p:Prop} {bl':List VB} (h:ND P bl t x y=some (p,bl')) (hp:p):
 ∃w',(HM t (den ids x) (den ids y)).run P w=.ok () w'/\St ms w0 (lits ids ids bl'++R) w'/\ids.length=bl'.length:=by
 unfold ND at h;split at h
 ·rename_i i o j VD v;split at h
  ·rename_i ty c hb;split at h
   ·rename_i kd n f hA qg hz;split at h
    ·rename_i hk _;subst hk;simp only[aS,bd]at h;obtain⟨rfl,rfl⟩:=h;obtain⟨hi,aK⟩:=fp hl S hb;have hc:=VE hA ids;have bE:=H4 (P:=P) (off:=o+(j*1+0)) (v:=.int kd v) (vs:=[.int kd v]) (ty:=t) aK rfl (by
      unfold dX at hz;split at hz
      ·rename_i d hd;rw[hd];simpa using hz
      ·cases hz) (by simp only[Uv,List.size_toArray];rw[hc];simp;omega) (by rfl)
     have fw:=S.step hi rfl (Ch.setRow w (ids.getD i 0) _) (setRow_heap w (ids.getD i 0) _ (splice (ah ids c).toArray (o+(j*1+0)) [.int kd v]) ty (0,0) aK);have pT:splice (ah ids c).toArray (o+(j*1+0)) [.int kd v]=(ah ids (IG (o+j) v c)).toArray:=by
      unfold uO at hA;split at hA
      ·cases hA;apply eO;simp only[splice,IG,ah,cl,show o+(j*1+0)=o+j by omega,Uv];exact adG hp
      ·cases hA
     have kB:i<(lits ids ids bl).length:=by rw[w5 ids bl hl];rcases cE i bl.length with h'|h';exact h';simp[h']at hb
     refine⟨w.setRow (ids.getD i 0) (splice (ah ids c).toArray (o+(j*1+0)) [.int kd v]),?_,?_,by simpa using hl⟩
     ·simp only[HM,den,iJ,bj,cW,cd];exact bE
     ·have s7:=uN (ids:=ids) ids bl i ⟨true,⟨ty,(0,0)⟩,IG (o+j) v c⟩ hl;rw[<-s7,<-List.set_append_left _ _ kB];rw[pT]at fw⊢;exact fw
    ·cases h
   ·cases h
  ·cases h
 ·rename_i i o j b;split at h
  ·rename_i bl2 hs;simp only[aS,bd]at h;obtain⟨-,rfl⟩:=h;have:=Vw (P:=P) hl S hs;simpa[den,show o+(j*1+0)=o+j by omega]using this
  ·cases h
 ·cases h
end
class Bl (G:Type) where
 B:G->List ai
abbrev VK (G:Type):=V->List VB->List G->Prop
abbrev cP (G:Type):=List V->List VB->List G->VK G->Prop
variable{G:Type} [Bl G]
def av:List G->List ai->List ai
 |[],R=>R
 |b::l,R=>Bl.B b++av l R
def Gl (gl:Nat->Option Nat) (ids:List Nat):Prop:=∀g i,gl g=some i->i<ids.length/\ids.getD i 0=g
def Sound (P:aC) (gl:Nat->Option Nat) (f:eN) (c:cP G):Prop:=∀(args:List V) (ids:List Nat) (bl:List VB) (ch:List G) (R:List ai) (ms:List Nat) (w0 w:ae) (K:VK G),
 Gl gl ids->ids.length=bl.length->St ms w0 (lits ids ids bl++av ch R) w->c args bl ch K->aQ P f (aA ids args).toArray w λv w'=>
  ∃x more bl' ch',v=den (ids++more) x/\(ids++more).length=bl'.length/\St ms w0 (lits (ids++more) (ids++more) bl'++av ch' R) w'/\K x bl' ch'
def fC (P:aC) (gl:Nat->Option Nat) (h:(aZ->V)->Op->List VB->List G->VK G->Prop):Prop:=∀(e:aZ->V) (op:Op) (ids:List Nat) (bl:List VB) (ch:List G) (R:List ai) (ms:List Nat) (w0 w:ae) (K:VK G) (ρ:aZ->ab) (o:an),
 Gl gl ids->ids.length=bl.length->St ms w0 (lits ids ids bl++av ch R) w->(∀x,ρ x=den ids (e x))->o.op=op->h e op bl ch K->
  ∃x more bl' ch' w',((execOp ρ o).run P w=.ok (.value (den (ids++more) x)) w'\/((execOp ρ o).run P w=.ok .skip w'/\x=fA))/\(ids++more).length=bl'.length/\St ms w0 (lits (ids++more) (ids++more) bl'++av ch' R) w'/\K x bl' ch'
def IH:(aZ->V)->Op->List VB->List G->VK G->Prop:=λ_ _ _ _ _=>False
theorem NI {P:aC} {gl:Nat->Option Nat}:fC (G:=G) P gl IH:=λ_ _ _ _ _ _ _ _ _ _ _ _ _ _ _ _ _ h=>h.elim
def BL:Op->Bool
 |.call ⟨.builtin .append,_,_⟩=>true
 |.call ⟨.builtin .copy,_,_⟩=>true
 |.buildSlice _ n _=>ax n 0
 |.makeMap .. =>true
 |.makeSlice .. =>true
 |.lookup .. =>true
 |.insert .. =>true
 |.mapUpdate .. =>true
 |.typeAssert .. =>true
 |.binOp op _ _ y _=>IC op y
 |_=>false
def fill:List (Option V)->(Nat->ab)->Nat->List V
 |[],_,_=>[]
 |some v::l,g,i=>v::fill l g (i+1)
 |none::l,g,i=>.raw (g i)::fill l g (i+1)
def BM (n:Nat):List (Option V)->List V->Prop
 |[],[]=>True
 |some v::l,u::fr=>u=v/\cz n v=true/\BM n l fr
 |none::l,_::fr=>BM n l fr
 |_,_=>False
structure Lp (G:Type) where
 X:Type
 m:X->Nat
 fr:X->List (Option V)
 bl:X->List VB
 ch:X->List G
 NJ:List V->List VB->List G->Prop
 en:X->List V->List VB->List G->Prop
 VL:∀fr' bl' ch',NJ fr' bl' ch'->∃x,BM bl'.length (fr x) fr'/\bl x=bl'/\ch x=ch'
 ok:∀x fr' bl' ch',en x fr' bl' ch'->∃y,m y<m x/\BM (bl x).length (fr y) fr'/\(bl y).length=(bl x).length/\bI (bl x).length (bl y)=true/\(∃j,bl'=bl y++j)/\ch y=ch'
structure Ctx (G:Type) [Bl G] where
 P:aC
 T:eN->Option (cP G)
 gl:Nat->Option Nat
 q:Nat->Bool
 h:(aZ->V)->Op->List VB->List G->VK G->Prop
 hok:fC P gl h
 lp:Nat->List V->Option (Lp G)
def ev (gl:Nat->Option Nat) (fr:List V):aZ->V
 |.tmp t=>nth fr t
 |.const v=>BH v
 |.global g=>match gl g with|some i=>.ptr i 0|none=>.raw (.pointer (some ⟨g,0,none⟩))
 |.func f=>.fn f [] []
def okF (P:aC) (f:eN):Bool:=match P.funcs[f]?with
 |some fn=>!(fn.name== "runtime.NumGoroutine")&&!fn.body.isNone
 |none=>false
def NK (P:aC) (bl:List VB) (t:aD) (v:V) (name:String):Option (eN×V):=
 match P.info? t with
 |some i=>(match i.methods.find? (·.name==name)with
  |some m=>(match m.path.toList,m.func,P.underlying t with
   |[],some (f,true),some (.pointer _)=>some (f,v)
   |[],some (f,false),some (.pointer el)=>(match v with
    |.ptr j o=>(match sZ P bl el (.ptr j o)with|some u=>some (f,u)|none=>none)
    |_=>none)
   |[],some (f,false),some (.slice _)=>some (f,v)
   |_,_,_=>none)
  |none=>none)
 |none=>none
def callee (P:aC) (e:aZ->V) (bl:List VB):Op->Option (eN×List V)
 |.call c=>(match c.callee with
  |.value f=>(match e f with
   |.fn g a b=>bif okF P g then some (g,a++c.args.toList.map e++b)else none
   |_=>none)
  |.invoke r name=>(match e r with
   |.lD t v=>(match NK P bl t v name with
    |some (g,u)=>bif okF P g then some (g,u::c.args.toList.map e)else none
    |none=>none)
   |_=>none)
  |_=>none)
 |_=>none
abbrev j9 (G:Type):=eN->List V->List VB->List G->VK G->Prop
abbrev jQ (G:Type):=List V->List VB->List G->Prop
def oB (C:Ctx G) (call:j9 G) (o:an) (fr:List V) (bl:List VB) (ch:List G) (k:jQ G):Prop:=
 match o.op with
 |.load t x=>(match sZ C.P bl t (ev C.gl fr x)with|some v=>k (put fr o.dst v) bl ch|none=>(match zl C.P bl t (ev C.gl fr x)with|some (p,v)=>p/\k (put fr o.dst v) bl ch|none=>False))
 |.store t x y=>(match ID C.P bl t (ev C.gl fr x) (ev C.gl fr y)with|some bl'=>k (put fr o.dst fA) bl' ch|none=>(match ND C.P bl t (ev C.gl fr x) (ev C.gl fr y)with|some (p,bl')=>p/\k (put fr o.dst fA) bl' ch|none=>False))
 |op=>match Et C.P (ev C.gl fr) bl op with
  |some (p,v)=>p/\k (put fr o.dst v) bl ch
  |none=>match Em C.P (ev C.gl fr) op with
  |some v=>k (put fr o.dst v) bl ch
  |none=>match Eo C.P (ev C.gl fr) bl.length op with
   |some (v,b)=>cond (ba bl.length fr&&(bI bl.length bl&&ba bl.length b.c)) (k (put fr o.dst v) (bl++[b]) ch) False
   |none=>match callee C.P (ev C.gl fr) bl op with
    |some (f,args)=>cond (ba bl.length fr) (call f args bl ch λv bl' ch'=>k (put fr o.dst v) bl' ch') False
    |none=>cond (BL op&&ba bl.length fr) (C.h (ev C.gl fr) op bl ch λv bl' ch'=>k (put fr o.dst v) bl' ch') False
def w7 (ops:Array an) (j:Nat):Option Tmp:=match ops[j]?with|some o=>o.dst|none=>none
def ir (C:Ctx G) (call:j9 G) (ops:Array an):List an->List V->List VB->List G->jQ G->Prop
 |[],fr,bl,ch,K=>K fr bl ch
 |o::l,fr,bl,ch,K=>match o.guard with
  |none=>oB C call o fr bl ch λfr bl ch=>ir C call ops l fr bl ch K
  |some (j,want)=>match w7 ops j with
   |none=>False
   |some t=>match nth fr t with
    |.bool b=>cond b
     (cond want (oB C call o (lE fr t (.bool true)) bl ch λfr bl ch=>ir C call ops l fr bl ch K) (ir C call ops l (put (lE fr t (.bool true)) o.dst fA) bl ch K))
     (cond want (ir C call ops l (put (lE fr t (.bool false)) o.dst fA) bl ch K) (oB C call o (lE fr t (.bool false)) bl ch λfr bl ch=>ir C call ops l fr bl ch K))
    |.raw (.tuple _)=>ir C call ops l (put fr o.dst fA) bl ch K
    |_=>False
def act (ids:List Nat) (fr:List V):Act:=⟨(aA ids fr).toArray,[]⟩
def BN (P:aC) (gl:Nat->Option Nat) (call:j9 G):Prop:=∀f,okF P f=true->Sound P gl f (call f)
section
variable{ids:List Nat} {w w0:ae} {ms:List Nat} {bl:List VB} {ch:List G} {R:List ai} {fr:List V} {C:Ctx G} {call:j9 G}
theorem Gl.app {gl:Nat->Option Nat} (h:Gl gl ids) (more:List Nat):Gl gl (ids++more):=λg i hg=>by
 obtain⟨h1,h2⟩:=h g i hg;refine⟨by simp;omega,?_⟩;rw[BG (by rw[gV];exact h1),h2]
theorem VM {gl:Nat->Option Nat} (hg:Gl gl ids) (x:aZ):(act ids fr).eval x=den ids (ev gl fr x):=by
 cases x with
 |tmp t=>simp only[Act.eval,act,ev,zh]
 |const v=>simp only[Act.eval,ev,adk]
 |global g=>
  simp only[Act.eval,ev];split
  ·rename_i i hi;simp only[den,(hg g i hi).2]
  ·simp[den]
 |func f=>simp[Act.eval,ev,den,aA]
theorem VN (d:Option Tmp) (v:V):(act ids fr).put d (den ids v)=act ids (put fr d v):=by
 cases d with
 |none=>rfl
 |some t=>simp only[act,Act.put,put,adl]
theorem adL {more:List Nat} (h:ba ids.length fr=true):act (ids++more) fr=act ids fr:=by simp only[act,mP fr h]
theorem NL {P:aC} {t:aD} {i:TypeInfo} (h:P.info? t=some i) (w:ae):(typeInfo t).run P w=.ok i w:=by simp[typeInfo,h]
theorem VO {P:aC} {f:eN} (hk:okF P f=true) (args:Array ab) (w:ae):(callFunc f args).run P w=.ok (.enter f args) w:=by
 unfold okF at hk;split at hk
 ·rename_i fn Eu;simp only[a_,lv]at hk;simp only[callFunc,bj,run_program,cd,Eu];rw[if_neg (by simp[hk.1]),if_neg (by simp[hk.2])];simp only[cW]
 ·cases hk
theorem adM {P:aC} (hl:ids.length=bl.length) (S:St ms w0 (lits ids ids bl++R) w) {t:aD} {v u:V} {name:String} {f:eN} (h:NK P bl t v name=some (f,u)) (n:Nat):
 (method (n+1) t (den ids v) name).run P w=.ok (f,den ids u) w:=by
 unfold NK at h;split at h
 ·rename_i i hi;split at h
  ·rename_i m hm;split at h
   ·rename_i f' el hp hf hu;cases h;simp only[method,bj,NL hi,cd,hm,hp,hf,follow,cW,receiverAt,dg hu,acz]
   ·rename_i f' el hp hf hu;split at h
    ·rename_i j o;split at h
     ·rename_i u' hv;cases h;have NM:=IE (P:=P) hl S hv;have e1:m.path.isEmpty=true:=by simpa using hp
      have hw:∀(a:aI) (nm:String),Builtin.ssaWrapNilChk_ #[t] t #[.pointer (some a),strVal "",strVal nm]=pure (.pointer (some a)):=λ_ _=>rfl;have adN:(loadVar el ⟨ids.getD j 0,o,none⟩).run P w=.ok (den ids u) w:=NM;simp only[method,bj,NL hi,cd,hm,hp,hf,follow,cW,receiverAt,dg hu,acz,e1,if_true,den,hw,asAddr];rw[adN];rfl
     ·cases h
    ·cases h
   ·rename_i f' el hp hf hu;cases h;simp only[method,bj,NL hi,cd,hm,hp,hf,follow,cW,receiverAt,dg hu,acz]
   ·cases h
  ·cases h
 ·cases h
theorem adO {P:aC} {ρ:aZ->ab} {e:aZ->V} (aW:∀x,ρ x=den ids (e x)) (hl:ids.length=bl.length) (S:St ms w0 (lits ids ids bl++R) w) (o:an) {f:eN} {args:List V} (h:callee P e bl o.op=some (f,args)):
 (execOp ρ o).run P w=.ok (.enter f (aA ids args).toArray) w/\okF P f=true:=by
 have BO:∀l:List aZ,l.map ρ=aA ids (l.map e):=λl=>by
  rw[wR,mG];exact pH λx _=>aW x
 unfold callee at h;split at h
 ·rename_i c ho;split at h
  ·rename_i fo hc;split at h
   ·rename_i g a b hf;cases hk:okF P g with
    |false=>rw[hk]at h;simp at h
    |true=>
     rw[hk]at h;simp only[cond_true,aS,bd]at h;obtain⟨rfl,rfl⟩:=h;refine⟨?_,hk⟩;have cC:(aA ids a).toArray++c.args.map ρ++(aA ids b).toArray=(aA ids (a++c.args.toList.map e++b)).toArray:=by
      apply eO;simp only[Array.toList_append,Array.toList_map,BO];simp only[wR,qT]
     simp only[execOp,ho,resolve,hc,aW,hf,den,Deferred.ofValue,bj,cW,cd,invoke,VO hk];rw[<-cC]
   ·cases h
  ·rename_i r name hc;split at h
   ·rename_i t v hr;split at h
    ·rename_i g u hm;cases hk:okF P g with
     |false=>rw[hk]at h;simp at h
     |true=>
      rw[hk]at h;simp only[cond_true,aS,bd]at h;obtain⟨rfl,rfl⟩:=h;refine⟨?_,hk⟩;have hmt:=λn=>adM (P:=P) hl S hm n;have hfu:∀n:Nat,n+Made.depth=(n+99)+1:=λn=>rfl;have cC:#[den ids u]++c.args.map ρ=(aA ids (u::c.args.toList.map e)).toArray:=by
       apply eO;simp only[Array.toList_append,Array.toList_map,BO,aA];rfl
      have hex:(#[den ids (.lD t v)]++c.args.map ρ).extract 1 (#[den ids (.lD t v)]++c.args.map ρ).size=c.args.map ρ:=by
       apply eO;simp;exact List.take_of_length_le (by simp)
      have h0:(#[den ids (.lD t v)]++c.args.map ρ)[0]?=some (.iface t (den ids v)):=by
       simp[Array.getElem?_append,den]
      simp only[execOp,ho,resolve,hc,aW,hr,bj,cW,cd,invoke,h0,hex,callMethod,run_program,hfu,hmt,VO hk];rw[<-cC]
    ·cases h
   ·cases h
  ·cases h
 ·cases h
theorem NN (hc:BN C.P C.gl call) (hg:Gl C.gl ids) (hl:ids.length=bl.length) (S:St ms w0 (lits ids ids bl++av ch R) w) {o:an} {k:jQ G} (h:oB C call o fr bl ch k) {a:Act}
 (ha:execOp a.eval o=execOp (act ids fr).eval o) {next:Act->ae->Prop} {Q:dN->Act->ae->Prop}
 (hk:∀x more bl' ch' w',(ids++more).length=bl'.length->St ms w0 (lits (ids++more) (ids++more) bl'++av ch' R) w'->k (put fr o.dst x) bl' ch'->more=[]\/ba ids.length fr=true->next (a.put o.dst (den (ids++more) x)) w'):
 o.wp C.P a w next Q:=by
 have aW:=λx=>VM (fr:=fr) hg x;have pZ:∀x bl' w',ids.length=bl'.length->St ms w0 (lits ids ids bl'++av ch R) w'->k (put fr o.dst x) bl' ch->next (a.put o.dst (den ids x)) w':=λx bl' w' h1 h2 h3=>by
  have:=hk x [] bl' ch w' (by simpa using h1) (by simpa using h2) h3 (.inl rfl);simpa using this
 unfold nv;rw[ha];unfold oB at h;split at h
 ·rename_i t x ho;split at h
  ·rename_i v hv;have:=IE (P:=C.P) hl S hv;have e:(execOp (act ids fr).eval o).run C.P w=.ok (.value (den ids v)) w:=by
    unfold execOp;simp only[ho,aW,bj,this];rfl
   rw[e];simp only[yJ];exact pZ _ _ _ hl S h
  ·split at h
   ·rename_i p v hv;have:=VI (P:=C.P) hl S hv h.1;have e:(execOp (act ids fr).eval o).run C.P w=.ok (.value (den ids v)) w:=by
     unfold execOp;simp only[ho,aW,bj,this];rfl
    rw[e];simp only[yJ];exact pZ _ _ _ hl S h.2
   ·exact h.elim
 ·rename_i t x y ho;split at h
  ·rename_i bl' hv;obtain⟨w',h1,h2,h3⟩:=Vw (P:=C.P) hl S hv;have e:(execOp (act ids fr).eval o).run C.P w=.ok .skip w':=by
    unfold execOp;simp only[ho,aW,bj,h1];rfl
   rw[e];simp only[acA];rw[show(undef:ab)=den ids fA by simp[fA,den]];exact pZ _ _ _ h3 h2 h
  ·split at h
   ·rename_i p bl' hv;obtain⟨w',h1,h2,h3⟩:=adK (P:=C.P) hl S hv h.1;have e:(execOp (act ids fr).eval o).run C.P w=.ok .skip w':=by
     unfold execOp;simp only[ho,aW,bj,h1];rfl
    rw[e];simp only[acA];rw[show(undef:ab)=den ids fA by simp[fA,den]];exact pZ _ _ _ h3 h2 h.2
   ·exact h.elim
 ·split at h
  ·rename_i p v hv;rw[VJ aW o hv h.1];simp only[yJ];exact pZ _ _ _ hl S h.2
  ·split at h
   ·rename_i v hv;rw[Vv aW o v hv];simp only[yJ];exact pZ _ _ _ hl S h
   ·split at h
    ·rename_i v b hv;cases hq:ba bl.length fr&&(bI bl.length bl&&ba bl.length b.c)with
     |false=>rw[hq]at h;exact h.elim
     |true=>
      rw[hq]at h;simp only[a_]at hq;rw[<-hl]at hv hq;obtain⟨h1,h2,h2f⟩:=adF (w:=w) aW o hv;obtain⟨h3,h4⟩:=grow hl S b h2 h2f hq.2.1 hq.2.2;rw[h1];simp only[yJ];exact hk _ _ _ _ _ h4 h3 h (.inr hq.1)
    ·split at h
     ·rename_i f args hv;cases hq:ba bl.length fr with
      |false=>rw[hq]at h;exact h.elim
      |true=>
       rw[hq]at h;rw[<-hl]at hq;obtain⟨h1,h2⟩:=adO aW hl S o hv;rw[h1,Oper.upon_enter];refine Calls.mono (hc f h2 args ids bl ch R ms w0 w _ hg hl S h) ?_;rintro e w' ⟨v,rfl,x,more,bl',ch',rfl,g1,g2,g3⟩;exact hk _ _ _ _ _ g1 g2 g3 (.inr hq)
     ·cases hq:BL o.op&&ba bl.length fr with
      |false=>rw[hq]at h;exact h.elim
      |true=>
       rw[hq]at h;rw[<-hl]at hq;simp only[a_]at hq;obtain⟨x,more,bl',ch',w',h1,g1,g2,g3⟩:=C.hok _ _ ids bl ch R ms w0 w _ _ o hg hl S aW rfl h;rcases h1 with h1|⟨h1,rfl⟩
       ·rw[h1];simp only[yJ];exact hk _ _ _ _ _ g1 g2 g3 (.inr hq.2)
       ·rw[h1];simp only[acA];have:=hk _ _ _ _ _ g1 g2 g3 (.inr hq.2);simpa[fA,den]using this
theorem adP {more:List Nat} (h:more=[]\/ba ids.length fr=true):act (ids++more) fr=act ids fr:=by
 rcases h with rfl|h
 ·simp
 ·exact adL h
end
end Vx
namespace Vx
open Go Go.RowKit Go.BigFrame Sx
variable{G:Type} [Bl G]
section
variable{C:Ctx G} {call:j9 G}
theorem II:∀(fr:List V) (t:Nat),lE fr t (nth fr t)=fr
 |[],_=>rfl
 |_::_,0=>rfl
 |v::l,t+1=>by simp[wS,wT,wU,jx,jy,je,II l t]
theorem adQ {ids:List Nat} {fr:List V} {ops:Array an} {j t:Nat} {b:Bool} (hd:w7 ops j=some t) (h:nth fr t=.bool b):yielded ops (act ids fr).tmps j=some b:=by
 have h1:(ops[j]?).bind (·.dst)=some t:=by
  unfold w7 at hd;split at hd
  ·rename_i o ho;rw[ho];simpa using hd
  ·cases hd
 have h2:(act ids fr).tmps[t]?=some (.bool b):=by
  have h3:=zh (ids:=ids) fr t;rw[h]at h3;have h4:t<(aA ids fr).toArray.size:=by
   rcases cE t (aA ids fr).toArray.size with h5|h5
   ·exact h5
   ·exfalso;rw[DJ,dif_neg (by omega)]at h3;simp[den,undef]at h3
  rw[DJ,dif_pos h4]at h3;simp only[act];rw[HT h4];simp only[den]at h3;exact congrArg some h3.symm
 simp[yielded,h1,h2]
theorem adR {ids:List Nat} {fr:List V} {ops:Array an} {j t:Nat} {vs:Array ab} (hd:w7 ops j=some t) (h:nth fr t=.raw (.tuple vs)):yielded ops (act ids fr).tmps j=none:=by
 have h1:(ops[j]?).bind (·.dst)=some t:=by
  unfold w7 at hd;split at hd
  ·rename_i o ho;rw[ho];simpa using hd
  ·cases hd
 unfold yielded;rw[h1];simp only[Option.bind_some];by_cases h4:t<(aA ids fr).toArray.size
 ·have h3:=zh (ids:=ids) fr t;rw[h,DJ,dif_pos h4]at h3;simp only[act];rw[HT h4];simp only[den]at h3;rw[Array.getInternal_eq_getElem]at h3;rw[<-h3]
 ·simp only[act];rw[DF (by omega)]
theorem NO (hc:BN C.P C.gl call) {ops:Array an} {R:List ai} {ms:List Nat} {w0:ae} {Q:dN->Act->ae->Prop} {k:jQ G}:∀(l:List an) {ids:List Nat} {bl:List VB} {ch:List G} {fr:List V} {w:ae},
 Gl C.gl ids->ids.length=bl.length->St ms w0 (lits ids ids bl++av ch R) w->ir C call ops l fr bl ch k->
 (∀fr' more bl' ch' w',(ids++more).length=bl'.length->St ms w0 (lits (ids++more) (ids++more) bl'++av ch' R) w'->k fr' bl' ch'->Q .normal (act (ids++more) fr') w')->
 WL C.P ops Q l (act ids fr) w
 |[],ids,bl,ch,fr,w,hg,hl,S,h,hk=>by
  refine aR ?_;have:=hk fr [] bl ch w (by simpa using hl) (by simpa using S) h;simpa using this
 |o::l,ids,bl,ch,fr,w,hg,hl,S,h,hk=>by
  have go:∀fr,gf o (yielded ops (act ids fr).tmps)=true->oB C call o fr bl ch (λfr bl ch=>ir C call ops l fr bl ch k)->WL C.P ops Q (o::l) (act ids fr) w:=by
   intro fr hw h;refine WL.want hw λK hK=>NN hc hg hl S h rfl ?_;intro x more bl' ch' w' g1 g2 g3 g4;rw[<-adP g4,VN];refine hK _ _ (NO hc l (hg.app more) g1 g2 g3 ?_);intro s9 cD bl2 ch2 w2 e1 e2 e3;have:=hk s9 (more++cD) bl2 ch2 w2 (by rw[<-bN];exact e1) (by rw[<-bN];exact e2) e3;rw[<-bN]at this;exact this
  have sk:∀fr,gf o (yielded ops (act ids fr).tmps)=false->ir C call ops l (put fr o.dst fA) bl ch k->WL C.P ops Q (o::l) (act ids fr) w:=by
   intro fr hw h;refine uA ?_ hw;rw[show(undef:ab)=den ids fA by simp[fA,den],VN];exact NO hc l hg hl S h hk
  simp only[ir]at h;split at h
  ·rename_i w8;exact go fr (by simp[gf,w8]) h
  ·rename_i j want w8;split at h
   ·exact h.elim
   ·rename_i t hd;split at h
    ·rename_i b hb;have hy:=adQ (ids:=ids) hd hb;have IJ:gf o (yielded ops (act ids fr).tmps)=(b==want):=by
      simp only[gf,w8,hy];cases b<;>cases want<;>rfl
     have hs:=II fr t;rw[hb]at hs;cases b with
     |true=>
      rw[hs]at h;cases want with
      |true=>exact go fr (by rw[IJ];rfl) h
      |false=>exact sk fr (by rw[IJ];rfl) h
     |false=>
      rw[hs]at h;cases want with
      |true=>exact sk fr (by rw[IJ];rfl) h
      |false=>exact go fr (by rw[IJ];rfl) h
    ·rename_i vs hb;exact sk fr (by simp only[gf,w8,adR (ids:=ids) hd hb];rfl) h
    ·exact h.elim
end
inductive Cl where|f|a|x
 deriving DecidableEq
def w9 (o:an):Cl:=match o.op with
 |.alloc _=>.a
 |.move _=>.f
 |.assign _=>.f
 |.pick .. =>.f
 |.load t _=>bif ax t 40 then .x else .f
 |.nilCheck _=>.f
 |.binOp op _ _ y _=>bif IC op y then .x else .f
 |.unOp .. =>.f
 |.convert .. =>.f
 |.makeFunc .. =>.f
 |.makeInterface .. =>.f
 |.build .. =>.f
 |.fieldAddr .. =>.f
 |.field .. =>.f
 |.indexAddr .. =>.f
 |.index .. =>.f
 |.extract .. =>.f
 |.call ⟨.builtin .len,_,_⟩=>.f
 |.call ⟨.builtin .min,_,_⟩=>.f
 |.call ⟨.builtin .max,_,_⟩=>.f
 |.slice .. =>.f
 |.sliceToArrayPointer .. =>.f
 |_=>.x
def jA (o:an):Bool:=match w9 o with|.f=>true|_=>false
def fT (o:an):Bool:=match w9 o with|.a=>true|_=>false
def j_ (o:an):Bool:=match w9 o with|.x=>true|_=>false
def NP (o:an):Bool:=match o.op with|.load .. =>true|_=>false
def uQ (q:Nat->Bool) (o:an):Bool:=match o.op with
 |.load .. =>true
 |.box .. =>true
 |.buildSlice _ n _=>!(ax n 0)
 |.call ⟨.value (.func f),_,_⟩=>q f
 |_=>false
def uR (pm:List Nat):List Edge->Nat
 |[]=>0
 |e::l=>bif pE .any e then uR pm l|||(2^e.on|||pm.getD e.on 0)else uR pm l
def IK:List an->List Nat->List Nat
 |[],pm=>pm
 |o::l,pm=>IK l (pm++[uR pm o.after.toList])
def fD (pm:List Nat) (i j:Nat):Bool:=(pm.getD j 0).testBit i
def s_ (l:List an) (pm:List Nat):Bool:=ax pm.length l.length&&(l.zip pm).all λp=>ax p.2 (uR pm p.1.after.toList)
def bg (l:List an) (i:Nat):an:=match l[i]?with|some o=>o|none=>default
def kg (p:Nat->Nat->Bool):List Nat->Bool
 |[]=>true
 |i::l=>l.all (p i)&&kg p l
def mQ (l:List an):List Nat->Option Nat
 |[]=>none
 |i::r=>bif fT (bg l i)then mQ l r else some i
def w_ (l:List an) (pm:List Nat):List Nat->Bool
 |[]=>true
 |i::r=>(bif fT (bg l i)then(match mQ l r with|some x=>j_ (bg l x)&&fD pm i x|none=>false)else true)&&w_ l pm r
def looks (l:List an) (i:Nat):List Tmp:=HY l.toArray (bg l i)
def IL (t:Tmp) (l:List Tmp):Bool:=l.any λu=>ax u t
def uS (q:Nat->Bool) (l:List an) (pm:List Nat) (i j:Nat):Bool:=
 !(fD pm j i)&&(fD pm i j||
   (bif j_ (bg l i)then fT (bg l j)else true)&&
   (bif j_ (bg l j)&&NP (bg l i)then uQ q (bg l j)else true))&&
 (match(bg l i).dst with|some t=>(bif IL t (looks l j)then fD pm i j else true)&&(match(bg l j).dst with|some u=>!(ax t u)|none=>true)|none=>true)&&
 (match(bg l j).dst with|some t=>(bif IL t (looks l i)then fD pm i j else true)|none=>true)
def IM (C:Ctx G) (n:Nat) (o:an):Bool:=
 (match o.dst with|some t=>cj t n|none=>true)&&(match o.op with|.select .. =>false|_=>true)&&
 (bif fT o then(match o.guard,o.dst,o.op with|none,some _,.alloc t=>(match l7 C.P t with|some _=>true|none=>false)|_,_,_=>false)else true)
def ta (l:List an) (ts:List Nat):List an:=ts.map (bg l)
def BP:List Nat->Bool
 |[]=>true
 |i::l=>!(l.any λj=>ax j i)&&BP l
def xb (l:List an) (n:Nat):Bool:=l.all λo=>o.after.all λe=>!pE .any e||cj e.on n
def VP (C:Ctx G) (q:Nat->Bool) (l:List an) (pm ts:List Nat):Bool:=
 s_ l pm&&xb l l.length&&C.P.follows .mixedOrders&&ax ts.length l.length&&ts.all (λi=>cj i l.length)&&BP ts&&
 kg (uS q l pm) ts&&w_ l pm ts&&ts.all (λi=>!(fD pm i i))
def Ev (C:Ctx G) (q:Nat->Bool) (l:List an) (pm ts:List Nat) (n:Nat):Bool:=VP C q l pm ts&&l.all (IM C n)
def NQ (pm:List Nat) (done m:Nat) (l:List an) (c:an->Bool) (am:Nat):Nat->Option Nat
 |0=>none
 |k+1=>match NQ pm done m l c am k with
  |some i=>some i
  |none=>bif Nat.testBit done k then none else bif c (bg l k)&&ax ((pm.getD k 0)|||(done|||am)) (done|||am)then some k else none
def NR (l:List an):Nat->Nat
 |0=>0
 |k+1=>bif fT (bg l k)then NR l k|||2^k else NR l k
def NS (pm:List Nat) (l:List an) (done j:Nat):Nat->List Nat
 |0=>[]
 |k+1=>NS pm l done j k++(bif fT (bg l k)&&(fD pm k j&&!(Nat.testBit done k))then[k]else[])
def sched (pm:List Nat) (l:List an) (am:Nat):Nat->Nat->List Nat
 |0,_=>[]
 |n+1,done=>match NQ pm done l.length l jA 0 l.length with
  |some i=>i::sched pm l am n (done|||2^i)
  |none=>match NQ pm done l.length l j_ am l.length with
   |some j=>NS pm l done j l.length++(j::sched pm l am n ((NS pm l done j l.length).foldl (λs i=>s|||2^i) (done|||2^j)))
   |none=>[]
def BQ (l:List an) (pm:List Nat):List Nat:=sched pm l (NR l l.length) l.length 0
def IN (i:Nat) (o:an):an:={o with after:=o.after.push ⟨i,.data⟩}
def eG (l:List an) (i j:Nat):List an:=match l[j]?with|some o=>l.set j (IN i o)|none=>l
def Ew:List an->List Nat->List Nat->List Nat
 |[],pm,_=>pm
 |o::l,pm,old=>Ew l (pm++[uR (pm++old) o.after.toList]) old.tail
def zo (l:List an):List Nat->Option (Nat×List Nat)
 |[]=>none
 |i::r=>bif j_ (bg l i)then some (i,r)else zo l r
def Ex (C:Ctx G) (l:List an) (pm ts:List Nat) (i n:Nat):Bool:=Ev C C.q l pm ts n&&(l.all λo=>!(fT o))&&(match zo l ts with|some (x,_)=>ax x i|none=>false)
section
variable{l:List an} {pm:List Nat}
theorem IP (pm:List Nat) (i:Nat):∀es:List Edge,(uR pm es).testBit i=true↔∃e∈es,pE .any e=true/\(e.on=i\/(pm.getD e.on 0).testBit i=true)
 |[]=>by simp[uR]
 |e::l=>by
  unfold uR;cases hb:pE .any e with
  |false=>simp[hb,IP pm i l]
  |true=>
   simp only[cond_true,Nat.testBit_or,A8,IP pm i l,Nat.testBit_two_pow,decide_eq_true_eq];constructor
   ·rintro(⟨x,hx,h1,h2⟩|h2)
    ·exact⟨x,by simp[hx],h1,h2⟩
    ·exact⟨e,by simp,hb,h2⟩
   ·rintro⟨x,hx,h1,h2⟩;rcases bY.1 hx with rfl|hx
    ·exact .inr h2
    ·exact .inl ⟨x,hx,h1,h2⟩
theorem VQ (h:s_ l pm=true) {j:Nat} {o:an} (ho:l[j]?=some o):pm.getD j 0=uR pm o.after.toList:=by
 unfold s_ at h;simp only[a_]at h;have hlen:=b9 h.1;have hj:j<l.length:=by rcases cE j l.length with h'|h';exact h';simp[h']at ho
 have hm:(l.zip pm)[j]?=some (o,pm[j]):=by
  rw[List.getElem?_zip_eq_some];exact⟨ho,by simp⟩
 have:=fK.1 h.2 _ (nx hm);have:=b9 this;simp only[ij,iK (show j<pm.length by omega),Un];exact this
theorem IQ {i:Nat} {o:an} (h:l[i]?=some o):bg l i=o:=by unfold bg;rw[h]
theorem adS {i t:Nat} (h:(bg l i).dst=some t):l[i]?=some (bg l i):=by
 unfold bg at h⊢;cases hi:l[i]?with
 |some o=>rfl
 |none=>rw[hi]at h;cases h
theorem VR (h:s_ l pm=true) {i j:Nat} {o:an} (ho:l[j]?=some o) (hb:fD pm i j=true):∃e∈o.after,pE .any e=true/\(e.on=i\/fD pm i e.on=true):=by
 unfold fD at hb;rw[VQ h ho]at hb;obtain⟨e,he,h1,h2⟩:=(IP pm _ _).1 hb;exact⟨e,by simpa using he,h1,h2⟩
theorem zq {p:Nat->Nat->Bool}:∀{a b:List Nat},kg p (a++b)=true->(∀i∈a,∀j∈b,p i j=true)/\kg p a=true/\kg p b=true
 |[],b,h=>⟨by simp,rfl,h⟩
 |x::a,b,h=>by
  simp only[fb,kg,a_,fK]at h;obtain⟨i1,i2,i3⟩:=zq h.2;refine⟨?_,?_,i3⟩
  ·intro i hi j hj;rcases bY.1 hi with rfl|hi
   ·exact h.1 j (by simp[hj])
   ·exact i1 i hi j hj
  ·simp only[kg,a_,fK];exact⟨λj hj=>h.1 j (by simp[hj]),i2⟩
theorem NT {p:Nat->Nat->Bool}:∀{a:List Nat},kg p a=true->∀i∈a,∀j∈a,i≠j->p i j=true\/p j i=true
 |[],_,_,hi,_,_,_=>by cases hi
 |x::a,h,i,hi,j,hj,bZ=>by
  simp only[kg,a_,fK]at h;rcases bY.1 hi with e1|kB
  ·rcases bY.1 hj with e2|jM
   ·exact absurd (e1.trans e2.symm) bZ
   ·rw[e1];exact .inl (h.1 j jM)
  ·rcases bY.1 hj with e2|jM
   ·rw[e2];exact .inr (h.1 i kB)
   ·exact NT h.2 i kB j jM bZ
theorem NU:∀{a:List Nat},BP a=true->a.Nodup
 |[],_=>List.nodup_nil
 |i::a,h=>by
  simp only[BP,a_,lv]at h;refine pF.2 ⟨?_,NU h.2⟩;intro hm;have:=List.any_eq_false.1 h.1 i hm;simp[qS]at this
theorem VS {t:Tmp} {ts:List Tmp}:IL t ts=true↔t∈ts:=by
 unfold IL;rw[yA];constructor
 ·rintro⟨u,hu,h⟩;obtain rfl:=b9 h;exact hu
 ·intro h;exact⟨t,h,qS t⟩
theorem uT (o:an):(jA o=true/\fT o=false/\j_ o=false)\/(jA o=false/\fT o=true/\j_ o=false)\/(jA o=false/\fT o=false/\j_ o=true):=by
 unfold jA fT j_;cases w9 o<;>simp
structure NV (q:Nat->Bool) (l:List an) (pm:List Nat) (i j:Nat):Prop where
 nb:fD pm j i=false
 xj:j_ (bg l i)=true->fT (bg l j)=false->fD pm i j=true
 ld:j_ (bg l j)=true->NP (bg l i)=true->fD pm i j=true\/uQ q (bg l j)=true
 wi:∀t,(bg l i).dst=some t->t∈looks l j->fD pm i j=true
 wj:∀t,(bg l j).dst=some t->t∈looks l i->fD pm i j=true
 ww:∀t,(bg l i).dst=some t->(bg l j).dst≠some t
theorem rC {q:Nat->Bool} {i j:Nat} (h:uS q l pm i j=true):NV q l pm i j:=by
 unfold uS at h;simp only[a_,lv]at h;obtain⟨⟨⟨h1,h2⟩,h3⟩,h4⟩:=h;refine⟨h1,?_,?_,?_,?_,?_⟩
 ·intro hx ha;rcases A8 _ _▸h2 with h2|h2
  ·exact h2
  ·rw[hx,ha]at h2;simp at h2
 ·intro hx hl;rcases A8 _ _▸h2 with h2|h2
  ·exact .inl h2
  ·rw[hx,hl]at h2;simp only[a_,Bool.and_self,cond_true]at h2;exact .inr h2.2
 ·intro t ht hm;rw[ht]at h3;simp only[a_,VS.2 hm,cond_true]at h3;exact h3.1
 ·intro t ht hm;rw[ht]at h4;simpa only[VS.2 hm,cond_true]using h4
 ·intro t ht e;rw[ht,e]at h3;simp[qS]at h3
end
def Ey (l:List an) (fr:List V) (o:an) (b:Bool):Prop:=match o.guard with
 |none=>b=true
 |some (g,want)=>∃t,w7 l.toArray g=some t/\((∃c,nth fr t=.bool c/\b=(c==want))\/(∃vs,nth fr t=.raw (.tuple vs)/\b=false))
def IS (C:Ctx G) (bl:List VB) (fr:List V) (o:an) (v:V):Prop:=(Em C.P (ev C.gl fr) o.op=some v\/∃b0 p,Et C.P (ev C.gl fr) b0 o.op=some (p,v)/\p)\/(∃t x,o.op=.load t x/\zm C.P bl t (ev C.gl fr x) v)
structure Rec (C:Ctx G) (l:List an) (pm:List Nat) (dJ fr:List V) (bl:List VB) (i:Nat) (jg:List V) (v:V) (b:Bool):Prop where
 w1:∀t∈looks l i,∀h,(bg l h).dst=some t->fD pm h i=true->nth jg t=nth fr t
 w0:∀t∈looks l i,(∀h,(bg l h).dst=some t->fD pm h i=false)->nth jg t=nth dJ t
 val:∀d,(bg l i).dst=some d->nth fr d=v
 g:Ey l jg (bg l i) b
 e:if b then IS C bl jg (bg l i) v else v=fA
section
variable{C:Ctx G} {l:List an} {pm:List Nat} {ids:List Nat} {w:ae}
theorem NW (a:Act) (t:Tmp):a.eval (.tmp t)=cw a t:=rfl
theorem NX {fr:List V} (t:Nat):cw (act ids fr) t=den ids (nth fr t):=by rw[<-NW];simp only[Act.eval,act,zh]
theorem adT {a:Act} {t:Tmp} {b:Bool} (h:cw a t=.bool b):a.tmps[t]?=some (.bool b):=by
 have h':a.tmps.getD t undef=.bool b:=h;by_cases h1:t<a.tmps.size
 ·rw[DJ,dif_pos h1]at h';rw[HT h1];exact congrArg some h'
 ·rw[DJ,dif_neg h1]at h';cases h'
theorem adU {a:Act} {t:Tmp} {vs:Array ab} (h:cw a t=.tuple vs):a.tmps[t]?=none\/a.tmps[t]?=some (.tuple vs):=by
 have h':a.tmps.getD t undef=.tuple vs:=h;by_cases h1:t<a.tmps.size
 ·rw[DJ,dif_pos h1]at h';rw[HT h1];exact .inr (congrArg some h')
 ·exact .inl (DF (Uw h1))
theorem adV {ops:Array an} {g t:Nat} (h:w7 ops g=some t):(ops[g]?).bind (·.dst)=some t:=by
 unfold w7 at h;split at h
 ·rename_i o ho;rw[ho];simpa using h
 ·cases h
theorem IT {a:Act} {fr:List V} {o:an} {b:Bool} (hy:∀t∈HY l.toArray o,cw a t=den ids (nth fr t)) (hg:Ey l fr o b):gf o (yielded l.toArray a.tmps)=b:=by
 unfold Ey at hg;unfold gf;split at hg
 ·rename_i h;rw[h];exact hg.symm
 ·rename_i g want h;rw[h];obtain⟨t,ht,hc⟩:=hg;have hb:=adV ht;have hm:t∈HY l.toArray o:=by
   unfold HY;rw[h];refine qU _ ?_;simp only[hb];simp
  have IU:=hy t hm;simp only[yielded,hb,Option.bind_some];rcases hc with⟨c,h1,h2⟩|⟨vs,h1,h2⟩
  ·rw[h1]at IU;rw[adT (b:=c) (by rw[IU];simp only[den])];simp only;rw[h2];cases c<;>cases want<;>rfl
  ·rw[h1]at IU;rcases adU (a:=a) (t:=t) (vs:=vs) (by rw[IU];simp only[den])with h3|h3
   ·rw[h3,h2];rfl
   ·rw[h3,h2];rfl
theorem Ez {a:Act} {fr:List V} {o:an} (hs:∀cs b,o.op≠.select cs b) (hy:∀t∈HY l.toArray o,cw a t=den ids (nth fr t)):execOp a.eval o=execOp (act ids fr).eval o:=by
 refine execOp_congr o hs ?_;intro x hx;cases x with
 |tmp t=>
  rw[NW,NW,NX];refine hy t ?_;unfold HY;exact mH _ (List.mem_filterMap.2 ⟨.tmp t,by simpa using hx,rfl⟩)
 |const v=>rfl
 |global g=>rfl
 |func f=>rfl
theorem NY {bl:List VB} {R:List ai} {ms:List Nat} {w0:ae} {fr:List V} {o:an} {v:V} (hg:Gl C.gl ids) (hl:ids.length=bl.length) (S:St ms w0 (lits ids ids bl++R) w) (h:IS C bl fr o v):
 (execOp (act ids fr).eval o).run C.P w=.ok (.value (den ids v)) w:=by
 have aW:=λx=>VM (fr:=fr) hg x;rcases h with(h|⟨b0,p,h,hp⟩)|⟨t,x,ho,h⟩
 ·exact Vv aW o v h
 ·exact VJ aW o h hp
 ·have:=h.run hl S;unfold execOp;simp only[ho,aW,bj,this];rfl
theorem adW {call:j9 G} {o:an} {fr:List V} {bl:List VB} {ch:List G} {k:jQ G} (hf:jA o=true) (h:oB C call o fr bl ch k):∃v,IS C bl fr o v/\k (put fr o.dst v) bl ch:=by
 unfold oB at h;split at h
 ·rename_i t x ho;split at h
  ·rename_i v hv;exact⟨v,.inr ⟨t,x,ho,.inl hv⟩,h⟩
  ·split at h
   ·rename_i p v hv;exact⟨v,.inr ⟨t,x,ho,.inr ⟨p,hv,h.1⟩⟩,h.2⟩
   ·exact h.elim
 ·rename_i t x y ho;simp[jA,w9,ho]at hf
 ·rename_i op h1 h2;split at h
  ·rename_i p v hv;exact⟨v,.inl (.inr ⟨_,p,hv,h.1⟩),h.2⟩
  split at h
  ·rename_i v hv;exact⟨v,.inl (.inl hv),h⟩
  ·exfalso;unfold jA w9 at hf;split at h
   ·rename_i v b hv;unfold Eo at hv;split at hv<;>simp_all
   ·split at h
    ·rename_i f args hv;unfold callee at hv;split at hv
     ·rename_i c hc;split at hv
      ·rename_i fo EA;obtain⟨l9,ar,ts⟩:=c;simp only at EA;subst EA;rw[hc]at hf;simp at hf
      ·rename_i r nm EA;obtain⟨l9,ar,ts⟩:=c;simp only at EA;subst EA;rw[hc]at hf;simp at hf
      ·cases hv
     ·cases hv
    ·cases hq:BL o.op with
     |false=>rw[hq]at h;exact h
     |true=>
      unfold BL at hq;split at hq<;>simp_all
end
structure DI (C:Ctx G) (call:j9 G) (q:Nat->Bool) (l:List an) (pm:List Nat) (R:List ai) (ms:List Nat) (w0:ae) (k:jQ G) (dJ:List V) (dY:List Nat)
 (cn rest:List Nat) (fr:List V) (ids:List Nat) (bl:List VB) (ch:List G) (Z:List (Nat×ai)) (listed:Array Bool) (a:Act) (w:ae):Prop where
 kh:kg (uS q l pm) (cn++rest)=true
 uU:w_ l pm rest=true
 lG:∀i,i<l.length->i∈cn++rest
 lH:∀i∈cn++rest,i<l.length
 nd:(cn++rest).Nodup
 mR:l.all (IM C fr.length)=true
 uV:∀i∈cn++rest,fD pm i i=false
 ls:listed.size=l.length
 qh:∀i∈cn,jA (bg l i)=false->listed[i]?=some true
 kZ:∀i∈rest,fT (bg l i)=false->listed[i]?=some false
 back:∀j,listed[j]?=some true->∀i,fD pm i j=true->listed[i]?=some true
 vc:ir C call l.toArray (ta l rest) fr bl ch k
 sz:a.tmps.size=fr.length
 df:a.defers=[]
 slot:∀t,(∀i∈cn,(bg l i).dst=some t->listed[i]?=some true)->(∀i∈rest,(bg l i).dst=some t->listed[i]?=some false)->cw a t=den ids (nth fr t)
 old:∀i∈cn,listed[i]?=some false->∀t,(bg l i).dst=some t->cw a t=den ids (nth dJ t)
 rD:∀t,(∀i∈cn,(bg l i).dst≠some t)->nth fr t=nth dJ t
 br:∀i∈cn,listed[i]?=some false->∃jg v b,Rec C l pm dJ fr bl i jg v b
 qi:∀i∈rest,listed[i]?=some true->∃b t z d,(i,(⟨b,true,.cells (ah [] z).toArray t (0,0)⟩:ai))∈Z/\(bg l i).op=.alloc t/\l7 C.P t=some z/\(bg l i).dst=some d/\cw a d=.pointer (some ⟨b,0,none⟩)
 l_:∀p∈Z,p.1∈rest/\listed[p.1]?=some true
 BR:(Z.map (·.1)).Nodup
 S:St ms w0 (lits ids ids bl++av ch (Z.map (·.2)++R)) w
 hl:ids.length=bl.length
 gl:Gl C.gl ids
 zr:ba ids.length dJ=true
 BS:∃m,ids=dY++m
section
variable{C:Ctx G} {call:j9 G} {q:Nat->Bool} {l:List an} {pm:List Nat} {R:List ai} {ms:List Nat} {w0:ae} {k:jQ G} {dJ fr:List V} {dY:List Nat}
 {cn rest:List Nat} {ids:List Nat} {bl:List VB} {ch:List G} {Z:List (Nat×ai)} {listed:Array Bool} {a:Act} {w:ae} {Q:dN->Act->ae->Prop}
theorem VT:∀(fr:List V) (t:Nat) (x:V),(lE fr t x).length=fr.length
 |[],_,_=>rfl
 |_::_,0,_=>rfl
 |_::l,t+1,x=>by simp[wS,wT,wU,VT l t x]
theorem BU (d:Option Tmp) (x:V):(put fr d x).length=fr.length:=by cases d<;>simp[put,VT]
theorem NZ:∀(fr:List V) (t u:Nat) (x:V),t<fr.length->nth (lE fr t x) u=if u=t then x else nth fr u
 |[],t,u,x,h=>by simp at h
 |v::l,0,0,x,_=>by simp[wS,wT,wU,jx,jy,je]
 |v::l,0,u+1,x,_=>by simp[wS,wT,wU,jx,jy,je]
 |v::l,t+1,0,x,_=>by simp[wS,wT,wU,jx,jy,je]
 |v::l,t+1,u+1,x,h=>by simp[wS,wT,wU,jx,jy,je,NZ l t u x (by simpa using h)]
theorem N0 {d:Option Tmp} {x:V} (t:Tmp) (hd:∀u,d=some u->u<fr.length):(d=some t->nth (put fr d x) t=x)/\(d≠some t->nth (put fr d x) t=nth fr t):=by
 cases d with
 |none=>exact⟨λh=>(nomatch h),λ_=>rfl⟩
 |some u=>
  refine⟨λh=>?_,λh=>?_⟩
  ·cases h;simp only[put];rw[NZ _ _ _ _ (hd _ rfl),if_pos rfl]
  ·simp only[put];rw[NZ _ _ _ _ (hd u rfl),if_neg (λe=>h (by rw[e]))]
theorem xd {n:Nat} (h:l.all (IM C n)=true) {i:Nat} {o:an} (ho:l[i]?=some o):(∀t,o.dst=some t->t<n)/\(∀cs b,o.op≠.select cs b)/\
 (fT o=true->o.guard=none/\∃d t z,o.dst=some d/\o.op=.alloc t/\l7 C.P t=some z):=by
 have h1:=fK.1 h o (nx ho);unfold IM at h1;simp only[a_]at h1;obtain⟨⟨a1,a2⟩,a3⟩:=h1;refine⟨?_,?_,?_⟩
 ·intro t ht;rw[ht]at a1;rw[gV]at a1;exact a1
 ·intro cs b e;rw[e]at a2;cases a2
 ·intro ha;rw[ha]at a3;simp only[cond_true]at a3;split at a3
  ·rename_i d t hg hd ho;split at a3
   ·rename_i z hz;exact⟨hg,d,t,z,hd,ho,hz⟩
   ·cases a3
  ·cases a3
namespace DI
theorem at_ (D:DI C call q l pm R ms w0 k dJ dY cn rest fr ids bl ch Z listed a w) {i:Nat} (h:i∈cn++rest):l[i]?=some (bg l i):=by
 have:=D.lH i h;rw[iK this];rw[IQ (iK this)]
theorem mem_of (D:DI C call q l pm R ms w0 k dJ dY cn rest fr ids bl ch Z listed a w) {i t:Nat} (h:(bg l i).dst=some t):i∈cn++rest:=by
 have:=adS h;exact D.lG i (by rcases cE i l.length with h'|h';exact h';simp[h']at this)
theorem bit (D:DI C call q l pm R ms w0 k dJ dY cn rest fr ids bl ch Z listed a w) {i:Nat} (h:i∈cn++rest):listed[i]?=some true\/listed[i]?=some false:=kR D.ls (D.lH i h)
theorem uniq (D:DI C call q l pm R ms w0 k dJ dY cn rest fr ids bl ch Z listed a w) {i j t:Nat} (hi:(bg l i).dst=some t) (hj:(bg l j).dst=some t):i=j:=by
 refine Classical.byContradiction λbZ=>?_;rcases NT D.kh i (D.mem_of hi) j (D.mem_of hj) bZ with h|h
 ·exact(rC h).ww t hi hj
 ·exact(rC h).ww t hj hi
theorem ahead (D:DI C call q l pm R ms w0 k dJ dY cn rest fr ids bl ch Z listed a w) {i j:Nat} (hi:i∈cn) (hj:j∈rest):NV q l pm i j:=rC ((zq D.kh).1 i hi j hj)
theorem apart (D:DI C call q l pm R ms w0 k dJ dY cn rest fr ids bl ch Z listed a w) {i:Nat} (hi:i∈cn) (hj:i∈rest):False:=(List.nodup_append.1 D.nd).2.2 i hi i hj rfl
theorem N1 (D:DI C call q l pm R ms w0 k dJ dY cn rest fr ids bl ch Z listed a w) {i:Nat} (hi:i∈cn) (hu:listed[i]?=some false) (hp:∀h,fD pm h i=true->listed[h]?=some true) {jg:List V} {v:V} {b:Bool}
 (r:Rec C l pm dJ fr bl i jg v b):∀t∈looks l i,cw a t=den ids (nth jg t):=by
 intro t ht;by_cases hw:∃h,(bg l h).dst=some t
 ·obtain⟨h,hd⟩:=hw;cases hb:fD pm h i with
  |true=>
   rw[r.w1 t ht h hd hb];refine D.slot t ?_ ?_
   ·intro i' kB gk;rw[D.uniq gk hd];exact hp h hb
   ·intro i' kB gk;have:=(D.ahead hi (D.uniq gk hd▸kB)).nb;rw[hb]at this;cases this
  |false=>
   rw[r.w0 t ht (λh' gk=>by rw[D.uniq gk hd];exact hb)];by_cases he:h=i
   ·subst he;exact D.old h hi hu t hd
   ·have hm:=D.mem_of hd;have Bv:fD pm i h=true:=by
     rcases NT D.kh h hm i (by simp[hi]) he with p|p
     ·have:=(rC p).wi t hd ht;rw[hb]at this;cases this
     ·exact(rC p).wj t hd ht
    have VU:listed[h]?=some false:=by
     rcases D.bit hm with e|e
     ·have:=D.back h e i Bv;rw[hu]at this;cases this
     ·exact e
    rcases ez.1 hm with hm|hm
    ·exact D.old h hm VU t hd
    ·rw[<-D.rD t (λi' kB gk=>D.apart kB (D.uniq gk hd▸hm))];refine D.slot t ?_ ?_
     ·intro i' kB gk;exact(D.apart kB (D.uniq gk hd▸hm)).elim
     ·intro i' kB gk;rw[D.uniq gk hd];exact VU
 ·rw[r.w0 t ht (λh hd=>(hw ⟨h,hd⟩).elim),<-D.rD t (λi' _ gk=>hw ⟨i',gk⟩)];exact D.slot t (λi' _ gk=>(hw ⟨i',gk⟩).elim) (λi' _ gk=>(hw ⟨i',gk⟩).elim)
theorem adX (D:DI C call q l pm R ms w0 k dJ dY cn rest fr ids bl ch Z listed a w) {i:Nat} {r:List Nat} (hr:rest=i::r) (hu:listed[i]?=some false) (hp:∀h,fD pm h i=true->listed[h]?=some true):
 ∀t∈looks l i,cw a t=den ids (nth fr t):=by
 intro t ht;refine D.slot t ?_ ?_
 ·intro h hh hd;exact hp h ((D.ahead hh (by rw[hr];simp)).wi t hd ht)
 ·intro h hh hd;rcases D.bit (i:=h) (by simp[hh])with e|e
  ·exfalso;rw[hr]at hh;rcases bY.1 hh with rfl|hh
   ·rw[hu]at e;cases e
   ·have zt:=(zq D.kh).2.2;rw[hr]at zt;simp only[kg,a_,fK]at zt;have:=(rC (zt.1 h hh)).wj t hd ht;have:=D.back h e i this;rw[hu]at this;cases this
  ·exact e
end DI
end
section
variable{C:Ctx G} {call:j9 G} {q:Nat->Bool} {l:List an} {pm:List Nat} {R:List ai} {ms:List Nat} {w0:ae} {k:jQ G} {dJ fr:List V} {dY:List Nat}
 {cn rest:List Nat} {ids:List Nat} {bl:List VB} {ch:List G} {Z:List (Nat×ai)} {listed:Array Bool} {a:Act} {w:ae} {Q:dN->Act->ae->Prop}
theorem N2 {i j:Nat} {b:Bool} (hi:i<listed.size):(listed.setIfInBounds i true)[j]?=some b↔(j=i/\b=true)\/(j≠i/\listed[j]?=some b):=by
 rw[pD];by_cases h:i=j
 ·subst h;simp[hi]
 ·rw[if_neg h];constructor
  ·intro e;exact .inr ⟨λx=>h x.symm,e⟩
  ·rintro(⟨e,_⟩|⟨_,e⟩)
   ·exact absurd e.symm h
   ·exact e
theorem N3 {a:Act} {d:Option Tmp} {v:ab} (hd:∀u,d=some u->u<a.tmps.size) (t:Tmp):(d=some t->cw (a.put d v) t=v)/\(d≠some t->cw (a.put d v) t=cw a t):=by
 cases d with
 |none=>exact⟨λh=>(nomatch h),λ_=>rfl⟩
 |some u=>
  refine⟨λh=>?_,λh=>?_⟩
  ·cases h;rw[wJ _ _ _ _ (hd _ rfl),if_pos rfl]
  ·rw[wJ _ _ _ _ (hd u rfl),if_neg (λe=>h (by rw[e]))]
namespace DI
theorem N5 (D:DI C call q l pm R ms w0 k dJ dY cn rest fr ids bl ch Z listed a w) {i:Nat} (hi:i∈cn) (hu:listed[i]?=some false) (hp:∀h,fD pm h i=true->listed[h]?=some true) {jg:List V} {v:V} {b:Bool}
 (r:Rec C l pm dJ fr bl i jg v b):DI C call q l pm R ms w0 k dJ dY cn rest fr ids bl ch Z (listed.setIfInBounds i true) (a.put (bg l i).dst (den ids v)) w:=by
 have gw:i<listed.size:=by rw[D.ls];exact D.lH i (by simp[hi])
 have sg:=λj b=>N2 (listed:=listed) (j:=j) (b:=b) gw;have hd:∀u,(bg l i).dst=some u->u<a.tmps.size:=λu hu=>by rw[D.sz];exact(xd D.mR (D.at_ (by simp[hi]))).1 u hu
 have yp:=N3 (v:=den ids v) hd;refine{D with ls:=by simpa using D.ls,qh:=?_,kZ:=?_,back:=?_,sz:=by rw[size_put];exact D.sz,df:=by rw[yP];exact D.df,slot:=?_,old:=?_,br:=?_,qi:=?_,l_:=λp hp=>⟨(D.l_ p hp).1,(sg _ _).2 (.inr ⟨λe=>D.apart hi (e▸(D.l_ p hp).1),(D.l_ p hp).2⟩)⟩}
 ·intro j hj hf;exact(sg _ _).2 (by by_cases e:j=i;exact .inl ⟨e,rfl⟩;exact .inr ⟨e,D.qh j hj hf⟩)
 ·intro j hj hf;exact(sg _ _).2 (.inr ⟨λe=>D.apart hi (e▸hj),D.kZ j hj hf⟩)
 ·intro j hj h hb;refine(sg _ _).2 ?_;rcases(sg _ _).1 hj with⟨rfl,_⟩|⟨bZ,hj⟩
  ·by_cases e:h=j
   ·exact .inl ⟨e,rfl⟩
   ·exact .inr ⟨e,hp h hb⟩
  ·by_cases e:h=i
   ·exact .inl ⟨e,rfl⟩
   ·exact .inr ⟨e,D.back j hj h hb⟩
 ·intro t h1 h2;by_cases e:(bg l i).dst=some t
  ·rw[(yp t).1 e,r.val t e]
  ·rw[(yp t).2 e];refine D.slot t ?_ ?_
   ·intro j hj gk;rcases(sg _ _).1 (h1 j hj gk)with⟨rfl,_⟩|⟨_,h⟩
    ·exact absurd gk e
    ·exact h
   ·intro j hj gk;rcases(sg _ _).1 (h2 j hj gk)with⟨_,h⟩|⟨_,h⟩
    ·cases h
    ·exact h
 ·intro j hj dk t ht;rcases(sg _ _).1 dk with⟨_,h⟩|⟨bZ,h⟩
  ·cases h
  ·rw[(yp t).2 (λe=>bZ (D.uniq ht e))];exact D.old j hj h t ht
 ·intro j hj dk;rcases(sg _ _).1 dk with⟨_,h⟩|⟨bZ,h⟩
  ·cases h
  ·exact D.br j hj h
 ·intro j hj dk;rcases(sg _ _).1 dk with⟨rfl,_⟩|⟨bZ,h⟩
  ·exact(D.apart hi hj).elim
  ·obtain⟨b,t,z,d,h1,h2,h3,h4,h5⟩:=D.qi j hj h;exact⟨b,t,z,d,h1,h2,h3,h4,by rw[(yp d).2 (λe=>bZ (D.uniq h4 e))];exact h5⟩
theorem N6 (b:ai) (X:List ai):∀ch:List G,(b::av ch X).Perm (av ch (b::X))
 |[]=>List.Perm.refl _
 |c::ch=>by
  simp only[av];exact(jH.symm).trans (pI (Bl.B c) (N6 b X ch))
theorem adY {P:aC} {t:aD} {z:List V} (h:l7 P t=some z) (ids:List Nat):ah ids z=ah [] z:=by
 unfold l7 at h;split at h
 ·split at h
  ·rename_i v hv;simp only[aS]at h;subst h;rw[Nk,Nk];cases v<;>simp[BH,jf,ah,cl,den,Ix]
  ·cases h
 ·cases h
theorem adZ (D:DI C call q l pm R ms w0 k dJ dY cn rest fr ids bl ch Z listed a w) {i d:Nat} {t:aD} {z:List V} (hi:i∈rest) (hu:listed[i]?=some false) (hp:∀h,fD pm h i=true->listed[h]?=some true)
 (ho:(bg l i).op=.alloc t) (hz:l7 C.P t=some z) (hd:(bg l i).dst=some d):
 DI C call q l pm R ms w0 k dJ dY cn rest fr ids bl ch ((i,⟨w.heap.size,true,.cells (ah [] z).toArray t (0,0)⟩)::Z) (listed.setIfInBounds i true) (a.put (bg l i).dst (.pointer (some ⟨w.heap.size,0,none⟩))) (w.alloc (.cells (ah [] z).toArray t)):=by
 have gw:i<listed.size:=by rw[D.ls];exact D.lH i (by simp[hi])
 have sg:=λj b=>N2 (listed:=listed) (j:=j) (b:=b) gw;have xf:∀u,(bg l i).dst=some u->u<a.tmps.size:=λu hu=>by rw[D.sz];exact(xd D.mR (D.at_ (by simp[hi]))).1 u hu
 have yp:=N3 (v:=(.pointer (some ⟨w.heap.size,0,none⟩):ab)) xf;have hA:fT (bg l i)=true:=by simp[fT,w9,ho]
 have hF:jA (bg l i)=false:=by simp[jA,w9,ho]
 refine{D with ls:=by simpa using D.ls,qh:=?_,kZ:=?_,back:=?_,sz:=by rw[size_put];exact D.sz,df:=by rw[yP];exact D.df,slot:=?_,old:=?_,br:=?_,qi:=?_,l_:=?_,BR:=?_,S:=?_}
 ·intro j hj hf;exact(sg _ _).2 (by by_cases e:j=i;exact .inl ⟨e,rfl⟩;exact .inr ⟨e,D.qh j hj hf⟩)
 ·intro j hj hf;exact(sg _ _).2 (.inr ⟨λe=>(by rw[e,hA]at hf;cases hf),D.kZ j hj hf⟩)
 ·intro j hj h hb;refine(sg _ _).2 ?_;rcases(sg _ _).1 hj with⟨rfl,_⟩|⟨bZ,hj⟩
  ·by_cases e:h=j
   ·exact .inl ⟨e,rfl⟩
   ·exact .inr ⟨e,hp h hb⟩
  ·by_cases e:h=i
   ·exact .inl ⟨e,rfl⟩
   ·exact .inr ⟨e,D.back j hj h hb⟩
 ·intro t h1 h2;by_cases e:(bg l i).dst=some t
  ·rcases(sg _ _).1 (h2 i hi e)with⟨_,h⟩|⟨h,_⟩
   ·cases h
   ·exact absurd rfl h
  ·rw[(yp t).2 e];refine D.slot t ?_ ?_
   ·intro j hj gk;rcases(sg _ _).1 (h1 j hj gk)with⟨rfl,_⟩|⟨_,h⟩
    ·exact absurd gk e
    ·exact h
   ·intro j hj gk;rcases(sg _ _).1 (h2 j hj gk)with⟨_,h⟩|⟨_,h⟩
    ·cases h
    ·exact h
 ·intro j hj dk t ht;rcases(sg _ _).1 dk with⟨_,h⟩|⟨bZ,h⟩
  ·cases h
  ·rw[(yp t).2 (λe=>bZ (D.uniq ht e))];exact D.old j hj h t ht
 ·intro j hj dk;rcases(sg _ _).1 dk with⟨_,h⟩|⟨bZ,h⟩
  ·cases h
  ·exact D.br j hj h
 ·intro j hj dk;rcases(sg _ _).1 dk with⟨rfl,_⟩|⟨bZ,h⟩
  ·exact⟨_,_,_,_,Bb ..,ho,hz,hd,(yp d).1 hd⟩
  ·obtain⟨b,t,z,d,h1,h2,h3,h4,h5⟩:=D.qi j hj h;exact⟨b,t,z,d,wy _ h1,h2,h3,h4,by rw[(yp d).2 (λe=>bZ (D.uniq h4 e))];exact h5⟩
 ·intro p hp;rcases bY.1 hp with rfl|hp
  ·exact⟨hi,(sg _ _).2 (.inl ⟨rfl,rfl⟩)⟩
  ·exact⟨(D.l_ p hp).1,(sg _ _).2 (by by_cases e:p.1=i;exact .inl ⟨e,rfl⟩;exact .inr ⟨e,(D.l_ p hp).2⟩)⟩
 ·simp only[eQ,pF];refine⟨?_,D.BR⟩;intro hm;obtain⟨p,hp,e⟩:=ny.1 hm;have:=(D.l_ p hp).2;rw[e,hu]at this;cases this
 ·have h:=D.S.new (Ch.alloc [] w (.cells (ah [] z).toArray t)) (dE _) (mC w _);refine h.perm ?_;simp only[eQ,fb];exact(jH.symm).trans (pI _ (N6 _ _ _))
end DI
end
mutual
theorem VV {n m:Nat} (xg:n<=m):∀v:V,cz n v=true->cz m v=true
 |.int _ _,_=>by simp[cz]
 |.bool _,_=>by simp[cz]
 |.ptr i _,h=>by simp only[cz,gV]at h⊢;omega
 |.sl i _ _ _,h=>by simp only[cz,gV]at h⊢;omega
 |.fS i _ _ _ _,h=>by simp only[cz,gV]at h⊢;omega
 |.fn _ a b,h=>by simp only[cz,a_]at h⊢;exact⟨uW xg a h.1,uW xg b h.2⟩
 |.lD _ v,h=>by simp only[cz]at h⊢;exact VV xg v h
 |.agg l,h=>by simp only[cz]at h⊢;exact uW xg l h
 |.ao l,h=>by simp only[cz]at h⊢;exact uW xg l h
 |.bH _ _ _,_=>by simp[cz]
 |.arr _ _ _,_=>by simp[cz]
 |.dS _ _ _ _,_=>by simp[cz]
 |.rest _,_=>by simp[cz]
 |.eU _ _ _,_=>by simp[cz]
 |.pe i _ _ _ _,h=>by simp only[cz,gV]at h⊢;omega
 |.raw _,_=>by simp[cz]
theorem uW {n m:Nat} (xg:n<=m):∀l:List V,ba n l=true->ba m l=true
 |[],_=>by simp[ba]
 |v::l,h=>by simp only[ba,a_]at h⊢;exact⟨VV xg v h.1,uW xg l h.2⟩
end
theorem EB {n:Nat}:∀{fr:List V} (t:Nat),ba n fr=true->cz n (nth fr t)=true
 |[],_,_=>by simp[jx,jy,je,fA,cz]
 |v::l,0,h=>by simp only[ba,a_]at h;exact h.1
 |v::l,t+1,h=>by simp only[ba,a_]at h;exact EB t h.2
theorem ad0 {P:aC} {bl e:List VB} {t:aD} {x v:V} (h:sZ P bl t x=some v):sZ P (bl++e) t x=some v:=by
 unfold sZ at h⊢;split at h
 ·rename_i i off;split at h
  ·rename_i b hb;have hi:i<bl.length:=by rcases cE i bl.length with h'|h';exact h';simp[h']at hb
   simp only[gI hi,hb];exact h
  ·cases h
 ·cases h
theorem VW {P:aC} {bl e:List VB} {t:aD} {x v:V} (h:zm P bl t x v):zm P (bl++e) t x v:=by
 rcases h with h|⟨p,h,hp⟩
 ·exact .inl (ad0 h)
 ·exact .inr ⟨p,adI h,hp⟩
theorem VY {X Y:List ai} (h:X.Perm Y):∀ch:List G,(av ch X).Perm (av ch Y)
 |[]=>h
 |c::ch=>pI (Bl.B c) (VY h ch)
section
variable{C:Ctx G} {call:j9 G} {q:Nat->Bool} {l:List an} {pm:List Nat} {R:List ai} {ms:List Nat} {w0:ae} {k:jQ G} {dJ fr:List V} {dY:List Nat}
 {cn rest:List Nat} {ids:List Nat} {bl:List VB} {ch:List G} {Z:List (Nat×ai)} {listed:Array Bool} {a:Act} {w:ae} {Q:dN->Act->ae->Prop}
theorem VZ {o:an} {L:List an} (h:ir C call l.toArray (o::L) fr bl ch k):∃b,Ey l fr o b/\(if b then oB C call o fr bl ch (λfr bl ch=>ir C call l.toArray L fr bl ch k)else ir C call l.toArray L (put fr o.dst fA) bl ch k):=by
 simp only[ir]at h;unfold Ey;split at h
 ·rename_i hg;(try rw[hg]);exact⟨true,rfl,h⟩
 ·rename_i j want hg;try rw[hg]
  split at h
  ·exact h.elim
  ·rename_i t hd;split at h
   ·rename_i c hc;have hs:=II fr t;rw[hc]at hs;refine⟨c==want,⟨t,hd,.inl ⟨c,hc,rfl⟩⟩,?_⟩;cases c<;>(rw[hs]at h;cases want<;>exact h)
   ·rename_i vs hc;exact⟨false,⟨t,hd,.inr ⟨vs,hc,rfl⟩⟩,h⟩
   ·exact h.elim
theorem Rec.frame {i:Nat} {jg:List V} {v:V} {b:Bool} (r:Rec C l pm dJ fr bl i jg v b) {fr':List V} {bl':List VB}
 (h1:∀t∈looks l i,∀h,(bg l h).dst=some t->fD pm h i=true->nth fr' t=nth fr t) (h2:∀d,(bg l i).dst=some d->nth fr' d=nth fr d)
 (h3:∀t x v,(bg l i).op=.load t x->zm C.P bl t (ev C.gl jg x) v->zm C.P bl' t (ev C.gl jg x) v):Rec C l pm dJ fr' bl' i jg v b:=by
 refine⟨λt ht h hd hb=>(r.w1 t ht h hd hb).trans (h1 t ht h hd hb).symm,r.w0,λd hd=>(h2 d hd).trans (r.val d hd),r.g,?_⟩;have e:=r.e;cases b with
 |false=>exact e
 |true=>
  rcases e with e|⟨t,x,ho,e⟩
  ·exact .inl e
  ·exact .inr ⟨t,x,ho,h3 t x v ho e⟩
namespace DI
theorem ad1 {i:Nat} {r:List Nat} (D:DI C call q l pm R ms w0 k dJ dY cn (i::r) fr ids bl ch Z listed a w) (hf:jA (bg l i)=true):∃fr',DI C call q l pm R ms w0 k dJ dY (cn++[i]) r fr' ids bl ch Z listed a w:=by
 have lI:(cn++[i])++r=cn++(i::r):=by simp
 have hA:fT (bg l i)=false:=by rcases uT (bg l i)with h|h|h<;>simp_all
 have hu:listed[i]?=some false:=D.kZ i (by simp) hA;have ho:=D.at_ (i:=i) (by simp);have xf:=(xd D.mR ho).1;obtain⟨b,hg,hb⟩:=VZ D.vc;obtain⟨v,hv,cJ⟩:∃v,(if b then IS C bl fr (bg l i) v else v=fA)/\ir C call l.toArray (ta l r) (put fr (bg l i).dst v) bl ch k:=by
  cases b with
  |true=>rw[if_pos rfl]at hb;exact adW hf hb
  |false=>rw[if_neg (by simp)]at hb;exact⟨fA,rfl,hb⟩
 have np:=λt=>N0 (fr:=fr) (x:=v) t xf;have uX:∀{j},j∈cn->j≠i:=λhj e=>D.apart hj (by rw[e];simp);refine⟨put fr (bg l i).dst v,{D with kh:=by rw[lI];exact D.kh,uU:=?_,lG:=by rw[lI];exact D.lG,lH:=by rw[lI];exact D.lH,nd:=by rw[lI];exact D.nd,mR:=by rw[BU];exact D.mR,uV:=by rw[lI];exact D.uV,qh:=?_,kZ:=λj hj=>D.kZ j (by simp[hj]),vc:=cJ,sz:=by rw[BU];exact D.sz,slot:=?_,old:=?_,rD:=?_,br:=?_,qi:=λj hj=>D.qi j (by simp[hj]),l_:=?_}⟩
 ·have:=D.uU;simp only[w_,a_]at this;exact this.2
 ·intro j hj uY;rcases ez.1 hj with hj|hj
  ·exact D.qh j hj uY
  ·obtain rfl:j=i:=by simpa using hj
   rw[hf]at uY;cases uY
 ·intro t h1 h2;by_cases e:(bg l i).dst=some t
  ·have:=h1 i (by simp) e;rw[hu]at this;cases this
  ·rw[(np t).2 e];refine D.slot t (λj hj=>h1 j (by simp[hj])) ?_;intro j hj hd;rcases bY.1 hj with rfl|hj
   ·exact absurd hd e
   ·exact h2 j hj hd
 ·intro j hj dk t ht;rcases ez.1 hj with hj|hj
  ·exact D.old j hj dk t ht
  ·obtain rfl:j=i:=by simpa using hj
   rw[<-D.rD t (λh hh hd=>uX hh (D.uniq hd ht))];refine D.slot t (λh hh hd=>(uX hh (D.uniq hd ht)).elim) ?_;intro h hh hd;rw[D.uniq hd ht];exact hu
 ·intro t h;rw[(np t).2 (h i (by simp))];exact D.rD t (λj hj=>h j (by simp[hj]))
 ·intro j hj dk;rcases ez.1 hj with hj|hj
  ·obtain⟨jg,v',b',rr⟩:=D.br j hj dk;refine⟨jg,v',b',rr.frame ?_ ?_ (λ_ _ _ _ h=>h)⟩
   ·intro t ht h hd mS;refine(np t).2 (λe=>?_);have:=(D.ahead hj (show i∈i::r by simp)).nb;rw[D.uniq hd e]at mS;rw[mS]at this;cases this
   ·intro d hd;exact(np d).2 (λe=>uX hj (D.uniq hd e))
  ·obtain rfl:j=i:=by simpa using hj
   refine⟨fr,v,b,⟨?_,?_,λd hd=>(np d).1 hd,hg,hv⟩⟩
   ·intro t ht h hd mS;refine((np t).2 (λe=>?_)).symm;rw[D.uniq hd e,D.uV j (by simp)]at mS;cases mS
   ·intro t ht qj;exact D.rD t (λh hh hd=>by
     have:=(D.ahead hh (show j∈j::r by simp)).wi t hd ht;rw[qj h hd]at this;cases this)
 ·intro p hp;obtain⟨h1,h2⟩:=D.l_ p hp;rcases bY.1 h1 with e|h1
  ·rw[e,hu]at h2;cases h2
  ·exact⟨h1,h2⟩
theorem EC:∀(r:List Nat) {cn:List Nat} {fr:List V},DI C call q l pm R ms w0 k dJ dY cn r fr ids bl ch Z listed a w->∃uZ r' fr',DI C call q l pm R ms w0 k dJ dY uZ r' fr' ids bl ch Z listed a w/\(r'=[]\/∃i s,r'=i::s/\jA (bg l i)=false)
 |[],cn,fr,D=>⟨cn,[],fr,D,.inl rfl⟩
 |i::r,cn,fr,D=>by
  cases hf:jA (bg l i)with
  |false=>exact⟨cn,i::r,fr,D,.inr ⟨i,r,rfl,hf⟩⟩
  |true=>
   obtain⟨fr',D'⟩:=D.ad1 hf;exact EC r D'
theorem ad2 {i:Nat} {r:List Nat} (D:DI C call q l pm R ms w0 k dJ dY cn (i::r) fr ids bl ch Z listed a w) (ha:fT (bg l i)=true) (hi:listed[i]?=some true):∃fr' ids' bl' Z',DI C call q l pm R ms w0 k dJ dY (cn++[i]) r fr' ids' bl' ch Z' listed a w:=by
 have lI:(cn++[i])++r=cn++(i::r):=by simp
 have ho:=D.at_ (i:=i) (by simp);have xf:=(xd D.mR ho).1;obtain⟨w8,_⟩:=(xd D.mR ho).2.2 ha;obtain⟨b,t,z,d,hz,jz,V0,hd,hy⟩:=D.qi i (by simp) hi;obtain⟨Z1,Z2,rfl⟩:=List.append_of_mem hz;have cJ:=D.vc;simp only[ta,eQ,ir,w8,oB,jz,Et,Em,Eo,V0]at cJ;cases hq:ba bl.length fr&&(bI bl.length bl&&ba bl.length z)with
 |false=>rw[hq]at cJ;exact cJ.elim
 |true=>
  rw[hq]at cJ;simp only[a_,<-D.hl]at hq;have cJ:ir C call l.toArray (ta l r) (put fr (bg l i).dst (.ptr bl.length 0)) (bl++[⟨true,t,z⟩]) ch k:=cJ;have np:=λt=>N0 (fr:=fr) (x:=V.ptr bl.length 0) t xf;have uX:∀{j},j∈cn->j≠i:=λhj e=>D.apart hj (by rw[e];simp);refine⟨_,ids++[b],_,Z1++Z2,{D with kh:=by rw[lI];exact D.kh,uU:=?_,lG:=by rw[lI];exact D.lG,lH:=by rw[lI];exact D.lH,nd:=by rw[lI];exact D.nd,mR:=by rw[BU];exact D.mR,uV:=by rw[lI];exact D.uV,qh:=?_,kZ:=λj hj=>D.kZ j (by simp[hj]),vc:=cJ,sz:=by rw[BU];exact D.sz,slot:=?_,old:=?_,rD:=?_,br:=?_,qi:=?_,l_:=?_,BR:=?_,S:=?_,hl:=by simp[D.hl],gl:=D.gl.app _,zr:=uW (by simp) _ D.zr,BS:=by obtain⟨m,e⟩:=D.BS;exact⟨m++[b],by rw[e,bN]⟩}⟩
  ·have:=D.uU;simp only[w_,a_]at this;exact this.2
  ·intro j hj uY;rcases ez.1 hj with hj|hj
   ·exact D.qh j hj uY
   ·obtain rfl:j=i:=by simpa using hj
    exact hi
  ·intro u h1 h2;by_cases e:(bg l i).dst=some u
   ·rw[(np u).1 e];obtain rfl:d=u:=by rw[hd]at e;simpa using e
    rw[hy];simp only[den,<-D.hl,j7]
   ·rw[(np u).2 e,fy _ (EB u hq.1)];refine D.slot u (λj hj=>h1 j (by simp[hj])) ?_;intro j hj gk;rcases bY.1 hj with rfl|hj
    ·exact absurd gk e
    ·exact h2 j hj gk
  ·intro j hj dk u hu;rcases ez.1 hj with hj|hj
   ·rw[fy _ (EB u D.zr)];exact D.old j hj dk u hu
   ·obtain rfl:j=i:=by simpa using hj
    rw[hi]at dk;cases dk
  ·intro u h;rw[(np u).2 (h i (by simp))];exact D.rD u (λj hj=>h j (by simp[hj]))
  ·intro j hj dk;rcases ez.1 hj with hj|hj
   ·obtain⟨jg,v',b',rr⟩:=D.br j hj dk;refine⟨jg,v',b',rr.frame ?_ ?_ (λ_ _ _ _ h=>VW h)⟩
    ·intro u hu h hd mS;refine(np u).2 (λe=>?_);have:=(D.ahead hj (show i∈i::r by simp)).nb;rw[D.uniq hd e]at mS;rw[mS]at this;cases this
    ·intro u hd;exact(np u).2 (λe=>uX hj (D.uniq hd e))
   ·obtain rfl:j=i:=by simpa using hj
    rw[hi]at dk;cases dk
  ·intro j hj dk;obtain⟨b',t',z',d',h1,h2⟩:=D.qi j (by simp[hj]) dk;refine⟨b',t',z',d',?_,h2⟩;rcases ez.1 h1 with h1|h1
   ·simp[h1]
   ·rcases bY.1 h1 with e|h1
    ·exfalso;have:j=i:=by simpa using congrArg Prod.fst e
     have hn:=(List.nodup_append.1 D.nd).2.1;rw[pF]at hn;exact hn.1 (this▸hj)
    ·simp[h1]
  ·intro p hp;obtain⟨h1,h2⟩:=D.l_ p (by rcases ez.1 hp with h|h<;>simp[h]);rcases bY.1 h1 with e|h1
   ·exfalso;have hn:=D.BR;simp only[qT,eQ]at hn;have qZ:=(List.perm_middle.nodup_iff.1 hn);rw[pF]at qZ;refine qZ.1 ?_;rw[<-e];rcases ez.1 hp with h|h
    ·exact mH _ (ny.2 ⟨p,h,rfl⟩)
    ·exact qU _ (ny.2 ⟨p,h,rfl⟩)
   ·exact⟨h1,h2⟩
  ·have hn:=D.BR;simp only[qT,eQ]at hn⊢;have qZ:=(List.perm_middle.nodup_iff.1 hn);exact(pF.1 qZ).2
  ·refine D.S.perm ?_;rw[eZ _ _ _ _ D.hl,e_ _ _ hq.2.1];simp only[lits,ay,adY V0 (ids++[b])];rw[bN];refine pI _ ?_;simp only[qT,eQ,fb,fc,bN];exact(VY jH ch).trans (N6 _ _ ch).symm
end DI
end
end Vx
namespace Vx
open Go Go.RowKit Go.BigFrame Sx
variable{G:Type} [Bl G]
def ED (q:Nat->Bool) (call:j9 G):Prop:=∀f,q f=true->∀args bl ch K,call f args bl ch K->call f args bl ch λv bl' ch'=>K v bl' ch'/\∃e,bl'=bl++e
section
variable{C:Ctx G} {call:j9 G} {q:Nat->Bool} {l:List an} {pm:List Nat} {R:List ai} {ms:List Nat} {w0:ae} {k:jQ G} {dJ fr:List V} {dY:List Nat}
 {cn rest:List Nat} {ids:List Nat} {bl:List VB} {ch:List G} {Z:List (Nat×ai)} {listed:Array Bool} {a:Act} {w:ae} {Q:dN->Act->ae->Prop}
theorem ad3 (hq:ED q call) {o:an} (ho:uQ q o=true) {k:jQ G} (h:oB C call o fr bl ch k):oB C call o fr bl ch λfr' bl' ch'=>k fr' bl' ch'/\∃e,bl'=bl++e:=by
 unfold oB at h⊢;split at h
 ·rename_i t x e;split at h
  ·first|exact⟨h,[],by simp⟩|(split;exact⟨h,[],by simp⟩)
  ·split at h
   ·exact⟨h.1,h.2,[],by simp⟩
   ·exact h.elim
 ·rename_i t x y e;simp[uQ,e]at ho
 ·rename_i op h1 h2;split at h
  ·exact⟨h.1,h.2,[],by simp⟩
  split at h
  ·exact⟨h,[],by simp⟩
  ·split at h
   ·cases hb:ba bl.length fr&&(bI bl.length bl&&ba bl.length _)with
    |false=>rw[hb]at h;exact h.elim
    |true=>rw[hb]at h;exact⟨h,_,rfl⟩
   ·split at h
    ·rename_i f args hc;cases hb:ba bl.length fr with
     |false=>rw[hb]at h;exact h.elim
     |true=>
      rw[hb]at h;have hqf:q f=true:=by
       unfold uQ at ho;unfold callee at hc;split at ho
       ·rename_i e;simp[e]at hc
       ·rename_i e;simp[e]at hc
       ·rename_i e;simp[e]at hc
       ·rename_i g a1 a2 e;rw[e]at hc;simp only[ev]at hc;cases hk:okF C.P g with
        |false=>rw[hk]at hc;simp at hc
        |true=>
         rw[hk]at hc;simp only[cond_true,aS,bd]at hc;rw[<-hc.1];exact ho
       ·cases ho
      exact hq f hqf _ _ _ _ h
    ·cases hk:BL o.op with
     |false=>rw[hk]at h;exact h.elim
     |true=>
      exfalso;unfold uQ at ho;unfold BL at hk;split at hk<;>simp_all
namespace DI
theorem ad4 {i:Nat} {r:List Nat} (D:DI C call q l pm R ms w0 k dJ dY cn (i::r) fr ids bl ch Z listed a w) (hx:j_ (bg l i)=true) (hp:∀h,fD pm h i=true->listed[h]?=some true) {x:V} {more:List Nat} {bl':List VB} {ch':List G} {w':ae}
 (cJ:ir C call l.toArray (ta l r) (put fr (bg l i).dst x) bl' ch' k) (hl:(ids++more).length=bl'.length) (S:St ms w0 (lits (ids++more) (ids++more) bl'++av ch' (Z.map (·.2)++R)) w') (hw:more=[]\/ba ids.length fr=true) (hq:uQ q (bg l i)=true->∃e,bl'=bl++e):
 DI C call q l pm R ms w0 k dJ dY (cn++[i]) r (put fr (bg l i).dst x) (ids++more) bl' ch' Z (listed.setIfInBounds i true) (a.put (bg l i).dst (den (ids++more) x)) w':=by
 have lI:(cn++[i])++r=cn++(i::r):=by simp
 have hA:fT (bg l i)=false:=by rcases uT (bg l i)with h|h|h<;>simp_all
 have hu:listed[i]?=some false:=D.kZ i (by simp) hA;have ho:=D.at_ (i:=i) (by simp);have xf:=(xd D.mR ho).1;have gw:i<listed.size:=by rw[D.ls];exact D.lH i (by simp)
 have sg:=λj b=>N2 (listed:=listed) (j:=j) (b:=b) gw;have np:=λt=>N0 (fr:=fr) (x:=x) t xf;have yp:=N3 (a:=a) (v:=den (ids++more) x) (d:=(bg l i).dst) (λu hu=>by rw[D.sz];exact xf u hu);have uX:∀{j},j∈cn->j≠i:=λhj e=>D.apart hj (by rw[e];simp);have N7:∀{j},j∈r->j≠i:=λhj e=>by
  have hn:=(List.nodup_append.1 D.nd).2.1;rw[pF]at hn;exact hn.1 (e▸hj)
 have dn:∀u,den (ids++more) (nth fr u)=den ids (nth fr u):=λu=>by
  rcases hw with rfl|hw
  ·simp
  ·exact fy _ (EB u hw)
 refine{D with kh:=by rw[lI];exact D.kh,uU:=?_,lG:=by rw[lI];exact D.lG,lH:=by rw[lI];exact D.lH,nd:=by rw[lI];exact D.nd,mR:=by rw[BU];exact D.mR,uV:=by rw[lI];exact D.uV,ls:=by simpa using D.ls,qh:=?_,kZ:=?_,back:=?_,vc:=cJ,sz:=by rw[BU,size_put];exact D.sz,df:=by rw[yP];exact D.df,slot:=?_,old:=?_,rD:=?_,br:=?_,qi:=?_,l_:=?_,S:=S,hl:=hl,gl:=D.gl.app _,zr:=uW (by simp) _ D.zr,BS:=by obtain⟨m,e⟩:=D.BS;exact⟨m++more,by rw[e,bN]⟩}
 ·have:=D.uU;simp only[w_,a_]at this;exact this.2
 ·intro j hj uY;refine(sg _ _).2 ?_;rcases ez.1 hj with hj|hj
  ·exact .inr ⟨uX hj,D.qh j hj uY⟩
  ·exact .inl ⟨by simpa using hj,rfl⟩
 ·intro j hj uY;exact(sg _ _).2 (.inr ⟨N7 hj,D.kZ j (by simp[hj]) uY⟩)
 ·intro j hj h hb;refine(sg _ _).2 ?_;rcases(sg _ _).1 hj with⟨rfl,_⟩|⟨bZ,hj⟩
  ·by_cases e:h=j
   ·exact .inl ⟨e,rfl⟩
   ·exact .inr ⟨e,hp h hb⟩
  ·by_cases e:h=i
   ·exact .inl ⟨e,rfl⟩
   ·exact .inr ⟨e,D.back j hj h hb⟩
 ·intro t h1 h2;by_cases e:(bg l i).dst=some t
  ·rw[(yp t).1 e,(np t).1 e]
  ·rw[(yp t).2 e,(np t).2 e,dn];refine D.slot t ?_ ?_
   ·intro j hj hd;rcases(sg _ _).1 (h1 j (by simp[hj]) hd)with⟨h,_⟩|⟨_,h⟩
    ·exact absurd h (uX hj)
    ·exact h
   ·intro j hj hd;rcases bY.1 hj with rfl|hj
    ·exact absurd hd e
    ·rcases(sg _ _).1 (h2 j hj hd)with⟨_,h⟩|⟨_,h⟩
     ·cases h
     ·exact h
 ·intro j hj dk t ht;rcases(sg _ _).1 dk with⟨_,h⟩|⟨bZ,h⟩
  ·cases h
  ·rcases ez.1 hj with hj|hj
   ·rw[(yp t).2 (λe=>bZ (D.uniq ht e)),fy _ (EB t D.zr)];exact D.old j hj h t ht
   ·exact absurd (by simpa using hj) bZ
 ·intro t h;rw[(np t).2 (h i (by simp))];exact D.rD t (λj hj=>h j (by simp[hj]))
 ·intro j hj dk;rcases(sg _ _).1 dk with⟨_,h⟩|⟨bZ,h⟩
  ·cases h
  ·rcases ez.1 hj with hj|hj
   ·obtain⟨jg,v',b',rr⟩:=D.br j hj h;have P:=D.ahead hj (show i∈i::r by simp);refine⟨jg,v',b',rr.frame ?_ ?_ ?_⟩
    ·intro t ht h hd mS;refine(np t).2 (λe=>?_);have:=P.nb;rw[D.uniq hd e]at mS;rw[mS]at this;cases this
    ·intro d hd;exact(np d).2 (λe=>uX hj (D.uniq hd e))
    ·intro t y v jz NM;rcases P.ld hx (by simp[NP,jz])with hb|hb
     ·have:=hp j hb;rw[h]at this;cases this
     ·obtain⟨e,rfl⟩:=hq hb;exact VW NM
   ·exact absurd (by simpa using hj) bZ
 ·intro j hj dk;rcases(sg _ _).1 dk with⟨h,_⟩|⟨bZ,h⟩
  ·exact absurd h (N7 hj)
  ·obtain⟨b,t,z,d,h1,h2,h3,h4,h5⟩:=D.qi j (by simp[hj]) h;exact⟨b,t,z,d,h1,h2,h3,h4,by rw[(yp d).2 (λe=>bZ (D.uniq h4 e))];exact h5⟩
 ·intro p hp';obtain⟨h1,h2⟩:=D.l_ p hp';rcases bY.1 h1 with e|h1
  ·rw[e,hu]at h2;cases h2
  ·exact⟨h1,(sg _ _).2 (.inr ⟨N7 h1,h2⟩)⟩
theorem V1:∀(r:List Nat) {cn:List Nat} {fr:List V} {ids:List Nat} {bl:List VB} {Z:List (Nat×ai)} {i:Nat},DI C call q l pm R ms w0 k dJ dY cn r fr ids bl ch Z listed a w->mQ l r=some i->(∀h,fD pm h i=true->listed[h]?=some true)->
 ∃uZ r' fr' ids' bl' Z',DI C call q l pm R ms w0 k dJ dY uZ (i::r') fr' ids' bl' ch Z' listed a w
 |[],_,_,_,_,_,_,_,h,_=>by simp[mQ]at h
 |j::r,cn,fr,ids,bl,Z,i,D,h,hp=>by
  have oC:=D.uU;simp only[w_,a_]at oC;unfold mQ at h;cases hA:fT (bg l j)with
  |false=>
   rw[hA]at h;obtain rfl:j=i:=by simpa using h
   exact⟨cn,r,fr,ids,bl,Z,D⟩
  |true=>
   rw[hA]at h oC;simp only[cond_true]at h oC;rw[h]at oC;simp only[a_]at oC;obtain⟨fr',ids',bl',Z',D'⟩:=D.ad2 hA (hp j oC.1.2);exact V1 r D' h hp
theorem V2 (D:DI C call q l pm R ms w0 k dJ dY cn rest fr ids bl ch Z listed a w) (h:rest=[]\/∃i s,rest=i::s/\jA (bg l i)=false):rest=[]\/∃x,mQ l rest=some x/\x∈rest/\j_ (bg l x)=true:=by
 rcases h with h|⟨i,s,rfl,hf⟩
 ·exact .inl h
 ·refine .inr ?_;have nm:∀(r:List Nat) x,mQ l r=some x->x∈r:=by
   intro r;induction r with
   |nil=>intro x h;simp[mQ]at h
   |cons y r ih=>
    intro x h;unfold mQ at h;cases hA:fT (bg l y)with
    |true=>rw[hA]at h;exact wy _ (ih x h)
    |false=>rw[hA]at h;simp at h;simp[h]
  rcases uT (bg l i)with⟨h1,h2,h3⟩|⟨h1,h2,h3⟩|⟨h1,h2,h3⟩
  ·rw[hf]at h1;cases h1
  ·have oC:=D.uU;simp only[w_,a_,h2,cond_true]at oC;cases hn:mQ l s with
   |none=>rw[hn]at oC;simp at oC
   |some x=>
    rw[hn]at oC;simp only[a_]at oC;exact⟨x,by unfold mQ;rw[h2];exact hn,wy _ (nm s x hn),oC.1.1⟩
  ·exact⟨i,by unfold mQ;rw[h2];rfl,by simp,h3⟩
end DI
end
section
variable{C:Ctx G} {call:j9 G} {q:Nat->Bool} {l:List an} {pm:List Nat} {R:List ai} {ms:List Nat} {w0:ae} {k:jQ G} {dJ fr:List V} {dY:List Nat}
 {cn rest:List Nat} {ids:List Nat} {bl:List VB} {ch:List G} {Z:List (Nat×ai)} {listed:Array Bool} {a:Act} {w:ae} {Q:dN->Act->ae->Prop}
namespace DI
theorem first (h:kg (uS q l pm) rest=true) {x:Nat} (hn:mQ l rest=some x):∀i∈rest,fT (bg l i)=false->i=x\/NV q l pm x i:=by
 induction rest with
 |nil=>simp[mQ]at hn
 |cons y r ih=>
  intro i hi ha;simp only[kg,a_,fK]at h;unfold mQ at hn;cases hA:fT (bg l y)with
  |true=>
   rw[hA]at hn;rcases bY.1 hi with rfl|hi
   ·rw[hA]at ha;cases ha
   ·exact ih h.2 hn i hi ha
  |false=>
   rw[hA]at hn;obtain rfl:y=x:=by simpa using hn
   rcases bY.1 hi with e|hi
   ·exact .inl e
   ·exact .inr (rC (h.1 i hi))
theorem N9 (h:xb l l.length=true) {i:Nat} {o:an} (ho:l[i]?=some o) {e:Edge} (he:e∈o.after) (hb:pE .any e=true):e.on<l.length:=by
 have h1:=fK.1 h o (nx ho);have h2:=HR.1 h1 e he;rw[hb]at h2;simpa[gV]using h2
theorem stuck (D:DI C call q l pm R ms w0 k dJ dY cn rest fr ids bl ch Z listed a w) (BV:s_ l pm=true) (fN:xb l l.length=true) (hr:pG .any l.toArray listed=[]):
 ∀(b c:List Nat),cn++rest=c++b->(∀i∈c,listed[i]?=some true)->∀i∈b,listed[i]?=some true:=by
 intro b;induction b with
 |nil=>intro c _ _ i hi;cases hi
 |cons x b ih=>
  intro c hc hl;have hx:x∈cn++rest:=by rw[hc];simp
  have h1:listed[x]?=some true:=by
   rcases D.bit hx with h|h
   ·exact h
   ·exfalso;have ho:=D.at_ hx;have hm:x∈pG .any l.toArray listed:=(kS _ listed x).2 ⟨bg l x,ho,by simp[iY,h],λe he hb=>by
     have dh:=N9 fN ho he hb;have mS:fD pm e.on x=true:=by
      unfold fD;rw[VQ BV ho];exact(IP pm _ _).2 ⟨e,by simpa using he,hb,.inl rfl⟩
     have V3:=D.lG e.on dh;rw[hc]at V3;have hle:listed[e.on]?=some true:=by
      rcases ez.1 V3 with hm|hm
      ·exact hl _ hm
      ·exfalso;rcases bY.1 hm with h2|h2
       ·have:=D.uV x hx;rw[h2,this]at mS;cases mS
       ·have hp:=D.kh;rw[hc]at hp;have:=(zq hp).2.2;simp only[kg,a_,fK]at this;have:=(rC (this.1 _ h2)).nb;rw[mS]at this;cases this
     simp[iY,hle]⟩
    rw[hr]at hm;cases hm
  intro i hi;rcases bY.1 hi with rfl|hi
  ·exact h1
  ·refine ih (c++[x]) (by rw[hc];simp) (λj hj=>?_) i hi;rcases ez.1 hj with hj|hj
   ·exact hl j hj
   ·obtain rfl:j=x:=by simpa using hj
    exact h1
theorem fin (D:DI C call q l pm R ms w0 k dJ dY cn rest fr ids bl ch Z listed a w) (hh:rest=[]\/∃i s,rest=i::s/\jA (bg l i)=false) (dA:∀i,i<l.length->listed[i]?=some true):
 k fr bl ch/\a=act ids fr/\St ms w0 (lits ids ids bl++av ch R) w:=by
 rcases D.V2 hh with rfl|⟨x,hx,hm,hX⟩
 ·have hZ:Z=[]:=by
   cases Z with
   |nil=>rfl
   |cons p Z=>have:=(D.l_ p (by simp)).1;cases this
  refine⟨D.vc,?_,by have:=D.S;rw[hZ]at this;simpa using this⟩;refine MK (by rw[D.sz];simp[act,wR]) (by rw[D.df];rfl) ?_;intro t;rw[NX];exact D.slot t (λi hi _=>dA i (D.lH i (by simp[hi]))) (λi hi=>nomatch hi)
 ·have h1:fT (bg l x)=false:=by rcases uT (bg l x)with h|h|h<;>simp_all
  have:=D.kZ x hm h1;rw[dA x (D.lH x (by simp[hm]))]at this;cases this
end DI
theorem D4 (hc:BN C.P C.gl call) (zu:ED q call) (BV:s_ l pm=true) (fN:xb l l.length=true)
 (hk:∀fr' m bl' ch' w',(dY++m).length=bl'.length->St ms w0 (lits (dY++m) (dY++m) bl'++av ch' R) w'->k fr' bl' ch'->Q .normal (act (dY++m) fr') w'):
 ∀(fuel:Nat) {cn rest:List Nat} {fr:List V} {ids:List Nat} {bl:List VB} {ch:List G} {Z:List (Nat×ai)} {listed:Array Bool} {a:Act} {w:ae},
  DI C call q l pm R ms w0 k dJ dY cn rest fr ids bl ch Z listed a w->(rest=[]\/∃i s,rest=i::s/\jA (bg l i)=false)->listed.toList.count false=fuel->wpAny C.P .any l.toArray Q fuel listed a w:=by
 have fin:∀{cn rest:List Nat} {fr:List V} {ids:List Nat} {bl:List VB} {ch:List G} {Z:List (Nat×ai)} {listed:Array Bool} {a:Act} {w:ae},
  DI C call q l pm R ms w0 k dJ dY cn rest fr ids bl ch Z listed a w->(rest=[]\/∃i s,rest=i::s/\jA (bg l i)=false)->(∀i,i<l.length->listed[i]?=some true)->Q .normal a w:=by
  intro cn rest fr ids bl ch Z listed a w D hh dA;obtain⟨h1,rfl,h3⟩:=D.fin hh dA;obtain⟨m,rfl⟩:=D.BS;exact hk _ _ _ _ _ D.hl h3 h1
 intro fuel;induction fuel with
 |zero=>
  intro cn rest fr ids bl ch Z listed a w D hh EE;have dA:∀i,i<l.length->listed[i]?=some true:=by
   intro i hi;rcases kR D.ls hi with h|h
   ·exact h
   ·exfalso;have:=count_set listed.toList i (by simpa using h);omega
  refine⟨?_,fin D hh dA⟩;refine List.eq_nil_iff_forall_not_mem.2 λi hi=>?_;obtain⟨o,ho,h2,_⟩:=(kS l listed i).1 hi;have gw:i<l.length:=by rcases cE i l.length with h|h;exact h;simp[h]at ho
  simp[iY,dA i gw]at h2
 |succ fuel ih=>
  intro cn rest fr ids bl ch Z listed a w D hh EE;refine⟨λhr=>?_,?_⟩
  ·exfalso;have dA:∀i,i<l.length->listed[i]?=some true:=λi hi=>D.stuck BV fN hr (cn++rest) [] rfl (λ_ h=>nomatch h) i (D.lG i hi);have:=Ia listed.toList l.length 0 (by simpa using D.ls) (λj hj=>by simpa using dA j hj);omega
  ·intro i hi;obtain⟨o,ho,h2,h3⟩:=(kS l listed i).1 hi;have gw:i<l.length:=by rcases cE i l.length with h|h;exact h;simp[h]at ho
   have lz:=IQ ho;have hu:listed[i]?=some false:=by
    rcases kR D.ls gw with hb|hb
    ·simp[iY,hb]at h2
    ·exact hb
   have hp:∀h,fD pm h i=true->listed[h]?=some true:=by
    intro h hb;obtain⟨e,he,hbd,nD⟩:=VR BV ho hb;have dh:=DI.N9 fN ho he hbd;have hl:listed[e.on]?=some true:=by
     have:=h3 e he hbd;rcases kR D.ls (show e.on<l.length by omega)with hb|hb
     ·exact hb
     ·simp[iY,hb]at this
    rcases nD with rfl|nD
    ·exact hl
    ·exact D.back _ hl h nD
   have zv:(listed.setIfInBounds i true).toList.count false=fuel:=by
    have:=count_set listed.toList i (by simpa using hu);simp only[HU];omega
   have u5:=xd D.mR ho;have hAt:l.toArray[i]?=some o:=by simpa using ho
   unfold wpOp;rw[hAt];simp only;have hm:=D.lG i gw;rcases ez.1 hm with hm|hm
   ·obtain⟨jg,v,b,r⟩:=D.br i hm hu;have kU:=D.N1 hm hu hp r;unfold looks at kU;have D':=D.N5 hm hu hp r;have rg:=r.g;have re:=r.e;rw[lz]at kU D' rg re;rw[IT kU rg];cases b with
    |true=>
     rw[if_pos rfl]at re;rw[if_pos rfl];refine .inl ?_;unfold nv;rw[Ez u5.2.1 kU,NY D.gl D.hl D.S re];simp only[yJ];exact ih D' hh zv
    |false=>
     rw[if_neg (by simp)]at re;rw[if_neg (by simp)];subst re;rw[show(undef:ab)=den ids fA by simp[fA,den]];exact ih D' hh zv
   ·rcases D.V2 hh with rfl|⟨x,hx,hxm,hX⟩
    ·cases hm
    have hxA:fT (bg l x)=false:=by rcases uT (bg l x)with h|h|h<;>simp_all
    have hxu:=D.kZ x hxm hxA;have ad5:=DI.first (zq D.kh).2.2 hx;cases hA:fT (bg l i)with
    |true=>
     obtain⟨w8,d,t,z,hd,jz,hz⟩:=u5.2.2 (by rw[<-lz];exact hA);have D':=D.adZ hm hu hp (by rw[lz];exact jz) hz (by rw[lz];exact hd);rw[lz]at D';rw[if_pos (by simp[gf,w8])];refine .inl ?_;have bE:(execOp a.eval o).run C.P w=.ok (.value (.pointer (some ⟨w.heap.size,0,none⟩))) (w.alloc (.cells (ah [] z).toArray t)):=by
      obtain⟨v0,z1,z2⟩:=zj (P:=C.P) (w:=w) (ids:=[]) hz;have zk:v0.cells=(ah [] z).toArray:=by apply eO;simpa using z2
      unfold execOp;simp only[jz,Instr.alloc,bj,z1,cd,newVar,newRow,zk];rfl
     unfold nv;rw[bE];simp only[yJ];exact ih D' hh zv
    |false=>
     have gZ:i=x:=by
      rcases ad5 i hm hA with h|h
      ·exact h
      ·have:=hp x (h.xj hX hA);rw[hxu]at this;cases this
     subst gZ;obtain⟨uZ,r',fr',ids',bl',Z',D1⟩:=D.V1 rest hx hp;have kU:=D1.adX rfl hu hp;unfold looks at kU;obtain⟨b,hg,hb⟩:=VZ D1.vc;rw[lz]at kU hg hb;rw[IT kU hg];have N_:∀{x:V} {more:List Nat} {bl2:List VB} {ch2:List G} {w':ae},ir C call l.toArray (ta l r') (put fr' o.dst x) bl2 ch2 k->(ids'++more).length=bl2.length->St ms w0 (lits (ids'++more) (ids'++more) bl2++av ch2 (Z'.map (·.2)++R)) w'->
      (more=[]\/ba ids'.length fr'=true)->(uQ q o=true->∃e,bl2=bl'++e)->wpAny C.P .any l.toArray Q fuel (listed.setIfInBounds i true) (a.put o.dst (den (ids'++more) x)) w':=by
      intro x more bl2 ch2 w' g1 g2 g3 g4 g5;have D2:=D1.ad4 hX hp (x:=x) (more:=more) (by rw[lz];exact g1) g2 g3 g4 (by rw[lz];exact g5);rw[lz]at D2;obtain⟨as8,r3,fr3,D3,hh3⟩:=D2.EC r';exact ih D3 hh3 zv
     cases b with
     |true=>
      rw[if_pos rfl]at hb;rw[if_pos rfl];refine .inl ?_;cases V4:uQ q o with
      |true=>
       refine NN hc D1.gl D1.hl D1.S (ad3 zu V4 hb) (Ez u5.2.1 kU) ?_;intro x more bl2 ch2 w' g1 g2 g3 g4;exact N_ g3.1 g1 g2 g4 (λ_=>g3.2)
      |false=>
       refine NN hc D1.gl D1.hl D1.S hb (Ez u5.2.1 kU) ?_;intro x more bl2 ch2 w' g1 g2 g3 g4;exact N_ g3 g1 g2 g4 (λe=>by rw[V4]at e;cases e)
     |false=>
      rw[if_neg (by simp)]at hb;rw[if_neg (by simp)];have:=N_ (x:=fA) (more:=[]) (bl2:=bl') (ch2:=ch) (w':=w) hb (by simpa using D1.hl) (by simpa using D1.S) (.inl rfl) (λ_=>⟨[],by simp⟩);simpa[fA,den]using this
theorem BW {i j:Nat} (m:Nat):(eG l i j)[m]?=(l[m]?).map λo=>if m=j then IN i o else o:=by
 unfold eG;split
 ·rename_i o ho;have hj:j<l.length:=by rcases cE j l.length with h|h;exact h;simp[h]at ho
  by_cases e:m=j
  ·subst e;simp[hj,ho];have:l[m]?=some o:=ho;rw[iK hj]at this;rw[ck this]
  ·rw[HL (λh=>e h.symm)];cases l[m]?<;>simp[e]
 ·rename_i ho;by_cases e:m=j
  ·subst e;rw[ho];rfl
  ·cases l[m]?<;>simp[e]
theorem IV {i j:Nat}:(eG l i j).length=l.length:=by unfold eG;split<;>simp
theorem V5 {i j m:Nat} (h:m≠j):bg (eG l i j) m=bg l m:=by
 unfold bg;rw[BW];cases l[m]?<;>simp[h]
theorem V6 {i j m:Nat} (h:m∈pG .any (eG l i j).toArray listed):m∈pG .any l.toArray listed:=by
 obtain⟨o,ho,h2,h3⟩:=(kS _ _ _).1 h;rw[BW]at ho;obtain⟨o',jJ,e⟩:=gH.1 ho;refine(kS _ _ _).2 ⟨o',jJ,h2,λe' he hb=>h3 e' ?_ hb⟩;subst e;split
 ·simp[IN,he]
 ·exact he
theorem BX {i j m:Nat} (hm:m≠j\/listed[i]?=some true) (h:m∈pG .any l.toArray listed):m∈pG .any (eG l i j).toArray listed:=by
 obtain⟨o,ho,h2,h3⟩:=(kS _ _ _).1 h;refine(kS _ _ _).2 ⟨_,by rw[BW,ho];rfl,h2,λe he hb=>?_⟩;split at he
 ·rename_i e1;simp only[IN,Array.mem_push]at he;rcases he with he|rfl
  ·exact h3 e he hb
  ·rcases hm with hm|hm
   ·exact absurd e1 hm
   ·simp[iY,hm]
 ·exact h3 e he hb
theorem V7 {i j:Nat} (ts:Array ab):yielded (eG l i j).toArray ts=yielded l.toArray ts:=by
 funext n;have:((eG l i j).toArray[n]?).bind (·.dst)=(l.toArray[n]?).bind (·.dst):=by
  simp only[iX,BW];cases l[n]?with
  |none=>rfl
  |some o=>simp only[lx,Option.bind_some];split<;>rfl
 unfold yielded;rw[this]
theorem Oa {P:aC} {i j m:Nat} {K:Act->ae->Prop} (h:wpOp P (eG l i j).toArray Q m K a w):wpOp P l.toArray Q m K a w:=by
 unfold wpOp at h⊢;simp only[iX,BW,V7]at h⊢;cases ho:l[m]?with
 |none=>rw[ho]at h;exact h
 |some o=>
  rw[ho]at h;simp only[lx]at h⊢;by_cases e:m=j
  ·rw[if_pos e]at h;cases o;exact h
  ·rw[if_neg e]at h;exact h
theorem V8 {P:aC} {i j:Nat}:∀(fuel:Nat) {listed:Array Bool} {a:Act} {w:ae},listed[i]?=some true->wpAny P .any (eG l i j).toArray Q fuel listed a w->wpAny P .any l.toArray Q fuel listed a w:=by
 intro fuel;induction fuel with
 |zero=>intro listed a w hi h;exact⟨List.eq_nil_iff_forall_not_mem.2 λm hm=>(by have:=BX (j:=j) (.inr hi) hm;rw[h.1]at this;cases this),h.2⟩
 |succ fuel ih=>
  intro listed a w hi h;refine⟨λhr=>h.1 (List.eq_nil_iff_forall_not_mem.2 λm hm=>by have:=V6 hm;rw[hr]at this;cases this),λm hm=>?_⟩;refine wpOp_mono (λa w h=>ih ?_ h) (Oa (h.2 m (BX (.inr hi) hm)));have hs:i<listed.size:=by rcases cE i listed.size with h|h;exact h;simp[h]at hi
  rw[pD];split
  ·simp[*]
  ·exact hi
theorem u6 {l:List an} (h:(l.all λo=>!(fT o))=true) (m:Nat):fT (bg l m)=false:=by
 unfold bg;split
 ·rename_i o ho;have:=fK.1 h o (nx ho);simpa using this
 ·rfl
theorem ad6 {i j:Nat} {td te:List Nat} (hc:BN C.P C.gl call) (zu:ED q call) (wD:i≠j) (V9:s_ (eG l i j) td=true) (V_:xb (eG l i j) (eG l i j).length=true) (Wa:s_ (eG l j i) te=true) (Wb:xb (eG l j i) (eG l j i).length=true)
 (IW:((eG l i j).all λo=>!(fT o))=true) (Ob:((eG l j i).all λo=>!(fT o))=true)
 (hk:∀fr' m bl' ch' w',(dY++m).length=bl'.length->St ms w0 (lits (dY++m) (dY++m) bl'++av ch' R) w'->k fr' bl' ch'->Q .normal (act (dY++m) fr') w'):
 ∀(fuel:Nat) {Oc s1 Od s2:List Nat} {Oe s9:List V} {listed:Array Bool} {a:Act} {w:ae},
  DI C call q (eG l i j) td R ms w0 k dJ dY Oc (i::s1) Oe ids bl ch Z listed a w->jA (bg (eG l i j) i)=false->DI C call q (eG l j i) te R ms w0 k dJ dY Od (j::s2) s9 ids bl ch Z listed a w->jA (bg (eG l j i) j)=false->
  listed.toList.count false=fuel->wpAny C.P .any l.toArray Q fuel listed a w:=by
 intro fuel;induction fuel with
 |zero=>
  intro Oc s1 Od s2 Oe s9 listed a w D1 u7 D2 u9 EE;exfalso;have hu:=D1.kZ i (by simp) (u6 IW i);have:=count_set listed.toList i (by simpa using hu);omega
 |succ fuel ih=>
  intro Oc s1 Od s2 Oe s9 listed a w D1 u7 D2 u9 EE;have W1:=D4 hc zu V9 V_ hk (fuel+1) D1 (.inr ⟨i,s1,rfl,u7⟩) EE;have W2:=D4 hc zu Wa Wb hk (fuel+1) D2 (.inr ⟨j,s2,rfl,u9⟩) EE;have hX1:j_ (bg (eG l i j) i)=true:=by have:=u6 IW i;rcases uT (bg (eG l i j) i)with h|h|h<;>simp_all
  have hX2:j_ (bg (eG l j i) j)=true:=by have:=u6 Ob j;rcases uT (bg (eG l j i) j)with h|h|h<;>simp_all
  have Wc:=D1.kZ i (by simp) (u6 IW i);have Wd:=D2.kZ j (by simp) (u6 Ob j);have s7:∀{m:Nat},listed[m]?=some false->(listed.setIfInBounds m true)[m]?=some true:=λ{m} h=>by
   have hs:m<listed.size:=by rcases cE m listed.size with h'|h';exact h';simp[h']at h
   simp[hs]
  refine⟨λhr=>W1.1 (List.eq_nil_iff_forall_not_mem.2 λm hm=>by have:=V6 hm;rw[hr]at this;cases this),λm hm=>?_⟩;by_cases e1:m=i
  ·subst e1;exact wpOp_mono (λa w h=>V8 fuel (s7 Wc) h) (Oa (W1.2 m (BX (.inl wD) hm)))
  by_cases e2:m=j
  ·subst e2;exact wpOp_mono (λa w h=>V8 fuel (s7 Wd) h) (Oa (W2.2 m (BX (.inl (λh=>wD h.symm)) hm)))
  obtain⟨o,ho,h2,_⟩:=(kS l listed m).1 hm;have pU:m<l.length:=by rcases cE m l.length with h|h;exact h;simp[h]at ho
  have hu:listed[m]?=some false:=by
   rcases D1.bit (D1.lG m (by rw[IV];exact pU))with hb|hb
   ·simp[iY,hb]at h2
   ·exact hb
  have We:∀{l':List an} {xi:List Nat},s_ l' xi=true->xb l' l'.length=true->m∈pG .any l'.toArray listed->(∀jj,listed[jj]?=some true->∀h,fD xi h jj=true->listed[h]?=some true)->listed.size=l'.length->∀h,fD xi h m=true->listed[h]?=some true:=by
   intro l' xi BV D_ rA back hls h hb;obtain⟨o',jJ,_,h3⟩:=(kS l' listed m).1 rA;obtain⟨e,he,hbd,nD⟩:=VR BV jJ hb;have dh:=DI.N9 D_ jJ he hbd;have hl:listed[e.on]?=some true:=by
    have:=h3 e he hbd;rcases kR hls dh with hb|hb
    ·exact hb
    ·simp[iY,hb]at this
   rcases nD with rfl|nD
   ·exact hl
   ·exact back _ hl h nD
  have EF:=We V9 V_ (BX (.inl e2) hm) D1.back D1.ls;have zt:=We Wa Wb (BX (.inl e1) hm) D2.back D2.ls;have Wf:∀{l':List an} {xi s uZ:List Nat} {x:Nat},kg (uS q l' xi) (uZ++(x::s))=true->j_ (bg l' x)=true->fT (bg l' m)=false->listed[x]?=some false->(∀h,fD xi h m=true->listed[h]?=some true)->m∈uZ++(x::s)->m≠x->m∈uZ:=by
   intro l' xi s uZ x hp hx ha hux BY xk bZ;rcases ez.1 xk with h|h
   ·exact h
   ·exfalso;rcases bY.1 h with h|h
    ·exact bZ h
    ·have oD:=(zq hp).2.2;simp only[kg,a_,fK]at oD;have:=BY x ((rC (oD.1 m h)).xj hx ha);rw[hux]at this;cases this
  have m1:=Wf D1.kh hX1 (u6 IW m) Wc EF (D1.lG m (by rw[IV];exact pU)) e1;have m2:=Wf D2.kh hX2 (u6 Ob m) Wd zt (D2.lG m (by rw[IV];exact pU)) e2;obtain⟨f1,v1,b1,r1⟩:=D1.br m m1 hu;obtain⟨f2,v2,b2,r2⟩:=D2.br m m2 hu;have o1:bg (eG l i j) m=o:=by rw[V5 e2];exact IQ ho
  have o2:bg (eG l j i) m=o:=by rw[V5 e1];exact IQ ho
  have k1:=D1.N1 m1 hu EF r1;have k2:=D2.N1 m2 hu zt r2;have BZ:=D1.N5 m1 hu EF r1;have zx:=D2.N5 m2 hu zt r2;have g1:=r1.g;have g2:=r2.g;have q1:=r1.e;have q2:=r2.e;unfold looks at k1 k2;rw[o1]at k1 BZ g1 q1;rw[o2]at k2 zx g2 q2;have w1:=IT k1 g1;have w2:=IT k2 g2;rw[V7]at w1 w2;obtain rfl:b1=b2:=by rw[<-w1,<-w2]
  have u5:=xd D1.mR (show(eG l i j)[m]?=some o by rw[BW,ho];simp[e2]);have zv:(listed.setIfInBounds m true).toList.count false=fuel:=by
   have:=count_set listed.toList m (by simpa using hu);simp only[HU];omega
  unfold wpOp;rw[show l.toArray[m]?=some o by simpa using ho];simp only;rw[w1];cases b1 with
  |true=>
   rw[if_pos rfl]at q1 q2;rw[if_pos rfl];refine .inl ?_;have B3:(execOp a.eval o).run C.P w=.ok (.value (den ids v1)) w:=by rw[Ez u5.2.1 k1,NY D1.gl D1.hl D1.S q1]
   have Wg:(execOp a.eval o).run C.P w=.ok (.value (den ids v2)) w:=by rw[Ez u5.2.1 k2,NY D2.gl D2.hl D2.S q2]
   have hv:den ids v2=den ids v1:=by rw[B3]at Wg;simpa using Wg.symm
   rw[hv]at zx;unfold nv;rw[B3];simp only[yJ];exact ih BZ u7 zx u9 zv
  |false=>
   rw[if_neg (by simp)]at q1 q2;rw[if_neg (by simp)];subst q1 q2;rw[show(undef:ab)=den ids fA by simp[fA,den]];exact ih BZ u7 zx u9 zv
end
abbrev tf (G:Type):=dN->List V->List VB->List G->Prop
abbrev B4 (G:Type):=Code->List V->List VB->List G->tf G->Prop
def u_ (P:aC) (fr:List V) (bl:List VB):List HO->Option (List V)
 |[]=>some []
 |.tmp t::l=>(match u_ P fr bl l with|some r=>some (nth fr t::r)|none=>none)
 |.cell a t::l=>(match sZ P bl t (nth fr a),u_ P fr bl l with|some v,some r=>some (v::r)|_,_=>none)
def EG:List V->V
 |[v]=>v
 |l=>.ao l
def EH (P:aC) (fn:Func) (K:VK G):tf G:=λe fr bl ch=>match e with
 |.normal=>(match u_ P fr bl fn.results.toList with|some vs=>K (EG vs) bl ch|none=>False)
 |.ret=>(match u_ P fr bl fn.results.toList with|some vs=>K (EG vs) bl ch|none=>False)
 |_=>False
def zz:Nat->List V
 |0=>[]
 |n+1=>fA::zz n
def B5 (C:Ctx G) (rec:B4 G):j9 G:=λf args bl ch K=>match C.T f with
 |some c=>c args bl ch K
 |none=>match C.P.funcs[f]?with
  |some fn=>(match fn.body with
   |some c=>rec c (args++zz (fn.ntmps-args.length)) bl ch (EH C.P fn K)
   |none=>False)
  |none=>False
def Wh (C:Ctx G) (call:j9 G) (l1 l2:List an) (td EI te EJ:List Nat) (i j:Nat) (fr:List V) (bl:List VB) (ch:List G) (k:jQ G):Prop:=
 cond (Ex C l1 td EI i fr.length&&(Ex C l2 te EJ j fr.length&&(!(ax i j)&&ba bl.length fr))) (ir C call l1.toArray (ta l1 EI) fr bl ch k/\ir C call l2.toArray (ta l2 EJ) fr bl ch k) False
def Wi (C:Ctx G) (call:j9 G) (l1 l2:List an) (td te:List Nat) (i j:Nat) (fr:List V) (bl:List VB) (ch:List G) (k:jQ G):Prop:=Wh C call l1 l2 td (BQ l1 td) te (BQ l2 te) i j fr bl ch k
def Wj (C:Ctx G) (call:j9 G) (l:List an) (pm ts:List Nat) (fr:List V) (bl:List VB) (ch:List G) (k:jQ G):Prop:=match zo l ts with
 |some (i,r)=>(match zo l r with
  |some (j,_)=>Wi C call (eG l i j) (eG l j i) (Ew (eG l i j) [] pm) (Ew (eG l j i) [] pm) i j fr bl ch k
  |none=>False)
 |none=>False
def Wk (C:Ctx G) (call:j9 G) (l:List an) (pm ts:List Nat) (fr:List V) (bl:List VB) (ch:List G) (k:jQ G):Prop:=
 cond (Ev C C.q l pm ts fr.length&&ba bl.length fr) (ir C call l.toArray (ta l ts) fr bl ch k) (Wj C call l pm ts fr bl ch k)
def Of (C:Ctx G) (call:j9 G) (l:List an) (pm:List Nat) (fr:List V) (bl:List VB) (ch:List G) (k:jQ G):Prop:=Wk C call l pm (BQ l pm) fr bl ch k
def Wl (k:jQ G) (K:tf G):tf G:=λe fr bl ch=>match e with
 |.normal=>k fr bl ch
 |e=>K e fr bl ch
def EK (id:Nat) (K:tf G):tf G:=λe fr bl ch=>match e with
 |.exit j=>cond (ax j id) (K .normal fr bl ch) (K (.exit j) fr bl ch)
 |e=>K e fr bl ch
def Wm:Code->Option Code
 |.loop c=>some c
 |_=>none
def Wo (I:Lp G) (x:I.X) (K:tf G):tf G:=λe fr bl ch=>match e with
 |.normal=>I.en x fr bl ch
 |e=>K e fr bl ch
def IX (C:Ctx G) (rec:B4 G):B4 G:=λc fr bl ch K=>match c with
 |.skip=>K .normal fr bl ch
 |.seq a b=>rec a fr bl ch (Wl (λfr bl ch=>rec b fr bl ch K) K)
 |.cond x t f=>(match x with
  |.tmp i=>(match nth fr i with
   |.bool b=>cond b (rec t (lE fr i (.bool true)) bl ch K) (rec f (lE fr i (.bool false)) bl ch K)
   |_=>False)
  |.const (.bool b)=>cond b (rec t fr bl ch K) (rec f fr bl ch K)
  |_=>False)
 |.block id b=>(match C.lp id fr with
  |some I=>(match Wm b with
   |some c=>I.NJ fr bl ch/\∀(x:I.X) (g:Nat->ab),rec c (fill (I.fr x) g 0) (I.bl x) (I.ch x) (Wo I x (EK id K))
   |none=>rec b fr bl ch (EK id K))
  |none=>rec b fr bl ch (EK id K))
 |.loop b=>rec b fr bl ch (Wl (λfr bl ch=>rec (.loop b) fr bl ch K) K)
 |.exit id=>K (.exit id) fr bl ch
 |.ret=>K .ret fr bl ch
 |.region _ ops false=>ir C (B5 C rec) ops ops.toList fr bl ch λfr bl ch=>K .normal fr bl ch
 |.region _ ops true=>Of C (B5 C rec) ops.toList (IK ops.toList []) fr bl ch λfr bl ch=>K .normal fr bl ch
 |_=>False
def B6 (C:Ctx G) (n:Nat):B4 G:=Nat.rec (motive:=λ_=>B4 G) (λ_ _ _ _ _=>False) (λ_ ih=>IX C ih) n
def bu (C:Ctx G) (n:Nat) (f:eN) (args:List V) (bl:List VB) (ch:List G) (K:VK G):Prop:=match C.P.funcs[f]?with
 |some fn=>(match fn.body with
  |some c=>B6 C n c (args++zz (fn.ntmps-args.length)) bl ch (EH C.P fn K)
  |none=>False)
 |none=>False
section
variable{C:Ctx G} {call:j9 G}
theorem ad7 {n:Nat} {ts:List Nat} (h1:ts.length=n) (h2:∀i∈ts,i<n) (h3:ts.Nodup):∀i,i<n->i∈ts:=by
 intro i hi;obtain⟨r,hr⟩:=Ea ts (bh n) h3 (λx hx=>List.mem_range.2 (h2 x hx));have hlen:=hr.length_eq;simp[h1]at hlen;subst hlen;have hs:(bh n).Perm ts:=by simpa using hr
 exact hs.mem_iff.1 (List.mem_range.2 hi)
theorem DI.start {l:List an} {pm ts:List Nat} {R:List ai} {ms:List Nat} {w0 w:ae} {k:jQ G} {ids:List Nat} {bl:List VB} {ch:List G} {fr:List V}
 (hg:Gl C.gl ids) (hl:ids.length=bl.length) (S:St ms w0 (lits ids ids bl++av ch R) w) (hd:Ev C C.q l pm ts fr.length=true) (IY:ba bl.length fr=true) (h:ir C call l.toArray (ta l ts) fr bl ch k):
 (DI C call C.q l pm R ms w0 k fr ids [] ts fr ids bl ch [] (A5 l.length false) (act ids fr) {w with drawn:=w.drawn+1}/\s_ l pm=true/\xb l l.length=true)/\C.P.follows .mixedOrders=true:=by
 unfold Ev VP at hd;simp only[a_]at hd;obtain⟨⟨⟨⟨⟨⟨⟨⟨⟨d1,d2⟩,d3⟩,d4⟩,d5⟩,d6⟩,d7⟩,d8⟩,d10⟩,d9⟩:=hd;have hlen:=b9 d4;have Og:∀i∈ts,i<l.length:=λi hi=>by have:=fK.1 d5 i hi;rwa [gV]at this
 have tj:=NU d6;have hff:∀j,j<l.length->(A5 l.length false)[j]?=some false:=λj hj=>by simp[yD];exact hj
 have Wp:∀(j:Nat),(A5 l.length false)[j]?=some true->False:=λj hj=>by
  rw[yD]at hj;split at hj<;>simp at hj
 have S':St ms w0 (lits ids ids bl++av ch R) {w with drawn:=w.drawn+1}:=S.quiet (Ch.refl [] w).drew;exact⟨⟨{kh:=d7,uU:=d8,lG:=λi hi=>ad7 hlen Og tj i hi,lH:=Og,nd:=tj,mR:=d9,uV:=λi hi=>(by have:=fK.1 d10 i hi;simpa using this),ls:=(by simp),qh:=λi hi=>(nomatch hi),kZ:=λi hi _=>hff i (Og i hi),back:=λj hj=>(Wp j hj).elim,vc:=h,sz:=(by simp[act,wR]),df:=rfl,slot:=λt _ _=>NX t,old:=λi hi=>(nomatch hi),rD:=λt _=>rfl,br:=λi hi=>(nomatch hi),qi:=λi hi hj=>(Wp i hj).elim,l_:=λp hp=>(nomatch hp),BR:=List.nodup_nil,S:=(by simpa using S'),hl:=hl,gl:=hg,zr:=(by rw[hl];exact IY),BS:=⟨[],by simp⟩},d1,d2⟩,d3⟩
theorem IZ {l:List an} {pm:List Nat} {q:Nat->Bool} {i:Nat} {r:List Nat}:∀{ts:List Nat},kg (uS q l pm) ts=true->zo l ts=some (i,r)->i∈ts/\j_ (bg l i)=true/\∀x∈ts,j_ (bg l x)=true->x=i\/uS q l pm i x=true
 |[],_,h=>by cases h
 |y::ts,hp,h=>by
  simp only[kg,a_,fK]at hp;unfold zo at h;cases hX:j_ (bg l y)with
  |true=>
   rw[hX]at h;obtain⟨rfl,rfl⟩:y=i/\ts=r:=by simpa using h
   exact⟨by simp,hX,λx hx _=>by rcases bY.1 hx with e|hx;exact .inl e;exact .inr (hp.1 x hx)⟩
  |false=>
   rw[hX]at h;obtain⟨h1,h2,h3⟩:=IZ hp.2 h;exact⟨wy _ h1,h2,λx hx zA=>by
    rcases bY.1 hx with rfl|hx
    ·rw[hX]at zA;cases zA
    ·exact h3 x hx zA⟩
theorem DI.head {q:Nat->Bool} {l:List an} {pm ts cn rest:List Nat} {R:List ai} {ms:List Nat} {w0 w:ae} {k:jQ G} {dJ fr:List V} {dY ids:List Nat} {bl:List VB} {ch:List G} {Z:List (Nat×ai)} {a:Act} {n i:Nat} {r:List Nat}
 (D:DI C call q l pm R ms w0 k dJ dY cn rest fr ids bl ch Z (A5 n false) a w) (hA:(l.all λo=>!(fT o))=true) (hh:rest=[]\/∃i s,rest=i::s/\jA (bg l i)=false) (hp:kg (uS q l pm) ts=true) (dr:∀x,x<l.length->x∈ts) (hX:zo l ts=some (i,r)) (hi:i<l.length):
 ∃s,rest=i::s/\jA (bg l i)=false:=by
 obtain⟨_,h2,h3⟩:=IZ hp hX;have hm:i∈rest:=by
  rcases ez.1 (D.lG i hi)with h|h
  ·have:=D.qh i h (by rcases uT (bg l i)with e|e|e<;>simp_all);rw[yD]at this;split at this<;>simp at this
  ·exact h
 rcases hh with rfl|⟨x,s,rfl,hf⟩
 ·cases hm
 ·have hx:j_ (bg l x)=true:=by have:=u6 hA x;rcases uT (bg l x)with e|e|e<;>simp_all
  rcases bY.1 hm with rfl|hm
  ·exact⟨s,rfl,hf⟩
  ·exfalso;have uH:x<l.length:=D.lH x (by simp);have oD:=(zq D.kh).2.2;simp only[kg,a_,fK]at oD;have hb:=(rC (oD.1 i hm)).xj hx (u6 hA i);rcases h3 x (dr x uH) hx with rfl|h
   ·have tj:=D.nd;have:=(List.nodup_append.1 tj).2.1;exact(pF.1 this).1 hm
   ·have:=(rC h).nb;rw[hb]at this;cases this
theorem ad8 (hc:BN C.P C.gl call) (zu:ED C.q call) {id:Nat} {ops:Array an} {R:List ai} {ms:List Nat} {w0 w:ae} {Q:dN->Act->ae->Prop} {k:jQ G} {ids:List Nat} {bl:List VB} {ch:List G} {fr:List V}
 (hg:Gl C.gl ids) (hl:ids.length=bl.length) (S:St ms w0 (lits ids ids bl++av ch R) w) (h:Of C call ops.toList (IK ops.toList []) fr bl ch k)
 (hk:∀fr' more bl' ch' w',(ids++more).length=bl'.length->St ms w0 (lits (ids++more) (ids++more) bl'++av ch' R) w'->k fr' bl' ch'->Q .normal (act (ids++more) fr') w'):
 (Code.region id ops true).wp C.P Q (act ids fr) w:=by
 unfold Of Wk at h;generalize s8:ops.toList=l at h;generalize IK l []=pm at h;generalize BQ l pm=ts at h;have ad9:ops=l.toArray:=by rw[<-s8]
 subst ad9;cases hd:Ev C C.q l pm ts fr.length&&ba bl.length fr with
 |true=>
  rw[hd]at h;simp only[a_]at hd;obtain⟨⟨D,d1,d2⟩,d3⟩:=DI.start hg hl S hd.1 hd.2 h;refine wp_region_any d3 ?_;obtain⟨cn,r,fr',D',hh⟩:=D.EC ts;exact D4 hc zu d1 d2 hk _ D' hh (by simp[Uo])
 |false=>
  rw[hd]at h;simp only[cond_false]at h;unfold Wj at h;split at h
  ·rename_i i r1 u7;split at h
   ·rename_i j r2 u9;unfold Wi Wh at h;generalize Ew (eG l i j) [] pm=td at h;generalize Ew (eG l j i) [] pm=te at h;generalize BQ (eG l i j) td=EI at h;generalize BQ (eG l j i) te=EJ at h;cases hq:Ex C (eG l i j) td EI i fr.length&&(Ex C (eG l j i) te EJ j fr.length&&(!(ax i j)&&ba bl.length fr))with
    |false=>rw[hq]at h;exact h.elim
    |true=>
     rw[hq]at h;simp only[a_,lv]at hq;obtain⟨q1,q2,q3,q4⟩:=hq;have wD:i≠j:=λe=>by rw[e,qS]at q3;cases q3
     unfold Ex at q1 q2;simp only[a_]at q1 q2;obtain⟨⟨a1,a2⟩,a3⟩:=q1;obtain⟨⟨c1,c2⟩,c3⟩:=q2;obtain⟨⟨D1,d1,d2⟩,d3⟩:=DI.start hg hl S a1 q4 h.1;obtain⟨⟨D2,e1,e2⟩,_⟩:=DI.start hg hl S c1 q4 h.2;rw[IV]at D1 D2;split at a3
     ·rename_i x1 y1 g1;obtain rfl:=b9 a3;split at c3
      ·rename_i x2 y2 g2;obtain rfl:=b9 c3;obtain⟨ab1,rs1,f1,BZ,h1⟩:=D1.EC EI;obtain⟨ab2,B7,f2,zx,h2⟩:=D2.EC EJ;have p1:=IZ D1.kh g1;have p2:=IZ D2.kh g2;obtain⟨s1,rfl,hn1⟩:=BZ.head a2 h1 D1.kh (λx hx=>by simpa using D1.lG x hx) g1 (D1.lH _ (by simpa using p1.1));obtain⟨s2,rfl,hn2⟩:=zx.head c2 h2 D2.kh (λx hx=>by simpa using D2.lG x hx) g2 (D2.lH _ (by simpa using p2.1));refine wp_region_any d3 ?_;exact ad6 hc zu wD d1 d2 e1 e2 a2 c2 hk _ BZ hn1 zx hn2 (by simp[Uo])
      ·cases c3
     ·cases a3
   ·exact h.elim
  ·exact h.elim
def oE (C:Ctx G):Prop:=∀f,C.q f=true->∃c,C.T f=some c/\∀args bl ch K,c args bl ch K->c args bl ch λv bl' ch'=>K v bl' ch'/\∃e,bl'=bl++e
theorem ad_ (hQ:oE C) {rec:B4 G}:ED C.q (B5 C rec):=by
 intro f hf args bl ch K h;obtain⟨c,hc,hq⟩:=hQ f hf;unfold B5 at h⊢;rw[hc]at h⊢;exact hq args bl ch K h
theorem aea {ids:List Nat} (n:Nat):aA ids (zz n)=kO n undef:=by
 induction n with
 |zero=>rfl
 |succ n ih=>simp[zz,aA,ih,List.replicate_succ,fA,den]
theorem aeb {ids:List Nat} (a b:List V):aA ids (a++b)=aA ids a++aA ids b:=by simp[wR]
theorem Oh {P:aC} {ids:List Nat} {fr:List V} {bl:List VB} {R:List ai} {ms:List Nat} {w0 w:ae} (hl:ids.length=bl.length) (S:St ms w0 (lits ids ids bl++R) w):
 ∀(rs:List HO) {vs:List V},u_ P fr bl rs=some vs->H7 P w (aA ids fr).toArray rs (aA ids vs)
 |[],vs,h=>by simp only[u_,aS]at h;subst h;exact trivial
 |.tmp t::l,vs,h=>by
  simp only[u_]at h;split at h
  ·rename_i r hr;simp only[aS]at h;subst h;refine⟨?_,Oh hl S l hr⟩;simp only[wH,<-zh];rfl
  ·cases h
 |.cell a t::l,vs,h=>by
  simp only[u_]at h;split at h
  ·rename_i v r hv hr;simp only[aS]at h;subst h;refine⟨?_,Oh hl S l hr⟩;have h1:=IE (P:=P) hl S hv;have h2:∃x,den ids (nth fr a)=.pointer (some x):=by
    unfold sZ at hv;split at hv
    ·rename_i i off hx;exact⟨⟨ids.getD i 0,off,none⟩,by rw[hx];simp only[den]⟩
    ·cases hv
   obtain⟨x,hx⟩:=h2;rw[hx]at h1;simp only[pC,iJ,bj,cW,cd]at h1;simp only[wH,<-zh,hx,asAddr,bj,cW,cd,h1]
  ·cases h
theorem aec {ids:List Nat} (vs:List V):H8 (aA ids vs)=den ids (EG vs):=by
 match vs with
 |[]=>rfl
 |[v]=>rfl
 |_::_::_=>simp[aA,H8,EG,den]
theorem aed {P:aC} {fn:Func} {K:VK G} {e:dN} {fr:List V} {bl:List VB} {ch:List G} {ids:List Nat} {R:List ai} {ms:List Nat} {w0 w:ae} (hl:ids.length=bl.length) (S:St ms w0 (lits ids ids bl++R) w)
 (h:EH P fn K e fr bl ch) {R':ab->ae->Prop} (hk:∀x,K x bl ch->R' (den ids x) w):bodyPost P fn (λe w'=>∃v,e=.returned v/\R' v w') e (act ids fr) w:=by
 have main:(match u_ P fr bl fn.results.toList with|some vs=>K (EG vs) bl ch|none=>False)->∃v,(results fn (act ids fr).tmps).run P w=.ok v w/\R' v w:=by
  intro h;split at h
  ·rename_i vs hvs;exact⟨_,fu (fn:=fn) fn.results.toList _ _ (Oh hl S _ hvs) (by simp) (aec vs),hk _ h⟩
  ·exact h.elim
 unfold EH at h;split at h
 ·obtain⟨v,h1,h2⟩:=main h;exact⟨rfl,v,h1,v,rfl,h2⟩
 ·obtain⟨v,h1,h2⟩:=main h;exact⟨rfl,v,h1,v,rfl,h2⟩
 ·exact h.elim
theorem I0 {ids more:List Nat}:∀(l:List (Option V)) (fr:List V) (i:Nat) (g:Nat->ab),BM ids.length l fr->(∀t,g (i+t)=den (ids++more) (nth fr t))->aA (ids++more) fr=aA ids (fill l g i)
 |[],[],_,_,_,_=>by simp[fill,aA]
 |some v::l,u::fr,i,g,h,hg=>by
  obtain⟨rfl,hw,h⟩:=h;simp only[fill,aA];rw[fy u hw,I0 l fr (i+1) g h (λt=>by have:=hg (t+1);simp only[jx,jy,je]at this;rw[<-this];congr 1;omega)]
 |none::l,u::fr,i,g,h,hg=>by
  simp only[fill,aA,den];rw[I0 l fr (i+1) g h (λt=>by have:=hg (t+1);simp only[jx,jy,je]at this;rw[<-this];congr 1;omega)];have:=hg 0;simp only[jx,jy,je,nZ]at this;rw[this]
 |[],_::_,_,_,h,_=>h.elim
 |some _::_,[],_,_,h,_=>h.elim
 |none::_,[],_,_,h,_=>h.elim
theorem aee (ids more:List Nat) (bl j:List VB) (hl:bl.length=ids.length) (hw:bI ids.length bl=true):lits (ids++more) (ids++more) (bl++j)=lits ids ids bl++lits (ids++more) more j:=by
 rw[eZ _ _ _ _ hl.symm,e_ _ _ hw]
theorem aef {ms:List Nat} {w0 w:ae} {A B R:List ai} (S:St ms w0 ((A++B)++R) w):St ms w0 (A++R) w:=S.sub (acB (List.sublist_append_left A B) R)
def Oi (C:Ctx G) (n:Nat):Prop:=∀(c:Code) {fr:List V} {bl:List VB} {ch:List G} {K:tf G} {ids:List Nat} {R:List ai} {ms:List Nat} {w0 w:ae} {Q:dN->Act->ae->Prop},
 Gl C.gl ids->ids.length=bl.length->St ms w0 (lits ids ids bl++av ch R) w->B6 C n c fr bl ch K->
 (∀e fr' more bl' ch' w',(ids++more).length=bl'.length->St ms w0 (lits (ids++more) (ids++more) bl'++av ch' R) w'->K e fr' bl' ch'->Q e (act (ids++more) fr') w')->
 c.wp C.P Q (act ids fr) w/\(∀b,c=.loop b->A6 C.P b Q n (act ids fr) w)
theorem Wq {n:Nat} (ih:Oi C n) {f:Nat} {fn:Func} {c:Code} (hf:C.P.funcs[f]?=some fn) (hb:fn.body=some c) {args:List V} {ids:List Nat} {bl:List VB} {ch:List G} {R:List ai} {ms:List Nat} {w0 w:ae} {K:VK G}
 (hg:Gl C.gl ids) (hl:ids.length=bl.length) (S:St ms w0 (lits ids ids bl++av ch R) w) (h:B6 C n c (args++zz (fn.ntmps-args.length)) bl ch (EH C.P fn K)):
 aQ C.P f (aA ids args).toArray w λv w'=>∃x more bl' ch',v=den (ids++more) x/\(ids++more).length=bl'.length/\St ms w0 (lits (ids++more) (ids++more) bl'++av ch' R) w'/\K x bl' ch':=by
 refine calls_of_wp hf hb ?_;have e:({tmps:=(aA ids args).toArray++A5 (fn.ntmps-(aA ids args).toArray.size) undef,defers:=[]}:Act)=act ids (args++zz (fn.ntmps-args.length)):=by
  simp only[act,aeb,aea];congr 1;apply eO;simp[wR]
 rw[e];refine(ih c hg hl S h ?_).1;intro e fr' more bl' ch' w' g1 g2 g3;refine aed g1 g2 g3 ?_;intro x hx;exact⟨x,more,bl',ch',rfl,g1,g2,hx⟩
theorem Ws {n:Nat} (hT:∀f c,C.T f=some c->Sound C.P C.gl f c) (ih:Oi C n):BN C.P C.gl (B5 C (B6 C n)):=by
 intro f hf args ids bl ch R ms w0 w K hg hl S h;unfold B5 at h;split at h
 ·rename_i c hc;exact hT f c hc args ids bl ch R ms w0 w K hg hl S h
 ·split at h
  ·rename_i fn Eu;split at h
   ·rename_i c hc;exact Wq ih Eu hc hg hl S h
   ·exact h.elim
  ·exact h.elim
theorem aeg {ids:List Nat} {fr:List V} (i:Nat):(act ids fr).eval (.tmp i)=den ids (nth fr i):=by simp only[Act.eval,act,zh]
theorem sound (hT:∀f c,C.T f=some c->Sound C.P C.gl f c) (hQ:oE C):∀n,Oi C n:=by
 intro n;induction n with
 |zero=>intro c fr bl ch K ids R ms w0 w Q hg hl S h;exact h.elim
 |succ n ih=>
  intro c fr bl ch K ids R ms w0 w Q hg hl S h hk;replace h:IX C (B6 C n) c fr bl ch K:=h;generalize Oj:B6 C n=rec at h;have rF:∀(c:Code) {fr:List V} {bl:List VB} {ch:List G} {K:tf G} {ids:List Nat} {R:List ai} {ms:List Nat} {w0 w:ae} {Q:dN->Act->ae->Prop},Gl C.gl ids->ids.length=bl.length->St ms w0 (lits ids ids bl++av ch R) w->rec c fr bl ch K->(∀e fr' more bl' ch' w',(ids++more).length=bl'.length->St ms w0 (lits (ids++more) (ids++more) bl'++av ch' R) w'->K e fr' bl' ch'->Q e (act (ids++more) fr') w')->c.wp C.P Q (act ids fr) w/\(∀b,c=.loop b->A6 C.P b Q n (act ids fr) w):=by rw[<-Oj];exact ih
  have pZ:∀e,K e fr bl ch->Q e (act ids fr) w:=λe he=>by
   have:=hk e fr [] bl ch w (by simpa using hl) (by simpa using S) he;simpa using this
  have trans:∀{more:List Nat} {e:dN} {fr':List V} {bl':List VB} {ch':List G} {w':ae},(∀e s9 cD bl2 ch2 w2,((ids++more)++cD).length=bl2.length->St ms w0 (lits ((ids++more)++cD) ((ids++more)++cD) bl2++av ch2 R) w2->K e s9 bl2 ch2->Q e (act ((ids++more)++cD) s9) w2):=by
   intro more e fr' bl' ch' w' e s9 cD bl2 ch2 w2 g1 g2 g3;rw[bN]at g1 g2⊢;exact hk e s9 (more++cD) bl2 ch2 w2 g1 g2 g3
  cases c with
  |skip=>exact⟨jr (pZ _ h),λb e=>nomatch e⟩
  |seq a b=>
   refine⟨?_,λb e=>nomatch e⟩;refine wp_seq ((rF a hg hl S h ?_).1);intro e fr' more bl' ch' w' g1 g2 g3;cases e with
   |normal=>exact(rF b (hg.app more) g1 g2 g3 (trans (e:=.normal) (fr':=fr') (bl':=bl') (ch':=ch') (w':=w'))).1
   |_=>exact hk _ fr' more bl' ch' w' g1 g2 g3
  |cond x t f=>
   refine⟨?_,λb e=>nomatch e⟩;unfold IX at h;dsimp only at h;split at h
   ·rename_i i;split at h
    ·rename_i b hb;have hs:=II fr i;rw[hb]at hs;have Wt:(act ids fr).eval (.tmp i)=.bool b:=by rw[aeg,hb];simp only[den]
     cases b with
     |true=>rw[hs]at h;exact wp_cond_true Wt (rF t hg hl S h hk).1
     |false=>rw[hs]at h;exact wp_cond_false Wt (rF f hg hl S h hk).1
    ·exact h.elim
   ·rename_i b;cases b with
    |true=>exact wp_cond_true rfl (rF t hg hl S h hk).1
    |false=>exact wp_cond_false rfl (rF f hg hl S h hk).1
   ·exact h.elim
  |block id b=>
   refine⟨?_,λb e=>nomatch e⟩;have fin:∀e fr' more bl' ch' w',(ids++more).length=bl'.length->St ms w0 (lits (ids++more) (ids++more) bl'++av ch' R) w'->EK id K e fr' bl' ch'->HN id Q e (act (ids++more) fr') w':=by
    intro e fr' more bl' ch' w' g1 g2 g3;cases e with
    |exit j=>
     simp only[EK]at g3;unfold HN;by_cases hj:j=id
     ·subst hj;rw[qS]at g3;simp only[if_true];exact hk _ _ _ _ _ _ g1 g2 g3
     ·have:ax j id=false:=by
       cases hb:ax j id with
       |true=>exact absurd (b9 hb) hj
       |false=>rfl
      rw[this]at g3;simp only[if_neg hj];exact hk _ _ _ _ _ _ g1 g2 g3
    |_=>exact hk _ _ _ _ _ _ g1 g2 g3
   unfold IX at h;dsimp only at h;split at h
   ·rename_i I hI;split at h
    ·rename_i c hc;obtain rfl:b=.loop c:=by
      unfold Wm at hc;split at hc
      ·cases hc;rfl
      ·cases hc
     obtain⟨h0,hx⟩:=h;have key:∀N (x:I.X) (g:Nat->ab) w',I.m x<N->(I.bl x).length=ids.length->St ms w0 (lits ids ids (I.bl x)++av (I.ch x) R) w'->A6 C.P c (HN id Q) N (act ids (fill (I.fr x) g 0)) w':=by
      intro N;induction N with
      |zero=>intro x g w' hN;omega
      |succ N ihN=>
       intro x g w' hN pQ Sx;refine(rF c hg pQ.symm Sx (hx x g) ?_).1;intro e fr' more bl' ch' w2 g1 g2 g3;cases e with
       |normal=>
        obtain⟨y,hm,hf,Ol,IY,⟨j,rfl⟩,rfl⟩:=I.ok x fr' bl' ch' g3;have e1:act (ids++more) fr'=act ids (fill (I.fr y) (λt=>den (ids++more) (nth fr' t)) 0):=by
         simp only[act];rw[I0 (I.fr y) fr' 0 (λt=>den (ids++more) (nth fr' t)) (by rw[<-pQ];exact hf) (λt=>by simp)]
        show A6 C.P c _ N (act (ids++more) fr') w2;rw[e1];refine ihN y _ w2 (by omega) (Ol.trans pQ) ?_;rw[pQ]at IY Ol;rw[aee ids more (I.bl y) j Ol IY]at g2;exact aef g2
       |_=>exact fin _ fr' more bl' ch' w2 g1 g2 (by first|exact g3|(unfold Wo at g3;exact g3))
     obtain⟨x0,hf,rfl,rfl⟩:=I.VL fr bl ch h0;refine iL (wp_loop_rounds (I.m x0+1) ?_);have e1:act ids fr=act ids (fill (I.fr x0) (λt=>den ids (nth fr t)) 0):=by
      have:=I0 (ids:=ids) (more:=[]) (I.fr x0) fr 0 (λt=>den ids (nth fr t)) (by rw[hl];exact hf) (λt=>by simp);simp only[act];simp only[cI]at this;rw[this]
     rw[e1];exact key _ x0 _ w (Nat.lt_succ_self _) hl.symm S
    ·exact iL ((rF b hg hl S h fin).1)
   ·exact iL ((rF b hg hl S h fin).1)
  |loop b=>
   have key:A6 C.P b Q (n+1) (act ids fr) w:=by
    refine(rF b hg hl S h ?_).1;intro e fr' more bl' ch' w' g1 g2 g3;cases e with
    |normal=>exact(rF (.loop b) (hg.app more) g1 g2 g3 (trans (e:=.normal) (fr':=fr') (bl':=bl') (ch':=ch') (w':=w'))).2 b rfl
    |_=>exact hk _ fr' more bl' ch' w' g1 g2 g3
   exact⟨wp_loop_rounds (n+1) key,λb' e=>by cases e;exact key⟩
  |exit id=>exact⟨wp_exit (pZ _ h),λb e=>nomatch e⟩
  |ret=>exact⟨gh (pZ _ h),λb e=>nomatch e⟩
  |region id ops d=>
   refine⟨?_,λb e=>nomatch e⟩;cases d with
   |true=>exact ad8 (Oj▸Ws hT ih) (ad_ hQ) hg hl S h (λfr' more bl' ch' w' g1 g2 g3=>hk _ _ _ _ _ _ g1 g2 g3)
   |false=>
    refine wp_region_list ?_;exact(NO (Ws hT ih) ops.toList hg hl S (by rw[Oj];exact h) (λfr' more bl' ch' w' g1 g2 g3=>hk _ _ _ _ _ _ g1 g2 g3)).out
  |_=>exact h.elim
theorem eD (hT:∀f c,C.T f=some c->Sound C.P C.gl f c) (hQ:oE C) (n:Nat) {f:Nat} {args:List V} {ids:List Nat} {bl:List VB} {ch:List G} {R:List ai} {ms:List Nat} {w0 w:ae} {K:VK G}
 (hg:Gl C.gl ids) (hl:ids.length=bl.length) (S:St ms w0 (lits ids ids bl++av ch R) w) (h:bu C n f args bl ch K):
 aQ C.P f (aA ids args).toArray w λv w'=>∃x more bl' ch',v=den (ids++more) x/\(ids++more).length=bl'.length/\St ms w0 (lits (ids++more) (ids++more) bl'++av ch' R) w'/\K x bl' ch':=by
 unfold bu at h;split at h
 ·rename_i fn hf;split at h
  ·rename_i c hb;exact Wq (sound hT hQ n) hf hb hg hl S h
  ·exact h.elim
 ·exact h.elim
end
structure bK (G:Type) where
 f:eN
 q:Bool
 c:cP G
def qk:List (bK G)->eN->Option (cP G)
 |[],_=>none
 |e::l,f=>bif ax e.f f then some e.c else qk l f
def tm:List (bK G)->eN->Bool
 |[],_=>false
 |e::l,f=>bif ax e.f f then e.q else tm l f
def bQ (P:aC) (gl:Nat->Option Nat) (L:List (bK G)):Ctx G:=⟨P,qk L,gl,tm L,IH,NI,λ_ _=>none⟩
def gO (c:cP G):Prop:=∀args bl ch K,c args bl ch K->c args bl ch λv bl' ch'=>K v bl' ch'/\∃e,bl'=bl++e
def tn (P:aC) (gl:Nat->Option Nat) (e:bK G):Prop:=Sound P gl e.f e.c/\(e.q=true->gO e.c)
def aG (P:aC) (gl:Nat->Option Nat) (L:List (bK G)):Prop:=∀e∈L,tn P gl e
theorem aG.nil {P:aC} {gl:Nat->Option Nat}:aG (G:=G) P gl []:=λe h=>nomatch h
theorem aG.cons {P:aC} {gl:Nat->Option Nat} {e:bK G} {L:List (bK G)} (h:tn P gl e) (k:aG P gl L):aG P gl (e::L):=λx hx=>by
 rcases bY.1 hx with rfl|hx
 ·exact h
 ·exact k x hx
theorem aG.app {P:aC} {gl:Nat->Option Nat} {L M:List (bK G)} (h:aG P gl L) (k:aG P gl M):aG P gl (L++M):=λx hx=>by
 rcases ez.1 hx with hx|hx
 ·exact h x hx
 ·exact k x hx
theorem aG.T {P:aC} {gl:Nat->Option Nat} {L:List (bK G)} (h:aG P gl L):∀f c,(bQ P gl L).T f=some c->Sound (bQ P gl L).P (bQ P gl L).gl f c:=by
 intro f c hc;replace hc:qk L f=some c:=hc;show Sound P gl f c;induction L with
 |nil=>cases hc
 |cons e L ih=>
  unfold qk at hc;cases hb:ax e.f f with
  |true=>
   rw[hb]at hc;obtain rfl:e.c=c:=by simpa using hc
   obtain rfl:=b9 hb;exact(h e (by simp)).1
  |false=>
   rw[hb]at hc;exact ih (λx hx=>h x (by simp[hx])) hc
theorem aG.Q {P:aC} {gl:Nat->Option Nat} {L:List (bK G)} (h:aG P gl L):oE (bQ P gl L):=by
 intro f hf;replace hf:tm L f=true:=hf;show∃c,qk L f=some c/\_;induction L with
 |nil=>cases hf
 |cons e L ih=>
  unfold tm at hf;unfold qk;cases hb:ax e.f f with
  |true=>
   rw[hb]at hf;exact⟨e.c,rfl,(h e (by simp)).2 (by simpa using hf)⟩
  |false=>
   rw[hb]at hf;exact ih (λx hx=>h x (by simp[hx])) hf
def qC (F:List V->List VB->Option (Prop×V)):cP G:=λargs bl ch K=>match F args bl with
 |some (p,v)=>p/\K v bl ch
 |none=>False
theorem I1 (F:List V->List VB->Option (Prop×V)):gO (G:=G) (qC F):=by
 intro args bl ch K h;unfold qC at h⊢;split at h
 ·exact⟨h.1,h.2,[],by simp⟩
 ·exact h
def Mem (ids:List Nat) (bl:List VB) (w:ae):Prop:=ids.length=bl.length/\∀(i:Nat) (b:VB),bl[i]?=some b->w.heap[ids.getD i 0]?=some (.cells (ah ids b.c).toArray b.ty.t b.ty.fz)
structure QF where
 f:eN
 F:List V->List VB->Option (Prop×V)
def QF.Ok (P:aC) (gl:Nat->Option Nat) (q:QF):Prop:=∀args bl p v,q.F args bl=some (p,v)->p->∀ids w,Gl gl ids->Mem ids bl w->aQ P q.f (aA ids args).toArray w λx w'=>x=den ids v/\Ch [] w w'
theorem I2 {P:aC} {gl:Nat->Option Nat} {q:QF} (h:q.Ok P gl):Sound P gl q.f (qC (G:=G) q.F):=by
 intro args ids bl ch R ms w0 w K hg hl S hc;unfold qC at hc;split at hc
 ·rename_i p v hF;refine(h args bl p v hF hc.1 ids w hg ⟨hl,λi b hb=>(fp hl S hb).2⟩).mono ?_;rintro x w' ⟨rfl,bT⟩;exact⟨v,[],bl,ch,by simp,by simpa using hl,by simpa using S.quiet bT,hc.2⟩
 ·exact hc.elim
def qE (G:Type) [Bl G] (q:QF):bK G:=⟨q.f,true,qC q.F⟩
def qL (G:Type) [Bl G]:List QF->List (bK G)
 |[]=>[]
 |q::l=>qE G q::qL G l
def bF (P:aC) (gl:Nat->Option Nat) (L:List QF):Prop:=∀q∈L,QF.Ok P gl q
theorem kD {P:aC} {gl:Nat->Option Nat}:∀{L:List QF},bF P gl L->aG (G:=G) P gl (qL G L)
 |[],_=>aG.nil
 |q::l,h=>aG.cons ⟨I2 (h q (by simp)),λ_=>I1 q.F⟩ (kD λx hx=>h x (by simp[hx]))
theorem bF.nil {P:aC} {gl:Nat->Option Nat}:bF P gl []:=λe h=>nomatch h
theorem bF.cons {P:aC} {gl:Nat->Option Nat} {e:QF} {L:List QF} (h:e.Ok P gl) (k:bF P gl L):bF P gl (e::L):=λx hx=>by
 rcases bY.1 hx with rfl|hx
 ·exact h
 ·exact k x hx
theorem bF.app {P:aC} {gl:Nat->Option Nat} {L M:List QF} (h:bF P gl L) (k:bF P gl M):bF P gl (L++M):=λx hx=>by
 rcases ez.1 hx with hx|hx
 ·exact h x hx
 ·exact k x hx
instance:Bl Empty:=⟨λ_=>[]⟩
def dL (P:aC) (L:List QF) (n:Nat) (f:eN) (args:List V) (X:V->Prop):Prop:=bu (bQ P (λ_=>none) (qL Empty L)) n f args [] [] λv _ _=>X v
theorem Gl.none {ids:List Nat}:Gl (λ_=>none) ids:=λg i h=>nomatch h
theorem zB {P:aC} {L:List QF} (hL:bF P (λ_=>none) L) (n:Nat) {f:Nat} {args:List V} {v:V} (h:dL P L n f args (·=v)) (ha:ba 0 args=true) (hv:cz 0 v=true) (ids:List Nat) (w:ae):
 aQ P f (aA ids args).toArray w λx w'=>x=den ids v/\Ch [] w w':=by
 have e1:aA ids args=aA [] args:=by have:=mP (ids:=[]) (more:=ids) args ha;simpa using this
 have e2:∀is,den is v=den [] v:=λis=>by have:=fy (ids:=[]) (more:=is) v hv;simpa using this
 rw[e1];refine(eD (kD hL).T (kD hL).Q n (C:=bQ P (λ_=>none) (qL Empty L)) (ids:=[]) (bl:=[]) (ch:=[]) (R:=[]) (ms:=[]) (w0:=w) (w:=w) Gl.none rfl (St.nil [] w) h).mono ?_;rintro x w' ⟨y,more,bl',ch',rfl,h1,S,rfl⟩;exact⟨by rw[e2 ids,e2],S.ch⟩
theorem aH {b:Bool} {X Y:Prop} (h:b=true->X) (k:b=false->Y):cond b X Y:=by cases b;exact k rfl;exact h rfl
end Vx
namespace Vx
open Go Go.RowKit Go.BigFrame Sx
structure bO where
 T:aD
 z:Nat
 os:List ab
 x:Option aI
 n:Nat
 c:Nat
 bl:List ai
 h:eI z T os x n c bl
instance:Bl bO:=⟨λg=>g.bl⟩
def bO.v (g:bO):V:=.raw (.slice g.x g.n g.c)
def bO.nil (T z:Nat):bO:=⟨T,z,[],none,0,0,[],wN z T⟩
def rG (P:aC) (T:aD):Option (Nat×Nat):=match P.info? T with
 |some i=>(match i.zero with
  |some v=>bif ax v.cells.size i.size then some (i.size,i.bytes)else none
  |none=>none)
 |none=>none
def I3 (T z:Nat) (s:V) (m:Nat) (news:List ab) (bl:List VB) (K:VK bO):List bO->List bO->Prop
 |_,[]=>False
 |pre,g::l=>bif ax g.T T then cond (ax g.z z) ((s=g.v/\g.n+m<=1000000)/\∀(x:Option aI) (c:Nat) (bk:List ai) (h:eI g.z g.T (g.os++news) x (g.n+m) c bk),K (.raw (.slice x (g.n+m) c)) bl (pre++⟨g.T,g.z,g.os++news,x,g.n+m,c,bk,h⟩::l)) False
  else I3 T z s m news bl K (pre++[g]) l
def I4 (P:aC):(aZ->V)->Op->List VB->List bO->VK bO->Prop:=λe op bl ch K=>match op with
 |.call c=>(match c.callee,c.args.toList,c.argTypes.toList with
  |.builtin .append,[s,xs],[t,tx]=>(match P.underlying t,P.underlying tx with
   |some (.slice T),some (.slice _)=>(match rG P T,e xs with
    |some (z,bG),.sl i 0 m _=>(match bl[i]?with
     |some b=>cond (ax (bW b.c) (m*z)&&(ba 0 b.c&&(lF b.c&&bA bG 10000000))) (I3 T z (e s) m (ah [] b.c) bl K [] ch) False
     |none=>False)
    |_,_=>False)
   |_,_=>False)
  |_,_,_=>False)
 |_=>False
theorem ma {G:Type} [Bl G] (R:List ai):∀(a b:List G),av (a++b) R=av a (av b R)
 |[],b=>rfl
 |g::a,b=>by simp only[fb,av,ma R a b]
theorem hY {G:Type} [Bl G] (R:List ai):∀(a:List G),av a R=av a []++R
 |[]=>rfl
 |g::a=>by simp only[av,hY R a,bN]
theorem Wu {T z:Nat} {s:V} {m:Nat} {news:List ab} {bl:List VB} {K:VK bO}:∀(ch pre:List bO),I3 T z s m news bl K pre ch->∃(l1:List bO) (g:bO) (l2:List bO),ch=l1++g::l2/\g.T=T/\g.z=z/\s=g.v/\g.n+m<=1000000/\
 ∀(x:Option aI) (c:Nat) (bk:List ai) (h:eI g.z g.T (g.os++news) x (g.n+m) c bk),K (.raw (.slice x (g.n+m) c)) bl ((pre++l1)++⟨g.T,g.z,g.os++news,x,g.n+m,c,bk,h⟩::l2)
 |[],pre,h=>h.elim
 |g::l,pre,h=>by
  unfold I3 at h;cases hb:ax g.T T with
  |true=>
   rw[hb]at h;simp only[cond_true]at h;cases hz:ax g.z z with
   |false=>rw[hz]at h;exact h.elim
   |true=>
    rw[hz]at h;exact⟨[],g,l,rfl,b9 hb,b9 hz,h.1.1,h.1.2,by simpa using h.2⟩
  |false=>
   rw[hb]at h;obtain⟨l1,g',l2,rfl,h1,h2,h3,h4,h5⟩:=Wu l _ h;refine⟨g::l1,g',l2,rfl,h1,h2,h3,h4,?_⟩;intro x c bk hh;have:=h5 x c bk hh;simpa[bN]using this
theorem Wv {P:aC} {gl:Nat->Option Nat}:fC P gl (I4 P):=by
 intro e op ids bl ch R ms w0 w K ρ o hg hl S aW ho h;unfold I4 at h;split at h
 ·rename_i c;split at h
  ·rename_i s xs t tx eb cC dr;split at h
   ·rename_i T T' ht fH;split at h
    ·rename_i z bG i m cc bS fk;split at h
     ·rename_i b hb;cases hq:ax (bW b.c) (m*z)&&(ba 0 b.c&&(lF b.c&&bA bG 10000000))with
      |false=>rw[hq]at h;exact h.elim
      |true=>
       rw[hq]at h;simp only[cond_true]at h;simp only[a_]at hq;obtain⟨q1,q2,q3,q4⟩:=hq;have q1:=b9 q1;have q4:=dz q4;obtain⟨l1,g,l2,rfl,rfl,rfl,hs,hn,hK⟩:=Wu _ _ h;have hi:(P.info? g.T).map (λi=>(i.zero.map (·.cells.size),i.size,i.bytes))=some (some g.z,g.z,bG):=by
        unfold rG at bS;split at bS
        ·rename_i inf rH;split at bS
         ·rename_i v hv;cases oF:ax v.cells.size inf.size with
          |false=>rw[oF]at bS;simp at bS
          |true=>
           rw[oF]at bS;simp only[cond_true,aS,bd]at bS;have:=b9 oF;simp[rH,hv,this,bS.1,bS.2]
         ·cases bS
        ·cases bS
       have hd:ah ids b.c=ah [] b.c:=by have:=jO (ids:=[]) (more:=ids) b.c q2;simpa using this
       have aK:=(fp hl S hb).2;have hlen:(ah [] b.c).length=m*g.z:=by rw[<-q1];exact j6 b.c
       have eY:Src P g.z tx (.slice (some ⟨ids.getD i 0,0,none⟩) m cc) m (ah [] b.c) w:=by
        refine qR w fH ⟨ids.getD i 0,0,none⟩ m cc _ hlen (λj u hj=>?_) (λu hu=>zi q3 u hu);rw[hU,cell_of aK,hd];simpa using hj
       have e1:lits ids ids bl++av (l1++g::l2) R=(lits ids ids bl++av l1 [])++(g.bl++av l2 R):=by
        rw[ma,hY (av (g::l2) R) l1];simp only[av,bN];rfl
       rw[e1]at S;have lJ:(g.n+m)*bG<=140737488355328:=iH (Nat.mul_le_mul hn q4) (by decide);obtain⟨v,w',bE,hc,x',c',bl',rfl,fl,me⟩:=Bp (P:=P) (ty:=o.type) g.h (λy hy=>S.at' (by simp[hy])) bG eY ht hi lJ (iH hn (by decide));have S2:=S.sQ g.h.wr hc (λy hy=>(me y hy).1) (λy hy=>(me y hy).2) fl.pw;refine⟨_,[],bl,_,w',.inl ?_,by simpa using hl,?_,hK x' c' bl' fl⟩
       ·obtain⟨l9,ar,gA⟩:=c;simp only at eb cC dr;have e2:ar=#[s,xs]:=by rw[<-cC]
        have e3:gA=#[t,tx]:=by rw[<-dr]
        subst eb e2 e3;have:=iR (P:=P) (ρ:=ρ) (o:=o) ho (sv:=.slice g.x g.n g.c) (xv:=.slice (some ⟨ids.getD i 0,0,none⟩) m cc) (by rw[aW,hs];simp only[bO.v,den]) (by rw[aW,fk];simp only[den]) bE;simpa[den]using this
       ·rw[cI];have e4:lits ids ids bl++av (([]++l1)++⟨g.T,g.z,g.os++ah [] b.c,x',g.n+m,c',bl',fl⟩::l2) R=(lits ids ids bl++av l1 [])++(bl'++av l2 R):=by
         rw[fc,ma,hY (av (_::l2) R) l1];simp only[av,bN];rfl
        rw[e4];exact S2
     ·exact h.elim
    ·exact h.elim
   ·exact h.elim
  ·exact h.elim
 ·exact h.elim
def tp (P:aC) (gl:Nat->Option Nat) (L:List (bK bO)):Ctx bO:=⟨P,qk L,gl,tm L,I4 P,Wv,λ_ _=>none⟩
theorem aG.TR {P:aC} {gl:Nat->Option Nat} {L:List (bK bO)} (h:aG P gl L):∀f c,(tp P gl L).T f=some c->Sound (tp P gl L).P (tp P gl L).gl f c:=h.T
theorem aG.QR {P:aC} {gl:Nat->Option Nat} {L:List (bK bO)} (h:aG P gl L):oE (tp P gl L):=h.Q
theorem aeh {P:aC} {w:ae} {z T n c m b:Nat} {olds tail news:List ab} (hlen:olds.length=n*z) (ov:(olds++tail).length=c*z) (jc:n<=c) (aK:w.heap[b]?=some (.cells (olds++tail).toArray T (0,0)))
 {t tx ty:aD} {xv:ab} (bytes:Nat) (hs:Src P z tx xv m news w) (jL:0<m) (ht:P.underlying t=some (.slice T)) (hi:(P.info? T).map (λi=>(i.zero.map (·.cells.size),i.size,i.bytes))=some (some z,z,bytes))
 (hb:(n+m)*bytes<=140737488355328) (h63:n+m<=maxLen):
 (∃w',(mD #[t,tx] ty #[.slice (some ⟨b,0,none⟩) n c,xv]).run P w=.ok (.slice (some ⟨b,0,none⟩) (n+m) c) w'/\Ch [b] w w'/\w'.heap[b]?=some (.cells ((olds++news)++tail.drop news.length).toArray T (0,0))/\n+m<=c)\/
 (∃b' c' xm w',(mD #[t,tx] ty #[.slice (some ⟨b,0,none⟩) n c,xv]).run P w=.ok (.slice (some ⟨b',0,none⟩) (n+m) c') w'/\Ch [] w w'/\w.heap.size<=b'/\w'.heap[b']?=some (.cells ((olds++news)++xm).toArray T (0,0))/\
  ((olds++news)++xm).length=c'*z/\n+m<=c'):=by
 obtain⟨i,bS,hi⟩:=gH.1 hi;simp only[bd]at hi;obtain⟨hz,di,gW⟩:=hi;obtain⟨z0,kV,mL⟩:=gH.1 hz;have ou:=hs.newsLen;have iQ:Src P i.size tx xv m news w:=by rw[di];exact hs
 by_cases mM:n+m<=c
 ·left;have hbd:n*z+news.length<=(olds++tail).length:=by
   rw[ov,ou,<-lU];exact Mv _ mM
  have fw:=run_storeCells_at (P:=P) b (n*z) T news 0 (olds++tail).toArray w aK (by simpa using hbd) hs.one;simp only[nZ]at fw;have bE:(mD #[t,tx] ty #[.slice (some ⟨b,0,none⟩) n c,xv]).run P w=.ok (.slice (some ⟨b,0,none⟩) (n+m) c) (w.setRow b ((olds++tail).take (n*z)++news++(olds++tail).drop (n*z+news.length)).toArray):=by
   rcases iQ.kind with⟨e',hk⟩|hk<;>simp[mD,dg ht,dg hk,nY,typeInfo,bS,iQ.len,mM,hs.cells,hU,di,fw,jb]
  refine⟨_,bE,by simpa using Ch.setRow w b _,?_,mM⟩;have:=setRow_heap w b (olds++tail).toArray ((olds++tail).take (n*z)++news++(olds++tail).drop (n*z+news.length)).toArray T (0,0) aK;rw[this];congr 3;rw[<-hlen,List.take_left,List.drop_append,List.drop_eq_nil_of_le (by omega)];simp
 ·right;have hg:c<n+m:=by omega
  have hold:(Builtin.firstCells i.size n (.slice (some ⟨b,0,none⟩) n c)).run P w.drew=.ok olds.toArray w.drew:=by
   refine run_firstCells_some (P:=P) w.drew i.size n ⟨b,0,none⟩ n c olds (by rw[hlen,di]) (λj v hj=>?_);rw[hU];have:w.drew.cell? ⟨b,0+j,none⟩=w.cell? ⟨b,j,none⟩:=by simp
   rw[this,cell_of aK];have jM:j<olds.length:=by
    rcases cE j olds.length with h|h
    ·exact h
    ·simp[h]at hj
   simp[gI jM,hj]
  have bE:=run_append_grow_src (P:=P) w t tx ty T i z0 ht bS kV (some ⟨b,0,none⟩) n c olds hold xv m news iQ hg (by simp only[maxLen]at h63;omega) (by rw[gW];exact growslice_fits hg hb);have eo:=grownCap_ge w (n+m) c T;refine⟨w.heap.size,grownCap w (n+m) c T,(nz z0.cells (grownCap w (n+m) c T-(n+m))).toList,_,bE,?_,dE _,?_,?_,eo⟩
  ·exact((Ch.refl [] w).drew).trans (Ch.alloc [] w.drew _) (λx hx=>.inl hx)
  ·have:=mC w.drew (.cells ((olds++news).toArray++nz z0.cells (grownCap w (n+m) c T-(n+m))) T);refine Eq.trans this ?_;congr 2;apply eO;simp
  ·rw[fi,fi,hlen,ou,Array.length_toList,size_zeroCells,mL,<-lU,<-lU];congr 1;omega
variable{G:Type} [Bl G]
def I5 (P:aC):(aZ->V)->Op->List VB->List G->VK G->Prop:=λe op bl ch K=>match op with
 |.call c=>(match c.callee,c.args.toList,c.argTypes.toList with
  |.builtin .append,[s,xs],[t,tx]=>(match P.underlying t,P.underlying tx with
   |some (.slice T),some (.slice _)=>(match rG P T,e s,e xs with
    |some (z,bG),.sl j 0 n c,.sl i 0 (m+1) _=>(match bl[j]?,bl[i]?with
     |some ⟨wr,⟨Ta,(0,0)⟩,ac⟩,some b=>(match wV ac 0 (n*z)with
      |some C=>cond (ax Ta T&&(wr&&(ax (bW b.c) ((m+1)*z)&&(lF b.c&&(bA bG 10000000&&(bA (n+(m+1)) 1000000&&(ba bl.length C&&(ba bl.length b.c&&bI bl.length bl))))))))
       ((n<=c/\bW ac=c*z)/\(∀(c':Nat) (u:List ab),n+(m+1)<=c'->bW (C++(b.c++[.rest u]))=c'*z->K (.sl j 0 (n+(m+1)) c') (bl.set j ⟨true,T,C++(b.c++[.rest u])⟩) ch)/\
         (∀(c':Nat) (u:List ab),n+(m+1)<=c'->bW (C++(b.c++[.rest u]))=c'*z->K (.sl bl.length 0 (n+(m+1)) c') (bl++[⟨true,T,C++(b.c++[.rest u])⟩]) ch)) False
      |none=>False)
     |_,_=>False)
    |_,_,_=>False)
   |_,_=>False)
  |_,_,_=>False)
 |_=>False
theorem EL {P:aC} {T z bG:Nat} (bS:rG P T=some (z,bG)):(P.info? T).map (λi=>(i.zero.map (·.cells.size),i.size,i.bytes))=some (some z,z,bG):=by
 unfold rG at bS;split at bS
 ·rename_i inf rH;split at bS
  ·rename_i v hv;cases oF:ax v.cells.size inf.size with
   |false=>rw[oF]at bS;simp at bS
   |true=>
    rw[oF]at bS;simp only[cond_true,aS,bd]at bS;have:=b9 oF;simp[rH,hv,this,bS.1,bS.2]
  ·cases bS
 ·cases bS
theorem Ww {P:aC} {gl:Nat->Option Nat}:fC (G:=G) P gl (I5 P):=by
 intro e op ids bl ch R ms w0 w K ρ o hg hl S aW ho h;unfold I5 at h;split at h
 ·rename_i c;split at h
  ·rename_i s xs t tx eb cC dr;split at h
   ·rename_i T T' ht fH;split at h
    ·rename_i z bG j n cc i m mf bS fQ fk;split at h
     ·rename_i wr Ta ac b ha hb;split at h
      ·rename_i C hC;cases hq:ax Ta T&&(wr&&(ax (bW b.c) ((m+1)*z)&&(lF b.c&&(bA bG 10000000&&(bA (n+(m+1)) 1000000&&(ba bl.length C&&(ba bl.length b.c&&bI bl.length bl)))))))with
       |false=>rw[hq]at h;exact h.elim
       |true=>
        rw[hq]at h;simp only[cond_true]at h;simp only[a_]at hq;obtain⟨q1,q2,q3,q4,q5,q6,q8,q9,EM⟩:=hq;have q1:=b9 q1;have q3:=b9 q3;have q5:=dz q5;have q6:=dz q6;obtain⟨⟨q7,di⟩,lW,Nc⟩:=h;subst q1 q2;have aK:=(fp hl S hb).2;obtain⟨hj,Om⟩:=fp hl S ha;obtain⟨g1,g2,g3⟩:=wW (ids:=ids) hC;rw[List.drop_zero]at g1;have va:(ah ids b.c).length=(m+1)*z:=by rw[j6,q3]
        have eY:Src P z tx (.slice (some ⟨ids.getD i 0,0,none⟩) (m+1) mf) (m+1) (ah ids b.c) w:=by
         refine qR w fH ⟨ids.getD i 0,0,none⟩ (m+1) mf _ va (λj u hj=>?_) (λu hu=>zi q4 u hu);rw[hU,cell_of aK];simpa using hj
        have ov:(ah ids C++(ah ids ac).drop (n*z)).length=cc*z:=by
         rw[<-g1,iZ,j6,di]
        have On:w.heap[ids.getD j 0]?=some (.cells (ah ids C++(ah ids ac).drop (n*z)).toArray Ta (0,0)):=by
         rw[<-g1,iZ];exact Om
        have lJ:(n+(m+1))*bG<=140737488355328:=iH (Nat.mul_le_mul q6 q5) (by decide);have dd:∀(is:List Nat) (u:List ab),ah is (C++(b.c++[.rest u]))=(ah is C++ah is b.c)++u:=λis u=>by
         rw[iq,iq];simp[ah,cl]
        have sz:∀(is:List Nat) (u:List ab) (c':Nat),((ah is C++ah is b.c)++u).length=c'*z->bW (C++(b.c++[.rest u]))=c'*z:=λis u c' hh=>by
         rw[<-j6 (ids:=is),dd,hh]
        obtain⟨l9,ar,gA⟩:=c;simp only at eb cC dr;have e2:ar=#[s,xs]:=by rw[<-cC]
        have e3:gA=#[t,tx]:=by rw[<-dr]
        subst eb e2 e3;have run:∀{v w'},(mD #[t,tx] o.type #[.slice (some ⟨ids.getD j 0,0,none⟩) n cc,.slice (some ⟨ids.getD i 0,0,none⟩) (m+1) mf]).run P w=.ok v w'->(execOp ρ o).run P w=.ok (.value v) w':=λbE=>
         iR (P:=P) (ρ:=ρ) (o:=o) ho (by rw[aW,fQ];simp only[den]) (by rw[aW,fk];simp only[den]) bE
        rcases aeh (P:=P) (ty:=o.type) g2 ov q7 On bG eY (Nat.succ_pos m) ht (EL bS) lJ (iH q6 (by decide))with⟨w',bE,hc,hh,mM⟩|⟨b',c',xm,w',bE,hc,aei,hh,aej,mM⟩
        ·refine⟨_,[],_,ch,w',.inl ?_,by simpa using hl,?_,lW cc (((ah ids ac).drop (n*z)).drop (ah ids b.c).length) mM (sz ids _ _ ?_)⟩
         ·have:=run bE;simpa[den]using this
         ·simp only[cI];have fw:=S.step hj rfl hc hh;have jM:j<(lits ids ids bl).length:=by rw[w5 ids bl hl];rcases cE j bl.length with h'|h';exact h';simp[h']at ha
          rw[<-uN (ids:=ids) ids bl j _ hl,<-List.set_append_left _ _ jM];simp only[ay,dd];exact fw
         ·rw[<-ov];simp only[fi,List.length_drop];have:(ah ids C).length+(ah ids b.c).length<=(ah ids C++(ah ids ac).drop (n*z)).length:=by
           rw[ov,g2,va,<-lU];exact Mv _ mM
          simp only[fi,List.length_drop]at this;omega
        ·have EN:ba ids.length (C++(b.c++[.rest xm]))=true:=by
          rw[hl];have B8:∀(x y:List V),ba bl.length x=true->ba bl.length y=true->ba bl.length (x++y)=true:=by
           intro x y;induction x with
           |nil=>intro _ h;simpa using h
           |cons v x ih=>intro h1 h2;simp only[fb,ba,a_]at h1⊢;exact⟨h1.1,ih h1.2 h2⟩
          exact B8 _ _ q8 (B8 _ _ q9 rfl)
         refine⟨_,[b'],_,ch,w',.inl ?_,by simp[hl],?_,Nc c' xm mM (sz ids _ _ aej)⟩
         ·have:=run bE;rw[this];simp only[den];rw[<-hl,j7]
         ·rw[eZ _ _ _ _ hl,e_ _ _ (by rw[hl];exact EM)];simp only[lits,ay];rw[jO _ EN,dd];have:=S.new hc aei hh;refine this.perm ?_;rw[bN (lits ids ids bl)];exact(jH).symm
      ·exact h.elim
     ·exact h.elim
    ·exact h.elim
   ·exact h.elim
  ·exact h.elim
 ·exact h.elim
def ql (P:aC) (gl:Nat->Option Nat) (L:List (bK G)):Ctx G:=⟨P,qk L,gl,tm L,I5 P,Ww,λ_ _=>none⟩
theorem aG.TS {P:aC} {gl:Nat->Option Nat} {L:List (bK G)} (h:aG P gl L):∀f c,(ql P gl L).T f=some c->Sound (ql P gl L).P (ql P gl L).gl f c:=h.T
theorem aG.QS {P:aC} {gl:Nat->Option Nat} {L:List (bK G)} (h:aG P gl L):oE (ql P gl L):=h.Q
end Vx
namespace Vx
open Go Go.RowKit Go.BigFrame Sx
def vb (i:Nat):List Nat->Nat->Option Nat
 |[],_=>none
 |j::l,k=>bif ax j i then some k else vb i l (k+1)
def Wx:VB:=⟨false,⟨0,(0,0)⟩,[]⟩
mutual
def I6:V->List Nat
 |.ptr i _=>[i]
 |.sl i _ _ _=>[i]
 |.fS i _ _ _ _=>[i]
 |.pe i _ _ _ _=>[i]
 |.fn _ a b=>B9 a++B9 b
 |.lD _ v=>I6 v
 |.agg l=>B9 l
 |.ao l=>B9 l
 |_=>[]
def B9:List V->List Nat
 |[]=>[]
 |v::l=>I6 v++B9 l
end
mutual
def oG (db:List Nat):V->Option V
 |.ptr i off=>match vb i db 0 with|some k=>some (.ptr k off)|none=>none
 |.sl i off n c=>match vb i db 0 with|some k=>some (.sl k off n c)|none=>none
 |.fS i off n c x=>match vb i db 0 with|some k=>some (.fS k off n c x)|none=>none
 |.pe i o j z q=>match vb i db 0 with|some k=>some (.pe k o j z q)|none=>none
 |.fn f a b=>match tq db a,tq db b with|some a',some b'=>some (.fn f a' b')|_,_=>none
 |.lD t v=>match oG db v with|some v'=>some (.lD t v')|none=>none
 |.agg l=>match tq db l with|some l'=>some (.agg l')|none=>none
 |.ao l=>match tq db l with|some l'=>some (.ao l')|none=>none
 |v=>some v
def tq (db:List Nat):List V->Option (List V)
 |[]=>some []
 |v::l=>match oG db v,tq db l with|some v',some l'=>some (v'::l')|_,_=>none
end
def I7 (bl:List VB) (db:List Nat):List Nat->Option (List VB)
 |[]=>some []
 |i::is=>match bl[i]?with
  |some b=>(match tq db b.c,I7 bl db is with
   |some c,some l=>some (⟨b.wr,b.ty,c⟩::l)
   |_,_=>none)
  |none=>none
def EO (db:List Nat):List Nat->List Nat
 |[]=>db
 |i::l=>match vb i db 0 with|some _=>EO db l|none=>EO (db++[i]) l
def Oo (bl:List VB):Nat->Nat->List Nat->List Nat
 |0,_,db=>db
 |n+1,k,db=>match db[k]?with
  |some i=>(match bl[i]?with
   |some b=>Oo bl n (k+1) (EO db (B9 b.c))
   |none=>db)
  |none=>db
def xn:Nat->List Nat
 |0=>[]
 |n+1=>xn n++[n]
def EP (n0:Nat) (v:V) (bl:List VB) (db:List Nat):Option (V×List VB):=bif BP db&&ER (xn n0) db then(match oG db v,I7 bl db db with|some v',some bl'=>some (v',bl')|_,_=>none)else none
where ER:List Nat->List Nat->Bool
 |[],_=>true
 |i::a,j::b=>ax i j&&ER a b
 |_::_,[]=>false
def bm {G:Type} (n0:Nat) (K:VK G):VK G:=λv bl ch=>match EP n0 v bl (Oo bl bl.length 0 (EO (xn n0) (I6 v)))with
 |some (v',bl')=>K v' bl' ch
 |none=>False
theorem Wy {i:Nat}:∀{l:List Nat} {k m:Nat},vb i l k=some m->k<=m/\l[m-k]?=some i
 |[],k,m,h=>by cases h
 |j::l,k,m,h=>by
  unfold vb at h;cases hb:ax j i with
  |true=>
   rw[hb]at h;obtain rfl:k=m:=by simpa using h
   exact⟨dE _,by simp[b9 hb]⟩
  |false=>
   rw[hb]at h;obtain⟨h1,h2⟩:=Wy (l:=l) h;refine⟨by omega,?_⟩;rw[show m-k=(m-(k+1))+1 by omega];simpa using h2
theorem I8 {ids db:List Nat} {i k:Nat} (h:vb i db 0=some k):(db.map λj=>ids.getD j 0).getD k 0=ids.getD i 0:=by
 have:=(Wy h).2;simp only[Nat.sub_zero]at this;simp[ij,this]
mutual
theorem I9 {ids db:List Nat}:∀(v:V) {v':V},oG db v=some v'->den (db.map λj=>ids.getD j 0) v'=den ids v
 |.ptr i off,v',h=>by
  simp only[oG]at h;split at h
  ·rename_i k hk;cases h;simp only[den,I8 hk]
  ·cases h
 |.sl i off n c,v',h=>by
  simp only[oG]at h;split at h
  ·rename_i k hk;cases h;simp only[den,I8 hk]
  ·cases h
 |.fS i off n c x,v',h=>by
  simp only[oG]at h;split at h
  ·rename_i k hk;cases h;simp only[den,I8 hk]
  ·cases h
 |.fn f a b,v',h=>by
  simp only[oG]at h;split at h
  ·rename_i a' b' ha hb;cases h;simp only[den,I_ a ha,I_ b hb]
  ·cases h
 |.lD t v,v',h=>by
  simp only[oG]at h;split at h
  ·rename_i u hu;cases h;simp only[den,I9 v hu]
  ·cases h
 |.agg l,v',h=>by
  simp only[oG]at h;split at h
  ·rename_i u hu;cases h;simp only[den,Oq l hu]
  ·cases h
 |.ao l,v',h=>by
  simp only[oG]at h;split at h
  ·rename_i u hu;cases h;simp only[den,I_ l hu]
  ·cases h
 |.int _ _,v',h=>by cases h;simp[den]
 |.bool _,v',h=>by cases h;simp[den]
 |.bH _ _ _,v',h=>by cases h;simp[den]
 |.arr _ _ _,v',h=>by cases h;simp[den]
 |.dS _ _ _ _,v',h=>by cases h;simp[den]
 |.rest _,v',h=>by cases h;simp[den]
 |.eU _ _ _,v',h=>by cases h;simp[den]
 |.pe i o j z q,v',h=>by
  simp only[oG]at h;split at h
  ·rename_i k hk;cases h;simp only[den,I8 hk]
  ·cases h
 |.raw _,v',h=>by cases h;simp[den]
theorem I_ {ids db:List Nat}:∀(l:List V) {l':List V},tq db l=some l'->aA (db.map λj=>ids.getD j 0) l'=aA ids l
 |[],l',h=>by cases h;rfl
 |v::l,l',h=>by
  simp only[tq]at h;split at h
  ·rename_i v1 l1 hv hl;cases h;simp only[aA,I9 v hv,I_ l hl]
  ·cases h
theorem Oq {ids db:List Nat}:∀(l:List V) {l':List V},tq db l=some l'->ah (db.map λj=>ids.getD j 0) l'=ah ids l
 |[],l',h=>by cases h;rfl
 |v::l,l',h=>by
  simp only[tq]at h;split at h
  ·rename_i v1 l1 hv hl;cases h;simp only[ah,I9 v hv,Oq l hl];congr 1;cases v<;>simp only[oG]at hv<;>(try split at hv)<;>first|(cases hv;rfl)|(cases hv;done)
  ·cases h
end
theorem Wz {ids db:List Nat} {bl:List VB} (hl:ids.length=bl.length):∀(is:List Nat) {bl':List VB},I7 bl db is=some bl'->(is.map λj=>ids.getD j 0).length=bl'.length/\
 lits (db.map λj=>ids.getD j 0) (is.map λj=>ids.getD j 0) bl'=(is.map λj=>ay ids (ids.getD j 0) (bl.getD j Wx))/\∀j∈is,j<bl.length
 |[],bl',h=>by cases h;simp[lits]
 |i::is,bl',h=>by
  unfold I7 at h;split at h
  ·rename_i b hb;split at h
   ·rename_i c l hc hL;cases h;obtain⟨h1,h2,h3⟩:=Wz hl is hL;have dh:i<bl.length:=by rcases cE i bl.length with h'|h';exact h';simp[h']at hb
    refine⟨by simpa using h1,?_,?_⟩
    ·simp only[eQ,lits,h2];congr 1;simp only[ay,Oq _ hc];simp[ij,hb]
    ·intro j hj;rcases bY.1 hj with rfl|hj
     ·exact dh
     ·exact h3 j hj
   ·cases h
  ·cases h
theorem WA (ids:List Nat):∀(is:List Nat) (bl:List VB),is.length=bl.length->lits ids is bl=(bh bl.length).map λj=>ay ids (is.getD j 0) (bl.getD j Wx)
 |[],[],_=>rfl
 |i::is,b::bl,h=>by
  rw[ly,uu,eQ,mG];simp only[lits];rw[WA ids is bl (by simpa using h)];rfl
theorem WB:∀{a b:List Nat},EP.ER a b=true->∃c,b=a++c
 |[],b,_=>⟨b,rfl⟩
 |i::a,j::b,h=>by
  simp only[EP.ER,a_]at h;obtain⟨c,rfl⟩:=WB h.2;exact⟨c,by simp[b9 h.1]⟩
 |_::_,[],h=>by cases h
theorem WC (ids:List Nat):∀n,n<=ids.length->(xn n).map (λj=>ids.getD j 0)=ids.take n
 |0,_=>by simp[xn]
 |n+1,h=>by
  simp only[xn,qT,eQ,uw,WC ids n (by omega)];rw[List.take_add_one];congr 1;have:n<ids.length:=by omega
  simp[ij,iK this]
theorem h_ {G:Type} {n0:Nat} {K:VK G} {v:V} {bl:List VB} {ch:List G} {ids:List Nat} {X:List ai} {ms:List Nat} {w0 w:ae} (hl:ids.length=bl.length) (hn:n0<=ids.length) (S:St ms w0 (lits ids ids bl++X) w) (h:bm n0 K v bl ch):
 ∃v' more bl',den ids v=den (ids.take n0++more) v'/\(ids.take n0++more).length=bl'.length/\St ms w0 (lits (ids.take n0++more) (ids.take n0++more) bl'++X) w/\K v' bl' ch:=by
 unfold bm at h;generalize Oo bl bl.length 0 (EO (xn n0) (I6 v))=db at h;unfold EP at h;cases hq:BP db&&EP.ER (xn n0) db with
 |false=>rw[hq]at h;exact h.elim
 |true=>
  rw[hq]at h;simp only[cond_true]at h;simp only[a_]at hq;have tj:=NU hq.1;obtain⟨c,hc⟩:=WB hq.2;split at h
  ·rename_i v' bl' hv;split at hv
   ·rename_i v1 jC sS lJ;cases hv;obtain⟨h1,h2,h3⟩:=Wz hl db lJ;have e:db.map (λj=>ids.getD j 0)=ids.take n0++c.map λj=>ids.getD j 0:=by
     rw[hc,qT,WC ids n0 hn]
    refine⟨_,c.map λj=>ids.getD j 0,_,?_,?_,?_,h⟩
    ·rw[<-e];exact(I9 v sS).symm
    ·rw[<-e];exact h1
    ·rw[<-e,h2];obtain⟨r,hr⟩:=Ea db (bh bl.length) tj (λx hx=>List.mem_range.2 (h3 x hx));rw[WA ids ids bl hl]at S;have S1:=S.perm ((hr.map _).append_right X);rw[qT]at S1;exact S1.sub (acB (List.sublist_append_left _ _) _)
   ·cases hv
  ·exact h.elim
theorem aek {P:aC} {w:ae} {b:Nat} {kd:eE} {l:List (Int×ab)} {kv:Int} {vv:ab} {mt kt et:aD} (hu:P.underlying mt=some (.map kt et)) (hk:P.underlying kt=some (.int kd)) (aK:w.heap[b]?=some (lX kd l)) (hn:l.all (λx=>x.1!=kv)=true):
 (acC mt (.map (some b)) (.int kd kv) vv).run P w=.ok () {w with heap:=w.heap.setIfInBounds b (lX kd (l++[(kv,vv)]))}:=by
 have qm:w.heap[b]?=some (.map ((l.zipIdx.map λx=>(⟨.int kd x.1.1,x.1.2,x.2⟩:uo)).toArray) l.length):=aK;have hf:My (.int kd) (.int kd kv) ((l.zipIdx.map λx=>(⟨.int kd x.1.1,x.1.2,x.2⟩:uo)).toArray).toList 0=some none:=Vc kd kv _ 0 (ac_ hn);have hc:(Instr.checkKey false 10000 kt (.int kd kv)).run P w=.ok () w:=MapKept.run_checkKey (k:=.int kd kv) hk (by simp[MapKept.IsKey]) false 9999;have ael:(acC mt (.map (some b)) (.int kd kv) vv).run P w=.ok () {w with heap:=w.heap.setIfInBounds b (Obj.map (((l.zipIdx.map λx=>(⟨.int kd x.1.1,x.1.2,x.2⟩:uo)).toArray).push ⟨.int kd kv,vv,l.length⟩) (l.length+1))}:=by
  generalize ((l.zipIdx.map λx=>(⟨.int kd x.1.1,x.1.2,x.2⟩:uo)).toArray)=es at*;simp[acC,dg hu,MapKept.run_getObj_map qm,hc,MapKept.run_findKey hk hf,MapKept.run_setObj_map _ qm,jb]
 rw[ael,ac9]
theorem aem {P:aC} {w:ae} {b:Nat} {kd:eE} {l:List (Int×ab)} {kv:Int} {v:ab} {mt kt et:aD} (hu:P.underlying mt=some (.map kt et)) (hk:P.underlying kt=some (.int kd)) (aK:w.heap[b]?=some (lX kd l))
 (hn:∃j,My (.int kd) (.int kd kv) ((l.zipIdx.map λx=>(⟨.int kd x.1.1,x.1.2,x.2⟩:uo)).toArray).toList 0=some (some (j,v))):(Instr.lookup mt (.map (some b)) (.int kd kv) true).run P w=.ok (.tuple #[v,.bool true]) w:=by
 obtain⟨j,hf⟩:=hn;have qm:w.heap[b]?=some (.map ((l.zipIdx.map λx=>(⟨.int kd x.1.1,x.1.2,x.2⟩:uo)).toArray) l.length):=aK;have hc:∀e,(Instr.checkKey e 10000 kt (.int kd kv)).run P w=.ok () w:=λe=>MapKept.run_checkKey (k:=.int kd kv) hk (by simp[MapKept.IsKey]) e 9999;simp[Instr.lookup,dg hu,MapKept.run_getObj_map qm,hc,MapKept.run_findKey hk hf,jb]
structure xp where
 id:Nat
 tb:List (Int×ab)
instance:Bl xp:=⟨λg=>[⟨g.id,true,lX .i64 g.tb⟩]⟩
def Ot (P:aC):(aZ->V)->Op->List VB->List xp->VK xp->Prop:=λe op bl ch K=>match op with
 |.makeMap t none=>(match ch with
  |[]=>∀id,K (.raw (.map (some id))) bl [⟨id,[]⟩]
  |_=>False)
 |.insert mt m k x=>(match ch,e m,e k with
  |[g],.raw mv,.int .i64 kv=>(match P.underlying mt with
   |some (.map kt _)=>(match P.underlying kt with
    |some (.int .i64)=>cond (g.tb.all (λx=>x.1!=kv)&&cz 0 (e x)) (mv=.map (some g.id)/\K fA bl [⟨g.id,g.tb++[(kv,den [] (e x))]⟩]) False
    |_=>False)
   |_=>False)
  |_,_,_=>False)
 |_=>False
theorem aen {P:aC} {gl:Nat->Option Nat}:fC P gl (Ot P):=by
 intro e op ids bl ch R ms w0 w K ρ o hg hl S aW ho h;unfold Ot at h;split at h
 ·rename_i t;split at h
  ·refine⟨_,[],bl,_,w.alloc (.map #[] 0),.inl ?_,by simpa using hl,?_,h w.heap.size⟩
   ·unfold execOp;simp[ho,run_makeMap,jb,den]
   ·have:=S.new (Ch.alloc [] w (.map #[] 0)) (dE _) (mC w _);rw[cI];refine this.perm ?_;exact jH.symm
  ·exact h.elim
 ·rename_i mt m k x;split at h
  ·rename_i g mv kv hm hk;split at h
   ·rename_i kt et hu;split at h
    ·rename_i Ou;cases hq:g.tb.all (λx=>x.1!=kv)&&cz 0 (e x)with
     |false=>rw[hq]at h;exact h.elim
     |true=>
      rw[hq]at h;simp only[cond_true]at h;simp only[a_]at hq;obtain⟨rfl,hK⟩:=h;have e0:lits ids ids bl++av [g] R=lits ids ids bl++(⟨g.id,true,lX .i64 g.tb⟩::R):=rfl;rw[e0]at S;have aK:=S.at' (x:=⟨g.id,true,lX .i64 g.tb⟩) (by simp);have hx:den ids (e x)=den [] (e x):=by have:=fy (ids:=[]) (more:=ids) (e x) hq.2;simpa using this
      have bE:=aek (P:=P) (vv:=den ids (e x)) hu Ou aK hq.1;refine⟨fA,[],bl,_,{w with heap:=w.heap.setIfInBounds g.id (lX .i64 (g.tb++[(kv,den ids (e x))]))},.inr ⟨?_,rfl⟩,by simpa using hl,?_,hK⟩
      ·unfold execOp;simp only[ho,aW,hm,hk,den]at bE⊢;simp only[bj,bE,cd];rfl
      ·rw[cI,<-hx];have hi:(lits ids ids bl++(⟨g.id,true,lX .i64 g.tb⟩::R))[(lits ids ids bl).length]?=some ⟨g.id,true,lX .i64 g.tb⟩:=by simp
       have:=S.step hi rfl (Ch.ac8 w g.id (lX .i64 (g.tb++[(kv,den ids (e x))]))) (MapKept.heap_set aK).1;rw[List.set_append_right _ _ (dE _),Nat.sub_self]at this;exact this
    ·exact h.elim
   ·exact h.elim
  ·exact h.elim
 ·exact h.elim
def Ov (P:aC) (gl:Nat->Option Nat) (L:List (bK xp)):Ctx xp:=⟨P,qk L,gl,tm L,Ot P,aen,λ_ _=>none⟩
def fE {G:Type} [Bl G] (P:aC) (gl:Nat->Option Nat) (L:List (bK G)) (h:(aZ->V)->Op->List VB->List G->VK G->Prop) (hok:fC P gl h):Ctx G:=⟨P,qk L,gl,tm L,h,hok,λ_ _=>none⟩
theorem Sound.gl {G:Type} [Bl G] {P:aC} {gl ES:Nat->Option Nat} {f:Nat} {c:cP G} (h:Sound P gl f c) (hg:∀ids,Gl ES ids->Gl gl ids):Sound P ES f c:=
 λargs ids bl ch R ms w0 w K h1 h2 S hc=>h args ids bl ch R ms w0 w K (hg ids h1) h2 S hc
inductive Sm (G:Type) where
 |g (x:G)
 |m (x:xp)
instance{G:Type} [Bl G]:Bl (Sm G):=⟨λx=>match x with|.g x=>Bl.B x|.m x=>Bl.B x⟩
def gs {G:Type}:List G->List (Sm G)
 |[]=>[]
 |x::l=>.g x::gs l
theorem WD {G:Type} [Bl G] (R:List ai):∀(l:List G) (r:List (Sm G)),av (gs l++r) R=av l (av r R)
 |[],r=>rfl
 |x::l,r=>by
  simp only[gs,fb,av,WD R l r];rfl
def ET {G:Type} (c:cP G):cP (Sm G):=λargs bl ch K=>match ch with
 |.g x::rest=>c args bl [x] λv bl' ch'=>K v bl' (gs ch'++rest)
 |_=>False
theorem aeo {G:Type} [Bl G] {P:aC} {gl:Nat->Option Nat} {f:Nat} {c:cP G} (h:Sound P gl f c):Sound P gl f (ET c):=by
 intro args ids bl ch R ms w0 w K hg hl S hc;unfold ET at hc;split at hc
 ·rename_i x rest;have e:av (.g x::rest:List (Sm G)) R=av [x] (av rest R):=rfl;rw[e]at S;refine(h args ids bl [x] (av rest R) ms w0 w _ hg hl S hc).mono ?_;rintro v w' ⟨y,more,bl',ch',rfl,h1,S1,hK⟩;exact⟨y,more,bl',_,rfl,h1,by rw[WD];exact S1,hK⟩
 ·exact hc.elim
theorem aep {G:Type} {c:cP G} (h:gO c):gO (ET c):=by
 intro args bl ch K hc;unfold ET at hc⊢;split at hc
 ·exact h _ _ _ _ hc
 ·exact hc.elim
def Ow {G:Type}:List (bK G)->List (bK (Sm G))
 |[]=>[]
 |e::l=>⟨e.f,e.q,ET e.c⟩::Ow l
theorem WE {G:Type} [Bl G] {P:aC} {gl ES:Nat->Option Nat} (hg:∀ids,Gl ES ids->Gl gl ids):∀{L:List (bK G)},aG P gl L->aG P ES (Ow L)
 |[],_=>aG.nil
 |e::l,h=>aG.cons ⟨aeo ((h e (by simp)).1.gl hg),λhq=>aep ((h e (by simp)).2 hq)⟩ (WE hg λx hx=>h x (by simp[hx]))
variable{G:Type} [Bl G]
def Ox (P:aC):(aZ->V)->Op->List VB->List G->VK G->Prop:=λe op bl ch K=>match op with
 |.call c=>(match c.callee,c.args.toList,c.argTypes.toList with
  |.builtin .append,[s,xs],[t,tx]=>(match P.underlying t,P.underlying tx with
   |some (.slice T),some (.slice _)=>(match rG P T,e s,e xs with
    |some (z,bG),.raw (.slice none 0 0),.sl i 0 (m+1) _=>(match bl[i]?with
     |some b=>cond (ax (bW b.c) ((m+1)*z)&&(lF b.c&&(bA bG 10000000&&(bA (m+1) 1000000&&(ba bl.length b.c&&bI bl.length bl)))))
      (∀(c':Nat) (u:List ab),m+1<=c'->bW (b.c++[.rest u])=c'*z->K (.sl bl.length 0 (m+1) c') (bl++[⟨true,T,b.c++[.rest u]⟩]) ch) False
     |none=>False)
    |_,_,_=>False)
   |_,_=>False)
  |_,_,_=>False)
 |_=>False
theorem aeq {P:aC} {gl:Nat->Option Nat}:fC (G:=G) P gl (Ox P):=by
 intro e op ids bl ch R ms w0 w K ρ o hg hl S aW ho h;unfold Ox at h;split at h
 ·rename_i c;split at h
  ·rename_i s xs t tx eb cC dr;split at h
   ·rename_i T T' ht fH;split at h
    ·rename_i z bG i m mf bS fQ fk;split at h
     ·rename_i b hb;cases hq:ax (bW b.c) ((m+1)*z)&&(lF b.c&&(bA bG 10000000&&(bA (m+1) 1000000&&(ba bl.length b.c&&bI bl.length bl))))with
      |false=>rw[hq]at h;exact h.elim
      |true=>
       rw[hq]at h;simp only[cond_true]at h;simp only[a_]at hq;obtain⟨q3,q4,q5,q6,q9,EM⟩:=hq;have q3:=b9 q3;have q5:=dz q5;have q6:=dz q6;have aK:=(fp hl S hb).2;have va:(ah ids b.c).length=(m+1)*z:=by rw[j6,q3]
       have eY:Src P z tx (.slice (some ⟨ids.getD i 0,0,none⟩) (m+1) mf) (m+1) (ah ids b.c) w:=by
        refine qR w fH ⟨ids.getD i 0,0,none⟩ (m+1) mf _ va (λj u hj=>?_) (λu hu=>zi q4 u hu);rw[hU,cell_of aK];simpa using hj
       have lJ:(0+(m+1))*bG<=140737488355328:=iH (Nat.mul_le_mul (by omega:0+(m+1)<=1000000) q5) (by decide);obtain⟨l9,ar,gA⟩:=c;simp only at eb cC dr;have e2:ar=#[s,xs]:=by rw[<-cC]
       have e3:gA=#[t,tx]:=by rw[<-dr]
       subst eb e2 e3;obtain⟨v,w',bE,hc,x',c',bl',rfl,⟨r1,r2,r3⟩,me⟩:=Bp (P:=P) (ty:=o.type) (wN z T) (by simp) bG eY ht (EL bS) lJ (iH (by omega:0+(m+1)<=1000000) (by decide));rcases r3 with⟨_,h0,_⟩|⟨b',tail,rfl,rfl,hlen⟩
       ·omega
       ·obtain⟨hh,hid⟩:=me _ (i_.2 rfl);have eo:w.heap.size<=b':=by
         rcases hid with⟨u,hu,_⟩|h
         ·cases hu
         ·exact h
        simp only[fc,eh]at hh hlen r2 bE;have dd:∀(is:List Nat) (u:List ab),ah is (b.c++[.rest u])=ah is b.c++u:=λis u=>by
         rw[iq];simp[ah,cl]
        have EN:ba ids.length (b.c++[.rest tail])=true:=by
         rw[hl];have B8:∀(x y:List V),ba bl.length x=true->ba bl.length y=true->ba bl.length (x++y)=true:=by
          intro x y;induction x with
          |nil=>intro _ h;simpa using h
          |cons v x ih=>intro h1 h2;simp only[fb,ba,a_]at h1⊢;exact⟨h1.1,ih h1.2 h2⟩
         exact B8 _ _ q9 rfl
        refine⟨_,[b'],_,ch,w',.inl ?_,by simp[hl],?_,h c' tail r2 ?_⟩
        ·have:=iR (P:=P) (ρ:=ρ) (o:=o) ho (sv:=.slice none 0 0) (xv:=.slice (some ⟨ids.getD i 0,0,none⟩) (m+1) mf) (by rw[aW,fQ];simp only[den]) (by rw[aW,fk];simp only[den]) bE;rw[this];simp only[den];rw[<-hl,j7]
        ·rw[eZ _ _ _ _ hl,e_ _ _ (by rw[hl];exact EM)];simp only[lits,ay];rw[jO _ EN,dd];have:=S.new hc eo hh;refine this.perm ?_;rw[bN (lits ids ids bl)];exact(jH).symm
        ·rw[<-j6 (ids:=ids),dd,hlen]
     ·exact h.elim
    ·exact h.elim
   ·exact h.elim
  ·exact h.elim
 ·exact h.elim
theorem xq {P:aC} {gl:Nat->Option Nat} {a b:(aZ->V)->Op->List VB->List G->VK G->Prop} (t:(aZ->V)->Op->Bool) (ha:fC P gl a) (hb:fC P gl b):fC P gl (λe op bl ch K=>cond (t e op) (a e op bl ch K) (b e op bl ch K)):=by
 intro e op ids bl ch R ms w0 w K ρ o hg hl S aW ho h;cases ht:t e op with
 |true=>simp only[ht]at h;exact ha e op ids bl ch R ms w0 w K ρ o hg hl S aW ho h
 |false=>simp only[ht]at h;exact hb e op ids bl ch R ms w0 w K ρ o hg hl S aW ho h
def WG (e:aZ->V) (op:Op):Bool:=match op with
 |.call c=>(match c.args.toList with
  |s::_=>(match e s with|.sl _ _ _ _=>true|_=>false)
  |_=>false)
 |_=>false
def EU (P:aC):(aZ->V)->Op->List VB->List G->VK G->Prop:=λe op bl ch K=>cond (WG e op) (I5 P e op bl ch K) (Ox P e op bl ch K)
theorem Ja {P:aC} {gl:Nat->Option Nat}:fC (G:=G) P gl (EU P):=xq WG Ww aeq
end Vx
namespace Vx
open Go Sx
section
variable{ids:List Nat} {P:aC} {w:ae}
theorem Oy {n:Nat} (h:n<=1000000):i64.wrap (n:Int)=n:=by simp[sE,pJ,pL];omega
theorem run_mk {t el:aD} {n z:Nat} {zc:List V} {inf:TypeInfo} {k1 k2:eE} (hu:P.underlying t=some (.slice el)) (hi:P.info? el=some inf) (hz:dX P el=some (z+1)) (h0:l7 P el=some zc) (hl:bW zc=z+1) (h1:1<=n) (hn:n<=1000000) (hb:inf.bytes<=100):
 (Ux t (.int k1 (n:Int)) (.int k2 (n:Int))).run P w=.ok (.slice (some ⟨w.heap.size,0,none⟩) n n) (w.alloc (.cells (ah ids (kC zc n)).toArray el)):=by
 obtain⟨v0,z1,z2⟩:=zj (P:=P) (w:=w) (ids:=ids) h0;have hv:v0.cells.size=z+1:=by rw[<-Array.length_toList,z2,j6,hl]
 have Er:(Array.range (n*(z+1))).map (λi=>v0.cells[i%v0.cells.size]!)=(ah ids (kC zc n)).toArray:=by
  apply eO;rw[NB v0.cells z hv,z2,Vy]
 have hm:inf.bytes*n<=100000000:=iH (Nat.mul_le_mul hb hn) (by decide);have e1:(decide ((n:Int)<0)||decide ((inf.bytes:Int)*(n:Int)>2^48))=false:=by
  have:(inf.bytes:Int)*(n:Int)<=100000000:=by
   have q:=Int.ofNat_le.2 hm;rw[Int.natCast_mul]at q;exact q
  rw[decide_eq_false (by omega),decide_eq_false (by omega)];rfl
 have e2:¬(n*inf.bytes>roomBytes):=by
  have:n*inf.bytes<=100000000:=by rw[Nat.mul_comm];exact hm
  show¬(n*inf.bytes>_);unfold roomBytes;omega
 have e3:¬n*(z+1)=0:=by
  intro h;rcases Nat.mul_eq_zero.1 h with h|h<;>omega
 simp only[Ux,bj,dg hu,cd,asInt,asIntOf,cW,IA hi,Oy hn,e1,Bool.false_or,askRoom,if_neg e2,ux,gj hz,if_neg e3,z1];simp only[show decide ((n:Int)<0)=false by simp,show decide ((n:Int)>(n:Int))=false by simp,Bool.or_self,Bool.false_eq_true,if_false,bj,cW,cd,gj hz,if_neg e3,z1];rw[Er];rfl
end
variable{G:Type} [Bl G]
def eV (P:aC):(aZ->V)->Op->List VB->List G->VK G->Prop:=λe op bl ch K=>match op with
 |.makeSlice t l c=>(match P.underlying t,e l,e c with
  |some (.slice el),.int _ (.ofNat n),.int _ (.ofNat m)=>(match P.info? el,dX P el,l7 P el with
   |some inf,some (z+1),some zc=>cond (ax n m&&(ax (bW zc) (z+1)&&(bA 1 n&&(bA n 1000000&&(bA inf.bytes 100&&(bI bl.length bl&&ba bl.length (kC zc n))))))) (K (.sl bl.length 0 n n) (bl++[⟨true,el,kC zc n⟩]) ch) False
   |_,_,_=>False)
  |_,_,_=>False)
 |_=>False
theorem aer {P:aC} {gl:Nat->Option Nat}:fC (G:=G) P gl (eV P):=by
 intro e op ids bl ch R ms w0 w K ρ o hg hl S aW ho h;unfold eV at h;split at h
 ·rename_i t l c;split at h
  ·rename_i el k1 n k2 m hu nE EV;split at h
   ·rename_i inf z zc hi hz h0;cases hq:ax n m&&(ax (bW zc) (z+1)&&(bA 1 n&&(bA n 1000000&&(bA inf.bytes 100&&(bI bl.length bl&&ba bl.length (kC zc n))))))with
    |false=>rw[hq]at h;exact h.elim
    |true=>
     rw[hq]at h;simp only[a_]at hq;obtain⟨q1,q2,q3,q4,q5,q6,q7⟩:=hq;obtain rfl:=b9 q1;have bE:=run_mk (ids:=ids) (w:=w) (k1:=k1) (k2:=k2) hu hi hz h0 (b9 q2) (dz q3) (dz q4) (dz q5);obtain⟨g1,g2⟩:=grow hl S ⟨true,el,kC zc n⟩ rfl rfl (by rw[hl];exact q6) (by rw[hl];exact q7);refine⟨_,[w.heap.size],_,ch,_,.inl ?_,g2,g1,h⟩;unfold execOp;rw[ho];simp only[aW,nE,EV,den];have e1:cU n=(n:Int):=rfl;rw[e1,bj,bE,cd,cW,<-hl,j7]
   ·exact h.elim
  ·exact h.elim
 ·exact h.elim
def WH (e:aZ->V) (op:Op):Bool:=match op with
 |.makeSlice _ _ _=>true
 |_=>false
def B_ (P:aC):(aZ->V)->Op->List VB->List G->VK G->Prop:=λe op bl ch K=>cond (WH e op) (eV P e op bl ch K) (EU P e op bl ch K)
theorem EW {P:aC} {gl:Nat->Option Nat}:fC (G:=G) P gl (B_ P):=xq WH aer Ja
end Vx
namespace Vx
open Go Go.RowKit Go.BigFrame Sx
theorem aes {P:aC} {w:ae} {z T m:Nat} {x:Option aI} {news:List ab} {t tx ty:aD} {xv:ab} (bytes:Nat) (hs:Src P z tx xv m news w) (jL:0<m) (ht:P.underlying t=some (.slice T))
 (hi:(P.info? T).map (λi=>(i.zero.map (·.cells.size),i.size,i.bytes))=some (some z,z,bytes)) (hb:m*bytes<=140737488355328) (h63:m<=maxLen):
 ∃b' c' xm w',(mD #[t,tx] ty #[.slice x 0 0,xv]).run P w=.ok (.slice (some ⟨b',0,none⟩) m c') w'/\Ch [] w w'/\w.heap.size<=b'/\w'.heap[b']?=some (.cells (news++xm).toArray T (0,0))/\(news++xm).length=c'*z/\m<=c':=by
 obtain⟨i,bS,hi⟩:=gH.1 hi;simp only[bd]at hi;obtain⟨hz,di,gW⟩:=hi;obtain⟨z0,kV,mL⟩:=gH.1 hz;have ou:=hs.newsLen;have iQ:Src P i.size tx xv m news w:=by rw[di];exact hs
 have hold:(Builtin.firstCells i.size 0 (.slice x 0 0)).run P w.drew=.ok ([]:List ab).toArray w.drew:=by
  cases x with
  |none=>exact run_firstCells_none (P:=P) w.drew i.size 0 0 0
  |some a=>exact run_firstCells_some (P:=P) w.drew i.size 0 a 0 0 [] (by simp) (λj v hj=>by simp at hj)
 have bE:=run_append_grow_src (P:=P) w t tx ty T i z0 ht bS kV x 0 0 [] hold xv m news iQ (by omega) (by simp only[maxLen]at h63;omega) (by rw[gW];exact growslice_fits (by omega) (by rw[eh];exact hb));simp only[eh]at bE;have eo:=grownCap_ge w m 0 T;refine⟨w.heap.size,grownCap w m 0 T,(nz z0.cells (grownCap w m 0 T-m)).toList,_,bE,?_,dE _,?_,?_,eo⟩
 ·exact((Ch.refl [] w).drew).trans (Ch.alloc [] w.drew _) (λx hx=>.inl hx)
 ·have:=mC w.drew (.cells ((([]:List ab)++news).toArray++nz z0.cells (grownCap w m 0 T-m)) T);refine Eq.trans this ?_;congr 2;apply eO;simp
 ·rw[fi,ou,Array.length_toList,size_zeroCells,mL,<-lU];congr 1;omega
variable{G:Type} [Bl G]
def zC (P:aC):(aZ->V)->Op->List VB->List G->VK G->Prop:=λe op bl ch K=>match op with
 |.call c=>(match c.callee,c.args.toList,c.argTypes.toList with
  |.builtin .append,[s,xs],[t,tx]=>(match P.underlying t,P.underlying tx with
   |some (.slice T),some (.slice _)=>(match rG P T,e s,e xs with
    |some (z,bG),.sl _ _ 0 0,.sl i 0 (m+1) _=>(match bl[i]?with
     |some b=>(match wV b.c 0 ((m+1)*z)with
      |some C=>cond (lF C&&(bA bG 10000000&&(bA (m+1) 1000000&&(ba bl.length C&&bI bl.length bl))))
       (∀(c':Nat) (u:List ab),m+1<=c'->bW (C++[.rest u])=c'*z->K (.sl bl.length 0 (m+1) c') (bl++[⟨true,T,C++[.rest u]⟩]) ch) False
      |none=>False)
     |none=>False)
    |_,_,_=>False)
   |_,_=>False)
  |_,_,_=>False)
 |_=>False
theorem Oz {P:aC} {gl:Nat->Option Nat}:fC (G:=G) P gl (zC P):=by
 intro e op ids bl ch R ms w0 w K ρ o hg hl S aW ho h;unfold zC at h;split at h
 ·rename_i c;split at h
  ·rename_i s xs t tx eb cC dr;split at h
   ·rename_i T T' ht fH;split at h
    ·rename_i z bG j0 o0 i m mf bS fQ fk;split at h
     ·rename_i b hb;split at h
      ·rename_i C hC;cases hq:lF C&&(bA bG 10000000&&(bA (m+1) 1000000&&(ba bl.length C&&bI bl.length bl)))with
       |false=>rw[hq]at h;exact h.elim
       |true=>
        rw[hq]at h;simp only[cond_true]at h;simp only[a_]at hq;obtain⟨q4,q5,q6,q9,EM⟩:=hq;have q5:=dz q5;have q6:=dz q6;have aK:=(fp hl S hb).2;obtain⟨g1,g2,g3⟩:=wW (ids:=ids) hC;rw[List.drop_zero]at g1;have va:(ah ids C).length=(m+1)*z:=by rw[<-g1,uk];omega
        have eY:Src P z tx (.slice (some ⟨ids.getD i 0,0,none⟩) (m+1) mf) (m+1) (ah ids C) w:=by
         refine qR w fH ⟨ids.getD i 0,0,none⟩ (m+1) mf _ va (λj u hj=>?_) (λu hu=>zi q4 u hu);rw[hU,cell_of aK];rw[<-g1]at hj;have wK:j<(m+1)*z:=by
          rcases cE j ((m+1)*z)with h|h
          ·exact h
          ·rw[ig (by rw[uk];omega)]at hj;cases hj
         rw[Uy wK]at hj;simpa using hj
        have lJ:(m+1)*bG<=140737488355328:=iH (Nat.mul_le_mul q6 q5) (by decide);obtain⟨l9,ar,gA⟩:=c;simp only at eb cC dr;have e2:ar=#[s,xs]:=by rw[<-cC]
        have e3:gA=#[t,tx]:=by rw[<-dr]
        subst eb e2 e3;obtain⟨b',c',tail,w',bE,hc,eo,hh,hlen,r2⟩:=aes (P:=P) (ty:=o.type) (x:=some ⟨ids.getD j0 0,o0,none⟩) bG eY (by omega) ht (EL bS) lJ (iH q6 (by decide));have dd:∀(is:List Nat) (u:List ab),ah is (C++[.rest u])=ah is C++u:=λis u=>by
         rw[iq];simp[ah,cl]
        have EN:ba ids.length (C++[.rest tail])=true:=by
         rw[hl];have B8:∀(x y:List V),ba bl.length x=true->ba bl.length y=true->ba bl.length (x++y)=true:=by
          intro x y;induction x with
          |nil=>intro _ h;simpa using h
          |cons v x ih=>intro h1 h2;simp only[fb,ba,a_]at h1⊢;exact⟨h1.1,ih h1.2 h2⟩
         exact B8 _ _ q9 rfl
        refine⟨_,[b'],_,ch,w',.inl ?_,by simp[hl],?_,h c' tail r2 ?_⟩
        ·have:=iR (P:=P) (ρ:=ρ) (o:=o) ho (sv:=.slice (some ⟨ids.getD j0 0,o0,none⟩) 0 0) (xv:=.slice (some ⟨ids.getD i 0,0,none⟩) (m+1) mf) (by rw[aW,fQ];simp only[den]) (by rw[aW,fk];simp only[den]) bE;rw[this];simp only[den];rw[<-hl,j7]
        ·rw[eZ _ _ _ _ hl,e_ _ _ (by rw[hl];exact EM)];simp only[lits,ay];rw[jO _ EN,dd];have:=S.new hc eo hh;refine this.perm ?_;rw[bN (lits ids ids bl)];exact(jH).symm
        ·rw[<-j6 (ids:=ids),dd,hlen]
      ·exact h.elim
     ·exact h.elim
    ·exact h.elim
   ·exact h.elim
  ·exact h.elim
 ·exact h.elim
def OA (P:aC):(aZ->V)->Op->List VB->List G->VK G->Prop:=λe op bl ch K=>match op with
 |.call c=>(match c.callee,c.args.toList,c.argTypes.toList with
  |.builtin .append,[s,xs],[t,tx]=>(match P.underlying t,P.underlying tx with
   |some (.slice T),some (.slice _)=>(match P.info? T,e s,e xs with
    |some _,.sl j o n c,.sl _ _ 0 _=>cond (bA n c) (K (.sl j o n c) bl ch) False
    |some _,.raw (.slice none 0 0),.raw (.slice none 0 0)=>K (.raw (.slice none 0 0)) bl ch
    |_,_,_=>False)
   |_,_=>False)
  |_,_,_=>False)
 |.typeAssert x _ t true=>(match e x,P.underlying t with
  |.lD t' v,some (.struct _)=>cond (ax t' t) (K (.ao [v,.bool true]) bl ch) False
  |_,_=>False)
 |_=>False
theorem aet {P:aC} {gl:Nat->Option Nat}:fC (G:=G) P gl (OA P):=by
 intro e op ids bl ch R ms w0 w K ρ o hg hl S aW ho h;unfold OA at h;split at h
 ·rename_i c;split at h
  ·rename_i s xs t tx eb cC dr;split at h
   ·rename_i T T' ht fH;obtain⟨l9,ar,gA⟩:=c;simp only at eb cC dr;have e2:ar=#[s,xs]:=by rw[<-cC]
    have e3:gA=#[t,tx]:=by rw[<-dr]
    subst eb e2 e3;split at h
    ·rename_i inf j o0 n c i o1 c1 bS fQ fk;cases hq:bA n c with
     |false=>rw[hq]at h;exact h.elim
     |true=>
      rw[hq]at h;have bE:=run_append_nothing (P:=P) w t tx o.type T inf ht bS (some ⟨ids.getD j 0,o0,none⟩) n c (dz hq) (.slice (some ⟨ids.getD i 0,o1,none⟩) 0 c1) (qR w fH _ 0 c1 [] (by simp) (λj u hj=>by simp at hj) (λu hu=>by simp at hu));refine⟨_,[],bl,ch,w,.inl ?_,by simpa using hl,by simpa using S,h⟩;have:=iR (P:=P) (ρ:=ρ) (o:=o) ho (by rw[aW,fQ];simp only[den]) (by rw[aW,fk];simp only[den]) bE;rw[this];simp only[den,cI]
    ·rename_i inf bS fQ fk;have bE:=run_append_nothing (P:=P) w t tx o.type T inf ht bS none 0 0 (dE _) (.slice none 0 0) (Src.ofNil w fH 0);refine⟨_,[],bl,ch,w,.inl ?_,by simpa using hl,by simpa using S,h⟩;have:=iR (P:=P) (ρ:=ρ) (o:=o) ho (by rw[aW,fQ];simp only[den]) (by rw[aW,fk];simp only[den]) bE;rw[this];simp only[den]
    ·exact h.elim
   ·exact h.elim
  ·exact h.elim
 ·rename_i x xt t;split at h
  ·rename_i t' v fs hx hu;cases hq:ax t' t with
   |false=>rw[hq]at h;exact h.elim
   |true=>
    rw[hq]at h;obtain rfl:=b9 hq;refine⟨_,[],bl,ch,w,.inl ?_,by simpa using hl,by simpa using S,h⟩;unfold execOp;simp only[ho,aW,hx,den,aA,Instr.typeAssert,bj,dg hu,cd,if_true,cW,cI];try rfl
  ·exact h.elim
 ·exact h.elim
def WI (e:aZ->V) (op:Op):Bool:=match op with
 |.call c=>(match c.args.toList with
  |[_,x]=>(match e x with|.sl _ _ 0 _=>true|.raw (.slice none 0 0)=>true|_=>false)
  |_=>false)
 |.typeAssert .. =>true
 |_=>false
def WJ (e:aZ->V) (op:Op):Bool:=match op with
 |.call c=>(match c.args.toList with
  |s::_=>(match e s with|.sl _ _ 0 0=>true|_=>false)
  |_=>false)
 |_=>false
def EX (P:aC):(aZ->V)->Op->List VB->List G->VK G->Prop:=λe op bl ch K=>cond (WI e op) (OA P e op bl ch K) (cond (WJ e op) (zC P e op bl ch K) (B_ P e op bl ch K))
theorem Jb {P:aC} {gl:Nat->Option Nat}:fC (G:=G) P gl (EX P):=xq WI aet (xq WJ Oz EW)
end Vx
namespace Go.Proofs.YtggfpcggakghnaaGreatDoor
section
open Go Go.RowKit Go.BigFrame Sx Vx
def Ca:List Nat->List V->Nat->Option V
 |i::is,v::vs,t=>bif ax i t then some v else Ca is vs t
 |_,_,_=>none
def Jc (ix:List Nat) (vs:List V):Nat->Nat->List (Option V)
 |0,_=>[]
 |n+1,i=>Ca ix vs i::Jc ix vs n (i+1)
def EY:List Nat->List V->List V
 |[],_=>[]
 |i::is,fr=>nth fr i::EY is fr
theorem OB {n:Nat} {fr:List V}:∀(ix:List Nat) (vs:List V),EY ix fr=vs->ba n vs=true->∀t v,Ca ix vs t=some v->nth fr t=v/\cz n v=true
 |[],vs,_,_,t,v,h=>by cases vs<;>cases h
 |i::is,[],h,_,t,v,_=>by cases h
 |i::is,u::vs,h,hw,t,v,hl=>by
  simp only[EY,List.cons.injEq]at h;simp only[ba,a_]at hw;unfold Ca at hl;cases hb:ax i t with
  |true=>
   rw[hb]at hl;cases hl;obtain rfl:=b9 hb;exact⟨h.1,hw.1⟩
  |false=>
   rw[hb]at hl;exact OB is vs h.2 hw.2 t v hl
theorem OC {n:Nat} {dJ:List V} {ix:List Nat} {vs:List V} (h:∀t v,Ca ix vs t=some v->nth dJ t=v/\cz n v=true):∀(N i:Nat) (fr:List V),fr.length=N->(∀k,nth dJ (i+k)=nth fr k)->BM n (Jc ix vs N i) fr
 |0,_,[],_,_=>trivial
 |0,_,_::_,hl,_=>by simp at hl
 |N+1,i,[],hl,_=>by simp at hl
 |N+1,i,v::fr,hl,hn=>by
  unfold Jc;have ih:=OC h N (i+1) fr (by simpa using hl) (λk=>by have:=hn (k+1);simp only[jx,jy,je]at this;rw[<-this];congr 1;omega);have h0:=hn 0;simp only[jx,jy,je,nZ]at h0;cases hk:Ca ix vs i with
  |none=>exact ih
  |some u=>
   obtain⟨h1,h2⟩:=h i u hk;exact⟨h0.symm.trans h1,h2,ih⟩
section
variable{G:Type} {X:Type}
def EZ (dB:X->List V) (bl:X->List VB) (ch:X->List G) (vs:List V) (b:List VB) (c:List G):Prop:=∃x,vs=dB x/\b=bl x/\c=ch x
def E0 (m:X->Nat) (dB:X->List V) (bl:X->List VB) (ch:X->List G) (x:X) (vs:List V) (b:List VB) (c:List G):Prop:=∃y,m y<m x/\vs=dB y/\b=bl y/\c=ch y
def Jd (m:X->Nat) (N n0:Nat) (ix:List Nat) (dB:X->List V) (bl:X->List VB) (ch:X->List G) (h1:∀x,(bl x).length=n0) (h2:∀x,bI n0 (bl x)=true) (h3:∀x,ba n0 (dB x)=true):Lp G where
 X:=X
 m:=m
 fr x:=Jc ix (dB x) N 0
 bl:=bl
 ch:=ch
 NJ fr b c:=ax fr.length N=true/\EZ dB bl ch (EY ix fr) b c
 en x fr b c:=ax fr.length N=true/\E0 m dB bl ch x (EY ix fr) (b.take n0) c
 VL:=by
  rintro fr b c ⟨hl,x,hv,rfl,rfl⟩;refine⟨x,?_,rfl,rfl⟩;rw[h1];exact OC (OB ix _ hv (h3 x)) N 0 fr (b9 hl) (λk=>by rw[eh])
 ok:=by
  rintro x fr b c ⟨hl,y,hm,hv,hb,rfl⟩;refine⟨y,hm,?_,by rw[h1,h1],by rw[h1];exact h2 y,⟨b.drop n0,?_⟩,rfl⟩
  ·rw[h1];exact OC (OB ix _ hv (h3 y)) N 0 fr (b9 hl) (λk=>by rw[eh])
  ·rw[<-hb,iZ]
end
def tu {G:Type} [Bl G] (P:aC) (gl:Nat->Option Nat) (L:List (bK G)) (lp:Nat->Option (Lp G)):Ctx G:=⟨P,qk L,gl,tm L,IH,NI,λi _=>lp i⟩
theorem aG.TL {G:Type} [Bl G] {P:aC} {gl:Nat->Option Nat} {L:List (bK G)} {lp:Nat->Option (Lp G)} (h:aG P gl L):∀f c,(tu P gl L lp).T f=some c->Sound (tu P gl L lp).P (tu P gl L lp).gl f c:=h.T
theorem aG.QL {G:Type} [Bl G] {P:aC} {gl:Nat->Option Nat} {L:List (bK G)} {lp:Nat->Option (Lp G)} (h:aG P gl L):oE (tu P gl L lp):=h.Q
def cR:Nat->Option Nat:=λ_=>none
def OD {G:Type} (i:Nat) (I:Lp G):Nat->Option (Lp G):=λj=>bif ax j i then some I else none
def cx (k:Nat):Int:=([1116352408,1899447441,3049323471,3921009573,961987163,1508970993,2453635748,2870763221,3624381080,310598401,607225278,1426881987,1925078388,2162078206,2614888103,3248222580,3835390401,4022224774,264347078,604807628,770255983,1249150122,1555081692,1996064986,2554220882,2821834349,2952996808,3210313671,3336571891,3584528711,113926993,338241895,666307205,773529912,1294757372,1396182291,1695183700,1986661051,2177026350,2456956037,2730485921,2820302411,3259730800,3345764771,3516065817,3600352804,4094571909,275423344,430227734,506948616,659060556,883997877,958139571,1322822218,1537002063,1747873779,1955562222,2024104815,2227730452,2361852424,2428436474,2756734187,3204031479,3329325298]:List Int).getD k 0
def nF (n:Nat) (x:Int):Int:=bits .or .u32 (u32.wrap (x*2^(32-n))) (iM x (2^n))
def xu:QF:=⟨202,λargs _=>match args with
 |[.int .u32 a,.int .i64 (.ofNat n)]=>(match n with
  |2|6|7|11|13|17|18|19|22|25=>some (True,.int .u32 (nF n a))
  |_=>none)
 |_=>none⟩
theorem vq0 {f:Nat} {xs:List V} {v:V} {n:Nat} (h:∀K,dL prog [] n f xs K=K v) (ha:ba 0 xs=true) (hv:cz 0 v=true) {ids:List Nat} {w:ae}:aQ prog f (aA ids xs).toArray w λx w'=>x=den ids v/\Ch [] w w':=
 zB bF.nil n (by rw[h]) ha hv ids w
theorem WK (gl:Nat->Option Nat):xu.Ok prog gl:=by
 intro args bl p_ v_ h hp ids w _ _;unfold xu at h;dsimp only at h;split at h
 ·rename_i a n;split at h<;>first|cases h;done|(simp only[aS,bd]at h;obtain⟨rfl,rfl⟩:=h;exact vq0 (n:=30) (λK=>by kernel_rfl) rfl rfl)
 ·cases h
def w1E (f:Nat->Int) (i:Int):Int:=bits .or .u32 (bits .or .u32 (bits .or .u32 (u32.wrap (u32.wrap (f (0+(i64.wrap (4*i)).toNat))*2^24)) (u32.wrap (u32.wrap (f (0+(i64.wrap (i64.wrap (4*i)+1)).toNat))*2^16)))
 (u32.wrap (u32.wrap (f (0+(i64.wrap (i64.wrap (4*i)+2)).toNat))*2^8))) (u32.wrap (f (0+(i64.wrap (i64.wrap (4*i)+3)).toNat)))
def zE (f:Nat->Int):Nat->Nat->Int
 |0=>λ_=>0
 |k+1=>mN (zE f k) (0+((k:Nat):Int).toNat) (w1E f (k:Nat))
def w2E (V:Nat->Int) (k:Int):Int:=
 let at_:=λd:Int=>V (0+(i64.wrap (k-d)).toNat)
 u32.wrap (u32.wrap (u32.wrap (at_ 16+at_ 7)+bits .xor .u32 (bits .xor .u32 (nF 7 (at_ 15)) (nF 18 (at_ 15))) (iM (at_ 15) (2^3)))+bits .xor .u32 (bits .xor .u32 (nF 17 (at_ 2)) (nF 19 (at_ 2))) (iM (at_ 2) (2^10)))
def lK (f:Nat->Int):Nat->Nat->Int
 |0=>zE f 16
 |k+1=>mN (lK f k) (0+((16+k:Nat):Int).toNat) (w2E (lK f k) ((16+k:Nat):Int))
def l8 (a b c d e f g h:Int):Nat->Int:=λj=>([a,b,c,d,e,f,g,h]:List Int).getD j 0
def rE (N W:Nat->Int) (k:Int):Nat->Int:=(l8 (u32.wrap ((u32.wrap ((u32.wrap ((u32.wrap ((u32.wrap ((N 7)+(bits .xor .u32 (bits .xor .u32 (nF 6 (N 4)) (nF 11 (N 4))) (nF 25 (N 4)))))+(bits .or .u32 (bits .and .u32 (N 4) (N 5)) (bits .and .u32 (bits .xor .u32 4294967295 (N 4)) (N 6)))))+(cx (0+(k).toNat))))+(W (0+(k).toNat))))+(u32.wrap ((bits .xor .u32 (bits .xor .u32 (nF 2 (N 0)) (nF 13 (N 0))) (nF 22 (N 0)))+(bits .or .u32 (bits .or .u32 (bits .and .u32 (N 0) (N 1)) (bits .and .u32 (N 0) (N 2))) (bits .and .u32 (N 1) (N 2))))))) (N 0) (N 1) (N 2) (u32.wrap ((N 3)+(u32.wrap ((u32.wrap ((u32.wrap ((u32.wrap ((N 7)+(bits .xor .u32 (bits .xor .u32 (nF 6 (N 4)) (nF 11 (N 4))) (nF 25 (N 4)))))+(bits .or .u32 (bits .and .u32 (N 4) (N 5)) (bits .and .u32 (bits .xor .u32 4294967295 (N 4)) (N 6)))))+(cx (0+(k).toNat))))+(W (0+(k).toNat)))))) (N 4) (N 5) (N 6))
def zF (h W:Nat->Int):Nat->Nat->Int
 |0=>h
 |n+1=>rE (zF h W n) W (n:Int)
def tv (h f:Nat->Int):Nat->Int:=λj=>u32.wrap (zF h (lK f 48) 64 j+h j)
def mT (m:Int) (n:Nat) (X:Prop):Prop:=(0<=m/\m<(n:Int))/\0+m.toNat<n/\X
theorem nG {m:Int} {n:Nat} {X:Prop} (h:0<=m/\m<(n:Int)) (k:X):mT m n X:=⟨h,by omega,k⟩
theorem jR {x:Int} (h:-9223372036854775808<=x/\x<=9223372036854775807):i64.wrap x=x:=by simp[sE,pJ,pL];omega
section
variable(f:Nat->Int) (K:VK Empty)
def wB (W:Nat->Int):List VB:=[⟨true,⟨205,(0,0)⟩,[.arr .u8 64 f]⟩,⟨true,⟨287,(0,0)⟩,[.arr .u32 64 λ_=>0]⟩,⟨true,⟨287,(0,0)⟩,[.arr .u32 64 W]⟩]
def w3 (i:Int):List V:=[.ptr 0 0,.ptr 1 0,.ptr 2 0,.int .i64 i]
def w1L:Lp Empty:=Jd (X:={i:Nat //i<=16}) (λi=>16-i.1) 89 3 [1,2,3,10] (λi=>w3 (i.1:Int)) (λi=>wB f (zE f i.1)) (λ_=>[]) (λ_=>rfl) (λ_=>rfl) (λ_=>rfl)
def w2L:Lp Empty:=Jd (X:={i:Nat //i<=48}) (λi=>48-i.1) 89 3 [1,2,3,5] (λi=>w3 ((16+i.1:Nat):Int)) (λi=>wB f (lK f i.1)) (λ_=>[]) (λ_=>rfl) (λ_=>rfl) (λ_=>rfl)
def OE:Nat->Option (Lp Empty):=λj=>match j with|0=>some (w1L f)|2=>some (w2L f)|_=>none
def wX:Prop:=
 (true=true/\EZ (λi:{i:Nat //i<=16}=>w3 (i.1:Int)) (λi=>wB f (zE f i.1)) (λ_=>[]) (w3 0) (wB f λ_=>0) ([]:List Empty))/\∀(x:{i:Nat //i<=16}) (g:Nat->ab),cond (decide ((x.1:Int)<16))
  (mT (i64.wrap (4*(x.1:Int))) 64<|mT (i64.wrap (i64.wrap (4*(x.1:Int))+1)) 64<|mT (i64.wrap (i64.wrap (4*(x.1:Int))+2)) 64<|mT (i64.wrap (i64.wrap (4*(x.1:Int))+3)) 64<|mT (x.1:Int) 64
   (true=true/\E0 (λi:{i:Nat //i<=16}=>16-i.1) (λi=>w3 (i.1:Int)) (λi=>wB f (zE f i.1)) (λ_=>[]) x (w3 (i64.wrap ((x.1:Int)+1))) (wB f (zE f (x.1+1))) ([]:List Empty)))
  ((true=true/\EZ (λi:{i:Nat //i<=48}=>w3 ((16+i.1:Nat):Int)) (λi=>wB f (lK f i.1)) (λ_=>[]) (w3 16) (wB f (zE f x.1)) ([]:List Empty))/\∀(y:{i:Nat //i<=48}) (g:Nat->ab),cond (decide (((16+y.1:Nat):Int)<64))
    (mT (i64.wrap (((16+y.1:Nat):Int)-15)) 64<|mT (i64.wrap (((16+y.1:Nat):Int)-2)) 64<|True/\True/\True/\True/\(mT (i64.wrap (((16+y.1:Nat):Int)-16)) 64<|mT (i64.wrap (((16+y.1:Nat):Int)-7)) 64<|mT ((16+y.1:Nat):Int) 64
     (true=true/\E0 (λi:{i:Nat //i<=48}=>48-i.1) (λi=>w3 ((16+i.1:Nat):Int)) (λi=>wB f (lK f i.1)) (λ_=>[]) y (w3 (i64.wrap (((16+y.1:Nat):Int)+1))) (wB f (lK f (y.1+1))) ([]:List Empty))))
    (K (.agg [.arr .u32 64 (lK f y.1)]) [] []))
theorem aeu:bu (tu prog cR (qL Empty [xu]) (OE f)) 60 201 [.agg [.arr .u8 64 f]] [] [] (bm 0 K)=wX f K:=by kernel_rfl
end
theorem aev (f:Nat->Int):wX f λv _ _=>v=.agg [.arr .u32 64 (lK f 48)]:=by
 refine⟨⟨rfl,⟨0,by omega⟩,rfl,rfl,rfl⟩,λx g=>aH (λh=>?_) λh=>?_⟩
 ·have hx:(x.1:Int)<16:=of_decide_eq_true h;have e:=jR (x:=4*(x.1:Int)) (by omega);have e1:=jR (x:=4*(x.1:Int)+1) (by omega);have e2:=jR (x:=4*(x.1:Int)+2) (by omega);have e3:=jR (x:=4*(x.1:Int)+3) (by omega);rw[e,e1,e2,e3];refine nG (by omega) (nG (by omega) (nG (by omega) (nG (by omega) (nG (by omega) ⟨rfl,⟨x.1+1,by omega⟩,by show 16-(x.1+1)<16-x.1;omega,?_,rfl,rfl⟩))));rw[jR (by omega)];rfl
 ·have hx:x.1=16:=by have:=of_decide_eq_false h;have:=x.2;omega
  rw[hx];refine⟨⟨rfl,⟨0,by omega⟩,rfl,rfl,rfl⟩,λy g=>aH (λh=>?_) λh=>?_⟩
  ·have hy:((16+y.1:Nat):Int)<64:=of_decide_eq_true h;rw[jR (x:=((16+y.1:Nat):Int)-15) (by omega),jR (x:=((16+y.1:Nat):Int)-2) (by omega),jR (x:=((16+y.1:Nat):Int)-16) (by omega),jR (x:=((16+y.1:Nat):Int)-7) (by omega)];refine nG (by omega) (nG (by omega) ⟨trivial,trivial,trivial,trivial,nG (by omega) (nG (by omega) (nG (by omega) ⟨rfl,⟨y.1+1,by omega⟩,by show 48-(y.1+1)<48-y.1;omega,?_,rfl,rfl⟩))⟩);rw[jR (by omega)];rfl
  ·have hy:y.1=48:=by have:=of_decide_eq_false h;have:=y.2;omega
   rw[hy]
def E1:QF:=⟨201,λargs _=>match args with
 |[.agg [.arr .u8 64 f]]=>some (True,.agg [.arr .u32 64 (lK f 48)])
 |_=>none⟩
theorem aew (gl:Nat->Option Nat):E1.Ok prog gl:=by
 intro args bl p_ v_ h hp ids w _ _;unfold E1 at h;dsimp only at h;split at h
 ·rename_i f;simp only[aS,bd]at h;obtain⟨rfl,rfl⟩:=h;have hv:bu (tu prog cR (qL Empty [xu]) (OE f)) 60 201 [.agg [.arr .u8 64 f]] [] [] (bm 0 λv _ _=>v=.agg [.arr .u32 64 (lK f 48)]):=by rw[aeu];exact aev f
  have dA:=kD (G:=Empty) (P:=prog) (gl:=cR) (bF.cons (WK _) bF.nil);refine(eD (C:=tu prog cR (qL Empty [xu]) (OE f)) (_root_.Go.Proofs.YtggfpcggakghnaaGreatDoor.aG.TL dA) (_root_.Go.Proofs.YtggfpcggakghnaaGreatDoor.aG.QL dA) 60 (ids:=[]) (bl:=[]) (ch:=[]) (R:=[]) (ms:=[]) (w0:=w) (w:=w) (λg i h=>nomatch h) rfl (St.nil [] w) hv).mono ?_;rintro x w' ⟨y,more,bl',ch',rfl,h1,S',hK⟩;obtain⟨v2,cD,bl2,e,_,_,rfl⟩:=h_ (n0:=0) h1 (by simp) S' hK;exact⟨e.trans rfl,S'.ch⟩
 ·cases h
section
variable(t:Nat) (h f:Nat->Int) (K:VK Empty)
def i8 (h:Nat->Int):List V:=[.int .u32 (h 0),.int .u32 (h 1),.int .u32 (h 2),.int .u32 (h 3),.int .u32 (h 4),.int .u32 (h 5),.int .u32 (h 6),.int .u32 (h 7)]
def oH:VB:=⟨false,⟨t,(0,0)⟩,[.arr .u32 64 cx]⟩
def bB (N:Nat->Int):List VB:=[oH t,⟨true,⟨253,(0,0)⟩,i8 h⟩,⟨true,⟨205,(0,0)⟩,[.arr .u8 64 f]⟩,⟨true,⟨253,(0,0)⟩,i8 λ_=>0⟩,⟨true,⟨287,(0,0)⟩,[.arr .u32 64 (lK f 48)]⟩,⟨true,⟨253,(0,0)⟩,i8 N⟩]
def b6 (i:Int):List V:=[.ptr 1 0,.ptr 2 0,.ptr 3 0,.ptr 4 0,.ptr 5 0,.int .i64 i]
def bL:Lp Empty:=Jd (X:={i:Nat //i<=64}) (λi=>64-i.1) 113 6 [2,3,4,5,6,17] (λi=>b6 (i.1:Int)) (λi=>bB t h f (zF h (lK f 48) i.1)) (λ_=>[]) (λ_=>rfl) (λ_=>rfl) (λ_=>rfl)
def mU:Nat->Option Nat:=λg=>bif ax g 1 then some 0 else none
def bX:Prop:=True/\(true=true/\EZ (λi:{i:Nat //i<=64}=>b6 (i.1:Int)) (λi=>bB t h f (zF h (lK f 48) i.1)) (λ_=>[]) (b6 0) (bB t h f h) ([]:List Empty))/\∀(x:{i:Nat //i<=64}) (g:Nat->ab),cond (decide ((x.1:Int)<64))
 (mT (x.1:Int) 64<|mT (x.1:Int) 64<|True/\True/\True/\True/\True/\True/\
  (true=true/\E0 (λi:{i:Nat //i<=64}=>64-i.1) (λi=>b6 (i.1:Int)) (λi=>bB t h f (zF h (lK f 48) i.1)) (λ_=>[]) x (b6 (i64.wrap ((x.1:Int)+1))) (bB t h f (zF h (lK f 48) (x.1+1))) ([]:List Empty)))
 (K (.agg (i8 λj=>u32.wrap (zF h (lK f 48) x.1 j+h j))) [oH t] [])
theorem aex:bu (tu prog mU (qL Empty [xu,E1]) (OD 0 (bL t h f))) 60 163 [.agg (i8 h),.agg [.arr .u8 64 f]] [oH t] [] (bm 1 K)=bX t h f K:=by kernel_rfl
end
theorem aey (t:Nat) (h f:Nat->Int):bX t h f λv _ _=>v=.agg (i8 (tv h f)):=by
 refine⟨trivial,⟨rfl,⟨0,by omega⟩,rfl,rfl,rfl⟩,λx g=>aH (λhh=>?_) λhh=>?_⟩
 ·have hx:(x.1:Int)<64:=of_decide_eq_true hh;refine nG (by omega) (nG (by omega) ⟨trivial,trivial,trivial,trivial,trivial,trivial,rfl,⟨x.1+1,by omega⟩,by show 64-(x.1+1)<64-x.1;omega,?_,rfl,rfl⟩);rw[jR (by omega)];rfl
 ·have hx:x.1=64:=by have:=of_decide_eq_false hh;have:=x.2;omega
  rw[hx];rfl
theorem aez (t:Nat) (h f:Nat->Int) {ids:List Nat} {w:ae} (hG:w.heap[1]?=some (.cells (aq .u32 64 cx) t (0,0))):aQ prog 163 (aA ids [.agg (i8 h),.agg [.arr .u8 64 f]]).toArray w λx w'=>x=den ids (.agg (i8 (tv h f)))/\Ch [] w w':=by
 have hv:bu (tu prog mU (qL Empty [xu,E1]) (OD 0 (bL t h f))) 60 163 [.agg (i8 h),.agg [.arr .u8 64 f]] [oH t] [] (bm 1 λv _ _=>v=.agg (i8 (tv h f))):=by rw[aex];exact aey t h f
 have dA:=kD (G:=Empty) (P:=prog) (gl:=mU) (bF.cons (WK _) (bF.cons (aew _) bF.nil));have S0:St [] w (lits [1] [1] [oH t]++[]) w:=St.given (w:=w) [(1,.cells (ah [1] [.arr .u32 64 cx]).toArray t (0,0))] (by
  intro p hp;simp only[i_]at hp;subst hp;have e:(ah [1] [.arr .u32 64 cx]).toArray=aq .u32 64 cx:=by simp[ah,cl,aq]
  rw[e];exact hG)
 have e0:∀ids,aA ids [.agg (i8 h),.agg [.arr .u8 64 f]]=aA [1] [.agg (i8 h),.agg [.arr .u8 64 f]]:=λ_=>rfl;rw[e0];refine(eD (C:=tu prog mU (qL Empty [xu,E1]) (OD 0 (bL t h f))) (_root_.Go.Proofs.YtggfpcggakghnaaGreatDoor.aG.TL dA) (_root_.Go.Proofs.YtggfpcggakghnaaGreatDoor.aG.QL dA) 60 (ids:=[1]) (bl:=[oH t]) (ch:=[]) (R:=[]) (λg i h=>by
  have h:mU g=some i:=h;unfold mU at h;cases hb:ax g 1 with
  |false=>rw[hb]at h;cases h
  |true=>rw[hb]at h;cases h;exact⟨by simp,by simp[ij,b9 hb]⟩) rfl S0 hv).mono ?_
 rintro x w' ⟨y,more,bl',ch',rfl,h1,S',hK⟩;obtain⟨v2,cD,bl2,e,_,_,rfl⟩:=h_ (n0:=1) h1 (by simp) S' hK;exact⟨e.trans rfl,S'.ch⟩
structure oI (p:Prop):Prop where
 h:p
structure f_ where
 bl:List ai
 b:Nat
 o:Nat
 n:Nat
 f:Nat->Int
 h:∀w:ae,(∀y∈bl,w.heap[y.id]?=some y.obj)->bV w b o n f
instance:Bl f_:=⟨λg=>g.bl⟩
def Je (N:Nat):(aZ->V)->Op->List VB->List f_->VK f_->Prop:=λe op bl ch K=>match op with
 |.makeSlice t l c=>(match prog.underlying t,e l,e c with
  |some (.slice 5),.int .i64 m,.int .i64 m'=>cond (bI bl.length bl) ((m=(N:Int)/\m'=(N:Int))/\K (.sl bl.length 0 N N) (bl++[⟨true,⟨5,(0,0)⟩,[.arr .u8 N λ_=>0]⟩]) ch) False
  |_,_,_=>False)
 |.call c=>(match c.callee,c.args.toList,c.argTypes.toList with
  |.builtin .copy,[s,xs],[t,tx]=>(match prog.underlying t,e s,e xs,ch with
   |some (.slice 5),.sl i 0 n c,.raw (.slice (some ⟨b,o,none⟩) m mc),[g]=>(match bl[i]?with
    |some ⟨true,⟨5,(0,0)⟩,[.arr .u8 N' f]⟩=>((g.b=b/\g.o=o/\g.n=m)/\m<=n/\n<=N')/\K (.int .i64 (m:Int)) (bl.set i ⟨true,⟨5,(0,0)⟩,[.arr .u8 N' (dC f 0 m g.f)]⟩) ch
    |_=>False)
   |_,_,_,_=>False)
  |_,_,_=>False)
 |_=>False
theorem Cb (ids:List Nat) (N:Nat) (f:Nat->Int):(ah ids [.arr .u8 N f]).toArray=aq .u8 N f:=by simp[ah,cl,aq]
theorem WM {N:Nat} (h0:1<=N) (h1:N<=1000):fC prog (λ_=>none) (Je N):=by
 intro e op ids bl ch R ms w0 w K ρ o hg hl S aW ho h;unfold Je at h;split at h
 ·rename_i t l c;split at h
  ·rename_i m m' hu nE EV;cases hq:bI bl.length bl with
   |false=>rw[hq]at h;exact h.elim
   |true=>
    rw[hq]at h;obtain⟨⟨rfl,rfl⟩,hK⟩:=h;obtain⟨inf,rH,gW⟩:∃inf,prog.info? 5=some inf/\inf.bytes<=100:=⟨_,rfl,dz (by kernel_rfl)⟩;have hz:∀k:Nat,(ah ids (kC [.int .u8 0] k))=(bh k).map λ_=>dT .u8 0:=by
     intro k;induction k with
     |zero=>rfl
     |succ k ih=>rw[kC,iq,ih,uu,eQ,mG];rfl
    have bE:=run_mk (P:=prog) (ids:=ids) (w:=w) (t:=t) (el:=5) (n:=N) (z:=0) (zc:=[.int .u8 0]) (inf:=inf) (k1:=.i64) (k2:=.i64) hu rH (by kernel_rfl) (by kernel_rfl) rfl h0 (by omega) gW;refine⟨_,[w.heap.size],_,ch,w.alloc (.cells (ah ids (kC [.int .u8 0] N)).toArray 5),.inl ?_,by simp[hl],?_,hK⟩
    ·unfold execOp;simp only[ho,aW,nE,EV,den,bj,bE,cd,cW];rw[<-hl,j7]
    ·rw[eZ _ _ _ _ hl,e_ _ _ (by rw[hl];exact hq)];simp only[lits,ay,Cb];have e1:(ah ids (kC [.int .u8 0] N)).toArray=aq .u8 N λ_=>0:=by rw[hz];rfl
     rw[e1];refine(S.new (Ch.alloc [] w _) (dE _) (mC w _)).perm ?_;rw[bN];exact jH.symm
  ·exact h.elim
 ·rename_i c;split at h
  ·rename_i s xs t tx eb cC dr;split at h
   ·rename_i i n cc b o' m mc g hu fQ fk;split at h
    ·rename_i N' f hb;obtain⟨⟨⟨rfl,rfl,rfl⟩,hm,hn⟩,hK⟩:=h;obtain⟨l9,ar,gA⟩:=c;simp only at eb cC dr;have e2:ar=#[s,xs]:=by rw[<-cC]
     have e3:gA=#[t,tx]:=by rw[<-dr]
     subst eb e2 e3;obtain⟨hj,aK⟩:=fp hl S hb;rw[Cb]at aK;have qm:=(fp hl S hb).2;rw[Cb]at qm;have h8:bV w g.b g.o g.n g.f:=g.h w λy hy=>S.at' (qU _ (show y∈g.bl++R from mH _ hy));have Eg:Nat.min g.n n=g.n:=Nat.min_eq_left hm;have bE:=run_copy_row (P:=prog) w t tx o.type 5 (ids.getD i 0) 0 n cc ⟨g.b,g.o,none⟩ g.n mc (aq .u8 N' f) 5 (bP g.n g.f) hu (by kernel_rfl) qm (by rw[fY,Eg]) (λj v hj=>by
      obtain⟨h1,rfl⟩:=wP hj;rw[hU];exact h8 j h1) (by rw[fY,Ec];omega) Ee
     have e4:((aq .u8 N' f).toList.take 0++bP g.n g.f++(aq .u8 N' f).toList.drop (0+(bP g.n g.f).length)).toArray=aq .u8 N' (dC f 0 g.n g.f):=by
      rw[fY];exact M6 .u8 f (by omega) g.f
     rw[e4]at bE;have gx:ρ s=.slice (some ⟨ids.getD i 0,0,none⟩) n cc:=by rw[aW,fQ];simp only[den]
     have mV:ρ xs=.slice (some ⟨g.b,g.o,none⟩) g.n mc:=by rw[aW,fk];simp only[den]
     have hex:=Io (P:=prog) (ρ:=ρ) (o:=o) ho gx mV bE;rw[fY]at hex;refine⟨.int .i64 (g.n:Int),[],_,_,_,.inl hex,by simpa using hl,?_,hK⟩
     ·simp only[cI];have fw:=S.step hj rfl (Ch.setRow w _ _) (setRow_heap w (ids.getD i 0) (aq .u8 N' f) (aq .u8 N' (dC f 0 g.n g.f)) 5 (0,0) qm);have jM:i<(lits ids ids bl).length:=by rw[w5 ids bl hl];rcases cE i bl.length with h'|h';exact h';simp[h']at hb
      rw[<-uN (ids:=ids) ids bl i _ hl,<-List.set_append_left _ _ jM];simp only[ay,Cb];exact fw
    ·exact h.elim
   ·exact h.elim
  ·exact h.elim
 ·exact h.elim
def oJ (n:Nat):Int:=i64.wrap (i64.wrap (Int.tdiv (i64.wrap (i64.wrap (i64.wrap ((n:Int)+9)+64)-1)) 64)*64)
def aeA (e d:Int) (i:Nat) (F:Nat->Int):Nat->Int:=mN F (0+(i64.wrap (i64.wrap (e-1)-(i:Int))).toNat) (u8.wrap (iM d (2^(8*i))))
def WN (e d:Int) (F:Nat->Int):Nat->Nat->Int
 |0=>F
 |k+1=>aeA e d k (WN e d F k)
def qn (N n:Nat) (f:Nat->Int):Nat->Int:=WN (oJ n) (u64.wrap (u64.wrap (n:Int)*8)) (mN (dC (λ_=>0) 0 n f) (0+((n:Nat):Int).toNat) 128) 8
def Jf (e:Int) (N:Nat) (X:Prop):Nat->Nat->Prop
 |0,_=>X
 |k+1,i=>mT (i64.wrap (i64.wrap (e-1)-(i:Int))) N (Jf e N X k (i+1))
def OF (N n b o:Nat) (g:f_) (K:VK f_):Prop:=(oJ n=(N:Int)/\oJ n=(N:Int))/\((g.b=b/\g.o=o/\g.n=n)/\n<=N/\N<=N)/\mT (n:Int) N (Jf (oJ n) N (K (.sl 0 0 N N) [⟨true,⟨5,(0,0)⟩,[.arr .u8 N (qn N n g.f)]⟩] [g]) 8 0)
def E2 (N:Nat) (h0:1<=N) (h1:N<=1000) (f:eN) (args:List V) (g:f_) (K:VK f_):Prop:=bu (fE prog (λ_=>none) ([]:List (bK f_)) (Je N) (WM h0 h1)) 60 f args [] [g] K
theorem aeB (g:f_) (b o n c:Nat) (K:VK f_):E2 64 (by omega) (by omega) 162 [.raw (.slice (some ⟨b,o,none⟩) n c)] g K=OF 64 n b o g K:=by kernel_rfl
theorem aeC (g:f_) (b o n c:Nat) (K:VK f_):E2 128 (by omega) (by omega) 162 [.raw (.slice (some ⟨b,o,none⟩) n c)] g K=OF 128 n b o g K:=by kernel_rfl
def xw (H:Nat->Int):Nat->Int:=λj=>match j%4 with
 |0=>u8.wrap (iM (H (j/4)) (2^24))
 |1=>u8.wrap (iM (H (j/4)) (2^16))
 |2=>u8.wrap (iM (H (j/4)) (2^8))
 |_=>u8.wrap (H (j/4))
def Jg:Nat->Int:=l8 1779033703 3144134277 1013904242 2773480762 1359893119 2600822924 528734635 1541459225
def r8 (X:Nat->Int):Nat->Int:=l8 (X 0) (X 1) (X 2) (X 3) (X 4) (X 5) (X 6) (X 7)
def aeD (n:Nat) (f:Nat->Int):Nat->Int:=xw (tv Jg (qn 64 n f))
def OG (f:Nat->Int) (k:Nat):Nat->Int:=λj=>f (k+j)
def aeE (n:Nat) (f:Nat->Int):Nat->Int:=xw (tv (r8 (tv Jg (qn 128 n f))) (OG (qn 128 n f) 64))
def jD (n:Nat) (f:Nat->Int):Nat->Int:=bif bA n 55 then aeD n f else aeE n f
def zG:QF:=⟨163,λargs bl=>match args,bl with
 |[.agg [.int .u32 a,.int .u32 b,.int .u32 c,.int .u32 d,.int .u32 e,.int .u32 f,.int .u32 g,.int .u32 h],.agg [.arr .u8 64 F]],⟨false,⟨t,(0,0)⟩,[.arr .u32 64 R]⟩::_=>some (R=cx,.agg (i8 (tv (l8 a b c d e f g h) F)))
 |_,_=>none⟩
def OH:Nat->(Nat->Int)->List V
 |64,F=>[.arr .u8 64 F]
 |128,F=>[.arr .u8 64 F,.arr .u8 64 (OG F 64)]
 |n,F=>[.arr .u8 n F]
def zH (N:Nat):cP f_:=λargs bl ch K=>match args,ch with
 |[.raw (.slice (some ⟨b,o,none⟩) n c)],[g]=>cond (bI bl.length bl) (((g.b=b/\g.o=o/\g.n=n)/\oJ n=(N:Int)/\n<N)/\K (.sl bl.length 0 N N) (bl++[⟨true,⟨5,(0,0)⟩,OH N (qn N n g.f)⟩]) [g]) False
 |_,_=>False
def o4 (x:Int):List V:=[.int .u8 (u8.wrap (iM x (2^24))),.int .u8 (u8.wrap (iM x (2^16))),.int .u8 (u8.wrap (iM x (2^8))),.int .u8 (u8.wrap x)]
def Jh (H:Nat->Int):List V:=o4 (H 0)++(o4 (H 1)++(o4 (H 2)++(o4 (H 3)++(o4 (H 4)++(o4 (H 5)++(o4 (H 6)++o4 (H 7)))))))
theorem aeF (H:Nat->Int) (ids:List Nat):den ids (.agg (Jh H))=.agg (aq .u8 32 (xw H)):=by kernel_rfl
section
variable(t:Nat) (g:f_) (b o n c:Nat) (K:VK f_)
theorem aeG:bu (bQ prog mU (⟨162,false,zH 64⟩::qL f_ [zG])) 60 106 [.raw (.slice (some ⟨b,o,none⟩) n c)] [oH t] [g] (bm 1 K)=(((g.b=b/\g.o=o/\g.n=n)/\oJ n=((64:Nat):Int)/\n<64)/\cx=cx/\K (.agg (Jh (tv Jg (qn 64 n g.f)))) [oH t] [g]):=by kernel_rfl
theorem aeH:bu (bQ prog mU (⟨162,false,zH 128⟩::qL f_ [zG])) 60 106 [.raw (.slice (some ⟨b,o,none⟩) n c)] [oH t] [g] (bm 1 K)=(((g.b=b/\g.o=o/\g.n=n)/\oJ n=((128:Nat):Int)/\n<128)/\cx=cx/\cx=cx/\K (.agg (Jh (tv (r8 (tv Jg (qn 128 n g.f))) (OG (qn 128 n g.f) 64)))) [oH t] [g]):=by kernel_rfl
end
theorem aeI {w:ae} {b o n:Nat} {f:Nat->Int} (h:bV w b o n f):∃g:f_,(g.b=b/\g.o=o/\g.n=n)/\g.f=f/\∃ps:List (Nat×Obj),g.bl=ps.map (λp=>⟨p.1,false,p.2⟩)/\∀p∈ps,w.heap[p.1]?=some p.2:=by
 rcases uh n with rfl|hn
 ·exact⟨⟨[],b,o,0,f,λ_ _ j hj=>absurd hj (by omega)⟩,⟨rfl,rfl,rfl⟩,rfl,[],rfl,λ_ h=>nomatch h⟩
 ·cases hb:w.heap[b]?with
  |none=>
   have:=h 0 hn;unfold wx at this;simp only[hb]at this;cases this
  |some ob=>
   refine⟨⟨[⟨b,false,ob⟩],b,o,n,f,λw' hw j hj=>?_⟩,⟨rfl,rfl,rfl⟩,rfl,[(b,ob)],rfl,?_⟩
   ·have h1:=h j hj;have h2:w'.heap[b]?=some ob:=hw _ (i_.2 rfl);unfold wx at h1⊢;simp only[hb]at h1;simp only[h2];exact h1
   ·intro p hp;obtain rfl:=i_.1 hp;exact hb
theorem WO {e:Int} {N:Nat} {X:Prop} (he:e=(N:Int)) (h8:8<=N) (hN:N<=1000) (hX:X):∀k i,i+k<=8->Jf e N X k i
 |0,_,_=>hX
 |k+1,i,h=>by
  have e1:i64.wrap (i64.wrap (e-1)-(i:Int))=(N:Int)-1-(i:Int):=by rw[he,jR (x:=(N:Int)-1) (by omega),jR (by omega)]
  unfold Jf;rw[e1];exact nG (by omega) (WO he h8 hN hX k (i+1) (by omega))
theorem WQ {n:Nat} (h:n<=55):oJ n=((64:Nat):Int):=by
 unfold oJ;rw[jR (x:=(n:Int)+9) (by omega),jR (x:=(n:Int)+9+64) (by omega),jR (x:=(n:Int)+9+64-1) (by omega),Int.tdiv_eq_ediv_of_nonneg (by omega),show((n:Int)+9+64-1)/64=1 by omega];rfl
theorem WR {n:Nat} (h:56<=n) (h2:n<=119):oJ n=((128:Nat):Int):=by
 unfold oJ;rw[jR (x:=(n:Int)+9) (by omega),jR (x:=(n:Int)+9+64) (by omega),jR (x:=(n:Int)+9+64-1) (by omega),Int.tdiv_eq_ediv_of_nonneg (by omega),show((n:Int)+9+64-1)/64=2 by omega];rfl
theorem aeJ {N:Nat} (h0:1<=N) (h1:N<=1000) {f:Nat} {args:List V} {g:f_} {K:VK f_} (h:oI (E2 N h0 h1 f args g K)) {R:List ai} {ms:List Nat} {w0 w:ae} (S:St ms w0 (g.bl++R) w):
 aQ prog f (aA [] args).toArray w λv w1=>∃x more b ch,v=den more x/\more.length=b.length/\St ms w0 (lits more more b++av ch R) w1/\K x b ch:=by
 have S0:St ms w0 (lits [] [] []++av [g] R) w:=S;exact eD (aG.nil (G:=f_) (P:=prog) (gl:=λ_=>none)).T (aG.nil (G:=f_) (P:=prog) (gl:=λ_=>none)).Q 60 (C:=fE prog (λ_=>none) ([]:List (bK f_)) (Je N) (WM h0 h1)) (ids:=[]) (bl:=[]) (ch:=[g]) (R:=R) Gl.none rfl S0 h.h
def Ji (N n:Nat) (g:f_):VK f_:=λv bl ch=>v=.sl 0 0 N N/\bl=[⟨true,⟨5,(0,0)⟩,[.arr .u8 N (qn N n g.f)]⟩]/\ch=[g]
theorem WS {N n b o:Nat} {g:f_} (h8:8<=N) (h1:N<=1000) (hg:g.b=b/\g.o=o/\g.n=n) (he:oJ n=(N:Int)) (hn:n<N):OF N n b o g (Ji N n g):=
 ⟨⟨he,he⟩,⟨hg,by omega,dE _⟩,nG (by omega) (WO he h8 h1 ⟨rfl,rfl,rfl⟩ 8 0 (by omega))⟩
theorem aeK {N:Nat} (h0:1<=N) (h8:8<=N) (h1:N<=1000) {b o n c:Nat} (g:f_) (cJ:oI (E2 N h0 h1 162 [.raw (.slice (some ⟨b,o,none⟩) n c)] g (Ji N n g)))
 {R:List ai} {ms:List Nat} {w0 w:ae} (S:St ms w0 (g.bl++R) w):aQ prog 162 #[.slice (some ⟨b,o,none⟩) n c] w λv w1=>∃b',v=.slice (some ⟨b',0,none⟩) N N/\St ms w0 (⟨b',true,.cells (aq .u8 N (qn N n g.f)) 5 (0,0)⟩::(g.bl++R)) w1:=by
 have hr:=aeJ h0 h1 (f:=162) (args:=[.raw (.slice (some ⟨b,o,none⟩) n c)]) (g:=g) (K:=Ji N n g) cJ S;have e0:(aA [] [V.raw (.slice (some ⟨b,o,none⟩) n c)]).toArray=#[.slice (some ⟨b,o,none⟩) n c]:=rfl;rw[e0]at hr;clear cJ;refine hr.mono ?_;rintro v w' ⟨y,more,bl',ch',rfl,hl,S',rfl,rfl,rfl⟩
 match more,hl with
 |[b'],_=>
  refine⟨b',rfl,?_⟩;have e:lits [b'] [b'] [⟨true,⟨5,(0,0)⟩,[.arr .u8 N (qn N n g.f)]⟩]=[⟨b',true,.cells (aq .u8 N (qn N n g.f)) 5 (0,0)⟩]:=by
   simp only[lits,ay,Cb]
  rw[e]at S';exact S'
theorem aeL (ids:List Nat) {N:Nat} (hN:N=64\/N=128) (F:Nat->Int):(ah ids (OH N F)).toArray=aq .u8 N F:=by
 rcases hN with rfl|rfl
 ·exact Cb ids 64 F
 ·have e:bh 128=bh 64++(bh 64).map (64+·):=by decide
  unfold OH aq;rw[e,qT,mG];simp only[ah,cl,cI];rfl
theorem aeM {N:Nat} (hN:N=64\/N=128) (gl:Nat->Option Nat):Sound prog gl 162 (zH N):=by
 intro args ids bl ch R ms w0 w K hg hl S hc;unfold zH at hc;split at hc
 ·rename_i b o n c g;cases hq:bI bl.length bl with
  |false=>rw[hq]at hc;exact hc.elim
  |true=>
   rw[hq]at hc;obtain⟨⟨WT,he,hn⟩,hK⟩:=hc;have cJ:∃(h0:1<=N) (h1:N<=1000),8<=N/\oI (E2 N h0 h1 162 [.raw (.slice (some ⟨b,o,none⟩) n c)] g (Ji N n g)):=by
    rcases hN with rfl|rfl
    ·exact⟨by omega,by omega,by omega,⟨by rw[aeB];exact WS (by omega) (by omega) WT he hn⟩⟩
    ·exact⟨by omega,by omega,by omega,⟨by rw[aeC];exact WS (by omega) (by omega) WT he hn⟩⟩
   obtain⟨h0,h1,h8,cJ⟩:=cJ;have S1:St ms w0 (g.bl++(lits ids ids bl++R)) w:=S.perm (qV _ _ _);refine(aeK h0 h8 h1 g cJ S1).mono ?_;rintro v w' ⟨b',rfl,S2⟩;refine⟨_,[b'],_,_,?_,by simp[hl],?_,hK⟩
   ·simp only[den];rw[<-hl,j7]
   ·rw[eZ _ _ _ _ hl,e_ _ _ (by rw[hl];exact hq)];simp only[lits,ay,aeL _ hN];refine S2.perm ?_;show List.Perm ([_]++(g.bl++(lits ids ids bl++R))) ((lits ids ids bl++[_])++(g.bl++R));refine(pI _ (qV _ _ _)).trans ?_;rw[<-bN];exact DG _ List.perm_append_comm
 ·exact hc.elim
theorem aeN:zG.Ok prog mU:=by
 intro args bl p_ v_ h hp ids w hg hm;unfold zG at h;dsimp only at h;split at h
 ·rename_i a b c d e f g h' F t R bl';simp only[aS,bd]at h;obtain⟨rfl,rfl⟩:=h;subst hp;have h1:=hm.2 0 _ rfl;rw[(hg 1 0 rfl).2]at h1;have e1:(ah ids [.arr .u32 64 cx]).toArray=aq .u32 64 cx:=by simp[ah,cl,aq]
  rw[e1]at h1;exact aez t (l8 a b c d e f g h') F h1
 ·cases h
theorem WU {N n:Nat} (hN:N=64\/N=128) {b o c t:Nat} {f H:Nat->Int} {w:ae} (hG:w.heap[1]?=some (.cells (aq .u32 64 cx) t (0,0))) (hB:bV w b o n f) (he:oJ n=(N:Int)) (hn:n<N)
 (cJ:∀g:f_,(g.b=b/\g.o=o/\g.n=n)->g.f=f->bu (bQ prog mU (⟨162,false,zH N⟩::qL f_ [zG])) 60 106 [.raw (.slice (some ⟨b,o,none⟩) n c)] [oH t] [g] (bm 1 λv _ _=>v=.agg (Jh H))):
 aQ prog 106 #[.slice (some ⟨b,o,none⟩) n c] w λv w1=>v=.agg (aq .u8 32 (xw H))/\Ch [] w w1:=by
 obtain⟨g,hg,hf,ps,oD,hh⟩:=aeI hB;have dA:aG prog mU (⟨162,false,zH N⟩::qL f_ [zG]):=aG.cons ⟨aeM hN mU,λe=>by cases e⟩ (kD (bF.cons aeN bF.nil));have S0:St [] w (lits [1] [1] [oH t]++av [g] []) w:=by
  have:=St.given (w:=w) ((1,.cells (ah [1] [.arr .u32 64 cx]).toArray t (0,0))::ps) (by
   intro p hp;rcases bY.1 hp with rfl|hp
   ·have e:(ah [1] [.arr .u32 64 cx]).toArray=aq .u32 64 cx:=by simp[ah,cl,aq]
    rw[e];exact hG
   ·exact hh p hp)
  show St [] w ([_]++(g.bl++[])) w;rw[oD,cI];exact this
 refine(eD dA.T dA.Q 60 (C:=bQ prog mU (⟨162,false,zH N⟩::qL f_ [zG])) (ids:=[1]) (bl:=[oH t]) (ch:=[g]) (R:=[]) (λg i h=>by
  have h:mU g=some i:=h;unfold mU at h;cases hb:ax g 1 with
  |false=>rw[hb]at h;cases h
  |true=>rw[hb]at h;cases h;exact⟨by simp,by simp[ij,b9 hb]⟩) rfl S0 (cJ g hg hf)).mono ?_
 rintro v w' ⟨y,more,bl',ch',rfl,h1,S',hK⟩;obtain⟨v2,cD,bl2,e,_,_,rfl⟩:=h_ (n0:=1) h1 (by simp) S' hK;exact⟨e.trans (aeF H _),S'.ch⟩
theorem OI (b o n c:Nat) (f:Nat->Int) (hn:n<=119) {tG:aD} (w:ae) (hG:w.heap[1]?=some (.cells (aq .u32 64 cx) tG (0,0))) (hB:bV w b o n f):aQ prog 106 #[.slice (some ⟨b,o,none⟩) n c] w λv w1=>v=.agg (aq .u8 32 (jD n f))/\Ch [] w w1:=by
 unfold jD;by_cases h:n<=55
 ·rw[uj h];exact WU (.inl rfl) hG hB (WQ h) (by omega) λg hg hf=>by rw[aeG,hf];exact⟨⟨hg,WQ h,by omega⟩,rfl,rfl⟩
 ·have hb:bA n 55=false:=by
   cases e:bA n 55 with
   |false=>rfl
   |true=>exact absurd (dz e) h
  rw[hb];exact WU (.inr rfl) hG hB (WR (by omega) hn) (by omega) λg hg hf=>by rw[aeH,hf];exact⟨⟨hg,WR (by omega) hn,by omega⟩,rfl,rfl,rfl⟩
end
section
open Go Go.RowKit Go.BigFrame Sx
def Cc (f:Nat->Int) (x:Int):Nat->Nat->Int
 |0=>λ_=>0
 |k+1=>mN (Cc f x k) k (bits .xor .u8 (f k) x)
def iu (f:Nat->Int) (x:Int):Nat->Int:=λj=>bits .xor .u8 (f j) x
theorem WV (f:Nat->Int) (x:Int):∀(k j:Nat),j<k->Cc f x k j=iu f x j
 |k+1,j,h=>by
  by_cases e:j=k
  ·subst e;exact U_ _ _ _
  ·exact(M4 _ _ e).trans (WV f x k j (by omega))
theorem aeO (f:Nat->Int) (x:Int):aq .u8 64 (Cc f x 64)=aq .u8 64 (iu f x):=ac3 _ λi h=>WV f x 64 i h
theorem aeP {f:Nat->Int} {x:Int} (i:Int) (W:Nat->Int) (h:0<=i) (e:W=Cc f x i.toNat):mN W (0+i.toNat*1) (bits .xor .u8 (f i.toNat) x)=Cc f x (i+1).toNat:=by
 have h1:(i+1).toNat=i.toNat+1:=by omega
 rw[h1,e,eh,Nat.mul_one];rfl
theorem OJ {n m c:Nat} {f g:Nat->Int} (e:n=m) (h:∀i,i<m->f i=g i):bw n f c=bw m g c:=by
 subst e;unfold bw;rw[Ef h]
def jS (n1 n2:Nat) (f g h:Nat->Int):Nat->Int:=ca (n1+n2) (ca n1 f g) h
def E3 (n1 n2 n3:Nat) (f g h k:Nat->Int):Nat->Int:=ca (n1+n2+n3) (ca (n1+n2) (ca n1 f g) h) k
theorem WW (f:Nat->Int) (y:Int) (w:ae):
 aQ prog 108 #[.agg (aq .u8 64 f),.int .u8 y] w λv w1=>∃b,v=.slice (some ⟨b,0,none⟩) 64 64/\w.heap.size<=b/\w1.heap[b]?=some (.cells (aq .u8 64 (iu f y)) 5 (0,0))/\Ch [] w w1:=by
 have S0:=St.nil [] w;refine il Tryz.func108 rfl ?_;refine aM (aT ?_);refine ei S0 (λb=>.pointer (some ⟨b,0,none⟩)) (.cells (aq .u8 64 f) 205) ?_;intro bx gP du;refine ak (.slice none 0 0) ?_;refine aR (aL (aM (aT ?_)));refine ei du (λb=>.slice (some ⟨b,0,none⟩) 64 64) (.cells (aq .u8 64 (λ_=>0)) 5) ?_;intro de lL cM;refine fL ?_;refine aR (aL (aM (aM (aT ?_))));refine jI cM 1 64 (aq .u8 64 f) bx 0 ?_;refine ak (.int .i64 0) ?_;refine aR (aL (iL ?_));refine Ik (λzn za zw=>∃(i:Int) (W:Nat->Int) (oK:Nat->ab),(zn=(64-i).toNat/\0<=i/\i<=64/\W=Cc f y i.toNat)/\za=⟨#[.agg (aq .u8 64 f),.int .u8 y,.pointer (some ⟨bx,0,none⟩),undef,.slice none 0 0,.slice (some ⟨de,0,none⟩) 64 64,(oK 6),(oK 7),.slice (some ⟨de,0,none⟩) 64 64,.agg (aq .u8 64 f),.int .i64 i,(oK 11),(oK 12),(oK 13),(oK 14),(oK 15),(oK 16),(oK 17),(oK 18),(oK 19),(oK 20),undef],[]⟩/\St [] w [⟨de,true,.cells (aq .u8 64 W) 5 (0,0)⟩,⟨bx,true,.cells (aq .u8 64 f) 205 (0,0)⟩] zw) _ (λzy lM=>⟨(0:Int),(λ_=>0),(λd=>zy.tmps.getD d undef),⟨rfl,by omega,by omega,rfl⟩,by subst lM;kernel_rfl,cM.re (R:=([]:List ai)) [[⟨de,true,.cells (aq .u8 64 (λ_=>0)) 5 (0,0)⟩],[⟨bx,true,.cells (aq .u8 64 f) 205 (0,0)⟩]] [0,1]⟩) ?_;rintro _ _ WX ⟨i,W,oK,⟨rfl,zf8,zf9,WY⟩,rfl,oL⟩;refine aM (aT ?_);refine ak (.bool (decide (i<64))) ?_;refine aR (aL (aM ?_));refine qY (decide (i<64)) ?_ ?_
 ·intro mg;have tz:=yN mg;refine jr (aL (aM (iL (aM (aT ?_)))));refine ak (.int .i64 i) ?_;refine ac6 (e:=5) .u8 64 f .i64 i (by omega) (by omega) ?_;refine ak (.int .i64 i) ?_;refine ak (.int .u8 (f (i).toNat)) ?_;refine aR (aL (aT ?_));refine dF ?_;refine ak (.int .i64 i) ?_;refine ak (.int .u8 (f (i).toNat)) ?_;refine ak (.int .u8 y) ?_;refine ak (.int .u8 (bits .xor .u8 (f (i).toNat) y)) ?_;refine pV (e:=5) de 0 (i).toNat 64 1 64 .i64 i (by omega) (by omega) rfl ?_;refine store_ oL 0 (.int .u8 (bits .xor .u8 (f (i).toNat) y)) de (0+(i).toNat*1) ?_ (hb:=ckF (t:=5) (kd:=.u8) (n:=64) (f:=W) (by omega));intro Cd oM;have qo:St [] w [⟨de,true,.cells (aq .u8 64 (mN W (0+(i).toNat*1) (bits .xor .u8 (f (i).toNat) y))) 5 (0,0)⟩,⟨bx,true,.cells (aq .u8 64 f) 205 (0,0)⟩] Cd:=St.stF (t:=5) (kd:=.u8) (n:=64) (f:=W) (i:=0) (off:=(0+(i).toNat*1)) (b:=de) oM (by omega);refine aR (kQ (aL (aT ?_)));refine kA .i64 (i+1) (yK _ (by omega)) ?_;refine ak (.int .i64 (i+1)) ?_;refine aR ?_;refine Ed λzy lM=>?_;exact⟨_,by omega,(i+1),(mN W (0+(i).toNat*1) (bits .xor .u8 (f (i).toNat) y)),(λd=>zy.tmps.getD d undef),⟨rfl,by omega,by omega,aeP i W (by omega) WY⟩,by subst lM;kernel_rfl,qo.re (R:=([]:List ai)) [[⟨de,true,.cells (aq .u8 64 (mN W (0+(i).toNat*1) (bits .xor .u8 (f (i).toNat) y))) 5 (0,0)⟩],[⟨bx,true,.cells (aq .u8 64 f) 205 (0,0)⟩]] [0,1]⟩
 intro E4;have xy:=yO E4;refine wp_exit (kP (kP (uB (aL (aM (aT ?_))))));refine dF ?_;refine fL ?_;refine aR (aL (gh ?_));refine fW rfl (fu [.tmp 4] [.slice (some ⟨de,0,none⟩) 64 64] (.slice (some ⟨de,0,none⟩) 64 64) ⟨iP,trivial⟩) ?_;have ze:aq .u8 64 W=aq .u8 64 (iu f y):=by rw[WY,show i.toNat=64 by omega];exact aeO f y
 exact⟨de,rfl,(oL.own 0 _ rfl rfl).resolve_left (by simp),by rw[<-ze];exact oL.at_ 0 _ rfl,oL.ch⟩
theorem WZ (pb:Nat) (b0 o0 n0 c0:Nat) (f0:Nat->Int) (b1 o1 n1 c1:Nat) (f1:Nat->Int) (h0:0<n0) (hn:n0+n1<=1000000) (w:ae) (hp:w.heap[pb]?=some (.cells #[.slice (some ⟨b0,o0,none⟩) n0 c0,.slice (some ⟨b1,o1,none⟩) n1 c1] 23 (0,0))) (zI:bV w b0 o0 n0 f0) (vd:bV w b1 o1 n1 f1):
 aQ prog 107 #[.slice (some ⟨pb,0,none⟩) 2 2] w λv w1=>∃b c1,v=.slice (some ⟨b,0,none⟩) (n0+n1) c1/\n0+n1<=c1/\w.heap.size<=b/\w1.heap[b]?=some (.cells (bw (n0+n1) (ca n0 f0 f1) c1) 5 (0,0))/\Ch [] w w1:=by
 have S0:=St.given (w:=w) [(pb,.cells #[.slice (some ⟨b0,o0,none⟩) n0 c0,.slice (some ⟨b1,o1,none⟩) n1 c1] 23 (0,0))] (all_cons hp (all_nil));refine il Tryz.func107 rfl ?_;refine aM (aT ?_);refine ak (.slice none 0 0) ?_;refine aR (aL (aM (aT ?_)));refine ak (.slice none 0 0) ?_;refine aR (aL (aM (aM (aT ?_))));refine dF ?_;refine ak (.int .i64 2) ?_;refine ak (.int .i64 0) ?_;refine aR (aL (iL (DU 24 (aM (aT ?_)))));refine ak (.bool true) ?_;refine aR (aL (aM (uD ?_)));refine jr (aL (aM (iL (aM (aT ?_)))));refine ak (.pointer (some ⟨pb,0,none⟩)) ?_;refine oe S0 0 (.slice (some ⟨b0,o0,none⟩) n0 c0) pb 0 ?_;refine fL ?_;refine aR (aL (aT ?_));refine ak (.slice none 0 0) ?_;refine dF ?_;have zS7:St [] w ([⟨pb,false,.cells #[.slice (some ⟨b0,o0,none⟩) n0 c0,.slice (some ⟨b1,o1,none⟩) n1 c1] 23 (0,0)⟩]++([]:List ai)) w:=S0.re (R:=([]:List ai)) [[⟨pb,false,.cells #[.slice (some ⟨b0,o0,none⟩) n0 c0,.slice (some ⟨b1,o1,none⟩) n1 c1] 23 (0,0)⟩]] [0];have zJ:St [] w ([⟨pb,false,.cells #[.slice (some ⟨b0,o0,none⟩) n0 c0,.slice (some ⟨b1,o1,none⟩) n1 c1] 23 (0,0)⟩]++([]++([]:List ai))) w:=zS7.conv (by kernel_rfl);refine Vb (n:=0) (c:=0) (f:=(λ_=>0)) (g:=f0) (xv:=.slice (some ⟨b0,o0,none⟩) n0 c0) zJ (M8 5) (y9 (e':=5) (St.kX S0 zI (by simp))) (by omega) ?_;intro zx2 OK zq1 lL OL cM;have aeQ:=Eh OL (by omega);obtain⟨W0,ve,kE,jT⟩:=aeQ;subst kE;subst jT;refine fL ?_;refine aR (kQ (aL (aT ?_)));refine ak (.int .i64 1) ?_;refine ak (.int .i64 1) ?_;refine aR (uC (aM (aT ?_)));refine ak (.bool true) ?_;refine aR (aL (aM (uD ?_)));refine jr (aL (aM (iL (aM (aT ?_)))));refine ak (.pointer (some ⟨pb,1,none⟩)) ?_;refine oe cM 0 (.slice (some ⟨b1,o1,none⟩) n1 c1) pb 1 ?_;refine fL ?_;refine aR (aL (aT ?_));refine dF ?_;refine dF ?_;have qp:St [] w ([⟨pb,false,.cells #[.slice (some ⟨b0,o0,none⟩) n0 c0,.slice (some ⟨b1,o1,none⟩) n1 c1] 23 (0,0)⟩]++([⟨W0,true,.cells (bw (0+n0) (ca 0 (λ_=>0) f0) OK) 5 (0,0)⟩]++([]:List ai))) lL:=cM.re (R:=([]:List ai)) [[⟨pb,false,.cells #[.slice (some ⟨b0,o0,none⟩) n0 c0,.slice (some ⟨b1,o1,none⟩) n1 c1] 23 (0,0)⟩],[⟨W0,true,.cells (bw (0+n0) (ca 0 (λ_=>0) f0) OK) 5 (0,0)⟩]] [0,1];refine Vb (n:=(0+n0)) (c:=OK) (f:=(ca 0 (λ_=>0) f0)) (g:=f1) (xv:=.slice (some ⟨b1,o1,none⟩) n1 c1) qp ⟨ve,.inr ⟨_,rfl,rfl⟩⟩ (y9 (e':=5) (St.kX cM vd (by simp))) (by omega) ?_;intro as9 ki as_ zK Ce oN;have aeR:=Eh Ce (by omega);obtain⟨vf,rI,E5,qq⟩:=aeR;subst E5;subst qq;refine fL ?_;refine aR (kQ (aL (aT ?_)));refine ak (.int .i64 2) ?_;refine ak (.int .i64 2) ?_;refine aR (uC (aM (aT ?_)));refine ak (.bool false) ?_;refine aR (aL (aM (og ?_)));refine wp_exit (kP (kP (uB (aL (aM (aT ?_))))));refine dF ?_;refine fL ?_;refine aR (aL (gh ?_));refine fW rfl (fu [.tmp 2] [.slice (some ⟨vf,0,none⟩) ((0+n0)+n1) ki] (.slice (some ⟨vf,0,none⟩) ((0+n0)+n1) ki) ⟨iP,trivial⟩) ?_;have ze:bw ((0+n0)+n1) (ca (0+n0) (ca 0 (λ_=>0) f0) f1) ki=bw (n0+n1) (ca n0 f0 f1) ki:=OJ (by omega) λi hi=>by simp only[ada,jS,E3,eh]
 exact⟨vf,ki,by rw[show((0+n0)+n1)=n0+n1 by omega],by have:=rI;omega,(oN.own 1 _ rfl rfl).resolve_left (by simp),by rw[<-ze];exact oN.at_ 1 _ rfl,oN.ch⟩
def fU (kn:Nat) (kf:Nat->Int) (n:Nat) (d:Nat->Int):Nat->Int:=jD (64+32) (ca 64 (iu (dC (λ_=>0) 0 kn kf) 92) (jD (64+n) (ca 64 (iu (dC (λ_=>0) 0 kn kf) 54) d)))
def mI (f g:Nat->Int):Nat->Int
 |0=>0
 |k+1=>bits .or .u8 (mI f g k) (bits .xor .u8 (f k) (g k))
theorem aeS {f g:Nat->Int} (i s:Int) (h:0<=i) (e:s=mI f g i.toNat):bits .or .u8 s (bits .xor .u8 (f i.toNat) (g i.toNat))=mI f g (i+1).toNat:=by
 have h1:(i+1).toNat=i.toNat+1:=by omega
 rw[h1,e];rfl
def mh (n:Nat) (f g:Nat->Int):Bool:=mI f g n==0
def vg (ka:Option aI) (kn:Nat):Prop:=(0<kn\/∃x,ka=some x)/\kn<=64
theorem vg.some {ka:Option aI} {kn kc:Nat} {kf:Nat->Int} {w:ae} (h:vg ka kn) (hk:dD w ka kn kc kf):∃x,ka=Option.some x:=by
 rcases h.1 with h1|h1
 ·exact hk.Ve h1
 ·exact h1
theorem vg.of {ka:Option aI} {kn:Nat} (h:1<=kn/\kn<=64):vg ka kn:=⟨.inl h.1,h.2⟩
theorem aeT {P:aC} {ops:Array an} {rest:List an} {o:an} {a:Act} {w w0:ae} {ms:List Nat} {bs:List ai} {Q:dN->Act->ae->Prop} (S:St ms w0 bs w) (i:Nat) (b N off n c:Nat) (f:Nat->Int) (ka:Option aI) (m sc:Nat) (g:Nat->Int) {t:aD} {s x:aZ} {tt tx elem:aD} (h8:dD w ka m sc g) (h1:∃x,ka=some x) (hm:m<=n) (hn:off+m<=N)
 (hb:bs[i]?=some ⟨b,true,.cells (aq .u8 N f) t (0,0)⟩) {bs':List ai} (h2:bs.set i ⟨b,true,.cells (aq .u8 N (dC f off m g)) t (0,0)⟩=bs')
 (k:∀w',St ms w0 bs' w'->WL P ops Q rest (a.put o.dst (.int .i64 m)) w')
 (hw:gf o (yielded ops a.tmps)=true:=by kernel_rfl) (ho:o.op=.call ⟨.builtin .copy,#[s,x],#[tt,tx]⟩:=by rfl) (hs:a.eval s=.slice (some ⟨b,off,none⟩) n c:=by kernel_rfl) (hx:a.eval x=.slice ka m sc:=by kernel_rfl)
 (hu:P.underlying tt=some (.slice elem):=by kernel_rfl) (hz:(P.info? elem).map (·.size)=some 1:=by kernel_rfl):WL P ops Q (o::rest) a w:=
 WL.want hw λK hK=>by
  obtain⟨x0,rfl⟩:=h1;have aK:=S.at_ i _ hb;have Eg:Nat.min m n=m:=Nat.min_eq_left hm;have bE:=run_copy_row (P:=P) w tt tx o.type elem b off n c x0 m sc (aq .u8 N f) t (bP m g) hu hz aK (by rw[fY,Eg]) (λj v hj=>by
   obtain⟨h1,rfl⟩:=wP hj;exact h8.2.2.2 x0 rfl j h1) (by rw[fY,Ec];exact hn) Ee
  unfold nv;rw[Io ho hs hx bE];rw[fY];have he:(goInt m:ab)=.int .i64 m:=rfl;rw[he];refine hK _ _ (k _ ?_);have hS:=S.step hb rfl (Ch.setRow w b _) (setRow_heap w b (aq .u8 N f) ((aq .u8 N f).toList.take off++bP m g++(aq .u8 N f).toList.drop (off+m)).toArray t (0,0) aK);have e2:((aq .u8 N f).toList.take off++bP m g++(aq .u8 N f).toList.drop (off+m)).toArray=aq .u8 N (dC f off m g):=M6 .u8 f hn g;rw[e2,h2]at hS;rw[e2];exact hS
theorem vh (ka:Option aI) (kn kc:Nat) (kf:Nat->Int) (b o n c:Nat) (d:Nat->Int) (kj:vg ka kn) (hn:n<=55) {tG:aD} (w:ae) (hG:w.heap[1]?=some (.cells (aq .u32 64 cx) tG (0,0))) (hk:dD w ka kn kc kf) (hB:bV w b o n d):
 aQ prog 67 #[.slice ka kn kc,.slice (some ⟨b,o,none⟩) n c] w λv w1=>v=.agg (aq .u8 32 (fU kn kf n d))/\Ch [] w w1:=by
 have S0:=St.given (w:=w) [(1,.cells (aq .u32 64 cx) tG (0,0))] (all_cons hG (all_nil));refine il Tryz.func67 rfl ?_;refine aM (aT ?_);refine ei S0 (λb=>.pointer (some ⟨b,0,none⟩)) (.cells (aq .u8 32 (λ_=>0)) 37) ?_;intro bx gP du;refine aR (aL (aM (aT ?_)));refine ei du (λb=>.pointer (some ⟨b,0,none⟩)) (.cells (aq .u8 64 (λ_=>0)) 205) ?_;intro de lL cM;refine aR (aL (aM (aM (aT ?_))));refine ak (.slice ka kn kc) ?_;refine ak (.int .i64 ((kn:Nat):Int)) ?_;refine nA (.bool (decide (64<((kn:Nat):Int)))) (.bool false) (congrArg A_ (MD (by have:=kj.2;omega))) ?_;refine aR (aL (og ?_));refine aT ?_;refine ak (.slice (some ⟨de,0,none⟩) 64 64) ?_;refine ak (.slice ka kn kc) ?_;have hks:=kj.some hk;have ata:kn<=64:=kj.2;refine aeT (elem:=5) (t:=205) cM 0 de 64 0 64 64 (λ_=>0) ka kn kc kf (dD.quiet hk cM.ch) hks (by omega) (by omega) (by kernel_rfl) (by kernel_rfl:_=[⟨de,true,.cells (aq .u8 64 (dC (λ_=>0) 0 kn kf)) 205 (0,0)⟩,⟨bx,true,.cells (aq .u8 32 (λ_=>0)) 37 (0,0)⟩,⟨1,false,.cells (aq .u32 64 cx) tG (0,0)⟩]) ?_;intro Cf zJ;refine aR (aL (aM (aT ?_)));refine jI zJ 0 64 (aq .u8 64 (dC (λ_=>0) 0 kn kf)) de 0 ?_;refine fe 108 #[.agg (aq .u8 64 (dC (λ_=>0) 0 kn kf)),.int .u8 54] ?_;refine(WW (dC (λ_=>0) 0 kn kf) 54 _).mono ?_;rintro _ W3 ⟨Jj,rfl,mg,tz,kE⟩;have xz:=zJ.new kE mg tz;refine dF ?_;refine ei xz (λb=>.slice (some ⟨b,0,none⟩) 2 2) (.cells #[.slice (some ⟨Jj,0,none⟩) 64 64,.slice (some ⟨b,o,none⟩) n c] 23) ?_;intro lN W4 qo;refine fe 107 #[.slice (some ⟨lN,0,none⟩) 2 2] ?_;refine(WZ lN Jj 0 64 64 (iu (dC (λ_=>0) 0 kn kf) 54) b o n c d (by omega) (by omega) _ (qo.at_ 0 _ rfl) (St.eA (N:=64) (f:=(iu (dC (λ_=>0) 0 kn kf) 54)) (wr:=true) (t:=5) (fr:=(0,0)) qo 1) (St.kX qo hB (by simp))).mono ?_;rintro _ zK ⟨vf,zL,rfl,qq,rI,E6,xy⟩;have qp:=qo.new xy rI E6;refine fe 106 #[.slice (some ⟨vf,0,none⟩) (64+n) zL] ?_;refine(OI vf 0 (64+n) zL (ca 64 (iu (dC (λ_=>0) 0 kn kf) 54) d) (by omega) _ (qp.at_ 5 _ rfl) (St.zb (c:=zL) (wr:=true) (t:=5) (fr:=(0,0)) qp 0)).mono ?_;rintro _ W5 ⟨rfl,jU⟩;have E7:=qp.quiet jU;refine ei E7 (λb=>.pointer (some ⟨b,0,none⟩)) (.cells (aq .u8 32 (λ_=>0)) 37) ?_;intro Cg Jk OM;refine store_ OM 0 (.agg (aq .u8 32 (jD (64+n) (ca 64 (iu (dC (λ_=>0) 0 kn kf) 54) d)))) Cg 0 ?_;intro aeU vi;refine aR (aL (aM ?_));refine yT 3 [⟨0,λ_=>.agg (aq .u8 64 (dC (λ_=>0) 0 kn kf)),λ_=>[]⟩,⟨1,λids=>.slice (some ⟨(ids.getD 0 0),0,none⟩) 64 64,λids=>[((ids.getD 0 0),.cells (aq .u8 64 (iu (dC (λ_=>0) 0 kn kf) 92)) 5 (0,0))]⟩,⟨0,λ_=>.slice (some ⟨Cg,0,none⟩) 32 32,λ_=>[]⟩] [[3,1,0],[3,1],[3,2],[4,1,0],[4,1],[4,3,2],[4,3],[5,4,1,0],[5,4,1],[5,4,3,2],[5,4,3],[5,4],[6,0],[6,1],[6,2],[6,3],[6,4],[6,5]] ?_ ?_
 ·refine step_cons (D7 vi 4 de 0 64 (aq .u8 64 (dC (λ_=>0) 0 kn kf))) ?_;refine step_cons ?_ ?_
  ·intro aeV atb W6 atc aeW;have rJ:aeV 25=.agg (aq .u8 64 (dC (λ_=>0) 0 kn kf)):=(Sp.dq (aeW 0 25 (by kernel_rfl) (by kernel_rfl))).1;have aeX:=vi.quiet W6;refine ot ?_;refine lA [(25,.agg (aq .u8 64 (dC (λ_=>0) 0 kn kf)))] (lB rJ (om)) ?_;have aeY:=aeX.loc;refine Y.fe 108 #[.agg (aq .u8 64 (dC (λ_=>0) 0 kn kf)),.int .u8 92] ?_;refine(WW (dC (λ_=>0) 0 kn kf) 92 _).mono ?_;rintro _ atd ⟨aeZ,rfl,ae0,ON,E8⟩;have W7:=aeY.new E8 ae0 ON;exact⟨W7.ch,Sp.oq [aeZ] (all_cons (W7.uJ W6.size 0 (by kernel_rfl)) (all_nil))⟩
  refine step_cons gL ?_;exact yS
 intro OO W8 ae1 OP;have Ci:OO 0=.agg (aq .u8 64 (dC (λ_=>0) 0 kn kf)):=(Sp.dq (OP 0 (by kernel_rfl))).1;have OQ:=Sp.uI (OP 1 (by kernel_rfl));obtain⟨kF,OR,OS⟩:=OQ;have OT:OO 1=.slice (some ⟨kF,0,none⟩) 64 64:=OR;have OU:∀zp∈([(kF,.cells (aq .u8 64 (iu (dC (λ_=>0) 0 kn kf) 92)) 5 (0,0))]:List (Nat×Obj)),aeU.heap.size<=zp.1/\W8.heap[zp.1]?=some zp.2:=OS;have OV:OO 2=.slice (some ⟨Cg,0,none⟩) 32 32:=(Sp.dq (OP 2 (by kernel_rfl))).1;have Jl:=vi.ro ae1 ([(kF,.cells (aq .u8 64 (iu (dC (λ_=>0) 0 kn kf) 92)) 5 (0,0))]) (OU);refine⟨[.agg (aq .u8 64 (dC (λ_=>0) 0 kn kf)),.slice (some ⟨kF,0,none⟩) 64 64,.slice (some ⟨Cg,0,none⟩) 32 32],by kernel_rfl,dO Ci (dO OT (dO OV (Bo))),?_⟩;refine ei Jl (λb=>.slice (some ⟨b,0,none⟩) 2 2) (.cells #[.slice (some ⟨kF,0,none⟩) 64 64,.slice (some ⟨Cg,0,none⟩) 32 32] 23) ?_;intro vj ae2 Jm;refine fe 107 #[.slice (some ⟨vj,0,none⟩) 2 2] ?_;refine(WZ vj kF 0 64 64 (iu (dC (λ_=>0) 0 kn kf) 92) Cg 0 32 32 (jD (64+n) (ca 64 (iu (dC (λ_=>0) 0 kn kf) 54) d)) (by omega) (by omega) _ (Jm.at_ 0 _ rfl) (St.eA (N:=64) (f:=(iu (dC (λ_=>0) 0 kn kf) 92)) (wr:=false) (t:=5) (fr:=(0,0)) Jm 1) (St.eA (N:=32) (f:=(jD (64+n) (ca 64 (iu (dC (λ_=>0) 0 kn kf) 54) d))) (wr:=true) (t:=37) (fr:=(0,0)) Jm 2)).mono ?_;rintro _ ate ⟨W9,OW,rfl,W_,OX,ae3,ae4⟩;have OY:=Jm.new ae4 OX ae3;refine fe 106 #[.slice (some ⟨W9,0,none⟩) (64+32) OW] ?_;refine(OI W9 0 (64+32) OW (ca 64 (iu (dC (λ_=>0) 0 kn kf) 92) (jD (64+n) (ca 64 (iu (dC (λ_=>0) 0 kn kf) 54) d))) (by omega) _ (OY.at_ 9 _ rfl) (St.zb (c:=OW) (wr:=true) (t:=5) (fr:=(0,0)) OY 0)).mono ?_;rintro _ atf ⟨rfl,ae5⟩;have ae6:=OY.quiet ae5;refine store_ ae6 8 (.agg (aq .u8 32 (jD (64+32) (ca 64 (iu (dC (λ_=>0) 0 kn kf) 92) (jD (64+n) (ca 64 (iu (dC (λ_=>0) 0 kn kf) 54) d)))))) bx 0 ?_;intro atg Xa;refine aR (aL (gh ?_));refine fW rfl (fu [.cell 4 37] [.agg (aq .u8 32 (jD (64+32) (ca 64 (iu (dC (λ_=>0) 0 kn kf) 92) (jD (64+n) (ca 64 (iu (dC (λ_=>0) 0 kn kf) 54) d)))))] (.agg (aq .u8 32 (jD (64+32) (ca 64 (iu (dC (λ_=>0) 0 kn kf) 92) (jD (64+n) (ca 64 (iu (dC (λ_=>0) 0 kn kf) 54) d)))))) ⟨lV Xa 8 32 bx 0,trivial⟩) ?_;exact⟨by(unfold fU)<;>kernel_rfl,Xa.ch⟩
theorem OZ (ka:Option aI) (kn kc:Nat) (kf:Nat->Int) (b o n c:Nat) (d:Nat->Int) (kj:vg ka kn) (hn:n<=55) {tG:aD} (w:ae) (hG:w.heap[1]?=some (.cells (aq .u32 64 cx) tG (0,0))) (hk:dD w ka kn kc kf) (hB:bV w b o n d):
 aQ prog 42 #[.slice ka kn kc,.slice (some ⟨b,o,none⟩) n c] w λv w1=>v=.agg (aq .u8 8 (fU kn kf n d))/\Ch [] w w1:=by
 have S0:=St.given (w:=w) [(1,.cells (aq .u32 64 cx) tG (0,0))] (all_cons hG (all_nil));refine il Tryz.func42 rfl ?_;refine aM (aT ?_);refine ei S0 (λb=>.pointer (some ⟨b,0,none⟩)) (.cells (aq .u8 8 (λ_=>0)) 38) ?_;intro bx gP du;refine aR (aL (aM (aT ?_)));refine ak (.slice ka kn kc) ?_;refine dF ?_;refine fe 67 #[.slice ka kn kc,.slice (some ⟨b,o,none⟩) n c] ?_;refine(vh ka kn kc kf b o n c d kj (by omega) _ (du.at_ 1 _ rfl) (dD.quiet hk du.ch) (St.kX du hB (by simp))).mono ?_;rintro _ E9 ⟨rfl,E_⟩;have cM:=du.quiet E_;refine ei cM (λb=>.pointer (some ⟨b,0,none⟩)) (.cells (aq .u8 32 (λ_=>0)) 37) ?_;intro rK zw8 iy;refine store_ iy 0 (.agg (aq .u8 32 (fU kn kf n d))) rK 0 ?_;intro ae7 xz;refine aR (aL (aM (aT ?_)));refine ak (.slice (some ⟨rK,0,none⟩) 8 32) ?_;refine ak (.pointer (some ⟨rK,0,none⟩)) ?_;refine jI xz 0 8 (aq .u8 8 (fU kn kf n d)) rK 0 ?_;refine store_ xz 1 (.agg (aq .u8 8 (fU kn kf n d))) bx 0 ?_;intro O0 zM;refine aR (aL (gh ?_));refine fW rfl (fu [.cell 4 38] [.agg (aq .u8 8 (fU kn kf n d))] (.agg (aq .u8 8 (fU kn kf n d))) ⟨lV zM 1 8 bx 0,trivial⟩) ?_;exact⟨by kernel_rfl,zM.ch⟩
theorem Xb (b o n c e q k:Nat) (f g:Nat->Int) (hn:n<=1000000) (w:ae) (hB:bV w b o n f) (hE:bV w e q n g):
 aQ prog 192 #[.slice (some ⟨b,o,none⟩) n c,.slice (some ⟨e,q,none⟩) n k] w λv w1=>v=.bool (mh n f g)/\Ch [] w w1:=by
 have S0:=St.nil [] w;refine il Tryz.func192 rfl ?_;refine aM (aT ?_);refine ak (.bool false) ?_;refine aR (aL (aM (aM (aT ?_))));refine dF ?_;refine ak (.int .i64 ((n:Nat):Int)) ?_;refine dF ?_;refine ak (.int .i64 ((n:Nat):Int)) ?_;refine nA (.bool (((n:Nat):Int)!=((n:Nat):Int))) (.bool false) (congrArg A_ (neF (by omega))) ?_;refine aR (aL (og ?_));refine jr (aL (aM (aT ?_)));refine ak (.int .u8 0) ?_;refine aR (aL (aM (aM (aT ?_))));refine dF ?_;refine ak (.int .i64 ((n:Nat):Int)) ?_;refine ak (.int .i64 0) ?_;refine aR (aL (iL ?_));refine Ik (λzn za zw=>∃(i:Int) (s:Int) (eW:Nat->ab),(zn=(((n:Nat):Int)-i).toNat/\0<=i/\i<=((n:Nat):Int)/\s=mI f g i.toNat)/\za=⟨#[.slice (some ⟨b,o,none⟩) n c,.slice (some ⟨e,q,none⟩) n k,undef,undef,.bool false,.int .u8 s,(eW 6),(eW 7),.slice (some ⟨b,o,none⟩) n c,.int .i64 ((n:Nat):Int),.slice (some ⟨e,q,none⟩) n k,.int .i64 ((n:Nat):Int),.bool false,.slice (some ⟨b,o,none⟩) n c,.int .i64 ((n:Nat):Int),.int .i64 i,(eW 16),(eW 17),(eW 18),(eW 19),(eW 20),(eW 21),(eW 22),(eW 23),(eW 24),(eW 25),(eW 26),(eW 27),(eW 28),undef,undef],[]⟩/\St [] w [] zw) _ (λzy lM=>⟨(0:Int),(0:Int),(λd=>zy.tmps.getD d undef),⟨rfl,by omega,by omega,rfl⟩,by subst lM;kernel_rfl,S0.re (R:=([]:List ai)) [] []⟩) ?_;rintro _ _ lL ⟨i,s,eW,⟨rfl,Xc,Xd,vl⟩,rfl,cM⟩;refine aM (aT ?_);refine ak (.bool (decide (i<((n:Nat):Int)))) ?_;refine aR (aL (aM ?_));refine qY (decide (i<((n:Nat):Int))) ?_ ?_
 ·intro vm;have nH:=yN vm;refine jr (aL (aM (iL (aM (aT ?_)))));refine ak (.int .i64 i) ?_;refine pV (e:=5) b o (i).toNat n 1 c .i64 i (by omega) (by omega) (by omega) ?_;refine sT b o n (o+(i).toNat*1) (i).toNat f (St.kX cM hB (by simp)) (by omega) (by omega) ?_;refine ak (.int .i64 i) ?_;refine ak (.int .u8 (f (i).toNat)) ?_;refine aR (aL (aT ?_));refine ak (.int .u8 s) ?_;refine ak (.int .u8 (f (i).toNat)) ?_;refine dF ?_;refine ak (.int .i64 i) ?_;refine pV (e:=5) e q (i).toNat n 1 k .i64 i (by omega) (by omega) (by omega) ?_;refine sT e q n (q+(i).toNat*1) (i).toNat g (St.kX cM hE (by simp)) (by omega) (by omega) ?_;refine ak (.int .u8 (bits .xor .u8 (f (i).toNat) (g (i).toNat))) ?_;refine ak (.int .u8 (bits .or .u8 s (bits .xor .u8 (f (i).toNat) (g (i).toNat)))) ?_;refine fL ?_;refine aR (kQ (aL (aT ?_)));refine kA .i64 (i+1) (yK _ (by omega)) ?_;refine ak (.int .i64 (i+1)) ?_;refine aR ?_;refine Ed λzy lM=>?_;exact⟨_,by omega,(i+1),(bits .or .u8 s (bits .xor .u8 (f (i).toNat) (g (i).toNat))),(λd=>zy.tmps.getD d undef),⟨rfl,by omega,by omega,aeS i s (by omega) vl⟩,by subst lM;kernel_rfl,cM.re (R:=([]:List ai)) [] []⟩
 intro vn;have kE:=yO vn;refine wp_exit (kP (kP (uB (aL (aM (aT ?_))))));refine ak (.int .u8 s) ?_;refine ak (.bool (s==0)) ?_;refine ak (.bool (s==0)) ?_;refine aR (aL (gh ?_));refine fW rfl (fu [.tmp 4] [.bool (s==0)] (.bool (s==0)) ⟨iP,trivial⟩) ?_;exact⟨congrArg A_ (by unfold mh;rw[vl,show i.toNat=n by omega]),cM.ch⟩
end
end Go.Proofs.YtggfpcggakghnaaGreatDoor
