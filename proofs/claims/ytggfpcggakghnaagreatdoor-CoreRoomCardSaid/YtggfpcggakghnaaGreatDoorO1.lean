/- Part 1 of the proof. -/
import Derived.Test.YtggfpcggakghnaaGreatDoorProg
import Derived.Test.YtggfpcggakghnaaGreatDoorO0
set_option linter.all false
set_option maxRecDepth 100000
set_option maxHeartbeats 4000000
noncomputable section
open Go.Proofs.Tryz
open Go.IntKind (u8 u16 u32 u64 i64)
open Array renaming replicate->Ca,getElem?_eq_none->Es,getD->Ew,all_eq_true_iff_forall_mem->IH,getElem?_eq_getElem->II,toList_setIfInBounds->IJ,ext'->fe,getD_eq_getD_getElem?->ju,getElem?_setIfInBounds->qx,getElem?_replicate->zN
open Bool renaming or_eq_true->Cc,and_eq_true->bg,not_eq_true'->lN
open Go renaming ResultVar->IE,Program->aF,TypeId->aG,Addr->aO,Value->ab,World->ae,Oper->ao,Operand->ba,Exit->dR,run_underlying->dt,IntKind->eS,FuncId->fc,wp_ret->gv,wp_skip->jI,wp_block->jc,heap_alloc_new->mX,sizeOf->oP,MapEntry->va
open Go.Addr renaming add_lit->iE,add->u5
open Go.Builtin renaming append_->mY,zeroCells->n9
open Go.Code renaming rounds->Cb
open Go.Exit renaming inBlock->ID
open Go.Instr renaming slice->Ev,storeAt->IC,findNow->NF,buildSlice->V3,makeSlice->V6,mapUpdate->ad4,sureAddr->i_,loadAt->qu,indexAt->tA,sliceAt->tD,sliceBounds->tF,sliceBound->zQ
open Go.IntKind renaming bits->tI,signed->tJ,wrap->xw
open Go.IntWalk renaming i64_in->zV
open Go.Oper renaming looksAt->IN,upon_skip->ad2,wp->n7,upon_value->zU
open Go.Place renaming get->ad1
open Go.Region renaming wanted->gu,ready->qA,binds->qy
open Go.Result renaming andThen_ok->cz,andThen->jw
open Go.Sem renaming run_bind->bx,run_pure->dg
open Go.Src renaming ofSlice->rU
open Go.Value renaming bool->Ce,int->eg
open Go.World renaming cell?->xu
open Int renaming ofNat->cJ,fdiv->jd
open List renaming range_succ->Cf,mem_cons_self->Cg,singleton_append->Ex,flatMap_append->Ey,getElem?_drop->Ez,getElem?_set_ne->IB,getElem?_take->NH,length_singleton->V4,getElem?_take_of_lt->V7,count_replicate_self->VW,append_assoc->bR,range->bd,append_nil->cQ,mem_cons->ca,map_cons->eH,mem_append->eJ,all_eq_true->fR,nil_append->fl,length_append->fq,cons_append->ft,getElem?_append_left->gV,getElem?_eq_none->iK,getElem?_map->iZ,mem_singleton->ig,getD->ij,perm_middle->jH,getElem?_eq_getElem->jb,getElem?_toArray->jt,take_append_drop->jv,length_cons->kN,replicate->lP,getElem?_range->m9,mem_map->mn,map_map->mr,mem_of_getElem?->oQ,mem_append_left->oU,map_append->qB,map_congr_left->qD,nodup_cons->qz,perm_append_comm_assoc->rW,mem_append_right->tH,length_take->u9,ext_getElem?->u_,range_succ_eq_map->vd,map_nil->vf,mem_cons_of_mem->xz,any_eq_true->zK
open List.Perm renaming append_right->Et,append_left->qG
open List.Sublist renaming append_right->ad3
open Nat renaming mul_le_mul_right->NC,le_of_not_lt->V5,beq->aq,ble->bu,lt_or_ge->cN,eq_of_beq_eq_true->ck,blt->cu,le_refl->dE,le_of_ble_eq_true->du,zero_add->eD,le_trans->iY,blt_eq->ie,add_mul->mq,add_zero->oR,beq_refl->rV,ble_eq_true_of_le->tB,eq_zero_or_pos->u6,add_assoc->zP
open Option renaming getD_some->VV,map_eq_some_iff->gU,map_some->lO
open Option.some renaming injEq->aV,inj->cA
open Prod.mk renaming injEq->bw
namespace Vx
open Go Go.RowKit Go.BigFrame Sx
section
variable{ids:List Nat} {P:aF} {w w0:ae} {ms:List Nat} {e:ba->V} {ρ:ba->ab} {bl:List VB} {R:List ai}
theorem kS (b:Nat):(ids++[b]).getD ids.length 0=b:=by simp[ij]
theorem Xc {t el:aG} {len z:Nat} {zc c:List V} {ps:List (Nat×V)} (hu:P.underlying t=some (.slice el)) (hz:eu P el=some (z+1)) (h0:mB P el=some zc) (hl:bY zc=z+1) (hb:len*(z+1)<=2^24)
 (hf:xX (λi=>some (i*(z+1),z+1)) (kR zc len) ps=some c):(V3 t len (ps.map λp=>(p.1,den ids p.2)).toArray).run P w=.ok (.slice (some ⟨w.heap.size,0,none⟩) len len) (w.alloc (.cells (ah ids c).toArray el)):=by
 have E_:=Oz (ids:=ids) (place:=λi=>some (i*(z+1),z+1)) (λi x hx=>hx) ps _ c hf;obtain⟨v0,z1,z2⟩:=As (P:=P) (w:=w) (ids:=ids) h0;have vz:¬(len*(z+1)>2^24):=by omega
 have hv:v0.cells.size=z+1:=by rw[<-Array.length_toList,z2,kr,hl]
 have Fa:(Array.range (len*(z+1))).map (λi=>v0.cells[i%v0.cells.size]!)=(ah ids (kR zc len)).toArray:=by
  apply fe;rw[ON v0.cells z hv,z2,Xb]
 by_cases lx:len*(z+1)=0
 ·have tU:len=0:=by rcases Nat.mul_eq_zero.1 lx with h|h;exact h;omega
  subst tU;simp only[V3,bx,dt hu,cz,gz hz,if_neg vz];simp only[kR,ah]at E_;simp only[Nat.zero_mul,if_true,bx,dg,cz,List.toList_toArray,show Array.range 0=#[]from rfl,Array.map_empty];rw[E_];rfl
 ·simp only[V3,bx,dt hu,cz,gz hz,if_neg vz,if_neg lx,z1,dg,List.toList_toArray];rw[Fa,E_];rfl
theorem ae7 (a9:∀x,ρ x=den ids (e x)) (o:ao) {v:V} {b:VB} (h:E9 P e ids.length o.op=some (v,b)):
 (execOp ρ o).run P w=.ok (.value (den (ids++[w.heap.size]) v)) (w.alloc (.cells (ah ids b.c).toArray b.ty.t))/\b.wr=true/\b.ty.fz=(0,0):=by
 unfold execOp;unfold E9 at h;split at h
 ·rename_i t ho;split at h
  ·rename_i z hz;simp only[aV,bw]at h;obtain⟨rfl,rfl⟩:=h;obtain⟨v0,z1,z2⟩:=As (P:=P) (w:=w) (ids:=ids) hz;have At:v0.cells=(ah ids z).toArray:=by apply fe;simpa using z2
   refine⟨?_,rfl,rfl⟩;simp only[ho,Instr.alloc,bx,z1,cz,newVar,newRow,At,den,kS];rfl
  ·cases h
 ·rename_i t x ho;cases hq:pr (e x)with
  |false=>rw[hq]at h;simp at h
  |true=>
   rw[hq]at h;simp only[cond_true,aV,bw]at h;obtain⟨rfl,rfl⟩:=h;have hc:(ρ x).cells=(ah ids (jz (e x))).toArray:=by apply fe;rw[a9,Ot hq]
   refine⟨?_,rfl,rfl⟩;simp only[ho,Instr.box,bx,newVar,newRow,hc,den,kS];rfl
 ·rename_i t len ps ho;split at h
  ·rename_i el hu;split at h
   ·rename_i z zc hz OO;cases hq:aq (bY zc) (z+1)&&(bu (len*(z+1)) (2^24)&&!(aq len 0&&(aq z 5||aq z 13)))with
    |false=>rw[hq]at h;simp at h
    |true=>
     rw[hq]at h;simp only[cond_true]at h;simp only[bg]at hq;split at h
     ·rename_i c hc;simp only[aV,bw]at h;obtain⟨rfl,rfl⟩:=h;have:=Xc (ids:=ids) (w:=w) hu hz OO (ck hq.1) (du hq.2.1) hc;refine⟨?_,rfl,rfl⟩;simp only[ho];rw[bx,show(ps.map λ(x:Nat×ba)=>match x with|(i,x)=>(i,ρ x))=(ps.map λ(p:Nat×ba)=>(p.1,ρ p.2))from rfl,W8 ps a9,this];simp[den,kS]
     ·cases h
   ·cases h
  ·cases h
 ·cases h
theorem grow (hl:ids.length=bl.length) (S:St ms w0 (lits ids ids bl++R) w) (b:VB) (hw:b.wr=true) (hf:b.ty.fz=(0,0)) (h1:bM ids.length bl=true) (h2:bj ids.length b.c=true):
 St ms w0 (lits (ids++[w.heap.size]) (ids++[w.heap.size]) (bl++[b])++R) (w.alloc (.cells (ah ids b.c).toArray b.ty.t))/\(ids++[w.heap.size]).length=(bl++[b]).length:=by
 refine⟨?_,by simp[hl]⟩;have h:=S.new (Ch.alloc [] w (.cells (ah ids b.c).toArray b.ty.t)) (dE _) (mX w _);have e:az (ids++[w.heap.size]) w.heap.size b=⟨w.heap.size,true,.cells (ah ids b.c).toArray b.ty.t (0,0)⟩:=by
  simp only[az,j4 _ h2,hw,hf]
 rw[eZ _ _ _ _ hl,e_ _ _ h1];simp only[lits,e];refine h.perm ?_;rw[bR];exact jH.symm
end
def vC:List V->Option (eS×Nat×(Nat->Int))
 |.arr k n f::_=>some (k,n,f)
 |_=>none
def Jr (f:Nat->Int) (i:Nat) (v:Int):Nat->Int:=λj=>bif aq j i then v else f j
def Js (i:Nat) (v:Int):List V->List V
 |.arr k n f::r=>.arr k n (Jr f i v)::r
 |l=>l
def Fb:List V->Option (List Bool)
 |[]=>some []
 |.bool b::l=>(match Fb l with|some r=>some (b::r)|none=>none)
 |_=>none
def Xd (P:aF) (t:aG):Bool:=match P.underlying t with|some .bool=>true|_=>false
def Xe (l:List Bool) (j:Nat):Bool:=l.getD j false
def Au (P:aF) (bl:List VB) (t:aG) (x:V):Option (Prop×V):=match x with
 |.pe i o j z k=>(match bl[i]?with
  |some b=>(match b.c with
   |.fh z' n g::_=>(match o with
    |0=>bif aq z z' then(match sD P t ((g j).map Ap) k with|some v=>some ((j<n/\∀j,(g j).length=z),v)|none=>none)else none
    |_=>none)
   |.rest pre::.fh z' n g::_=>bif aq z z' then(match sD P t ((g j).map Ap) k with|some v=>some ((o=pre.length/\j<n/\∀j,(g j).length=z),v)|none=>none)else none
   |c=>(match vC c,z,k,qX P t with
    |some (kd,n,f),1,0,some false=>some (o+j<n,.int kd (f (o+j)))
    |none,1,0,some false=>(match xV c o 5 with|some l=>(match Fb l with|some r=>some (j<5,.bool (Xe r j))|none=>none)|none=>none)
    |_,_,_,_=>none))
  |none=>none)
 |_=>none
def Av (P:aF) (bl:List VB) (t:aG) (x v:V):Prop:=tT P bl t x=some v\/∃p,Au P bl t x=some (p,v)/\p
def Fc (P:aF) (e:ba->V) (bl:List VB):Op->Option (Prop×V)
 |.indexAddr t x ix=>(match e x with
  |.sl i o n _=>(match bl[i]?with
   |some b=>(match b.c with
    |.fh z' _ _::_=>(match o with
     |0=>(match P.underlying t,e ix with
      |some (.slice el),.int _ m=>(match eu P el with
       |some z=>bif aq z z' then some ((0<=m/\m<(n:Int)),.pe i 0 m.toNat z 0)else none
       |none=>none)
      |_,_=>none)
     |_=>none)
    |.rest pre::.fh z' _ _::_=>(match P.underlying t,e ix with
     |some (.slice el),.int _ m=>(match eu P el with
      |some z=>bif aq z z' then some ((0<=m/\m<(n:Int)),.pe i o m.toNat z 0)else none
      |none=>none)
     |_,_=>none)
    |c=>(match vC c,P.underlying t,e ix with
     |some _,some (.slice el),.int _ m=>(match eu P el with
      |some 1=>some ((0<=m/\m<(n:Int)),.pe i o m.toNat 1 0)
      |_=>none)
     |_,_,_=>none))
   |none=>none)
  |.ptr i o=>(match bl[i]?with
   |some b=>(match vC b.c,P.underlying t,e ix with
    |some _,some (.array n el),.int _ m=>(match eu P el with
     |some 1=>some ((0<=m/\m<(n:Int)),.pe i o m.toNat 1 0)
     |_=>none)
    |none,some (.array n el),.int _ m=>bif aq n 5&&Xd P el then(match eu P el with
     |some 1=>some ((0<=m/\m<(n:Int)),.pe i o m.toNat 1 0)
     |_=>none)else none
    |_,_,_=>none)
   |none=>none)
  |.f_ i o n _ _=>(match bl[i]?with
   |some b=>(match b.c with
    |.fh z' _ _::_=>(match o with
     |0=>(match P.underlying t,e ix with
      |some (.slice el),.int _ m=>(match eu P el with
       |some z=>bif aq z z' then some ((0<=m/\m<(n:Int)),.pe i 0 m.toNat z 0)else none
       |none=>none)
      |_,_=>none)
     |_=>none)
    |.rest pre::.fh z' _ _::_=>(match P.underlying t,e ix with
     |some (.slice el),.int _ m=>(match eu P el with
      |some z=>bif aq z z' then some ((0<=m/\m<(n:Int)),.pe i o m.toNat z 0)else none
      |none=>none)
     |_,_=>none)
    |_=>none)
   |none=>none)
  |_=>none)
 |.slice t x none (some hi) none=>(match e x with
  |.sl i o n c=>(match bl[i]?with
   |some b=>(match b.c with
    |.fh z' _ _::_=>(match o with
     |0=>(match P.underlying t,e hi with
      |some (.slice el),.int _ m=>(match eu P el with
       |some z=>some ((0<=m/\m<=(c:Int)),.sl i 0 m.toNat c)
       |none=>none)
      |_,_=>none)
     |_=>none)
    |.rest pre::.fh z' _ _::_=>(match P.underlying t,e hi with
     |some (.slice el),.int _ m=>(match eu P el with
      |some z=>some ((0<=m/\m<=(c:Int)),.sl i o m.toNat c)
      |none=>none)
     |_,_=>none)
    |_=>none)
   |none=>none)
  |.raw (.slice a n c)=>(match P.underlying t,e hi with
   |some (.slice el),.int _ m=>(match eu P el with
    |some z=>some ((0<=m/\m<=(c:Int)),.raw (.slice a m.toNat c))
    |none=>none)
   |_,_=>none)
  |_=>none)
 |.index t x ix=>(match P.underlying t,e x,e ix with
  |some (.array n el),.agg l,.int _ m=>(match vC l,eu P el,qX P el with
   |some (kd,N,f),some 1,some false=>some (((0<=m/\m<(n:Int))/\m.toNat<N),.int kd (f m.toNat))
   |_,_,_=>none)
  |_,_,_=>none)
 |.slice t x (some lo) none none=>(match e x,P.underlying t,e lo with
  |.raw (.slice (some ⟨b,q,none⟩) n c),some (.slice el),.int _ (.ofNat k)=>(match eu P el with
   |some 1=>some ((k<n/\n<=c),.raw (.slice (some ⟨b,q+k,none⟩) (n-k) (c-k)))
   |_=>none)
  |_,_,_=>none)
 |_=>none
def OP (P:aF) (bl:List VB) (t:aG) (x y:V):Option (Prop×List VB):=match x,y with
 |.pe i o j 1 0,.int Xf v=>(match bl[i]?with
  |some ⟨true,⟨ty,(0,0)⟩,c⟩=>(match vC c,qX P t,eu P t with
   |some (kd,n,f),some false,some 1=>(match decEq kd Xf with
    |isTrue _=>some (o+j<n,bl.set i ⟨true,⟨ty,(0,0)⟩,Js (o+j) v c⟩)
    |isFalse _=>none)
   |_,_,_=>none)
  |_=>none)
 |.pe i o j 1 0,.bool b=>(match Jo P bl t (.ptr i (o+j)) (.bool b)with|some bl'=>some (True,bl')|none=>none)
 |_,_=>none
section
variable{ids:List Nat} {P:aF} {w w0:ae} {ms:List Nat} {e:ba->V} {ρ:ba->ab} {bl:List VB} {R:List ai}
theorem ae8 {k:eS} {n q:Nat} {f:Nat->Int} {v:Int} {r:List ab} (h:q<n):((((bd n).map λj=>eg k (f j))++r).take q++[.int k v])++(((bd n).map λj=>eg k (f j))++r).drop (q+1)=((bd n).map λj=>eg k (Jr f q v j))++r:=by
 have e:=List.set_eq_take_append_cons_drop (l:=((bd n).map λj=>eg k (f j))++r) (i:=q) (a:=.int k v);rw[if_pos (by simp;omega)]at e;rw[bR,Ex,<-e,List.set_append_left _ _ (by simpa using h)];congr 1;apply u_;intro i;rw[List.getElem?_set];by_cases hi:q=i
 ·subst hi;simp[h,Jr]
 ·rw[if_neg hi];simp only[iZ];cases hr:(bd n)[i]?with
  |none=>rfl
  |some y=>
   obtain rfl:y=i:=by
    rcases cN i n with h1|h1
    ·rw[m9 h1]at hr;exact(cA hr).symm
    ·rw[iK (by simpa using h1)]at hr;cases hr
   have hb:aq y q=false:=by
    cases hb:aq y q with
    |false=>rfl
    |true=>exact absurd (ck hb).symm hi
   simp only[lO,Jr,hb,cond_false]
theorem Xg {l:List V} {k:eS} {n:Nat} {f:Nat->Int} (h:vC l=some (k,n,f)) (ids:List Nat):ah ids l=((bd n).map λj=>eg k (f j))++ah ids (l.drop 1):=by
 unfold vC at h;split at h
 ·simp only[aV,bw]at h;obtain⟨rfl,rfl,rfl⟩:=h;simp only[ah,cl,List.drop_succ_cons,List.drop_zero]
 ·cases h
theorem OQ:∀{l:List V} {r:List Bool},Fb l=some r->∀ids,ah ids l=r.map Ce
 |[],r,h,ids=>by simp only[Fb,aV]at h;subst h;rfl
 |v::l,r,h,ids=>by
  unfold Fb at h;split at h
  ·rename_i e;cases e
  ·rename_i b l' e;cases e;split at h
   ·rename_i r' hr;simp only[aV]at h;subst h;simp only[ah,cl,den,OQ hr ids,eH,ft,fl]
   ·cases h
  ·cases h
theorem ae9 {bl ex:List VB} {i:Nat} {b:VB} (h:bl[i]?=some b):(bl++ex)[i]?=some b:=by
 have hi:i<bl.length:=by rcases cN i bl.length with h'|h';exact h';simp[h']at h
 rw[gV hi,h]
theorem ae_ {t:aG} {x:V} {p:Prop} {v:V} {ex:List VB} (h:Au P bl t x=some (p,v)):Au P (bl++ex) t x=some (p,v):=by
 unfold Au at h⊢;split at h
 ·split at h
  ·rename_i hb;rw[ae9 hb];exact h
  ·cases h
 ·cases h
theorem afa {z:Nat} (g:Nat->List ab) (hz:∀j,(g j).length=z):∀(n j:Nat),j<n->(((bd n).flatMap g).drop (j*z)).take z=g j:=by
 intro n;induction n with
 |zero=>intro j h;omega
 |succ n ih=>
  intro j h;have hl:((bd n).flatMap g).length=n*z:=by
   clear ih h;induction n with
   |zero=>simp
   |succ n ih=>rw[Cf,Ey,fq,ih];simp[hz,mq]
  rw[Cf,Ey];rcases cN j n with h1|h1
  ·have h2:j*z+z<=n*z:=by rw[<-Nat.succ_mul];exact NC z h1
   rw[List.drop_append_of_le_length (by omega),List.take_append_of_le_length (by rw[List.length_drop];omega)];exact ih j h1
  ·obtain rfl:j=n:=by omega
   rw[List.drop_append,List.drop_eq_nil_of_le (by omega),hl,Nat.sub_self];simp only[fl,List.flatMap_cons,List.flatMap_nil,cQ,List.drop_zero];exact List.take_of_length_le (Nat.le_of_eq (hz j))
theorem Xh {z n j k m:Nat} {g:Nat->List ab} {r:List ab} (hz:∀j,(g j).length=z) (hj:j<n) (hk:k+m<=z):((((bd n).flatMap g)++r).drop (j*z+k)).take m=((g j).drop k).take m:=by
 have h1:=afa g hz n j hj;have hl:((bd n).flatMap g).length=n*z:=by
  clear h1 hj;induction n with
  |zero=>simp
  |succ n ih=>rw[Cf,Ey,fq,ih];simp[hz,mq]
 have h2:j*z+z<=n*z:=by rw[<-Nat.succ_mul];exact NC z hj
 rw[<-h1];apply u_;intro i;simp only[NH,Ez];split
 ·rename_i hi;rw[if_pos (by omega),gV (by omega),zP]
 ·rfl
theorem Xi {α:Type} (pre l:List α) (i:Nat):(pre++l).drop (pre.length+i)=l.drop i:=by
 rw[List.drop_append,List.drop_eq_nil_of_le (by omega)];simp
theorem Xj (hl:ids.length=bl.length) (S:St ms w0 (lits ids ids bl++R) w) {t:aG} {u:V} {i o j z k n:Nat} {g:Nat->List ab} {pre r:List ab} {b:VB} (hb:bl[i]?=some b) (hD:ah ids b.c=pre++(((bd n).flatMap g)++r)) (ho:o=pre.length) (hu:sD P t ((g j).map Ap) k=some u) (hj:j<n) (hz:∀j,(g j).length=z):
 (qu t (den ids (.pe i o j z k))).run P w=.ok (den ids u) w:=by
 subst ho;have aM:=(fE hl S hb).2;rw[hD]at aM;have hg:ah ids ((g j).map Ap)=g j:=Ji (g j);unfold sD at hu;simp only[qu,den,i_,bx,dg,cz];split at hu
 ·rename_i m ha hn;split at hu
  ·rename_i c qY;simp only[aV]at hu;subst hu;obtain⟨g1,g2,g3⟩:=xW (ids:=ids) qY;rw[hg]at g1 g3;rw[hz]at g3;refine EC (n:=m) aM ?_ ?_ ?_ ?_
   ·unfold qX at ha;split at ha
    ·rename_i d hd;rw[hd];simpa using ha
    ·cases ha
   ·unfold eu at hn;split at hn
    ·rename_i d hd;rw[hd];simpa using hn
    ·cases hn
   ·apply fe;have:=Xh (r:=r) (n:=n) hz hj g3;simp only[Array.toList_extract,List.extract];rw[show pre.length+(j*z+k)+m-(pre.length+(j*z+k))=m by omega,Xi,this,g1]
   ·simpa using g2
  ·cases hu
 ·rename_i ha;have h1:=Oq (ids:=ids) hu;rw[hg]at h1;have hkz:k<z:=by
   rcases cN k z with h|h
   ·exact h
   ·rw[iK (by rw[hz];exact h)]at h1;cases h1
  have h2:=Xh (r:=r) (n:=n) (j:=j) (k:=k) (m:=1) hz hj (by omega);have h3:(pre++((List.flatMap g (bd n))++r))[pre.length+(j*z+k)]?=(g j)[k]?:=by
   rw[<-Xi pre]at h2;have:=congrArg (λl=>l[0]?) h2;simp only[NH,Ez,oR]at this;simpa using this
  refine Cm aM ?_ (by rw[jt,h3,h1]);unfold qX at ha;split at ha
  ·rename_i d hd;rw[hd];simpa using ha
  ·cases ha
 ·cases hu
theorem Xk (hl:ids.length=bl.length) (S:St ms w0 (lits ids ids bl++R) w) {t:aG} {x v:V} {p:Prop} (h:Au P bl t x=some (p,v)) (hp:p):(qu t (den ids x)).run P w=.ok (den ids v) w:=by
 unfold Au at h;split at h
 ·rename_i i o j z k;split at h
  ·rename_i b hb;split at h
   ·rename_i z' n g r hc;split at h
    ·cases hq:aq z z' with
     |false=>rw[hq]at h;simp at h
     |true=>
      rw[hq]at h;simp only[cond_true]at h;split at h
      ·rename_i u hu;simp only[aV,bw]at h;obtain⟨rfl,rfl⟩:=h;exact Xj hl S (pre:=[]) hb (by rw[hc];simp only[ah,cl,fl];rfl) rfl hu hp.1 hp.2
      ·cases h
    ·cases h
   ·rename_i pre z' n g r hc;cases hq:aq z z' with
    |false=>rw[hq]at h;simp at h
    |true=>
     rw[hq]at h;simp only[cond_true]at h;split at h
     ·rename_i u hu;simp only[aV,bw]at h;obtain⟨rfl,rfl⟩:=h;exact Xj hl S (pre:=pre) hb (by rw[hc];simp only[ah,cl];rfl) hp.1 hu hp.2.1 hp.2.2
     ·cases h
   ·split at h
    ·rename_i kd n f hA qZ;simp only[aV,bw]at h;obtain⟨rfl,rfl⟩:=h;have aM:=(fE hl S hb).2;simp only[qu,den,i_,bx,dg,cz];refine Cm aM ?_ ?_
     ·unfold qX at qZ;split at qZ
      ·rename_i d hd;rw[hd];simpa using qZ
      ·cases qZ
     ·rw[jt,Xg hA ids,show o+(j*1+0)=o+j by omega,gV (by simpa using hp)];simp[m9 hp]
    ·rename_i hA qZ;split at h
     ·rename_i l hg;split at h
      ·rename_i r hr;simp only[aV,bw]at h;obtain⟨rfl,rfl⟩:=h;have aM:=(fE hl S hb).2;obtain⟨g1,g2,g3⟩:=xW (ids:=ids) hg;rw[OQ hr]at g1;have hr5:r.length=5:=by have:=g2;rw[OQ hr]at this;simpa using this
       simp only[qu,den,i_,bx,dg,cz];refine Cm aM ?_ ?_
       ·unfold qX at qZ;split at qZ
        ·rename_i d hd;rw[hd];simpa using qZ
        ·cases qZ
       ·have h1:=congrArg (λl=>l[j]?) g1;simp only[NH,Ez,if_pos hp,iZ]at h1;rw[jt,show o+(j*1+0)=o+j by omega,h1,jb (by omega)];simp[Xe,ij,jb (show j<r.length by omega)]
      ·cases h
     ·cases h
    ·cases h
  ·cases h
 ·cases h
theorem Av.run (hl:ids.length=bl.length) (S:St ms w0 (lits ids ids bl++R) w) {t:aG} {x v:V} (h:Av P bl t x v):(qu t (den ids x)).run P w=.ok (den ids v) w:=by
 rcases h with h|⟨p,h,hp⟩
 ·exact Jq (P:=P) hl S h
 ·exact Xk hl S h hp
theorem Xl (a9:∀x,ρ x=den ids (e x)) (o:ao) {p:Prop} {v:V} (h:Fc P e bl o.op=some (p,v)) (hp:p):(execOp ρ o).run P w=.ok (.value (den ids v)) w:=by
 generalize iH:o.op=op at h;unfold Fc at h;split at h
 ·rename_i t x ix;split at h
  ·rename_i i o n c hx;split at h
   ·rename_i b hb;split at h
    ·rename_i z' n' g r hc;split at h
     ·split at h
      ·rename_i el kk m hu iu;split at h
       ·rename_i z hz;cases hq:aq z z' with
        |false=>rw[hq]at h;simp at h
        |true=>
         rw[hq]at h;simp only[cond_true,aV,bw]at h;obtain⟨rfl,rfl⟩:=h;unfold execOp;simp only[iH,a9,hx,iu,den,tA,asIntOf,i_,bx,dg,cz,dt hu];rw[if_pos hp];simp[bx,gz hz,sE]
       ·cases h
      ·cases h
     ·cases h
    ·rename_i pre z' n' g r hc;split at h
     ·rename_i el kk m hu iu;split at h
      ·rename_i z hz;cases hq:aq z z' with
       |false=>rw[hq]at h;simp at h
       |true=>
        rw[hq]at h;simp only[cond_true,aV,bw]at h;obtain⟨rfl,rfl⟩:=h;unfold execOp;simp only[iH,a9,hx,iu,den,tA,asIntOf,i_,bx,dg,cz,dt hu];rw[if_pos hp];simp[bx,gz hz,sE]
      ·cases h
     ·cases h
    ·split at h
     ·rename_i el kk m hA hu iu;split at h
      ·rename_i hz;simp only[aV,bw]at h;obtain⟨rfl,rfl⟩:=h;unfold execOp;simp only[iH,a9,hx,iu,den,tA,asIntOf,i_,bx,dg,cz,dt hu];rw[if_pos hp];simp[bx,gz hz,sE]
      ·cases h
     ·cases h
   ·cases h
  ·rename_i i o hx;split at h
   ·rename_i b hb;split at h
    ·rename_i n el kk m hA hu iu;split at h
     ·rename_i hz;simp only[aV,bw]at h;obtain⟨rfl,rfl⟩:=h;unfold execOp;simp only[iH,a9,hx,iu,den,tA,asIntOf,i_,bx,dg,cz,dt hu];rw[if_pos hp];simp[bx,gz hz,sE]
     ·cases h
    ·rename_i n el kk m hA hu iu;cases hq:aq n 5&&Xd P el with
     |false=>rw[hq]at h;simp at h
     |true=>
      rw[hq]at h;simp only[cond_true]at h;split at h
      ·rename_i hz;simp only[aV,bw]at h;obtain⟨rfl,rfl⟩:=h;unfold execOp;simp only[iH,a9,hx,iu,den,tA,asIntOf,i_,bx,dg,cz,dt hu];rw[if_pos hp];simp[bx,gz hz,sE]
      ·cases h
    ·cases h
   ·cases h
  ·rename_i i o n c y hx;split at h
   ·rename_i b hb;split at h
    ·rename_i z' n' g r hc;split at h
     ·split at h
      ·rename_i el kk m hu iu;split at h
       ·rename_i z hz;cases hq:aq z z' with
        |false=>rw[hq]at h;simp at h
        |true=>
         rw[hq]at h;simp only[cond_true,aV,bw]at h;obtain⟨rfl,rfl⟩:=h;have OR:aq n 0=false:=by
          cases vD:aq n 0 with
          |false=>rfl
          |true=>exact absurd (ck vD) (by omega)
         unfold execOp;simp only[iH,a9,hx,iu,den,OR,cond_false,tA,asIntOf,i_,bx,dg,cz,dt hu];rw[if_pos hp];simp[bx,gz hz,sE]
       ·cases h
      ·cases h
     ·cases h
    ·rename_i pre z' n' g r hc;split at h
     ·rename_i el kk m hu iu;split at h
      ·rename_i z hz;cases hq:aq z z' with
       |false=>rw[hq]at h;simp at h
       |true=>
        rw[hq]at h;simp only[cond_true,aV,bw]at h;obtain⟨rfl,rfl⟩:=h;have OR:aq n 0=false:=by
         cases vD:aq n 0 with
         |false=>rfl
         |true=>exact absurd (ck vD) (by omega)
        unfold execOp;simp only[iH,a9,hx,iu,den,OR,cond_false,tA,asIntOf,i_,bx,dg,cz,dt hu];rw[if_pos hp];simp[bx,gz hz,sE]
      ·cases h
     ·cases h
    ·cases h
   ·cases h
  ·cases h
 ·rename_i t x hi;split at h
  ·rename_i i o n c hx;split at h
   ·rename_i b hb;split at h
    ·rename_i z' n' g r hc;split at h
     ·split at h
      ·rename_i el kk m hu iu;split at h
       ·rename_i z hz;simp only[aV,bw]at h;obtain⟨rfl,rfl⟩:=h;have ji:∀code,(zQ (.int kk m) c code).run P w=.ok m.toNat w:=by
         intro code;simp only[zQ,asIntOf,bx,dg,cz];rw[if_pos hp];rfl
        have hs:=gz (P:=P) (w:=w) hz;unfold execOp;simp[iH,a9,hx,iu,den,tD,Ev,tF,dt hu,ji,hs,jw,u5]
       ·cases h
      ·cases h
     ·cases h
    ·rename_i pre z' n' g r hc;split at h
     ·rename_i el kk m hu iu;split at h
      ·rename_i z hz;simp only[aV,bw]at h;obtain⟨rfl,rfl⟩:=h;have ji:∀code,(zQ (.int kk m) c code).run P w=.ok m.toNat w:=by
        intro code;simp only[zQ,asIntOf,bx,dg,cz];rw[if_pos hp];rfl
       have hs:=gz (P:=P) (w:=w) hz;unfold execOp;simp[iH,a9,hx,iu,den,tD,Ev,tF,dt hu,ji,hs,jw,u5]
      ·cases h
     ·cases h
    ·cases h
   ·cases h
  ·rename_i a n c hx;split at h
   ·rename_i el kk m hu iu;split at h
    ·rename_i z hz;simp only[aV,bw]at h;obtain⟨rfl,rfl⟩:=h;have ji:∀code,(zQ (.int kk m) c code).run P w=.ok m.toNat w:=by
      intro code;simp only[zQ,asIntOf,bx,dg,cz];rw[if_pos hp];rfl
     have hs:=gz (P:=P) (w:=w) hz;unfold execOp;cases a<;>simp[iH,a9,hx,iu,den,tD,Ev,tF,dt hu,ji,hs,jw,u5]
    ·cases h
   ·cases h
  ·cases h
 ·rename_i t x ix;split at h
  ·rename_i n el l kk m hu hx iu;split at h
   ·rename_i kd N f hA hz qZ;simp only[aV,bw]at h;obtain⟨rfl,rfl⟩:=h;unfold execOp;simp only[iH,a9,hx,iu,den,Instr.index,asIntOf,bx,dg,cz,dt hu];rw[if_pos hp.1];have hg:mA l m.toNat=some (.int kd (f m.toNat)):=by
     unfold vC at hA;split at hA
     ·rename_i k2 n2 f2 r;cases hA;have:bu N m.toNat=false:=by
       cases hb:bu N m.toNat with
       |false=>rfl
       |true=>exact absurd (du hb) (by have:=hp.2;omega)
      simp only[mA,this,cond_false]
     ·cases hA
    have:=OA (ids:=ids) (w:=w) (t:=el) (l:=l) (off:=m.toNat*1) (v:=.int kd (f m.toNat)) (by unfold sD;rw[qZ];simpa using hg);simp[bx,gz hz]at this⊢;rw[this];rfl
   ·cases h
  ·cases h
 ·rename_i t x lo;split at h
  ·rename_i b q n c el kd k hx hu OS;split at h
   ·rename_i hz;simp only[aV,bw]at h;obtain⟨rfl,rfl⟩:=h;have hs:(P.info? el).map (·.size)=some 1:=by
     unfold eu at hz;split at hz
     ·rename_i inf hi;rw[hi];exact hz
     ·cases hz
    exact aex (o:=o) (w:=w) (k:=k) (kd:=kd) (by omega) hp.2 (q+k) (by rw[if_neg (by omega)]) iH hu hs (by rw[a9,hx];rfl) (by rw[a9,OS];rfl)
   ·cases h
  ·cases h
 ·cases h
theorem afb (hl:ids.length=bl.length) (S:St ms w0 (lits ids ids bl++R) w) {t:aG} {x y:V} {p:Prop} {bl':List VB} (h:OP P bl t x y=some (p,bl')) (hp:p):
 ∃w',(IC t (den ids x) (den ids y)).run P w=.ok () w'/\St ms w0 (lits ids ids bl'++R) w'/\ids.length=bl'.length:=by
 unfold OP at h;split at h
 ·rename_i i o j Xf v;split at h
  ·rename_i ty c hb;split at h
   ·rename_i kd n f hA qZ hz;split at h
    ·rename_i hk _;subst hk;simp only[aV,bw]at h;obtain⟨rfl,rfl⟩:=h;obtain⟨hi,aM⟩:=fE hl S hb;have hc:=Xg hA ids;have bG:=IU (P:=P) (off:=o+(j*1+0)) (v:=.int kd v) (vs:=[.int kd v]) (ty:=t) aM rfl (by
      unfold eu at hz;split at hz
      ·rename_i d hd;rw[hd];simpa using hz
      ·cases hz) (by simp only[V4,List.size_toArray];rw[hc];simp;omega) (by rfl)
     have fG:=S.step hi rfl (Ch.setRow w (ids.getD i 0) _) (setRow_heap w (ids.getD i 0) _ (splice (ah ids c).toArray (o+(j*1+0)) [.int kd v]) ty (0,0) aM);have qO:splice (ah ids c).toArray (o+(j*1+0)) [.int kd v]=(ah ids (Js (o+j) v c)).toArray:=by
      unfold vC at hA;split at hA
      ·cases hA;apply fe;simp only[splice,Js,ah,cl,show o+(j*1+0)=o+j by omega,V4];exact ae8 hp
      ·cases hA
     have iM:i<(lits ids ids bl).length:=by rw[xZ ids bl hl];rcases cN i bl.length with h'|h';exact h';simp[h']at hb
     refine⟨w.setRow (ids.getD i 0) (splice (ah ids c).toArray (o+(j*1+0)) [.int kd v]),?_,?_,by simpa using hl⟩
     ·simp only[IC,den,i_,bx,dg,cz];exact bG
     ·have yc:=x_ (ids:=ids) ids bl i ⟨true,⟨ty,(0,0)⟩,Js (o+j) v c⟩ hl;rw[<-yc,<-List.set_append_left _ _ iM];rw[qO]at fG⊢;exact fG
    ·cases h
   ·cases h
  ·cases h
 ·rename_i i o j b;split at h
  ·rename_i bl2 hs;simp only[aV,bw]at h;obtain⟨-,rfl⟩:=h;have:=Xa (P:=P) hl S hs;simpa[den,show o+(j*1+0)=o+j by omega]using this
  ·cases h
 ·cases h
end
class Bl (G:Type) where
 B:G->List ai
abbrev VK (G:Type):=V->List VB->List G->Prop
abbrev c_ (G:Type):=List V->List VB->List G->VK G->Prop
variable{G:Type} [Bl G]
def ax:List G->List ai->List ai
 |[],R=>R
 |b::l,R=>Bl.B b++ax l R
def Gl (gl:Nat->Option Nat) (ids:List Nat):Prop:=∀g i,gl g=some i->i<ids.length/\ids.getD i 0=g
def Sound (P:aF) (gl:Nat->Option Nat) (f:fc) (c:c_ G):Prop:=∀(args:List V) (ids:List Nat) (bl:List VB) (ch:List G) (R:List ai) (ms:List Nat) (w0 w:ae) (K:VK G),
 Gl gl ids->ids.length=bl.length->St ms w0 (lits ids ids bl++ax ch R) w->c args bl ch K->aS P f (aD ids args).toArray w λv w'=>
  ∃x more bl' ch',v=den (ids++more) x/\(ids++more).length=bl'.length/\St ms w0 (lits (ids++more) (ids++more) bl'++ax ch' R) w'/\K x bl' ch'
def fP (P:aF) (gl:Nat->Option Nat) (h:(ba->V)->Op->List VB->List G->VK G->Prop):Prop:=∀(e:ba->V) (op:Op) (ids:List Nat) (bl:List VB) (ch:List G) (R:List ai) (ms:List Nat) (w0 w:ae) (K:VK G) (ρ:ba->ab) (o:ao),
 Gl gl ids->ids.length=bl.length->St ms w0 (lits ids ids bl++ax ch R) w->(∀x,ρ x=den ids (e x))->o.op=op->h e op bl ch K->
  ∃x more bl' ch' w',((execOp ρ o).run P w=.ok (.value (den (ids++more) x)) w'\/((execOp ρ o).run P w=.ok .skip w'/\x=fJ))/\(ids++more).length=bl'.length/\St ms w0 (lits (ids++more) (ids++more) bl'++ax ch' R) w'/\K x bl' ch'
def Jt:(ba->V)->Op->List VB->List G->VK G->Prop:=λ_ _ _ _ _=>False
theorem OT {P:aF} {gl:Nat->Option Nat}:fP (G:=G) P gl Jt:=λ_ _ _ _ _ _ _ _ _ _ _ _ _ _ _ _ _ h=>h.elim
def CJ:Op->Bool
 |.call ⟨.builtin .append,_,_⟩=>true
 |.call ⟨.builtin .copy,_,_⟩=>true
 |.buildSlice _ n _=>aq n 0
 |.makeMap .. =>true
 |.makeSlice .. =>true
 |.lookup .. =>true
 |.insert .. =>true
 |.mapUpdate .. =>true
 |.typeAssert .. =>true
 |.binOp op _ _ y _=>Jn op y
 |_=>false
def fill:List (Option V)->(Nat->ab)->Nat->List V
 |[],_,_=>[]
 |some v::l,g,i=>v::fill l g (i+1)
 |none::l,g,i=>.raw (g i)::fill l g (i+1)
def CK (n:Nat):List (Option V)->List V->Prop
 |[],[]=>True
 |some v::l,u::fr=>u=v/\cK n v=true/\CK n l fr
 |none::l,_::fr=>CK n l fr
 |_,_=>False
structure Lp (G:Type) where
 X:Type
 m:X->Nat
 fr:X->List (Option V)
 bl:X->List VB
 ch:X->List G
 OU:List V->List VB->List G->Prop
 en:X->List V->List VB->List G->Prop
 Xm:∀fr' bl' ch',OU fr' bl' ch'->∃x,CK bl'.length (fr x) fr'/\bl x=bl'/\ch x=ch'
 ok:∀x fr' bl' ch',en x fr' bl' ch'->∃y,m y<m x/\CK (bl x).length (fr y) fr'/\(bl y).length=(bl x).length/\bM (bl x).length (bl y)=true/\(∃j,bl'=bl y++j)/\ch y=ch'
structure Ctx (G:Type) [Bl G] where
 P:aF
 T:fc->Option (c_ G)
 gl:Nat->Option Nat
 q:Nat->Bool
 h:(ba->V)->Op->List VB->List G->VK G->Prop
 hok:fP P gl h
 lp:Nat->List V->Option (Lp G)
def ev (gl:Nat->Option Nat) (fr:List V):ba->V
 |.tmp t=>nth fr t
 |.const v=>CF v
 |.global g=>match gl g with|some i=>.ptr i 0|none=>.raw (.pointer (some ⟨g,0,none⟩))
 |.func f=>.fn f [] []
def okF (P:aF) (f:fc):Bool:=match P.funcs[f]?with
 |some fn=>!(fn.name== "runtime.NumGoroutine")&&!fn.body.isNone
 |none=>false
def OV (P:aF) (bl:List VB) (t:aG) (v:V) (name:String):Option (fc×V):=
 match P.info? t with
 |some i=>(match i.methods.find? (·.name==name)with
  |some m=>(match m.path.toList,m.func,P.underlying t with
   |[],some (f,true),some (.pointer _)=>some (f,v)
   |[],some (f,false),some (.pointer el)=>(match v with
    |.ptr j o=>(match tT P bl el (.ptr j o)with|some u=>some (f,u)|none=>none)
    |_=>none)
   |[],some (f,false),some (.slice _)=>some (f,v)
   |_,_,_=>none)
  |none=>none)
 |none=>none
def callee (P:aF) (e:ba->V) (bl:List VB):Op->Option (fc×List V)
 |.call c=>(match c.callee with
  |.value f=>(match e f with
   |.fn g a b=>bif okF P g then some (g,a++c.args.toList.map e++b)else none
   |_=>none)
  |.invoke r name=>(match e r with
   |.lV t v=>(match OV P bl t v name with
    |some (g,u)=>bif okF P g then some (g,u::c.args.toList.map e)else none
    |none=>none)
   |_=>none)
  |_=>none)
 |_=>none
abbrev ku (G:Type):=fc->List V->List VB->List G->VK G->Prop
abbrev j5 (G:Type):=List V->List VB->List G->Prop
def pz (C:Ctx G) (call:ku G) (o:ao) (fr:List V) (bl:List VB) (ch:List G) (k:j5 G):Prop:=
 match o.op with
 |.load t x=>(match tT C.P bl t (ev C.gl fr x)with|some v=>k (put fr o.dst v) bl ch|none=>(match Au C.P bl t (ev C.gl fr x)with|some (p,v)=>p/\k (put fr o.dst v) bl ch|none=>False))
 |.store t x y=>(match Jo C.P bl t (ev C.gl fr x) (ev C.gl fr y)with|some bl'=>k (put fr o.dst fJ) bl' ch|none=>(match OP C.P bl t (ev C.gl fr x) (ev C.gl fr y)with|some (p,bl')=>p/\k (put fr o.dst fJ) bl' ch|none=>False))
 |op=>match Fc C.P (ev C.gl fr) bl op with
  |some (p,v)=>p/\k (put fr o.dst v) bl ch
  |none=>match E7 C.P (ev C.gl fr) op with
  |some v=>k (put fr o.dst v) bl ch
  |none=>match E9 C.P (ev C.gl fr) bl.length op with
   |some (v,b)=>cond (bj bl.length fr&&(bM bl.length bl&&bj bl.length b.c)) (k (put fr o.dst v) (bl++[b]) ch) False
   |none=>match callee C.P (ev C.gl fr) bl op with
    |some (f,args)=>cond (bj bl.length fr) (call f args bl ch λv bl' ch'=>k (put fr o.dst v) bl' ch') False
    |none=>cond (CJ op&&bj bl.length fr) (C.h (ev C.gl fr) op bl ch λv bl' ch'=>k (put fr o.dst v) bl' ch') False
def yd (ops:Array ao) (j:Nat):Option Tmp:=match ops[j]?with|some o=>o.dst|none=>none
def iO (C:Ctx G) (call:ku G) (ops:Array ao):List ao->List V->List VB->List G->j5 G->Prop
 |[],fr,bl,ch,K=>K fr bl ch
 |o::l,fr,bl,ch,K=>match o.guard with
  |none=>pz C call o fr bl ch λfr bl ch=>iO C call ops l fr bl ch K
  |some (j,want)=>match yd ops j with
   |none=>False
   |some t=>match nth fr t with
    |.bool b=>cond b
     (cond want (pz C call o (lW fr t (.bool true)) bl ch λfr bl ch=>iO C call ops l fr bl ch K) (iO C call ops l (put (lW fr t (.bool true)) o.dst fJ) bl ch K))
     (cond want (iO C call ops l (put (lW fr t (.bool false)) o.dst fJ) bl ch K) (pz C call o (lW fr t (.bool false)) bl ch λfr bl ch=>iO C call ops l fr bl ch K))
    |.raw (.tuple _)=>iO C call ops l (put fr o.dst fJ) bl ch K
    |_=>False
def act (ids:List Nat) (fr:List V):Act:=⟨(aD ids fr).toArray,[]⟩
def CL (P:aF) (gl:Nat->Option Nat) (call:ku G):Prop:=∀f,okF P f=true->Sound P gl f (call f)
section
variable{ids:List Nat} {w w0:ae} {ms:List Nat} {bl:List VB} {ch:List G} {R:List ai} {fr:List V} {C:Ctx G} {call:ku G}
theorem Gl.app {gl:Nat->Option Nat} (h:Gl gl ids) (more:List Nat):Gl gl (ids++more):=λg i hg=>by
 obtain⟨h1,h2⟩:=h g i hg;refine⟨by simp;omega,?_⟩;rw[CE (by rw[ie];exact h1),h2]
theorem Xn {gl:Nat->Option Nat} (hg:Gl gl ids) (x:ba):(act ids fr).eval x=den ids (ev gl fr x):=by
 cases x with
 |tmp t=>simp only[Act.eval,act,ev,Aq]
 |const v=>simp only[Act.eval,ev,aeM]
 |global g=>
  simp only[Act.eval,ev];split
  ·rename_i i hi;simp only[den,(hg g i hi).2]
  ·simp[den]
 |func f=>simp[Act.eval,ev,den,aD]
theorem Xo (d:Option Tmp) (v:V):(act ids fr).put d (den ids v)=act ids (put fr d v):=by
 cases d with
 |none=>rfl
 |some t=>simp only[act,Act.put,put,aeN]
theorem afc {more:List Nat} (h:bj ids.length fr=true):act (ids++more) fr=act ids fr:=by simp only[act,nk fr h]
theorem OW {P:aF} {t:aG} {i:TypeInfo} (h:P.info? t=some i) (w:ae):(typeInfo t).run P w=.ok i w:=by simp[typeInfo,h]
theorem Xp {P:aF} {f:fc} (hk:okF P f=true) (args:Array ab) (w:ae):(callFunc f args).run P w=.ok (.enter f args) w:=by
 unfold okF at hk;split at hk
 ·rename_i fn Fe;simp only[bg,lN]at hk;simp only[callFunc,bx,run_program,cz,Fe];rw[if_neg (by simp[hk.1]),if_neg (by simp[hk.2])];simp only[dg]
 ·cases hk
theorem afd {P:aF} (hl:ids.length=bl.length) (S:St ms w0 (lits ids ids bl++R) w) {t:aG} {v u:V} {name:String} {f:fc} (h:OV P bl t v name=some (f,u)) (n:Nat):
 (method (n+1) t (den ids v) name).run P w=.ok (f,den ids u) w:=by
 unfold OV at h;split at h
 ·rename_i i hi;split at h
  ·rename_i m hm;split at h
   ·rename_i f' el hp hf hu;cases h;simp only[method,bx,OW hi,cz,hm,hp,hf,follow,dg,receiverAt,dt hu,ad1]
   ·rename_i f' el hp hf hu;split at h
    ·rename_i j o;split at h
     ·rename_i u' hv;cases h;have OX:=Jq (P:=P) hl S hv;have e1:m.path.isEmpty=true:=by simpa using hp
      have hw:∀(a:aO) (nm:String),Builtin.ssaWrapNilChk_ #[t] t #[.pointer (some a),strVal "",strVal nm]=pure (.pointer (some a)):=λ_ _=>rfl;have afe:(loadVar el ⟨ids.getD j 0,o,none⟩).run P w=.ok (den ids u) w:=OX;simp only[method,bx,OW hi,cz,hm,hp,hf,follow,dg,receiverAt,dt hu,ad1,e1,if_true,den,hw,asAddr];rw[afe];rfl
     ·cases h
    ·cases h
   ·rename_i f' el hp hf hu;cases h;simp only[method,bx,OW hi,cz,hm,hp,hf,follow,dg,receiverAt,dt hu,ad1]
   ·cases h
  ·cases h
 ·cases h
theorem aff {P:aF} {ρ:ba->ab} {e:ba->V} (a9:∀x,ρ x=den ids (e x)) (hl:ids.length=bl.length) (S:St ms w0 (lits ids ids bl++R) w) (o:ao) {f:fc} {args:List V} (h:callee P e bl o.op=some (f,args)):
 (execOp ρ o).run P w=.ok (.enter f (aD ids args).toArray) w/\okF P f=true:=by
 have CM:∀l:List ba,l.map ρ=aD ids (l.map e):=λl=>by
  rw[xR,mr];exact qD λx _=>a9 x
 unfold callee at h;split at h
 ·rename_i c ho;split at h
  ·rename_i fo hc;split at h
   ·rename_i g a b hf;cases hk:okF P g with
    |false=>rw[hk]at h;simp at h
    |true=>
     rw[hk]at h;simp only[cond_true,aV,bw]at h;obtain⟨rfl,rfl⟩:=h;refine⟨?_,hk⟩;have cR:(aD ids a).toArray++c.args.map ρ++(aD ids b).toArray=(aD ids (a++c.args.toList.map e++b)).toArray:=by
      apply fe;simp only[Array.toList_append,Array.toList_map,CM];simp only[xR,qB]
     simp only[execOp,ho,resolve,hc,a9,hf,den,Deferred.ofValue,bx,dg,cz,invoke,Xp hk];rw[<-cR]
   ·cases h
  ·rename_i r name hc;split at h
   ·rename_i t v hr;split at h
    ·rename_i g u hm;cases hk:okF P g with
     |false=>rw[hk]at h;simp at h
     |true=>
      rw[hk]at h;simp only[cond_true,aV,bw]at h;obtain⟨rfl,rfl⟩:=h;refine⟨?_,hk⟩;have hmt:=λn=>afd (P:=P) hl S hm n;have hfu:∀n:Nat,n+Made.depth=(n+99)+1:=λn=>rfl;have cR:#[den ids u]++c.args.map ρ=(aD ids (u::c.args.toList.map e)).toArray:=by
       apply fe;simp only[Array.toList_append,Array.toList_map,CM,aD];rfl
      have hex:(#[den ids (.lV t v)]++c.args.map ρ).extract 1 (#[den ids (.lV t v)]++c.args.map ρ).size=c.args.map ρ:=by
       apply fe;simp;exact List.take_of_length_le (by simp)
      have h0:(#[den ids (.lV t v)]++c.args.map ρ)[0]?=some (.iface t (den ids v)):=by
       simp[Array.getElem?_append,den]
      simp only[execOp,ho,resolve,hc,a9,hr,bx,dg,cz,invoke,h0,hex,callMethod,run_program,hfu,hmt,Xp hk];rw[<-cR]
    ·cases h
   ·cases h
  ·cases h
 ·cases h
theorem OY (hc:CL C.P C.gl call) (hg:Gl C.gl ids) (hl:ids.length=bl.length) (S:St ms w0 (lits ids ids bl++ax ch R) w) {o:ao} {k:j5 G} (h:pz C call o fr bl ch k) {a:Act}
 (ha:execOp a.eval o=execOp (act ids fr).eval o) {next:Act->ae->Prop} {Q:dR->Act->ae->Prop}
 (hk:∀x more bl' ch' w',(ids++more).length=bl'.length->St ms w0 (lits (ids++more) (ids++more) bl'++ax ch' R) w'->k (put fr o.dst x) bl' ch'->more=[]\/bj ids.length fr=true->next (a.put o.dst (den (ids++more) x)) w'):
 o.wp C.P a w next Q:=by
 have a9:=λx=>Xn (fr:=fr) hg x;have qS:∀x bl' w',ids.length=bl'.length->St ms w0 (lits ids ids bl'++ax ch R) w'->k (put fr o.dst x) bl' ch->next (a.put o.dst (den ids x)) w':=λx bl' w' h1 h2 h3=>by
  have:=hk x [] bl' ch w' (by simpa using h1) (by simpa using h2) h3 (.inl rfl);simpa using this
 unfold n7;rw[ha];unfold pz at h;split at h
 ·rename_i t x ho;split at h
  ·rename_i v hv;have:=Jq (P:=C.P) hl S hv;have e:(execOp (act ids fr).eval o).run C.P w=.ok (.value (den ids v)) w:=by
    unfold execOp;simp only[ho,a9,bx,this];rfl
   rw[e];simp only[zU];exact qS _ _ _ hl S h
  ·split at h
   ·rename_i p v hv;have:=Xk (P:=C.P) hl S hv h.1;have e:(execOp (act ids fr).eval o).run C.P w=.ok (.value (den ids v)) w:=by
     unfold execOp;simp only[ho,a9,bx,this];rfl
    rw[e];simp only[zU];exact qS _ _ _ hl S h.2
   ·exact h.elim
 ·rename_i t x y ho;split at h
  ·rename_i bl' hv;obtain⟨w',h1,h2,h3⟩:=Xa (P:=C.P) hl S hv;have e:(execOp (act ids fr).eval o).run C.P w=.ok .skip w':=by
    unfold execOp;simp only[ho,a9,bx,h1];rfl
   rw[e];simp only[ad2];rw[show(undef:ab)=den ids fJ by simp[fJ,den]];exact qS _ _ _ h3 h2 h
  ·split at h
   ·rename_i p bl' hv;obtain⟨w',h1,h2,h3⟩:=afb (P:=C.P) hl S hv h.1;have e:(execOp (act ids fr).eval o).run C.P w=.ok .skip w':=by
     unfold execOp;simp only[ho,a9,bx,h1];rfl
    rw[e];simp only[ad2];rw[show(undef:ab)=den ids fJ by simp[fJ,den]];exact qS _ _ _ h3 h2 h.2
   ·exact h.elim
 ·split at h
  ·rename_i p v hv;rw[Xl a9 o hv h.1];simp only[zU];exact qS _ _ _ hl S h.2
  ·split at h
   ·rename_i v hv;rw[W_ a9 o v hv];simp only[zU];exact qS _ _ _ hl S h
   ·split at h
    ·rename_i v b hv;cases hq:bj bl.length fr&&(bM bl.length bl&&bj bl.length b.c)with
     |false=>rw[hq]at h;exact h.elim
     |true=>
      rw[hq]at h;simp only[bg]at hq;rw[<-hl]at hv hq;obtain⟨h1,h2,h2f⟩:=ae7 (w:=w) a9 o hv;obtain⟨h3,h4⟩:=grow hl S b h2 h2f hq.2.1 hq.2.2;rw[h1];simp only[zU];exact hk _ _ _ _ _ h4 h3 h (.inr hq.1)
    ·split at h
     ·rename_i f args hv;cases hq:bj bl.length fr with
      |false=>rw[hq]at h;exact h.elim
      |true=>
       rw[hq]at h;rw[<-hl]at hq;obtain⟨h1,h2⟩:=aff a9 hl S o hv;rw[h1,Oper.upon_enter];refine Calls.mono (hc f h2 args ids bl ch R ms w0 w _ hg hl S h) ?_;rintro e w' ⟨v,rfl,x,more,bl',ch',rfl,g1,g2,g3⟩;exact hk _ _ _ _ _ g1 g2 g3 (.inr hq)
     ·cases hq:CJ o.op&&bj bl.length fr with
      |false=>rw[hq]at h;exact h.elim
      |true=>
       rw[hq]at h;rw[<-hl]at hq;simp only[bg]at hq;obtain⟨x,more,bl',ch',w',h1,g1,g2,g3⟩:=C.hok _ _ ids bl ch R ms w0 w _ _ o hg hl S a9 rfl h;rcases h1 with h1|⟨h1,rfl⟩
       ·rw[h1];simp only[zU];exact hk _ _ _ _ _ g1 g2 g3 (.inr hq.2)
       ·rw[h1];simp only[ad2];have:=hk _ _ _ _ _ g1 g2 g3 (.inr hq.2);simpa[fJ,den]using this
theorem afg {more:List Nat} (h:more=[]\/bj ids.length fr=true):act (ids++more) fr=act ids fr:=by
 rcases h with rfl|h
 ·simp
 ·exact afc h
end
end Vx
namespace Vx
open Go Go.RowKit Go.BigFrame Sx
variable{G:Type} [Bl G]
section
variable{C:Ctx G} {call:ku G}
theorem Ju:∀(fr:List V) (t:Nat),lW fr t (nth fr t)=fr
 |[],_=>rfl
 |_::_,0=>rfl
 |v::l,t+1=>by simp[xS,xT,xU,jM,jN,jy,Ju l t]
theorem afh {ids:List Nat} {fr:List V} {ops:Array ao} {j t:Nat} {b:Bool} (hd:yd ops j=some t) (h:nth fr t=.bool b):yielded ops (act ids fr).tmps j=some b:=by
 have h1:(ops[j]?).bind (·.dst)=some t:=by
  unfold yd at hd;split at hd
  ·rename_i o ho;rw[ho];simpa using hd
  ·cases hd
 have h2:(act ids fr).tmps[t]?=some (.bool b):=by
  have h3:=Aq (ids:=ids) fr t;rw[h]at h3;have h4:t<(aD ids fr).toArray.size:=by
   rcases cN t (aD ids fr).toArray.size with h5|h5
   ·exact h5
   ·exfalso;rw[Ew,dif_neg (by omega)]at h3;simp[den,undef]at h3
  rw[Ew,dif_pos h4]at h3;simp only[act];rw[II h4];simp only[den]at h3;exact congrArg some h3.symm
 simp[yielded,h1,h2]
theorem afi {ids:List Nat} {fr:List V} {ops:Array ao} {j t:Nat} {vs:Array ab} (hd:yd ops j=some t) (h:nth fr t=.raw (.tuple vs)):yielded ops (act ids fr).tmps j=none:=by
 have h1:(ops[j]?).bind (·.dst)=some t:=by
  unfold yd at hd;split at hd
  ·rename_i o ho;rw[ho];simpa using hd
  ·cases hd
 unfold yielded;rw[h1];simp only[Option.bind_some];by_cases h4:t<(aD ids fr).toArray.size
 ·have h3:=Aq (ids:=ids) fr t;rw[h,Ew,dif_pos h4]at h3;simp only[act];rw[II h4];simp only[den]at h3;rw[Array.getInternal_eq_getElem]at h3;rw[<-h3]
 ·simp only[act];rw[Es (by omega)]
theorem OZ (hc:CL C.P C.gl call) {ops:Array ao} {R:List ai} {ms:List Nat} {w0:ae} {Q:dR->Act->ae->Prop} {k:j5 G}:∀(l:List ao) {ids:List Nat} {bl:List VB} {ch:List G} {fr:List V} {w:ae},
 Gl C.gl ids->ids.length=bl.length->St ms w0 (lits ids ids bl++ax ch R) w->iO C call ops l fr bl ch k->
 (∀fr' more bl' ch' w',(ids++more).length=bl'.length->St ms w0 (lits (ids++more) (ids++more) bl'++ax ch' R) w'->k fr' bl' ch'->Q .normal (act (ids++more) fr') w')->
 WL C.P ops Q l (act ids fr) w
 |[],ids,bl,ch,fr,w,hg,hl,S,h,hk=>by
  refine aT ?_;have:=hk fr [] bl ch w (by simpa using hl) (by simpa using S) h;simpa using this
 |o::l,ids,bl,ch,fr,w,hg,hl,S,h,hk=>by
  have go:∀fr,gu o (yielded ops (act ids fr).tmps)=true->pz C call o fr bl ch (λfr bl ch=>iO C call ops l fr bl ch k)->WL C.P ops Q (o::l) (act ids fr) w:=by
   intro fr hw h;refine WL.want hw λK hK=>OY hc hg hl S h rfl ?_;intro x more bl' ch' w' g1 g2 g3 g4;rw[<-afg g4,Xo];refine hK _ _ (OZ hc l (hg.app more) g1 g2 g3 ?_);intro tV cB bl2 ch2 w2 e1 e2 e3;have:=hk tV (more++cB) bl2 ch2 w2 (by rw[<-bR];exact e1) (by rw[<-bR];exact e2) e3;rw[<-bR]at this;exact this
  have sk:∀fr,gu o (yielded ops (act ids fr).tmps)=false->iO C call ops l (put fr o.dst fJ) bl ch k->WL C.P ops Q (o::l) (act ids fr) w:=by
   intro fr hw h;refine vi ?_ hw;rw[show(undef:ab)=den ids fJ by simp[fJ,den],Xo];exact OZ hc l hg hl S h hk
  simp only[iO]at h;split at h
  ·rename_i yf;exact go fr (by simp[gu,yf]) h
  ·rename_i j want yf;split at h
   ·exact h.elim
   ·rename_i t hd;split at h
    ·rename_i b hb;have hy:=afh (ids:=ids) hd hb;have Jv:gu o (yielded ops (act ids fr).tmps)=(b==want):=by
      simp only[gu,yf,hy];cases b<;>cases want<;>rfl
     have hs:=Ju fr t;rw[hb]at hs;cases b with
     |true=>
      rw[hs]at h;cases want with
      |true=>exact go fr (by rw[Jv];rfl) h
      |false=>exact sk fr (by rw[Jv];rfl) h
     |false=>
      rw[hs]at h;cases want with
      |true=>exact sk fr (by rw[Jv];rfl) h
      |false=>exact go fr (by rw[Jv];rfl) h
    ·rename_i vs hb;exact sk fr (by simp only[gu,yf,afi (ids:=ids) hd hb];rfl) h
    ·exact h.elim
end
inductive Cl where|f|a|x
 deriving DecidableEq
def yg (o:ao):Cl:=match o.op with
 |.alloc _=>.a
 |.move _=>.f
 |.assign _=>.f
 |.pick .. =>.f
 |.load t _=>bif aq t 40 then .x else .f
 |.nilCheck _=>.f
 |.binOp op _ _ y _=>bif Jn op y then .x else .f
 |.unOp .. =>.f
 |.convert .. =>.f
 |.makeFunc .. =>.f
 |.makeInterface .. =>.f
 |.build .. =>.f
 |.fieldAddr .. =>.f
 |.field .. =>.f
 |.indexAddr .. =>.f
 |.index .. =>.f
 |.extract .. =>.f
 |.call ⟨.builtin .len,_,_⟩=>.f
 |.call ⟨.builtin .min,_,_⟩=>.f
 |.call ⟨.builtin .max,_,_⟩=>.f
 |.slice .. =>.f
 |.sliceToArrayPointer .. =>.f
 |_=>.x
def jO (o:ao):Bool:=match yg o with|.f=>true|_=>false
def gb (o:ao):Bool:=match yg o with|.a=>true|_=>false
def kx (o:ao):Bool:=match yg o with|.x=>true|_=>false
def O0 (o:ao):Bool:=match o.op with|.load .. =>true|_=>false
def vE (q:Nat->Bool) (o:ao):Bool:=match o.op with
 |.load .. =>true
 |.box .. =>true
 |.buildSlice _ n _=>!(aq n 0)
 |.call ⟨.value (.func f),_,_⟩=>q f
 |_=>false
def vF (pm:List Nat):List Edge->Nat
 |[]=>0
 |e::l=>bif qy .any e then vF pm l|||(2^e.on|||pm.getD e.on 0)else vF pm l
def Jw:List ao->List Nat->List Nat
 |[],pm=>pm
 |o::l,pm=>Jw l (pm++[vF pm o.after.toList])
def fK (pm:List Nat) (i j:Nat):Bool:=(pm.getD j 0).testBit i
def tW (l:List ao) (pm:List Nat):Bool:=aq pm.length l.length&&(l.zip pm).all λp=>aq p.2 (vF pm p.1.after.toList)
def bm (l:List ao) (i:Nat):ao:=match l[i]?with|some o=>o|none=>default
def kz (p:Nat->Nat->Bool):List Nat->Bool
 |[]=>true
 |i::l=>l.all (p i)&&kz p l
def nn (l:List ao):List Nat->Option Nat
 |[]=>none
 |i::r=>bif gb (bm l i)then nn l r else some i
def yi (l:List ao) (pm:List Nat):List Nat->Bool
 |[]=>true
 |i::r=>(bif gb (bm l i)then(match nn l r with|some x=>kx (bm l x)&&fK pm i x|none=>false)else true)&&yi l pm r
def looks (l:List ao) (i:Nat):List Tmp:=IN l.toArray (bm l i)
def Jx (t:Tmp) (l:List Tmp):Bool:=l.any λu=>aq u t
def vG (q:Nat->Bool) (l:List ao) (pm:List Nat) (i j:Nat):Bool:=
 !(fK pm j i)&&(fK pm i j||
   (bif kx (bm l i)then gb (bm l j)else true)&&
   (bif kx (bm l j)&&O0 (bm l i)then vE q (bm l j)else true))&&
 (match(bm l i).dst with|some t=>(bif Jx t (looks l j)then fK pm i j else true)&&(match(bm l j).dst with|some u=>!(aq t u)|none=>true)|none=>true)&&
 (match(bm l j).dst with|some t=>(bif Jx t (looks l i)then fK pm i j else true)|none=>true)
def Jy (C:Ctx G) (n:Nat) (o:ao):Bool:=
 (match o.dst with|some t=>cu t n|none=>true)&&(match o.op with|.select .. =>false|_=>true)&&
 (bif gb o then(match o.guard,o.dst,o.op with|none,some _,.alloc t=>(match mB C.P t with|some _=>true|none=>false)|_,_,_=>false)else true)
def tX (l:List ao) (ts:List Nat):List ao:=ts.map (bm l)
def CN:List Nat->Bool
 |[]=>true
 |i::l=>!(l.any λj=>aq j i)&&CN l
def yj (l:List ao) (n:Nat):Bool:=l.all λo=>o.after.all λe=>!qy .any e||cu e.on n
def Xq (C:Ctx G) (q:Nat->Bool) (l:List ao) (pm ts:List Nat):Bool:=
 tW l pm&&yj l l.length&&C.P.follows .mixedOrders&&aq ts.length l.length&&ts.all (λi=>cu i l.length)&&CN ts&&
 kz (vG q l pm) ts&&yi l pm ts&&ts.all (λi=>!(fK pm i i))
def Ff (C:Ctx G) (q:Nat->Bool) (l:List ao) (pm ts:List Nat) (n:Nat):Bool:=Xq C q l pm ts&&l.all (Jy C n)
def O1 (pm:List Nat) (done m:Nat) (l:List ao) (c:ao->Bool) (am:Nat):Nat->Option Nat
 |0=>none
 |k+1=>match O1 pm done m l c am k with
  |some i=>some i
  |none=>bif Nat.testBit done k then none else bif c (bm l k)&&aq ((pm.getD k 0)|||(done|||am)) (done|||am)then some k else none
def O2 (l:List ao):Nat->Nat
 |0=>0
 |k+1=>bif gb (bm l k)then O2 l k|||2^k else O2 l k
def O3 (pm:List Nat) (l:List ao) (done j:Nat):Nat->List Nat
 |0=>[]
 |k+1=>O3 pm l done j k++(bif gb (bm l k)&&(fK pm k j&&!(Nat.testBit done k))then[k]else[])
def sched (pm:List Nat) (l:List ao) (am:Nat):Nat->Nat->List Nat
 |0,_=>[]
 |n+1,done=>match O1 pm done l.length l jO 0 l.length with
  |some i=>i::sched pm l am n (done|||2^i)
  |none=>match O1 pm done l.length l kx am l.length with
   |some j=>O3 pm l done j l.length++(j::sched pm l am n ((O3 pm l done j l.length).foldl (λs i=>s|||2^i) (done|||2^j)))
   |none=>[]
def CO (l:List ao) (pm:List Nat):List Nat:=sched pm l (O2 l l.length) l.length 0
def Jz (i:Nat) (o:ao):ao:={o with after:=o.after.push ⟨i,.data⟩}
def eU (l:List ao) (i j:Nat):List ao:=match l[j]?with|some o=>l.set j (Jz i o)|none=>l
def Fg:List ao->List Nat->List Nat->List Nat
 |[],pm,_=>pm
 |o::l,pm,old=>Fg l (pm++[vF (pm++old) o.after.toList]) old.tail
def Aw (l:List ao):List Nat->Option (Nat×List Nat)
 |[]=>none
 |i::r=>bif kx (bm l i)then some (i,r)else Aw l r
def Fh (C:Ctx G) (l:List ao) (pm ts:List Nat) (i n:Nat):Bool:=Ff C C.q l pm ts n&&(l.all λo=>!(gb o))&&(match Aw l ts with|some (x,_)=>aq x i|none=>false)
section
variable{l:List ao} {pm:List Nat}
theorem JA (pm:List Nat) (i:Nat):∀es:List Edge,(vF pm es).testBit i=true↔∃e∈es,qy .any e=true/\(e.on=i\/(pm.getD e.on 0).testBit i=true)
 |[]=>by simp[vF]
 |e::l=>by
  unfold vF;cases hb:qy .any e with
  |false=>simp[hb,JA pm i l]
  |true=>
   simp only[cond_true,Nat.testBit_or,Cc,JA pm i l,Nat.testBit_two_pow,decide_eq_true_eq];constructor
   ·rintro(⟨x,hx,h1,h2⟩|h2)
    ·exact⟨x,by simp[hx],h1,h2⟩
    ·exact⟨e,by simp,hb,h2⟩
   ·rintro⟨x,hx,h1,h2⟩;rcases ca.1 hx with rfl|hx
    ·exact .inr h2
    ·exact .inl ⟨x,hx,h1,h2⟩
theorem Xr (h:tW l pm=true) {j:Nat} {o:ao} (ho:l[j]?=some o):pm.getD j 0=vF pm o.after.toList:=by
 unfold tW at h;simp only[bg]at h;have hlen:=ck h.1;have hj:j<l.length:=by rcases cN j l.length with h'|h';exact h';simp[h']at ho
 have hm:(l.zip pm)[j]?=some (o,pm[j]):=by
  rw[List.getElem?_zip_eq_some];exact⟨ho,by simp⟩
 have:=fR.1 h.2 _ (oQ hm);have:=ck this;simp only[ij,jb (show j<pm.length by omega),VV];exact this
theorem JB {i:Nat} {o:ao} (h:l[i]?=some o):bm l i=o:=by unfold bm;rw[h]
theorem afj {i t:Nat} (h:(bm l i).dst=some t):l[i]?=some (bm l i):=by
 unfold bm at h⊢;cases hi:l[i]?with
 |some o=>rfl
 |none=>rw[hi]at h;cases h
theorem Xs (h:tW l pm=true) {i j:Nat} {o:ao} (ho:l[j]?=some o) (hb:fK pm i j=true):∃e∈o.after,qy .any e=true/\(e.on=i\/fK pm i e.on=true):=by
 unfold fK at hb;rw[Xr h ho]at hb;obtain⟨e,he,h1,h2⟩:=(JA pm _ _).1 hb;exact⟨e,by simpa using he,h1,h2⟩
theorem Ax {p:Nat->Nat->Bool}:∀{a b:List Nat},kz p (a++b)=true->(∀i∈a,∀j∈b,p i j=true)/\kz p a=true/\kz p b=true
 |[],b,h=>⟨by simp,rfl,h⟩
 |x::a,b,h=>by
  simp only[ft,kz,bg,fR]at h;obtain⟨i1,i2,i3⟩:=Ax h.2;refine⟨?_,?_,i3⟩
  ·intro i hi j hj;rcases ca.1 hi with rfl|hi
   ·exact h.1 j (by simp[hj])
   ·exact i1 i hi j hj
  ·simp only[kz,bg,fR];exact⟨λj hj=>h.1 j (by simp[hj]),i2⟩
theorem O4 {p:Nat->Nat->Bool}:∀{a:List Nat},kz p a=true->∀i∈a,∀j∈a,i≠j->p i j=true\/p j i=true
 |[],_,_,hi,_,_,_=>by cases hi
 |x::a,h,i,hi,j,hj,cw=>by
  simp only[kz,bg,fR]at h;rcases ca.1 hi with e1|iM
  ·rcases ca.1 hj with e2|j3
   ·exact absurd (e1.trans e2.symm) cw
   ·rw[e1];exact .inl (h.1 j j3)
  ·rcases ca.1 hj with e2|j3
   ·rw[e2];exact .inr (h.1 i iM)
   ·exact O4 h.2 i iM j j3 cw
theorem O5:∀{a:List Nat},CN a=true->a.Nodup
 |[],_=>List.nodup_nil
 |i::a,h=>by
  simp only[CN,bg,lN]at h;refine qz.2 ⟨?_,O5 h.2⟩;intro hm;have:=List.any_eq_false.1 h.1 i hm;simp[rV]at this
theorem Xt {t:Tmp} {ts:List Tmp}:Jx t ts=true↔t∈ts:=by
 unfold Jx;rw[zK];constructor
 ·rintro⟨u,hu,h⟩;obtain rfl:=ck h;exact hu
 ·intro h;exact⟨t,h,rV t⟩
theorem vH (o:ao):(jO o=true/\gb o=false/\kx o=false)\/(jO o=false/\gb o=true/\kx o=false)\/(jO o=false/\gb o=false/\kx o=true):=by
 unfold jO gb kx;cases yg o<;>simp
structure O6 (q:Nat->Bool) (l:List ao) (pm:List Nat) (i j:Nat):Prop where
 nb:fK pm j i=false
 xj:kx (bm l i)=true->gb (bm l j)=false->fK pm i j=true
 ld:kx (bm l j)=true->O0 (bm l i)=true->fK pm i j=true\/vE q (bm l j)=true
 wi:∀t,(bm l i).dst=some t->t∈looks l j->fK pm i j=true
 wj:∀t,(bm l j).dst=some t->t∈looks l i->fK pm i j=true
 ww:∀t,(bm l i).dst=some t->(bm l j).dst≠some t
theorem sG {q:Nat->Bool} {i j:Nat} (h:vG q l pm i j=true):O6 q l pm i j:=by
 unfold vG at h;simp only[bg,lN]at h;obtain⟨⟨⟨h1,h2⟩,h3⟩,h4⟩:=h;refine⟨h1,?_,?_,?_,?_,?_⟩
 ·intro hx ha;rcases Cc _ _▸h2 with h2|h2
  ·exact h2
  ·rw[hx,ha]at h2;simp at h2
 ·intro hx hl;rcases Cc _ _▸h2 with h2|h2
  ·exact .inl h2
  ·rw[hx,hl]at h2;simp only[bg,Bool.and_self,cond_true]at h2;exact .inr h2.2
 ·intro t ht hm;rw[ht]at h3;simp only[bg,Xt.2 hm,cond_true]at h3;exact h3.1
 ·intro t ht hm;rw[ht]at h4;simpa only[Xt.2 hm,cond_true]using h4
 ·intro t ht e;rw[ht,e]at h3;simp[rV]at h3
end
def Fi (l:List ao) (fr:List V) (o:ao) (b:Bool):Prop:=match o.guard with
 |none=>b=true
 |some (g,want)=>∃t,yd l.toArray g=some t/\((∃c,nth fr t=.bool c/\b=(c==want))\/(∃vs,nth fr t=.raw (.tuple vs)/\b=false))
def JC (C:Ctx G) (bl:List VB) (fr:List V) (o:ao) (v:V):Prop:=(E7 C.P (ev C.gl fr) o.op=some v\/∃b0 p,Fc C.P (ev C.gl fr) b0 o.op=some (p,v)/\p)\/(∃t x,o.op=.load t x/\Av C.P bl t (ev C.gl fr x) v)
structure Rec (C:Ctx G) (l:List ao) (pm:List Nat) (dP fr:List V) (bl:List VB) (i:Nat) (jA:List V) (v:V) (b:Bool):Prop where
 w1:∀t∈looks l i,∀h,(bm l h).dst=some t->fK pm h i=true->nth jA t=nth fr t
 w0:∀t∈looks l i,(∀h,(bm l h).dst=some t->fK pm h i=false)->nth jA t=nth dP t
 val:∀d,(bm l i).dst=some d->nth fr d=v
 g:Fi l jA (bm l i) b
 e:if b then JC C bl jA (bm l i) v else v=fJ
section
variable{C:Ctx G} {l:List ao} {pm:List Nat} {ids:List Nat} {w:ae}
theorem O7 (a:Act) (t:Tmp):a.eval (.tmp t)=cG a t:=rfl
theorem O8 {fr:List V} (t:Nat):cG (act ids fr) t=den ids (nth fr t):=by rw[<-O7];simp only[Act.eval,act,Aq]
theorem afk {a:Act} {t:Tmp} {b:Bool} (h:cG a t=.bool b):a.tmps[t]?=some (.bool b):=by
 have h':a.tmps.getD t undef=.bool b:=h;by_cases h1:t<a.tmps.size
 ·rw[Ew,dif_pos h1]at h';rw[II h1];exact congrArg some h'
 ·rw[Ew,dif_neg h1]at h';cases h'
theorem afl {a:Act} {t:Tmp} {vs:Array ab} (h:cG a t=.tuple vs):a.tmps[t]?=none\/a.tmps[t]?=some (.tuple vs):=by
 have h':a.tmps.getD t undef=.tuple vs:=h;by_cases h1:t<a.tmps.size
 ·rw[Ew,dif_pos h1]at h';rw[II h1];exact .inr (congrArg some h')
 ·exact .inl (Es (V5 h1))
theorem afm {ops:Array ao} {g t:Nat} (h:yd ops g=some t):(ops[g]?).bind (·.dst)=some t:=by
 unfold yd at h;split at h
 ·rename_i o ho;rw[ho];simpa using h
 ·cases h
theorem JD {a:Act} {fr:List V} {o:ao} {b:Bool} (hy:∀t∈IN l.toArray o,cG a t=den ids (nth fr t)) (hg:Fi l fr o b):gu o (yielded l.toArray a.tmps)=b:=by
 unfold Fi at hg;unfold gu;split at hg
 ·rename_i h;rw[h];exact hg.symm
 ·rename_i g want h;rw[h];obtain⟨t,ht,hc⟩:=hg;have hb:=afm ht;have hm:t∈IN l.toArray o:=by
   unfold IN;rw[h];refine tH _ ?_;simp only[hb];simp
  have JE:=hy t hm;simp only[yielded,hb,Option.bind_some];rcases hc with⟨c,h1,h2⟩|⟨vs,h1,h2⟩
  ·rw[h1]at JE;rw[afk (b:=c) (by rw[JE];simp only[den])];simp only;rw[h2];cases c<;>cases want<;>rfl
  ·rw[h1]at JE;rcases afl (a:=a) (t:=t) (vs:=vs) (by rw[JE];simp only[den])with h3|h3
   ·rw[h3,h2];rfl
   ·rw[h3,h2];rfl
theorem Fj {a:Act} {fr:List V} {o:ao} (hs:∀cs b,o.op≠.select cs b) (hy:∀t∈IN l.toArray o,cG a t=den ids (nth fr t)):execOp a.eval o=execOp (act ids fr).eval o:=by
 refine execOp_congr o hs ?_;intro x hx;cases x with
 |tmp t=>
  rw[O7,O7,O8];refine hy t ?_;unfold IN;exact oU _ (List.mem_filterMap.2 ⟨.tmp t,by simpa using hx,rfl⟩)
 |const v=>rfl
 |global g=>rfl
 |func f=>rfl
theorem O9 {bl:List VB} {R:List ai} {ms:List Nat} {w0:ae} {fr:List V} {o:ao} {v:V} (hg:Gl C.gl ids) (hl:ids.length=bl.length) (S:St ms w0 (lits ids ids bl++R) w) (h:JC C bl fr o v):
 (execOp (act ids fr).eval o).run C.P w=.ok (.value (den ids v)) w:=by
 have a9:=λx=>Xn (fr:=fr) hg x;rcases h with(h|⟨b0,p,h,hp⟩)|⟨t,x,ho,h⟩
 ·exact W_ a9 o v h
 ·exact Xl a9 o h hp
 ·have:=h.run hl S;unfold execOp;simp only[ho,a9,bx,this];rfl
theorem afn {call:ku G} {o:ao} {fr:List V} {bl:List VB} {ch:List G} {k:j5 G} (hf:jO o=true) (h:pz C call o fr bl ch k):∃v,JC C bl fr o v/\k (put fr o.dst v) bl ch:=by
 unfold pz at h;split at h
 ·rename_i t x ho;split at h
  ·rename_i v hv;exact⟨v,.inr ⟨t,x,ho,.inl hv⟩,h⟩
  ·split at h
   ·rename_i p v hv;exact⟨v,.inr ⟨t,x,ho,.inr ⟨p,hv,h.1⟩⟩,h.2⟩
   ·exact h.elim
 ·rename_i t x y ho;simp[jO,yg,ho]at hf
 ·rename_i op h1 h2;split at h
  ·rename_i p v hv;exact⟨v,.inl (.inr ⟨_,p,hv,h.1⟩),h.2⟩
  split at h
  ·rename_i v hv;exact⟨v,.inl (.inl hv),h⟩
  ·exfalso;unfold jO yg at hf;split at h
   ·rename_i v b hv;unfold E9 at hv;split at hv<;>simp_all
   ·split at h
    ·rename_i f args hv;unfold callee at hv;split at hv
     ·rename_i c hc;split at hv
      ·rename_i fo Fk;obtain⟨nq,ar,ts⟩:=c;simp only at Fk;subst Fk;rw[hc]at hf;simp at hf
      ·rename_i r nm Fk;obtain⟨nq,ar,ts⟩:=c;simp only at Fk;subst Fk;rw[hc]at hf;simp at hf
      ·cases hv
     ·cases hv
    ·cases hq:CJ o.op with
     |false=>rw[hq]at h;exact h
     |true=>
      unfold CJ at hq;split at hq<;>simp_all
end
structure DI (C:Ctx G) (call:ku G) (q:Nat->Bool) (l:List ao) (pm:List Nat) (R:List ai) (ms:List Nat) (w0:ae) (k:j5 G) (dP:List V) (ew:List Nat)
 (cC rest:List Nat) (fr:List V) (ids:List Nat) (bl:List VB) (ch:List G) (Z:List (Nat×ai)) (listed:Array Bool) (a:Act) (w:ae):Prop where
 kA:kz (vG q l pm) (cC++rest)=true
 vI:yi l pm rest=true
 lY:∀i,i<l.length->i∈cC++rest
 lZ:∀i∈cC++rest,i<l.length
 nd:(cC++rest).Nodup
 nr:l.all (Jy C fr.length)=true
 vJ:∀i∈cC++rest,fK pm i i=false
 ls:listed.size=l.length
 q_:∀i∈cC,jO (bm l i)=false->listed[i]?=some true
 lA:∀i∈rest,gb (bm l i)=false->listed[i]?=some false
 back:∀j,listed[j]?=some true->∀i,fK pm i j=true->listed[i]?=some true
 vc:iO C call l.toArray (tX l rest) fr bl ch k
 sz:a.tmps.size=fr.length
 df:a.defers=[]
 slot:∀t,(∀i∈cC,(bm l i).dst=some t->listed[i]?=some true)->(∀i∈rest,(bm l i).dst=some t->listed[i]?=some false)->cG a t=den ids (nth fr t)
 old:∀i∈cC,listed[i]?=some false->∀t,(bm l i).dst=some t->cG a t=den ids (nth dP t)
 sH:∀t,(∀i∈cC,(bm l i).dst≠some t)->nth fr t=nth dP t
 bA:∀i∈cC,listed[i]?=some false->∃jA v b,Rec C l pm dP fr bl i jA v b
 rf:∀i∈rest,listed[i]?=some true->∃b t z d,(i,(⟨b,true,.cells (ah [] z).toArray t (0,0)⟩:ai))∈Z/\(bm l i).op=.alloc t/\mB C.P t=some z/\(bm l i).dst=some d/\cG a d=.pointer (some ⟨b,0,none⟩)
 mC:∀p∈Z,p.1∈rest/\listed[p.1]?=some true
 CP:(Z.map (·.1)).Nodup
 S:St ms w0 (lits ids ids bl++ax ch (Z.map (·.2)++R)) w
 hl:ids.length=bl.length
 gl:Gl C.gl ids
 Ay:bj ids.length dP=true
 CQ:∃m,ids=ew++m
section
variable{C:Ctx G} {call:ku G} {q:Nat->Bool} {l:List ao} {pm:List Nat} {R:List ai} {ms:List Nat} {w0:ae} {k:j5 G} {dP fr:List V} {ew:List Nat}
 {cC rest:List Nat} {ids:List Nat} {bl:List VB} {ch:List G} {Z:List (Nat×ai)} {listed:Array Bool} {a:Act} {w:ae} {Q:dR->Act->ae->Prop}
theorem Xu:∀(fr:List V) (t:Nat) (x:V),(lW fr t x).length=fr.length
 |[],_,_=>rfl
 |_::_,0,_=>rfl
 |_::l,t+1,x=>by simp[xS,xT,xU,Xu l t x]
theorem CR (d:Option Tmp) (x:V):(put fr d x).length=fr.length:=by cases d<;>simp[put,Xu]
theorem O_:∀(fr:List V) (t u:Nat) (x:V),t<fr.length->nth (lW fr t x) u=if u=t then x else nth fr u
 |[],t,u,x,h=>by simp at h
 |v::l,0,0,x,_=>by simp[xS,xT,xU,jM,jN,jy]
 |v::l,0,u+1,x,_=>by simp[xS,xT,xU,jM,jN,jy]
 |v::l,t+1,0,x,_=>by simp[xS,xT,xU,jM,jN,jy]
 |v::l,t+1,u+1,x,h=>by simp[xS,xT,xU,jM,jN,jy,O_ l t u x (by simpa using h)]
theorem Pa {d:Option Tmp} {x:V} (t:Tmp) (hd:∀u,d=some u->u<fr.length):(d=some t->nth (put fr d x) t=x)/\(d≠some t->nth (put fr d x) t=nth fr t):=by
 cases d with
 |none=>exact⟨λh=>(nomatch h),λ_=>rfl⟩
 |some u=>
  refine⟨λh=>?_,λh=>?_⟩
  ·cases h;simp only[put];rw[O_ _ _ _ _ (hd _ rfl),if_pos rfl]
  ·simp only[put];rw[O_ _ _ _ _ (hd u rfl),if_neg (λe=>h (by rw[e]))]
theorem yk {n:Nat} (h:l.all (Jy C n)=true) {i:Nat} {o:ao} (ho:l[i]?=some o):(∀t,o.dst=some t->t<n)/\(∀cs b,o.op≠.select cs b)/\
 (gb o=true->o.guard=none/\∃d t z,o.dst=some d/\o.op=.alloc t/\mB C.P t=some z):=by
 have h1:=fR.1 h o (oQ ho);unfold Jy at h1;simp only[bg]at h1;obtain⟨⟨a1,a2⟩,a3⟩:=h1;refine⟨?_,?_,?_⟩
 ·intro t ht;rw[ht]at a1;rw[ie]at a1;exact a1
 ·intro cs b e;rw[e]at a2;cases a2
 ·intro ha;rw[ha]at a3;simp only[cond_true]at a3;split at a3
  ·rename_i d t hg hd ho;split at a3
   ·rename_i z hz;exact⟨hg,d,t,z,hd,ho,hz⟩
   ·cases a3
  ·cases a3
namespace DI
theorem at_ (D:DI C call q l pm R ms w0 k dP ew cC rest fr ids bl ch Z listed a w) {i:Nat} (h:i∈cC++rest):l[i]?=some (bm l i):=by
 have:=D.lZ i h;rw[jb this];rw[JB (jb this)]
theorem mem_of (D:DI C call q l pm R ms w0 k dP ew cC rest fr ids bl ch Z listed a w) {i t:Nat} (h:(bm l i).dst=some t):i∈cC++rest:=by
 have:=afj h;exact D.lY i (by rcases cN i l.length with h'|h';exact h';simp[h']at this)
theorem bit (D:DI C call q l pm R ms w0 k dP ew cC rest fr ids bl ch Z listed a w) {i:Nat} (h:i∈cC++rest):listed[i]?=some true\/listed[i]?=some false:=lr D.ls (D.lZ i h)
theorem uniq (D:DI C call q l pm R ms w0 k dP ew cC rest fr ids bl ch Z listed a w) {i j t:Nat} (hi:(bm l i).dst=some t) (hj:(bm l j).dst=some t):i=j:=by
 refine Classical.byContradiction λcw=>?_;rcases O4 D.kA i (D.mem_of hi) j (D.mem_of hj) cw with h|h
 ·exact(sG h).ww t hi hj
 ·exact(sG h).ww t hj hi
theorem ahead (D:DI C call q l pm R ms w0 k dP ew cC rest fr ids bl ch Z listed a w) {i j:Nat} (hi:i∈cC) (hj:j∈rest):O6 q l pm i j:=sG ((Ax D.kA).1 i hi j hj)
theorem apart (D:DI C call q l pm R ms w0 k dP ew cC rest fr ids bl ch Z listed a w) {i:Nat} (hi:i∈cC) (hj:i∈rest):False:=(List.nodup_append.1 D.nd).2.2 i hi i hj rfl
theorem Pb (D:DI C call q l pm R ms w0 k dP ew cC rest fr ids bl ch Z listed a w) {i:Nat} (hi:i∈cC) (hu:listed[i]?=some false) (hp:∀h,fK pm h i=true->listed[h]?=some true) {jA:List V} {v:V} {b:Bool}
 (r:Rec C l pm dP fr bl i jA v b):∀t∈looks l i,cG a t=den ids (nth jA t):=by
 intro t ht;by_cases hw:∃h,(bm l h).dst=some t
 ·obtain⟨h,hd⟩:=hw;cases hb:fK pm h i with
  |true=>
   rw[r.w1 t ht h hd hb];refine D.slot t ?_ ?_
   ·intro i' iM gA;rw[D.uniq gA hd];exact hp h hb
   ·intro i' iM gA;have:=(D.ahead hi (D.uniq gA hd▸iM)).nb;rw[hb]at this;cases this
  |false=>
   rw[r.w0 t ht (λh' gA=>by rw[D.uniq gA hd];exact hb)];by_cases he:h=i
   ·subst he;exact D.old h hi hu t hd
   ·have hm:=D.mem_of hd;have N3:fK pm i h=true:=by
     rcases O4 D.kA h hm i (by simp[hi]) he with p|p
     ·have:=(sG p).wi t hd ht;rw[hb]at this;cases this
     ·exact(sG p).wj t hd ht
    have Xv:listed[h]?=some false:=by
     rcases D.bit hm with e|e
     ·have:=D.back h e i N3;rw[hu]at this;cases this
     ·exact e
    rcases eJ.1 hm with hm|hm
    ·exact D.old h hm Xv t hd
    ·rw[<-D.sH t (λi' iM gA=>D.apart iM (D.uniq gA hd▸hm))];refine D.slot t ?_ ?_
     ·intro i' iM gA;exact(D.apart iM (D.uniq gA hd▸hm)).elim
     ·intro i' iM gA;rw[D.uniq gA hd];exact Xv
 ·rw[r.w0 t ht (λh hd=>(hw ⟨h,hd⟩).elim),<-D.sH t (λi' _ gA=>hw ⟨i',gA⟩)];exact D.slot t (λi' _ gA=>(hw ⟨i',gA⟩).elim) (λi' _ gA=>(hw ⟨i',gA⟩).elim)
theorem afo (D:DI C call q l pm R ms w0 k dP ew cC rest fr ids bl ch Z listed a w) {i:Nat} {r:List Nat} (hr:rest=i::r) (hu:listed[i]?=some false) (hp:∀h,fK pm h i=true->listed[h]?=some true):
 ∀t∈looks l i,cG a t=den ids (nth fr t):=by
 intro t ht;refine D.slot t ?_ ?_
 ·intro h hh hd;exact hp h ((D.ahead hh (by rw[hr];simp)).wi t hd ht)
 ·intro h hh hd;rcases D.bit (i:=h) (by simp[hh])with e|e
  ·exfalso;rw[hr]at hh;rcases ca.1 hh with rfl|hh
   ·rw[hu]at e;cases e
   ·have Az:=(Ax D.kA).2.2;rw[hr]at Az;simp only[kz,bg,fR]at Az;have:=(sG (Az.1 h hh)).wj t hd ht;have:=D.back h e i this;rw[hu]at this;cases this
  ·exact e
end DI
end
section
variable{C:Ctx G} {call:ku G} {q:Nat->Bool} {l:List ao} {pm:List Nat} {R:List ai} {ms:List Nat} {w0:ae} {k:j5 G} {dP fr:List V} {ew:List Nat}
 {cC rest:List Nat} {ids:List Nat} {bl:List VB} {ch:List G} {Z:List (Nat×ai)} {listed:Array Bool} {a:Act} {w:ae} {Q:dR->Act->ae->Prop}
theorem Pc {i j:Nat} {b:Bool} (hi:i<listed.size):(listed.setIfInBounds i true)[j]?=some b↔(j=i/\b=true)\/(j≠i/\listed[j]?=some b):=by
 rw[qx];by_cases h:i=j
 ·subst h;simp[hi]
 ·rw[if_neg h];constructor
  ·intro e;exact .inr ⟨λx=>h x.symm,e⟩
  ·rintro(⟨e,_⟩|⟨_,e⟩)
   ·exact absurd e.symm h
   ·exact e
theorem Pd {a:Act} {d:Option Tmp} {v:ab} (hd:∀u,d=some u->u<a.tmps.size) (t:Tmp):(d=some t->cG (a.put d v) t=v)/\(d≠some t->cG (a.put d v) t=cG a t):=by
 cases d with
 |none=>exact⟨λh=>(nomatch h),λ_=>rfl⟩
 |some u=>
  refine⟨λh=>?_,λh=>?_⟩
  ·cases h;rw[xJ _ _ _ _ (hd _ rfl),if_pos rfl]
  ·rw[xJ _ _ _ _ (hd u rfl),if_neg (λe=>h (by rw[e]))]
namespace DI
theorem Pe (D:DI C call q l pm R ms w0 k dP ew cC rest fr ids bl ch Z listed a w) {i:Nat} (hi:i∈cC) (hu:listed[i]?=some false) (hp:∀h,fK pm h i=true->listed[h]?=some true) {jA:List V} {v:V} {b:Bool}
 (r:Rec C l pm dP fr bl i jA v b):DI C call q l pm R ms w0 k dP ew cC rest fr ids bl ch Z (listed.setIfInBounds i true) (a.put (bm l i).dst (den ids v)) w:=by
 have il:i<listed.size:=by rw[D.ls];exact D.lZ i (by simp[hi])
 have sg:=λj b=>Pc (listed:=listed) (j:=j) (b:=b) il;have hd:∀u,(bm l i).dst=some u->u<a.tmps.size:=λu hu=>by rw[D.sz];exact(yk D.nr (D.at_ (by simp[hi]))).1 u hu
 have yp:=Pd (v:=den ids v) hd;refine{D with ls:=by simpa using D.ls,q_:=?_,lA:=?_,back:=?_,sz:=by rw[size_put];exact D.sz,df:=by rw[z_];exact D.df,slot:=?_,old:=?_,bA:=?_,rf:=?_,mC:=λp hp=>⟨(D.mC p hp).1,(sg _ _).2 (.inr ⟨λe=>D.apart hi (e▸(D.mC p hp).1),(D.mC p hp).2⟩)⟩}
 ·intro j hj hf;exact(sg _ _).2 (by by_cases e:j=i;exact .inl ⟨e,rfl⟩;exact .inr ⟨e,D.q_ j hj hf⟩)
 ·intro j hj hf;exact(sg _ _).2 (.inr ⟨λe=>D.apart hi (e▸hj),D.lA j hj hf⟩)
 ·intro j hj h hb;refine(sg _ _).2 ?_;rcases(sg _ _).1 hj with⟨rfl,_⟩|⟨cw,hj⟩
  ·by_cases e:h=j
   ·exact .inl ⟨e,rfl⟩
   ·exact .inr ⟨e,hp h hb⟩
  ·by_cases e:h=i
   ·exact .inl ⟨e,rfl⟩
   ·exact .inr ⟨e,D.back j hj h hb⟩
 ·intro t h1 h2;by_cases e:(bm l i).dst=some t
  ·rw[(yp t).1 e,r.val t e]
  ·rw[(yp t).2 e];refine D.slot t ?_ ?_
   ·intro j hj gA;rcases(sg _ _).1 (h1 j hj gA)with⟨rfl,_⟩|⟨_,h⟩
    ·exact absurd gA e
    ·exact h
   ·intro j hj gA;rcases(sg _ _).1 (h2 j hj gA)with⟨_,h⟩|⟨_,h⟩
    ·cases h
    ·exact h
 ·intro j hj dZ t ht;rcases(sg _ _).1 dZ with⟨_,h⟩|⟨cw,h⟩
  ·cases h
  ·rw[(yp t).2 (λe=>cw (D.uniq ht e))];exact D.old j hj h t ht
 ·intro j hj dZ;rcases(sg _ _).1 dZ with⟨_,h⟩|⟨cw,h⟩
  ·cases h
  ·exact D.bA j hj h
 ·intro j hj dZ;rcases(sg _ _).1 dZ with⟨rfl,_⟩|⟨cw,h⟩
  ·exact(D.apart hi hj).elim
  ·obtain⟨b,t,z,d,h1,h2,h3,h4,h5⟩:=D.rf j hj h;exact⟨b,t,z,d,h1,h2,h3,h4,by rw[(yp d).2 (λe=>cw (D.uniq h4 e))];exact h5⟩
theorem Pf (b:ai) (X:List ai):∀ch:List G,(b::ax ch X).Perm (ax ch (b::X))
 |[]=>List.Perm.refl _
 |c::ch=>by
  simp only[ax];exact(jH.symm).trans (qG (Bl.B c) (Pf b X ch))
theorem afp {P:aF} {t:aG} {z:List V} (h:mB P t=some z) (ids:List Nat):ah ids z=ah [] z:=by
 unfold mB at h;split at h
 ·split at h
  ·rename_i v hv;simp only[aV]at h;subst h;rw[Ow,Ow];cases v<;>simp[CF,jz,ah,cl,den,Ji]
  ·cases h
 ·cases h
theorem afq (D:DI C call q l pm R ms w0 k dP ew cC rest fr ids bl ch Z listed a w) {i d:Nat} {t:aG} {z:List V} (hi:i∈rest) (hu:listed[i]?=some false) (hp:∀h,fK pm h i=true->listed[h]?=some true)
 (ho:(bm l i).op=.alloc t) (hz:mB C.P t=some z) (hd:(bm l i).dst=some d):
 DI C call q l pm R ms w0 k dP ew cC rest fr ids bl ch ((i,⟨w.heap.size,true,.cells (ah [] z).toArray t (0,0)⟩)::Z) (listed.setIfInBounds i true) (a.put (bm l i).dst (.pointer (some ⟨w.heap.size,0,none⟩))) (w.alloc (.cells (ah [] z).toArray t)):=by
 have il:i<listed.size:=by rw[D.ls];exact D.lZ i (by simp[hi])
 have sg:=λj b=>Pc (listed:=listed) (j:=j) (b:=b) il;have yl:∀u,(bm l i).dst=some u->u<a.tmps.size:=λu hu=>by rw[D.sz];exact(yk D.nr (D.at_ (by simp[hi]))).1 u hu
 have yp:=Pd (v:=(.pointer (some ⟨w.heap.size,0,none⟩):ab)) yl;have hA:gb (bm l i)=true:=by simp[gb,yg,ho]
 have hF:jO (bm l i)=false:=by simp[jO,yg,ho]
 refine{D with ls:=by simpa using D.ls,q_:=?_,lA:=?_,back:=?_,sz:=by rw[size_put];exact D.sz,df:=by rw[z_];exact D.df,slot:=?_,old:=?_,bA:=?_,rf:=?_,mC:=?_,CP:=?_,S:=?_}
 ·intro j hj hf;exact(sg _ _).2 (by by_cases e:j=i;exact .inl ⟨e,rfl⟩;exact .inr ⟨e,D.q_ j hj hf⟩)
 ·intro j hj hf;exact(sg _ _).2 (.inr ⟨λe=>(by rw[e,hA]at hf;cases hf),D.lA j hj hf⟩)
 ·intro j hj h hb;refine(sg _ _).2 ?_;rcases(sg _ _).1 hj with⟨rfl,_⟩|⟨cw,hj⟩
  ·by_cases e:h=j
   ·exact .inl ⟨e,rfl⟩
   ·exact .inr ⟨e,hp h hb⟩
  ·by_cases e:h=i
   ·exact .inl ⟨e,rfl⟩
   ·exact .inr ⟨e,D.back j hj h hb⟩
 ·intro t h1 h2;by_cases e:(bm l i).dst=some t
  ·rcases(sg _ _).1 (h2 i hi e)with⟨_,h⟩|⟨h,_⟩
   ·cases h
   ·exact absurd rfl h
  ·rw[(yp t).2 e];refine D.slot t ?_ ?_
   ·intro j hj gA;rcases(sg _ _).1 (h1 j hj gA)with⟨rfl,_⟩|⟨_,h⟩
    ·exact absurd gA e
    ·exact h
   ·intro j hj gA;rcases(sg _ _).1 (h2 j hj gA)with⟨_,h⟩|⟨_,h⟩
    ·cases h
    ·exact h
 ·intro j hj dZ t ht;rcases(sg _ _).1 dZ with⟨_,h⟩|⟨cw,h⟩
  ·cases h
  ·rw[(yp t).2 (λe=>cw (D.uniq ht e))];exact D.old j hj h t ht
 ·intro j hj dZ;rcases(sg _ _).1 dZ with⟨_,h⟩|⟨cw,h⟩
  ·cases h
  ·exact D.bA j hj h
 ·intro j hj dZ;rcases(sg _ _).1 dZ with⟨rfl,_⟩|⟨cw,h⟩
  ·exact⟨_,_,_,_,Cg ..,ho,hz,hd,(yp d).1 hd⟩
  ·obtain⟨b,t,z,d,h1,h2,h3,h4,h5⟩:=D.rf j hj h;exact⟨b,t,z,d,xz _ h1,h2,h3,h4,by rw[(yp d).2 (λe=>cw (D.uniq h4 e))];exact h5⟩
 ·intro p hp;rcases ca.1 hp with rfl|hp
  ·exact⟨hi,(sg _ _).2 (.inl ⟨rfl,rfl⟩)⟩
  ·exact⟨(D.mC p hp).1,(sg _ _).2 (by by_cases e:p.1=i;exact .inl ⟨e,rfl⟩;exact .inr ⟨e,(D.mC p hp).2⟩)⟩
 ·simp only[eH,qz];refine⟨?_,D.CP⟩;intro hm;obtain⟨p,hp,e⟩:=mn.1 hm;have:=(D.mC p hp).2;rw[e,hu]at this;cases this
 ·have h:=D.S.new (Ch.alloc [] w (.cells (ah [] z).toArray t)) (dE _) (mX w _);refine h.perm ?_;simp only[eH,ft];exact(jH.symm).trans (qG _ (Pf _ _ _))
end DI
end
mutual
theorem Xw {n m:Nat} (ym:n<=m):∀v:V,cK n v=true->cK m v=true
 |.int _ _,_=>by simp[cK]
 |.bool _,_=>by simp[cK]
 |.ptr i _,h=>by simp only[cK,ie]at h⊢;omega
 |.sl i _ _ _,h=>by simp only[cK,ie]at h⊢;omega
 |.f_ i _ _ _ _,h=>by simp only[cK,ie]at h⊢;omega
 |.fn _ a b,h=>by simp only[cK,bg]at h⊢;exact⟨vK ym a h.1,vK ym b h.2⟩
 |.lV _ v,h=>by simp only[cK]at h⊢;exact Xw ym v h
 |.agg l,h=>by simp only[cK]at h⊢;exact vK ym l h
 |.an l,h=>by simp only[cK]at h⊢;exact vK ym l h
 |.bJ _ _ _,_=>by simp[cK]
 |.arr _ _ _,_=>by simp[cK]
 |.eo _ _ _ _,_=>by simp[cK]
 |.rest _,_=>by simp[cK]
 |.fh _ _ _,_=>by simp[cK]
 |.pe i _ _ _ _,h=>by simp only[cK,ie]at h⊢;omega
 |.raw _,_=>by simp[cK]
theorem vK {n m:Nat} (ym:n<=m):∀l:List V,bj n l=true->bj m l=true
 |[],_=>by simp[bj]
 |v::l,h=>by simp only[bj,bg]at h⊢;exact⟨Xw ym v h.1,vK ym l h.2⟩
end
theorem Fl {n:Nat}:∀{fr:List V} (t:Nat),bj n fr=true->cK n (nth fr t)=true
 |[],_,_=>by simp[jM,jN,jy,fJ,cK]
 |v::l,0,h=>by simp only[bj,bg]at h;exact h.1
 |v::l,t+1,h=>by simp only[bj,bg]at h;exact Fl t h.2
theorem afr {P:aF} {bl e:List VB} {t:aG} {x v:V} (h:tT P bl t x=some v):tT P (bl++e) t x=some v:=by
 unfold tT at h⊢;split at h
 ·rename_i i off;split at h
  ·rename_i b hb;have hi:i<bl.length:=by rcases cN i bl.length with h'|h';exact h';simp[h']at hb
   simp only[gV hi,hb];exact h
  ·cases h
 ·cases h
theorem Xx {P:aF} {bl e:List VB} {t:aG} {x v:V} (h:Av P bl t x v):Av P (bl++e) t x v:=by
 rcases h with h|⟨p,h,hp⟩
 ·exact .inl (afr h)
 ·exact .inr ⟨p,ae_ h,hp⟩
theorem Xy {X Y:List ai} (h:X.Perm Y):∀ch:List G,(ax ch X).Perm (ax ch Y)
 |[]=>h
 |c::ch=>qG (Bl.B c) (Xy h ch)
section
variable{C:Ctx G} {call:ku G} {q:Nat->Bool} {l:List ao} {pm:List Nat} {R:List ai} {ms:List Nat} {w0:ae} {k:j5 G} {dP fr:List V} {ew:List Nat}
 {cC rest:List Nat} {ids:List Nat} {bl:List VB} {ch:List G} {Z:List (Nat×ai)} {listed:Array Bool} {a:Act} {w:ae} {Q:dR->Act->ae->Prop}
theorem Xz {o:ao} {L:List ao} (h:iO C call l.toArray (o::L) fr bl ch k):∃b,Fi l fr o b/\(if b then pz C call o fr bl ch (λfr bl ch=>iO C call l.toArray L fr bl ch k)else iO C call l.toArray L (put fr o.dst fJ) bl ch k):=by
 simp only[iO]at h;unfold Fi;split at h
 ·rename_i hg;(try rw[hg]);exact⟨true,rfl,h⟩
 ·rename_i j want hg;try rw[hg]
  split at h
  ·exact h.elim
  ·rename_i t hd;split at h
   ·rename_i c hc;have hs:=Ju fr t;rw[hc]at hs;refine⟨c==want,⟨t,hd,.inl ⟨c,hc,rfl⟩⟩,?_⟩;cases c<;>(rw[hs]at h;cases want<;>exact h)
   ·rename_i vs hc;exact⟨false,⟨t,hd,.inr ⟨vs,hc,rfl⟩⟩,h⟩
   ·exact h.elim
theorem Rec.frame {i:Nat} {jA:List V} {v:V} {b:Bool} (r:Rec C l pm dP fr bl i jA v b) {fr':List V} {bl':List VB}
 (h1:∀t∈looks l i,∀h,(bm l h).dst=some t->fK pm h i=true->nth fr' t=nth fr t) (h2:∀d,(bm l i).dst=some d->nth fr' d=nth fr d)
 (h3:∀t x v,(bm l i).op=.load t x->Av C.P bl t (ev C.gl jA x) v->Av C.P bl' t (ev C.gl jA x) v):Rec C l pm dP fr' bl' i jA v b:=by
 refine⟨λt ht h hd hb=>(r.w1 t ht h hd hb).trans (h1 t ht h hd hb).symm,r.w0,λd hd=>(h2 d hd).trans (r.val d hd),r.g,?_⟩;have e:=r.e;cases b with
 |false=>exact e
 |true=>
  rcases e with e|⟨t,x,ho,e⟩
  ·exact .inl e
  ·exact .inr ⟨t,x,ho,h3 t x v ho e⟩
namespace DI
theorem afs {i:Nat} {r:List Nat} (D:DI C call q l pm R ms w0 k dP ew cC (i::r) fr ids bl ch Z listed a w) (hf:jO (bm l i)=true):∃fr',DI C call q l pm R ms w0 k dP ew (cC++[i]) r fr' ids bl ch Z listed a w:=by
 have l5:(cC++[i])++r=cC++(i::r):=by simp
 have hA:gb (bm l i)=false:=by rcases vH (bm l i)with h|h|h<;>simp_all
 have hu:listed[i]?=some false:=D.lA i (by simp) hA;have ho:=D.at_ (i:=i) (by simp);have yl:=(yk D.nr ho).1;obtain⟨b,hg,hb⟩:=Xz D.vc;obtain⟨v,hv,cS⟩:∃v,(if b then JC C bl fr (bm l i) v else v=fJ)/\iO C call l.toArray (tX l r) (put fr (bm l i).dst v) bl ch k:=by
  cases b with
  |true=>rw[if_pos rfl]at hb;exact afn hf hb
  |false=>rw[if_neg (by simp)]at hb;exact⟨fJ,rfl,hb⟩
 have np:=λt=>Pa (fr:=fr) (x:=v) t yl;have vL:∀{j},j∈cC->j≠i:=λhj e=>D.apart hj (by rw[e];simp);refine⟨put fr (bm l i).dst v,{D with kA:=by rw[l5];exact D.kA,vI:=?_,lY:=by rw[l5];exact D.lY,lZ:=by rw[l5];exact D.lZ,nd:=by rw[l5];exact D.nd,nr:=by rw[CR];exact D.nr,vJ:=by rw[l5];exact D.vJ,q_:=?_,lA:=λj hj=>D.lA j (by simp[hj]),vc:=cS,sz:=by rw[CR];exact D.sz,slot:=?_,old:=?_,sH:=?_,bA:=?_,rf:=λj hj=>D.rf j (by simp[hj]),mC:=?_}⟩
 ·have:=D.vI;simp only[yi,bg]at this;exact this.2
 ·intro j hj vM;rcases eJ.1 hj with hj|hj
  ·exact D.q_ j hj vM
  ·obtain rfl:j=i:=by simpa using hj
   rw[hf]at vM;cases vM
 ·intro t h1 h2;by_cases e:(bm l i).dst=some t
  ·have:=h1 i (by simp) e;rw[hu]at this;cases this
  ·rw[(np t).2 e];refine D.slot t (λj hj=>h1 j (by simp[hj])) ?_;intro j hj hd;rcases ca.1 hj with rfl|hj
   ·exact absurd hd e
   ·exact h2 j hj hd
 ·intro j hj dZ t ht;rcases eJ.1 hj with hj|hj
  ·exact D.old j hj dZ t ht
  ·obtain rfl:j=i:=by simpa using hj
   rw[<-D.sH t (λh hh hd=>vL hh (D.uniq hd ht))];refine D.slot t (λh hh hd=>(vL hh (D.uniq hd ht)).elim) ?_;intro h hh hd;rw[D.uniq hd ht];exact hu
 ·intro t h;rw[(np t).2 (h i (by simp))];exact D.sH t (λj hj=>h j (by simp[hj]))
 ·intro j hj dZ;rcases eJ.1 hj with hj|hj
  ·obtain⟨jA,v',b',rr⟩:=D.bA j hj dZ;refine⟨jA,v',b',rr.frame ?_ ?_ (λ_ _ _ _ h=>h)⟩
   ·intro t ht h hd nt;refine(np t).2 (λe=>?_);have:=(D.ahead hj (show i∈i::r by simp)).nb;rw[D.uniq hd e]at nt;rw[nt]at this;cases this
   ·intro d hd;exact(np d).2 (λe=>vL hj (D.uniq hd e))
  ·obtain rfl:j=i:=by simpa using hj
   refine⟨fr,v,b,⟨?_,?_,λd hd=>(np d).1 hd,hg,hv⟩⟩
   ·intro t ht h hd nt;refine((np t).2 (λe=>?_)).symm;rw[D.uniq hd e,D.vJ j (by simp)]at nt;cases nt
   ·intro t ht ri;exact D.sH t (λh hh hd=>by
     have:=(D.ahead hh (show j∈j::r by simp)).wi t hd ht;rw[ri h hd]at this;cases this)
 ·intro p hp;obtain⟨h1,h2⟩:=D.mC p hp;rcases ca.1 h1 with e|h1
  ·rw[e,hu]at h2;cases h2
  ·exact⟨h1,h2⟩
theorem Fm:∀(r:List Nat) {cC:List Nat} {fr:List V},DI C call q l pm R ms w0 k dP ew cC r fr ids bl ch Z listed a w->∃vN r' fr',DI C call q l pm R ms w0 k dP ew vN r' fr' ids bl ch Z listed a w/\(r'=[]\/∃i s,r'=i::s/\jO (bm l i)=false)
 |[],cC,fr,D=>⟨cC,[],fr,D,.inl rfl⟩
 |i::r,cC,fr,D=>by
  cases hf:jO (bm l i)with
  |false=>exact⟨cC,i::r,fr,D,.inr ⟨i,r,rfl,hf⟩⟩
  |true=>
   obtain⟨fr',D'⟩:=D.afs hf;exact Fm r D'
theorem aft {i:Nat} {r:List Nat} (D:DI C call q l pm R ms w0 k dP ew cC (i::r) fr ids bl ch Z listed a w) (ha:gb (bm l i)=true) (hi:listed[i]?=some true):∃fr' ids' bl' Z',DI C call q l pm R ms w0 k dP ew (cC++[i]) r fr' ids' bl' ch Z' listed a w:=by
 have l5:(cC++[i])++r=cC++(i::r):=by simp
 have ho:=D.at_ (i:=i) (by simp);have yl:=(yk D.nr ho).1;obtain⟨yf,_⟩:=(yk D.nr ho).2.2 ha;obtain⟨b,t,z,d,hz,iH,XA,hd,hy⟩:=D.rf i (by simp) hi;obtain⟨Z1,Z2,rfl⟩:=List.append_of_mem hz;have cS:=D.vc;simp only[tX,eH,iO,yf,pz,iH,Fc,E7,E9,XA]at cS;cases hq:bj bl.length fr&&(bM bl.length bl&&bj bl.length z)with
 |false=>rw[hq]at cS;exact cS.elim
 |true=>
  rw[hq]at cS;simp only[bg,<-D.hl]at hq;have cS:iO C call l.toArray (tX l r) (put fr (bm l i).dst (.ptr bl.length 0)) (bl++[⟨true,t,z⟩]) ch k:=cS;have np:=λt=>Pa (fr:=fr) (x:=V.ptr bl.length 0) t yl;have vL:∀{j},j∈cC->j≠i:=λhj e=>D.apart hj (by rw[e];simp);refine⟨_,ids++[b],_,Z1++Z2,{D with kA:=by rw[l5];exact D.kA,vI:=?_,lY:=by rw[l5];exact D.lY,lZ:=by rw[l5];exact D.lZ,nd:=by rw[l5];exact D.nd,nr:=by rw[CR];exact D.nr,vJ:=by rw[l5];exact D.vJ,q_:=?_,lA:=λj hj=>D.lA j (by simp[hj]),vc:=cS,sz:=by rw[CR];exact D.sz,slot:=?_,old:=?_,sH:=?_,bA:=?_,rf:=?_,mC:=?_,CP:=?_,S:=?_,hl:=by simp[D.hl],gl:=D.gl.app _,Ay:=vK (by simp) _ D.Ay,CQ:=by obtain⟨m,e⟩:=D.CQ;exact⟨m++[b],by rw[e,bR]⟩}⟩
  ·have:=D.vI;simp only[yi,bg]at this;exact this.2
  ·intro j hj vM;rcases eJ.1 hj with hj|hj
   ·exact D.q_ j hj vM
   ·obtain rfl:j=i:=by simpa using hj
    exact hi
  ·intro u h1 h2;by_cases e:(bm l i).dst=some u
   ·rw[(np u).1 e];obtain rfl:d=u:=by rw[hd]at e;simpa using e
    rw[hy];simp only[den,<-D.hl,kS]
   ·rw[(np u).2 e,fI _ (Fl u hq.1)];refine D.slot u (λj hj=>h1 j (by simp[hj])) ?_;intro j hj gA;rcases ca.1 hj with rfl|hj
    ·exact absurd gA e
    ·exact h2 j hj gA
  ·intro j hj dZ u hu;rcases eJ.1 hj with hj|hj
   ·rw[fI _ (Fl u D.Ay)];exact D.old j hj dZ u hu
   ·obtain rfl:j=i:=by simpa using hj
    rw[hi]at dZ;cases dZ
  ·intro u h;rw[(np u).2 (h i (by simp))];exact D.sH u (λj hj=>h j (by simp[hj]))
  ·intro j hj dZ;rcases eJ.1 hj with hj|hj
   ·obtain⟨jA,v',b',rr⟩:=D.bA j hj dZ;refine⟨jA,v',b',rr.frame ?_ ?_ (λ_ _ _ _ h=>Xx h)⟩
    ·intro u hu h hd nt;refine(np u).2 (λe=>?_);have:=(D.ahead hj (show i∈i::r by simp)).nb;rw[D.uniq hd e]at nt;rw[nt]at this;cases this
    ·intro u hd;exact(np u).2 (λe=>vL hj (D.uniq hd e))
   ·obtain rfl:j=i:=by simpa using hj
    rw[hi]at dZ;cases dZ
  ·intro j hj dZ;obtain⟨b',t',z',d',h1,h2⟩:=D.rf j (by simp[hj]) dZ;refine⟨b',t',z',d',?_,h2⟩;rcases eJ.1 h1 with h1|h1
   ·simp[h1]
   ·rcases ca.1 h1 with e|h1
    ·exfalso;have:j=i:=by simpa using congrArg Prod.fst e
     have hn:=(List.nodup_append.1 D.nd).2.1;rw[qz]at hn;exact hn.1 (this▸hj)
    ·simp[h1]
  ·intro p hp;obtain⟨h1,h2⟩:=D.mC p (by rcases eJ.1 hp with h|h<;>simp[h]);rcases ca.1 h1 with e|h1
   ·exfalso;have hn:=D.CP;simp only[qB,eH]at hn;have r_:=(List.perm_middle.nodup_iff.1 hn);rw[qz]at r_;refine r_.1 ?_;rw[<-e];rcases eJ.1 hp with h|h
    ·exact oU _ (mn.2 ⟨p,h,rfl⟩)
    ·exact tH _ (mn.2 ⟨p,h,rfl⟩)
   ·exact⟨h1,h2⟩
  ·have hn:=D.CP;simp only[qB,eH]at hn⊢;have r_:=(List.perm_middle.nodup_iff.1 hn);exact(qz.1 r_).2
  ·refine D.S.perm ?_;rw[eZ _ _ _ _ D.hl,e_ _ _ hq.2.1];simp only[lits,az,afp XA (ids++[b])];rw[bR];refine qG _ ?_;simp only[qB,eH,ft,fl,bR];exact(Xy jH ch).trans (Pf _ _ ch).symm
end DI
end
end Vx
namespace Vx
open Go Go.RowKit Go.BigFrame Sx
variable{G:Type} [Bl G]
def Fo (q:Nat->Bool) (call:ku G):Prop:=∀f,q f=true->∀args bl ch K,call f args bl ch K->call f args bl ch λv bl' ch'=>K v bl' ch'/\∃e,bl'=bl++e
section
variable{C:Ctx G} {call:ku G} {q:Nat->Bool} {l:List ao} {pm:List Nat} {R:List ai} {ms:List Nat} {w0:ae} {k:j5 G} {dP fr:List V} {ew:List Nat}
 {cC rest:List Nat} {ids:List Nat} {bl:List VB} {ch:List G} {Z:List (Nat×ai)} {listed:Array Bool} {a:Act} {w:ae} {Q:dR->Act->ae->Prop}
theorem afu (hq:Fo q call) {o:ao} (ho:vE q o=true) {k:j5 G} (h:pz C call o fr bl ch k):pz C call o fr bl ch λfr' bl' ch'=>k fr' bl' ch'/\∃e,bl'=bl++e:=by
 unfold pz at h⊢;split at h
 ·rename_i t x e;split at h
  ·first|exact⟨h,[],by simp⟩|(split;exact⟨h,[],by simp⟩)
  ·split at h
   ·exact⟨h.1,h.2,[],by simp⟩
   ·exact h.elim
 ·rename_i t x y e;simp[vE,e]at ho
 ·rename_i op h1 h2;split at h
  ·exact⟨h.1,h.2,[],by simp⟩
  split at h
  ·exact⟨h,[],by simp⟩
  ·split at h
   ·cases hb:bj bl.length fr&&(bM bl.length bl&&bj bl.length _)with
    |false=>rw[hb]at h;exact h.elim
    |true=>rw[hb]at h;exact⟨h,_,rfl⟩
   ·split at h
    ·rename_i f args hc;cases hb:bj bl.length fr with
     |false=>rw[hb]at h;exact h.elim
     |true=>
      rw[hb]at h;have hqf:q f=true:=by
       unfold vE at ho;unfold callee at hc;split at ho
       ·rename_i e;simp[e]at hc
       ·rename_i e;simp[e]at hc
       ·rename_i e;simp[e]at hc
       ·rename_i g a1 a2 e;rw[e]at hc;simp only[ev]at hc;cases hk:okF C.P g with
        |false=>rw[hk]at hc;simp at hc
        |true=>
         rw[hk]at hc;simp only[cond_true,aV,bw]at hc;rw[<-hc.1];exact ho
       ·cases ho
      exact hq f hqf _ _ _ _ h
    ·cases hk:CJ o.op with
     |false=>rw[hk]at h;exact h.elim
     |true=>
      exfalso;unfold vE at ho;unfold CJ at hk;split at hk<;>simp_all
namespace DI
theorem afv {i:Nat} {r:List Nat} (D:DI C call q l pm R ms w0 k dP ew cC (i::r) fr ids bl ch Z listed a w) (hx:kx (bm l i)=true) (hp:∀h,fK pm h i=true->listed[h]?=some true) {x:V} {more:List Nat} {bl':List VB} {ch':List G} {w':ae}
 (cS:iO C call l.toArray (tX l r) (put fr (bm l i).dst x) bl' ch' k) (hl:(ids++more).length=bl'.length) (S:St ms w0 (lits (ids++more) (ids++more) bl'++ax ch' (Z.map (·.2)++R)) w') (hw:more=[]\/bj ids.length fr=true) (hq:vE q (bm l i)=true->∃e,bl'=bl++e):
 DI C call q l pm R ms w0 k dP ew (cC++[i]) r (put fr (bm l i).dst x) (ids++more) bl' ch' Z (listed.setIfInBounds i true) (a.put (bm l i).dst (den (ids++more) x)) w':=by
 have l5:(cC++[i])++r=cC++(i::r):=by simp
 have hA:gb (bm l i)=false:=by rcases vH (bm l i)with h|h|h<;>simp_all
 have hu:listed[i]?=some false:=D.lA i (by simp) hA;have ho:=D.at_ (i:=i) (by simp);have yl:=(yk D.nr ho).1;have il:i<listed.size:=by rw[D.ls];exact D.lZ i (by simp)
 have sg:=λj b=>Pc (listed:=listed) (j:=j) (b:=b) il;have np:=λt=>Pa (fr:=fr) (x:=x) t yl;have yp:=Pd (a:=a) (v:=den (ids++more) x) (d:=(bm l i).dst) (λu hu=>by rw[D.sz];exact yl u hu);have vL:∀{j},j∈cC->j≠i:=λhj e=>D.apart hj (by rw[e];simp);have Pg:∀{j},j∈r->j≠i:=λhj e=>by
  have hn:=(List.nodup_append.1 D.nd).2.1;rw[qz]at hn;exact hn.1 (e▸hj)
 have dn:∀u,den (ids++more) (nth fr u)=den ids (nth fr u):=λu=>by
  rcases hw with rfl|hw
  ·simp
  ·exact fI _ (Fl u hw)
 refine{D with kA:=by rw[l5];exact D.kA,vI:=?_,lY:=by rw[l5];exact D.lY,lZ:=by rw[l5];exact D.lZ,nd:=by rw[l5];exact D.nd,nr:=by rw[CR];exact D.nr,vJ:=by rw[l5];exact D.vJ,ls:=by simpa using D.ls,q_:=?_,lA:=?_,back:=?_,vc:=cS,sz:=by rw[CR,size_put];exact D.sz,df:=by rw[z_];exact D.df,slot:=?_,old:=?_,sH:=?_,bA:=?_,rf:=?_,mC:=?_,S:=S,hl:=hl,gl:=D.gl.app _,Ay:=vK (by simp) _ D.Ay,CQ:=by obtain⟨m,e⟩:=D.CQ;exact⟨m++more,by rw[e,bR]⟩}
 ·have:=D.vI;simp only[yi,bg]at this;exact this.2
 ·intro j hj vM;refine(sg _ _).2 ?_;rcases eJ.1 hj with hj|hj
  ·exact .inr ⟨vL hj,D.q_ j hj vM⟩
  ·exact .inl ⟨by simpa using hj,rfl⟩
 ·intro j hj vM;exact(sg _ _).2 (.inr ⟨Pg hj,D.lA j (by simp[hj]) vM⟩)
 ·intro j hj h hb;refine(sg _ _).2 ?_;rcases(sg _ _).1 hj with⟨rfl,_⟩|⟨cw,hj⟩
  ·by_cases e:h=j
   ·exact .inl ⟨e,rfl⟩
   ·exact .inr ⟨e,hp h hb⟩
  ·by_cases e:h=i
   ·exact .inl ⟨e,rfl⟩
   ·exact .inr ⟨e,D.back j hj h hb⟩
 ·intro t h1 h2;by_cases e:(bm l i).dst=some t
  ·rw[(yp t).1 e,(np t).1 e]
  ·rw[(yp t).2 e,(np t).2 e,dn];refine D.slot t ?_ ?_
   ·intro j hj hd;rcases(sg _ _).1 (h1 j (by simp[hj]) hd)with⟨h,_⟩|⟨_,h⟩
    ·exact absurd h (vL hj)
    ·exact h
   ·intro j hj hd;rcases ca.1 hj with rfl|hj
    ·exact absurd hd e
    ·rcases(sg _ _).1 (h2 j hj hd)with⟨_,h⟩|⟨_,h⟩
     ·cases h
     ·exact h
 ·intro j hj dZ t ht;rcases(sg _ _).1 dZ with⟨_,h⟩|⟨cw,h⟩
  ·cases h
  ·rcases eJ.1 hj with hj|hj
   ·rw[(yp t).2 (λe=>cw (D.uniq ht e)),fI _ (Fl t D.Ay)];exact D.old j hj h t ht
   ·exact absurd (by simpa using hj) cw
 ·intro t h;rw[(np t).2 (h i (by simp))];exact D.sH t (λj hj=>h j (by simp[hj]))
 ·intro j hj dZ;rcases(sg _ _).1 dZ with⟨_,h⟩|⟨cw,h⟩
  ·cases h
  ·rcases eJ.1 hj with hj|hj
   ·obtain⟨jA,v',b',rr⟩:=D.bA j hj h;have P:=D.ahead hj (show i∈i::r by simp);refine⟨jA,v',b',rr.frame ?_ ?_ ?_⟩
    ·intro t ht h hd nt;refine(np t).2 (λe=>?_);have:=P.nb;rw[D.uniq hd e]at nt;rw[nt]at this;cases this
    ·intro d hd;exact(np d).2 (λe=>vL hj (D.uniq hd e))
    ·intro t y v iH OX;rcases P.ld hx (by simp[O0,iH])with hb|hb
     ·have:=hp j hb;rw[h]at this;cases this
     ·obtain⟨e,rfl⟩:=hq hb;exact Xx OX
   ·exact absurd (by simpa using hj) cw
 ·intro j hj dZ;rcases(sg _ _).1 dZ with⟨h,_⟩|⟨cw,h⟩
  ·exact absurd h (Pg hj)
  ·obtain⟨b,t,z,d,h1,h2,h3,h4,h5⟩:=D.rf j (by simp[hj]) h;exact⟨b,t,z,d,h1,h2,h3,h4,by rw[(yp d).2 (λe=>cw (D.uniq h4 e))];exact h5⟩
 ·intro p hp';obtain⟨h1,h2⟩:=D.mC p hp';rcases ca.1 h1 with e|h1
  ·rw[e,hu]at h2;cases h2
  ·exact⟨h1,(sg _ _).2 (.inr ⟨Pg h1,h2⟩)⟩
theorem XB:∀(r:List Nat) {cC:List Nat} {fr:List V} {ids:List Nat} {bl:List VB} {Z:List (Nat×ai)} {i:Nat},DI C call q l pm R ms w0 k dP ew cC r fr ids bl ch Z listed a w->nn l r=some i->(∀h,fK pm h i=true->listed[h]?=some true)->
 ∃vN r' fr' ids' bl' Z',DI C call q l pm R ms w0 k dP ew vN (i::r') fr' ids' bl' ch Z' listed a w
 |[],_,_,_,_,_,_,_,h,_=>by simp[nn]at h
 |j::r,cC,fr,ids,bl,Z,i,D,h,hp=>by
  have pB:=D.vI;simp only[yi,bg]at pB;unfold nn at h;cases hA:gb (bm l j)with
  |false=>
   rw[hA]at h;obtain rfl:j=i:=by simpa using h
   exact⟨cC,r,fr,ids,bl,Z,D⟩
  |true=>
   rw[hA]at h pB;simp only[cond_true]at h pB;rw[h]at pB;simp only[bg]at pB;obtain⟨fr',ids',bl',Z',D'⟩:=D.aft hA (hp j pB.1.2);exact XB r D' h hp
theorem XC (D:DI C call q l pm R ms w0 k dP ew cC rest fr ids bl ch Z listed a w) (h:rest=[]\/∃i s,rest=i::s/\jO (bm l i)=false):rest=[]\/∃x,nn l rest=some x/\x∈rest/\kx (bm l x)=true:=by
 rcases h with h|⟨i,s,rfl,hf⟩
 ·exact .inl h
 ·refine .inr ?_;have nm:∀(r:List Nat) x,nn l r=some x->x∈r:=by
   intro r;induction r with
   |nil=>intro x h;simp[nn]at h
   |cons y r ih=>
    intro x h;unfold nn at h;cases hA:gb (bm l y)with
    |true=>rw[hA]at h;exact xz _ (ih x h)
    |false=>rw[hA]at h;simp at h;simp[h]
  rcases vH (bm l i)with⟨h1,h2,h3⟩|⟨h1,h2,h3⟩|⟨h1,h2,h3⟩
  ·rw[hf]at h1;cases h1
  ·have pB:=D.vI;simp only[yi,bg,h2,cond_true]at pB;cases hn:nn l s with
   |none=>rw[hn]at pB;simp at pB
   |some x=>
    rw[hn]at pB;simp only[bg]at pB;exact⟨x,by unfold nn;rw[h2];exact hn,xz _ (nm s x hn),pB.1.1⟩
  ·exact⟨i,by unfold nn;rw[h2];rfl,by simp,h3⟩
end DI
end
section
variable{C:Ctx G} {call:ku G} {q:Nat->Bool} {l:List ao} {pm:List Nat} {R:List ai} {ms:List Nat} {w0:ae} {k:j5 G} {dP fr:List V} {ew:List Nat}
 {cC rest:List Nat} {ids:List Nat} {bl:List VB} {ch:List G} {Z:List (Nat×ai)} {listed:Array Bool} {a:Act} {w:ae} {Q:dR->Act->ae->Prop}
namespace DI
theorem first (h:kz (vG q l pm) rest=true) {x:Nat} (hn:nn l rest=some x):∀i∈rest,gb (bm l i)=false->i=x\/O6 q l pm x i:=by
 induction rest with
 |nil=>simp[nn]at hn
 |cons y r ih=>
  intro i hi ha;simp only[kz,bg,fR]at h;unfold nn at hn;cases hA:gb (bm l y)with
  |true=>
   rw[hA]at hn;rcases ca.1 hi with rfl|hi
   ·rw[hA]at ha;cases ha
   ·exact ih h.2 hn i hi ha
  |false=>
   rw[hA]at hn;obtain rfl:y=x:=by simpa using hn
   rcases ca.1 hi with e|hi
   ·exact .inl e
   ·exact .inr (sG (h.1 i hi))
theorem Ph (h:yj l l.length=true) {i:Nat} {o:ao} (ho:l[i]?=some o) {e:Edge} (he:e∈o.after) (hb:qy .any e=true):e.on<l.length:=by
 have h1:=fR.1 h o (oQ ho);have h2:=IH.1 h1 e he;rw[hb]at h2;simpa[ie]using h2
theorem stuck (D:DI C call q l pm R ms w0 k dP ew cC rest fr ids bl ch Z listed a w) (CS:tW l pm=true) (fU:yj l l.length=true) (hr:qA .any l.toArray listed=[]):
 ∀(b c:List Nat),cC++rest=c++b->(∀i∈c,listed[i]?=some true)->∀i∈b,listed[i]?=some true:=by
 intro b;induction b with
 |nil=>intro c _ _ i hi;cases hi
 |cons x b ih=>
  intro c hc hl;have hx:x∈cC++rest:=by rw[hc];simp
  have h1:listed[x]?=some true:=by
   rcases D.bit hx with h|h
   ·exact h
   ·exfalso;have ho:=D.at_ hx;have hm:x∈qA .any l.toArray listed:=(lu _ listed x).2 ⟨bm l x,ho,by simp[ju,h],λe he hb=>by
     have dv:=Ph fU ho he hb;have nt:fK pm e.on x=true:=by
      unfold fK;rw[Xr CS ho];exact(JA pm _ _).2 ⟨e,by simpa using he,hb,.inl rfl⟩
     have XD:=D.lY e.on dv;rw[hc]at XD;have hle:listed[e.on]?=some true:=by
      rcases eJ.1 XD with hm|hm
      ·exact hl _ hm
      ·exfalso;rcases ca.1 hm with h2|h2
       ·have:=D.vJ x hx;rw[h2,this]at nt;cases nt
       ·have hp:=D.kA;rw[hc]at hp;have:=(Ax hp).2.2;simp only[kz,bg,fR]at this;have:=(sG (this.1 _ h2)).nb;rw[nt]at this;cases this
     simp[ju,hle]⟩
    rw[hr]at hm;cases hm
  intro i hi;rcases ca.1 hi with rfl|hi
  ·exact h1
  ·refine ih (c++[x]) (by rw[hc];simp) (λj hj=>?_) i hi;rcases eJ.1 hj with hj|hj
   ·exact hl j hj
   ·obtain rfl:j=x:=by simpa using hj
    exact h1
theorem fin (D:DI C call q l pm R ms w0 k dP ew cC rest fr ids bl ch Z listed a w) (hh:rest=[]\/∃i s,rest=i::s/\jO (bm l i)=false) (dF:∀i,i<l.length->listed[i]?=some true):
 k fr bl ch/\a=act ids fr/\St ms w0 (lits ids ids bl++ax ch R) w:=by
 rcases D.XC hh with rfl|⟨x,hx,hm,hX⟩
 ·have hZ:Z=[]:=by
   cases Z with
   |nil=>rfl
   |cons p Z=>have:=(D.mC p (by simp)).1;cases this
  refine⟨D.vc,?_,by have:=D.S;rw[hZ]at this;simpa using this⟩;refine NR (by rw[D.sz];simp[act,xR]) (by rw[D.df];rfl) ?_;intro t;rw[O8];exact D.slot t (λi hi _=>dF i (D.lZ i (by simp[hi]))) (λi hi=>nomatch hi)
 ·have h1:gb (bm l x)=false:=by rcases vH (bm l x)with h|h|h<;>simp_all
  have:=D.lA x hm h1;rw[dF x (D.lZ x (by simp[hm]))]at this;cases this
end DI
theorem EL (hc:CL C.P C.gl call) (AA:Fo q call) (CS:tW l pm=true) (fU:yj l l.length=true)
 (hk:∀fr' m bl' ch' w',(ew++m).length=bl'.length->St ms w0 (lits (ew++m) (ew++m) bl'++ax ch' R) w'->k fr' bl' ch'->Q .normal (act (ew++m) fr') w'):
 ∀(fuel:Nat) {cC rest:List Nat} {fr:List V} {ids:List Nat} {bl:List VB} {ch:List G} {Z:List (Nat×ai)} {listed:Array Bool} {a:Act} {w:ae},
  DI C call q l pm R ms w0 k dP ew cC rest fr ids bl ch Z listed a w->(rest=[]\/∃i s,rest=i::s/\jO (bm l i)=false)->listed.toList.count false=fuel->wpAny C.P .any l.toArray Q fuel listed a w:=by
 have fin:∀{cC rest:List Nat} {fr:List V} {ids:List Nat} {bl:List VB} {ch:List G} {Z:List (Nat×ai)} {listed:Array Bool} {a:Act} {w:ae},
  DI C call q l pm R ms w0 k dP ew cC rest fr ids bl ch Z listed a w->(rest=[]\/∃i s,rest=i::s/\jO (bm l i)=false)->(∀i,i<l.length->listed[i]?=some true)->Q .normal a w:=by
  intro cC rest fr ids bl ch Z listed a w D hh dF;obtain⟨h1,rfl,h3⟩:=D.fin hh dF;obtain⟨m,rfl⟩:=D.CQ;exact hk _ _ _ _ _ D.hl h3 h1
 intro fuel;induction fuel with
 |zero=>
  intro cC rest fr ids bl ch Z listed a w D hh Fp;have dF:∀i,i<l.length->listed[i]?=some true:=by
   intro i hi;rcases lr D.ls hi with h|h
   ·exact h
   ·exfalso;have:=count_set listed.toList i (by simpa using h);omega
  refine⟨?_,fin D hh dF⟩;refine List.eq_nil_iff_forall_not_mem.2 λi hi=>?_;obtain⟨o,ho,h2,_⟩:=(lu l listed i).1 hi;have il:i<l.length:=by rcases cN i l.length with h|h;exact h;simp[h]at ho
  simp[ju,dF i il]at h2
 |succ fuel ih=>
  intro cC rest fr ids bl ch Z listed a w D hh Fp;refine⟨λhr=>?_,?_⟩
  ·exfalso;have dF:∀i,i<l.length->listed[i]?=some true:=λi hi=>D.stuck CS fU hr (cC++rest) [] rfl (λ_ h=>nomatch h) i (D.lY i hi);have:=I1 listed.toList l.length 0 (by simpa using D.ls) (λj hj=>by simpa using dF j hj);omega
  ·intro i hi;obtain⟨o,ho,h2,h3⟩:=(lu l listed i).1 hi;have il:i<l.length:=by rcases cN i l.length with h|h;exact h;simp[h]at ho
   have lQ:=JB ho;have hu:listed[i]?=some false:=by
    rcases lr D.ls il with hb|hb
    ·simp[ju,hb]at h2
    ·exact hb
   have hp:∀h,fK pm h i=true->listed[h]?=some true:=by
    intro h hb;obtain⟨e,he,hbd,og⟩:=Xs CS ho hb;have dv:=DI.Ph fU ho he hbd;have hl:listed[e.on]?=some true:=by
     have:=h3 e he hbd;rcases lr D.ls (show e.on<l.length by omega)with hb|hb
     ·exact hb
     ·simp[ju,hb]at this
    rcases og with rfl|og
    ·exact hl
    ·exact D.back _ hl h og
   have AB:(listed.setIfInBounds i true).toList.count false=fuel:=by
    have:=count_set listed.toList i (by simpa using hu);simp only[IJ];omega
   have vO:=yk D.nr ho;have hAt:l.toArray[i]?=some o:=by simpa using ho
   unfold wpOp;rw[hAt];simp only;have hm:=D.lY i il;rcases eJ.1 hm with hm|hm
   ·obtain⟨jA,v,b,r⟩:=D.bA i hm hu;have lv:=D.Pb hm hu hp r;unfold looks at lv;have D':=D.Pe hm hu hp r;have rg:=r.g;have re:=r.e;rw[lQ]at lv D' rg re;rw[JD lv rg];cases b with
    |true=>
     rw[if_pos rfl]at re;rw[if_pos rfl];refine .inl ?_;unfold n7;rw[Fj vO.2.1 lv,O9 D.gl D.hl D.S re];simp only[zU];exact ih D' hh AB
    |false=>
     rw[if_neg (by simp)]at re;rw[if_neg (by simp)];subst re;rw[show(undef:ab)=den ids fJ by simp[fJ,den]];exact ih D' hh AB
   ·rcases D.XC hh with rfl|⟨x,hx,hxm,hX⟩
    ·cases hm
    have hxA:gb (bm l x)=false:=by rcases vH (bm l x)with h|h|h<;>simp_all
    have hxu:=D.lA x hxm hxA;have afw:=DI.first (Ax D.kA).2.2 hx;cases hA:gb (bm l i)with
    |true=>
     obtain⟨yf,d,t,z,hd,iH,hz⟩:=vO.2.2 (by rw[<-lQ];exact hA);have D':=D.afq hm hu hp (by rw[lQ];exact iH) hz (by rw[lQ];exact hd);rw[lQ]at D';rw[if_pos (by simp[gu,yf])];refine .inl ?_;have bG:(execOp a.eval o).run C.P w=.ok (.value (.pointer (some ⟨w.heap.size,0,none⟩))) (w.alloc (.cells (ah [] z).toArray t)):=by
      obtain⟨v0,z1,z2⟩:=As (P:=C.P) (w:=w) (ids:=[]) hz;have At:v0.cells=(ah [] z).toArray:=by apply fe;simpa using z2
      unfold execOp;simp only[iH,Instr.alloc,bx,z1,cz,newVar,newRow,At];rfl
     unfold n7;rw[bG];simp only[zU];exact ih D' hh AB
    |false=>
     have iu:i=x:=by
      rcases afw i hm hA with h|h
      ·exact h
      ·have:=hp x (h.xj hX hA);rw[hxu]at this;cases this
     subst iu;obtain⟨vN,r',fr',ids',bl',Z',D1⟩:=D.XB rest hx hp;have lv:=D1.afo rfl hu hp;unfold looks at lv;obtain⟨b,hg,hb⟩:=Xz D1.vc;rw[lQ]at lv hg hb;rw[JD lv hg];have Pj:∀{x:V} {more:List Nat} {bl2:List VB} {ch2:List G} {w':ae},iO C call l.toArray (tX l r') (put fr' o.dst x) bl2 ch2 k->(ids'++more).length=bl2.length->St ms w0 (lits (ids'++more) (ids'++more) bl2++ax ch2 (Z'.map (·.2)++R)) w'->
      (more=[]\/bj ids'.length fr'=true)->(vE q o=true->∃e,bl2=bl'++e)->wpAny C.P .any l.toArray Q fuel (listed.setIfInBounds i true) (a.put o.dst (den (ids'++more) x)) w':=by
      intro x more bl2 ch2 w' g1 g2 g3 g4 g5;have D2:=D1.afv hX hp (x:=x) (more:=more) (by rw[lQ];exact g1) g2 g3 g4 (by rw[lQ];exact g5);rw[lQ]at D2;obtain⟨avx,r3,fr3,D3,hh3⟩:=D2.Fm r';exact ih D3 hh3 AB
     cases b with
     |true=>
      rw[if_pos rfl]at hb;rw[if_pos rfl];refine .inl ?_;cases XE:vE q o with
      |true=>
       refine OY hc D1.gl D1.hl D1.S (afu AA XE hb) (Fj vO.2.1 lv) ?_;intro x more bl2 ch2 w' g1 g2 g3 g4;exact Pj g3.1 g1 g2 g4 (λ_=>g3.2)
      |false=>
       refine OY hc D1.gl D1.hl D1.S hb (Fj vO.2.1 lv) ?_;intro x more bl2 ch2 w' g1 g2 g3 g4;exact Pj g3 g1 g2 g4 (λe=>by rw[XE]at e;cases e)
     |false=>
      rw[if_neg (by simp)]at hb;rw[if_neg (by simp)];have:=Pj (x:=fJ) (more:=[]) (bl2:=bl') (ch2:=ch) (w':=w) hb (by simpa using D1.hl) (by simpa using D1.S) (.inl rfl) (λ_=>⟨[],by simp⟩);simpa[fJ,den]using this
theorem CT {i j:Nat} (m:Nat):(eU l i j)[m]?=(l[m]?).map λo=>if m=j then Jz i o else o:=by
 unfold eU;split
 ·rename_i o ho;have hj:j<l.length:=by rcases cN j l.length with h|h;exact h;simp[h]at ho
  by_cases e:m=j
  ·subst e;simp[hj,ho];have:l[m]?=some o:=ho;rw[jb hj]at this;rw[cA this]
  ·rw[IB (λh=>e h.symm)];cases l[m]?<;>simp[e]
 ·rename_i ho;by_cases e:m=j
  ·subst e;rw[ho];rfl
  ·cases l[m]?<;>simp[e]
theorem JF {i j:Nat}:(eU l i j).length=l.length:=by unfold eU;split<;>simp
theorem XF {i j m:Nat} (h:m≠j):bm (eU l i j) m=bm l m:=by
 unfold bm;rw[CT];cases l[m]?<;>simp[h]
theorem XG {i j m:Nat} (h:m∈qA .any (eU l i j).toArray listed):m∈qA .any l.toArray listed:=by
 obtain⟨o,ho,h2,h3⟩:=(lu _ _ _).1 h;rw[CT]at ho;obtain⟨o',jZ,e⟩:=gU.1 ho;refine(lu _ _ _).2 ⟨o',jZ,h2,λe' he hb=>h3 e' ?_ hb⟩;subst e;split
 ·simp[Jz,he]
 ·exact he
theorem CU {i j m:Nat} (hm:m≠j\/listed[i]?=some true) (h:m∈qA .any l.toArray listed):m∈qA .any (eU l i j).toArray listed:=by
 obtain⟨o,ho,h2,h3⟩:=(lu _ _ _).1 h;refine(lu _ _ _).2 ⟨_,by rw[CT,ho];rfl,h2,λe he hb=>?_⟩;split at he
 ·rename_i e1;simp only[Jz,Array.mem_push]at he;rcases he with he|rfl
  ·exact h3 e he hb
  ·rcases hm with hm|hm
   ·exact absurd e1 hm
   ·simp[ju,hm]
 ·exact h3 e he hb
theorem XH {i j:Nat} (ts:Array ab):yielded (eU l i j).toArray ts=yielded l.toArray ts:=by
 funext n;have:((eU l i j).toArray[n]?).bind (·.dst)=(l.toArray[n]?).bind (·.dst):=by
  simp only[jt,CT];cases l[n]?with
  |none=>rfl
  |some o=>simp only[lO,Option.bind_some];split<;>rfl
 unfold yielded;rw[this]
theorem Pk {P:aF} {i j m:Nat} {K:Act->ae->Prop} (h:wpOp P (eU l i j).toArray Q m K a w):wpOp P l.toArray Q m K a w:=by
 unfold wpOp at h⊢;simp only[jt,CT,XH]at h⊢;cases ho:l[m]?with
 |none=>rw[ho]at h;exact h
 |some o=>
  rw[ho]at h;simp only[lO]at h⊢;by_cases e:m=j
  ·rw[if_pos e]at h;cases o;exact h
  ·rw[if_neg e]at h;exact h
theorem XI {P:aF} {i j:Nat}:∀(fuel:Nat) {listed:Array Bool} {a:Act} {w:ae},listed[i]?=some true->wpAny P .any (eU l i j).toArray Q fuel listed a w->wpAny P .any l.toArray Q fuel listed a w:=by
 intro fuel;induction fuel with
 |zero=>intro listed a w hi h;exact⟨List.eq_nil_iff_forall_not_mem.2 λm hm=>(by have:=CU (j:=j) (.inr hi) hm;rw[h.1]at this;cases this),h.2⟩
 |succ fuel ih=>
  intro listed a w hi h;refine⟨λhr=>h.1 (List.eq_nil_iff_forall_not_mem.2 λm hm=>by have:=XG hm;rw[hr]at this;cases this),λm hm=>?_⟩;refine wpOp_mono (λa w h=>ih ?_ h) (Pk (h.2 m (CU (.inr hi) hm)));have hs:i<listed.size:=by rcases cN i listed.size with h|h;exact h;simp[h]at hi
  rw[qx];split
  ·simp[*]
  ·exact hi
theorem vP {l:List ao} (h:(l.all λo=>!(gb o))=true) (m:Nat):gb (bm l m)=false:=by
 unfold bm;split
 ·rename_i o ho;have:=fR.1 h o (oQ ho);simpa using this
 ·rfl
theorem afx {i j:Nat} {tY tZ:List Nat} (hc:CL C.P C.gl call) (AA:Fo q call) (xC:i≠j) (XJ:tW (eU l i j) tY=true) (XK:yj (eU l i j) (eU l i j).length=true) (XL:tW (eU l j i) tZ=true) (XM:yj (eU l j i) (eU l j i).length=true)
 (JG:((eU l i j).all λo=>!(gb o))=true) (Pm:((eU l j i).all λo=>!(gb o))=true)
 (hk:∀fr' m bl' ch' w',(ew++m).length=bl'.length->St ms w0 (lits (ew++m) (ew++m) bl'++ax ch' R) w'->k fr' bl' ch'->Q .normal (act (ew++m) fr') w'):
 ∀(fuel:Nat) {Pn s1 Po s2:List Nat} {Pp tV:List V} {listed:Array Bool} {a:Act} {w:ae},
  DI C call q (eU l i j) tY R ms w0 k dP ew Pn (i::s1) Pp ids bl ch Z listed a w->jO (bm (eU l i j) i)=false->DI C call q (eU l j i) tZ R ms w0 k dP ew Po (j::s2) tV ids bl ch Z listed a w->jO (bm (eU l j i) j)=false->
  listed.toList.count false=fuel->wpAny C.P .any l.toArray Q fuel listed a w:=by
 intro fuel;induction fuel with
 |zero=>
  intro Pn s1 Po s2 Pp tV listed a w D1 vQ D2 t_ Fp;exfalso;have hu:=D1.lA i (by simp) (vP JG i);have:=count_set listed.toList i (by simpa using hu);omega
 |succ fuel ih=>
  intro Pn s1 Po s2 Pp tV listed a w D1 vQ D2 t_ Fp;have W1:=EL hc AA XJ XK hk (fuel+1) D1 (.inr ⟨i,s1,rfl,vQ⟩) Fp;have W2:=EL hc AA XL XM hk (fuel+1) D2 (.inr ⟨j,s2,rfl,t_⟩) Fp;have hX1:kx (bm (eU l i j) i)=true:=by have:=vP JG i;rcases vH (bm (eU l i j) i)with h|h|h<;>simp_all
  have hX2:kx (bm (eU l j i) j)=true:=by have:=vP Pm j;rcases vH (bm (eU l j i) j)with h|h|h<;>simp_all
  have XN:=D1.lA i (by simp) (vP JG i);have XO:=D2.lA j (by simp) (vP Pm j);have yc:∀{m:Nat},listed[m]?=some false->(listed.setIfInBounds m true)[m]?=some true:=λ{m} h=>by
   have hs:m<listed.size:=by rcases cN m listed.size with h'|h';exact h';simp[h']at h
   simp[hs]
  refine⟨λhr=>W1.1 (List.eq_nil_iff_forall_not_mem.2 λm hm=>by have:=XG hm;rw[hr]at this;cases this),λm hm=>?_⟩;by_cases e1:m=i
  ·subst e1;exact wpOp_mono (λa w h=>XI fuel (yc XN) h) (Pk (W1.2 m (CU (.inl xC) hm)))
  by_cases e2:m=j
  ·subst e2;exact wpOp_mono (λa w h=>XI fuel (yc XO) h) (Pk (W2.2 m (CU (.inl (λh=>xC h.symm)) hm)))
  obtain⟨o,ho,h2,_⟩:=(lu l listed m).1 hm;have qP:m<l.length:=by rcases cN m l.length with h|h;exact h;simp[h]at ho
  have hu:listed[m]?=some false:=by
   rcases D1.bit (D1.lY m (by rw[JF];exact qP))with hb|hb
   ·simp[ju,hb]at h2
   ·exact hb
  have XP:∀{l':List ao} {yn:List Nat},tW l' yn=true->yj l' l'.length=true->m∈qA .any l'.toArray listed->(∀jj,listed[jj]?=some true->∀h,fK yn h jj=true->listed[h]?=some true)->listed.size=l'.length->∀h,fK yn h m=true->listed[h]?=some true:=by
   intro l' yn CS ET vB back hls h hb;obtain⟨o',jZ,_,h3⟩:=(lu l' listed m).1 vB;obtain⟨e,he,hbd,og⟩:=Xs CS jZ hb;have dv:=DI.Ph ET jZ he hbd;have hl:listed[e.on]?=some true:=by
    have:=h3 e he hbd;rcases lr hls dv with hb|hb
    ·exact hb
    ·simp[ju,hb]at this
   rcases og with rfl|og
   ·exact hl
   ·exact back _ hl h og
  have Fq:=XP XJ XK (CU (.inl e2) hm) D1.back D1.ls;have Az:=XP XL XM (CU (.inl e1) hm) D2.back D2.ls;have XQ:∀{l':List ao} {yn s vN:List Nat} {x:Nat},kz (vG q l' yn) (vN++(x::s))=true->kx (bm l' x)=true->gb (bm l' m)=false->listed[x]?=some false->(∀h,fK yn h m=true->listed[h]?=some true)->m∈vN++(x::s)->m≠x->m∈vN:=by
   intro l' yn s vN x hp hx ha hux CV nu cw;rcases eJ.1 nu with h|h
   ·exact h
   ·exfalso;rcases ca.1 h with h|h
    ·exact cw h
    ·have pC:=(Ax hp).2.2;simp only[kz,bg,fR]at pC;have:=CV x ((sG (pC.1 m h)).xj hx ha);rw[hux]at this;cases this
  have m1:=XQ D1.kA hX1 (vP JG m) XN Fq (D1.lY m (by rw[JF];exact qP)) e1;have m2:=XQ D2.kA hX2 (vP Pm m) XO Az (D2.lY m (by rw[JF];exact qP)) e2;obtain⟨f1,v1,b1,r1⟩:=D1.bA m m1 hu;obtain⟨f2,v2,b2,r2⟩:=D2.bA m m2 hu;have o1:bm (eU l i j) m=o:=by rw[XF e2];exact JB ho
  have o2:bm (eU l j i) m=o:=by rw[XF e1];exact JB ho
  have k1:=D1.Pb m1 hu Fq r1;have k2:=D2.Pb m2 hu Az r2;have CW:=D1.Pe m1 hu Fq r1;have AD:=D2.Pe m2 hu Az r2;have g1:=r1.g;have g2:=r2.g;have q1:=r1.e;have q2:=r2.e;unfold looks at k1 k2;rw[o1]at k1 CW g1 q1;rw[o2]at k2 AD g2 q2;have w1:=JD k1 g1;have w2:=JD k2 g2;rw[XH]at w1 w2;obtain rfl:b1=b2:=by rw[<-w1,<-w2]
  have vO:=yk D1.nr (show(eU l i j)[m]?=some o by rw[CT,ho];simp[e2]);have AB:(listed.setIfInBounds m true).toList.count false=fuel:=by
   have:=count_set listed.toList m (by simpa using hu);simp only[IJ];omega
  unfold wpOp;rw[show l.toArray[m]?=some o by simpa using ho];simp only;rw[w1];cases b1 with
  |true=>
   rw[if_pos rfl]at q1 q2;rw[if_pos rfl];refine .inl ?_;have CX:(execOp a.eval o).run C.P w=.ok (.value (den ids v1)) w:=by rw[Fj vO.2.1 k1,O9 D1.gl D1.hl D1.S q1]
   have XR:(execOp a.eval o).run C.P w=.ok (.value (den ids v2)) w:=by rw[Fj vO.2.1 k2,O9 D2.gl D2.hl D2.S q2]
   have hv:den ids v2=den ids v1:=by rw[CX]at XR;simpa using XR.symm
   rw[hv]at AD;unfold n7;rw[CX];simp only[zU];exact ih CW vQ AD t_ AB
  |false=>
   rw[if_neg (by simp)]at q1 q2;rw[if_neg (by simp)];subst q1 q2;rw[show(undef:ab)=den ids fJ by simp[fJ,den]];exact ih CW vQ AD t_ AB
end
abbrev ua (G:Type):=dR->List V->List VB->List G->Prop
abbrev CY (G:Type):=Code->List V->List VB->List G->ua G->Prop
def vR (P:aF) (fr:List V) (bl:List VB):List IE->Option (List V)
 |[]=>some []
 |.tmp t::l=>(match vR P fr bl l with|some r=>some (nth fr t::r)|none=>none)
 |.cell a t::l=>(match tT P bl t (nth fr a),vR P fr bl l with|some v,some r=>some (v::r)|_,_=>none)
def Fs:List V->V
 |[v]=>v
 |l=>.an l
def Ft (P:aF) (fn:Func) (K:VK G):ua G:=λe fr bl ch=>match e with
 |.normal=>(match vR P fr bl fn.results.toList with|some vs=>K (Fs vs) bl ch|none=>False)
 |.ret=>(match vR P fr bl fn.results.toList with|some vs=>K (Fs vs) bl ch|none=>False)
 |_=>False
def AE:Nat->List V
 |0=>[]
 |n+1=>fJ::AE n
def CZ (C:Ctx G) (rec:CY G):ku G:=λf args bl ch K=>match C.T f with
 |some c=>c args bl ch K
 |none=>match C.P.funcs[f]?with
  |some fn=>(match fn.body with
   |some c=>rec c (args++AE (fn.ntmps-args.length)) bl ch (Ft C.P fn K)
   |none=>False)
  |none=>False
def XS (C:Ctx G) (call:ku G) (l1 l2:List ao) (tY Fu tZ Fv:List Nat) (i j:Nat) (fr:List V) (bl:List VB) (ch:List G) (k:j5 G):Prop:=
 cond (Fh C l1 tY Fu i fr.length&&(Fh C l2 tZ Fv j fr.length&&(!(aq i j)&&bj bl.length fr))) (iO C call l1.toArray (tX l1 Fu) fr bl ch k/\iO C call l2.toArray (tX l2 Fv) fr bl ch k) False
def XT (C:Ctx G) (call:ku G) (l1 l2:List ao) (tY tZ:List Nat) (i j:Nat) (fr:List V) (bl:List VB) (ch:List G) (k:j5 G):Prop:=XS C call l1 l2 tY (CO l1 tY) tZ (CO l2 tZ) i j fr bl ch k
def XU (C:Ctx G) (call:ku G) (l:List ao) (pm ts:List Nat) (fr:List V) (bl:List VB) (ch:List G) (k:j5 G):Prop:=match Aw l ts with
 |some (i,r)=>(match Aw l r with
  |some (j,_)=>XT C call (eU l i j) (eU l j i) (Fg (eU l i j) [] pm) (Fg (eU l j i) [] pm) i j fr bl ch k
  |none=>False)
 |none=>False
def XV (C:Ctx G) (call:ku G) (l:List ao) (pm ts:List Nat) (fr:List V) (bl:List VB) (ch:List G) (k:j5 G):Prop:=
 cond (Ff C C.q l pm ts fr.length&&bj bl.length fr) (iO C call l.toArray (tX l ts) fr bl ch k) (XU C call l pm ts fr bl ch k)
def Pq (C:Ctx G) (call:ku G) (l:List ao) (pm:List Nat) (fr:List V) (bl:List VB) (ch:List G) (k:j5 G):Prop:=XV C call l pm (CO l pm) fr bl ch k
def XW (k:j5 G) (K:ua G):ua G:=λe fr bl ch=>match e with
 |.normal=>k fr bl ch
 |e=>K e fr bl ch
def Fw (id:Nat) (K:ua G):ua G:=λe fr bl ch=>match e with
 |.exit j=>cond (aq j id) (K .normal fr bl ch) (K (.exit j) fr bl ch)
 |e=>K e fr bl ch
def XY:Code->Option Code
 |.loop c=>some c
 |_=>none
def XZ (I:Lp G) (x:I.X) (K:ua G):ua G:=λe fr bl ch=>match e with
 |.normal=>I.en x fr bl ch
 |e=>K e fr bl ch
def JH (C:Ctx G) (rec:CY G):CY G:=λc fr bl ch K=>match c with
 |.skip=>K .normal fr bl ch
 |.seq a b=>rec a fr bl ch (XW (λfr bl ch=>rec b fr bl ch K) K)
 |.cond x t f=>(match x with
  |.tmp i=>(match nth fr i with
   |.bool b=>cond b (rec t (lW fr i (.bool true)) bl ch K) (rec f (lW fr i (.bool false)) bl ch K)
   |_=>False)
  |.const (.bool b)=>cond b (rec t fr bl ch K) (rec f fr bl ch K)
  |_=>False)
 |.block id b=>(match C.lp id fr with
  |some I=>(match XY b with
   |some c=>I.OU fr bl ch/\∀(x:I.X) (g:Nat->ab),rec c (fill (I.fr x) g 0) (I.bl x) (I.ch x) (XZ I x (Fw id K))
   |none=>rec b fr bl ch (Fw id K))
  |none=>rec b fr bl ch (Fw id K))
 |.loop b=>rec b fr bl ch (XW (λfr bl ch=>rec (.loop b) fr bl ch K) K)
 |.exit id=>K (.exit id) fr bl ch
 |.ret=>K .ret fr bl ch
 |.region _ ops false=>iO C (CZ C rec) ops ops.toList fr bl ch λfr bl ch=>K .normal fr bl ch
 |.region _ ops true=>Pq C (CZ C rec) ops.toList (Jw ops.toList []) fr bl ch λfr bl ch=>K .normal fr bl ch
 |_=>False
def C0 (C:Ctx G) (n:Nat):CY G:=Nat.rec (motive:=λ_=>CY G) (λ_ _ _ _ _=>False) (λ_ ih=>JH C ih) n
def bo (C:Ctx G) (n:Nat) (f:fc) (args:List V) (bl:List VB) (ch:List G) (K:VK G):Prop:=match C.P.funcs[f]?with
 |some fn=>(match fn.body with
  |some c=>C0 C n c (args++AE (fn.ntmps-args.length)) bl ch (Ft C.P fn K)
  |none=>False)
 |none=>False
section
variable{C:Ctx G} {call:ku G}
theorem afy {n:Nat} {ts:List Nat} (h1:ts.length=n) (h2:∀i∈ts,i<n) (h3:ts.Nodup):∀i,i<n->i∈ts:=by
 intro i hi;obtain⟨r,hr⟩:=EU ts (bd n) h3 (λx hx=>List.mem_range.2 (h2 x hx));have hlen:=hr.length_eq;simp[h1]at hlen;subst hlen;have hs:(bd n).Perm ts:=by simpa using hr
 exact hs.mem_iff.1 (List.mem_range.2 hi)
theorem DI.start {l:List ao} {pm ts:List Nat} {R:List ai} {ms:List Nat} {w0 w:ae} {k:j5 G} {ids:List Nat} {bl:List VB} {ch:List G} {fr:List V}
 (hg:Gl C.gl ids) (hl:ids.length=bl.length) (S:St ms w0 (lits ids ids bl++ax ch R) w) (hd:Ff C C.q l pm ts fr.length=true) (JI:bj bl.length fr=true) (h:iO C call l.toArray (tX l ts) fr bl ch k):
 (DI C call C.q l pm R ms w0 k fr ids [] ts fr ids bl ch [] (Ca l.length false) (act ids fr) {w with drawn:=w.drawn+1}/\tW l pm=true/\yj l l.length=true)/\C.P.follows .mixedOrders=true:=by
 unfold Ff Xq at hd;simp only[bg]at hd;obtain⟨⟨⟨⟨⟨⟨⟨⟨⟨d1,d2⟩,d3⟩,d4⟩,d5⟩,d6⟩,d7⟩,d8⟩,d10⟩,d9⟩:=hd;have hlen:=ck d4;have Pr:∀i∈ts,i<l.length:=λi hi=>by have:=fR.1 d5 i hi;rwa [ie]at this
 have ub:=O5 d6;have hff:∀j,j<l.length->(Ca l.length false)[j]?=some false:=λj hj=>by simp[zN];exact hj
 have X0:∀(j:Nat),(Ca l.length false)[j]?=some true->False:=λj hj=>by
  rw[zN]at hj;split at hj<;>simp at hj
 have S':St ms w0 (lits ids ids bl++ax ch R) {w with drawn:=w.drawn+1}:=S.quiet (Ch.refl [] w).drew;exact⟨⟨{kA:=d7,vI:=d8,lY:=λi hi=>afy hlen Pr ub i hi,lZ:=Pr,nd:=ub,nr:=d9,vJ:=λi hi=>(by have:=fR.1 d10 i hi;simpa using this),ls:=(by simp),q_:=λi hi=>(nomatch hi),lA:=λi hi _=>hff i (Pr i hi),back:=λj hj=>(X0 j hj).elim,vc:=h,sz:=(by simp[act,xR]),df:=rfl,slot:=λt _ _=>O8 t,old:=λi hi=>(nomatch hi),sH:=λt _=>rfl,bA:=λi hi=>(nomatch hi),rf:=λi hi hj=>(X0 i hj).elim,mC:=λp hp=>(nomatch hp),CP:=List.nodup_nil,S:=(by simpa using S'),hl:=hl,gl:=hg,Ay:=(by rw[hl];exact JI),CQ:=⟨[],by simp⟩},d1,d2⟩,d3⟩
theorem JJ {l:List ao} {pm:List Nat} {q:Nat->Bool} {i:Nat} {r:List Nat}:∀{ts:List Nat},kz (vG q l pm) ts=true->Aw l ts=some (i,r)->i∈ts/\kx (bm l i)=true/\∀x∈ts,kx (bm l x)=true->x=i\/vG q l pm i x=true
 |[],_,h=>by cases h
 |y::ts,hp,h=>by
  simp only[kz,bg,fR]at hp;unfold Aw at h;cases hX:kx (bm l y)with
  |true=>
   rw[hX]at h;obtain⟨rfl,rfl⟩:y=i/\ts=r:=by simpa using h
   exact⟨by simp,hX,λx hx _=>by rcases ca.1 hx with e|hx;exact .inl e;exact .inr (hp.1 x hx)⟩
  |false=>
   rw[hX]at h;obtain⟨h1,h2,h3⟩:=JJ hp.2 h;exact⟨xz _ h1,h2,λx hx AF=>by
    rcases ca.1 hx with rfl|hx
    ·rw[hX]at AF;cases AF
    ·exact h3 x hx AF⟩
theorem DI.head {q:Nat->Bool} {l:List ao} {pm ts cC rest:List Nat} {R:List ai} {ms:List Nat} {w0 w:ae} {k:j5 G} {dP fr:List V} {ew ids:List Nat} {bl:List VB} {ch:List G} {Z:List (Nat×ai)} {a:Act} {n i:Nat} {r:List Nat}
 (D:DI C call q l pm R ms w0 k dP ew cC rest fr ids bl ch Z (Ca n false) a w) (hA:(l.all λo=>!(gb o))=true) (hh:rest=[]\/∃i s,rest=i::s/\jO (bm l i)=false) (hp:kz (vG q l pm) ts=true) (dO:∀x,x<l.length->x∈ts) (hX:Aw l ts=some (i,r)) (hi:i<l.length):
 ∃s,rest=i::s/\jO (bm l i)=false:=by
 obtain⟨_,h2,h3⟩:=JJ hp hX;have hm:i∈rest:=by
  rcases eJ.1 (D.lY i hi)with h|h
  ·have:=D.q_ i h (by rcases vH (bm l i)with e|e|e<;>simp_all);rw[zN]at this;split at this<;>simp at this
  ·exact h
 rcases hh with rfl|⟨x,s,rfl,hf⟩
 ·cases hm
 ·have hx:kx (bm l x)=true:=by have:=vP hA x;rcases vH (bm l x)with e|e|e<;>simp_all
  rcases ca.1 hm with rfl|hm
  ·exact⟨s,rfl,hf⟩
  ·exfalso;have vu:x<l.length:=D.lZ x (by simp);have pC:=(Ax D.kA).2.2;simp only[kz,bg,fR]at pC;have hb:=(sG (pC.1 i hm)).xj hx (vP hA i);rcases h3 x (dO x vu) hx with rfl|h
   ·have ub:=D.nd;have:=(List.nodup_append.1 ub).2.1;exact(qz.1 this).1 hm
   ·have:=(sG h).nb;rw[hb]at this;cases this
theorem afz (hc:CL C.P C.gl call) (AA:Fo C.q call) {id:Nat} {ops:Array ao} {R:List ai} {ms:List Nat} {w0 w:ae} {Q:dR->Act->ae->Prop} {k:j5 G} {ids:List Nat} {bl:List VB} {ch:List G} {fr:List V}
 (hg:Gl C.gl ids) (hl:ids.length=bl.length) (S:St ms w0 (lits ids ids bl++ax ch R) w) (h:Pq C call ops.toList (Jw ops.toList []) fr bl ch k)
 (hk:∀fr' more bl' ch' w',(ids++more).length=bl'.length->St ms w0 (lits (ids++more) (ids++more) bl'++ax ch' R) w'->k fr' bl' ch'->Q .normal (act (ids++more) fr') w'):
 (Code.region id ops true).wp C.P Q (act ids fr) w:=by
 unfold Pq XV at h;generalize tU:ops.toList=l at h;generalize Jw l []=pm at h;generalize CO l pm=ts at h;have afA:ops=l.toArray:=by rw[<-tU]
 subst afA;cases hd:Ff C C.q l pm ts fr.length&&bj bl.length fr with
 |true=>
  rw[hd]at h;simp only[bg]at hd;obtain⟨⟨D,d1,d2⟩,d3⟩:=DI.start hg hl S hd.1 hd.2 h;refine wp_region_any d3 ?_;obtain⟨cC,r,fr',D',hh⟩:=D.Fm ts;exact EL hc AA d1 d2 hk _ D' hh (by simp[VW])
 |false=>
  rw[hd]at h;simp only[cond_false]at h;unfold XU at h;split at h
  ·rename_i i r1 vQ;split at h
   ·rename_i j r2 t_;unfold XT XS at h;generalize Fg (eU l i j) [] pm=tY at h;generalize Fg (eU l j i) [] pm=tZ at h;generalize CO (eU l i j) tY=Fu at h;generalize CO (eU l j i) tZ=Fv at h;cases hq:Fh C (eU l i j) tY Fu i fr.length&&(Fh C (eU l j i) tZ Fv j fr.length&&(!(aq i j)&&bj bl.length fr))with
    |false=>rw[hq]at h;exact h.elim
    |true=>
     rw[hq]at h;simp only[bg,lN]at hq;obtain⟨q1,q2,q3,q4⟩:=hq;have xC:i≠j:=λe=>by rw[e,rV]at q3;cases q3
     unfold Fh at q1 q2;simp only[bg]at q1 q2;obtain⟨⟨a1,a2⟩,a3⟩:=q1;obtain⟨⟨c1,c2⟩,c3⟩:=q2;obtain⟨⟨D1,d1,d2⟩,d3⟩:=DI.start hg hl S a1 q4 h.1;obtain⟨⟨D2,e1,e2⟩,_⟩:=DI.start hg hl S c1 q4 h.2;rw[JF]at D1 D2;split at a3
     ·rename_i x1 y1 g1;obtain rfl:=ck a3;split at c3
      ·rename_i x2 y2 g2;obtain rfl:=ck c3;obtain⟨ab1,rs1,f1,CW,h1⟩:=D1.Fm Fu;obtain⟨ab2,C1,f2,AD,h2⟩:=D2.Fm Fv;have p1:=JJ D1.kA g1;have p2:=JJ D2.kA g2;obtain⟨s1,rfl,hn1⟩:=CW.head a2 h1 D1.kA (λx hx=>by simpa using D1.lY x hx) g1 (D1.lZ _ (by simpa using p1.1));obtain⟨s2,rfl,hn2⟩:=AD.head c2 h2 D2.kA (λx hx=>by simpa using D2.lY x hx) g2 (D2.lZ _ (by simpa using p2.1));refine wp_region_any d3 ?_;exact afx hc AA xC d1 d2 e1 e2 a2 c2 hk _ CW hn1 AD hn2 (by simp[VW])
      ·cases c3
     ·cases a3
   ·exact h.elim
  ·exact h.elim
def pD (C:Ctx G):Prop:=∀f,C.q f=true->∃c,C.T f=some c/\∀args bl ch K,c args bl ch K->c args bl ch λv bl' ch'=>K v bl' ch'/\∃e,bl'=bl++e
theorem afB (hQ:pD C) {rec:CY G}:Fo C.q (CZ C rec):=by
 intro f hf args bl ch K h;obtain⟨c,hc,hq⟩:=hQ f hf;unfold CZ at h⊢;rw[hc]at h⊢;exact hq args bl ch K h
theorem afC {ids:List Nat} (n:Nat):aD ids (AE n)=lP n undef:=by
 induction n with
 |zero=>rfl
 |succ n ih=>simp[AE,aD,ih,List.replicate_succ,fJ,den]
theorem afD {ids:List Nat} (a b:List V):aD ids (a++b)=aD ids a++aD ids b:=by simp[xR]
theorem Ps {P:aF} {ids:List Nat} {fr:List V} {bl:List VB} {R:List ai} {ms:List Nat} {w0 w:ae} (hl:ids.length=bl.length) (S:St ms w0 (lits ids ids bl++R) w):
 ∀(rs:List IE) {vs:List V},vR P fr bl rs=some vs->IX P w (aD ids fr).toArray rs (aD ids vs)
 |[],vs,h=>by simp only[vR,aV]at h;subst h;exact trivial
 |.tmp t::l,vs,h=>by
  simp only[vR]at h;split at h
  ·rename_i r hr;simp only[aV]at h;subst h;refine⟨?_,Ps hl S l hr⟩;simp only[xG,<-Aq];rfl
  ·cases h
 |.cell a t::l,vs,h=>by
  simp only[vR]at h;split at h
  ·rename_i v r hv hr;simp only[aV]at h;subst h;refine⟨?_,Ps hl S l hr⟩;have h1:=Jq (P:=P) hl S hv;have h2:∃x,den ids (nth fr a)=.pointer (some x):=by
    unfold tT at hv;split at hv
    ·rename_i i off hx;exact⟨⟨ids.getD i 0,off,none⟩,by rw[hx];simp only[den]⟩
    ·cases hv
   obtain⟨x,hx⟩:=h2;rw[hx]at h1;simp only[qu,i_,bx,dg,cz]at h1;simp only[xG,<-Aq,hx,asAddr,bx,dg,cz,h1]
  ·cases h
theorem afE {ids:List Nat} (vs:List V):IY (aD ids vs)=den ids (Fs vs):=by
 match vs with
 |[]=>rfl
 |[v]=>rfl
 |_::_::_=>simp[aD,IY,Fs,den]
theorem afF {P:aF} {fn:Func} {K:VK G} {e:dR} {fr:List V} {bl:List VB} {ch:List G} {ids:List Nat} {R:List ai} {ms:List Nat} {w0 w:ae} (hl:ids.length=bl.length) (S:St ms w0 (lits ids ids bl++R) w)
 (h:Ft P fn K e fr bl ch) {R':ab->ae->Prop} (hk:∀x,K x bl ch->R' (den ids x) w):bodyPost P fn (λe w'=>∃v,e=.returned v/\R' v w') e (act ids fr) w:=by
 have main:(match vR P fr bl fn.results.toList with|some vs=>K (Fs vs) bl ch|none=>False)->∃v,(results fn (act ids fr).tmps).run P w=.ok v w/\R' v w:=by
  intro h;split at h
  ·rename_i vs hvs;exact⟨_,fF (fn:=fn) fn.results.toList _ _ (Ps hl S _ hvs) (by simp) (afE vs),hk _ h⟩
  ·exact h.elim
 unfold Ft at h;split at h
 ·obtain⟨v,h1,h2⟩:=main h;exact⟨rfl,v,h1,v,rfl,h2⟩
 ·obtain⟨v,h1,h2⟩:=main h;exact⟨rfl,v,h1,v,rfl,h2⟩
 ·exact h.elim
theorem JK {ids more:List Nat}:∀(l:List (Option V)) (fr:List V) (i:Nat) (g:Nat->ab),CK ids.length l fr->(∀t,g (i+t)=den (ids++more) (nth fr t))->aD (ids++more) fr=aD ids (fill l g i)
 |[],[],_,_,_,_=>by simp[fill,aD]
 |some v::l,u::fr,i,g,h,hg=>by
  obtain⟨rfl,hw,h⟩:=h;simp only[fill,aD];rw[fI u hw,JK l fr (i+1) g h (λt=>by have:=hg (t+1);simp only[jM,jN,jy]at this;rw[<-this];congr 1;omega)]
 |none::l,u::fr,i,g,h,hg=>by
  simp only[fill,aD,den];rw[JK l fr (i+1) g h (λt=>by have:=hg (t+1);simp only[jM,jN,jy]at this;rw[<-this];congr 1;omega)];have:=hg 0;simp only[jM,jN,jy,oR]at this;rw[this]
 |[],_::_,_,_,h,_=>h.elim
 |some _::_,[],_,_,h,_=>h.elim
 |none::_,[],_,_,h,_=>h.elim
theorem afG (ids more:List Nat) (bl j:List VB) (hl:bl.length=ids.length) (hw:bM ids.length bl=true):lits (ids++more) (ids++more) (bl++j)=lits ids ids bl++lits (ids++more) more j:=by
 rw[eZ _ _ _ _ hl.symm,e_ _ _ hw]
theorem afH {ms:List Nat} {w0 w:ae} {A B R:List ai} (S:St ms w0 ((A++B)++R) w):St ms w0 (A++R) w:=S.sub (ad3 (List.sublist_append_left A B) R)
def Pt (C:Ctx G) (n:Nat):Prop:=∀(c:Code) {fr:List V} {bl:List VB} {ch:List G} {K:ua G} {ids:List Nat} {R:List ai} {ms:List Nat} {w0 w:ae} {Q:dR->Act->ae->Prop},
 Gl C.gl ids->ids.length=bl.length->St ms w0 (lits ids ids bl++ax ch R) w->C0 C n c fr bl ch K->
 (∀e fr' more bl' ch' w',(ids++more).length=bl'.length->St ms w0 (lits (ids++more) (ids++more) bl'++ax ch' R) w'->K e fr' bl' ch'->Q e (act (ids++more) fr') w')->
 c.wp C.P Q (act ids fr) w/\(∀b,c=.loop b->Cb C.P b Q n (act ids fr) w)
theorem X1 {n:Nat} (ih:Pt C n) {f:Nat} {fn:Func} {c:Code} (hf:C.P.funcs[f]?=some fn) (hb:fn.body=some c) {args:List V} {ids:List Nat} {bl:List VB} {ch:List G} {R:List ai} {ms:List Nat} {w0 w:ae} {K:VK G}
 (hg:Gl C.gl ids) (hl:ids.length=bl.length) (S:St ms w0 (lits ids ids bl++ax ch R) w) (h:C0 C n c (args++AE (fn.ntmps-args.length)) bl ch (Ft C.P fn K)):
 aS C.P f (aD ids args).toArray w λv w'=>∃x more bl' ch',v=den (ids++more) x/\(ids++more).length=bl'.length/\St ms w0 (lits (ids++more) (ids++more) bl'++ax ch' R) w'/\K x bl' ch':=by
 refine calls_of_wp hf hb ?_;have e:({tmps:=(aD ids args).toArray++Ca (fn.ntmps-(aD ids args).toArray.size) undef,defers:=[]}:Act)=act ids (args++AE (fn.ntmps-args.length)):=by
  simp only[act,afD,afC];congr 1;apply fe;simp[xR]
 rw[e];refine(ih c hg hl S h ?_).1;intro e fr' more bl' ch' w' g1 g2 g3;refine afF g1 g2 g3 ?_;intro x hx;exact⟨x,more,bl',ch',rfl,g1,g2,hx⟩
theorem X2 {n:Nat} (hT:∀f c,C.T f=some c->Sound C.P C.gl f c) (ih:Pt C n):CL C.P C.gl (CZ C (C0 C n)):=by
 intro f hf args ids bl ch R ms w0 w K hg hl S h;unfold CZ at h;split at h
 ·rename_i c hc;exact hT f c hc args ids bl ch R ms w0 w K hg hl S h
 ·split at h
  ·rename_i fn Fe;split at h
   ·rename_i c hc;exact X1 ih Fe hc hg hl S h
   ·exact h.elim
  ·exact h.elim
theorem afI {ids:List Nat} {fr:List V} (i:Nat):(act ids fr).eval (.tmp i)=den ids (nth fr i):=by simp only[Act.eval,act,Aq]
theorem sound (hT:∀f c,C.T f=some c->Sound C.P C.gl f c) (hQ:pD C):∀n,Pt C n:=by
 intro n;induction n with
 |zero=>intro c fr bl ch K ids R ms w0 w Q hg hl S h;exact h.elim
 |succ n ih=>
  intro c fr bl ch K ids R ms w0 w Q hg hl S h hk;replace h:JH C (C0 C n) c fr bl ch K:=h;generalize Pu:C0 C n=rec at h;have sJ:∀(c:Code) {fr:List V} {bl:List VB} {ch:List G} {K:ua G} {ids:List Nat} {R:List ai} {ms:List Nat} {w0 w:ae} {Q:dR->Act->ae->Prop},Gl C.gl ids->ids.length=bl.length->St ms w0 (lits ids ids bl++ax ch R) w->rec c fr bl ch K->(∀e fr' more bl' ch' w',(ids++more).length=bl'.length->St ms w0 (lits (ids++more) (ids++more) bl'++ax ch' R) w'->K e fr' bl' ch'->Q e (act (ids++more) fr') w')->c.wp C.P Q (act ids fr) w/\(∀b,c=.loop b->Cb C.P b Q n (act ids fr) w):=by rw[<-Pu];exact ih
  have qS:∀e,K e fr bl ch->Q e (act ids fr) w:=λe he=>by
   have:=hk e fr [] bl ch w (by simpa using hl) (by simpa using S) he;simpa using this
  have trans:∀{more:List Nat} {e:dR} {fr':List V} {bl':List VB} {ch':List G} {w':ae},(∀e tV cB bl2 ch2 w2,((ids++more)++cB).length=bl2.length->St ms w0 (lits ((ids++more)++cB) ((ids++more)++cB) bl2++ax ch2 R) w2->K e tV bl2 ch2->Q e (act ((ids++more)++cB) tV) w2):=by
   intro more e fr' bl' ch' w' e tV cB bl2 ch2 w2 g1 g2 g3;rw[bR]at g1 g2⊢;exact hk e tV (more++cB) bl2 ch2 w2 g1 g2 g3
  cases c with
  |skip=>exact⟨jI (qS _ h),λb e=>nomatch e⟩
  |seq a b=>
   refine⟨?_,λb e=>nomatch e⟩;refine wp_seq ((sJ a hg hl S h ?_).1);intro e fr' more bl' ch' w' g1 g2 g3;cases e with
   |normal=>exact(sJ b (hg.app more) g1 g2 g3 (trans (e:=.normal) (fr':=fr') (bl':=bl') (ch':=ch') (w':=w'))).1
   |_=>exact hk _ fr' more bl' ch' w' g1 g2 g3
  |cond x t f=>
   refine⟨?_,λb e=>nomatch e⟩;unfold JH at h;dsimp only at h;split at h
   ·rename_i i;split at h
    ·rename_i b hb;have hs:=Ju fr i;rw[hb]at hs;have X3:(act ids fr).eval (.tmp i)=.bool b:=by rw[afI,hb];simp only[den]
     cases b with
     |true=>rw[hs]at h;exact wp_cond_true X3 (sJ t hg hl S h hk).1
     |false=>rw[hs]at h;exact wp_cond_false X3 (sJ f hg hl S h hk).1
    ·exact h.elim
   ·rename_i b;cases b with
    |true=>exact wp_cond_true rfl (sJ t hg hl S h hk).1
    |false=>exact wp_cond_false rfl (sJ f hg hl S h hk).1
   ·exact h.elim
  |block id b=>
   refine⟨?_,λb e=>nomatch e⟩;have fin:∀e fr' more bl' ch' w',(ids++more).length=bl'.length->St ms w0 (lits (ids++more) (ids++more) bl'++ax ch' R) w'->Fw id K e fr' bl' ch'->ID id Q e (act (ids++more) fr') w':=by
    intro e fr' more bl' ch' w' g1 g2 g3;cases e with
    |exit j=>
     simp only[Fw]at g3;unfold ID;by_cases hj:j=id
     ·subst hj;rw[rV]at g3;simp only[if_true];exact hk _ _ _ _ _ _ g1 g2 g3
     ·have:aq j id=false:=by
       cases hb:aq j id with
       |true=>exact absurd (ck hb) hj
       |false=>rfl
      rw[this]at g3;simp only[if_neg hj];exact hk _ _ _ _ _ _ g1 g2 g3
    |_=>exact hk _ _ _ _ _ _ g1 g2 g3
   unfold JH at h;dsimp only at h;split at h
   ·rename_i I hI;split at h
    ·rename_i c hc;obtain rfl:b=.loop c:=by
      unfold XY at hc;split at hc
      ·cases hc;rfl
      ·cases hc
     obtain⟨h0,hx⟩:=h;have key:∀N (x:I.X) (g:Nat->ab) w',I.m x<N->(I.bl x).length=ids.length->St ms w0 (lits ids ids (I.bl x)++ax (I.ch x) R) w'->Cb C.P c (ID id Q) N (act ids (fill (I.fr x) g 0)) w':=by
      intro N;induction N with
      |zero=>intro x g w' hN;omega
      |succ N ihN=>
       intro x g w' hN qM Sx;refine(sJ c hg qM.symm Sx (hx x g) ?_).1;intro e fr' more bl' ch' w2 g1 g2 g3;cases e with
       |normal=>
        obtain⟨y,hm,hf,Pv,JI,⟨j,rfl⟩,rfl⟩:=I.ok x fr' bl' ch' g3;have e1:act (ids++more) fr'=act ids (fill (I.fr y) (λt=>den (ids++more) (nth fr' t)) 0):=by
         simp only[act];rw[JK (I.fr y) fr' 0 (λt=>den (ids++more) (nth fr' t)) (by rw[<-qM];exact hf) (λt=>by simp)]
        show Cb C.P c _ N (act (ids++more) fr') w2;rw[e1];refine ihN y _ w2 (by omega) (Pv.trans qM) ?_;rw[qM]at JI Pv;rw[afG ids more (I.bl y) j Pv JI]at g2;exact afH g2
       |_=>exact fin _ fr' more bl' ch' w2 g1 g2 (by first|exact g3|(unfold XZ at g3;exact g3))
     obtain⟨x0,hf,rfl,rfl⟩:=I.Xm fr bl ch h0;refine jc (wp_loop_rounds (I.m x0+1) ?_);have e1:act ids fr=act ids (fill (I.fr x0) (λt=>den ids (nth fr t)) 0):=by
      have:=JK (ids:=ids) (more:=[]) (I.fr x0) fr 0 (λt=>den ids (nth fr t)) (by rw[hl];exact hf) (λt=>by simp);simp only[act];simp only[cQ]at this;rw[this]
     rw[e1];exact key _ x0 _ w (Nat.lt_succ_self _) hl.symm S
    ·exact jc ((sJ b hg hl S h fin).1)
   ·exact jc ((sJ b hg hl S h fin).1)
  |loop b=>
   have key:Cb C.P b Q (n+1) (act ids fr) w:=by
    refine(sJ b hg hl S h ?_).1;intro e fr' more bl' ch' w' g1 g2 g3;cases e with
    |normal=>exact(sJ (.loop b) (hg.app more) g1 g2 g3 (trans (e:=.normal) (fr':=fr') (bl':=bl') (ch':=ch') (w':=w'))).2 b rfl
    |_=>exact hk _ fr' more bl' ch' w' g1 g2 g3
   exact⟨wp_loop_rounds (n+1) key,λb' e=>by cases e;exact key⟩
  |exit id=>exact⟨wp_exit (qS _ h),λb e=>nomatch e⟩
  |ret=>exact⟨gv (qS _ h),λb e=>nomatch e⟩
  |region id ops d=>
   refine⟨?_,λb e=>nomatch e⟩;cases d with
   |true=>exact afz (Pu▸X2 hT ih) (afB hQ) hg hl S h (λfr' more bl' ch' w' g1 g2 g3=>hk _ _ _ _ _ _ g1 g2 g3)
   |false=>
    refine wp_region_list ?_;exact(OZ (X2 hT ih) ops.toList hg hl S (by rw[Pu];exact h) (λfr' more bl' ch' w' g1 g2 g3=>hk _ _ _ _ _ _ g1 g2 g3)).out
  |_=>exact h.elim
theorem eG (hT:∀f c,C.T f=some c->Sound C.P C.gl f c) (hQ:pD C) (n:Nat) {f:Nat} {args:List V} {ids:List Nat} {bl:List VB} {ch:List G} {R:List ai} {ms:List Nat} {w0 w:ae} {K:VK G}
 (hg:Gl C.gl ids) (hl:ids.length=bl.length) (S:St ms w0 (lits ids ids bl++ax ch R) w) (h:bo C n f args bl ch K):
 aS C.P f (aD ids args).toArray w λv w'=>∃x more bl' ch',v=den (ids++more) x/\(ids++more).length=bl'.length/\St ms w0 (lits (ids++more) (ids++more) bl'++ax ch' R) w'/\K x bl' ch':=by
 unfold bo at h;split at h
 ·rename_i fn hf;split at h
  ·rename_i c hb;exact X1 (sound hT hQ n) hf hb hg hl S h
  ·exact h.elim
 ·exact h.elim
end
structure bK (G:Type) where
 f:fc
 q:Bool
 c:c_ G
def rj:List (bK G)->fc->Option (c_ G)
 |[],_=>none
 |e::l,f=>bif aq e.f f then some e.c else rj l f
def uc:List (bK G)->fc->Bool
 |[],_=>false
 |e::l,f=>bif aq e.f f then e.q else uc l f
def bP (P:aF) (gl:Nat->Option Nat) (L:List (bK G)):Ctx G:=⟨P,rj L,gl,uc L,Jt,OT,λ_ _=>none⟩
def hJ (c:c_ G):Prop:=∀args bl ch K,c args bl ch K->c args bl ch λv bl' ch'=>K v bl' ch'/\∃e,bl'=bl++e
def ud (P:aF) (gl:Nat->Option Nat) (e:bK G):Prop:=Sound P gl e.f e.c/\(e.q=true->hJ e.c)
def aC (P:aF) (gl:Nat->Option Nat) (L:List (bK G)):Prop:=∀e∈L,ud P gl e
theorem aC.nil {P:aF} {gl:Nat->Option Nat}:aC (G:=G) P gl []:=λe h=>nomatch h
theorem aC.cons {P:aF} {gl:Nat->Option Nat} {e:bK G} {L:List (bK G)} (h:ud P gl e) (k:aC P gl L):aC P gl (e::L):=λx hx=>by
 rcases ca.1 hx with rfl|hx
 ·exact h
 ·exact k x hx
theorem aC.app {P:aF} {gl:Nat->Option Nat} {L M:List (bK G)} (h:aC P gl L) (k:aC P gl M):aC P gl (L++M):=λx hx=>by
 rcases eJ.1 hx with hx|hx
 ·exact h x hx
 ·exact k x hx
theorem aC.T {P:aF} {gl:Nat->Option Nat} {L:List (bK G)} (h:aC P gl L):∀f c,(bP P gl L).T f=some c->Sound (bP P gl L).P (bP P gl L).gl f c:=by
 intro f c hc;replace hc:rj L f=some c:=hc;show Sound P gl f c;induction L with
 |nil=>cases hc
 |cons e L ih=>
  unfold rj at hc;cases hb:aq e.f f with
  |true=>
   rw[hb]at hc;obtain rfl:e.c=c:=by simpa using hc
   obtain rfl:=ck hb;exact(h e (by simp)).1
  |false=>
   rw[hb]at hc;exact ih (λx hx=>h x (by simp[hx])) hc
theorem aC.Q {P:aF} {gl:Nat->Option Nat} {L:List (bK G)} (h:aC P gl L):pD (bP P gl L):=by
 intro f hf;replace hf:uc L f=true:=hf;show∃c,rj L f=some c/\_;induction L with
 |nil=>cases hf
 |cons e L ih=>
  unfold uc at hf;unfold rj;cases hb:aq e.f f with
  |true=>
   rw[hb]at hf;exact⟨e.c,rfl,(h e (by simp)).2 (by simpa using hf)⟩
  |false=>
   rw[hb]at hf;exact ih (λx hx=>h x (by simp[hx])) hf
def qC (F:List V->List VB->Option (Prop×V)):c_ G:=λargs bl ch K=>match F args bl with
 |some (p,v)=>p/\K v bl ch
 |none=>False
theorem JL (F:List V->List VB->Option (Prop×V)):hJ (G:=G) (qC F):=by
 intro args bl ch K h;unfold qC at h⊢;split at h
 ·exact⟨h.1,h.2,[],by simp⟩
 ·exact h
def Mem (ids:List Nat) (bl:List VB) (w:ae):Prop:=ids.length=bl.length/\∀(i:Nat) (b:VB),bl[i]?=some b->w.heap[ids.getD i 0]?=some (.cells (ah ids b.c).toArray b.ty.t b.ty.fz)
structure QF where
 f:fc
 F:List V->List VB->Option (Prop×V)
def QF.Ok (P:aF) (gl:Nat->Option Nat) (q:QF):Prop:=∀args bl p v,q.F args bl=some (p,v)->p->∀ids w,Gl gl ids->Mem ids bl w->aS P q.f (aD ids args).toArray w λx w'=>x=den ids v/\Ch [] w w'
theorem JM {P:aF} {gl:Nat->Option Nat} {q:QF} (h:q.Ok P gl):Sound P gl q.f (qC (G:=G) q.F):=by
 intro args ids bl ch R ms w0 w K hg hl S hc;unfold qC at hc;split at hc
 ·rename_i p v hF;refine(h args bl p v hF hc.1 ids w hg ⟨hl,λi b hb=>(fE hl S hb).2⟩).mono ?_;rintro x w' ⟨rfl,cn⟩;exact⟨v,[],bl,ch,by simp,by simpa using hl,by simpa using S.quiet cn,hc.2⟩
 ·exact hc.elim
def qE (G:Type) [Bl G] (q:QF):bK G:=⟨q.f,true,qC q.F⟩
def qL (G:Type) [Bl G]:List QF->List (bK G)
 |[]=>[]
 |q::l=>qE G q::qL G l
def bH (P:aF) (gl:Nat->Option Nat) (L:List QF):Prop:=∀q∈L,QF.Ok P gl q
theorem kU {P:aF} {gl:Nat->Option Nat}:∀{L:List QF},bH P gl L->aC (G:=G) P gl (qL G L)
 |[],_=>aC.nil
 |q::l,h=>aC.cons ⟨JM (h q (by simp)),λ_=>JL q.F⟩ (kU λx hx=>h x (by simp[hx]))
theorem bH.nil {P:aF} {gl:Nat->Option Nat}:bH P gl []:=λe h=>nomatch h
theorem bH.cons {P:aF} {gl:Nat->Option Nat} {e:QF} {L:List QF} (h:e.Ok P gl) (k:bH P gl L):bH P gl (e::L):=λx hx=>by
 rcases ca.1 hx with rfl|hx
 ·exact h
 ·exact k x hx
theorem bH.app {P:aF} {gl:Nat->Option Nat} {L M:List QF} (h:bH P gl L) (k:bH P gl M):bH P gl (L++M):=λx hx=>by
 rcases eJ.1 hx with hx|hx
 ·exact h x hx
 ·exact k x hx
instance:Bl Empty:=⟨λ_=>[]⟩
def eb (P:aF) (L:List QF) (n:Nat) (f:fc) (args:List V) (X:V->Prop):Prop:=bo (bP P (λ_=>none) (qL Empty L)) n f args [] [] λv _ _=>X v
theorem Gl.none {ids:List Nat}:Gl (λ_=>none) ids:=λg i h=>nomatch h
theorem C2 {P:aF} {L:List QF} (hL:bH P (λ_=>none) L) (n:Nat) {f:Nat} {args:List V} {v:V} (h:eb P L n f args (·=v)) (ha:bj 0 args=true) (hv:cK 0 v=true) (ids:List Nat) (w:ae):
 aS P f (aD ids args).toArray w λx w'=>x=den ids v/\Ch [] w w':=by
 have e1:aD ids args=aD [] args:=by have:=nk (ids:=[]) (more:=ids) args ha;simpa using this
 have e2:∀is,den is v=den [] v:=λis=>by have:=fI (ids:=[]) (more:=is) v hv;simpa using this
 rw[e1];refine(eG (kU hL).T (kU hL).Q n (C:=bP P (λ_=>none) (qL Empty L)) (ids:=[]) (bl:=[]) (ch:=[]) (R:=[]) (ms:=[]) (w0:=w) (w:=w) Gl.none rfl (St.nil [] w) h).mono ?_;rintro x w' ⟨y,more,bl',ch',rfl,h1,S,rfl⟩;exact⟨by rw[e2 ids,e2],S.ch⟩
theorem aI {b:Bool} {X Y:Prop} (h:b=true->X) (k:b=false->Y):cond b X Y:=by cases b;exact k rfl;exact h rfl
end Vx
namespace Vx
open Go Go.RowKit Go.BigFrame Sx
structure bU where
 T:aG
 z:Nat
 os:List ab
 x:Option aO
 n:Nat
 c:Nat
 bl:List ai
 h:eW z T os x n c bl
instance:Bl bU:=⟨λg=>g.bl⟩
def bU.v (g:bU):V:=.raw (.slice g.x g.n g.c)
def bU.nil (T z:Nat):bU:=⟨T,z,[],none,0,0,[],xN z T⟩
def sL (P:aF) (T:aG):Option (Nat×Nat):=match P.info? T with
 |some i=>(match i.zero with
  |some v=>bif aq v.cells.size i.size then some (i.size,i.bytes)else none
  |none=>none)
 |none=>none
def JN (T z:Nat) (s:V) (m:Nat) (news:List ab) (bl:List VB) (K:VK bU):List bU->List bU->Prop
 |_,[]=>False
 |pre,g::l=>bif aq g.T T then cond (aq g.z z) ((s=g.v/\g.n+m<=1000000)/\∀(x:Option aO) (c:Nat) (bk:List ai) (h:eW g.z g.T (g.os++news) x (g.n+m) c bk),K (.raw (.slice x (g.n+m) c)) bl (pre++⟨g.T,g.z,g.os++news,x,g.n+m,c,bk,h⟩::l)) False
  else JN T z s m news bl K (pre++[g]) l
def JO (P:aF):(ba->V)->Op->List VB->List bU->VK bU->Prop:=λe op bl ch K=>match op with
 |.call c=>(match c.callee,c.args.toList,c.argTypes.toList with
  |.builtin .append,[s,xs],[t,tx]=>(match P.underlying t,P.underlying tx with
   |some (.slice T),some (.slice _)=>(match sL P T,e xs with
    |some (z,bI),.sl i 0 m _=>(match bl[i]?with
     |some b=>cond (aq (bY b.c) (m*z)&&(bj 0 b.c&&(lX b.c&&bu bI 10000000))) (JN T z (e s) m (ah [] b.c) bl K [] ch) False
     |none=>False)
    |_,_=>False)
   |_,_=>False)
  |_,_,_=>False)
 |_=>False
theorem mD {G:Type} [Bl G] (R:List ai):∀(a b:List G),ax (a++b) R=ax a (ax b R)
 |[],b=>rfl
 |g::a,b=>by simp only[ft,ax,mD R a b]
theorem iI {G:Type} [Bl G] (R:List ai):∀(a:List G),ax a R=ax a []++R
 |[]=>rfl
 |g::a=>by simp only[ax,iI R a,bR]
theorem X5 {T z:Nat} {s:V} {m:Nat} {news:List ab} {bl:List VB} {K:VK bU}:∀(ch pre:List bU),JN T z s m news bl K pre ch->∃(l1:List bU) (g:bU) (l2:List bU),ch=l1++g::l2/\g.T=T/\g.z=z/\s=g.v/\g.n+m<=1000000/\
 ∀(x:Option aO) (c:Nat) (bk:List ai) (h:eW g.z g.T (g.os++news) x (g.n+m) c bk),K (.raw (.slice x (g.n+m) c)) bl ((pre++l1)++⟨g.T,g.z,g.os++news,x,g.n+m,c,bk,h⟩::l2)
 |[],pre,h=>h.elim
 |g::l,pre,h=>by
  unfold JN at h;cases hb:aq g.T T with
  |true=>
   rw[hb]at h;simp only[cond_true]at h;cases hz:aq g.z z with
   |false=>rw[hz]at h;exact h.elim
   |true=>
    rw[hz]at h;exact⟨[],g,l,rfl,ck hb,ck hz,h.1.1,h.1.2,by simpa using h.2⟩
  |false=>
   rw[hb]at h;obtain⟨l1,g',l2,rfl,h1,h2,h3,h4,h5⟩:=X5 l _ h;refine⟨g::l1,g',l2,rfl,h1,h2,h3,h4,?_⟩;intro x c bk hh;have:=h5 x c bk hh;simpa[bR]using this
theorem X6 {P:aF} {gl:Nat->Option Nat}:fP P gl (JO P):=by
 intro e op ids bl ch R ms w0 w K ρ o hg hl S a9 ho h;unfold JO at h;split at h
 ·rename_i c;split at h
  ·rename_i s xs t tx eQ cR dO;split at h
   ·rename_i T T' ht gh;split at h
    ·rename_i z bI i m cc bZ fN;split at h
     ·rename_i b hb;cases hq:aq (bY b.c) (m*z)&&(bj 0 b.c&&(lX b.c&&bu bI 10000000))with
      |false=>rw[hq]at h;exact h.elim
      |true=>
       rw[hq]at h;simp only[cond_true]at h;simp only[bg]at hq;obtain⟨q1,q2,q3,q4⟩:=hq;have q1:=ck q1;have q4:=du q4;obtain⟨l1,g,l2,rfl,rfl,rfl,hs,hn,hK⟩:=X5 _ _ h;have hi:(P.info? g.T).map (λi=>(i.zero.map (·.cells.size),i.size,i.bytes))=some (some g.z,g.z,bI):=by
        unfold sL at bZ;split at bZ
        ·rename_i inf sO;split at bZ
         ·rename_i v hv;cases pE:aq v.cells.size inf.size with
          |false=>rw[pE]at bZ;simp at bZ
          |true=>
           rw[pE]at bZ;simp only[cond_true,aV,bw]at bZ;have:=ck pE;simp[sO,hv,this,bZ.1,bZ.2]
         ·cases bZ
        ·cases bZ
       have hd:ah ids b.c=ah [] b.c:=by have:=j4 (ids:=[]) (more:=ids) b.c q2;simpa using this
       have aM:=(fE hl S hb).2;have hlen:(ah [] b.c).length=m*g.z:=by rw[<-q1];exact kr b.c
       have fH:Src P g.z tx (.slice (some ⟨ids.getD i 0,0,none⟩) m cc) m (ah [] b.c) w:=by
        refine rU w gh ⟨ids.getD i 0,0,none⟩ m cc _ hlen (λj u hj=>?_) (λu hu=>Ar q3 u hu);rw[iE,cell_of aM,hd];simpa using hj
       have e1:lits ids ids bl++ax (l1++g::l2) R=(lits ids ids bl++ax l1 [])++(g.bl++ax l2 R):=by
        rw[mD,iI (ax (g::l2) R) l1];simp only[ax,bR];rfl
       rw[e1]at S;have kV:(g.n+m)*bI<=140737488355328:=iY (Nat.mul_le_mul hn q4) (by decide);obtain⟨v,w',bG,hc,x',c',bl',rfl,fD,mE⟩:=Cs (P:=P) (ty:=o.type) g.h (λy hy=>S.at' (by simp[hy])) bI fH ht hi kV (iY hn (by decide));have S2:=S.tN g.h.wr hc (λy hy=>(mE y hy).1) (λy hy=>(mE y hy).2) fD.pw;refine⟨_,[],bl,_,w',.inl ?_,by simpa using hl,?_,hK x' c' bl' fD⟩
       ·obtain⟨nq,ar,iy⟩:=c;simp only at eQ cR dO;have e2:ar=#[s,xs]:=by rw[<-cR]
        have e3:iy=#[t,tx]:=by rw[<-dO]
        subst eQ e2 e3;have:=jL (P:=P) (ρ:=ρ) (o:=o) ho (sv:=.slice g.x g.n g.c) (xv:=.slice (some ⟨ids.getD i 0,0,none⟩) m cc) (by rw[a9,hs];simp only[bU.v,den]) (by rw[a9,fN];simp only[den]) bG;simpa[den]using this
       ·rw[cQ];have e4:lits ids ids bl++ax (([]++l1)++⟨g.T,g.z,g.os++ah [] b.c,x',g.n+m,c',bl',fD⟩::l2) R=(lits ids ids bl++ax l1 [])++(bl'++ax l2 R):=by
         rw[fl,mD,iI (ax (_::l2) R) l1];simp only[ax,bR];rfl
        rw[e4];exact S2
     ·exact h.elim
    ·exact h.elim
   ·exact h.elim
  ·exact h.elim
 ·exact h.elim
def ue (P:aF) (gl:Nat->Option Nat) (L:List (bK bU)):Ctx bU:=⟨P,rj L,gl,uc L,JO P,X6,λ_ _=>none⟩
theorem aC.TR {P:aF} {gl:Nat->Option Nat} {L:List (bK bU)} (h:aC P gl L):∀f c,(ue P gl L).T f=some c->Sound (ue P gl L).P (ue P gl L).gl f c:=h.T
theorem aC.QR {P:aF} {gl:Nat->Option Nat} {L:List (bK bU)} (h:aC P gl L):pD (ue P gl L):=h.Q
theorem afJ {P:aF} {w:ae} {z T n c m b:Nat} {olds tail news:List ab} (hlen:olds.length=n*z) (pd:(olds++tail).length=c*z) (jx:n<=c) (aM:w.heap[b]?=some (.cells (olds++tail).toArray T (0,0)))
 {t tx ty:aG} {xv:ab} (bytes:Nat) (hs:Src P z tx xv m news w) (kP:0<m) (ht:P.underlying t=some (.slice T)) (hi:(P.info? T).map (λi=>(i.zero.map (·.cells.size),i.size,i.bytes))=some (some z,z,bytes))
 (hb:(n+m)*bytes<=140737488355328) (h63:n+m<=maxLen):
 (∃w',(mY #[t,tx] ty #[.slice (some ⟨b,0,none⟩) n c,xv]).run P w=.ok (.slice (some ⟨b,0,none⟩) (n+m) c) w'/\Ch [b] w w'/\w'.heap[b]?=some (.cells ((olds++news)++tail.drop news.length).toArray T (0,0))/\n+m<=c)\/
 (∃b' c' yq w',(mY #[t,tx] ty #[.slice (some ⟨b,0,none⟩) n c,xv]).run P w=.ok (.slice (some ⟨b',0,none⟩) (n+m) c') w'/\Ch [] w w'/\w.heap.size<=b'/\w'.heap[b']?=some (.cells ((olds++news)++yq).toArray T (0,0))/\
  ((olds++news)++yq).length=c'*z/\n+m<=c'):=by
 obtain⟨i,bZ,hi⟩:=gU.1 hi;simp only[bw]at hi;obtain⟨hz,dw,im⟩:=hi;obtain⟨z0,lx,ng⟩:=gU.1 hz;have pa:=hs.newsLen;have jg:Src P i.size tx xv m news w:=by rw[dw];exact hs
 by_cases nh:n+m<=c
 ·left;have hbd:n*z+news.length<=(olds++tail).length:=by
   rw[pd,pa,<-mq];exact NC _ nh
  have fG:=run_storeCells_at (P:=P) b (n*z) T news 0 (olds++tail).toArray w aM (by simpa using hbd) hs.one;simp only[oR]at fG;have bG:(mY #[t,tx] ty #[.slice (some ⟨b,0,none⟩) n c,xv]).run P w=.ok (.slice (some ⟨b,0,none⟩) (n+m) c) (w.setRow b ((olds++tail).take (n*z)++news++(olds++tail).drop (n*z+news.length)).toArray):=by
   rcases jg.kind with⟨e',hk⟩|hk<;>simp[mY,dt ht,dt hk,oP,typeInfo,bZ,jg.len,nh,hs.cells,iE,dw,fG,jw]
  refine⟨_,bG,by simpa using Ch.setRow w b _,?_,nh⟩;have:=setRow_heap w b (olds++tail).toArray ((olds++tail).take (n*z)++news++(olds++tail).drop (n*z+news.length)).toArray T (0,0) aM;rw[this];congr 3;rw[<-hlen,List.take_left,List.drop_append,List.drop_eq_nil_of_le (by omega)];simp
 ·right;have hg:c<n+m:=by omega
  have hold:(Builtin.firstCells i.size n (.slice (some ⟨b,0,none⟩) n c)).run P w.drew=.ok olds.toArray w.drew:=by
   refine run_firstCells_some (P:=P) w.drew i.size n ⟨b,0,none⟩ n c olds (by rw[hlen,dw]) (λj v hj=>?_);rw[iE];have:w.drew.cell? ⟨b,0+j,none⟩=w.cell? ⟨b,j,none⟩:=by simp
   rw[this,cell_of aM];have j3:j<olds.length:=by
    rcases cN j olds.length with h|h
    ·exact h
    ·simp[h]at hj
   simp[gV j3,hj]
  have bG:=run_append_grow_src (P:=P) w t tx ty T i z0 ht bZ lx (some ⟨b,0,none⟩) n c olds hold xv m news jg hg (by simp only[maxLen]at h63;omega) (by rw[im];exact growslice_fits hg hb);have dY:=grownCap_ge w (n+m) c T;refine⟨w.heap.size,grownCap w (n+m) c T,(n9 z0.cells (grownCap w (n+m) c T-(n+m))).toList,_,bG,?_,dE _,?_,?_,dY⟩
  ·exact((Ch.refl [] w).drew).trans (Ch.alloc [] w.drew _) (λx hx=>.inl hx)
  ·have:=mX w.drew (.cells ((olds++news).toArray++n9 z0.cells (grownCap w (n+m) c T-(n+m))) T);refine Eq.trans this ?_;congr 2;apply fe;simp
  ·rw[fq,fq,hlen,pa,Array.length_toList,size_zeroCells,ng,<-mq,<-mq];congr 1;omega
variable{G:Type} [Bl G]
def JQ (P:aF):(ba->V)->Op->List VB->List G->VK G->Prop:=λe op bl ch K=>match op with
 |.call c=>(match c.callee,c.args.toList,c.argTypes.toList with
  |.builtin .append,[s,xs],[t,tx]=>(match P.underlying t,P.underlying tx with
   |some (.slice T),some (.slice _)=>(match sL P T,e s,e xs with
    |some (z,bI),.sl j 0 n c,.sl i 0 (m+1) _=>(match bl[j]?,bl[i]?with
     |some ⟨wr,⟨Ta,(0,0)⟩,ac⟩,some b=>(match xV ac 0 (n*z)with
      |some C=>cond (aq Ta T&&(wr&&(aq (bY b.c) ((m+1)*z)&&(lX b.c&&(bu bI 10000000&&(bu (n+(m+1)) 1000000&&(bj bl.length C&&(bj bl.length b.c&&bM bl.length bl))))))))
       ((n<=c/\bY ac=c*z)/\(∀(c':Nat) (u:List ab),n+(m+1)<=c'->bY (C++(b.c++[.rest u]))=c'*z->K (.sl j 0 (n+(m+1)) c') (bl.set j ⟨true,T,C++(b.c++[.rest u])⟩) ch)/\
         (∀(c':Nat) (u:List ab),n+(m+1)<=c'->bY (C++(b.c++[.rest u]))=c'*z->K (.sl bl.length 0 (n+(m+1)) c') (bl++[⟨true,T,C++(b.c++[.rest u])⟩]) ch)) False
      |none=>False)
     |_,_=>False)
    |_,_,_=>False)
   |_,_=>False)
  |_,_,_=>False)
 |_=>False
theorem Fx {P:aF} {T z bI:Nat} (bZ:sL P T=some (z,bI)):(P.info? T).map (λi=>(i.zero.map (·.cells.size),i.size,i.bytes))=some (some z,z,bI):=by
 unfold sL at bZ;split at bZ
 ·rename_i inf sO;split at bZ
  ·rename_i v hv;cases pE:aq v.cells.size inf.size with
   |false=>rw[pE]at bZ;simp at bZ
   |true=>
    rw[pE]at bZ;simp only[cond_true,aV,bw]at bZ;have:=ck pE;simp[sO,hv,this,bZ.1,bZ.2]
  ·cases bZ
 ·cases bZ
theorem X7 {P:aF} {gl:Nat->Option Nat}:fP (G:=G) P gl (JQ P):=by
 intro e op ids bl ch R ms w0 w K ρ o hg hl S a9 ho h;unfold JQ at h;split at h
 ·rename_i c;split at h
  ·rename_i s xs t tx eQ cR dO;split at h
   ·rename_i T T' ht gh;split at h
    ·rename_i z bI j n cc i m mF bZ gw fN;split at h
     ·rename_i wr Ta ac b ha hb;split at h
      ·rename_i C hC;cases hq:aq Ta T&&(wr&&(aq (bY b.c) ((m+1)*z)&&(lX b.c&&(bu bI 10000000&&(bu (n+(m+1)) 1000000&&(bj bl.length C&&(bj bl.length b.c&&bM bl.length bl)))))))with
       |false=>rw[hq]at h;exact h.elim
       |true=>
        rw[hq]at h;simp only[cond_true]at h;simp only[bg]at hq;obtain⟨q1,q2,q3,q4,q5,q6,q8,q9,Fy⟩:=hq;have q1:=ck q1;have q3:=ck q3;have q5:=du q5;have q6:=du q6;obtain⟨⟨q7,dw⟩,mw,Om⟩:=h;subst q1 q2;have aM:=(fE hl S hb).2;obtain⟨hj,Pw⟩:=fE hl S ha;obtain⟨g1,g2,g3⟩:=xW (ids:=ids) hC;rw[List.drop_zero]at g1;have vS:(ah ids b.c).length=(m+1)*z:=by rw[kr,q3]
        have fH:Src P z tx (.slice (some ⟨ids.getD i 0,0,none⟩) (m+1) mF) (m+1) (ah ids b.c) w:=by
         refine rU w gh ⟨ids.getD i 0,0,none⟩ (m+1) mF _ vS (λj u hj=>?_) (λu hu=>Ar q4 u hu);rw[iE,cell_of aM];simpa using hj
        have pd:(ah ids C++(ah ids ac).drop (n*z)).length=cc*z:=by
         rw[<-g1,jv,kr,dw]
        have Px:w.heap[ids.getD j 0]?=some (.cells (ah ids C++(ah ids ac).drop (n*z)).toArray Ta (0,0)):=by
         rw[<-g1,jv];exact Pw
        have kV:(n+(m+1))*bI<=140737488355328:=iY (Nat.mul_le_mul q6 q5) (by decide);have dd:∀(is:List Nat) (u:List ab),ah is (C++(b.c++[.rest u]))=(ah is C++ah is b.c)++u:=λis u=>by
         rw[iG,iG];simp[ah,cl]
        have sz:∀(is:List Nat) (u:List ab) (c':Nat),((ah is C++ah is b.c)++u).length=c'*z->bY (C++(b.c++[.rest u]))=c'*z:=λis u c' hh=>by
         rw[<-kr (ids:=is),dd,hh]
        obtain⟨nq,ar,iy⟩:=c;simp only at eQ cR dO;have e2:ar=#[s,xs]:=by rw[<-cR]
        have e3:iy=#[t,tx]:=by rw[<-dO]
        subst eQ e2 e3;have run:∀{v w'},(mY #[t,tx] o.type #[.slice (some ⟨ids.getD j 0,0,none⟩) n cc,.slice (some ⟨ids.getD i 0,0,none⟩) (m+1) mF]).run P w=.ok v w'->(execOp ρ o).run P w=.ok (.value v) w':=λbG=>
         jL (P:=P) (ρ:=ρ) (o:=o) ho (by rw[a9,gw];simp only[den]) (by rw[a9,fN];simp only[den]) bG
        rcases afJ (P:=P) (ty:=o.type) g2 pd q7 Px bI fH (Nat.succ_pos m) ht (Fx bZ) kV (iY q6 (by decide))with⟨w',bG,hc,hh,nh⟩|⟨b',c',yq,w',bG,hc,afK,hh,afL,nh⟩
        ·refine⟨_,[],_,ch,w',.inl ?_,by simpa using hl,?_,mw cc (((ah ids ac).drop (n*z)).drop (ah ids b.c).length) nh (sz ids _ _ ?_)⟩
         ·have:=run bG;simpa[den]using this
         ·simp only[cQ];have fG:=S.step hj rfl hc hh;have j3:j<(lits ids ids bl).length:=by rw[xZ ids bl hl];rcases cN j bl.length with h'|h';exact h';simp[h']at ha
          rw[<-x_ (ids:=ids) ids bl j _ hl,<-List.set_append_left _ _ j3];simp only[az,dd];exact fG
         ·rw[<-pd];simp only[fq,List.length_drop];have:(ah ids C).length+(ah ids b.c).length<=(ah ids C++(ah ids ac).drop (n*z)).length:=by
           rw[pd,g2,vS,<-mq];exact NC _ nh
          simp only[fq,List.length_drop]at this;omega
        ·have Fz:bj ids.length (C++(b.c++[.rest yq]))=true:=by
          rw[hl];have C3:∀(x y:List V),bj bl.length x=true->bj bl.length y=true->bj bl.length (x++y)=true:=by
           intro x y;induction x with
           |nil=>intro _ h;simpa using h
           |cons v x ih=>intro h1 h2;simp only[ft,bj,bg]at h1⊢;exact⟨h1.1,ih h1.2 h2⟩
          exact C3 _ _ q8 (C3 _ _ q9 rfl)
         refine⟨_,[b'],_,ch,w',.inl ?_,by simp[hl],?_,Om c' yq nh (sz ids _ _ afL)⟩
         ·have:=run bG;rw[this];simp only[den];rw[<-hl,kS]
         ·rw[eZ _ _ _ _ hl,e_ _ _ (by rw[hl];exact Fy)];simp only[lits,az];rw[j4 _ Fz,dd];have:=S.new hc afK hh;refine this.perm ?_;rw[bR (lits ids ids bl)];exact(jH).symm
      ·exact h.elim
     ·exact h.elim
    ·exact h.elim
   ·exact h.elim
  ·exact h.elim
 ·exact h.elim
def rk (P:aF) (gl:Nat->Option Nat) (L:List (bK G)):Ctx G:=⟨P,rj L,gl,uc L,JQ P,X7,λ_ _=>none⟩
theorem aC.TS {P:aF} {gl:Nat->Option Nat} {L:List (bK G)} (h:aC P gl L):∀f c,(rk P gl L).T f=some c->Sound (rk P gl L).P (rk P gl L).gl f c:=h.T
theorem aC.QS {P:aF} {gl:Nat->Option Nat} {L:List (bK G)} (h:aC P gl L):pD (rk P gl L):=h.Q
end Vx
namespace Vx
open Go Go.RowKit Go.BigFrame Sx
def vT (i:Nat):List Nat->Nat->Option Nat
 |[],_=>none
 |j::l,k=>bif aq j i then some k else vT i l (k+1)
def X8:VB:=⟨false,⟨0,(0,0)⟩,[]⟩
mutual
def JR:V->List Nat
 |.ptr i _=>[i]
 |.sl i _ _ _=>[i]
 |.f_ i _ _ _ _=>[i]
 |.pe i _ _ _ _=>[i]
 |.fn _ a b=>C4 a++C4 b
 |.lV _ v=>JR v
 |.agg l=>C4 l
 |.an l=>C4 l
 |_=>[]
def C4:List V->List Nat
 |[]=>[]
 |v::l=>JR v++C4 l
end
mutual
def pF (dm:List Nat):V->Option V
 |.ptr i off=>match vT i dm 0 with|some k=>some (.ptr k off)|none=>none
 |.sl i off n c=>match vT i dm 0 with|some k=>some (.sl k off n c)|none=>none
 |.f_ i off n c x=>match vT i dm 0 with|some k=>some (.f_ k off n c x)|none=>none
 |.pe i o j z q=>match vT i dm 0 with|some k=>some (.pe k o j z q)|none=>none
 |.fn f a b=>match uf dm a,uf dm b with|some a',some b'=>some (.fn f a' b')|_,_=>none
 |.lV t v=>match pF dm v with|some v'=>some (.lV t v')|none=>none
 |.agg l=>match uf dm l with|some l'=>some (.agg l')|none=>none
 |.an l=>match uf dm l with|some l'=>some (.an l')|none=>none
 |v=>some v
def uf (dm:List Nat):List V->Option (List V)
 |[]=>some []
 |v::l=>match pF dm v,uf dm l with|some v',some l'=>some (v'::l')|_,_=>none
end
def JS (bl:List VB) (dm:List Nat):List Nat->Option (List VB)
 |[]=>some []
 |i::is=>match bl[i]?with
  |some b=>(match uf dm b.c,JS bl dm is with
   |some c,some l=>some (⟨b.wr,b.ty,c⟩::l)
   |_,_=>none)
  |none=>none
def FA (dm:List Nat):List Nat->List Nat
 |[]=>dm
 |i::l=>match vT i dm 0 with|some _=>FA dm l|none=>FA (dm++[i]) l
def Py (bl:List VB):Nat->Nat->List Nat->List Nat
 |0,_,dm=>dm
 |n+1,k,dm=>match dm[k]?with
  |some i=>(match bl[i]?with
   |some b=>Py bl n (k+1) (FA dm (C4 b.c))
   |none=>dm)
  |none=>dm
def yr:Nat->List Nat
 |0=>[]
 |n+1=>yr n++[n]
def FB (n0:Nat) (v:V) (bl:List VB) (dm:List Nat):Option (V×List VB):=bif CN dm&&FC (yr n0) dm then(match pF dm v,JS bl dm dm with|some v',some bl'=>some (v',bl')|_,_=>none)else none
where FC:List Nat->List Nat->Bool
 |[],_=>true
 |i::a,j::b=>aq i j&&FC a b
 |_::_,[]=>false
def br {G:Type} (n0:Nat) (K:VK G):VK G:=λv bl ch=>match FB n0 v bl (Py bl bl.length 0 (FA (yr n0) (JR v)))with
 |some (v',bl')=>K v' bl' ch
 |none=>False
theorem X9 {i:Nat}:∀{l:List Nat} {k m:Nat},vT i l k=some m->k<=m/\l[m-k]?=some i
 |[],k,m,h=>by cases h
 |j::l,k,m,h=>by
  unfold vT at h;cases hb:aq j i with
  |true=>
   rw[hb]at h;obtain rfl:k=m:=by simpa using h
   exact⟨dE _,by simp[ck hb]⟩
  |false=>
   rw[hb]at h;obtain⟨h1,h2⟩:=X9 (l:=l) h;refine⟨by omega,?_⟩;rw[show m-k=(m-(k+1))+1 by omega];simpa using h2
theorem JT {ids dm:List Nat} {i k:Nat} (h:vT i dm 0=some k):(dm.map λj=>ids.getD j 0).getD k 0=ids.getD i 0:=by
 have:=(X9 h).2;simp only[Nat.sub_zero]at this;simp[ij,this]
mutual
theorem JU {ids dm:List Nat}:∀(v:V) {v':V},pF dm v=some v'->den (dm.map λj=>ids.getD j 0) v'=den ids v
 |.ptr i off,v',h=>by
  simp only[pF]at h;split at h
  ·rename_i k hk;cases h;simp only[den,JT hk]
  ·cases h
 |.sl i off n c,v',h=>by
  simp only[pF]at h;split at h
  ·rename_i k hk;cases h;simp only[den,JT hk]
  ·cases h
 |.f_ i off n c x,v',h=>by
  simp only[pF]at h;split at h
  ·rename_i k hk;cases h;simp only[den,JT hk]
  ·cases h
 |.fn f a b,v',h=>by
  simp only[pF]at h;split at h
  ·rename_i a' b' ha hb;cases h;simp only[den,JV a ha,JV b hb]
  ·cases h
 |.lV t v,v',h=>by
  simp only[pF]at h;split at h
  ·rename_i u hu;cases h;simp only[den,JU v hu]
  ·cases h
 |.agg l,v',h=>by
  simp only[pF]at h;split at h
  ·rename_i u hu;cases h;simp only[den,Pz l hu]
  ·cases h
 |.an l,v',h=>by
  simp only[pF]at h;split at h
  ·rename_i u hu;cases h;simp only[den,JV l hu]
  ·cases h
 |.int _ _,v',h=>by cases h;simp[den]
 |.bool _,v',h=>by cases h;simp[den]
 |.bJ _ _ _,v',h=>by cases h;simp[den]
 |.arr _ _ _,v',h=>by cases h;simp[den]
 |.eo _ _ _ _,v',h=>by cases h;simp[den]
 |.rest _,v',h=>by cases h;simp[den]
 |.fh _ _ _,v',h=>by cases h;simp[den]
 |.pe i o j z q,v',h=>by
  simp only[pF]at h;split at h
  ·rename_i k hk;cases h;simp only[den,JT hk]
  ·cases h
 |.raw _,v',h=>by cases h;simp[den]
theorem JV {ids dm:List Nat}:∀(l:List V) {l':List V},uf dm l=some l'->aD (dm.map λj=>ids.getD j 0) l'=aD ids l
 |[],l',h=>by cases h;rfl
 |v::l,l',h=>by
  simp only[uf]at h;split at h
  ·rename_i v1 l1 hv hl;cases h;simp only[aD,JU v hv,JV l hl]
  ·cases h
theorem Pz {ids dm:List Nat}:∀(l:List V) {l':List V},uf dm l=some l'->ah (dm.map λj=>ids.getD j 0) l'=ah ids l
 |[],l',h=>by cases h;rfl
 |v::l,l',h=>by
  simp only[uf]at h;split at h
  ·rename_i v1 l1 hv hl;cases h;simp only[ah,JU v hv,Pz l hl];congr 1;cases v<;>simp only[pF]at hv<;>(try split at hv)<;>first|(cases hv;rfl)|(cases hv;done)
  ·cases h
end
theorem X_ {ids dm:List Nat} {bl:List VB} (hl:ids.length=bl.length):∀(is:List Nat) {bl':List VB},JS bl dm is=some bl'->(is.map λj=>ids.getD j 0).length=bl'.length/\
 lits (dm.map λj=>ids.getD j 0) (is.map λj=>ids.getD j 0) bl'=(is.map λj=>az ids (ids.getD j 0) (bl.getD j X8))/\∀j∈is,j<bl.length
 |[],bl',h=>by cases h;simp[lits]
 |i::is,bl',h=>by
  unfold JS at h;split at h
  ·rename_i b hb;split at h
   ·rename_i c l hc hL;cases h;obtain⟨h1,h2,h3⟩:=X_ hl is hL;have dv:i<bl.length:=by rcases cN i bl.length with h'|h';exact h';simp[h']at hb
    refine⟨by simpa using h1,?_,?_⟩
    ·simp only[eH,lits,h2];congr 1;simp only[az,Pz _ hc];simp[ij,hb]
    ·intro j hj;rcases ca.1 hj with rfl|hj
     ·exact dv
     ·exact h3 j hj
   ·cases h
  ·cases h
theorem Ya (ids:List Nat):∀(is:List Nat) (bl:List VB),is.length=bl.length->lits ids is bl=(bd bl.length).map λj=>az ids (is.getD j 0) (bl.getD j X8)
 |[],[],_=>rfl
 |i::is,b::bl,h=>by
  rw[kN,vd,eH,mr];simp only[lits];rw[Ya ids is bl (by simpa using h)];rfl
theorem Yb:∀{a b:List Nat},FB.FC a b=true->∃c,b=a++c
 |[],b,_=>⟨b,rfl⟩
 |i::a,j::b,h=>by
  simp only[FB.FC,bg]at h;obtain⟨c,rfl⟩:=Yb h.2;exact⟨c,by simp[ck h.1]⟩
 |_::_,[],h=>by cases h
theorem Yc (ids:List Nat):∀n,n<=ids.length->(yr n).map (λj=>ids.getD j 0)=ids.take n
 |0,_=>by simp[yr]
 |n+1,h=>by
  simp only[yr,qB,eH,vf,Yc ids n (by omega)];rw[List.take_add_one];congr 1;have:n<ids.length:=by omega
  simp[ij,jb this]
theorem hU {G:Type} {n0:Nat} {K:VK G} {v:V} {bl:List VB} {ch:List G} {ids:List Nat} {X:List ai} {ms:List Nat} {w0 w:ae} (hl:ids.length=bl.length) (hn:n0<=ids.length) (S:St ms w0 (lits ids ids bl++X) w) (h:br n0 K v bl ch):
 ∃v' more bl',den ids v=den (ids.take n0++more) v'/\(ids.take n0++more).length=bl'.length/\St ms w0 (lits (ids.take n0++more) (ids.take n0++more) bl'++X) w/\K v' bl' ch:=by
 unfold br at h;generalize Py bl bl.length 0 (FA (yr n0) (JR v))=dm at h;unfold FB at h;cases hq:CN dm&&FB.FC (yr n0) dm with
 |false=>rw[hq]at h;exact h.elim
 |true=>
  rw[hq]at h;simp only[cond_true]at h;simp only[bg]at hq;have ub:=O5 hq.1;obtain⟨c,hc⟩:=Yb hq.2;split at h
  ·rename_i v' bl' hv;split at hv
   ·rename_i v1 jQ tP kV;cases hv;obtain⟨h1,h2,h3⟩:=X_ hl dm kV;have e:dm.map (λj=>ids.getD j 0)=ids.take n0++c.map λj=>ids.getD j 0:=by
     rw[hc,qB,Yc ids n0 hn]
    refine⟨_,c.map λj=>ids.getD j 0,_,?_,?_,?_,h⟩
    ·rw[<-e];exact(JU v tP).symm
    ·rw[<-e];exact h1
    ·rw[<-e,h2];obtain⟨r,hr⟩:=EU dm (bd bl.length) ub (λx hx=>List.mem_range.2 (h3 x hx));rw[Ya ids ids bl hl]at S;have S1:=S.perm ((hr.map _).append_right X);rw[qB]at S1;exact S1.sub (ad3 (List.sublist_append_left _ _) _)
   ·cases hv
  ·exact h.elim
theorem afM {P:aF} {w:ae} {b:Nat} {kd:eS} {l:List (Int×ab)} {kv:Int} {vv:ab} {mt kt et:aG} (hu:P.underlying mt=some (.map kt et)) (hk:P.underlying kt=some (.int kd)) (aM:w.heap[b]?=some (my kd l)) (hn:l.all (λx=>x.1!=kv)=true):
 (ad4 mt (.map (some b)) (.int kd kv) vv).run P w=.ok () {w with heap:=w.heap.setIfInBounds b (my kd (l++[(kv,vv)]))}:=by
 have oh:w.heap[b]?=some (.map ((l.zipIdx.map λx=>(⟨.int kd x.1.1,x.1.2,x.2⟩:va)).toArray) l.length):=aM;have hf:NF (.int kd) (.int kd kv) ((l.zipIdx.map λx=>(⟨.int kd x.1.1,x.1.2,x.2⟩:va)).toArray).toList 0=some none:=WQ kd kv _ 0 (aeC hn);have hc:(Instr.checkKey false 10000 kt (.int kd kv)).run P w=.ok () w:=MapKept.run_checkKey (k:=.int kd kv) hk (by simp[MapKept.IsKey]) false 9999;have afN:(ad4 mt (.map (some b)) (.int kd kv) vv).run P w=.ok () {w with heap:=w.heap.setIfInBounds b (Obj.map (((l.zipIdx.map λx=>(⟨.int kd x.1.1,x.1.2,x.2⟩:va)).toArray).push ⟨.int kd kv,vv,l.length⟩) (l.length+1))}:=by
  generalize ((l.zipIdx.map λx=>(⟨.int kd x.1.1,x.1.2,x.2⟩:va)).toArray)=es at*;simp[ad4,dt hu,MapKept.run_getObj_map oh,hc,MapKept.run_findKey hk hf,MapKept.run_setObj_map _ oh,jw]
 rw[afN,aeB]
theorem afO {P:aF} {w:ae} {b:Nat} {kd:eS} {l:List (Int×ab)} {kv:Int} {v:ab} {mt kt et:aG} (hu:P.underlying mt=some (.map kt et)) (hk:P.underlying kt=some (.int kd)) (aM:w.heap[b]?=some (my kd l))
 (hn:∃j,NF (.int kd) (.int kd kv) ((l.zipIdx.map λx=>(⟨.int kd x.1.1,x.1.2,x.2⟩:va)).toArray).toList 0=some (some (j,v))):(Instr.lookup mt (.map (some b)) (.int kd kv) true).run P w=.ok (.tuple #[v,.bool true]) w:=by
 obtain⟨j,hf⟩:=hn;have oh:w.heap[b]?=some (.map ((l.zipIdx.map λx=>(⟨.int kd x.1.1,x.1.2,x.2⟩:va)).toArray) l.length):=aM;have hc:∀e,(Instr.checkKey e 10000 kt (.int kd kv)).run P w=.ok () w:=λe=>MapKept.run_checkKey (k:=.int kd kv) hk (by simp[MapKept.IsKey]) e 9999;simp[Instr.lookup,dt hu,MapKept.run_getObj_map oh,hc,MapKept.run_findKey hk hf,jw]
structure yu where
 id:Nat
 tb:List (Int×ab)
instance:Bl yu:=⟨λg=>[⟨g.id,true,my .i64 g.tb⟩]⟩
def PA (P:aF):(ba->V)->Op->List VB->List yu->VK yu->Prop:=λe op bl ch K=>match op with
 |.makeMap t none=>(match ch with
  |[]=>∀id,K (.raw (.map (some id))) bl [⟨id,[]⟩]
  |_=>False)
 |.insert mt m k x=>(match ch,e m,e k with
  |[g],.raw mv,.int .i64 kv=>(match P.underlying mt with
   |some (.map kt _)=>(match P.underlying kt with
    |some (.int .i64)=>cond (g.tb.all (λx=>x.1!=kv)&&cK 0 (e x)) (mv=.map (some g.id)/\K fJ bl [⟨g.id,g.tb++[(kv,den [] (e x))]⟩]) False
    |_=>False)
   |_=>False)
  |_,_,_=>False)
 |_=>False
theorem afP {P:aF} {gl:Nat->Option Nat}:fP P gl (PA P):=by
 intro e op ids bl ch R ms w0 w K ρ o hg hl S a9 ho h;unfold PA at h;split at h
 ·rename_i t;split at h
  ·refine⟨_,[],bl,_,w.alloc (.map #[] 0),.inl ?_,by simpa using hl,?_,h w.heap.size⟩
   ·unfold execOp;simp[ho,run_makeMap,jw,den]
   ·have:=S.new (Ch.alloc [] w (.map #[] 0)) (dE _) (mX w _);rw[cQ];refine this.perm ?_;exact jH.symm
  ·exact h.elim
 ·rename_i mt m k x;split at h
  ·rename_i g mv kv hm hk;split at h
   ·rename_i kt et hu;split at h
    ·rename_i PB;cases hq:g.tb.all (λx=>x.1!=kv)&&cK 0 (e x)with
     |false=>rw[hq]at h;exact h.elim
     |true=>
      rw[hq]at h;simp only[cond_true]at h;simp only[bg]at hq;obtain⟨rfl,hK⟩:=h;have e0:lits ids ids bl++ax [g] R=lits ids ids bl++(⟨g.id,true,my .i64 g.tb⟩::R):=rfl;rw[e0]at S;have aM:=S.at' (x:=⟨g.id,true,my .i64 g.tb⟩) (by simp);have hx:den ids (e x)=den [] (e x):=by have:=fI (ids:=[]) (more:=ids) (e x) hq.2;simpa using this
      have bG:=afM (P:=P) (vv:=den ids (e x)) hu PB aM hq.1;refine⟨fJ,[],bl,_,{w with heap:=w.heap.setIfInBounds g.id (my .i64 (g.tb++[(kv,den ids (e x))]))},.inr ⟨?_,rfl⟩,by simpa using hl,?_,hK⟩
      ·unfold execOp;simp only[ho,a9,hm,hk,den]at bG⊢;simp only[bx,bG,cz];rfl
      ·rw[cQ,<-hx];have hi:(lits ids ids bl++(⟨g.id,true,my .i64 g.tb⟩::R))[(lits ids ids bl).length]?=some ⟨g.id,true,my .i64 g.tb⟩:=by simp
       have:=S.step hi rfl (Ch.aeA w g.id (my .i64 (g.tb++[(kv,den ids (e x))]))) (MapKept.heap_set aM).1;rw[List.set_append_right _ _ (dE _),Nat.sub_self]at this;exact this
    ·exact h.elim
   ·exact h.elim
  ·exact h.elim
 ·exact h.elim
def PC (P:aF) (gl:Nat->Option Nat) (L:List (bK yu)):Ctx yu:=⟨P,rj L,gl,uc L,PA P,afP,λ_ _=>none⟩
def fA {G:Type} [Bl G] (P:aF) (gl:Nat->Option Nat) (L:List (bK G)) (h:(ba->V)->Op->List VB->List G->VK G->Prop) (hok:fP P gl h):Ctx G:=⟨P,rj L,gl,uc L,h,hok,λ_ _=>none⟩
theorem Sound.gl {G:Type} [Bl G] {P:aF} {gl FE:Nat->Option Nat} {f:Nat} {c:c_ G} (h:Sound P gl f c) (hg:∀ids,Gl FE ids->Gl gl ids):Sound P FE f c:=
 λargs ids bl ch R ms w0 w K h1 h2 S hc=>h args ids bl ch R ms w0 w K (hg ids h1) h2 S hc
inductive Sm (G:Type) where
 |g (x:G)
 |m (x:yu)
instance{G:Type} [Bl G]:Bl (Sm G):=⟨λx=>match x with|.g x=>Bl.B x|.m x=>Bl.B x⟩
def gs {G:Type}:List G->List (Sm G)
 |[]=>[]
 |x::l=>.g x::gs l
theorem Yd {G:Type} [Bl G] (R:List ai):∀(l:List G) (r:List (Sm G)),ax (gs l++r) R=ax l (ax r R)
 |[],r=>rfl
 |x::l,r=>by
  simp only[gs,ft,ax,Yd R l r];rfl
def FF {G:Type} (c:c_ G):c_ (Sm G):=λargs bl ch K=>match ch with
 |.g x::rest=>c args bl [x] λv bl' ch'=>K v bl' (gs ch'++rest)
 |_=>False
theorem afQ {G:Type} [Bl G] {P:aF} {gl:Nat->Option Nat} {f:Nat} {c:c_ G} (h:Sound P gl f c):Sound P gl f (FF c):=by
 intro args ids bl ch R ms w0 w K hg hl S hc;unfold FF at hc;split at hc
 ·rename_i x rest;have e:ax (.g x::rest:List (Sm G)) R=ax [x] (ax rest R):=rfl;rw[e]at S;refine(h args ids bl [x] (ax rest R) ms w0 w _ hg hl S hc).mono ?_;rintro v w' ⟨y,more,bl',ch',rfl,h1,S1,hK⟩;exact⟨y,more,bl',_,rfl,h1,by rw[Yd];exact S1,hK⟩
 ·exact hc.elim
theorem afR {G:Type} {c:c_ G} (h:hJ c):hJ (FF c):=by
 intro args bl ch K hc;unfold FF at hc⊢;split at hc
 ·exact h _ _ _ _ hc
 ·exact hc.elim
def PD {G:Type}:List (bK G)->List (bK (Sm G))
 |[]=>[]
 |e::l=>⟨e.f,e.q,FF e.c⟩::PD l
theorem Ye {G:Type} [Bl G] {P:aF} {gl FE:Nat->Option Nat} (hg:∀ids,Gl FE ids->Gl gl ids):∀{L:List (bK G)},aC P gl L->aC P FE (PD L)
 |[],_=>aC.nil
 |e::l,h=>aC.cons ⟨afQ ((h e (by simp)).1.gl hg),λhq=>afR ((h e (by simp)).2 hq)⟩ (Ye hg λx hx=>h x (by simp[hx]))
variable{G:Type} [Bl G]
def PE (P:aF):(ba->V)->Op->List VB->List G->VK G->Prop:=λe op bl ch K=>match op with
 |.call c=>(match c.callee,c.args.toList,c.argTypes.toList with
  |.builtin .append,[s,xs],[t,tx]=>(match P.underlying t,P.underlying tx with
   |some (.slice T),some (.slice _)=>(match sL P T,e s,e xs with
    |some (z,bI),.raw (.slice none 0 0),.sl i 0 (m+1) _=>(match bl[i]?with
     |some b=>cond (aq (bY b.c) ((m+1)*z)&&(lX b.c&&(bu bI 10000000&&(bu (m+1) 1000000&&(bj bl.length b.c&&bM bl.length bl)))))
      (∀(c':Nat) (u:List ab),m+1<=c'->bY (b.c++[.rest u])=c'*z->K (.sl bl.length 0 (m+1) c') (bl++[⟨true,T,b.c++[.rest u]⟩]) ch) False
     |none=>False)
    |_,_,_=>False)
   |_,_=>False)
  |_,_,_=>False)
 |_=>False
theorem afS {P:aF} {gl:Nat->Option Nat}:fP (G:=G) P gl (PE P):=by
 intro e op ids bl ch R ms w0 w K ρ o hg hl S a9 ho h;unfold PE at h;split at h
 ·rename_i c;split at h
  ·rename_i s xs t tx eQ cR dO;split at h
   ·rename_i T T' ht gh;split at h
    ·rename_i z bI i m mF bZ gw fN;split at h
     ·rename_i b hb;cases hq:aq (bY b.c) ((m+1)*z)&&(lX b.c&&(bu bI 10000000&&(bu (m+1) 1000000&&(bj bl.length b.c&&bM bl.length bl))))with
      |false=>rw[hq]at h;exact h.elim
      |true=>
       rw[hq]at h;simp only[cond_true]at h;simp only[bg]at hq;obtain⟨q3,q4,q5,q6,q9,Fy⟩:=hq;have q3:=ck q3;have q5:=du q5;have q6:=du q6;have aM:=(fE hl S hb).2;have vS:(ah ids b.c).length=(m+1)*z:=by rw[kr,q3]
       have fH:Src P z tx (.slice (some ⟨ids.getD i 0,0,none⟩) (m+1) mF) (m+1) (ah ids b.c) w:=by
        refine rU w gh ⟨ids.getD i 0,0,none⟩ (m+1) mF _ vS (λj u hj=>?_) (λu hu=>Ar q4 u hu);rw[iE,cell_of aM];simpa using hj
       have kV:(0+(m+1))*bI<=140737488355328:=iY (Nat.mul_le_mul (by omega:0+(m+1)<=1000000) q5) (by decide);obtain⟨nq,ar,iy⟩:=c;simp only at eQ cR dO;have e2:ar=#[s,xs]:=by rw[<-cR]
       have e3:iy=#[t,tx]:=by rw[<-dO]
       subst eQ e2 e3;obtain⟨v,w',bG,hc,x',c',bl',rfl,⟨r1,r2,r3⟩,mE⟩:=Cs (P:=P) (ty:=o.type) (xN z T) (by simp) bI fH ht (Fx bZ) kV (iY (by omega:0+(m+1)<=1000000) (by decide));rcases r3 with⟨_,h0,_⟩|⟨b',tail,rfl,rfl,hlen⟩
       ·omega
       ·obtain⟨hh,hid⟩:=mE _ (ig.2 rfl);have dY:w.heap.size<=b':=by
         rcases hid with⟨u,hu,_⟩|h
         ·cases hu
         ·exact h
        simp only[fl,eD]at hh hlen r2 bG;have dd:∀(is:List Nat) (u:List ab),ah is (b.c++[.rest u])=ah is b.c++u:=λis u=>by
         rw[iG];simp[ah,cl]
        have Fz:bj ids.length (b.c++[.rest tail])=true:=by
         rw[hl];have C3:∀(x y:List V),bj bl.length x=true->bj bl.length y=true->bj bl.length (x++y)=true:=by
          intro x y;induction x with
          |nil=>intro _ h;simpa using h
          |cons v x ih=>intro h1 h2;simp only[ft,bj,bg]at h1⊢;exact⟨h1.1,ih h1.2 h2⟩
         exact C3 _ _ q9 rfl
        refine⟨_,[b'],_,ch,w',.inl ?_,by simp[hl],?_,h c' tail r2 ?_⟩
        ·have:=jL (P:=P) (ρ:=ρ) (o:=o) ho (sv:=.slice none 0 0) (xv:=.slice (some ⟨ids.getD i 0,0,none⟩) (m+1) mF) (by rw[a9,gw];simp only[den]) (by rw[a9,fN];simp only[den]) bG;rw[this];simp only[den];rw[<-hl,kS]
        ·rw[eZ _ _ _ _ hl,e_ _ _ (by rw[hl];exact Fy)];simp only[lits,az];rw[j4 _ Fz,dd];have:=S.new hc dY hh;refine this.perm ?_;rw[bR (lits ids ids bl)];exact(jH).symm
        ·rw[<-kr (ids:=ids),dd,hlen]
     ·exact h.elim
    ·exact h.elim
   ·exact h.elim
  ·exact h.elim
 ·exact h.elim
theorem vU {P:aF} {gl:Nat->Option Nat} {a b:(ba->V)->Op->List VB->List G->VK G->Prop} (t:(ba->V)->Op->Bool) (ha:fP P gl a) (hb:fP P gl b):fP P gl (λe op bl ch K=>cond (t e op) (a e op bl ch K) (b e op bl ch K)):=by
 intro e op ids bl ch R ms w0 w K ρ o hg hl S a9 ho h;cases ht:t e op with
 |true=>simp only[ht]at h;exact ha e op ids bl ch R ms w0 w K ρ o hg hl S a9 ho h
 |false=>simp only[ht]at h;exact hb e op ids bl ch R ms w0 w K ρ o hg hl S a9 ho h
def Yf (e:ba->V) (op:Op):Bool:=match op with
 |.call c=>(match c.args.toList with
  |s::_=>(match e s with|.sl _ _ _ _=>true|_=>false)
  |_=>false)
 |_=>false
def FG (P:aF):(ba->V)->Op->List VB->List G->VK G->Prop:=λe op bl ch K=>cond (Yf e op) (JQ P e op bl ch K) (PE P e op bl ch K)
theorem JW {P:aF} {gl:Nat->Option Nat}:fP (G:=G) P gl (FG P):=vU Yf X7 afS
end Vx
namespace Vx
open Go Sx
section
variable{ids:List Nat} {P:aF} {w:ae}
theorem PF {n:Nat} (h:n<=1000000):i64.wrap (n:Int)=n:=by simp[xw,tI,tJ];omega
theorem run_mk {t el:aG} {n z:Nat} {zc:List V} {inf:TypeInfo} {k1 k2:eS} (hu:P.underlying t=some (.slice el)) (hi:P.info? el=some inf) (hz:eu P el=some (z+1)) (h0:mB P el=some zc) (hl:bY zc=z+1) (h1:1<=n) (hn:n<=1000000) (hb:inf.bytes<=100):
 (V6 t (.int k1 (n:Int)) (.int k2 (n:Int))).run P w=.ok (.slice (some ⟨w.heap.size,0,none⟩) n n) (w.alloc (.cells (ah ids (kR zc n)).toArray el)):=by
 obtain⟨v0,z1,z2⟩:=As (P:=P) (w:=w) (ids:=ids) h0;have hv:v0.cells.size=z+1:=by rw[<-Array.length_toList,z2,kr,hl]
 have Fa:(Array.range (n*(z+1))).map (λi=>v0.cells[i%v0.cells.size]!)=(ah ids (kR zc n)).toArray:=by
  apply fe;rw[ON v0.cells z hv,z2,Xb]
 have hm:inf.bytes*n<=100000000:=iY (Nat.mul_le_mul hb hn) (by decide);have e1:(decide ((n:Int)<0)||decide ((inf.bytes:Int)*(n:Int)>2^48))=false:=by
  have:(inf.bytes:Int)*(n:Int)<=100000000:=by
   have q:=Int.ofNat_le.2 hm;rw[Int.natCast_mul]at q;exact q
  rw[decide_eq_false (by omega),decide_eq_false (by omega)];rfl
 have e2:¬(n*inf.bytes>roomBytes):=by
  have:n*inf.bytes<=100000000:=by rw[Nat.mul_comm];exact hm
  show¬(n*inf.bytes>_);unfold roomBytes;omega
 have e3:¬n*(z+1)=0:=by
  intro h;rcases Nat.mul_eq_zero.1 h with h|h<;>omega
 simp only[V6,bx,dt hu,cz,asInt,asIntOf,dg,Jl hi,PF hn,e1,Bool.false_or,askRoom,if_neg e2,Int.toNat_natCast,gz hz,if_neg e3,z1];simp only[show decide ((n:Int)<0)=false by simp,show decide ((n:Int)>(n:Int))=false by simp,Bool.or_self,Bool.false_eq_true,if_false,bx,dg,cz,gz hz,if_neg e3,z1];rw[Fa];rfl
end
variable{G:Type} [Bl G]
def fi (P:aF):(ba->V)->Op->List VB->List G->VK G->Prop:=λe op bl ch K=>match op with
 |.makeSlice t l c=>(match P.underlying t,e l,e c with
  |some (.slice el),.int _ (.ofNat n),.int _ (.ofNat m)=>(match P.info? el,eu P el,mB P el with
   |some inf,some (z+1),some zc=>cond (aq n m&&(aq (bY zc) (z+1)&&(bu 1 n&&(bu n 1000000&&(bu inf.bytes 100&&(bM bl.length bl&&bj bl.length (kR zc n))))))) (K (.sl bl.length 0 n n) (bl++[⟨true,el,kR zc n⟩]) ch) False
   |_,_,_=>False)
  |_,_,_=>False)
 |_=>False
theorem afT {P:aF} {gl:Nat->Option Nat}:fP (G:=G) P gl (fi P):=by
 intro e op ids bl ch R ms w0 w K ρ o hg hl S a9 ho h;unfold fi at h;split at h
 ·rename_i t l c;split at h
  ·rename_i el k1 n k2 m hu om FH;split at h
   ·rename_i inf z zc hi hz h0;cases hq:aq n m&&(aq (bY zc) (z+1)&&(bu 1 n&&(bu n 1000000&&(bu inf.bytes 100&&(bM bl.length bl&&bj bl.length (kR zc n))))))with
    |false=>rw[hq]at h;exact h.elim
    |true=>
     rw[hq]at h;simp only[bg]at hq;obtain⟨q1,q2,q3,q4,q5,q6,q7⟩:=hq;obtain rfl:=ck q1;have bG:=run_mk (ids:=ids) (w:=w) (k1:=k1) (k2:=k2) hu hi hz h0 (ck q2) (du q3) (du q4) (du q5);obtain⟨g1,g2⟩:=grow hl S ⟨true,el,kR zc n⟩ rfl rfl (by rw[hl];exact q6) (by rw[hl];exact q7);refine⟨_,[w.heap.size],_,ch,_,.inl ?_,g2,g1,h⟩;unfold execOp;rw[ho];simp only[a9,om,FH,den];have e1:cJ n=(n:Int):=rfl;rw[e1,bx,bG,cz,dg,<-hl,kS]
   ·exact h.elim
  ·exact h.elim
 ·exact h.elim
def Yg (e:ba->V) (op:Op):Bool:=match op with
 |.makeSlice _ _ _=>true
 |_=>false
def yv (P:aF):(ba->V)->Op->List VB->List G->VK G->Prop:=λe op bl ch K=>cond (Yg e op) (fi P e op bl ch K) (FG P e op bl ch K)
theorem AG {P:aF} {gl:Nat->Option Nat}:fP (G:=G) P gl (yv P):=vU Yg afT JW
end Vx
namespace Vx
open Go Go.RowKit Go.BigFrame Sx
theorem afU {P:aF} {w:ae} {z T m:Nat} {x:Option aO} {news:List ab} {t tx ty:aG} {xv:ab} (bytes:Nat) (hs:Src P z tx xv m news w) (kP:0<m) (ht:P.underlying t=some (.slice T))
 (hi:(P.info? T).map (λi=>(i.zero.map (·.cells.size),i.size,i.bytes))=some (some z,z,bytes)) (hb:m*bytes<=140737488355328) (h63:m<=maxLen):
 ∃b' c' yq w',(mY #[t,tx] ty #[.slice x 0 0,xv]).run P w=.ok (.slice (some ⟨b',0,none⟩) m c') w'/\Ch [] w w'/\w.heap.size<=b'/\w'.heap[b']?=some (.cells (news++yq).toArray T (0,0))/\(news++yq).length=c'*z/\m<=c':=by
 obtain⟨i,bZ,hi⟩:=gU.1 hi;simp only[bw]at hi;obtain⟨hz,dw,im⟩:=hi;obtain⟨z0,lx,ng⟩:=gU.1 hz;have pa:=hs.newsLen;have jg:Src P i.size tx xv m news w:=by rw[dw];exact hs
 have hold:(Builtin.firstCells i.size 0 (.slice x 0 0)).run P w.drew=.ok ([]:List ab).toArray w.drew:=by
  cases x with
  |none=>exact run_firstCells_none (P:=P) w.drew i.size 0 0 0
  |some a=>exact run_firstCells_some (P:=P) w.drew i.size 0 a 0 0 [] (by simp) (λj v hj=>by simp at hj)
 have bG:=run_append_grow_src (P:=P) w t tx ty T i z0 ht bZ lx x 0 0 [] hold xv m news jg (by omega) (by simp only[maxLen]at h63;omega) (by rw[im];exact growslice_fits (by omega) (by rw[eD];exact hb));simp only[eD]at bG;have dY:=grownCap_ge w m 0 T;refine⟨w.heap.size,grownCap w m 0 T,(n9 z0.cells (grownCap w m 0 T-m)).toList,_,bG,?_,dE _,?_,?_,dY⟩
 ·exact((Ch.refl [] w).drew).trans (Ch.alloc [] w.drew _) (λx hx=>.inl hx)
 ·have:=mX w.drew (.cells ((([]:List ab)++news).toArray++n9 z0.cells (grownCap w m 0 T-m)) T);refine Eq.trans this ?_;congr 2;apply fe;simp
 ·rw[fq,pa,Array.length_toList,size_zeroCells,ng,<-mq];congr 1;omega
variable{G:Type} [Bl G]
def PG (P:aF):(ba->V)->Op->List VB->List G->VK G->Prop:=λe op bl ch K=>match op with
 |.call c=>(match c.callee,c.args.toList,c.argTypes.toList with
  |.builtin .append,[s,xs],[t,tx]=>(match P.underlying t,P.underlying tx with
   |some (.slice T),some (.slice _)=>(match sL P T,e s,e xs with
    |some (z,bI),.sl _ _ 0 0,.sl i 0 (m+1) _=>(match bl[i]?with
     |some b=>(match xV b.c 0 ((m+1)*z)with
      |some C=>cond (lX C&&(bu bI 10000000&&(bu (m+1) 1000000&&(bj bl.length C&&bM bl.length bl))))
       (∀(c':Nat) (u:List ab),m+1<=c'->bY (C++[.rest u])=c'*z->K (.sl bl.length 0 (m+1) c') (bl++[⟨true,T,C++[.rest u]⟩]) ch) False
      |none=>False)
     |none=>False)
    |_,_,_=>False)
   |_,_=>False)
  |_,_,_=>False)
 |_=>False
theorem afV {P:aF} {gl:Nat->Option Nat}:fP (G:=G) P gl (PG P):=by
 intro e op ids bl ch R ms w0 w K ρ o hg hl S a9 ho h;unfold PG at h;split at h
 ·rename_i c;split at h
  ·rename_i s xs t tx eQ cR dO;split at h
   ·rename_i T T' ht gh;split at h
    ·rename_i z bI j0 o0 i m mF bZ gw fN;split at h
     ·rename_i b hb;split at h
      ·rename_i C hC;cases hq:lX C&&(bu bI 10000000&&(bu (m+1) 1000000&&(bj bl.length C&&bM bl.length bl)))with
       |false=>rw[hq]at h;exact h.elim
       |true=>
        rw[hq]at h;simp only[cond_true]at h;simp only[bg]at hq;obtain⟨q4,q5,q6,q9,Fy⟩:=hq;have q5:=du q5;have q6:=du q6;have aM:=(fE hl S hb).2;obtain⟨g1,g2,g3⟩:=xW (ids:=ids) hC;rw[List.drop_zero]at g1;have vS:(ah ids C).length=(m+1)*z:=by rw[<-g1,u9];omega
        have fH:Src P z tx (.slice (some ⟨ids.getD i 0,0,none⟩) (m+1) mF) (m+1) (ah ids C) w:=by
         refine rU w gh ⟨ids.getD i 0,0,none⟩ (m+1) mF _ vS (λj u hj=>?_) (λu hu=>Ar q4 u hu);rw[iE,cell_of aM];rw[<-g1]at hj;have xK:j<(m+1)*z:=by
          rcases cN j ((m+1)*z)with h|h
          ·exact h
          ·rw[iK (by rw[u9];omega)]at hj;cases hj
         rw[V7 xK]at hj;simpa using hj
        have kV:(m+1)*bI<=140737488355328:=iY (Nat.mul_le_mul q6 q5) (by decide);obtain⟨nq,ar,iy⟩:=c;simp only at eQ cR dO;have e2:ar=#[s,xs]:=by rw[<-cR]
        have e3:iy=#[t,tx]:=by rw[<-dO]
        subst eQ e2 e3;obtain⟨b',c',tail,w',bG,hc,dY,hh,hlen,r2⟩:=afU (P:=P) (ty:=o.type) (x:=some ⟨ids.getD j0 0,o0,none⟩) bI fH (by omega) ht (Fx bZ) kV (iY q6 (by decide));have dd:∀(is:List Nat) (u:List ab),ah is (C++[.rest u])=ah is C++u:=λis u=>by
         rw[iG];simp[ah,cl]
        have Fz:bj ids.length (C++[.rest tail])=true:=by
         rw[hl];have C3:∀(x y:List V),bj bl.length x=true->bj bl.length y=true->bj bl.length (x++y)=true:=by
          intro x y;induction x with
          |nil=>intro _ h;simpa using h
          |cons v x ih=>intro h1 h2;simp only[ft,bj,bg]at h1⊢;exact⟨h1.1,ih h1.2 h2⟩
         exact C3 _ _ q9 rfl
        refine⟨_,[b'],_,ch,w',.inl ?_,by simp[hl],?_,h c' tail r2 ?_⟩
        ·have:=jL (P:=P) (ρ:=ρ) (o:=o) ho (sv:=.slice (some ⟨ids.getD j0 0,o0,none⟩) 0 0) (xv:=.slice (some ⟨ids.getD i 0,0,none⟩) (m+1) mF) (by rw[a9,gw];simp only[den]) (by rw[a9,fN];simp only[den]) bG;rw[this];simp only[den];rw[<-hl,kS]
        ·rw[eZ _ _ _ _ hl,e_ _ _ (by rw[hl];exact Fy)];simp only[lits,az];rw[j4 _ Fz,dd];have:=S.new hc dY hh;refine this.perm ?_;rw[bR (lits ids ids bl)];exact(jH).symm
        ·rw[<-kr (ids:=ids),dd,hlen]
      ·exact h.elim
     ·exact h.elim
    ·exact h.elim
   ·exact h.elim
  ·exact h.elim
 ·exact h.elim
def PH (P:aF):(ba->V)->Op->List VB->List G->VK G->Prop:=λe op bl ch K=>match op with
 |.call c=>(match c.callee,c.args.toList,c.argTypes.toList with
  |.builtin .append,[s,xs],[t,tx]=>(match P.underlying t,P.underlying tx with
   |some (.slice T),some (.slice _)=>(match P.info? T,e s,e xs with
    |some _,.sl j o n c,.sl _ _ 0 _=>cond (bu n c) (K (.sl j o n c) bl ch) False
    |some _,.raw (.slice none 0 0),.raw (.slice none 0 0)=>K (.raw (.slice none 0 0)) bl ch
    |_,_,_=>False)
   |_,_=>False)
  |_,_,_=>False)
 |.typeAssert x _ t true=>(match e x,P.underlying t with
  |.lV t' v,some (.struct _)=>cond (aq t' t) (K (.an [v,.bool true]) bl ch) False
  |_,_=>False)
 |_=>False
theorem afW {P:aF} {gl:Nat->Option Nat}:fP (G:=G) P gl (PH P):=by
 intro e op ids bl ch R ms w0 w K ρ o hg hl S a9 ho h;unfold PH at h;split at h
 ·rename_i c;split at h
  ·rename_i s xs t tx eQ cR dO;split at h
   ·rename_i T T' ht gh;obtain⟨nq,ar,iy⟩:=c;simp only at eQ cR dO;have e2:ar=#[s,xs]:=by rw[<-cR]
    have e3:iy=#[t,tx]:=by rw[<-dO]
    subst eQ e2 e3;split at h
    ·rename_i inf j o0 n c i o1 c1 bZ gw fN;cases hq:bu n c with
     |false=>rw[hq]at h;exact h.elim
     |true=>
      rw[hq]at h;have bG:=run_append_nothing (P:=P) w t tx o.type T inf ht bZ (some ⟨ids.getD j 0,o0,none⟩) n c (du hq) (.slice (some ⟨ids.getD i 0,o1,none⟩) 0 c1) (rU w gh _ 0 c1 [] (by simp) (λj u hj=>by simp at hj) (λu hu=>by simp at hu));refine⟨_,[],bl,ch,w,.inl ?_,by simpa using hl,by simpa using S,h⟩;have:=jL (P:=P) (ρ:=ρ) (o:=o) ho (by rw[a9,gw];simp only[den]) (by rw[a9,fN];simp only[den]) bG;rw[this];simp only[den,cQ]
    ·rename_i inf bZ gw fN;have bG:=run_append_nothing (P:=P) w t tx o.type T inf ht bZ none 0 0 (dE _) (.slice none 0 0) (Src.ofNil w gh 0);refine⟨_,[],bl,ch,w,.inl ?_,by simpa using hl,by simpa using S,h⟩;have:=jL (P:=P) (ρ:=ρ) (o:=o) ho (by rw[a9,gw];simp only[den]) (by rw[a9,fN];simp only[den]) bG;rw[this];simp only[den]
    ·exact h.elim
   ·exact h.elim
  ·exact h.elim
 ·rename_i x xt t;split at h
  ·rename_i t' v fs hx hu;cases hq:aq t' t with
   |false=>rw[hq]at h;exact h.elim
   |true=>
    rw[hq]at h;obtain rfl:=ck hq;refine⟨_,[],bl,ch,w,.inl ?_,by simpa using hl,by simpa using S,h⟩;unfold execOp;simp only[ho,a9,hx,den,aD,Instr.typeAssert,bx,dt hu,cz,if_true,dg,cQ];try rfl
  ·exact h.elim
 ·exact h.elim
def Yh (e:ba->V) (op:Op):Bool:=match op with
 |.call c=>(match c.args.toList with
  |[_,x]=>(match e x with|.sl _ _ 0 _=>true|.raw (.slice none 0 0)=>true|_=>false)
  |_=>false)
 |.typeAssert .. =>true
 |_=>false
def Yi (e:ba->V) (op:Op):Bool:=match op with
 |.call c=>(match c.args.toList with
  |s::_=>(match e s with|.sl _ _ 0 0=>true|_=>false)
  |_=>false)
 |_=>false
def FI (P:aF):(ba->V)->Op->List VB->List G->VK G->Prop:=λe op bl ch K=>cond (Yh e op) (PH P e op bl ch K) (cond (Yi e op) (PG P e op bl ch K) (yv P e op bl ch K))
theorem JX {P:aF} {gl:Nat->Option Nat}:fP (G:=G) P gl (FI P):=vU Yh afW (vU Yi afV AG)
end Vx
namespace Go.Proofs.YtggfpcggakghnaaGreatDoor
section
open Go Go.RowKit Go.BigFrame Sx Vx
def C5:List Nat->List V->Nat->Option V
 |i::is,v::vs,t=>bif aq i t then some v else C5 is vs t
 |_,_,_=>none
def JY (ix:List Nat) (vs:List V):Nat->Nat->List (Option V)
 |0,_=>[]
 |n+1,i=>C5 ix vs i::JY ix vs n (i+1)
def FJ:List Nat->List V->List V
 |[],_=>[]
 |i::is,fr=>nth fr i::FJ is fr
theorem PI {n:Nat} {fr:List V}:∀(ix:List Nat) (vs:List V),FJ ix fr=vs->bj n vs=true->∀t v,C5 ix vs t=some v->nth fr t=v/\cK n v=true
 |[],vs,_,_,t,v,h=>by cases vs<;>cases h
 |i::is,[],h,_,t,v,_=>by cases h
 |i::is,u::vs,h,hw,t,v,hl=>by
  simp only[FJ,List.cons.injEq]at h;simp only[bj,bg]at hw;unfold C5 at hl;cases hb:aq i t with
  |true=>
   rw[hb]at hl;cases hl;obtain rfl:=ck hb;exact⟨h.1,hw.1⟩
  |false=>
   rw[hb]at hl;exact PI is vs h.2 hw.2 t v hl
theorem PJ {n:Nat} {dP:List V} {ix:List Nat} {vs:List V} (h:∀t v,C5 ix vs t=some v->nth dP t=v/\cK n v=true):∀(N i:Nat) (fr:List V),fr.length=N->(∀k,nth dP (i+k)=nth fr k)->CK n (JY ix vs N i) fr
 |0,_,[],_,_=>trivial
 |0,_,_::_,hl,_=>by simp at hl
 |N+1,i,[],hl,_=>by simp at hl
 |N+1,i,v::fr,hl,hn=>by
  unfold JY;have ih:=PJ h N (i+1) fr (by simpa using hl) (λk=>by have:=hn (k+1);simp only[jM,jN,jy]at this;rw[<-this];congr 1;omega);have h0:=hn 0;simp only[jM,jN,jy,oR]at h0;cases hk:C5 ix vs i with
  |none=>exact ih
  |some u=>
   obtain⟨h1,h2⟩:=h i u hk;exact⟨h0.symm.trans h1,h2,ih⟩
section
variable{G:Type} {X:Type}
def FK (dG:X->List V) (bl:X->List VB) (ch:X->List G) (vs:List V) (b:List VB) (c:List G):Prop:=∃x,vs=dG x/\b=bl x/\c=ch x
def FL (m:X->Nat) (dG:X->List V) (bl:X->List VB) (ch:X->List G) (x:X) (vs:List V) (b:List VB) (c:List G):Prop:=∃y,m y<m x/\vs=dG y/\b=bl y/\c=ch y
def JZ (m:X->Nat) (N n0:Nat) (ix:List Nat) (dG:X->List V) (bl:X->List VB) (ch:X->List G) (h1:∀x,(bl x).length=n0) (h2:∀x,bM n0 (bl x)=true) (h3:∀x,bj n0 (dG x)=true):Lp G where
 X:=X
 m:=m
 fr x:=JY ix (dG x) N 0
 bl:=bl
 ch:=ch
 OU fr b c:=aq fr.length N=true/\FK dG bl ch (FJ ix fr) b c
 en x fr b c:=aq fr.length N=true/\FL m dG bl ch x (FJ ix fr) (b.take n0) c
 Xm:=by
  rintro fr b c ⟨hl,x,hv,rfl,rfl⟩;refine⟨x,?_,rfl,rfl⟩;rw[h1];exact PJ (PI ix _ hv (h3 x)) N 0 fr (ck hl) (λk=>by rw[eD])
 ok:=by
  rintro x fr b c ⟨hl,y,hm,hv,hb,rfl⟩;refine⟨y,hm,?_,by rw[h1,h1],by rw[h1];exact h2 y,⟨b.drop n0,?_⟩,rfl⟩
  ·rw[h1];exact PJ (PI ix _ hv (h3 y)) N 0 fr (ck hl) (λk=>by rw[eD])
  ·rw[<-hb,jv]
end
def ug {G:Type} [Bl G] (P:aF) (gl:Nat->Option Nat) (L:List (bK G)) (lp:Nat->Option (Lp G)):Ctx G:=⟨P,rj L,gl,uc L,Jt,OT,λi _=>lp i⟩
theorem aC.TL {G:Type} [Bl G] {P:aF} {gl:Nat->Option Nat} {L:List (bK G)} {lp:Nat->Option (Lp G)} (h:aC P gl L):∀f c,(ug P gl L lp).T f=some c->Sound (ug P gl L lp).P (ug P gl L lp).gl f c:=h.T
theorem aC.QL {G:Type} [Bl G] {P:aF} {gl:Nat->Option Nat} {L:List (bK G)} {lp:Nat->Option (Lp G)} (h:aC P gl L):pD (ug P gl L lp):=h.Q
def cU:Nat->Option Nat:=λ_=>none
def PK {G:Type} (i:Nat) (I:Lp G):Nat->Option (Lp G):=λj=>bif aq j i then some I else none
def cH (k:Nat):Int:=([1116352408,1899447441,3049323471,3921009573,961987163,1508970993,2453635748,2870763221,3624381080,310598401,607225278,1426881987,1925078388,2162078206,2614888103,3248222580,3835390401,4022224774,264347078,604807628,770255983,1249150122,1555081692,1996064986,2554220882,2821834349,2952996808,3210313671,3336571891,3584528711,113926993,338241895,666307205,773529912,1294757372,1396182291,1695183700,1986661051,2177026350,2456956037,2730485921,2820302411,3259730800,3345764771,3516065817,3600352804,4094571909,275423344,430227734,506948616,659060556,883997877,958139571,1322822218,1537002063,1747873779,1955562222,2024104815,2227730452,2361852424,2428436474,2756734187,3204031479,3329325298]:List Int).getD k 0
def oq (n:Nat) (x:Int):Int:=bits .or .u32 (u32.wrap (x*2^(32-n))) (jd x (2^n))
def yw:QF:=⟨202,λargs _=>match args with
 |[.int .u32 a,.int .i64 (.ofNat n)]=>(match n with
  |2|6|7|11|13|17|18|19|22|25=>some (True,.int .u32 (oq n a))
  |_=>none)
 |_=>none⟩
theorem vq0 {f:Nat} {xs:List V} {v:V} {n:Nat} (h:∀K,eb prog [] n f xs K=K v) (ha:bj 0 xs=true) (hv:cK 0 v=true) {ids:List Nat} {w:ae}:aS prog f (aD ids xs).toArray w λx w'=>x=den ids v/\Ch [] w w':=
 C2 bH.nil n (by rw[h]) ha hv ids w
theorem Yj (gl:Nat->Option Nat):yw.Ok prog gl:=by
 intro args bl p_ v_ h hp ids w _ _;unfold yw at h;dsimp only at h;split at h
 ·rename_i a n;split at h<;>first|cases h;done|(simp only[aV,bw]at h;obtain⟨rfl,rfl⟩:=h;exact vq0 (n:=30) (λK=>by kernel_rfl) rfl rfl)
 ·cases h
def w1E (f:Nat->Int) (i:Int):Int:=bits .or .u32 (bits .or .u32 (bits .or .u32 (u32.wrap (u32.wrap (f (0+(i64.wrap (4*i)).toNat))*2^24)) (u32.wrap (u32.wrap (f (0+(i64.wrap (i64.wrap (4*i)+1)).toNat))*2^16)))
 (u32.wrap (u32.wrap (f (0+(i64.wrap (i64.wrap (4*i)+2)).toNat))*2^8))) (u32.wrap (f (0+(i64.wrap (i64.wrap (4*i)+3)).toNat)))
def AH (f:Nat->Int):Nat->Nat->Int
 |0=>λ_=>0
 |k+1=>ni (AH f k) (0+((k:Nat):Int).toNat) (w1E f (k:Nat))
def w2E (V:Nat->Int) (k:Int):Int:=
 let at_:=λd:Int=>V (0+(i64.wrap (k-d)).toNat)
 u32.wrap (u32.wrap (u32.wrap (at_ 16+at_ 7)+bits .xor .u32 (bits .xor .u32 (oq 7 (at_ 15)) (oq 18 (at_ 15))) (jd (at_ 15) (2^3)))+bits .xor .u32 (bits .xor .u32 (oq 17 (at_ 2)) (oq 19 (at_ 2))) (jd (at_ 2) (2^10)))
def l6 (f:Nat->Int):Nat->Nat->Int
 |0=>AH f 16
 |k+1=>ni (l6 f k) (0+((16+k:Nat):Int).toNat) (w2E (l6 f k) ((16+k:Nat):Int))
def l8 (a b c d e f g h:Int):Nat->Int:=λj=>([a,b,c,d,e,f,g,h]:List Int).getD j 0
def rE (N W:Nat->Int) (k:Int):Nat->Int:=(l8 (u32.wrap ((u32.wrap ((u32.wrap ((u32.wrap ((u32.wrap ((N 7)+(bits .xor .u32 (bits .xor .u32 (oq 6 (N 4)) (oq 11 (N 4))) (oq 25 (N 4)))))+(bits .or .u32 (bits .and .u32 (N 4) (N 5)) (bits .and .u32 (bits .xor .u32 4294967295 (N 4)) (N 6)))))+(cH (0+(k).toNat))))+(W (0+(k).toNat))))+(u32.wrap ((bits .xor .u32 (bits .xor .u32 (oq 2 (N 0)) (oq 13 (N 0))) (oq 22 (N 0)))+(bits .or .u32 (bits .or .u32 (bits .and .u32 (N 0) (N 1)) (bits .and .u32 (N 0) (N 2))) (bits .and .u32 (N 1) (N 2))))))) (N 0) (N 1) (N 2) (u32.wrap ((N 3)+(u32.wrap ((u32.wrap ((u32.wrap ((u32.wrap ((N 7)+(bits .xor .u32 (bits .xor .u32 (oq 6 (N 4)) (oq 11 (N 4))) (oq 25 (N 4)))))+(bits .or .u32 (bits .and .u32 (N 4) (N 5)) (bits .and .u32 (bits .xor .u32 4294967295 (N 4)) (N 6)))))+(cH (0+(k).toNat))))+(W (0+(k).toNat)))))) (N 4) (N 5) (N 6))
def AI (h W:Nat->Int):Nat->Nat->Int
 |0=>h
 |n+1=>rE (AI h W n) W (n:Int)
def uh (h f:Nat->Int):Nat->Int:=λj=>u32.wrap (AI h (l6 f 48) 64 j+h j)
def nv (m:Int) (n:Nat) (X:Prop):Prop:=(0<=m/\m<(n:Int))/\0+m.toNat<n/\X
theorem ot {m:Int} {n:Nat} {X:Prop} (h:0<=m/\m<(n:Int)) (k:X):nv m n X:=⟨h,by omega,k⟩
theorem j6 {x:Int} (h:-9223372036854775808<=x/\x<=9223372036854775807):i64.wrap x=x:=by simp[xw,tI,tJ];omega
section
variable(f:Nat->Int) (K:VK Empty)
def wB (W:Nat->Int):List VB:=[⟨true,⟨205,(0,0)⟩,[.arr .u8 64 f]⟩,⟨true,⟨287,(0,0)⟩,[.arr .u32 64 λ_=>0]⟩,⟨true,⟨287,(0,0)⟩,[.arr .u32 64 W]⟩]
def w3 (i:Int):List V:=[.ptr 0 0,.ptr 1 0,.ptr 2 0,.int .i64 i]
def w1L:Lp Empty:=JZ (X:={i:Nat //i<=16}) (λi=>16-i.1) 89 3 [1,2,3,10] (λi=>w3 (i.1:Int)) (λi=>wB f (AH f i.1)) (λ_=>[]) (λ_=>rfl) (λ_=>rfl) (λ_=>rfl)
def w2L:Lp Empty:=JZ (X:={i:Nat //i<=48}) (λi=>48-i.1) 89 3 [1,2,3,5] (λi=>w3 ((16+i.1:Nat):Int)) (λi=>wB f (l6 f i.1)) (λ_=>[]) (λ_=>rfl) (λ_=>rfl) (λ_=>rfl)
def PL:Nat->Option (Lp Empty):=λj=>match j with|0=>some (w1L f)|2=>some (w2L f)|_=>none
def wX:Prop:=
 (true=true/\FK (λi:{i:Nat //i<=16}=>w3 (i.1:Int)) (λi=>wB f (AH f i.1)) (λ_=>[]) (w3 0) (wB f λ_=>0) ([]:List Empty))/\∀(x:{i:Nat //i<=16}) (g:Nat->ab),cond (decide ((x.1:Int)<16))
  (nv (i64.wrap (4*(x.1:Int))) 64<|nv (i64.wrap (i64.wrap (4*(x.1:Int))+1)) 64<|nv (i64.wrap (i64.wrap (4*(x.1:Int))+2)) 64<|nv (i64.wrap (i64.wrap (4*(x.1:Int))+3)) 64<|nv (x.1:Int) 64
   (true=true/\FL (λi:{i:Nat //i<=16}=>16-i.1) (λi=>w3 (i.1:Int)) (λi=>wB f (AH f i.1)) (λ_=>[]) x (w3 (i64.wrap ((x.1:Int)+1))) (wB f (AH f (x.1+1))) ([]:List Empty)))
  ((true=true/\FK (λi:{i:Nat //i<=48}=>w3 ((16+i.1:Nat):Int)) (λi=>wB f (l6 f i.1)) (λ_=>[]) (w3 16) (wB f (AH f x.1)) ([]:List Empty))/\∀(y:{i:Nat //i<=48}) (g:Nat->ab),cond (decide (((16+y.1:Nat):Int)<64))
    (nv (i64.wrap (((16+y.1:Nat):Int)-15)) 64<|nv (i64.wrap (((16+y.1:Nat):Int)-2)) 64<|True/\True/\True/\True/\(nv (i64.wrap (((16+y.1:Nat):Int)-16)) 64<|nv (i64.wrap (((16+y.1:Nat):Int)-7)) 64<|nv ((16+y.1:Nat):Int) 64
     (true=true/\FL (λi:{i:Nat //i<=48}=>48-i.1) (λi=>w3 ((16+i.1:Nat):Int)) (λi=>wB f (l6 f i.1)) (λ_=>[]) y (w3 (i64.wrap (((16+y.1:Nat):Int)+1))) (wB f (l6 f (y.1+1))) ([]:List Empty))))
    (K (.agg [.arr .u32 64 (l6 f y.1)]) [] []))
theorem afX:bo (ug prog cU (qL Empty [yw]) (PL f)) 60 201 [.agg [.arr .u8 64 f]] [] [] (br 0 K)=wX f K:=by kernel_rfl
end
theorem afY (f:Nat->Int):wX f λv _ _=>v=.agg [.arr .u32 64 (l6 f 48)]:=by
 refine⟨⟨rfl,⟨0,by omega⟩,rfl,rfl,rfl⟩,λx g=>aI (λh=>?_) λh=>?_⟩
 ·have hx:(x.1:Int)<16:=of_decide_eq_true h;have e:=j6 (x:=4*(x.1:Int)) (by omega);have e1:=j6 (x:=4*(x.1:Int)+1) (by omega);have e2:=j6 (x:=4*(x.1:Int)+2) (by omega);have e3:=j6 (x:=4*(x.1:Int)+3) (by omega);rw[e,e1,e2,e3];refine ot (by omega) (ot (by omega) (ot (by omega) (ot (by omega) (ot (by omega) ⟨rfl,⟨x.1+1,by omega⟩,by show 16-(x.1+1)<16-x.1;omega,?_,rfl,rfl⟩))));rw[j6 (by omega)];rfl
 ·have hx:x.1=16:=by have:=of_decide_eq_false h;have:=x.2;omega
  rw[hx];refine⟨⟨rfl,⟨0,by omega⟩,rfl,rfl,rfl⟩,λy g=>aI (λh=>?_) λh=>?_⟩
  ·have hy:((16+y.1:Nat):Int)<64:=of_decide_eq_true h;rw[j6 (x:=((16+y.1:Nat):Int)-15) (by omega),j6 (x:=((16+y.1:Nat):Int)-2) (by omega),j6 (x:=((16+y.1:Nat):Int)-16) (by omega),j6 (x:=((16+y.1:Nat):Int)-7) (by omega)];refine ot (by omega) (ot (by omega) ⟨trivial,trivial,trivial,trivial,ot (by omega) (ot (by omega) (ot (by omega) ⟨rfl,⟨y.1+1,by omega⟩,by show 48-(y.1+1)<48-y.1;omega,?_,rfl,rfl⟩))⟩);rw[j6 (by omega)];rfl
  ·have hy:y.1=48:=by have:=of_decide_eq_false h;have:=y.2;omega
   rw[hy]
def FM:QF:=⟨201,λargs _=>match args with
 |[.agg [.arr .u8 64 f]]=>some (True,.agg [.arr .u32 64 (l6 f 48)])
 |_=>none⟩
theorem afZ (gl:Nat->Option Nat):FM.Ok prog gl:=by
 intro args bl p_ v_ h hp ids w _ _;unfold FM at h;dsimp only at h;split at h
 ·rename_i f;simp only[aV,bw]at h;obtain⟨rfl,rfl⟩:=h;have hv:bo (ug prog cU (qL Empty [yw]) (PL f)) 60 201 [.agg [.arr .u8 64 f]] [] [] (br 0 λv _ _=>v=.agg [.arr .u32 64 (l6 f 48)]):=by rw[afX];exact afY f
  have dF:=kU (G:=Empty) (P:=prog) (gl:=cU) (bH.cons (Yj _) bH.nil);refine(eG (C:=ug prog cU (qL Empty [yw]) (PL f)) (_root_.Go.Proofs.YtggfpcggakghnaaGreatDoor.aC.TL dF) (_root_.Go.Proofs.YtggfpcggakghnaaGreatDoor.aC.QL dF) 60 (ids:=[]) (bl:=[]) (ch:=[]) (R:=[]) (ms:=[]) (w0:=w) (w:=w) (λg i h=>nomatch h) rfl (St.nil [] w) hv).mono ?_;rintro x w' ⟨y,more,bl',ch',rfl,h1,S',hK⟩;obtain⟨v2,cB,bl2,e,_,_,rfl⟩:=hU (n0:=0) h1 (by simp) S' hK;exact⟨e.trans rfl,S'.ch⟩
 ·cases h
section
variable(t:Nat) (h f:Nat->Int) (K:VK Empty)
def i8 (h:Nat->Int):List V:=[.int .u32 (h 0),.int .u32 (h 1),.int .u32 (h 2),.int .u32 (h 3),.int .u32 (h 4),.int .u32 (h 5),.int .u32 (h 6),.int .u32 (h 7)]
def pG:VB:=⟨false,⟨t,(0,0)⟩,[.arr .u32 64 cH]⟩
def bB (N:Nat->Int):List VB:=[pG t,⟨true,⟨253,(0,0)⟩,i8 h⟩,⟨true,⟨205,(0,0)⟩,[.arr .u8 64 f]⟩,⟨true,⟨253,(0,0)⟩,i8 λ_=>0⟩,⟨true,⟨287,(0,0)⟩,[.arr .u32 64 (l6 f 48)]⟩,⟨true,⟨253,(0,0)⟩,i8 N⟩]
def b6 (i:Int):List V:=[.ptr 1 0,.ptr 2 0,.ptr 3 0,.ptr 4 0,.ptr 5 0,.int .i64 i]
def bL:Lp Empty:=JZ (X:={i:Nat //i<=64}) (λi=>64-i.1) 113 6 [2,3,4,5,6,17] (λi=>b6 (i.1:Int)) (λi=>bB t h f (AI h (l6 f 48) i.1)) (λ_=>[]) (λ_=>rfl) (λ_=>rfl) (λ_=>rfl)
def nx:Nat->Option Nat:=λg=>bif aq g 1 then some 0 else none
def bX:Prop:=True/\(true=true/\FK (λi:{i:Nat //i<=64}=>b6 (i.1:Int)) (λi=>bB t h f (AI h (l6 f 48) i.1)) (λ_=>[]) (b6 0) (bB t h f h) ([]:List Empty))/\∀(x:{i:Nat //i<=64}) (g:Nat->ab),cond (decide ((x.1:Int)<64))
 (nv (x.1:Int) 64<|nv (x.1:Int) 64<|True/\True/\True/\True/\True/\True/\
  (true=true/\FL (λi:{i:Nat //i<=64}=>64-i.1) (λi=>b6 (i.1:Int)) (λi=>bB t h f (AI h (l6 f 48) i.1)) (λ_=>[]) x (b6 (i64.wrap ((x.1:Int)+1))) (bB t h f (AI h (l6 f 48) (x.1+1))) ([]:List Empty)))
 (K (.agg (i8 λj=>u32.wrap (AI h (l6 f 48) x.1 j+h j))) [pG t] [])
theorem af0:bo (ug prog nx (qL Empty [yw,FM]) (PK 0 (bL t h f))) 60 163 [.agg (i8 h),.agg [.arr .u8 64 f]] [pG t] [] (br 1 K)=bX t h f K:=by kernel_rfl
end
theorem af1 (t:Nat) (h f:Nat->Int):bX t h f λv _ _=>v=.agg (i8 (uh h f)):=by
 refine⟨trivial,⟨rfl,⟨0,by omega⟩,rfl,rfl,rfl⟩,λx g=>aI (λhh=>?_) λhh=>?_⟩
 ·have hx:(x.1:Int)<64:=of_decide_eq_true hh;refine ot (by omega) (ot (by omega) ⟨trivial,trivial,trivial,trivial,trivial,trivial,rfl,⟨x.1+1,by omega⟩,by show 64-(x.1+1)<64-x.1;omega,?_,rfl,rfl⟩);rw[j6 (by omega)];rfl
 ·have hx:x.1=64:=by have:=of_decide_eq_false hh;have:=x.2;omega
  rw[hx];rfl
theorem af2 (t:Nat) (h f:Nat->Int) {ids:List Nat} {w:ae} (hG:w.heap[1]?=some (.cells (au .u32 64 cH) t (0,0))):aS prog 163 (aD ids [.agg (i8 h),.agg [.arr .u8 64 f]]).toArray w λx w'=>x=den ids (.agg (i8 (uh h f)))/\Ch [] w w':=by
 have hv:bo (ug prog nx (qL Empty [yw,FM]) (PK 0 (bL t h f))) 60 163 [.agg (i8 h),.agg [.arr .u8 64 f]] [pG t] [] (br 1 λv _ _=>v=.agg (i8 (uh h f))):=by rw[af0];exact af1 t h f
 have dF:=kU (G:=Empty) (P:=prog) (gl:=nx) (bH.cons (Yj _) (bH.cons (afZ _) bH.nil));have S0:St [] w (lits [1] [1] [pG t]++[]) w:=St.given (w:=w) [(1,.cells (ah [1] [.arr .u32 64 cH]).toArray t (0,0))] (by
  intro p hp;simp only[ig]at hp;subst hp;have e:(ah [1] [.arr .u32 64 cH]).toArray=au .u32 64 cH:=by simp[ah,cl,au]
  rw[e];exact hG)
 have e0:∀ids,aD ids [.agg (i8 h),.agg [.arr .u8 64 f]]=aD [1] [.agg (i8 h),.agg [.arr .u8 64 f]]:=λ_=>rfl;rw[e0];refine(eG (C:=ug prog nx (qL Empty [yw,FM]) (PK 0 (bL t h f))) (_root_.Go.Proofs.YtggfpcggakghnaaGreatDoor.aC.TL dF) (_root_.Go.Proofs.YtggfpcggakghnaaGreatDoor.aC.QL dF) 60 (ids:=[1]) (bl:=[pG t]) (ch:=[]) (R:=[]) (λg i h=>by
  have h:nx g=some i:=h;unfold nx at h;cases hb:aq g 1 with
  |false=>rw[hb]at h;cases h
  |true=>rw[hb]at h;cases h;exact⟨by simp,by simp[ij,ck hb]⟩) rfl S0 hv).mono ?_
 rintro x w' ⟨y,more,bl',ch',rfl,h1,S',hK⟩;obtain⟨v2,cB,bl2,e,_,_,rfl⟩:=hU (n0:=1) h1 (by simp) S' hK;exact⟨e.trans rfl,S'.ch⟩
structure pH (p:Prop):Prop where
 h:p
structure gk where
 bl:List ai
 b:Nat
 o:Nat
 n:Nat
 f:Nat->Int
 h:∀w:ae,(∀y∈bl,w.heap[y.id]?=some y.obj)->cd w b o n f
instance:Bl gk:=⟨λg=>g.bl⟩
def J0 (N:Nat):(ba->V)->Op->List VB->List gk->VK gk->Prop:=λe op bl ch K=>match op with
 |.makeSlice t l c=>(match prog.underlying t,e l,e c with
  |some (.slice 5),.int .i64 m,.int .i64 m'=>cond (bM bl.length bl) ((m=(N:Int)/\m'=(N:Int))/\K (.sl bl.length 0 N N) (bl++[⟨true,⟨5,(0,0)⟩,[.arr .u8 N λ_=>0]⟩]) ch) False
  |_,_,_=>False)
 |.call c=>(match c.callee,c.args.toList,c.argTypes.toList with
  |.builtin .copy,[s,xs],[t,tx]=>(match prog.underlying t,e s,e xs,ch with
   |some (.slice 5),.sl i 0 n c,.raw (.slice (some ⟨b,o,none⟩) m mc),[g]=>(match bl[i]?with
    |some ⟨true,⟨5,(0,0)⟩,[.arr .u8 N' f]⟩=>((g.b=b/\g.o=o/\g.n=m)/\m<=n/\n<=N')/\K (.int .i64 (m:Int)) (bl.set i ⟨true,⟨5,(0,0)⟩,[.arr .u8 N' (dp f 0 m g.f)]⟩) ch
    |_=>False)
   |_,_,_,_=>False)
  |_,_,_=>False)
 |_=>False
theorem C6 (ids:List Nat) (N:Nat) (f:Nat->Int):(ah ids [.arr .u8 N f]).toArray=au .u8 N f:=by simp[ah,cl,au]
theorem Yk {N:Nat} (h0:1<=N) (h1:N<=1000):fP prog (λ_=>none) (J0 N):=by
 intro e op ids bl ch R ms w0 w K ρ o hg hl S a9 ho h;unfold J0 at h;split at h
 ·rename_i t l c;split at h
  ·rename_i m m' hu om FH;cases hq:bM bl.length bl with
   |false=>rw[hq]at h;exact h.elim
   |true=>
    rw[hq]at h;obtain⟨⟨rfl,rfl⟩,hK⟩:=h;obtain⟨inf,sO,im⟩:∃inf,prog.info? 5=some inf/\inf.bytes<=100:=⟨_,rfl,du (by kernel_rfl)⟩;have hz:∀k:Nat,(ah ids (kR [.int .u8 0] k))=(bd k).map λ_=>eg .u8 0:=by
     intro k;induction k with
     |zero=>rfl
     |succ k ih=>rw[kR,iG,ih,vd,eH,mr];rfl
    have bG:=run_mk (P:=prog) (ids:=ids) (w:=w) (t:=t) (el:=5) (n:=N) (z:=0) (zc:=[.int .u8 0]) (inf:=inf) (k1:=.i64) (k2:=.i64) hu sO (by kernel_rfl) (by kernel_rfl) rfl h0 (by omega) im;refine⟨_,[w.heap.size],_,ch,w.alloc (.cells (ah ids (kR [.int .u8 0] N)).toArray 5),.inl ?_,by simp[hl],?_,hK⟩
    ·unfold execOp;simp only[ho,a9,om,FH,den,bx,bG,cz,dg];rw[<-hl,kS]
    ·rw[eZ _ _ _ _ hl,e_ _ _ (by rw[hl];exact hq)];simp only[lits,az,C6];have e1:(ah ids (kR [.int .u8 0] N)).toArray=au .u8 N λ_=>0:=by rw[hz];rfl
     rw[e1];refine(S.new (Ch.alloc [] w _) (dE _) (mX w _)).perm ?_;rw[bR];exact jH.symm
  ·exact h.elim
 ·rename_i c;split at h
  ·rename_i s xs t tx eQ cR dO;split at h
   ·rename_i i n cc b o' m mc g hu gw fN;split at h
    ·rename_i N' f hb;obtain⟨⟨⟨rfl,rfl,rfl⟩,hm,hn⟩,hK⟩:=h;obtain⟨nq,ar,iy⟩:=c;simp only at eQ cR dO;have e2:ar=#[s,xs]:=by rw[<-cR]
     have e3:iy=#[t,tx]:=by rw[<-dO]
     subst eQ e2 e3;obtain⟨hj,aM⟩:=fE hl S hb;rw[C6]at aM;have oh:=(fE hl S hb).2;rw[C6]at oh;have h8:cd w g.b g.o g.n g.f:=g.h w λy hy=>S.at' (tH _ (show y∈g.bl++R from oU _ hy));have E1:Nat.min g.n n=g.n:=Nat.min_eq_left hm;have bG:=run_copy_row (P:=prog) w t tx o.type 5 (ids.getD i 0) 0 n cc ⟨g.b,g.o,none⟩ g.n mc (au .u8 N' f) 5 (bV g.n g.f) hu (by kernel_rfl) oh (by rw[gi,E1]) (λj v hj=>by
      obtain⟨h1,rfl⟩:=xQ hj;rw[iE];exact h8 j h1) (by rw[gi,EW];omega) EY
     have e4:((au .u8 N' f).toList.take 0++bV g.n g.f++(au .u8 N' f).toList.drop (0+(bV g.n g.f).length)).toArray=au .u8 N' (dp f 0 g.n g.f):=by
      rw[gi];exact Od .u8 f (by omega) g.f
     rw[e4]at bG;have gY:ρ s=.slice (some ⟨ids.getD i 0,0,none⟩) n cc:=by rw[a9,gw];simp only[den]
     have rp:ρ xs=.slice (some ⟨g.b,g.o,none⟩) g.n mc:=by rw[a9,fN];simp only[den]
     have hex:=Jb (P:=prog) (ρ:=ρ) (o:=o) ho gY rp bG;rw[gi]at hex;refine⟨.int .i64 (g.n:Int),[],_,_,_,.inl hex,by simpa using hl,?_,hK⟩
     ·simp only[cQ];have fG:=S.step hj rfl (Ch.setRow w _ _) (setRow_heap w (ids.getD i 0) (au .u8 N' f) (au .u8 N' (dp f 0 g.n g.f)) 5 (0,0) oh);have j3:i<(lits ids ids bl).length:=by rw[xZ ids bl hl];rcases cN i bl.length with h'|h';exact h';simp[h']at hb
      rw[<-x_ (ids:=ids) ids bl i _ hl,<-List.set_append_left _ _ j3];simp only[az,C6];exact fG
    ·exact h.elim
   ·exact h.elim
  ·exact h.elim
 ·exact h.elim
def pI (n:Nat):Int:=i64.wrap (i64.wrap (Int.tdiv (i64.wrap (i64.wrap (i64.wrap ((n:Int)+9)+64)-1)) 64)*64)
def af3 (e d:Int) (i:Nat) (F:Nat->Int):Nat->Int:=ni F (0+(i64.wrap (i64.wrap (e-1)-(i:Int))).toNat) (u8.wrap (jd d (2^(8*i))))
def Yl (e d:Int) (F:Nat->Int):Nat->Nat->Int
 |0=>F
 |k+1=>af3 e d k (Yl e d F k)
def pJ (N n:Nat) (f:Nat->Int):Nat->Int:=Yl (pI n) (u64.wrap (u64.wrap (n:Int)*8)) (ni (dp (λ_=>0) 0 n f) (0+((n:Nat):Int).toNat) 128) 8
def J1 (e:Int) (N:Nat) (X:Prop):Nat->Nat->Prop
 |0,_=>X
 |k+1,i=>nv (i64.wrap (i64.wrap (e-1)-(i:Int))) N (J1 e N X k (i+1))
def PM (N n b o:Nat) (g:gk) (K:VK gk):Prop:=(pI n=(N:Int)/\pI n=(N:Int))/\((g.b=b/\g.o=o/\g.n=n)/\n<=N/\N<=N)/\nv (n:Int) N (J1 (pI n) N (K (.sl 0 0 N N) [⟨true,⟨5,(0,0)⟩,[.arr .u8 N (pJ N n g.f)]⟩] [g]) 8 0)
def FN (N:Nat) (h0:1<=N) (h1:N<=1000) (f:fc) (args:List V) (g:gk) (K:VK gk):Prop:=bo (fA prog (λ_=>none) ([]:List (bK gk)) (J0 N) (Yk h0 h1)) 60 f args [] [g] K
theorem af4 (g:gk) (b o n c:Nat) (K:VK gk):FN 64 (by omega) (by omega) 162 [.raw (.slice (some ⟨b,o,none⟩) n c)] g K=PM 64 n b o g K:=by kernel_rfl
theorem af5 (g:gk) (b o n c:Nat) (K:VK gk):FN 128 (by omega) (by omega) 162 [.raw (.slice (some ⟨b,o,none⟩) n c)] g K=PM 128 n b o g K:=by kernel_rfl
def yx (H:Nat->Int):Nat->Int:=λj=>match j%4 with
 |0=>u8.wrap (jd (H (j/4)) (2^24))
 |1=>u8.wrap (jd (H (j/4)) (2^16))
 |2=>u8.wrap (jd (H (j/4)) (2^8))
 |_=>u8.wrap (H (j/4))
def J2:Nat->Int:=l8 1779033703 3144134277 1013904242 2773480762 1359893119 2600822924 528734635 1541459225
def r8 (X:Nat->Int):Nat->Int:=l8 (X 0) (X 1) (X 2) (X 3) (X 4) (X 5) (X 6) (X 7)
def Ym (n:Nat) (f:Nat->Int):Nat->Int:=yx (uh J2 (pJ 64 n f))
def PN (f:Nat->Int) (k:Nat):Nat->Int:=λj=>f (k+j)
def Yn (n:Nat) (f:Nat->Int):Nat->Int:=yx (uh (r8 (uh J2 (pJ 128 n f))) (PN (pJ 128 n f) 64))
def iP (n:Nat) (f:Nat->Int):Nat->Int:=bif bu n 55 then Ym n f else Yn n f
def AJ:QF:=⟨163,λargs bl=>match args,bl with
 |[.agg [.int .u32 a,.int .u32 b,.int .u32 c,.int .u32 d,.int .u32 e,.int .u32 f,.int .u32 g,.int .u32 h],.agg [.arr .u8 64 F]],⟨false,⟨t,(0,0)⟩,[.arr .u32 64 R]⟩::_=>some (R=cH,.agg (i8 (uh (l8 a b c d e f g h) F)))
 |_,_=>none⟩
def PO:Nat->(Nat->Int)->List V
 |64,F=>[.arr .u8 64 F]
 |128,F=>[.arr .u8 64 F,.arr .u8 64 (PN F 64)]
 |n,F=>[.arr .u8 n F]
def AK (N:Nat):c_ gk:=λargs bl ch K=>match args,ch with
 |[.raw (.slice (some ⟨b,o,none⟩) n c)],[g]=>cond (bM bl.length bl) (((g.b=b/\g.o=o/\g.n=n)/\pI n=(N:Int)/\n<N)/\K (.sl bl.length 0 N N) (bl++[⟨true,⟨5,(0,0)⟩,PO N (pJ N n g.f)⟩]) [g]) False
 |_,_=>False
def o4 (x:Int):List V:=[.int .u8 (u8.wrap (jd x (2^24))),.int .u8 (u8.wrap (jd x (2^16))),.int .u8 (u8.wrap (jd x (2^8))),.int .u8 (u8.wrap x)]
def J3 (H:Nat->Int):List V:=o4 (H 0)++(o4 (H 1)++(o4 (H 2)++(o4 (H 3)++(o4 (H 4)++(o4 (H 5)++(o4 (H 6)++o4 (H 7)))))))
theorem af6 (H:Nat->Int) (ids:List Nat):den ids (.agg (J3 H))=.agg (au .u8 32 (yx H)):=by kernel_rfl
section
variable(t:Nat) (g:gk) (b o n c:Nat) (K:VK gk)
theorem af7:bo (bP prog nx (⟨162,false,AK 64⟩::qL gk [AJ])) 60 106 [.raw (.slice (some ⟨b,o,none⟩) n c)] [pG t] [g] (br 1 K)=(((g.b=b/\g.o=o/\g.n=n)/\pI n=((64:Nat):Int)/\n<64)/\cH=cH/\K (.agg (J3 (uh J2 (pJ 64 n g.f)))) [pG t] [g]):=by kernel_rfl
theorem af8:bo (bP prog nx (⟨162,false,AK 128⟩::qL gk [AJ])) 60 106 [.raw (.slice (some ⟨b,o,none⟩) n c)] [pG t] [g] (br 1 K)=(((g.b=b/\g.o=o/\g.n=n)/\pI n=((128:Nat):Int)/\n<128)/\cH=cH/\cH=cH/\K (.agg (J3 (uh (r8 (uh J2 (pJ 128 n g.f))) (PN (pJ 128 n g.f) 64)))) [pG t] [g]):=by kernel_rfl
end
theorem af9 {w:ae} {b o n:Nat} {f:Nat->Int} (h:cd w b o n f):∃g:gk,(g.b=b/\g.o=o/\g.n=n)/\g.f=f/\∃ps:List (Nat×Obj),g.bl=ps.map (λp=>⟨p.1,false,p.2⟩)/\∀p∈ps,w.heap[p.1]?=some p.2:=by
 rcases u6 n with rfl|hn
 ·exact⟨⟨[],b,o,0,f,λ_ _ j hj=>absurd hj (by omega)⟩,⟨rfl,rfl,rfl⟩,rfl,[],rfl,λ_ h=>nomatch h⟩
 ·cases hb:w.heap[b]?with
  |none=>
   have:=h 0 hn;unfold xu at this;simp only[hb]at this;cases this
  |some ob=>
   refine⟨⟨[⟨b,false,ob⟩],b,o,n,f,λw' hw j hj=>?_⟩,⟨rfl,rfl,rfl⟩,rfl,[(b,ob)],rfl,?_⟩
   ·have h1:=h j hj;have h2:w'.heap[b]?=some ob:=hw _ (ig.2 rfl);unfold xu at h1⊢;simp only[hb]at h1;simp only[h2];exact h1
   ·intro p hp;obtain rfl:=ig.1 hp;exact hb
theorem Yo {e:Int} {N:Nat} {X:Prop} (he:e=(N:Int)) (h8:8<=N) (hN:N<=1000) (hX:X):∀k i,i+k<=8->J1 e N X k i
 |0,_,_=>hX
 |k+1,i,h=>by
  have e1:i64.wrap (i64.wrap (e-1)-(i:Int))=(N:Int)-1-(i:Int):=by rw[he,j6 (x:=(N:Int)-1) (by omega),j6 (by omega)]
  unfold J1;rw[e1];exact ot (by omega) (Yo he h8 hN hX k (i+1) (by omega))
theorem Yp {n:Nat} (h:n<=55):pI n=((64:Nat):Int):=by
 unfold pI;rw[j6 (x:=(n:Int)+9) (by omega),j6 (x:=(n:Int)+9+64) (by omega),j6 (x:=(n:Int)+9+64-1) (by omega),Int.tdiv_eq_ediv_of_nonneg (by omega),show((n:Int)+9+64-1)/64=1 by omega];rfl
theorem Yq {n:Nat} (h:56<=n) (h2:n<=119):pI n=((128:Nat):Int):=by
 unfold pI;rw[j6 (x:=(n:Int)+9) (by omega),j6 (x:=(n:Int)+9+64) (by omega),j6 (x:=(n:Int)+9+64-1) (by omega),Int.tdiv_eq_ediv_of_nonneg (by omega),show((n:Int)+9+64-1)/64=2 by omega];rfl
theorem af_ {N:Nat} (h0:1<=N) (h1:N<=1000) {f:Nat} {args:List V} {g:gk} {K:VK gk} (h:pH (FN N h0 h1 f args g K)) {R:List ai} {ms:List Nat} {w0 w:ae} (S:St ms w0 (g.bl++R) w):
 aS prog f (aD [] args).toArray w λv w1=>∃x more b ch,v=den more x/\more.length=b.length/\St ms w0 (lits more more b++ax ch R) w1/\K x b ch:=by
 have S0:St ms w0 (lits [] [] []++ax [g] R) w:=S;exact eG (aC.nil (G:=gk) (P:=prog) (gl:=λ_=>none)).T (aC.nil (G:=gk) (P:=prog) (gl:=λ_=>none)).Q 60 (C:=fA prog (λ_=>none) ([]:List (bK gk)) (J0 N) (Yk h0 h1)) (ids:=[]) (bl:=[]) (ch:=[g]) (R:=R) Gl.none rfl S0 h.h
def J4 (N n:Nat) (g:gk):VK gk:=λv bl ch=>v=.sl 0 0 N N/\bl=[⟨true,⟨5,(0,0)⟩,[.arr .u8 N (pJ N n g.f)]⟩]/\ch=[g]
theorem Yr {N n b o:Nat} {g:gk} (h8:8<=N) (h1:N<=1000) (hg:g.b=b/\g.o=o/\g.n=n) (he:pI n=(N:Int)) (hn:n<N):PM N n b o g (J4 N n g):=
 ⟨⟨he,he⟩,⟨hg,by omega,dE _⟩,ot (by omega) (Yo he h8 h1 ⟨rfl,rfl,rfl⟩ 8 0 (by omega))⟩
theorem aga {N:Nat} (h0:1<=N) (h8:8<=N) (h1:N<=1000) {b o n c:Nat} (g:gk) (cS:pH (FN N h0 h1 162 [.raw (.slice (some ⟨b,o,none⟩) n c)] g (J4 N n g)))
 {R:List ai} {ms:List Nat} {w0 w:ae} (S:St ms w0 (g.bl++R) w):aS prog 162 #[.slice (some ⟨b,o,none⟩) n c] w λv w1=>∃b',v=.slice (some ⟨b',0,none⟩) N N/\St ms w0 (⟨b',true,.cells (au .u8 N (pJ N n g.f)) 5 (0,0)⟩::(g.bl++R)) w1:=by
 have hr:=af_ h0 h1 (f:=162) (args:=[.raw (.slice (some ⟨b,o,none⟩) n c)]) (g:=g) (K:=J4 N n g) cS S;have e0:(aD [] [V.raw (.slice (some ⟨b,o,none⟩) n c)]).toArray=#[.slice (some ⟨b,o,none⟩) n c]:=rfl;rw[e0]at hr;clear cS;refine hr.mono ?_;rintro v w' ⟨y,more,bl',ch',rfl,hl,S',rfl,rfl,rfl⟩
 match more,hl with
 |[b'],_=>
  refine⟨b',rfl,?_⟩;have e:lits [b'] [b'] [⟨true,⟨5,(0,0)⟩,[.arr .u8 N (pJ N n g.f)]⟩]=[⟨b',true,.cells (au .u8 N (pJ N n g.f)) 5 (0,0)⟩]:=by
   simp only[lits,az,C6]
  rw[e]at S';exact S'
theorem agb (ids:List Nat) {N:Nat} (hN:N=64\/N=128) (F:Nat->Int):(ah ids (PO N F)).toArray=au .u8 N F:=by
 rcases hN with rfl|rfl
 ·exact C6 ids 64 F
 ·have e:bd 128=bd 64++(bd 64).map (64+·):=by decide
  unfold PO au;rw[e,qB,mr];simp only[ah,cl,cQ];rfl
theorem agc {N:Nat} (hN:N=64\/N=128) (gl:Nat->Option Nat):Sound prog gl 162 (AK N):=by
 intro args ids bl ch R ms w0 w K hg hl S hc;unfold AK at hc;split at hc
 ·rename_i b o n c g;cases hq:bM bl.length bl with
  |false=>rw[hq]at hc;exact hc.elim
  |true=>
   rw[hq]at hc;obtain⟨⟨Ys,he,hn⟩,hK⟩:=hc;have cS:∃(h0:1<=N) (h1:N<=1000),8<=N/\pH (FN N h0 h1 162 [.raw (.slice (some ⟨b,o,none⟩) n c)] g (J4 N n g)):=by
    rcases hN with rfl|rfl
    ·exact⟨by omega,by omega,by omega,⟨by rw[af4];exact Yr (by omega) (by omega) Ys he hn⟩⟩
    ·exact⟨by omega,by omega,by omega,⟨by rw[af5];exact Yr (by omega) (by omega) Ys he hn⟩⟩
   obtain⟨h0,h1,h8,cS⟩:=cS;have S1:St ms w0 (g.bl++(lits ids ids bl++R)) w:=S.perm (rW _ _ _);refine(aga h0 h8 h1 g cS S1).mono ?_;rintro v w' ⟨b',rfl,S2⟩;refine⟨_,[b'],_,_,?_,by simp[hl],?_,hK⟩
   ·simp only[den];rw[<-hl,kS]
   ·rw[eZ _ _ _ _ hl,e_ _ _ (by rw[hl];exact hq)];simp only[lits,az,agb _ hN];refine S2.perm ?_;show List.Perm ([_]++(g.bl++(lits ids ids bl++R))) ((lits ids ids bl++[_])++(g.bl++R));refine(qG _ (rW _ _ _)).trans ?_;rw[<-bR];exact Et _ List.perm_append_comm
 ·exact hc.elim
theorem agd:AJ.Ok prog nx:=by
 intro args bl p_ v_ h hp ids w hg hm;unfold AJ at h;dsimp only at h;split at h
 ·rename_i a b c d e f g h' F t R bl';simp only[aV,bw]at h;obtain⟨rfl,rfl⟩:=h;subst hp;have h1:=hm.2 0 _ rfl;rw[(hg 1 0 rfl).2]at h1;have e1:(ah ids [.arr .u32 64 cH]).toArray=au .u32 64 cH:=by simp[ah,cl,au]
  rw[e1]at h1;exact af2 t (l8 a b c d e f g h') F h1
 ·cases h
theorem Yt {N n:Nat} (hN:N=64\/N=128) {b o c t:Nat} {f H:Nat->Int} {w:ae} (hG:w.heap[1]?=some (.cells (au .u32 64 cH) t (0,0))) (hB:cd w b o n f) (he:pI n=(N:Int)) (hn:n<N)
 (cS:∀g:gk,(g.b=b/\g.o=o/\g.n=n)->g.f=f->bo (bP prog nx (⟨162,false,AK N⟩::qL gk [AJ])) 60 106 [.raw (.slice (some ⟨b,o,none⟩) n c)] [pG t] [g] (br 1 λv _ _=>v=.agg (J3 H))):
 aS prog 106 #[.slice (some ⟨b,o,none⟩) n c] w λv w1=>v=.agg (au .u8 32 (yx H))/\Ch [] w w1:=by
 obtain⟨g,hg,hf,ps,pC,hh⟩:=af9 hB;have dF:aC prog nx (⟨162,false,AK N⟩::qL gk [AJ]):=aC.cons ⟨agc hN nx,λe=>by cases e⟩ (kU (bH.cons agd bH.nil));have S0:St [] w (lits [1] [1] [pG t]++ax [g] []) w:=by
  have:=St.given (w:=w) ((1,.cells (ah [1] [.arr .u32 64 cH]).toArray t (0,0))::ps) (by
   intro p hp;rcases ca.1 hp with rfl|hp
   ·have e:(ah [1] [.arr .u32 64 cH]).toArray=au .u32 64 cH:=by simp[ah,cl,au]
    rw[e];exact hG
   ·exact hh p hp)
  show St [] w ([_]++(g.bl++[])) w;rw[pC,cQ];exact this
 refine(eG dF.T dF.Q 60 (C:=bP prog nx (⟨162,false,AK N⟩::qL gk [AJ])) (ids:=[1]) (bl:=[pG t]) (ch:=[g]) (R:=[]) (λg i h=>by
  have h:nx g=some i:=h;unfold nx at h;cases hb:aq g 1 with
  |false=>rw[hb]at h;cases h
  |true=>rw[hb]at h;cases h;exact⟨by simp,by simp[ij,ck hb]⟩) rfl S0 (cS g hg hf)).mono ?_
 rintro v w' ⟨y,more,bl',ch',rfl,h1,S',hK⟩;obtain⟨v2,cB,bl2,e,_,_,rfl⟩:=hU (n0:=1) h1 (by simp) S' hK;exact⟨e.trans (af6 H _),S'.ch⟩
theorem PQ (b o n c:Nat) (f:Nat->Int) (hn:n<=119) {tG:aG} (w:ae) (hG:w.heap[1]?=some (.cells (au .u32 64 cH) tG (0,0))) (hB:cd w b o n f):aS prog 106 #[.slice (some ⟨b,o,none⟩) n c] w λv w1=>v=.agg (au .u8 32 (iP n f))/\Ch [] w w1:=by
 unfold iP;by_cases h:n<=55
 ·rw[tB h];exact Yt (.inl rfl) hG hB (Yp h) (by omega) λg hg hf=>by rw[af7,hf];exact⟨⟨hg,Yp h,by omega⟩,rfl,rfl⟩
 ·have hb:bu n 55=false:=by
   cases e:bu n 55 with
   |false=>rfl
   |true=>exact absurd (du e) h
  rw[hb];exact Yt (.inr rfl) hG hB (Yq (by omega) hn) (by omega) λg hg hf=>by rw[af8,hf];exact⟨⟨hg,Yq (by omega) hn,by omega⟩,rfl,rfl,rfl⟩
end
section
open Go Go.RowKit Go.BigFrame Sx
def C7 (f:Nat->Int) (x:Int):Nat->Nat->Int
 |0=>λ_=>0
 |k+1=>ni (C7 f x k) k (bits .xor .u8 (f k) x)
def iQ (f:Nat->Int) (x:Int):Nat->Int:=λj=>bits .xor .u8 (f j) x
theorem Yu (f:Nat->Int) (x:Int):∀(k j:Nat),j<k->C7 f x k j=iQ f x j
 |k+1,j,h=>by
  by_cases e:j=k
  ·subst e;exact WM _ _ _
  ·exact(Oc _ _ e).trans (Yu f x k j (by omega))
theorem agf (f:Nat->Int) (x:Int):au .u8 64 (C7 f x 64)=au .u8 64 (iQ f x):=aev _ λi h=>Yu f x 64 i h
theorem agh {f:Nat->Int} {x:Int} (i:Int) (W:Nat->Int) (h:0<=i) (e:W=C7 f x i.toNat):ni W (0+i.toNat*1) (bits .xor .u8 (f i.toNat) x)=C7 f x (i+1).toNat:=by
 have h1:(i+1).toNat=i.toNat+1:=by omega
 rw[h1,e,eD,Nat.mul_one];rfl
theorem PR {n m c:Nat} {f g:Nat->Int} (e:n=m) (h:∀i,i<m->f i=g i):bD n f c=bD m g c:=by
 subst e;unfold bD;rw[E0 h]
def jC (n1 n2:Nat) (f g h:Nat->Int):Nat->Int:=cj (n1+n2) (cj n1 f g) h
def FO (n1 n2 n3:Nat) (f g h k:Nat->Int):Nat->Int:=cj (n1+n2+n3) (cj (n1+n2) (cj n1 f g) h) k
theorem Yv (f:Nat->Int) (y:Int) (w:ae):
 aS prog 108 #[.agg (au .u8 64 f),.int .u8 y] w λv w1=>∃b,v=.slice (some ⟨b,0,none⟩) 64 64/\w.heap.size<=b/\w1.heap[b]?=some (.cells (au .u8 64 (iQ f y)) 5 (0,0))/\Ch [] w w1:=by
 have S0:=St.nil [] w;refine iL Tryz.func108 rfl ?_;refine aQ (aX ?_);refine eE S0 (λb=>.pointer (some ⟨b,0,none⟩)) (.cells (au .u8 64 f) 205) ?_;intro bE hY dB;refine ak (.slice none 0 0) ?_;refine aT (aP (aQ (aX ?_)));refine eE dB (λb=>.slice (some ⟨b,0,none⟩) 64 64) (.cells (au .u8 64 (λ_=>0)) 5) ?_;intro dq l7 cV;refine fS ?_;refine aT (aP (aQ (aQ (aX ?_))));refine jY cV 1 64 (au .u8 64 f) bE 0 ?_;refine ak (.int .i64 0) ?_;refine aT (aP (jc ?_));refine I9 (λzn za zw=>∃(i:Int) (W:Nat->Int) (pL:Nat->ab),(zn=(64-i).toNat/\0<=i/\i<=64/\W=C7 f y i.toNat)/\za=⟨#[.agg (au .u8 64 f),.int .u8 y,.pointer (some ⟨bE,0,none⟩),undef,.slice none 0 0,.slice (some ⟨dq,0,none⟩) 64 64,(pL 6),(pL 7),.slice (some ⟨dq,0,none⟩) 64 64,.agg (au .u8 64 f),.int .i64 i,(pL 11),(pL 12),(pL 13),(pL 14),(pL 15),(pL 16),(pL 17),(pL 18),(pL 19),(pL 20),undef],[]⟩/\St [] w [⟨dq,true,.cells (au .u8 64 W) 5 (0,0)⟩,⟨bE,true,.cells (au .u8 64 f) 205 (0,0)⟩] zw) _ (λzy l9=>⟨(0:Int),(λ_=>0),(λd=>zy.tmps.getD d undef),⟨rfl,by omega,by omega,rfl⟩,by subst l9;kernel_rfl,cV.re (R:=([]:List ai)) [[⟨dq,true,.cells (au .u8 64 (λ_=>0)) 5 (0,0)⟩],[⟨bE,true,.cells (au .u8 64 f) 205 (0,0)⟩]] [0,1]⟩) ?_;rintro _ _ Yw ⟨i,W,pL,⟨rfl,zf8,zf9,Yx⟩,rfl,pM⟩;refine aQ (aX ?_);refine ak (.bool (decide (i<64))) ?_;refine aT (aP (aQ ?_));refine rZ (decide (i<64)) ?_ ?_
 ·intro mG;have ui:=z6 mG;refine jI (aP (aQ (jc (aQ (aX ?_)))));refine ak (.int .i64 i) ?_;refine aey (e:=5) .u8 64 f .i64 i (by omega) (by omega) ?_;refine ak (.int .i64 i) ?_;refine ak (.int .u8 (f (i).toNat)) ?_;refine aT (aP (aX ?_));refine dJ ?_;refine ak (.int .i64 i) ?_;refine ak (.int .u8 (f (i).toNat)) ?_;refine ak (.int .u8 y) ?_;refine ak (.int .u8 (bits .xor .u8 (f (i).toNat) y)) ?_;refine qQ (e:=5) dq 0 (i).toNat 64 1 64 .i64 i (by omega) (by omega) rfl ?_;refine store_ pM 0 (.int .u8 (bits .xor .u8 (f (i).toNat) y)) dq (0+(i).toNat*1) ?_ (hb:=ckF (t:=5) (kd:=.u8) (n:=64) (f:=W) (by omega));intro C8 pN;have rq:St [] w [⟨dq,true,.cells (au .u8 64 (ni W (0+(i).toNat*1) (bits .xor .u8 (f (i).toNat) y))) 5 (0,0)⟩,⟨bE,true,.cells (au .u8 64 f) 205 (0,0)⟩] C8:=St.stF (t:=5) (kd:=.u8) (n:=64) (f:=W) (i:=0) (off:=(0+(i).toNat*1)) (b:=dq) pN (by omega);refine aT (lq (aP (aX ?_)));refine kO .i64 (i+1) (zV _ (by omega)) ?_;refine ak (.int .i64 (i+1)) ?_;refine aT ?_;refine EX λzy l9=>?_;exact⟨_,by omega,(i+1),(ni W (0+(i).toNat*1) (bits .xor .u8 (f (i).toNat) y)),(λd=>zy.tmps.getD d undef),⟨rfl,by omega,by omega,agh i W (by omega) Yx⟩,by subst l9;kernel_rfl,rq.re (R:=([]:List ai)) [[⟨dq,true,.cells (au .u8 64 (ni W (0+(i).toNat*1) (bits .xor .u8 (f (i).toNat) y))) 5 (0,0)⟩],[⟨bE,true,.cells (au .u8 64 f) 205 (0,0)⟩]] [0,1]⟩
 intro FP;have yy:=z7 FP;refine wp_exit (ln (ln (vj (aP (aQ (aX ?_))))));refine dJ ?_;refine fS ?_;refine aT (aP (gv ?_));refine gf rfl (fF [.tmp 4] [.slice (some ⟨dq,0,none⟩) 64 64] (.slice (some ⟨dq,0,none⟩) 64 64) ⟨jf,trivial⟩) ?_;have ze:au .u8 64 W=au .u8 64 (iQ f y):=by rw[Yx,show i.toNat=64 by omega];exact agf f y
 exact⟨dq,rfl,(pM.own 0 _ rfl rfl).resolve_left (by simp),by rw[<-ze];exact pM.at_ 0 _ rfl,pM.ch⟩
theorem Yy (pb:Nat) (b0 o0 n0 c0:Nat) (f0:Nat->Int) (b1 o1 n1 c1:Nat) (f1:Nat->Int) (h0:0<n0) (hn:n0+n1<=1000000) (w:ae) (hp:w.heap[pb]?=some (.cells #[.slice (some ⟨b0,o0,none⟩) n0 c0,.slice (some ⟨b1,o1,none⟩) n1 c1] 23 (0,0))) (AL:cd w b0 o0 n0 f0) (vV:cd w b1 o1 n1 f1):
 aS prog 107 #[.slice (some ⟨pb,0,none⟩) 2 2] w λv w1=>∃b c1,v=.slice (some ⟨b,0,none⟩) (n0+n1) c1/\n0+n1<=c1/\w.heap.size<=b/\w1.heap[b]?=some (.cells (bD (n0+n1) (cj n0 f0 f1) c1) 5 (0,0))/\Ch [] w w1:=by
 have S0:=St.given (w:=w) [(pb,.cells #[.slice (some ⟨b0,o0,none⟩) n0 c0,.slice (some ⟨b1,o1,none⟩) n1 c1] 23 (0,0))] (all_cons hp (all_nil));refine iL Tryz.func107 rfl ?_;refine aQ (aX ?_);refine ak (.slice none 0 0) ?_;refine aT (aP (aQ (aX ?_)));refine ak (.slice none 0 0) ?_;refine aT (aP (aQ (aQ (aX ?_))));refine dJ ?_;refine ak (.int .i64 2) ?_;refine ak (.int .i64 0) ?_;refine aT (aP (jc (EE 24 (aQ (aX ?_)))));refine ak (.bool true) ?_;refine aT (aP (aQ (vm ?_)));refine jI (aP (aQ (jc (aQ (aX ?_)))));refine ak (.pointer (some ⟨pb,0,none⟩)) ?_;refine oX S0 0 (.slice (some ⟨b0,o0,none⟩) n0 c0) pb 0 ?_;refine fS ?_;refine aT (aP (aX ?_));refine ak (.slice none 0 0) ?_;refine dJ ?_;have zS7:St [] w ([⟨pb,false,.cells #[.slice (some ⟨b0,o0,none⟩) n0 c0,.slice (some ⟨b1,o1,none⟩) n1 c1] 23 (0,0)⟩]++([]:List ai)) w:=S0.re (R:=([]:List ai)) [[⟨pb,false,.cells #[.slice (some ⟨b0,o0,none⟩) n0 c0,.slice (some ⟨b1,o1,none⟩) n1 c1] 23 (0,0)⟩]] [0];have AM:St [] w ([⟨pb,false,.cells #[.slice (some ⟨b0,o0,none⟩) n0 c0,.slice (some ⟨b1,o1,none⟩) n1 c1] 23 (0,0)⟩]++([]++([]:List ai))) w:=zS7.conv (by kernel_rfl);refine WO (n:=0) (c:=0) (f:=(λ_=>0)) (g:=f0) (xv:=.slice (some ⟨b0,o0,none⟩) n0 c0) AM (Of 5) (Ai (e':=5) (St.lz S0 AL (by simp))) (by omega) ?_;intro zx2 PS zq1 l7 PT cV;have agi:=E2 PT (by omega);obtain⟨Yz,vW,kW,j7⟩:=agi;subst kW;subst j7;refine fS ?_;refine aT (lq (aP (aX ?_)));refine ak (.int .i64 1) ?_;refine ak (.int .i64 1) ?_;refine aT (vl (aQ (aX ?_)));refine ak (.bool true) ?_;refine aT (aP (aQ (vm ?_)));refine jI (aP (aQ (jc (aQ (aX ?_)))));refine ak (.pointer (some ⟨pb,1,none⟩)) ?_;refine oX cV 0 (.slice (some ⟨b1,o1,none⟩) n1 c1) pb 1 ?_;refine fS ?_;refine aT (aP (aX ?_));refine dJ ?_;refine dJ ?_;have ru:St [] w ([⟨pb,false,.cells #[.slice (some ⟨b0,o0,none⟩) n0 c0,.slice (some ⟨b1,o1,none⟩) n1 c1] 23 (0,0)⟩]++([⟨Yz,true,.cells (bD (0+n0) (cj 0 (λ_=>0) f0) PS) 5 (0,0)⟩]++([]:List ai))) l7:=cV.re (R:=([]:List ai)) [[⟨pb,false,.cells #[.slice (some ⟨b0,o0,none⟩) n0 c0,.slice (some ⟨b1,o1,none⟩) n1 c1] 23 (0,0)⟩],[⟨Yz,true,.cells (bD (0+n0) (cj 0 (λ_=>0) f0) PS) 5 (0,0)⟩]] [0,1];refine WO (n:=(0+n0)) (c:=PS) (f:=(cj 0 (λ_=>0) f0)) (g:=f1) (xv:=.slice (some ⟨b1,o1,none⟩) n1 c1) ru ⟨vW,.inr ⟨_,rfl,rfl⟩⟩ (Ai (e':=5) (St.lz cV vV (by simp))) (by omega) ?_;intro avy kB avz AN C9 pO;have agj:=E2 C9 (by omega);obtain⟨vX,sP,FQ,rv⟩:=agj;subst FQ;subst rv;refine fS ?_;refine aT (lq (aP (aX ?_)));refine ak (.int .i64 2) ?_;refine ak (.int .i64 2) ?_;refine aT (vl (aQ (aX ?_)));refine ak (.bool false) ?_;refine aT (aP (aQ (oY ?_)));refine wp_exit (ln (ln (vj (aP (aQ (aX ?_))))));refine dJ ?_;refine fS ?_;refine aT (aP (gv ?_));refine gf rfl (fF [.tmp 2] [.slice (some ⟨vX,0,none⟩) ((0+n0)+n1) kB] (.slice (some ⟨vX,0,none⟩) ((0+n0)+n1) kB) ⟨jf,trivial⟩) ?_;have ze:bD ((0+n0)+n1) (cj (0+n0) (cj 0 (λ_=>0) f0) f1) kB=bD (n0+n1) (cj n0 f0 f1) kB:=PR (by omega) λi hi=>by simp only[aeD,jC,FO,eD]
 exact⟨vX,kB,by rw[show((0+n0)+n1)=n0+n1 by omega],by have:=sP;omega,(pO.own 1 _ rfl rfl).resolve_left (by simp),by rw[<-ze];exact pO.at_ 1 _ rfl,pO.ch⟩
def fm (kn:Nat) (kf:Nat->Int) (n:Nat) (d:Nat->Int):Nat->Int:=iP (64+32) (cj 64 (iQ (dp (λ_=>0) 0 kn kf) 92) (iP (64+n) (cj 64 (iQ (dp (λ_=>0) 0 kn kf) 54) d)))
def xI (f g:Nat->Int):Nat->Int
 |0=>0
 |k+1=>bits .or .u8 (xI f g k) (bits .xor .u8 (f k) (g k))
theorem agk {f g:Nat->Int} (i s:Int) (h:0<=i) (e:s=xI f g i.toNat):bits .or .u8 s (bits .xor .u8 (f i.toNat) (g i.toNat))=xI f g (i+1).toNat:=by
 have h1:(i+1).toNat=i.toNat+1:=by omega
 rw[h1,e];rfl
def ou (n:Nat) (f g:Nat->Int):Bool:=xI f g n==0
def vY (ka:Option aO) (kn:Nat):Prop:=(0<kn\/∃x,ka=some x)/\kn<=64
theorem vY.some {ka:Option aO} {kn kc:Nat} {kf:Nat->Int} {w:ae} (h:vY ka kn) (hk:dL w ka kn kc kf):∃x,ka=Option.some x:=by
 rcases h.1 with h1|h1
 ·exact hk.WR h1
 ·exact h1
theorem vY.of {ka:Option aO} {kn:Nat} (h:1<=kn/\kn<=64):vY ka kn:=⟨.inl h.1,h.2⟩
theorem agl {P:aF} {ops:Array ao} {rest:List ao} {o:ao} {a:Act} {w w0:ae} {ms:List Nat} {bs:List ai} {Q:dR->Act->ae->Prop} (S:St ms w0 bs w) (i:Nat) (b N off n c:Nat) (f:Nat->Int) (ka:Option aO) (m sc:Nat) (g:Nat->Int) {t:aG} {s x:ba} {tt tx elem:aG} (h8:dL w ka m sc g) (h1:∃x,ka=some x) (hm:m<=n) (hn:off+m<=N)
 (hb:bs[i]?=some ⟨b,true,.cells (au .u8 N f) t (0,0)⟩) {bs':List ai} (h2:bs.set i ⟨b,true,.cells (au .u8 N (dp f off m g)) t (0,0)⟩=bs')
 (k:∀w',St ms w0 bs' w'->WL P ops Q rest (a.put o.dst (.int .i64 m)) w')
 (hw:gu o (yielded ops a.tmps)=true:=by kernel_rfl) (ho:o.op=.call ⟨.builtin .copy,#[s,x],#[tt,tx]⟩:=by rfl) (hs:a.eval s=.slice (some ⟨b,off,none⟩) n c:=by kernel_rfl) (hx:a.eval x=.slice ka m sc:=by kernel_rfl)
 (hu:P.underlying tt=some (.slice elem):=by kernel_rfl) (hz:(P.info? elem).map (·.size)=some 1:=by kernel_rfl):WL P ops Q (o::rest) a w:=
 WL.want hw λK hK=>by
  obtain⟨x0,rfl⟩:=h1;have aM:=S.at_ i _ hb;have E1:Nat.min m n=m:=Nat.min_eq_left hm;have bG:=run_copy_row (P:=P) w tt tx o.type elem b off n c x0 m sc (au .u8 N f) t (bV m g) hu hz aM (by rw[gi,E1]) (λj v hj=>by
   obtain⟨h1,rfl⟩:=xQ hj;exact h8.2.2.2 x0 rfl j h1) (by rw[gi,EW];exact hn) EY
  unfold n7;rw[Jb ho hs hx bG];rw[gi];have he:(goInt m:ab)=.int .i64 m:=rfl;rw[he];refine hK _ _ (k _ ?_);have hS:=S.step hb rfl (Ch.setRow w b _) (setRow_heap w b (au .u8 N f) ((au .u8 N f).toList.take off++bV m g++(au .u8 N f).toList.drop (off+m)).toArray t (0,0) aM);have e2:((au .u8 N f).toList.take off++bV m g++(au .u8 N f).toList.drop (off+m)).toArray=au .u8 N (dp f off m g):=Od .u8 f hn g;rw[e2,h2]at hS;rw[e2];exact hS
theorem vZ (ka:Option aO) (kn kc:Nat) (kf:Nat->Int) (b o n c:Nat) (d:Nat->Int) (kC:vY ka kn) (hn:n<=55) {tG:aG} (w:ae) (hG:w.heap[1]?=some (.cells (au .u32 64 cH) tG (0,0))) (hk:dL w ka kn kc kf) (hB:cd w b o n d):
 aS prog 67 #[.slice ka kn kc,.slice (some ⟨b,o,none⟩) n c] w λv w1=>v=.agg (au .u8 32 (fm kn kf n d))/\Ch [] w w1:=by
 have S0:=St.given (w:=w) [(1,.cells (au .u32 64 cH) tG (0,0))] (all_cons hG (all_nil));refine iL Tryz.func67 rfl ?_;refine aQ (aX ?_);refine eE S0 (λb=>.pointer (some ⟨b,0,none⟩)) (.cells (au .u8 32 (λ_=>0)) 37) ?_;intro bE hY dB;refine aT (aP (aQ (aX ?_)));refine eE dB (λb=>.pointer (some ⟨b,0,none⟩)) (.cells (au .u8 64 (λ_=>0)) 205) ?_;intro dq l7 cV;refine aT (aP (aQ (aQ (aX ?_))));refine ak (.slice ka kn kc) ?_;refine ak (.int .i64 ((kn:Nat):Int)) ?_;refine n_ (.bool (decide (64<((kn:Nat):Int)))) (.bool false) (congrArg Ce (NK (by have:=kC.2;omega))) ?_;refine aT (aP (oY ?_));refine aX ?_;refine ak (.slice (some ⟨dq,0,none⟩) 64 64) ?_;refine ak (.slice ka kn kc) ?_;have hks:=kC.some hk;have avA:kn<=64:=kC.2;refine agl (elem:=5) (t:=205) cV 0 dq 64 0 64 64 (λ_=>0) ka kn kc kf (dL.quiet hk cV.ch) hks (by omega) (by omega) (by kernel_rfl) (by kernel_rfl:_=[⟨dq,true,.cells (au .u8 64 (dp (λ_=>0) 0 kn kf)) 205 (0,0)⟩,⟨bE,true,.cells (au .u8 32 (λ_=>0)) 37 (0,0)⟩,⟨1,false,.cells (au .u32 64 cH) tG (0,0)⟩]) ?_;intro C_ AM;refine aT (aP (aQ (aX ?_)));refine jY AM 0 64 (au .u8 64 (dp (λ_=>0) 0 kn kf)) dq 0 ?_;refine fu 108 #[.agg (au .u8 64 (dp (λ_=>0) 0 kn kf)),.int .u8 54] ?_;refine(Yv (dp (λ_=>0) 0 kn kf) 54 _).mono ?_;rintro _ YA ⟨J5,rfl,mG,ui,kW⟩;have yz:=AM.new kW mG ui;refine dJ ?_;refine eE yz (λb=>.slice (some ⟨b,0,none⟩) 2 2) (.cells #[.slice (some ⟨J5,0,none⟩) 64 64,.slice (some ⟨b,o,none⟩) n c] 23) ?_;intro l_ YB rq;refine fu 107 #[.slice (some ⟨l_,0,none⟩) 2 2] ?_;refine(Yy l_ J5 0 64 64 (iQ (dp (λ_=>0) 0 kn kf) 54) b o n c d (by omega) (by omega) _ (rq.at_ 0 _ rfl) (St.eK (N:=64) (f:=(iQ (dp (λ_=>0) 0 kn kf) 54)) (wr:=true) (t:=5) (fr:=(0,0)) rq 1) (St.lz rq hB (by simp))).mono ?_;rintro _ AN ⟨vX,AO,rfl,rv,sP,FR,yy⟩;have ru:=rq.new yy sP FR;refine fu 106 #[.slice (some ⟨vX,0,none⟩) (64+n) AO] ?_;refine(PQ vX 0 (64+n) AO (cj 64 (iQ (dp (λ_=>0) 0 kn kf) 54) d) (by omega) _ (ru.at_ 5 _ rfl) (St.Ak (c:=AO) (wr:=true) (t:=5) (fr:=(0,0)) ru 0)).mono ?_;rintro _ YC ⟨rfl,j8⟩;have FT:=ru.quiet j8;refine eE FT (λb=>.pointer (some ⟨b,0,none⟩)) (.cells (au .u8 32 (λ_=>0)) 37) ?_;intro Da J6 PU;refine store_ PU 0 (.agg (au .u8 32 (iP (64+n) (cj 64 (iQ (dp (λ_=>0) 0 kn kf) 54) d)))) Da 0 ?_;intro agm v3;refine aT (aP (aQ ?_));refine Ad 3 [⟨0,λ_=>.agg (au .u8 64 (dp (λ_=>0) 0 kn kf)),λ_=>[]⟩,⟨1,λids=>.slice (some ⟨(ids.getD 0 0),0,none⟩) 64 64,λids=>[((ids.getD 0 0),.cells (au .u8 64 (iQ (dp (λ_=>0) 0 kn kf) 92)) 5 (0,0))]⟩,⟨0,λ_=>.slice (some ⟨Da,0,none⟩) 32 32,λ_=>[]⟩] [[3,1,0],[3,1],[3,2],[4,1,0],[4,1],[4,3,2],[4,3],[5,4,1,0],[5,4,1],[5,4,3,2],[5,4,3],[5,4],[6,0],[6,1],[6,2],[6,3],[6,4],[6,5]] ?_ ?_
 ·refine step_cons (EP v3 4 dq 0 64 (au .u8 64 (dp (λ_=>0) 0 kn kf))) ?_;refine step_cons ?_ ?_
  ·intro agn avB YD avC ago;have sQ:agn 25=.agg (au .u8 64 (dp (λ_=>0) 0 kn kf)):=(Sp.dA (ago 0 25 (by kernel_rfl) (by kernel_rfl))).1;have agp:=v3.quiet YD;refine o_ ?_;refine lR [(25,.agg (au .u8 64 (dp (λ_=>0) 0 kn kf)))] (lS sQ (o8)) ?_;have agq:=agp.loc;refine Y.fu 108 #[.agg (au .u8 64 (dp (λ_=>0) 0 kn kf)),.int .u8 92] ?_;refine(Yv (dp (λ_=>0) 0 kn kf) 92 _).mono ?_;rintro _ avD ⟨agr,rfl,ags,PV,FU⟩;have YE:=agq.new FU ags PV;exact⟨YE.ch,Sp.o9 [agr] (all_cons (YE.vx YD.size 0 (by kernel_rfl)) (all_nil))⟩
  refine step_cons gX ?_;exact Ac
 intro PW YF agt PX;have Db:PW 0=.agg (au .u8 64 (dp (λ_=>0) 0 kn kf)):=(Sp.dA (PX 0 (by kernel_rfl))).1;have PY:=Sp.vw (PX 1 (by kernel_rfl));obtain⟨kX,PZ,P1⟩:=PY;have P2:PW 1=.slice (some ⟨kX,0,none⟩) 64 64:=PZ;have P3:∀zp∈([(kX,.cells (au .u8 64 (iQ (dp (λ_=>0) 0 kn kf) 92)) 5 (0,0))]:List (Nat×Obj)),agm.heap.size<=zp.1/\YF.heap[zp.1]?=some zp.2:=P1;have P4:PW 2=.slice (some ⟨Da,0,none⟩) 32 32:=(Sp.dA (PX 2 (by kernel_rfl))).1;have J7:=v3.ro agt ([(kX,.cells (au .u8 64 (iQ (dp (λ_=>0) 0 kn kf) 92)) 5 (0,0))]) (P3);refine⟨[.agg (au .u8 64 (dp (λ_=>0) 0 kn kf)),.slice (some ⟨kX,0,none⟩) 64 64,.slice (some ⟨Da,0,none⟩) 32 32],by kernel_rfl,dS Db (dS P2 (dS P4 (Cr))),?_⟩;refine eE J7 (λb=>.slice (some ⟨b,0,none⟩) 2 2) (.cells #[.slice (some ⟨kX,0,none⟩) 64 64,.slice (some ⟨Da,0,none⟩) 32 32] 23) ?_;intro v5 agu J8;refine fu 107 #[.slice (some ⟨v5,0,none⟩) 2 2] ?_;refine(Yy v5 kX 0 64 64 (iQ (dp (λ_=>0) 0 kn kf) 92) Da 0 32 32 (iP (64+n) (cj 64 (iQ (dp (λ_=>0) 0 kn kf) 54) d)) (by omega) (by omega) _ (J8.at_ 0 _ rfl) (St.eK (N:=64) (f:=(iQ (dp (λ_=>0) 0 kn kf) 92)) (wr:=false) (t:=5) (fr:=(0,0)) J8 1) (St.eK (N:=32) (f:=(iP (64+n) (cj 64 (iQ (dp (λ_=>0) 0 kn kf) 54) d))) (wr:=true) (t:=37) (fr:=(0,0)) J8 2)).mono ?_;rintro _ avE ⟨YG,P5,rfl,YH,P6,agv,agw⟩;have P7:=J8.new agw P6 agv;refine fu 106 #[.slice (some ⟨YG,0,none⟩) (64+32) P5] ?_;refine(PQ YG 0 (64+32) P5 (cj 64 (iQ (dp (λ_=>0) 0 kn kf) 92) (iP (64+n) (cj 64 (iQ (dp (λ_=>0) 0 kn kf) 54) d))) (by omega) _ (P7.at_ 9 _ rfl) (St.Ak (c:=P5) (wr:=true) (t:=5) (fr:=(0,0)) P7 0)).mono ?_;rintro _ avF ⟨rfl,agx⟩;have agy:=P7.quiet agx;refine store_ agy 8 (.agg (au .u8 32 (iP (64+32) (cj 64 (iQ (dp (λ_=>0) 0 kn kf) 92) (iP (64+n) (cj 64 (iQ (dp (λ_=>0) 0 kn kf) 54) d)))))) bE 0 ?_;intro avG YI;refine aT (aP (gv ?_));refine gf rfl (fF [.cell 4 37] [.agg (au .u8 32 (iP (64+32) (cj 64 (iQ (dp (λ_=>0) 0 kn kf) 92) (iP (64+n) (cj 64 (iQ (dp (λ_=>0) 0 kn kf) 54) d)))))] (.agg (au .u8 32 (iP (64+32) (cj 64 (iQ (dp (λ_=>0) 0 kn kf) 92) (iP (64+n) (cj 64 (iQ (dp (λ_=>0) 0 kn kf) 54) d)))))) ⟨mu YI 8 32 bE 0,trivial⟩) ?_;exact⟨by(unfold fm)<;>kernel_rfl,YI.ch⟩
theorem P8 (ka:Option aO) (kn kc:Nat) (kf:Nat->Int) (b o n c:Nat) (d:Nat->Int) (kC:vY ka kn) (hn:n<=55) {tG:aG} (w:ae) (hG:w.heap[1]?=some (.cells (au .u32 64 cH) tG (0,0))) (hk:dL w ka kn kc kf) (hB:cd w b o n d):
 aS prog 42 #[.slice ka kn kc,.slice (some ⟨b,o,none⟩) n c] w λv w1=>v=.agg (au .u8 8 (fm kn kf n d))/\Ch [] w w1:=by
 have S0:=St.given (w:=w) [(1,.cells (au .u32 64 cH) tG (0,0))] (all_cons hG (all_nil));refine iL Tryz.func42 rfl ?_;refine aQ (aX ?_);refine eE S0 (λb=>.pointer (some ⟨b,0,none⟩)) (.cells (au .u8 8 (λ_=>0)) 38) ?_;intro bE hY dB;refine aT (aP (aQ (aX ?_)));refine ak (.slice ka kn kc) ?_;refine dJ ?_;refine fu 67 #[.slice ka kn kc,.slice (some ⟨b,o,none⟩) n c] ?_;refine(vZ ka kn kc kf b o n c d kC (by omega) _ (dB.at_ 1 _ rfl) (dL.quiet hk dB.ch) (St.lz dB hB (by simp))).mono ?_;rintro _ FV ⟨rfl,FW⟩;have cV:=dB.quiet FW;refine eE cV (λb=>.pointer (some ⟨b,0,none⟩)) (.cells (au .u8 32 (λ_=>0)) 37) ?_;intro sR zw8 iR;refine store_ iR 0 (.agg (au .u8 32 (fm kn kf n d))) sR 0 ?_;intro agz yz;refine aT (aP (aQ (aX ?_)));refine ak (.slice (some ⟨sR,0,none⟩) 8 32) ?_;refine ak (.pointer (some ⟨sR,0,none⟩)) ?_;refine jY yz 0 8 (au .u8 8 (fm kn kf n d)) sR 0 ?_;refine store_ yz 1 (.agg (au .u8 8 (fm kn kf n d))) bE 0 ?_;intro P9 AP;refine aT (aP (gv ?_));refine gf rfl (fF [.cell 4 38] [.agg (au .u8 8 (fm kn kf n d))] (.agg (au .u8 8 (fm kn kf n d))) ⟨mu AP 1 8 bE 0,trivial⟩) ?_;exact⟨by kernel_rfl,AP.ch⟩
theorem YJ (b o n c e q k:Nat) (f g:Nat->Int) (hn:n<=1000000) (w:ae) (hB:cd w b o n f) (hE:cd w e q n g):
 aS prog 192 #[.slice (some ⟨b,o,none⟩) n c,.slice (some ⟨e,q,none⟩) n k] w λv w1=>v=.bool (ou n f g)/\Ch [] w w1:=by
 have S0:=St.nil [] w;refine iL Tryz.func192 rfl ?_;refine aQ (aX ?_);refine ak (.bool false) ?_;refine aT (aP (aQ (aQ (aX ?_))));refine dJ ?_;refine ak (.int .i64 ((n:Nat):Int)) ?_;refine dJ ?_;refine ak (.int .i64 ((n:Nat):Int)) ?_;refine n_ (.bool (((n:Nat):Int)!=((n:Nat):Int))) (.bool false) (congrArg Ce (neF (by omega))) ?_;refine aT (aP (oY ?_));refine jI (aP (aQ (aX ?_)));refine ak (.int .u8 0) ?_;refine aT (aP (aQ (aQ (aX ?_))));refine dJ ?_;refine ak (.int .i64 ((n:Nat):Int)) ?_;refine ak (.int .i64 0) ?_;refine aT (aP (jc ?_));refine I9 (λzn za zw=>∃(i:Int) (s:Int) (fj:Nat->ab),(zn=(((n:Nat):Int)-i).toNat/\0<=i/\i<=((n:Nat):Int)/\s=xI f g i.toNat)/\za=⟨#[.slice (some ⟨b,o,none⟩) n c,.slice (some ⟨e,q,none⟩) n k,undef,undef,.bool false,.int .u8 s,(fj 6),(fj 7),.slice (some ⟨b,o,none⟩) n c,.int .i64 ((n:Nat):Int),.slice (some ⟨e,q,none⟩) n k,.int .i64 ((n:Nat):Int),.bool false,.slice (some ⟨b,o,none⟩) n c,.int .i64 ((n:Nat):Int),.int .i64 i,(fj 16),(fj 17),(fj 18),(fj 19),(fj 20),(fj 21),(fj 22),(fj 23),(fj 24),(fj 25),(fj 26),(fj 27),(fj 28),undef,undef],[]⟩/\St [] w [] zw) _ (λzy l9=>⟨(0:Int),(0:Int),(λd=>zy.tmps.getD d undef),⟨rfl,by omega,by omega,rfl⟩,by subst l9;kernel_rfl,S0.re (R:=([]:List ai)) [] []⟩) ?_;rintro _ _ l7 ⟨i,s,fj,⟨rfl,YK,YL,v7⟩,rfl,cV⟩;refine aQ (aX ?_);refine ak (.bool (decide (i<((n:Nat):Int)))) ?_;refine aT (aP (aQ ?_));refine rZ (decide (i<((n:Nat):Int))) ?_ ?_
 ·intro v8;have ov:=z6 v8;refine jI (aP (aQ (jc (aQ (aX ?_)))));refine ak (.int .i64 i) ?_;refine qQ (e:=5) b o (i).toNat n 1 c .i64 i (by omega) (by omega) (by omega) ?_;refine tQ b o n (o+(i).toNat*1) (i).toNat f (St.lz cV hB (by simp)) (by omega) (by omega) ?_;refine ak (.int .i64 i) ?_;refine ak (.int .u8 (f (i).toNat)) ?_;refine aT (aP (aX ?_));refine ak (.int .u8 s) ?_;refine ak (.int .u8 (f (i).toNat)) ?_;refine dJ ?_;refine ak (.int .i64 i) ?_;refine qQ (e:=5) e q (i).toNat n 1 k .i64 i (by omega) (by omega) (by omega) ?_;refine tQ e q n (q+(i).toNat*1) (i).toNat g (St.lz cV hE (by simp)) (by omega) (by omega) ?_;refine ak (.int .u8 (bits .xor .u8 (f (i).toNat) (g (i).toNat))) ?_;refine ak (.int .u8 (bits .or .u8 s (bits .xor .u8 (f (i).toNat) (g (i).toNat)))) ?_;refine fS ?_;refine aT (lq (aP (aX ?_)));refine kO .i64 (i+1) (zV _ (by omega)) ?_;refine ak (.int .i64 (i+1)) ?_;refine aT ?_;refine EX λzy l9=>?_;exact⟨_,by omega,(i+1),(bits .or .u8 s (bits .xor .u8 (f (i).toNat) (g (i).toNat))),(λd=>zy.tmps.getD d undef),⟨rfl,by omega,by omega,agk i s (by omega) v7⟩,by subst l9;kernel_rfl,cV.re (R:=([]:List ai)) [] []⟩
 intro v9;have kW:=z7 v9;refine wp_exit (ln (ln (vj (aP (aQ (aX ?_))))));refine ak (.int .u8 s) ?_;refine ak (.bool (s==0)) ?_;refine ak (.bool (s==0)) ?_;refine aT (aP (gv ?_));refine gf rfl (fF [.tmp 4] [.bool (s==0)] (.bool (s==0)) ⟨jf,trivial⟩) ?_;exact⟨congrArg Ce (by unfold ou;rw[v7,show i.toNat=n by omega]),cV.ch⟩
end
end Go.Proofs.YtggfpcggakghnaaGreatDoor
