/- Part 1 of the proof. -/
import Derived.Test.YtggfpcggakghnaaGreatDoorProg
import Derived.Test.YtggfpcggakghnaaGreatDoorR0
set_option linter.all false
set_option maxRecDepth 100000
set_option maxHeartbeats 4000000
open Go.Proofs.Tryz
open Go.IntKind (u8 u16 u32 u64 i64)
open Array renaming getElem?_replicate->AH,replicate->C9,getD->FF,getElem?_eq_none->J3,all_eq_true_iff_forall_mem->J8,getElem?_eq_getElem->J9,toList_setIfInBounds->J_,ext'->fM,getD_eq_getD_getElem?->jR,getElem?_setIfInBounds->q_
open Bool renaming or_eq_true->Da,and_eq_true->bu,not_eq_true'->my
open Go renaming ResultVar->J5,TypeId->aJ,Program->aL,Addr->aQ,Value->ae,World->ag,Oper->ax,Operand->bh,run_underlying->dI,Exit->eE,FuncId->fL,IntKind->fq,wp_ret->gU,wp_skip->j7,wp_block->jw,heap_alloc_new->nT,sizeOf->pE,MapEntry->vS
open Go.Addr renaming add_lit->iS,add->vO
open Go.Builtin renaming append_->nU,zeroCells->oQ
open Go.Code renaming rounds->C_
open Go.Exit renaming inBlock->J4
open Go.Instr renaming sliceBound->AJ,slice->FE,storeAt->J2,findNow->PA,buildSlice->Yp,makeSlice->Ys,mapUpdate->agO,sureAddr->ju,loadAt->qZ,indexAt->uo,sliceAt->uw,sliceBounds->ux
open Go.IntKind renaming signed->uA,bits->uz,wrap->yr
open Go.IntWalk renaming i64_in->AO
open Go.Oper renaming upon_value->AN,looksAt->Ke,upon_skip->agM,wp->oO
open Go.Place renaming get->agL
open Go.Region renaming wanted->gT,binds->rf,ready->rj
open Go.Result renaming andThen_ok->cK,andThen->jT
open Go.Sem renaming run_bind->bE,run_pure->du
open Go.Src renaming ofSlice->sW
open Go.Value renaming bool->Dc,int->eA
open Go.World renaming cell?->yq
open Int renaming ofNat->db,fdiv->jx
open List renaming any_eq_true->AD,singleton_append->AM,range_succ->Dd,mem_cons_self->De,flatMap_append->FH,getElem?_drop->FI,getElem?_set_ne->J1,getElem?_take->PC,count_replicate_self->Yj,length_singleton->Yq,getElem?_take_of_lt->Yt,append_assoc->bU,range->bw,append_nil->cH,mem_cons->cn,map_cons->eF,mem_append->fc,cons_append->fe,nil_append->fi,length_append->ft,all_eq_true->gm,length_cons->h_,mem_singleton->iH,getElem?_append_left->iq,getD->ir,getElem?_toArray->jQ,take_append_drop->jS,perm_middle->jU,getElem?_eq_none->jc,getElem?_map->jt,getElem?_eq_getElem->jv,mem_map->lP,map_map->lQ,getElem?_range->nV,replicate->nh,mem_of_getElem?->pF,map_congr_left->pI,mem_append_left->pJ,perm_append_comm_assoc->pM,nodup_cons->ri,map_append->rk,map_nil->s8,mem_append_right->uy,length_take->vQ,ext_getElem?->vR,range_succ_eq_map->vU,mem_cons_of_mem->yu
open List.Perm renaming append_right->FC,append_left->pL
open List.Sublist renaming append_right->agN
open Nat renaming add_assoc->AI,mul_le_mul_right->Py,le_of_not_lt->Yr,beq->az,ble->bG,blt->cD,lt_or_ge->cZ,eq_of_beq_eq_true->cz,le_refl->dH,le_of_ble_eq_true->dJ,zero_add->eY,le_trans->hY,blt_eq->iG,add_mul->ng,add_zero->pG,beq_refl->sY,ble_eq_true_of_le->uu,eq_zero_or_pos->vP
open Option renaming getD_some->Yi,map_eq_some_iff->im,map_some->mz
open Option.some renaming injEq->aY,inj->cG
open Prod.mk renaming injEq->bC
namespace Vx
open Go Go.RowKit Go.BigFrame Sx
section
variable{ids:List Nat} {P:aL} {w w0:ag} {ms:List Nat} {e:bh->V} {ρ:bh->ae} {bl:List VB} {R:List aj}
theorem kZ (b:Nat):(ids++[b]).getD ids.length 0=b:=by simp[ir]
theorem Zu {t el:aJ} {len z:Nat} {zc c:List V} {ps:List (Nat×V)} (hu:P.underlying t=some (.slice el)) (hz:eS P el=some (z+1)) (h0:nq P el=some zc) (hl:ck zc=z+1) (hb:len*(z+1)<=2^24)
 (hf:yP (λi=>some (i*(z+1),z+1)) (lD zc len) ps=some c):(Yp t len (ps.map λp=>(p.1,den ids p.2)).toArray).run P w=.ok (.slice (some ⟨w.heap.size,0,none⟩) len len) (w.alloc (.cells (ai ids c).toArray el)):=by
 have Gt:=Qq (ids:=ids) (place:=λi=>some (i*(z+1),z+1)) (λi x hx=>hx) ps _ c hf;obtain⟨v0,z1,z2⟩:=Be (P:=P) (w:=w) (ids:=ids) h0;have wk:¬(len*(z+1)>2^24):=by omega
 have hv:v0.cells.size=z+1:=by rw[<-Array.length_toList,z2,kY,hl]
 have Gu:(Array.range (len*(z+1))).map (λi=>v0.cells[i%v0.cells.size]!)=(ai ids (lD zc len)).toArray:=by
  apply fM;rw[QE v0.cells z hv,z2,Zt]
 by_cases lW:len*(z+1)=0
 ·have tv:len=0:=by rcases Nat.mul_eq_zero.1 lW with h|h;exact h;omega
  subst tv;simp only[Yp,bE,dI hu,cK,gX hz,if_neg wk];simp only[lD,ai]at Gt;simp only[Nat.zero_mul,if_true,bE,du,cK,List.toList_toArray,show Array.range 0=#[]from rfl,Array.map_empty];rw[Gt];rfl
 ·simp only[Yp,bE,dI hu,cK,gX hz,if_neg wk,if_neg lW,z1,du,List.toList_toArray];rw[Gu,Gt];rfl
theorem ahO (ba:∀x,ρ x=den ids (e x)) (o:ax) {v:V} {b:VB} (h:Gs P e ids.length o.op=some (v,b)):
 (execOp ρ o).run P w=.ok (.value (den (ids++[w.heap.size]) v)) (w.alloc (.cells (ai ids b.c).toArray b.ty.t))/\b.wr=true/\b.ty.fz=(0,0):=by
 unfold execOp;unfold Gs at h;split at h
 ·rename_i t ho;split at h
  ·rename_i z hz;simp only[aY,bC]at h;obtain⟨rfl,rfl⟩:=h;obtain⟨v0,z1,z2⟩:=Be (P:=P) (w:=w) (ids:=ids) hz;have Bg:v0.cells=(ai ids z).toArray:=by apply fM;simpa using z2
   refine⟨?_,rfl,rfl⟩;simp only[ho,Instr.alloc,bE,z1,cK,newVar,newRow,Bg,den,kZ];rfl
  ·cases h
 ·rename_i t x ho;cases hq:qg (e x)with
  |false=>rw[hq]at h;simp at h
  |true=>
   rw[hq]at h;simp only[cond_true,aY,bC]at h;obtain⟨rfl,rfl⟩:=h;have hc:(ρ x).cells=(ai ids (jW (e x))).toArray:=by apply fM;rw[ba,Qj hq]
   refine⟨?_,rfl,rfl⟩;simp only[ho,Instr.box,bE,newVar,newRow,hc,den,kZ];rfl
 ·rename_i t len ps ho;split at h
  ·rename_i el hu;split at h
   ·rename_i z zc hz QI;cases hq:az (ck zc) (z+1)&&(bG (len*(z+1)) (2^24)&&!(az len 0&&(az z 5||az z 13)))with
    |false=>rw[hq]at h;simp at h
    |true=>
     rw[hq]at h;simp only[cond_true]at h;simp only[bu]at hq;split at h
     ·rename_i c hc;simp only[aY,bC]at h;obtain⟨rfl,rfl⟩:=h;have:=Zu (ids:=ids) (w:=w) hu hz QI (cz hq.1) (dJ hq.2.1) hc;refine⟨?_,rfl,rfl⟩;simp only[ho];rw[bE,show(ps.map λ(x:Nat×bh)=>match x with|(i,x)=>(i,ρ x))=(ps.map λ(p:Nat×bh)=>(p.1,ρ p.2))from rfl,Zp ps ba,this];simp[den,kZ]
     ·cases h
   ·cases h
  ·cases h
 ·cases h
theorem grow (hl:ids.length=bl.length) (S:St ms w0 (lits ids ids bl++R) w) (b:VB) (hw:b.wr=true) (hf:b.ty.fz=(0,0)) (h1:bM ids.length bl=true) (h2:bo ids.length b.c=true):
 St ms w0 (lits (ids++[w.heap.size]) (ids++[w.heap.size]) (bl++[b])++R) (w.alloc (.cells (ai ids b.c).toArray b.ty.t))/\(ids++[w.heap.size]).length=(bl++[b]).length:=by
 refine⟨?_,by simp[hl]⟩;have h:=S.new (Ch.alloc [] w (.cells (ai ids b.c).toArray b.ty.t)) (dH _) (nT w _);have e:aD (ids++[w.heap.size]) w.heap.size b=⟨w.heap.size,true,.cells (ai ids b.c).toArray b.ty.t (0,0)⟩:=by
  simp only[aD,jg _ h2,hw,hf]
 rw[fC _ _ _ _ hl,fD _ _ h1];simp only[lits,e];refine h.perm ?_;rw[bU];exact jU.symm
end
def wq:List V->Option (fq×Nat×(Nat->Int))
 |.arr k n f::_=>some (k,n,f)
 |_=>none
def K2 (f:Nat->Int) (i:Nat) (v:Int):Nat->Int:=λj=>bif az j i then v else f j
def K3 (i:Nat) (v:Int):List V->List V
 |.arr k n f::r=>.arr k n (K2 f i v)::r
 |l=>l
def Gv:List V->Option (List Bool)
 |[]=>some []
 |.bool b::l=>(match Gv l with|some r=>some (b::r)|none=>none)
 |_=>none
def Zv (P:aL) (t:aJ):Bool:=match P.underlying t with|some .bool=>true|_=>false
def QJ (l:List Bool) (j:Nat):Bool:=l.getD j false
def Bh (P:aL) (bl:List VB) (t:aJ) (x:V):Option (Prop×V):=match x with
 |.pe i o j z k=>(match bl[i]?with
  |some b=>(match b.c with
   |.fP z' n g::_=>(match o with
    |0=>bif az z z' then(match tq P t ((g j).map Ba) k with|some v=>some ((j<n/\∀j,(g j).length=z),v)|none=>none)else none
    |_=>none)
   |.rest pre::.fP z' n g::_=>bif az z z' then(match tq P t ((g j).map Ba) k with|some v=>some ((o=pre.length/\j<n/\∀j,(g j).length=z),v)|none=>none)else none
   |c=>(match wq c,z,k,rL P t with
    |some (kd,n,f),1,0,some false=>some (o+j<n,.int kd (f (o+j)))
    |none,1,0,some false=>(match yN c o 5 with|some l=>(match Gv l with|some r=>some (j<5,.bool (QJ r j))|none=>none)|none=>none)
    |_,_,_,_=>none))
  |none=>none)
 |_=>none
def Bi (P:aL) (bl:List VB) (t:aJ) (x v:V):Prop:=uN P bl t x=some v\/∃p,Bh P bl t x=some (p,v)/\p
def Gw (P:aL) (e:bh->V) (bl:List VB):Op->Option (Prop×V)
 |.indexAddr t x ix=>(match e x with
  |.sl i o n _=>(match bl[i]?with
   |some b=>(match b.c with
    |.fP z' _ _::_=>(match o with
     |0=>(match P.underlying t,e ix with
      |some (.slice el),.int _ m=>(match eS P el with
       |some z=>bif az z z' then some ((0<=m/\m<(n:Int)),.pe i 0 m.toNat z 0)else none
       |none=>none)
      |_,_=>none)
     |_=>none)
    |.rest pre::.fP z' _ _::_=>(match P.underlying t,e ix with
     |some (.slice el),.int _ m=>(match eS P el with
      |some z=>bif az z z' then some ((0<=m/\m<(n:Int)),.pe i o m.toNat z 0)else none
      |none=>none)
     |_,_=>none)
    |c=>(match wq c,P.underlying t,e ix with
     |some _,some (.slice el),.int _ m=>(match eS P el with
      |some 1=>some ((0<=m/\m<(n:Int)),.pe i o m.toNat 1 0)
      |_=>none)
     |_,_,_=>none))
   |none=>none)
  |.ptr i o=>(match bl[i]?with
   |some b=>(match wq b.c,P.underlying t,e ix with
    |some _,some (.array n el),.int _ m=>(match eS P el with
     |some 1=>some ((0<=m/\m<(n:Int)),.pe i o m.toNat 1 0)
     |_=>none)
    |none,some (.array n el),.int _ m=>bif az n 5&&Zv P el then(match eS P el with
     |some 1=>some ((0<=m/\m<(n:Int)),.pe i o m.toNat 1 0)
     |_=>none)else none
    |_,_,_=>none)
   |none=>none)
  |.gp i o n _ _=>(match bl[i]?with
   |some b=>(match b.c with
    |.fP z' _ _::_=>(match o with
     |0=>(match P.underlying t,e ix with
      |some (.slice el),.int _ m=>(match eS P el with
       |some z=>bif az z z' then some ((0<=m/\m<(n:Int)),.pe i 0 m.toNat z 0)else none
       |none=>none)
      |_,_=>none)
     |_=>none)
    |.rest pre::.fP z' _ _::_=>(match P.underlying t,e ix with
     |some (.slice el),.int _ m=>(match eS P el with
      |some z=>bif az z z' then some ((0<=m/\m<(n:Int)),.pe i o m.toNat z 0)else none
      |none=>none)
     |_,_=>none)
    |_=>none)
   |none=>none)
  |_=>none)
 |.slice t x none (some hi) none=>(match e x with
  |.sl i o n c=>(match bl[i]?with
   |some b=>(match b.c with
    |.fP z' _ _::_=>(match o with
     |0=>(match P.underlying t,e hi with
      |some (.slice el),.int _ m=>(match eS P el with
       |some z=>some ((0<=m/\m<=(c:Int)),.sl i 0 m.toNat c)
       |none=>none)
      |_,_=>none)
     |_=>none)
    |.rest pre::.fP z' _ _::_=>(match P.underlying t,e hi with
     |some (.slice el),.int _ m=>(match eS P el with
      |some z=>some ((0<=m/\m<=(c:Int)),.sl i o m.toNat c)
      |none=>none)
     |_,_=>none)
    |_=>none)
   |none=>none)
  |.raw (.slice a n c)=>(match P.underlying t,e hi with
   |some (.slice el),.int _ m=>(match eS P el with
    |some z=>some ((0<=m/\m<=(c:Int)),.raw (.slice a m.toNat c))
    |none=>none)
   |_,_=>none)
  |_=>none)
 |.index t x ix=>(match P.underlying t,e x,e ix with
  |some (.array n el),.agg l,.int _ m=>(match wq l,eS P el,rL P el with
   |some (kd,N,f),some 1,some false=>some (((0<=m/\m<(n:Int))/\m.toNat<N),.int kd (f m.toNat))
   |_,_,_=>none)
  |_,_,_=>none)
 |.slice t x (some lo) none none=>(match e x,P.underlying t,e lo with
  |.raw (.slice (some ⟨b,q,none⟩) n c),some (.slice el),.int _ (.ofNat k)=>(match eS P el with
   |some 1=>some ((k<n/\n<=c),.raw (.slice (some ⟨b,q+k,none⟩) (n-k) (c-k)))
   |_=>none)
  |_,_,_=>none)
 |_=>none
def QK (P:aL) (bl:List VB) (t:aJ) (x y:V):Option (Prop×List VB):=match x,y with
 |.pe i o j 1 0,.int Zw v=>(match bl[i]?with
  |some ⟨true,⟨ty,(0,0)⟩,c⟩=>(match wq c,rL P t,eS P t with
   |some (kd,n,f),some false,some 1=>(match decEq kd Zw with
    |isTrue _=>some (o+j<n,bl.set i ⟨true,⟨ty,(0,0)⟩,K3 (o+j) v c⟩)
    |isFalse _=>none)
   |_,_,_=>none)
  |_=>none)
 |.pe i o j 1 0,.bool b=>(match KY P bl t (.ptr i (o+j)) (.bool b)with|some bl'=>some (True,bl')|none=>none)
 |_,_=>none
section
variable{ids:List Nat} {P:aL} {w w0:ag} {ms:List Nat} {e:bh->V} {ρ:bh->ae} {bl:List VB} {R:List aj}
theorem ahP {k:fq} {n q:Nat} {f:Nat->Int} {v:Int} {r:List ae} (h:q<n):((((bw n).map λj=>eA k (f j))++r).take q++[.int k v])++(((bw n).map λj=>eA k (f j))++r).drop (q+1)=((bw n).map λj=>eA k (K2 f q v j))++r:=by
 have e:=List.set_eq_take_append_cons_drop (l:=((bw n).map λj=>eA k (f j))++r) (i:=q) (a:=.int k v);rw[if_pos (by simp;omega)]at e;rw[bU,AM,<-e,List.set_append_left _ _ (by simpa using h)];congr 1;apply vR;intro i;rw[List.getElem?_set];by_cases hi:q=i
 ·subst hi;simp[h,K2]
 ·rw[if_neg hi];simp only[jt];cases hr:(bw n)[i]?with
  |none=>rfl
  |some y=>
   obtain rfl:y=i:=by
    rcases cZ i n with h1|h1
    ·rw[nV h1]at hr;exact(cG hr).symm
    ·rw[jc (by simpa using h1)]at hr;cases hr
   have hb:az y q=false:=by
    cases hb:az y q with
    |false=>rfl
    |true=>exact absurd (cz hb).symm hi
   simp only[mz,K2,hb,cond_false]
theorem Zx {l:List V} {k:fq} {n:Nat} {f:Nat->Int} (h:wq l=some (k,n,f)) (ids:List Nat):ai ids l=((bw n).map λj=>eA k (f j))++ai ids (l.drop 1):=by
 unfold wq at h;split at h
 ·simp only[aY,bC]at h;obtain⟨rfl,rfl,rfl⟩:=h;simp only[ai,cl,List.drop_succ_cons,List.drop_zero]
 ·cases h
theorem QM:∀{l:List V} {r:List Bool},Gv l=some r->∀ids,ai ids l=r.map Dc
 |[],r,h,ids=>by simp only[Gv,aY]at h;subst h;rfl
 |v::l,r,h,ids=>by
  unfold Gv at h;split at h
  ·rename_i e;cases e
  ·rename_i b l' e;cases e;split at h
   ·rename_i r' hr;simp only[aY]at h;subst h;simp only[ai,cl,den,QM hr ids,eF,fe,fi]
   ·cases h
  ·cases h
theorem ahQ {bl ex:List VB} {i:Nat} {b:VB} (h:bl[i]?=some b):(bl++ex)[i]?=some b:=by
 have hi:i<bl.length:=by rcases cZ i bl.length with h'|h';exact h';simp[h']at h
 rw[iq hi,h]
theorem ahR {t:aJ} {x:V} {p:Prop} {v:V} {ex:List VB} (h:Bh P bl t x=some (p,v)):Bh P (bl++ex) t x=some (p,v):=by
 unfold Bh at h⊢;split at h
 ·split at h
  ·rename_i hb;rw[ahQ hb];exact h
  ·cases h
 ·cases h
theorem ahS {z:Nat} (g:Nat->List ae) (hz:∀j,(g j).length=z):∀(n j:Nat),j<n->(((bw n).flatMap g).drop (j*z)).take z=g j:=by
 intro n;induction n with
 |zero=>intro j h;omega
 |succ n ih=>
  intro j h;have hl:((bw n).flatMap g).length=n*z:=by
   clear ih h;induction n with
   |zero=>simp
   |succ n ih=>rw[Dd,FH,ft,ih];simp[hz,ng]
  rw[Dd,FH];rcases cZ j n with h1|h1
  ·have h2:j*z+z<=n*z:=by rw[<-Nat.succ_mul];exact Py z h1
   rw[List.drop_append_of_le_length (by omega),List.take_append_of_le_length (by rw[List.length_drop];omega)];exact ih j h1
  ·obtain rfl:j=n:=by omega
   rw[List.drop_append,List.drop_eq_nil_of_le (by omega),hl,Nat.sub_self];simp only[fi,List.flatMap_cons,List.flatMap_nil,cH,List.drop_zero];exact List.take_of_length_le (Nat.le_of_eq (hz j))
theorem Zy {z n j k m:Nat} {g:Nat->List ae} {r:List ae} (hz:∀j,(g j).length=z) (hj:j<n) (hk:k+m<=z):((((bw n).flatMap g)++r).drop (j*z+k)).take m=((g j).drop k).take m:=by
 have h1:=ahS g hz n j hj;have hl:((bw n).flatMap g).length=n*z:=by
  clear h1 hj;induction n with
  |zero=>simp
  |succ n ih=>rw[Dd,FH,ft,ih];simp[hz,ng]
 have h2:j*z+z<=n*z:=by rw[<-Nat.succ_mul];exact Py z hj
 rw[<-h1];apply vR;intro i;simp only[PC,FI];split
 ·rename_i hi;rw[if_pos (by omega),iq (by omega),AI]
 ·rfl
theorem Zz {α:Type} (pre l:List α) (i:Nat):(pre++l).drop (pre.length+i)=l.drop i:=by
 rw[List.drop_append,List.drop_eq_nil_of_le (by omega)];simp
theorem ZA (hl:ids.length=bl.length) (S:St ms w0 (lits ids ids bl++R) w) {t:aJ} {u:V} {i o j z k n:Nat} {g:Nat->List ae} {pre r:List ae} {b:VB} (hb:bl[i]?=some b) (hD:ai ids b.c=pre++(((bw n).flatMap g)++r)) (ho:o=pre.length) (hu:tq P t ((g j).map Ba) k=some u) (hj:j<n) (hz:∀j,(g j).length=z):
 (qZ t (den ids (.pe i o j z k))).run P w=.ok (den ids u) w:=by
 subst ho;have aP:=(fV hl S hb).2;rw[hD]at aP;have hg:ai ids ((g j).map Ba)=g j:=KO (g j);unfold tq at hu;simp only[qZ,den,ju,bE,du,cK];split at hu
 ·rename_i m ha hn;split at hu
  ·rename_i c rM;simp only[aY]at hu;subst hu;obtain⟨g1,g2,g3⟩:=yO (ids:=ids) rM;rw[hg]at g1 g3;rw[hz]at g3;refine FL (n:=m) aP ?_ ?_ ?_ ?_
   ·unfold rL at ha;split at ha
    ·rename_i d hd;rw[hd];simpa using ha
    ·cases ha
   ·unfold eS at hn;split at hn
    ·rename_i d hd;rw[hd];simpa using hn
    ·cases hn
   ·apply fM;have:=Zy (r:=r) (n:=n) hz hj g3;simp only[Array.toList_extract,List.extract];rw[show pre.length+(j*z+k)+m-(pre.length+(j*z+k))=m by omega,Zz,this,g1]
   ·simpa using g2
  ·cases hu
 ·rename_i ha;have h1:=Qi (ids:=ids) hu;rw[hg]at h1;have hkz:k<z:=by
   rcases cZ k z with h|h
   ·exact h
   ·rw[jc (by rw[hz];exact h)]at h1;cases h1
  have h2:=Zy (r:=r) (n:=n) (j:=j) (k:=k) (m:=1) hz hj (by omega);have h3:(pre++((List.flatMap g (bw n))++r))[pre.length+(j*z+k)]?=(g j)[k]?:=by
   rw[<-Zz pre]at h2;have:=congrArg (λl=>l[0]?) h2;simp only[PC,FI,pG]at this;simpa using this
  refine Dj aP ?_ (by rw[jQ,h3,h1]);unfold rL at ha;split at ha
  ·rename_i d hd;rw[hd];simpa using ha
  ·cases ha
 ·cases hu
theorem ZB (hl:ids.length=bl.length) (S:St ms w0 (lits ids ids bl++R) w) {t:aJ} {x v:V} {p:Prop} (h:Bh P bl t x=some (p,v)) (hp:p):(qZ t (den ids x)).run P w=.ok (den ids v) w:=by
 unfold Bh at h;split at h
 ·rename_i i o j z k;split at h
  ·rename_i b hb;split at h
   ·rename_i z' n g r hc;split at h
    ·cases hq:az z z' with
     |false=>rw[hq]at h;simp at h
     |true=>
      rw[hq]at h;simp only[cond_true]at h;split at h
      ·rename_i u hu;simp only[aY,bC]at h;obtain⟨rfl,rfl⟩:=h;exact ZA hl S (pre:=[]) hb (by rw[hc];simp only[ai,cl,fi];rfl) rfl hu hp.1 hp.2
      ·cases h
    ·cases h
   ·rename_i pre z' n g r hc;cases hq:az z z' with
    |false=>rw[hq]at h;simp at h
    |true=>
     rw[hq]at h;simp only[cond_true]at h;split at h
     ·rename_i u hu;simp only[aY,bC]at h;obtain⟨rfl,rfl⟩:=h;exact ZA hl S (pre:=pre) hb (by rw[hc];simp only[ai,cl];rfl) hp.1 hu hp.2.1 hp.2.2
     ·cases h
   ·split at h
    ·rename_i kd n f hA rN;simp only[aY,bC]at h;obtain⟨rfl,rfl⟩:=h;have aP:=(fV hl S hb).2;simp only[qZ,den,ju,bE,du,cK];refine Dj aP ?_ ?_
     ·unfold rL at rN;split at rN
      ·rename_i d hd;rw[hd];simpa using rN
      ·cases rN
     ·rw[jQ,Zx hA ids,show o+(j*1+0)=o+j by omega,iq (by simpa using hp)];simp[nV hp]
    ·rename_i hA rN;split at h
     ·rename_i l hg;split at h
      ·rename_i r hr;simp only[aY,bC]at h;obtain⟨rfl,rfl⟩:=h;have aP:=(fV hl S hb).2;obtain⟨g1,g2,g3⟩:=yO (ids:=ids) hg;rw[QM hr]at g1;have hr5:r.length=5:=by have:=g2;rw[QM hr]at this;simpa using this
       simp only[qZ,den,ju,bE,du,cK];refine Dj aP ?_ ?_
       ·unfold rL at rN;split at rN
        ·rename_i d hd;rw[hd];simpa using rN
        ·cases rN
       ·have h1:=congrArg (λl=>l[j]?) g1;simp only[PC,FI,if_pos hp,jt]at h1;rw[jQ,show o+(j*1+0)=o+j by omega,h1,jv (by omega)];simp[QJ,ir,jv (show j<r.length by omega)]
      ·cases h
     ·cases h
    ·cases h
  ·cases h
 ·cases h
theorem Bi.run (hl:ids.length=bl.length) (S:St ms w0 (lits ids ids bl++R) w) {t:aJ} {x v:V} (h:Bi P bl t x v):(qZ t (den ids x)).run P w=.ok (den ids v) w:=by
 rcases h with h|⟨p,h,hp⟩
 ·exact K1 (P:=P) hl S h
 ·exact ZB hl S h hp
theorem ZC (ba:∀x,ρ x=den ids (e x)) (o:ax) {p:Prop} {v:V} (h:Gw P e bl o.op=some (p,v)) (hp:p):(execOp ρ o).run P w=.ok (.value (den ids v)) w:=by
 generalize iW:o.op=op at h;unfold Gw at h;split at h
 ·rename_i t x ix;split at h
  ·rename_i i o n c hx;split at h
   ·rename_i b hb;split at h
    ·rename_i z' n' g r hc;split at h
     ·split at h
      ·rename_i el kk m hu iM;split at h
       ·rename_i z hz;cases hq:az z z' with
        |false=>rw[hq]at h;simp at h
        |true=>
         rw[hq]at h;simp only[cond_true,aY,bC]at h;obtain⟨rfl,rfl⟩:=h;unfold execOp;simp only[iW,ba,hx,iM,den,uo,asIntOf,ju,bE,du,cK,dI hu];rw[if_pos hp];simp[bE,gX hz,tu]
       ·cases h
      ·cases h
     ·cases h
    ·rename_i pre z' n' g r hc;split at h
     ·rename_i el kk m hu iM;split at h
      ·rename_i z hz;cases hq:az z z' with
       |false=>rw[hq]at h;simp at h
       |true=>
        rw[hq]at h;simp only[cond_true,aY,bC]at h;obtain⟨rfl,rfl⟩:=h;unfold execOp;simp only[iW,ba,hx,iM,den,uo,asIntOf,ju,bE,du,cK,dI hu];rw[if_pos hp];simp[bE,gX hz,tu]
      ·cases h
     ·cases h
    ·split at h
     ·rename_i el kk m hA hu iM;split at h
      ·rename_i hz;simp only[aY,bC]at h;obtain⟨rfl,rfl⟩:=h;unfold execOp;simp only[iW,ba,hx,iM,den,uo,asIntOf,ju,bE,du,cK,dI hu];rw[if_pos hp];simp[bE,gX hz,tu]
      ·cases h
     ·cases h
   ·cases h
  ·rename_i i o hx;split at h
   ·rename_i b hb;split at h
    ·rename_i n el kk m hA hu iM;split at h
     ·rename_i hz;simp only[aY,bC]at h;obtain⟨rfl,rfl⟩:=h;unfold execOp;simp only[iW,ba,hx,iM,den,uo,asIntOf,ju,bE,du,cK,dI hu];rw[if_pos hp];simp[bE,gX hz,tu]
     ·cases h
    ·rename_i n el kk m hA hu iM;cases hq:az n 5&&Zv P el with
     |false=>rw[hq]at h;simp at h
     |true=>
      rw[hq]at h;simp only[cond_true]at h;split at h
      ·rename_i hz;simp only[aY,bC]at h;obtain⟨rfl,rfl⟩:=h;unfold execOp;simp only[iW,ba,hx,iM,den,uo,asIntOf,ju,bE,du,cK,dI hu];rw[if_pos hp];simp[bE,gX hz,tu]
      ·cases h
    ·cases h
   ·cases h
  ·rename_i i o n c y hx;split at h
   ·rename_i b hb;split at h
    ·rename_i z' n' g r hc;split at h
     ·split at h
      ·rename_i el kk m hu iM;split at h
       ·rename_i z hz;cases hq:az z z' with
        |false=>rw[hq]at h;simp at h
        |true=>
         rw[hq]at h;simp only[cond_true,aY,bC]at h;obtain⟨rfl,rfl⟩:=h;have QN:az n 0=false:=by
          cases wu:az n 0 with
          |false=>rfl
          |true=>exact absurd (cz wu) (by omega)
         unfold execOp;simp only[iW,ba,hx,iM,den,QN,cond_false,uo,asIntOf,ju,bE,du,cK,dI hu];rw[if_pos hp];simp[bE,gX hz,tu]
       ·cases h
      ·cases h
     ·cases h
    ·rename_i pre z' n' g r hc;split at h
     ·rename_i el kk m hu iM;split at h
      ·rename_i z hz;cases hq:az z z' with
       |false=>rw[hq]at h;simp at h
       |true=>
        rw[hq]at h;simp only[cond_true,aY,bC]at h;obtain⟨rfl,rfl⟩:=h;have QN:az n 0=false:=by
         cases wu:az n 0 with
         |false=>rfl
         |true=>exact absurd (cz wu) (by omega)
        unfold execOp;simp only[iW,ba,hx,iM,den,QN,cond_false,uo,asIntOf,ju,bE,du,cK,dI hu];rw[if_pos hp];simp[bE,gX hz,tu]
      ·cases h
     ·cases h
    ·cases h
   ·cases h
  ·cases h
 ·rename_i t x hi;split at h
  ·rename_i i o n c hx;split at h
   ·rename_i b hb;split at h
    ·rename_i z' n' g r hc;split at h
     ·split at h
      ·rename_i el kk m hu iM;split at h
       ·rename_i z hz;simp only[aY,bC]at h;obtain⟨rfl,rfl⟩:=h;have jD:∀code,(AJ (.int kk m) c code).run P w=.ok m.toNat w:=by
         intro code;simp only[AJ,asIntOf,bE,du,cK];rw[if_pos hp];rfl
        have hs:=gX (P:=P) (w:=w) hz;unfold execOp;simp[iW,ba,hx,iM,den,uw,FE,ux,dI hu,jD,hs,jT,vO]
       ·cases h
      ·cases h
     ·cases h
    ·rename_i pre z' n' g r hc;split at h
     ·rename_i el kk m hu iM;split at h
      ·rename_i z hz;simp only[aY,bC]at h;obtain⟨rfl,rfl⟩:=h;have jD:∀code,(AJ (.int kk m) c code).run P w=.ok m.toNat w:=by
        intro code;simp only[AJ,asIntOf,bE,du,cK];rw[if_pos hp];rfl
       have hs:=gX (P:=P) (w:=w) hz;unfold execOp;simp[iW,ba,hx,iM,den,uw,FE,ux,dI hu,jD,hs,jT,vO]
      ·cases h
     ·cases h
    ·cases h
   ·cases h
  ·rename_i a n c hx;split at h
   ·rename_i el kk m hu iM;split at h
    ·rename_i z hz;simp only[aY,bC]at h;obtain⟨rfl,rfl⟩:=h;have jD:∀code,(AJ (.int kk m) c code).run P w=.ok m.toNat w:=by
      intro code;simp only[AJ,asIntOf,bE,du,cK];rw[if_pos hp];rfl
     have hs:=gX (P:=P) (w:=w) hz;unfold execOp;cases a<;>simp[iW,ba,hx,iM,den,uw,FE,ux,dI hu,jD,hs,jT,vO]
    ·cases h
   ·cases h
  ·cases h
 ·rename_i t x ix;split at h
  ·rename_i n el l kk m hu hx iM;split at h
   ·rename_i kd N f hA hz rN;simp only[aY,bC]at h;obtain⟨rfl,rfl⟩:=h;unfold execOp;simp only[iW,ba,hx,iM,den,Instr.index,asIntOf,bE,du,cK,dI hu];rw[if_pos hp.1];have hg:nn l m.toNat=some (.int kd (f m.toNat)):=by
     unfold wq at hA;split at hA
     ·rename_i k2 n2 f2 r;cases hA;have:bG N m.toNat=false:=by
       cases hb:bG N m.toNat with
       |false=>rfl
       |true=>exact absurd (dJ hb) (by have:=hp.2;omega)
      simp only[nn,this,cond_false]
     ·cases hA
    have:=Qr (ids:=ids) (w:=w) (t:=el) (l:=l) (off:=m.toNat*1) (v:=.int kd (f m.toNat)) (by unfold tq;rw[rN];simpa using hg);simp[bE,gX hz]at this⊢;rw[this];rfl
   ·cases h
  ·cases h
 ·rename_i t x lo;split at h
  ·rename_i b q n c el kd k hx hu QO;split at h
   ·rename_i hz;simp only[aY,bC]at h;obtain⟨rfl,rfl⟩:=h;have hs:(P.info? el).map (·.size)=some 1:=by
     unfold eS at hz;split at hz
     ·rename_i inf hi;rw[hi];exact hz
     ·cases hz
    exact ahe (o:=o) (w:=w) (k:=k) (kd:=kd) (by omega) hp.2 (q+k) (by rw[if_neg (by omega)]) iW hu hs (by rw[ba,hx];rfl) (by rw[ba,QO];rfl)
   ·cases h
  ·cases h
 ·cases h
theorem ahT (hl:ids.length=bl.length) (S:St ms w0 (lits ids ids bl++R) w) {t:aJ} {x y:V} {p:Prop} {bl':List VB} (h:QK P bl t x y=some (p,bl')) (hp:p):
 ∃w',(J2 t (den ids x) (den ids y)).run P w=.ok () w'/\St ms w0 (lits ids ids bl'++R) w'/\ids.length=bl'.length:=by
 unfold QK at h;split at h
 ·rename_i i o j Zw v;split at h
  ·rename_i ty c hb;split at h
   ·rename_i kd n f hA rN hz;split at h
    ·rename_i hk _;subst hk;simp only[aY,bC]at h;obtain⟨rfl,rfl⟩:=h;obtain⟨hi,aP⟩:=fV hl S hb;have hc:=Zx hA ids;have bQ:=Kj (P:=P) (off:=o+(j*1+0)) (v:=.int kd v) (vs:=[.int kd v]) (ty:=t) aP rfl (by
      unfold eS at hz;split at hz
      ·rename_i d hd;rw[hd];simpa using hz
      ·cases hz) (by simp only[Yq,List.size_toArray];rw[hc];simp;omega) (by rfl)
     have fw:=S.step hi rfl (Ch.setRow w (ids.getD i 0) _) (setRow_heap w (ids.getD i 0) _ (splice (ai ids c).toArray (o+(j*1+0)) [.int kd v]) ty (0,0) aP);have rD:splice (ai ids c).toArray (o+(j*1+0)) [.int kd v]=(ai ids (K3 (o+j) v c)).toArray:=by
      unfold wq at hA;split at hA
      ·cases hA;apply fM;simp only[splice,K3,ai,cl,show o+(j*1+0)=o+j by omega,Yq];exact ahP hp
      ·cases hA
     have je:i<(lits ids ids bl).length:=by rw[yR ids bl hl];rcases cZ i bl.length with h'|h';exact h';simp[h']at hb
     refine⟨w.setRow (ids.getD i 0) (splice (ai ids c).toArray (o+(j*1+0)) [.int kd v]),?_,?_,by simpa using hl⟩
     ·simp only[J2,den,ju,bE,du,cK];exact bQ
     ·have yU:=yS (ids:=ids) ids bl i ⟨true,⟨ty,(0,0)⟩,K3 (o+j) v c⟩ hl;rw[<-yU,<-List.set_append_left _ _ je];rw[rD]at fw⊢;exact fw
    ·cases h
   ·cases h
  ·cases h
 ·rename_i i o j b;split at h
  ·rename_i bl2 hs;simp only[aY,bC]at h;obtain⟨-,rfl⟩:=h;have:=Zs (P:=P) hl S hs;simpa[den,show o+(j*1+0)=o+j by omega]using this
  ·cases h
 ·cases h
end
class Bl (G:Type) where
 B:G->List aj
abbrev VK (G:Type):=V->List VB->List G->Prop
abbrev dc (G:Type):=List V->List VB->List G->VK G->Prop
variable{G:Type} [Bl G]
def aC:List G->List aj->List aj
 |[],R=>R
 |b::l,R=>Bl.B b++aC l R
def Gl (gl:Nat->Option Nat) (ids:List Nat):Prop:=∀g i,gl g=some i->i<ids.length/\ids.getD i 0=g
def Sound (P:aL) (gl:Nat->Option Nat) (f:fL) (c:dc G):Prop:=∀(args:List V) (ids:List Nat) (bl:List VB) (ch:List G) (R:List aj) (ms:List Nat) (w0 w:ag) (K:VK G),
 Gl gl ids->ids.length=bl.length->St ms w0 (lits ids ids bl++aC ch R) w->c args bl ch K->aV P f (aH ids args).toArray w λv w'=>
  ∃x more bl' ch',v=den (ids++more) x/\(ids++more).length=bl'.length/\St ms w0 (lits (ids++more) (ids++more) bl'++aC ch' R) w'/\K x bl' ch'
def gv (P:aL) (gl:Nat->Option Nat) (h:(bh->V)->Op->List VB->List G->VK G->Prop):Prop:=∀(e:bh->V) (op:Op) (ids:List Nat) (bl:List VB) (ch:List G) (R:List aj) (ms:List Nat) (w0 w:ag) (K:VK G) (ρ:bh->ae) (o:ax),
 Gl gl ids->ids.length=bl.length->St ms w0 (lits ids ids bl++aC ch R) w->(∀x,ρ x=den ids (e x))->o.op=op->h e op bl ch K->
  ∃x more bl' ch' w',((execOp ρ o).run P w=.ok (.value (den (ids++more) x)) w'\/((execOp ρ o).run P w=.ok .skip w'/\x=gu))/\(ids++more).length=bl'.length/\St ms w0 (lits (ids++more) (ids++more) bl'++aC ch' R) w'/\K x bl' ch'
def K4:(bh->V)->Op->List VB->List G->VK G->Prop:=λ_ _ _ _ _=>False
theorem QP {P:aL} {gl:Nat->Option Nat}:gv (G:=G) P gl K4:=λ_ _ _ _ _ _ _ _ _ _ _ _ _ _ _ _ _ h=>h.elim
def DF:Op->Bool
 |.call ⟨.builtin .append,_,_⟩=>true
 |.call ⟨.builtin .copy,_,_⟩=>true
 |.buildSlice _ n _=>az n 0
 |.makeMap .. =>true
 |.makeSlice .. =>true
 |.lookup .. =>true
 |.insert .. =>true
 |.mapUpdate .. =>true
 |.typeAssert .. =>true
 |.binOp op _ _ y _=>KX op y
 |_=>false
def fill:List (Option V)->(Nat->ae)->Nat->List V
 |[],_,_=>[]
 |some v::l,g,i=>v::fill l g (i+1)
 |none::l,g,i=>.raw (g i)::fill l g (i+1)
def DG (n:Nat):List (Option V)->List V->Prop
 |[],[]=>True
 |some v::l,u::fr=>u=v/\cR n v=true/\DG n l fr
 |none::l,_::fr=>DG n l fr
 |_,_=>False
structure Lp (G:Type) where
 X:Type
 m:X->Nat
 fr:X->List (Option V)
 bl:X->List VB
 ch:X->List G
 QQ:List V->List VB->List G->Prop
 en:X->List V->List VB->List G->Prop
 ZD:∀fr' bl' ch',QQ fr' bl' ch'->∃x,DG bl'.length (fr x) fr'/\bl x=bl'/\ch x=ch'
 ok:∀x fr' bl' ch',en x fr' bl' ch'->∃y,m y<m x/\DG (bl x).length (fr y) fr'/\(bl y).length=(bl x).length/\bM (bl x).length (bl y)=true/\(∃j,bl'=bl y++j)/\ch y=ch'
structure Ctx (G:Type) [Bl G] where
 P:aL
 T:fL->Option (dc G)
 gl:Nat->Option Nat
 q:Nat->Bool
 h:(bh->V)->Op->List VB->List G->VK G->Prop
 hok:gv P gl h
 lp:Nat->List V->Option (Lp G)
def ev (gl:Nat->Option Nat) (fr:List V):bh->V
 |.tmp t=>nth fr t
 |.const v=>DC v
 |.global g=>match gl g with|some i=>.ptr i 0|none=>.raw (.pointer (some ⟨g,0,none⟩))
 |.func f=>.fn f [] []
def okF (P:aL) (f:fL):Bool:=match P.funcs[f]?with
 |some fn=>!(fn.name== "runtime.NumGoroutine")&&!fn.body.isNone
 |none=>false
def QU (P:aL) (bl:List VB) (t:aJ) (v:V) (name:String):Option (fL×V):=
 match P.info? t with
 |some i=>(match i.methods.find? (·.name==name)with
  |some m=>(match m.path.toList,m.func,P.underlying t with
   |[],some (f,true),some (.pointer _)=>some (f,v)
   |[],some (f,false),some (.pointer el)=>(match v with
    |.ptr j o=>(match uN P bl el (.ptr j o)with|some u=>some (f,u)|none=>none)
    |_=>none)
   |[],some (f,false),some (.slice _)=>some (f,v)
   |_,_,_=>none)
  |none=>none)
 |none=>none
def callee (P:aL) (e:bh->V) (bl:List VB):Op->Option (fL×List V)
 |.call c=>(match c.callee with
  |.value f=>(match e f with
   |.fn g a b=>bif okF P g then some (g,a++c.args.toList.map e++b)else none
   |_=>none)
  |.invoke r name=>(match e r with
   |.mH t v=>(match QU P bl t v name with
    |some (g,u)=>bif okF P g then some (g,u::c.args.toList.map e)else none
    |none=>none)
   |_=>none)
  |_=>none)
 |_=>none
abbrev k7 (G:Type):=fL->List V->List VB->List G->VK G->Prop
abbrev kF (G:Type):=List V->List VB->List G->Prop
def qi (C:Ctx G) (call:k7 G) (o:ax) (fr:List V) (bl:List VB) (ch:List G) (k:kF G):Prop:=
 match o.op with
 |.load t x=>(match uN C.P bl t (ev C.gl fr x)with|some v=>k (put fr o.dst v) bl ch|none=>(match Bh C.P bl t (ev C.gl fr x)with|some (p,v)=>p/\k (put fr o.dst v) bl ch|none=>False))
 |.store t x y=>(match KY C.P bl t (ev C.gl fr x) (ev C.gl fr y)with|some bl'=>k (put fr o.dst gu) bl' ch|none=>(match QK C.P bl t (ev C.gl fr x) (ev C.gl fr y)with|some (p,bl')=>p/\k (put fr o.dst gu) bl' ch|none=>False))
 |op=>match Gw C.P (ev C.gl fr) bl op with
  |some (p,v)=>p/\k (put fr o.dst v) bl ch
  |none=>match Gp C.P (ev C.gl fr) op with
  |some v=>k (put fr o.dst v) bl ch
  |none=>match Gs C.P (ev C.gl fr) bl.length op with
   |some (v,b)=>cond (bo bl.length fr&&(bM bl.length bl&&bo bl.length b.c)) (k (put fr o.dst v) (bl++[b]) ch) False
   |none=>match callee C.P (ev C.gl fr) bl op with
    |some (f,args)=>cond (bo bl.length fr) (call f args bl ch λv bl' ch'=>k (put fr o.dst v) bl' ch') False
    |none=>cond (DF op&&bo bl.length fr) (C.h (ev C.gl fr) op bl ch λv bl' ch'=>k (put fr o.dst v) bl' ch') False
def yV (ops:Array ax) (j:Nat):Option Tmp:=match ops[j]?with|some o=>o.dst|none=>none
def jh (C:Ctx G) (call:k7 G) (ops:Array ax):List ax->List V->List VB->List G->kF G->Prop
 |[],fr,bl,ch,K=>K fr bl ch
 |o::l,fr,bl,ch,K=>match o.guard with
  |none=>qi C call o fr bl ch λfr bl ch=>jh C call ops l fr bl ch K
  |some (j,want)=>match yV ops j with
   |none=>False
   |some t=>match nth fr t with
    |.bool b=>cond b
     (cond want (qi C call o (kh fr t (.bool true)) bl ch λfr bl ch=>jh C call ops l fr bl ch K) (jh C call ops l (put (kh fr t (.bool true)) o.dst gu) bl ch K))
     (cond want (jh C call ops l (put (kh fr t (.bool false)) o.dst gu) bl ch K) (qi C call o (kh fr t (.bool false)) bl ch λfr bl ch=>jh C call ops l fr bl ch K))
    |.raw (.tuple _)=>jh C call ops l (put fr o.dst gu) bl ch K
    |_=>False
def act (ids:List Nat) (fr:List V):Act:=⟨(aH ids fr).toArray,[]⟩
def DH (P:aL) (gl:Nat->Option Nat) (call:k7 G):Prop:=∀f,okF P f=true->Sound P gl f (call f)
section
variable{ids:List Nat} {w w0:ag} {ms:List Nat} {bl:List VB} {ch:List G} {R:List aj} {fr:List V} {C:Ctx G} {call:k7 G}
theorem Gl.app {gl:Nat->Option Nat} (h:Gl gl ids) (more:List Nat):Gl gl (ids++more):=λg i hg=>by
 obtain⟨h1,h2⟩:=h g i hg;refine⟨by simp;omega,?_⟩;rw[DB (by rw[iG];exact h1),h2]
theorem ZE {gl:Nat->Option Nat} (hg:Gl gl ids) (x:bh):(act ids fr).eval x=den ids (ev gl fr x):=by
 cases x with
 |tmp t=>simp only[Act.eval,act,ev,Bb]
 |const v=>simp only[Act.eval,ev,aht]
 |global g=>
  simp only[Act.eval,ev];split
  ·rename_i i hi;simp only[den,(hg g i hi).2]
  ·simp[den]
 |func f=>simp[Act.eval,ev,den,aH]
theorem ZF (d:Option Tmp) (v:V):(act ids fr).put d (den ids v)=act ids (put fr d v):=by
 cases d with
 |none=>rfl
 |some t=>simp only[act,Act.put,put,ahu]
theorem ahU {more:List Nat} (h:bo ids.length fr=true):act (ids++more) fr=act ids fr:=by simp only[act,n_ fr h]
theorem QW {P:aL} {t:aJ} {i:TypeInfo} (h:P.info? t=some i) (w:ag):(typeInfo t).run P w=.ok i w:=by simp[typeInfo,h]
theorem ZG {P:aL} {f:fL} (hk:okF P f=true) (args:Array ae) (w:ag):(callFunc f args).run P w=.ok (.enter f args) w:=by
 unfold okF at hk;split at hk
 ·rename_i fn Bj;simp only[bu,my]at hk;simp only[callFunc,bE,run_program,cK,Bj];rw[if_neg (by simp[hk.1]),if_neg (by simp[hk.2])];simp only[du]
 ·cases hk
theorem ahV {P:aL} (hl:ids.length=bl.length) (S:St ms w0 (lits ids ids bl++R) w) {t:aJ} {v u:V} {name:String} {f:fL} (h:QU P bl t v name=some (f,u)) (n:Nat):
 (method (n+1) t (den ids v) name).run P w=.ok (f,den ids u) w:=by
 unfold QU at h;split at h
 ·rename_i i hi;split at h
  ·rename_i m hm;split at h
   ·rename_i f' el hp hf hu;cases h;simp only[method,bE,QW hi,cK,hm,hp,hf,follow,du,receiverAt,dI hu,agL]
   ·rename_i f' el hp hf hu;split at h
    ·rename_i j o;split at h
     ·rename_i u' hv;cases h;have QX:=K1 (P:=P) hl S hv;have e1:m.path.isEmpty=true:=by simpa using hp
      have hw:∀(a:aQ) (nm:String),Builtin.ssaWrapNilChk_ #[t] t #[.pointer (some a),strVal "",strVal nm]=pure (.pointer (some a)):=λ_ _=>rfl;have ahW:(loadVar el ⟨ids.getD j 0,o,none⟩).run P w=.ok (den ids u) w:=QX;simp only[method,bE,QW hi,cK,hm,hp,hf,follow,du,receiverAt,dI hu,agL,e1,if_true,den,hw,asAddr];rw[ahW];rfl
     ·cases h
    ·cases h
   ·rename_i f' el hp hf hu;cases h;simp only[method,bE,QW hi,cK,hm,hp,hf,follow,du,receiverAt,dI hu,agL]
   ·cases h
  ·cases h
 ·cases h
theorem ahX {P:aL} {ρ:bh->ae} {e:bh->V} (ba:∀x,ρ x=den ids (e x)) (hl:ids.length=bl.length) (S:St ms w0 (lits ids ids bl++R) w) (o:ax) {f:fL} {args:List V} (h:callee P e bl o.op=some (f,args)):
 (execOp ρ o).run P w=.ok (.enter f (aH ids args).toArray) w/\okF P f=true:=by
 have DJ:∀l:List bh,l.map ρ=aH ids (l.map e):=λl=>by
  rw[yM,lQ];exact pI λx _=>ba x
 unfold callee at h;split at h
 ·rename_i c ho;split at h
  ·rename_i fo hc;split at h
   ·rename_i g a b hf;cases hk:okF P g with
    |false=>rw[hk]at h;simp at h
    |true=>
     rw[hk]at h;simp only[cond_true,aY,bC]at h;obtain⟨rfl,rfl⟩:=h;refine⟨?_,hk⟩;have cV:(aH ids a).toArray++c.args.map ρ++(aH ids b).toArray=(aH ids (a++c.args.toList.map e++b)).toArray:=by
      apply fM;simp only[Array.toList_append,Array.toList_map,DJ];simp only[yM,rk]
     simp only[execOp,ho,resolve,hc,ba,hf,den,Deferred.ofValue,bE,du,cK,invoke,ZG hk];rw[<-cV]
   ·cases h
  ·rename_i r name hc;split at h
   ·rename_i t v hr;split at h
    ·rename_i g u hm;cases hk:okF P g with
     |false=>rw[hk]at h;simp at h
     |true=>
      rw[hk]at h;simp only[cond_true,aY,bC]at h;obtain⟨rfl,rfl⟩:=h;refine⟨?_,hk⟩;have hmt:=λn=>ahV (P:=P) hl S hm n;have hfu:∀n:Nat,n+Made.depth=(n+99)+1:=λn=>rfl;have cV:#[den ids u]++c.args.map ρ=(aH ids (u::c.args.toList.map e)).toArray:=by
       apply fM;simp only[Array.toList_append,Array.toList_map,DJ,aH];rfl
      have hex:(#[den ids (.mH t v)]++c.args.map ρ).extract 1 (#[den ids (.mH t v)]++c.args.map ρ).size=c.args.map ρ:=by
       apply fM;simp;exact List.take_of_length_le (by simp)
      have h0:(#[den ids (.mH t v)]++c.args.map ρ)[0]?=some (.iface t (den ids v)):=by
       simp[Array.getElem?_append,den]
      simp only[execOp,ho,resolve,hc,ba,hr,bE,du,cK,invoke,h0,hex,callMethod,run_program,hfu,hmt,ZG hk];rw[<-cV]
    ·cases h
   ·cases h
  ·cases h
 ·cases h
theorem QY (hc:DH C.P C.gl call) (hg:Gl C.gl ids) (hl:ids.length=bl.length) (S:St ms w0 (lits ids ids bl++aC ch R) w) {o:ax} {k:kF G} (h:qi C call o fr bl ch k) {a:Act}
 (ha:execOp a.eval o=execOp (act ids fr).eval o) {next:Act->ag->Prop} {Q:eE->Act->ag->Prop}
 (hk:∀x more bl' ch' w',(ids++more).length=bl'.length->St ms w0 (lits (ids++more) (ids++more) bl'++aC ch' R) w'->k (put fr o.dst x) bl' ch'->more=[]\/bo ids.length fr=true->next (a.put o.dst (den (ids++more) x)) w'):
 o.wp C.P a w next Q:=by
 have ba:=λx=>ZE (fr:=fr) hg x;have rI:∀x bl' w',ids.length=bl'.length->St ms w0 (lits ids ids bl'++aC ch R) w'->k (put fr o.dst x) bl' ch->next (a.put o.dst (den ids x)) w':=λx bl' w' h1 h2 h3=>by
  have:=hk x [] bl' ch w' (by simpa using h1) (by simpa using h2) h3 (.inl rfl);simpa using this
 unfold oO;rw[ha];unfold qi at h;split at h
 ·rename_i t x ho;split at h
  ·rename_i v hv;have:=K1 (P:=C.P) hl S hv;have e:(execOp (act ids fr).eval o).run C.P w=.ok (.value (den ids v)) w:=by
    unfold execOp;simp only[ho,ba,bE,this];rfl
   rw[e];simp only[AN];exact rI _ _ _ hl S h
  ·split at h
   ·rename_i p v hv;have:=ZB (P:=C.P) hl S hv h.1;have e:(execOp (act ids fr).eval o).run C.P w=.ok (.value (den ids v)) w:=by
     unfold execOp;simp only[ho,ba,bE,this];rfl
    rw[e];simp only[AN];exact rI _ _ _ hl S h.2
   ·exact h.elim
 ·rename_i t x y ho;split at h
  ·rename_i bl' hv;obtain⟨w',h1,h2,h3⟩:=Zs (P:=C.P) hl S hv;have e:(execOp (act ids fr).eval o).run C.P w=.ok .skip w':=by
    unfold execOp;simp only[ho,ba,bE,h1];rfl
   rw[e];simp only[agM];rw[show(undef:ae)=den ids gu by simp[gu,den]];exact rI _ _ _ h3 h2 h
  ·split at h
   ·rename_i p bl' hv;obtain⟨w',h1,h2,h3⟩:=ahT (P:=C.P) hl S hv h.1;have e:(execOp (act ids fr).eval o).run C.P w=.ok .skip w':=by
     unfold execOp;simp only[ho,ba,bE,h1];rfl
    rw[e];simp only[agM];rw[show(undef:ae)=den ids gu by simp[gu,den]];exact rI _ _ _ h3 h2 h.2
   ·exact h.elim
 ·split at h
  ·rename_i p v hv;rw[ZC ba o hv h.1];simp only[AN];exact rI _ _ _ hl S h.2
  ·split at h
   ·rename_i v hv;rw[Zr ba o v hv];simp only[AN];exact rI _ _ _ hl S h
   ·split at h
    ·rename_i v b hv;cases hq:bo bl.length fr&&(bM bl.length bl&&bo bl.length b.c)with
     |false=>rw[hq]at h;exact h.elim
     |true=>
      rw[hq]at h;simp only[bu]at hq;rw[<-hl]at hv hq;obtain⟨h1,h2,h2f⟩:=ahO (w:=w) ba o hv;obtain⟨h3,h4⟩:=grow hl S b h2 h2f hq.2.1 hq.2.2;rw[h1];simp only[AN];exact hk _ _ _ _ _ h4 h3 h (.inr hq.1)
    ·split at h
     ·rename_i f args hv;cases hq:bo bl.length fr with
      |false=>rw[hq]at h;exact h.elim
      |true=>
       rw[hq]at h;rw[<-hl]at hq;obtain⟨h1,h2⟩:=ahX ba hl S o hv;rw[h1,Oper.upon_enter];refine Calls.mono (hc f h2 args ids bl ch R ms w0 w _ hg hl S h) ?_;rintro e w' ⟨v,rfl,x,more,bl',ch',rfl,g1,g2,g3⟩;exact hk _ _ _ _ _ g1 g2 g3 (.inr hq)
     ·cases hq:DF o.op&&bo bl.length fr with
      |false=>rw[hq]at h;exact h.elim
      |true=>
       rw[hq]at h;rw[<-hl]at hq;simp only[bu]at hq;obtain⟨x,more,bl',ch',w',h1,g1,g2,g3⟩:=C.hok _ _ ids bl ch R ms w0 w _ _ o hg hl S ba rfl h;rcases h1 with h1|⟨h1,rfl⟩
       ·rw[h1];simp only[AN];exact hk _ _ _ _ _ g1 g2 g3 (.inr hq.2)
       ·rw[h1];simp only[agM];have:=hk _ _ _ _ _ g1 g2 g3 (.inr hq.2);simpa[gu,den]using this
theorem ahY {more:List Nat} (h:more=[]\/bo ids.length fr=true):act (ids++more) fr=act ids fr:=by
 rcases h with rfl|h
 ·simp
 ·exact ahU h
end
end Vx
namespace Vx
open Go Go.RowKit Go.BigFrame Sx
variable{G:Type} [Bl G]
section
variable{C:Ctx G} {call:k7 G}
theorem K5:∀(fr:List V) (t:Nat),kh fr t (nth fr t)=fr
 |[],_=>rfl
 |_::_,0=>rfl
 |v::l,t+1=>by simp[kh,nth,K5 l t]
theorem ahZ {ids:List Nat} {fr:List V} {ops:Array ax} {j t:Nat} {b:Bool} (hd:yV ops j=some t) (h:nth fr t=.bool b):yielded ops (act ids fr).tmps j=some b:=by
 have h1:(ops[j]?).bind (·.dst)=some t:=by
  unfold yV at hd;split at hd
  ·rename_i o ho;rw[ho];simpa using hd
  ·cases hd
 have h2:(act ids fr).tmps[t]?=some (.bool b):=by
  have h3:=Bb (ids:=ids) fr t;rw[h]at h3;have h4:t<(aH ids fr).toArray.size:=by
   rcases cZ t (aH ids fr).toArray.size with h5|h5
   ·exact h5
   ·exfalso;rw[FF,dif_neg (by omega)]at h3;simp[den,undef]at h3
  rw[FF,dif_pos h4]at h3;simp only[act];rw[J9 h4];simp only[den]at h3;exact congrArg some h3.symm
 simp[yielded,h1,h2]
theorem ah0 {ids:List Nat} {fr:List V} {ops:Array ax} {j t:Nat} {vs:Array ae} (hd:yV ops j=some t) (h:nth fr t=.raw (.tuple vs)):yielded ops (act ids fr).tmps j=none:=by
 have h1:(ops[j]?).bind (·.dst)=some t:=by
  unfold yV at hd;split at hd
  ·rename_i o ho;rw[ho];simpa using hd
  ·cases hd
 unfold yielded;rw[h1];simp only[Option.bind_some];by_cases h4:t<(aH ids fr).toArray.size
 ·have h3:=Bb (ids:=ids) fr t;rw[h,FF,dif_pos h4]at h3;simp only[act];rw[J9 h4];simp only[den]at h3;rw[Array.getInternal_eq_getElem]at h3;rw[<-h3]
 ·simp only[act];rw[J3 (by omega)]
theorem QZ (hc:DH C.P C.gl call) {ops:Array ax} {R:List aj} {ms:List Nat} {w0:ag} {Q:eE->Act->ag->Prop} {k:kF G}:∀(l:List ax) {ids:List Nat} {bl:List VB} {ch:List G} {fr:List V} {w:ag},
 Gl C.gl ids->ids.length=bl.length->St ms w0 (lits ids ids bl++aC ch R) w->jh C call ops l fr bl ch k->
 (∀fr' more bl' ch' w',(ids++more).length=bl'.length->St ms w0 (lits (ids++more) (ids++more) bl'++aC ch' R) w'->k fr' bl' ch'->Q .normal (act (ids++more) fr') w')->
 WL C.P ops Q l (act ids fr) w
 |[],ids,bl,ch,fr,w,hg,hl,S,h,hk=>by
  refine aW ?_;have:=hk fr [] bl ch w (by simpa using hl) (by simpa using S) h;simpa using this
 |o::l,ids,bl,ch,fr,w,hg,hl,S,h,hk=>by
  have go:∀fr,gT o (yielded ops (act ids fr).tmps)=true->qi C call o fr bl ch (λfr bl ch=>jh C call ops l fr bl ch k)->WL C.P ops Q (o::l) (act ids fr) w:=by
   intro fr hw h;refine WL.want hw λK hK=>QY hc hg hl S h rfl ?_;intro x more bl' ch' w' g1 g2 g3 g4;rw[<-ahY g4,ZF];refine hK _ _ (QZ hc l (hg.app more) g1 g2 g3 ?_);intro uO cJ bl2 ch2 w2 e1 e2 e3;have:=hk uO (more++cJ) bl2 ch2 w2 (by rw[<-bU];exact e1) (by rw[<-bU];exact e2) e3;rw[<-bU]at this;exact this
  have sk:∀fr,gT o (yielded ops (act ids fr).tmps)=false->jh C call ops l (put fr o.dst gu) bl ch k->WL C.P ops Q (o::l) (act ids fr) w:=by
   intro fr hw h;refine vY ?_ hw;rw[show(undef:ae)=den ids gu by simp[gu,den],ZF];exact QZ hc l hg hl S h hk
  simp only[jh]at h;split at h
  ·rename_i yW;exact go fr (by simp[gT,yW]) h
  ·rename_i j want yW;split at h
   ·exact h.elim
   ·rename_i t hd;split at h
    ·rename_i b hb;have hy:=ahZ (ids:=ids) hd hb;have K6:gT o (yielded ops (act ids fr).tmps)=(b==want):=by
      simp only[gT,yW,hy];cases b<;>cases want<;>rfl
     have hs:=K5 fr t;rw[hb]at hs;cases b with
     |true=>
      rw[hs]at h;cases want with
      |true=>exact go fr (by rw[K6];rfl) h
      |false=>exact sk fr (by rw[K6];rfl) h
     |false=>
      rw[hs]at h;cases want with
      |true=>exact sk fr (by rw[K6];rfl) h
      |false=>exact go fr (by rw[K6];rfl) h
    ·rename_i vs hb;exact sk fr (by simp only[gT,yW,ah0 (ids:=ids) hd hb];rfl) h
    ·exact h.elim
end
inductive Cl where|f|a|x
 deriving DecidableEq
def yX (o:ax):Cl:=match o.op with
 |.alloc _=>.a
 |.move _=>.f
 |.assign _=>.f
 |.pick .. =>.f
 |.load .. =>.f
 |.nilCheck _=>.f
 |.binOp op _ _ y _=>bif KX op y then .x else .f
 |.unOp .. =>.f
 |.convert .. =>.f
 |.makeFunc .. =>.f
 |.makeInterface .. =>.f
 |.build .. =>.f
 |.fieldAddr .. =>.f
 |.field .. =>.f
 |.indexAddr .. =>.f
 |.index .. =>.f
 |.extract .. =>.f
 |.call ⟨.builtin .len,_,_⟩=>.f
 |.call ⟨.builtin .min,_,_⟩=>.f
 |.call ⟨.builtin .max,_,_⟩=>.f
 |.slice .. =>.f
 |.sliceToArrayPointer .. =>.f
 |_=>.x
def ki (o:ax):Bool:=match yX o with|.f=>true|_=>false
def gC (o:ax):Bool:=match yX o with|.a=>true|_=>false
def k8 (o:ax):Bool:=match yX o with|.x=>true|_=>false
def Q0 (o:ax):Bool:=match o.op with|.load .. =>true|_=>false
def uP (q:Nat->Bool) (o:ax):Bool:=match o.op with
 |.box .. =>true
 |.buildSlice _ n _=>!(az n 0)
 |.call ⟨.value (.func f),_,_⟩=>q f
 |_=>false
def wv (pm:List Nat):List Edge->Nat
 |[]=>0
 |e::l=>bif rf .any e then wv pm l|||(2^e.on|||pm.getD e.on 0)else wv pm l
def K7:List ax->List Nat->List Nat
 |[],pm=>pm
 |o::l,pm=>K7 l (pm++[wv pm o.after.toList])
def gh (pm:List Nat) (i j:Nat):Bool:=(pm.getD j 0).testBit i
def uQ (l:List ax) (pm:List Nat):Bool:=az pm.length l.length&&(l.zip pm).all λp=>az p.2 (wv pm p.1.after.toList)
def bz (l:List ax) (i:Nat):ax:=match l[i]?with|some o=>o|none=>default
def k9 (p:Nat->Nat->Bool):List Nat->Bool
 |[]=>true
 |i::l=>l.all (p i)&&k9 p l
def oc (l:List ax):List Nat->Option Nat
 |[]=>none
 |i::r=>bif gC (bz l i)then oc l r else some i
def yY (l:List ax) (pm:List Nat):List Nat->Bool
 |[]=>true
 |i::r=>(bif gC (bz l i)then(match oc l r with|some x=>k8 (bz l x)&&gh pm i x|none=>false)else true)&&yY l pm r
def looks (l:List ax) (i:Nat):List Tmp:=Ke l.toArray (bz l i)
def K8 (t:Tmp) (l:List Tmp):Bool:=l.any λu=>az u t
def wx (q:Nat->Bool) (l:List ax) (pm:List Nat) (i j:Nat):Bool:=
 !(gh pm j i)&&(gh pm i j||
   (bif k8 (bz l i)then gC (bz l j)else true)&&
   (bif k8 (bz l j)&&Q0 (bz l i)then uP q (bz l j)else true))&&
 (match(bz l i).dst with|some t=>(bif K8 t (looks l j)then gh pm i j else true)&&(match(bz l j).dst with|some u=>!(az t u)|none=>true)|none=>true)&&
 (match(bz l j).dst with|some t=>(bif K8 t (looks l i)then gh pm i j else true)|none=>true)
def K9 (C:Ctx G) (n:Nat) (o:ax):Bool:=
 (match o.dst with|some t=>cD t n|none=>true)&&(match o.op with|.select .. =>false|_=>true)&&
 (bif gC o then(match o.guard,o.dst,o.op with|none,some _,.alloc t=>(match nq C.P t with|some _=>true|none=>false)|_,_,_=>false)else true)
def uR (l:List ax) (ts:List Nat):List ax:=ts.map (bz l)
def DK:List Nat->Bool
 |[]=>true
 |i::l=>!(l.any λj=>az j i)&&DK l
def yZ (l:List ax) (n:Nat):Bool:=l.all λo=>o.after.all λe=>!rf .any e||cD e.on n
def ZH (C:Ctx G) (q:Nat->Bool) (l:List ax) (pm ts:List Nat):Bool:=
 uQ l pm&&yZ l l.length&&C.P.follows .mixedOrders&&az ts.length l.length&&ts.all (λi=>cD i l.length)&&DK ts&&
 k9 (wx q l pm) ts&&yY l pm ts&&ts.all (λi=>!(gh pm i i))
def Gx (C:Ctx G) (q:Nat->Bool) (l:List ax) (pm ts:List Nat) (n:Nat):Bool:=ZH C q l pm ts&&l.all (K9 C n)
def Q2 (pm:List Nat) (done m:Nat) (l:List ax) (c:ax->Bool) (am:Nat):Nat->Option Nat
 |0=>none
 |k+1=>match Q2 pm done m l c am k with
  |some i=>some i
  |none=>bif Nat.testBit done k then none else bif c (bz l k)&&az ((pm.getD k 0)|||(done|||am)) (done|||am)then some k else none
def Q3 (l:List ax):Nat->Nat
 |0=>0
 |k+1=>bif gC (bz l k)then Q3 l k|||2^k else Q3 l k
def Q4 (pm:List Nat) (l:List ax) (done j:Nat):Nat->List Nat
 |0=>[]
 |k+1=>Q4 pm l done j k++(bif gC (bz l k)&&(gh pm k j&&!(Nat.testBit done k))then[k]else[])
def sched (pm:List Nat) (l:List ax) (am:Nat):Nat->Nat->List Nat
 |0,_=>[]
 |n+1,done=>match Q2 pm done l.length l ki 0 l.length with
  |some i=>i::sched pm l am n (done|||2^i)
  |none=>match Q2 pm done l.length l k8 am l.length with
   |some j=>Q4 pm l done j l.length++(j::sched pm l am n ((Q4 pm l done j l.length).foldl (λs i=>s|||2^i) (done|||2^j)))
   |none=>[]
def DL (l:List ax) (pm:List Nat):List Nat:=sched pm l (Q3 l l.length) l.length 0
def K_ (i:Nat) (o:ax):ax:={o with after:=o.after.push ⟨i,.data⟩}
def fE (l:List ax) (i j:Nat):List ax:=match l[j]?with|some o=>l.set j (K_ i o)|none=>l
def Gy:List ax->List Nat->List Nat->List Nat
 |[],pm,_=>pm
 |o::l,pm,old=>Gy l (pm++[wv (pm++old) o.after.toList]) old.tail
def Bm (l:List ax):List Nat->Option (Nat×List Nat)
 |[]=>none
 |i::r=>bif k8 (bz l i)then some (i,r)else Bm l r
def Gz (C:Ctx G) (l:List ax) (pm ts:List Nat) (i n:Nat):Bool:=Gx C C.q l pm ts n&&(l.all λo=>!(gC o))&&(match Bm l ts with|some (x,_)=>az x i|none=>false)
section
variable{l:List ax} {pm:List Nat}
theorem La (pm:List Nat) (i:Nat):∀es:List Edge,(wv pm es).testBit i=true↔∃e∈es,rf .any e=true/\(e.on=i\/(pm.getD e.on 0).testBit i=true)
 |[]=>by simp[wv]
 |e::l=>by
  unfold wv;cases hb:rf .any e with
  |false=>simp[hb,La pm i l]
  |true=>
   simp only[cond_true,Nat.testBit_or,Da,La pm i l,Nat.testBit_two_pow,decide_eq_true_eq];constructor
   ·rintro(⟨x,hx,h1,h2⟩|h2)
    ·exact⟨x,by simp[hx],h1,h2⟩
    ·exact⟨e,by simp,hb,h2⟩
   ·rintro⟨x,hx,h1,h2⟩;rcases cn.1 hx with rfl|hx
    ·exact .inr h2
    ·exact .inl ⟨x,hx,h1,h2⟩
theorem ZI (h:uQ l pm=true) {j:Nat} {o:ax} (ho:l[j]?=some o):pm.getD j 0=wv pm o.after.toList:=by
 unfold uQ at h;simp only[bu]at h;have hlen:=cz h.1;have hj:j<l.length:=by rcases cZ j l.length with h'|h';exact h';simp[h']at ho
 have hm:(l.zip pm)[j]?=some (o,pm[j]):=by
  rw[List.getElem?_zip_eq_some];exact⟨ho,by simp⟩
 have:=gm.1 h.2 _ (pF hm);have:=cz this;simp only[ir,jv (show j<pm.length by omega),Yi];exact this
theorem Lb {i:Nat} {o:ax} (h:l[i]?=some o):bz l i=o:=by unfold bz;rw[h]
theorem ah1 {i t:Nat} (h:(bz l i).dst=some t):l[i]?=some (bz l i):=by
 unfold bz at h⊢;cases hi:l[i]?with
 |some o=>rfl
 |none=>rw[hi]at h;cases h
theorem ZJ (h:uQ l pm=true) {i j:Nat} {o:ax} (ho:l[j]?=some o) (hb:gh pm i j=true):∃e∈o.after,rf .any e=true/\(e.on=i\/gh pm i e.on=true):=by
 unfold gh at hb;rw[ZI h ho]at hb;obtain⟨e,he,h1,h2⟩:=(La pm _ _).1 hb;exact⟨e,by simpa using he,h1,h2⟩
theorem Bn {p:Nat->Nat->Bool}:∀{a b:List Nat},k9 p (a++b)=true->(∀i∈a,∀j∈b,p i j=true)/\k9 p a=true/\k9 p b=true
 |[],b,h=>⟨by simp,rfl,h⟩
 |x::a,b,h=>by
  simp only[fe,k9,bu,gm]at h;obtain⟨i1,i2,i3⟩:=Bn h.2;refine⟨?_,?_,i3⟩
  ·intro i hi j hj;rcases cn.1 hi with rfl|hi
   ·exact h.1 j (by simp[hj])
   ·exact i1 i hi j hj
  ·simp only[k9,bu,gm];exact⟨λj hj=>h.1 j (by simp[hj]),i2⟩
theorem Q5 {p:Nat->Nat->Bool}:∀{a:List Nat},k9 p a=true->∀i∈a,∀j∈a,i≠j->p i j=true\/p j i=true
 |[],_,_,hi,_,_,_=>by cases hi
 |x::a,h,i,hi,j,hj,cE=>by
  simp only[k9,bu,gm]at h;rcases cn.1 hi with e1|je
  ·rcases cn.1 hj with e2|kD
   ·exact absurd (e1.trans e2.symm) cE
   ·rw[e1];exact .inl (h.1 j kD)
  ·rcases cn.1 hj with e2|kD
   ·rw[e2];exact .inr (h.1 i je)
   ·exact Q5 h.2 i je j kD cE
theorem Q6:∀{a:List Nat},DK a=true->a.Nodup
 |[],_=>List.nodup_nil
 |i::a,h=>by
  simp only[DK,bu,my]at h;refine ri.2 ⟨?_,Q6 h.2⟩;intro hm;have:=List.any_eq_false.1 h.1 i hm;simp[sY]at this
theorem ZK {t:Tmp} {ts:List Tmp}:K8 t ts=true↔t∈ts:=by
 unfold K8;rw[AD];constructor
 ·rintro⟨u,hu,h⟩;obtain rfl:=cz h;exact hu
 ·intro h;exact⟨t,h,sY t⟩
theorem wy (o:ax):(ki o=true/\gC o=false/\k8 o=false)\/(ki o=false/\gC o=true/\k8 o=false)\/(ki o=false/\gC o=false/\k8 o=true):=by
 unfold ki gC k8;cases yX o<;>simp
structure Q7 (q:Nat->Bool) (l:List ax) (pm:List Nat) (i j:Nat):Prop where
 nb:gh pm j i=false
 xj:k8 (bz l i)=true->gC (bz l j)=false->gh pm i j=true
 ld:k8 (bz l j)=true->Q0 (bz l i)=true->gh pm i j=true\/uP q (bz l j)=true
 wi:∀t,(bz l i).dst=some t->t∈looks l j->gh pm i j=true
 wj:∀t,(bz l j).dst=some t->t∈looks l i->gh pm i j=true
 ww:∀t,(bz l i).dst=some t->(bz l j).dst≠some t
theorem tz {q:Nat->Bool} {i j:Nat} (h:wx q l pm i j=true):Q7 q l pm i j:=by
 unfold wx at h;simp only[bu,my]at h;obtain⟨⟨⟨h1,h2⟩,h3⟩,h4⟩:=h;refine⟨h1,?_,?_,?_,?_,?_⟩
 ·intro hx ha;rcases Da _ _▸h2 with h2|h2
  ·exact h2
  ·rw[hx,ha]at h2;simp at h2
 ·intro hx hl;rcases Da _ _▸h2 with h2|h2
  ·exact .inl h2
  ·rw[hx,hl]at h2;simp only[bu,Bool.and_self,cond_true]at h2;exact .inr h2.2
 ·intro t ht hm;rw[ht]at h3;simp only[bu,ZK.2 hm,cond_true]at h3;exact h3.1
 ·intro t ht hm;rw[ht]at h4;simpa only[ZK.2 hm,cond_true]using h4
 ·intro t ht e;rw[ht,e]at h3;simp[sY]at h3
end
def GA (l:List ax) (fr:List V) (o:ax) (b:Bool):Prop:=match o.guard with
 |none=>b=true
 |some (g,want)=>∃t,yV l.toArray g=some t/\((∃c,nth fr t=.bool c/\b=(c==want))\/(∃vs,nth fr t=.raw (.tuple vs)/\b=false))
def Lc (C:Ctx G) (bl:List VB) (fr:List V) (o:ax) (v:V):Prop:=(Gp C.P (ev C.gl fr) o.op=some v\/∃b0 p,Gw C.P (ev C.gl fr) b0 o.op=some (p,v)/\p)\/(∃t x,o.op=.load t x/\Bi C.P bl t (ev C.gl fr x) v)
structure Rec (C:Ctx G) (l:List ax) (pm:List Nat) (ew fr:List V) (bl:List VB) (i:Nat) (jX:List V) (v:V) (b:Bool):Prop where
 w1:∀t∈looks l i,∀h,(bz l h).dst=some t->gh pm h i=true->nth jX t=nth fr t
 w0:∀t∈looks l i,(∀h,(bz l h).dst=some t->gh pm h i=false)->nth jX t=nth ew t
 val:∀d,(bz l i).dst=some d->nth fr d=v
 g:GA l jX (bz l i) b
 e:if b then Lc C bl jX (bz l i) v else v=gu
section
variable{C:Ctx G} {l:List ax} {pm:List Nat} {ids:List Nat} {w:ag}
theorem Q8 (a:Act) (t:Tmp):a.eval (.tmp t)=cP a t:=rfl
theorem Q9 {fr:List V} (t:Nat):cP (act ids fr) t=den ids (nth fr t):=by rw[<-Q8];simp only[Act.eval,act,Bb]
theorem ah2 {a:Act} {t:Tmp} {b:Bool} (h:cP a t=.bool b):a.tmps[t]?=some (.bool b):=by
 have h':a.tmps.getD t undef=.bool b:=h;by_cases h1:t<a.tmps.size
 ·rw[FF,dif_pos h1]at h';rw[J9 h1];exact congrArg some h'
 ·rw[FF,dif_neg h1]at h';cases h'
theorem ah3 {a:Act} {t:Tmp} {vs:Array ae} (h:cP a t=.tuple vs):a.tmps[t]?=none\/a.tmps[t]?=some (.tuple vs):=by
 have h':a.tmps.getD t undef=.tuple vs:=h;by_cases h1:t<a.tmps.size
 ·rw[FF,dif_pos h1]at h';rw[J9 h1];exact .inr (congrArg some h')
 ·exact .inl (J3 (Yr h1))
theorem ah4 {ops:Array ax} {g t:Nat} (h:yV ops g=some t):(ops[g]?).bind (·.dst)=some t:=by
 unfold yV at h;split at h
 ·rename_i o ho;rw[ho];simpa using h
 ·cases h
theorem Ld {a:Act} {fr:List V} {o:ax} {b:Bool} (hy:∀t∈Ke l.toArray o,cP a t=den ids (nth fr t)) (hg:GA l fr o b):gT o (yielded l.toArray a.tmps)=b:=by
 unfold GA at hg;unfold gT;split at hg
 ·rename_i h;rw[h];exact hg.symm
 ·rename_i g want h;rw[h];obtain⟨t,ht,hc⟩:=hg;have hb:=ah4 ht;have hm:t∈Ke l.toArray o:=by
   unfold Ke;rw[h];refine uy _ ?_;simp only[hb];simp
  have Le:=hy t hm;simp only[yielded,hb,Option.bind_some];rcases hc with⟨c,h1,h2⟩|⟨vs,h1,h2⟩
  ·rw[h1]at Le;rw[ah2 (b:=c) (by rw[Le];simp only[den])];simp only;rw[h2];cases c<;>cases want<;>rfl
  ·rw[h1]at Le;rcases ah3 (a:=a) (t:=t) (vs:=vs) (by rw[Le];simp only[den])with h3|h3
   ·rw[h3,h2];rfl
   ·rw[h3,h2];rfl
theorem GB {a:Act} {fr:List V} {o:ax} (hs:∀cs b,o.op≠.select cs b) (hy:∀t∈Ke l.toArray o,cP a t=den ids (nth fr t)):execOp a.eval o=execOp (act ids fr).eval o:=by
 refine execOp_congr o hs ?_;intro x hx;cases x with
 |tmp t=>
  rw[Q8,Q8,Q9];refine hy t ?_;unfold Ke;exact pJ _ (List.mem_filterMap.2 ⟨.tmp t,by simpa using hx,rfl⟩)
 |const v=>rfl
 |global g=>rfl
 |func f=>rfl
theorem Q_ {bl:List VB} {R:List aj} {ms:List Nat} {w0:ag} {fr:List V} {o:ax} {v:V} (hg:Gl C.gl ids) (hl:ids.length=bl.length) (S:St ms w0 (lits ids ids bl++R) w) (h:Lc C bl fr o v):
 (execOp (act ids fr).eval o).run C.P w=.ok (.value (den ids v)) w:=by
 have ba:=λx=>ZE (fr:=fr) hg x;rcases h with(h|⟨b0,p,h,hp⟩)|⟨t,x,ho,h⟩
 ·exact Zr ba o v h
 ·exact ZC ba o h hp
 ·have:=h.run hl S;unfold execOp;simp only[ho,ba,bE,this];rfl
theorem ah5 {call:k7 G} {o:ax} {fr:List V} {bl:List VB} {ch:List G} {k:kF G} (hf:ki o=true) (h:qi C call o fr bl ch k):∃v,Lc C bl fr o v/\k (put fr o.dst v) bl ch:=by
 unfold qi at h;split at h
 ·rename_i t x ho;split at h
  ·rename_i v hv;exact⟨v,.inr ⟨t,x,ho,.inl hv⟩,h⟩
  ·split at h
   ·rename_i p v hv;exact⟨v,.inr ⟨t,x,ho,.inr ⟨p,hv,h.1⟩⟩,h.2⟩
   ·exact h.elim
 ·rename_i t x y ho;simp[ki,yX,ho]at hf
 ·rename_i op h1 h2;split at h
  ·rename_i p v hv;exact⟨v,.inl (.inr ⟨_,p,hv,h.1⟩),h.2⟩
  split at h
  ·rename_i v hv;exact⟨v,.inl (.inl hv),h⟩
  ·exfalso;unfold ki yX at hf;split at h
   ·rename_i v b hv;unfold Gs at hv;split at hv<;>simp_all
   ·split at h
    ·rename_i f args hv;unfold callee at hv;split at hv
     ·rename_i c hc;split at hv
      ·rename_i fo GC;obtain⟨oe,ar,ts⟩:=c;simp only at GC;subst GC;rw[hc]at hf;simp at hf
      ·rename_i r nm GC;obtain⟨oe,ar,ts⟩:=c;simp only at GC;subst GC;rw[hc]at hf;simp at hf
      ·cases hv
     ·cases hv
    ·cases hq:DF o.op with
     |false=>rw[hq]at h;exact h
     |true=>
      unfold DF at hq;split at hq<;>simp_all
end
structure DI (C:Ctx G) (call:k7 G) (q:Nat->Bool) (l:List ax) (pm:List Nat) (R:List aj) (ms:List Nat) (w0:ag) (k:kF G) (ew:List V) (eT:List Nat)
 (cL rest:List Nat) (fr:List V) (ids:List Nat) (bl:List VB) (ch:List G) (Z:List (Nat×aj)) (listed:Array Bool) (a:Act) (w:ag):Prop where
 k_:k9 (wx q l pm) (cL++rest)=true
 wz:yY l pm rest=true
 mJ:∀i,i<l.length->i∈cL++rest
 mK:∀i∈cL++rest,i<l.length
 nd:(cL++rest).Nodup
 og:l.all (K9 C fr.length)=true
 wA:∀i∈cL++rest,gh pm i i=false
 ls:listed.size=l.length
 rO:∀i∈cL,ki (bz l i)=false->listed[i]?=some true
 l6:∀i∈rest,gC (bz l i)=false->listed[i]?=some false
 back:∀j,listed[j]?=some true->∀i,gh pm i j=true->listed[i]?=some true
 vc:jh C call l.toArray (uR l rest) fr bl ch k
 sz:a.tmps.size=fr.length
 df:a.defers=[]
 slot:∀t,(∀i∈cL,(bz l i).dst=some t->listed[i]?=some true)->(∀i∈rest,(bz l i).dst=some t->listed[i]?=some false)->cP a t=den ids (nth fr t)
 old:∀i∈cL,listed[i]?=some false->∀t,(bz l i).dst=some t->cP a t=den ids (nth ew t)
 tA:∀t,(∀i∈cL,(bz l i).dst≠some t)->nth fr t=nth ew t
 bH:∀i∈cL,listed[i]?=some false->∃jX v b,Rec C l pm ew fr bl i jX v b
 rP:∀i∈rest,listed[i]?=some true->∃b t z d,(i,(⟨b,true,.cells (ai [] z).toArray t (0,0)⟩:aj))∈Z/\(bz l i).op=.alloc t/\nq C.P t=some z/\(bz l i).dst=some d/\cP a d=.pointer (some ⟨b,0,none⟩)
 nr:∀p∈Z,p.1∈rest/\listed[p.1]?=some true
 DM:(Z.map (·.1)).Nodup
 S:St ms w0 (lits ids ids bl++aC ch (Z.map (·.2)++R)) w
 hl:ids.length=bl.length
 gl:Gl C.gl ids
 Bo:bo ids.length ew=true
 DN:∃m,ids=eT++m
section
variable{C:Ctx G} {call:k7 G} {q:Nat->Bool} {l:List ax} {pm:List Nat} {R:List aj} {ms:List Nat} {w0:ag} {k:kF G} {ew fr:List V} {eT:List Nat}
 {cL rest:List Nat} {ids:List Nat} {bl:List VB} {ch:List G} {Z:List (Nat×aj)} {listed:Array Bool} {a:Act} {w:ag} {Q:eE->Act->ag->Prop}
theorem ZL:∀(fr:List V) (t:Nat) (x:V),(kh fr t x).length=fr.length
 |[],_,_=>rfl
 |_::_,0,_=>rfl
 |_::l,t+1,x=>by simp[kh,ZL l t x]
theorem DO (d:Option Tmp) (x:V):(put fr d x).length=fr.length:=by cases d<;>simp[put,ZL]
theorem Ra:∀(fr:List V) (t u:Nat) (x:V),t<fr.length->nth (kh fr t x) u=if u=t then x else nth fr u
 |[],t,u,x,h=>by simp at h
 |v::l,0,0,x,_=>by simp[kh,nth]
 |v::l,0,u+1,x,_=>by simp[kh,nth]
 |v::l,t+1,0,x,_=>by simp[kh,nth]
 |v::l,t+1,u+1,x,h=>by simp[kh,nth,Ra l t u x (by simpa using h)]
theorem Rb {d:Option Tmp} {x:V} (t:Tmp) (hd:∀u,d=some u->u<fr.length):(d=some t->nth (put fr d x) t=x)/\(d≠some t->nth (put fr d x) t=nth fr t):=by
 cases d with
 |none=>exact⟨λh=>(nomatch h),λ_=>rfl⟩
 |some u=>
  refine⟨λh=>?_,λh=>?_⟩
  ·cases h;simp only[put];rw[Ra _ _ _ _ (hd _ rfl),if_pos rfl]
  ·simp only[put];rw[Ra _ _ _ _ (hd u rfl),if_neg (λe=>h (by rw[e]))]
theorem y9 {n:Nat} (h:l.all (K9 C n)=true) {i:Nat} {o:ax} (ho:l[i]?=some o):(∀t,o.dst=some t->t<n)/\(∀cs b,o.op≠.select cs b)/\
 (gC o=true->o.guard=none/\∃d t z,o.dst=some d/\o.op=.alloc t/\nq C.P t=some z):=by
 have h1:=gm.1 h o (pF ho);unfold K9 at h1;simp only[bu]at h1;obtain⟨⟨a1,a2⟩,a3⟩:=h1;refine⟨?_,?_,?_⟩
 ·intro t ht;rw[ht]at a1;rw[iG]at a1;exact a1
 ·intro cs b e;rw[e]at a2;cases a2
 ·intro ha;rw[ha]at a3;simp only[cond_true]at a3;split at a3
  ·rename_i d t hg hd ho;split at a3
   ·rename_i z hz;exact⟨hg,d,t,z,hd,ho,hz⟩
   ·cases a3
  ·cases a3
namespace DI
theorem at_ (D:DI C call q l pm R ms w0 k ew eT cL rest fr ids bl ch Z listed a w) {i:Nat} (h:i∈cL++rest):l[i]?=some (bz l i):=by
 have:=D.mK i h;rw[jv this];rw[Lb (jv this)]
theorem mem_of (D:DI C call q l pm R ms w0 k ew eT cL rest fr ids bl ch Z listed a w) {i t:Nat} (h:(bz l i).dst=some t):i∈cL++rest:=by
 have:=ah1 h;exact D.mJ i (by rcases cZ i l.length with h'|h';exact h';simp[h']at this)
theorem bit (D:DI C call q l pm R ms w0 k ew eT cL rest fr ids bl ch Z listed a w) {i:Nat} (h:i∈cL++rest):listed[i]?=some true\/listed[i]?=some false:=lT D.ls (D.mK i h)
theorem uniq (D:DI C call q l pm R ms w0 k ew eT cL rest fr ids bl ch Z listed a w) {i j t:Nat} (hi:(bz l i).dst=some t) (hj:(bz l j).dst=some t):i=j:=by
 refine Classical.byContradiction λcE=>?_;rcases Q5 D.k_ i (D.mem_of hi) j (D.mem_of hj) cE with h|h
 ·exact(tz h).ww t hi hj
 ·exact(tz h).ww t hj hi
theorem ahead (D:DI C call q l pm R ms w0 k ew eT cL rest fr ids bl ch Z listed a w) {i j:Nat} (hi:i∈cL) (hj:j∈rest):Q7 q l pm i j:=tz ((Bn D.k_).1 i hi j hj)
theorem apart (D:DI C call q l pm R ms w0 k ew eT cL rest fr ids bl ch Z listed a w) {i:Nat} (hi:i∈cL) (hj:i∈rest):False:=(List.nodup_append.1 D.nd).2.2 i hi i hj rfl
theorem Rc (D:DI C call q l pm R ms w0 k ew eT cL rest fr ids bl ch Z listed a w) {i:Nat} (hi:i∈cL) (hu:listed[i]?=some false) (hp:∀h,gh pm h i=true->listed[h]?=some true) {jX:List V} {v:V} {b:Bool}
 (r:Rec C l pm ew fr bl i jX v b):∀t∈looks l i,cP a t=den ids (nth jX t):=by
 intro t ht;by_cases hw:∃h,(bz l h).dst=some t
 ·obtain⟨h,hd⟩:=hw;cases hb:gh pm h i with
  |true=>
   rw[r.w1 t ht h hd hb];refine D.slot t ?_ ?_
   ·intro i' je gi;rw[D.uniq gi hd];exact hp h hb
   ·intro i' je gi;have:=(D.ahead hi (D.uniq gi hd▸je)).nb;rw[hb]at this;cases this
  |false=>
   rw[r.w0 t ht (λh' gi=>by rw[D.uniq gi hd];exact hb)];by_cases he:h=i
   ·subst he;exact D.old h hi hu t hd
   ·have hm:=D.mem_of hd;have PZ:gh pm i h=true:=by
     rcases Q5 D.k_ h hm i (by simp[hi]) he with p|p
     ·have:=(tz p).wi t hd ht;rw[hb]at this;cases this
     ·exact(tz p).wj t hd ht
    have ZM:listed[h]?=some false:=by
     rcases D.bit hm with e|e
     ·have:=D.back h e i PZ;rw[hu]at this;cases this
     ·exact e
    rcases fc.1 hm with hm|hm
    ·exact D.old h hm ZM t hd
    ·rw[<-D.tA t (λi' je gi=>D.apart je (D.uniq gi hd▸hm))];refine D.slot t ?_ ?_
     ·intro i' je gi;exact(D.apart je (D.uniq gi hd▸hm)).elim
     ·intro i' je gi;rw[D.uniq gi hd];exact ZM
 ·rw[r.w0 t ht (λh hd=>(hw ⟨h,hd⟩).elim),<-D.tA t (λi' _ gi=>hw ⟨i',gi⟩)];exact D.slot t (λi' _ gi=>(hw ⟨i',gi⟩).elim) (λi' _ gi=>(hw ⟨i',gi⟩).elim)
theorem ah6 (D:DI C call q l pm R ms w0 k ew eT cL rest fr ids bl ch Z listed a w) {i:Nat} {r:List Nat} (hr:rest=i::r) (hu:listed[i]?=some false) (hp:∀h,gh pm h i=true->listed[h]?=some true):
 ∀t∈looks l i,cP a t=den ids (nth fr t):=by
 intro t ht;refine D.slot t ?_ ?_
 ·intro h hh hd;exact hp h ((D.ahead hh (by rw[hr];simp)).wi t hd ht)
 ·intro h hh hd;rcases D.bit (i:=h) (by simp[hh])with e|e
  ·exfalso;rw[hr]at hh;rcases cn.1 hh with rfl|hh
   ·rw[hu]at e;cases e
   ·have wC:=(Bn D.k_).2.2;rw[hr]at wC;simp only[k9,bu,gm]at wC;have:=(tz (wC.1 h hh)).wj t hd ht;have:=D.back h e i this;rw[hu]at this;cases this
  ·exact e
end DI
end
section
variable{C:Ctx G} {call:k7 G} {q:Nat->Bool} {l:List ax} {pm:List Nat} {R:List aj} {ms:List Nat} {w0:ag} {k:kF G} {ew fr:List V} {eT:List Nat}
 {cL rest:List Nat} {ids:List Nat} {bl:List VB} {ch:List G} {Z:List (Nat×aj)} {listed:Array Bool} {a:Act} {w:ag} {Q:eE->Act->ag->Prop}
theorem Re {i j:Nat} {b:Bool} (hi:i<listed.size):(listed.setIfInBounds i true)[j]?=some b↔(j=i/\b=true)\/(j≠i/\listed[j]?=some b):=by
 rw[q_];by_cases h:i=j
 ·subst h;simp[hi]
 ·rw[if_neg h];constructor
  ·intro e;exact .inr ⟨λx=>h x.symm,e⟩
  ·rintro(⟨e,_⟩|⟨_,e⟩)
   ·exact absurd e.symm h
   ·exact e
theorem Rf {a:Act} {d:Option Tmp} {v:ae} (hd:∀u,d=some u->u<a.tmps.size) (t:Tmp):(d=some t->cP (a.put d v) t=v)/\(d≠some t->cP (a.put d v) t=cP a t):=by
 cases d with
 |none=>exact⟨λh=>(nomatch h),λ_=>rfl⟩
 |some u=>
  refine⟨λh=>?_,λh=>?_⟩
  ·cases h;rw[yE _ _ _ _ (hd _ rfl),if_pos rfl]
  ·rw[yE _ _ _ _ (hd u rfl),if_neg (λe=>h (by rw[e]))]
namespace DI
theorem Rg (D:DI C call q l pm R ms w0 k ew eT cL rest fr ids bl ch Z listed a w) {i:Nat} (hi:i∈cL) (hu:listed[i]?=some false) (hp:∀h,gh pm h i=true->listed[h]?=some true) {jX:List V} {v:V} {b:Bool}
 (r:Rec C l pm ew fr bl i jX v b):DI C call q l pm R ms w0 k ew eT cL rest fr ids bl ch Z (listed.setIfInBounds i true) (a.put (bz l i).dst (den ids v)) w:=by
 have iJ:i<listed.size:=by rw[D.ls];exact D.mK i (by simp[hi])
 have sg:=λj b=>Re (listed:=listed) (j:=j) (b:=b) iJ;have hd:∀u,(bz l i).dst=some u->u<a.tmps.size:=λu hu=>by rw[D.sz];exact(y9 D.og (D.at_ (by simp[hi]))).1 u hu
 have yp:=Rf (v:=den ids v) hd;refine{D with ls:=by simpa using D.ls,rO:=?_,l6:=?_,back:=?_,sz:=by rw[size_put];exact D.sz,df:=by rw[AX];exact D.df,slot:=?_,old:=?_,bH:=?_,rP:=?_,nr:=λp hp=>⟨(D.nr p hp).1,(sg _ _).2 (.inr ⟨λe=>D.apart hi (e▸(D.nr p hp).1),(D.nr p hp).2⟩)⟩}
 ·intro j hj hf;exact(sg _ _).2 (by by_cases e:j=i;exact .inl ⟨e,rfl⟩;exact .inr ⟨e,D.rO j hj hf⟩)
 ·intro j hj hf;exact(sg _ _).2 (.inr ⟨λe=>D.apart hi (e▸hj),D.l6 j hj hf⟩)
 ·intro j hj h hb;refine(sg _ _).2 ?_;rcases(sg _ _).1 hj with⟨rfl,_⟩|⟨cE,hj⟩
  ·by_cases e:h=j
   ·exact .inl ⟨e,rfl⟩
   ·exact .inr ⟨e,hp h hb⟩
  ·by_cases e:h=i
   ·exact .inl ⟨e,rfl⟩
   ·exact .inr ⟨e,D.back j hj h hb⟩
 ·intro t h1 h2;by_cases e:(bz l i).dst=some t
  ·rw[(yp t).1 e,r.val t e]
  ·rw[(yp t).2 e];refine D.slot t ?_ ?_
   ·intro j hj gi;rcases(sg _ _).1 (h1 j hj gi)with⟨rfl,_⟩|⟨_,h⟩
    ·exact absurd gi e
    ·exact h
   ·intro j hj gi;rcases(sg _ _).1 (h2 j hj gi)with⟨_,h⟩|⟨_,h⟩
    ·cases h
    ·exact h
 ·intro j hj eH t ht;rcases(sg _ _).1 eH with⟨_,h⟩|⟨cE,h⟩
  ·cases h
  ·rw[(yp t).2 (λe=>cE (D.uniq ht e))];exact D.old j hj h t ht
 ·intro j hj eH;rcases(sg _ _).1 eH with⟨_,h⟩|⟨cE,h⟩
  ·cases h
  ·exact D.bH j hj h
 ·intro j hj eH;rcases(sg _ _).1 eH with⟨rfl,_⟩|⟨cE,h⟩
  ·exact(D.apart hi hj).elim
  ·obtain⟨b,t,z,d,h1,h2,h3,h4,h5⟩:=D.rP j hj h;exact⟨b,t,z,d,h1,h2,h3,h4,by rw[(yp d).2 (λe=>cE (D.uniq h4 e))];exact h5⟩
theorem Rh (b:aj) (X:List aj):∀ch:List G,(b::aC ch X).Perm (aC ch (b::X))
 |[]=>List.Perm.refl _
 |c::ch=>by
  simp only[aC];exact(jU.symm).trans (pL (Bl.B c) (Rh b X ch))
theorem ah7 {P:aL} {t:aJ} {z:List V} (h:nq P t=some z) (ids:List Nat):ai ids z=ai [] z:=by
 unfold nq at h;split at h
 ·split at h
  ·rename_i v hv;simp only[aY]at h;subst h;rw[Qn,Qn];cases v<;>simp[DC,jW,ai,cl,den,KO]
  ·cases h
 ·cases h
theorem ah8 (D:DI C call q l pm R ms w0 k ew eT cL rest fr ids bl ch Z listed a w) {i d:Nat} {t:aJ} {z:List V} (hi:i∈rest) (hu:listed[i]?=some false) (hp:∀h,gh pm h i=true->listed[h]?=some true)
 (ho:(bz l i).op=.alloc t) (hz:nq C.P t=some z) (hd:(bz l i).dst=some d):
 DI C call q l pm R ms w0 k ew eT cL rest fr ids bl ch ((i,⟨w.heap.size,true,.cells (ai [] z).toArray t (0,0)⟩)::Z) (listed.setIfInBounds i true) (a.put (bz l i).dst (.pointer (some ⟨w.heap.size,0,none⟩))) (w.alloc (.cells (ai [] z).toArray t)):=by
 have iJ:i<listed.size:=by rw[D.ls];exact D.mK i (by simp[hi])
 have sg:=λj b=>Re (listed:=listed) (j:=j) (b:=b) iJ;have y_:∀u,(bz l i).dst=some u->u<a.tmps.size:=λu hu=>by rw[D.sz];exact(y9 D.og (D.at_ (by simp[hi]))).1 u hu
 have yp:=Rf (v:=(.pointer (some ⟨w.heap.size,0,none⟩):ae)) y_;have hA:gC (bz l i)=true:=by simp[gC,yX,ho]
 have hF:ki (bz l i)=false:=by simp[ki,yX,ho]
 refine{D with ls:=by simpa using D.ls,rO:=?_,l6:=?_,back:=?_,sz:=by rw[size_put];exact D.sz,df:=by rw[AX];exact D.df,slot:=?_,old:=?_,bH:=?_,rP:=?_,nr:=?_,DM:=?_,S:=?_}
 ·intro j hj hf;exact(sg _ _).2 (by by_cases e:j=i;exact .inl ⟨e,rfl⟩;exact .inr ⟨e,D.rO j hj hf⟩)
 ·intro j hj hf;exact(sg _ _).2 (.inr ⟨λe=>(by rw[e,hA]at hf;cases hf),D.l6 j hj hf⟩)
 ·intro j hj h hb;refine(sg _ _).2 ?_;rcases(sg _ _).1 hj with⟨rfl,_⟩|⟨cE,hj⟩
  ·by_cases e:h=j
   ·exact .inl ⟨e,rfl⟩
   ·exact .inr ⟨e,hp h hb⟩
  ·by_cases e:h=i
   ·exact .inl ⟨e,rfl⟩
   ·exact .inr ⟨e,D.back j hj h hb⟩
 ·intro t h1 h2;by_cases e:(bz l i).dst=some t
  ·rcases(sg _ _).1 (h2 i hi e)with⟨_,h⟩|⟨h,_⟩
   ·cases h
   ·exact absurd rfl h
  ·rw[(yp t).2 e];refine D.slot t ?_ ?_
   ·intro j hj gi;rcases(sg _ _).1 (h1 j hj gi)with⟨rfl,_⟩|⟨_,h⟩
    ·exact absurd gi e
    ·exact h
   ·intro j hj gi;rcases(sg _ _).1 (h2 j hj gi)with⟨_,h⟩|⟨_,h⟩
    ·cases h
    ·exact h
 ·intro j hj eH t ht;rcases(sg _ _).1 eH with⟨_,h⟩|⟨cE,h⟩
  ·cases h
  ·rw[(yp t).2 (λe=>cE (D.uniq ht e))];exact D.old j hj h t ht
 ·intro j hj eH;rcases(sg _ _).1 eH with⟨_,h⟩|⟨cE,h⟩
  ·cases h
  ·exact D.bH j hj h
 ·intro j hj eH;rcases(sg _ _).1 eH with⟨rfl,_⟩|⟨cE,h⟩
  ·exact⟨_,_,_,_,De ..,ho,hz,hd,(yp d).1 hd⟩
  ·obtain⟨b,t,z,d,h1,h2,h3,h4,h5⟩:=D.rP j hj h;exact⟨b,t,z,d,yu _ h1,h2,h3,h4,by rw[(yp d).2 (λe=>cE (D.uniq h4 e))];exact h5⟩
 ·intro p hp;rcases cn.1 hp with rfl|hp
  ·exact⟨hi,(sg _ _).2 (.inl ⟨rfl,rfl⟩)⟩
  ·exact⟨(D.nr p hp).1,(sg _ _).2 (by by_cases e:p.1=i;exact .inl ⟨e,rfl⟩;exact .inr ⟨e,(D.nr p hp).2⟩)⟩
 ·simp only[eF,ri];refine⟨?_,D.DM⟩;intro hm;obtain⟨p,hp,e⟩:=lP.1 hm;have:=(D.nr p hp).2;rw[e,hu]at this;cases this
 ·have h:=D.S.new (Ch.alloc [] w (.cells (ai [] z).toArray t)) (dH _) (nT w _);refine h.perm ?_;simp only[eF,fe];exact(jU.symm).trans (pL _ (Rh _ _ _))
end DI
end
mutual
theorem ZN {n m:Nat} (zb:n<=m):∀v:V,cR n v=true->cR m v=true
 |.int _ _,_=>by simp[cR]
 |.bool _,_=>by simp[cR]
 |.ptr i _,h=>by simp only[cR,iG]at h⊢;omega
 |.sl i _ _ _,h=>by simp only[cR,iG]at h⊢;omega
 |.gp i _ _ _ _,h=>by simp only[cR,iG]at h⊢;omega
 |.fn _ a b,h=>by simp only[cR,bu]at h⊢;exact⟨wD zb a h.1,wD zb b h.2⟩
 |.mH _ v,h=>by simp only[cR]at h⊢;exact ZN zb v h
 |.agg l,h=>by simp only[cR]at h⊢;exact wD zb l h
 |.av l,h=>by simp only[cR]at h⊢;exact wD zb l h
 |.bS _ _ _,_=>by simp[cR]
 |.arr _ _ _,_=>by simp[cR]
 |.dz _ _ _ _,_=>by simp[cR]
 |.rest _,_=>by simp[cR]
 |.fP _ _ _,_=>by simp[cR]
 |.pe i _ _ _ _,h=>by simp only[cR,iG]at h⊢;omega
 |.raw _,_=>by simp[cR]
theorem wD {n m:Nat} (zb:n<=m):∀l:List V,bo n l=true->bo m l=true
 |[],_=>by simp[bo]
 |v::l,h=>by simp only[bo,bu]at h⊢;exact⟨ZN zb v h.1,wD zb l h.2⟩
end
theorem GD {n:Nat}:∀{fr:List V} (t:Nat),bo n fr=true->cR n (nth fr t)=true
 |[],_,_=>by simp[nth,gu,cR]
 |v::l,0,h=>by simp only[bo,bu]at h;exact h.1
 |v::l,t+1,h=>by simp only[bo,bu]at h;exact GD t h.2
theorem ah9 {P:aL} {bl e:List VB} {t:aJ} {x v:V} (h:uN P bl t x=some v):uN P (bl++e) t x=some v:=by
 unfold uN at h⊢;split at h
 ·rename_i i off;split at h
  ·rename_i b hb;have hi:i<bl.length:=by rcases cZ i bl.length with h'|h';exact h';simp[h']at hb
   simp only[iq hi,hb];exact h
  ·cases h
 ·cases h
theorem ZO {P:aL} {bl e:List VB} {t:aJ} {x v:V} (h:Bi P bl t x v):Bi P (bl++e) t x v:=by
 rcases h with h|⟨p,h,hp⟩
 ·exact .inl (ah9 h)
 ·exact .inr ⟨p,ahR h,hp⟩
theorem ZP {X Y:List aj} (h:X.Perm Y):∀ch:List G,(aC ch X).Perm (aC ch Y)
 |[]=>h
 |c::ch=>pL (Bl.B c) (ZP h ch)
section
variable{C:Ctx G} {call:k7 G} {q:Nat->Bool} {l:List ax} {pm:List Nat} {R:List aj} {ms:List Nat} {w0:ag} {k:kF G} {ew fr:List V} {eT:List Nat}
 {cL rest:List Nat} {ids:List Nat} {bl:List VB} {ch:List G} {Z:List (Nat×aj)} {listed:Array Bool} {a:Act} {w:ag} {Q:eE->Act->ag->Prop}
theorem ZQ {o:ax} {L:List ax} (h:jh C call l.toArray (o::L) fr bl ch k):∃b,GA l fr o b/\(if b then qi C call o fr bl ch (λfr bl ch=>jh C call l.toArray L fr bl ch k)else jh C call l.toArray L (put fr o.dst gu) bl ch k):=by
 simp only[jh]at h;unfold GA;split at h
 ·rename_i hg;(try rw[hg]);exact⟨true,rfl,h⟩
 ·rename_i j want hg;try rw[hg]
  split at h
  ·exact h.elim
  ·rename_i t hd;split at h
   ·rename_i c hc;have hs:=K5 fr t;rw[hc]at hs;refine⟨c==want,⟨t,hd,.inl ⟨c,hc,rfl⟩⟩,?_⟩;cases c<;>(rw[hs]at h;cases want<;>exact h)
   ·rename_i vs hc;exact⟨false,⟨t,hd,.inr ⟨vs,hc,rfl⟩⟩,h⟩
   ·exact h.elim
theorem Rec.frame {i:Nat} {jX:List V} {v:V} {b:Bool} (r:Rec C l pm ew fr bl i jX v b) {fr':List V} {bl':List VB}
 (h1:∀t∈looks l i,∀h,(bz l h).dst=some t->gh pm h i=true->nth fr' t=nth fr t) (h2:∀d,(bz l i).dst=some d->nth fr' d=nth fr d)
 (h3:∀t x v,(bz l i).op=.load t x->Bi C.P bl t (ev C.gl jX x) v->Bi C.P bl' t (ev C.gl jX x) v):Rec C l pm ew fr' bl' i jX v b:=by
 refine⟨λt ht h hd hb=>(r.w1 t ht h hd hb).trans (h1 t ht h hd hb).symm,r.w0,λd hd=>(h2 d hd).trans (r.val d hd),r.g,?_⟩;have e:=r.e;cases b with
 |false=>exact e
 |true=>
  rcases e with e|⟨t,x,ho,e⟩
  ·exact .inl e
  ·exact .inr ⟨t,x,ho,h3 t x v ho e⟩
namespace DI
theorem ah_ {i:Nat} {r:List Nat} (D:DI C call q l pm R ms w0 k ew eT cL (i::r) fr ids bl ch Z listed a w) (hf:ki (bz l i)=true):∃fr',DI C call q l pm R ms w0 k ew eT (cL++[i]) r fr' ids bl ch Z listed a w:=by
 have mL:(cL++[i])++r=cL++(i::r):=by simp
 have hA:gC (bz l i)=false:=by rcases wy (bz l i)with h|h|h<;>simp_all
 have hu:listed[i]?=some false:=D.l6 i (by simp) hA;have ho:=D.at_ (i:=i) (by simp);have y_:=(y9 D.og ho).1;obtain⟨b,hg,hb⟩:=ZQ D.vc;obtain⟨v,hv,cS⟩:∃v,(if b then Lc C bl fr (bz l i) v else v=gu)/\jh C call l.toArray (uR l r) (put fr (bz l i).dst v) bl ch k:=by
  cases b with
  |true=>rw[if_pos rfl]at hb;exact ah5 hf hb
  |false=>rw[if_neg (by simp)]at hb;exact⟨gu,rfl,hb⟩
 have np:=λt=>Rb (fr:=fr) (x:=v) t y_;have wF:∀{j},j∈cL->j≠i:=λhj e=>D.apart hj (by rw[e];simp);refine⟨put fr (bz l i).dst v,{D with k_:=by rw[mL];exact D.k_,wz:=?_,mJ:=by rw[mL];exact D.mJ,mK:=by rw[mL];exact D.mK,nd:=by rw[mL];exact D.nd,og:=by rw[DO];exact D.og,wA:=by rw[mL];exact D.wA,rO:=?_,l6:=λj hj=>D.l6 j (by simp[hj]),vc:=cS,sz:=by rw[DO];exact D.sz,slot:=?_,old:=?_,tA:=?_,bH:=?_,rP:=λj hj=>D.rP j (by simp[hj]),nr:=?_}⟩
 ·have:=D.wz;simp only[yY,bu]at this;exact this.2
 ·intro j hj wG;rcases fc.1 hj with hj|hj
  ·exact D.rO j hj wG
  ·obtain rfl:j=i:=by simpa using hj
   rw[hf]at wG;cases wG
 ·intro t h1 h2;by_cases e:(bz l i).dst=some t
  ·have:=h1 i (by simp) e;rw[hu]at this;cases this
  ·rw[(np t).2 e];refine D.slot t (λj hj=>h1 j (by simp[hj])) ?_;intro j hj hd;rcases cn.1 hj with rfl|hj
   ·exact absurd hd e
   ·exact h2 j hj hd
 ·intro j hj eH t ht;rcases fc.1 hj with hj|hj
  ·exact D.old j hj eH t ht
  ·obtain rfl:j=i:=by simpa using hj
   rw[<-D.tA t (λh hh hd=>wF hh (D.uniq hd ht))];refine D.slot t (λh hh hd=>(wF hh (D.uniq hd ht)).elim) ?_;intro h hh hd;rw[D.uniq hd ht];exact hu
 ·intro t h;rw[(np t).2 (h i (by simp))];exact D.tA t (λj hj=>h j (by simp[hj]))
 ·intro j hj eH;rcases fc.1 hj with hj|hj
  ·obtain⟨jX,v',b',rr⟩:=D.bH j hj eH;refine⟨jX,v',b',rr.frame ?_ ?_ (λ_ _ _ _ h=>h)⟩
   ·intro t ht h hd oh;refine(np t).2 (λe=>?_);have:=(D.ahead hj (show i∈i::r by simp)).nb;rw[D.uniq hd e]at oh;rw[oh]at this;cases this
   ·intro d hd;exact(np d).2 (λe=>wF hj (D.uniq hd e))
  ·obtain rfl:j=i:=by simpa using hj
   refine⟨fr,v,b,⟨?_,?_,λd hd=>(np d).1 hd,hg,hv⟩⟩
   ·intro t ht h hd oh;refine((np t).2 (λe=>?_)).symm;rw[D.uniq hd e,D.wA j (by simp)]at oh;cases oh
   ·intro t ht rQ;exact D.tA t (λh hh hd=>by
     have:=(D.ahead hh (show j∈j::r by simp)).wi t hd ht;rw[rQ h hd]at this;cases this)
 ·intro p hp;obtain⟨h1,h2⟩:=D.nr p hp;rcases cn.1 h1 with e|h1
  ·rw[e,hu]at h2;cases h2
  ·exact⟨h1,h2⟩
theorem GF:∀(r:List Nat) {cL:List Nat} {fr:List V},DI C call q l pm R ms w0 k ew eT cL r fr ids bl ch Z listed a w->∃wH r' fr',DI C call q l pm R ms w0 k ew eT wH r' fr' ids bl ch Z listed a w/\(r'=[]\/∃i s,r'=i::s/\ki (bz l i)=false)
 |[],cL,fr,D=>⟨cL,[],fr,D,.inl rfl⟩
 |i::r,cL,fr,D=>by
  cases hf:ki (bz l i)with
  |false=>exact⟨cL,i::r,fr,D,.inr ⟨i,r,rfl,hf⟩⟩
  |true=>
   obtain⟨fr',D'⟩:=D.ah_ hf;exact GF r D'
theorem aia {i:Nat} {r:List Nat} (D:DI C call q l pm R ms w0 k ew eT cL (i::r) fr ids bl ch Z listed a w) (ha:gC (bz l i)=true) (hi:listed[i]?=some true):∃fr' ids' bl' Z',DI C call q l pm R ms w0 k ew eT (cL++[i]) r fr' ids' bl' ch Z' listed a w:=by
 have mL:(cL++[i])++r=cL++(i::r):=by simp
 have ho:=D.at_ (i:=i) (by simp);have y_:=(y9 D.og ho).1;obtain⟨yW,_⟩:=(y9 D.og ho).2.2 ha;obtain⟨b,t,z,d,hz,iW,ZR,hd,hy⟩:=D.rP i (by simp) hi;obtain⟨Z1,Z2,rfl⟩:=List.append_of_mem hz;have cS:=D.vc;simp only[uR,eF,jh,yW,qi,iW,Gw,Gp,Gs,ZR]at cS;cases hq:bo bl.length fr&&(bM bl.length bl&&bo bl.length z)with
 |false=>rw[hq]at cS;exact cS.elim
 |true=>
  rw[hq]at cS;simp only[bu,<-D.hl]at hq;have cS:jh C call l.toArray (uR l r) (put fr (bz l i).dst (.ptr bl.length 0)) (bl++[⟨true,t,z⟩]) ch k:=cS;have np:=λt=>Rb (fr:=fr) (x:=V.ptr bl.length 0) t y_;have wF:∀{j},j∈cL->j≠i:=λhj e=>D.apart hj (by rw[e];simp);refine⟨_,ids++[b],_,Z1++Z2,{D with k_:=by rw[mL];exact D.k_,wz:=?_,mJ:=by rw[mL];exact D.mJ,mK:=by rw[mL];exact D.mK,nd:=by rw[mL];exact D.nd,og:=by rw[DO];exact D.og,wA:=by rw[mL];exact D.wA,rO:=?_,l6:=λj hj=>D.l6 j (by simp[hj]),vc:=cS,sz:=by rw[DO];exact D.sz,slot:=?_,old:=?_,tA:=?_,bH:=?_,rP:=?_,nr:=?_,DM:=?_,S:=?_,hl:=by simp[D.hl],gl:=D.gl.app _,Bo:=wD (by simp) _ D.Bo,DN:=by obtain⟨m,e⟩:=D.DN;exact⟨m++[b],by rw[e,bU]⟩}⟩
  ·have:=D.wz;simp only[yY,bu]at this;exact this.2
  ·intro j hj wG;rcases fc.1 hj with hj|hj
   ·exact D.rO j hj wG
   ·obtain rfl:j=i:=by simpa using hj
    exact hi
  ·intro u h1 h2;by_cases e:(bz l i).dst=some u
   ·rw[(np u).1 e];obtain rfl:d=u:=by rw[hd]at e;simpa using e
    rw[hy];simp only[den,<-D.hl,kZ]
   ·rw[(np u).2 e,gf _ (GD u hq.1)];refine D.slot u (λj hj=>h1 j (by simp[hj])) ?_;intro j hj gi;rcases cn.1 hj with rfl|hj
    ·exact absurd gi e
    ·exact h2 j hj gi
  ·intro j hj eH u hu;rcases fc.1 hj with hj|hj
   ·rw[gf _ (GD u D.Bo)];exact D.old j hj eH u hu
   ·obtain rfl:j=i:=by simpa using hj
    rw[hi]at eH;cases eH
  ·intro u h;rw[(np u).2 (h i (by simp))];exact D.tA u (λj hj=>h j (by simp[hj]))
  ·intro j hj eH;rcases fc.1 hj with hj|hj
   ·obtain⟨jX,v',b',rr⟩:=D.bH j hj eH;refine⟨jX,v',b',rr.frame ?_ ?_ (λ_ _ _ _ h=>ZO h)⟩
    ·intro u hu h hd oh;refine(np u).2 (λe=>?_);have:=(D.ahead hj (show i∈i::r by simp)).nb;rw[D.uniq hd e]at oh;rw[oh]at this;cases this
    ·intro u hd;exact(np u).2 (λe=>wF hj (D.uniq hd e))
   ·obtain rfl:j=i:=by simpa using hj
    rw[hi]at eH;cases eH
  ·intro j hj eH;obtain⟨b',t',z',d',h1,h2⟩:=D.rP j (by simp[hj]) eH;refine⟨b',t',z',d',?_,h2⟩;rcases fc.1 h1 with h1|h1
   ·simp[h1]
   ·rcases cn.1 h1 with e|h1
    ·exfalso;have:j=i:=by simpa using congrArg Prod.fst e
     have hn:=(List.nodup_append.1 D.nd).2.1;rw[ri]at hn;exact hn.1 (this▸hj)
    ·simp[h1]
  ·intro p hp;obtain⟨h1,h2⟩:=D.nr p (by rcases fc.1 hp with h|h<;>simp[h]);rcases cn.1 h1 with e|h1
   ·exfalso;have hn:=D.DM;simp only[rk,eF]at hn;have ta:=(List.perm_middle.nodup_iff.1 hn);rw[ri]at ta;refine ta.1 ?_;rw[<-e];rcases fc.1 hp with h|h
    ·exact pJ _ (lP.2 ⟨p,h,rfl⟩)
    ·exact uy _ (lP.2 ⟨p,h,rfl⟩)
   ·exact⟨h1,h2⟩
  ·have hn:=D.DM;simp only[rk,eF]at hn⊢;have ta:=(List.perm_middle.nodup_iff.1 hn);exact(ri.1 ta).2
  ·refine D.S.perm ?_;rw[fC _ _ _ _ D.hl,fD _ _ hq.2.1];simp only[lits,aD,ah7 ZR (ids++[b])];rw[bU];refine pL _ ?_;simp only[rk,eF,fe,fi,bU];exact(ZP jU ch).trans (Rh _ _ ch).symm
end DI
end
end Vx
namespace Vx
open Go Go.RowKit Go.BigFrame Sx
variable{G:Type} [Bl G]
def GG (q:Nat->Bool) (call:k7 G):Prop:=∀f,q f=true->∀args bl ch K,call f args bl ch K->call f args bl ch λv bl' ch'=>K v bl' ch'/\∃e,bl'=bl++e
section
variable{C:Ctx G} {call:k7 G} {q:Nat->Bool} {l:List ax} {pm:List Nat} {R:List aj} {ms:List Nat} {w0:ag} {k:kF G} {ew fr:List V} {eT:List Nat}
 {cL rest:List Nat} {ids:List Nat} {bl:List VB} {ch:List G} {Z:List (Nat×aj)} {listed:Array Bool} {a:Act} {w:ag} {Q:eE->Act->ag->Prop}
theorem aib (hq:GG q call) {o:ax} (ho:uP q o=true) {k:kF G} (h:qi C call o fr bl ch k):qi C call o fr bl ch λfr' bl' ch'=>k fr' bl' ch'/\∃e,bl'=bl++e:=by
 unfold qi at h⊢;split at h
 ·rename_i t x e;simp[uP,e]at ho
 ·rename_i t x y e;simp[uP,e]at ho
 ·rename_i op h1 h2;split at h
  ·exact⟨h.1,h.2,[],by simp⟩
  split at h
  ·exact⟨h,[],by simp⟩
  ·split at h
   ·cases hb:bo bl.length fr&&(bM bl.length bl&&bo bl.length _)with
    |false=>rw[hb]at h;exact h.elim
    |true=>rw[hb]at h;exact⟨h,_,rfl⟩
   ·split at h
    ·rename_i f args hc;cases hb:bo bl.length fr with
     |false=>rw[hb]at h;exact h.elim
     |true=>
      rw[hb]at h;have hqf:q f=true:=by
       unfold uP at ho;unfold callee at hc;split at ho
       ·rename_i e;simp[e]at hc
       ·rename_i e;simp[e]at hc
       ·rename_i g a1 a2 e;rw[e]at hc;simp only[ev]at hc;cases hk:okF C.P g with
        |false=>rw[hk]at hc;simp at hc
        |true=>
         rw[hk]at hc;simp only[cond_true,aY,bC]at hc;rw[<-hc.1];exact ho
       ·cases ho
      exact hq f hqf _ _ _ _ h
    ·cases hk:DF o.op with
     |false=>rw[hk]at h;exact h.elim
     |true=>
      exfalso;unfold uP at ho;unfold DF at hk;split at hk<;>simp_all
namespace DI
theorem aic {i:Nat} {r:List Nat} (D:DI C call q l pm R ms w0 k ew eT cL (i::r) fr ids bl ch Z listed a w) (hx:k8 (bz l i)=true) (hp:∀h,gh pm h i=true->listed[h]?=some true) {x:V} {more:List Nat} {bl':List VB} {ch':List G} {w':ag}
 (cS:jh C call l.toArray (uR l r) (put fr (bz l i).dst x) bl' ch' k) (hl:(ids++more).length=bl'.length) (S:St ms w0 (lits (ids++more) (ids++more) bl'++aC ch' (Z.map (·.2)++R)) w') (hw:more=[]\/bo ids.length fr=true) (hq:uP q (bz l i)=true->∃e,bl'=bl++e):
 DI C call q l pm R ms w0 k ew eT (cL++[i]) r (put fr (bz l i).dst x) (ids++more) bl' ch' Z (listed.setIfInBounds i true) (a.put (bz l i).dst (den (ids++more) x)) w':=by
 have mL:(cL++[i])++r=cL++(i::r):=by simp
 have hA:gC (bz l i)=false:=by rcases wy (bz l i)with h|h|h<;>simp_all
 have hu:listed[i]?=some false:=D.l6 i (by simp) hA;have ho:=D.at_ (i:=i) (by simp);have y_:=(y9 D.og ho).1;have iJ:i<listed.size:=by rw[D.ls];exact D.mK i (by simp)
 have sg:=λj b=>Re (listed:=listed) (j:=j) (b:=b) iJ;have np:=λt=>Rb (fr:=fr) (x:=x) t y_;have yp:=Rf (a:=a) (v:=den (ids++more) x) (d:=(bz l i).dst) (λu hu=>by rw[D.sz];exact y_ u hu);have wF:∀{j},j∈cL->j≠i:=λhj e=>D.apart hj (by rw[e];simp);have Ri:∀{j},j∈r->j≠i:=λhj e=>by
  have hn:=(List.nodup_append.1 D.nd).2.1;rw[ri]at hn;exact hn.1 (e▸hj)
 have dn:∀u,den (ids++more) (nth fr u)=den ids (nth fr u):=λu=>by
  rcases hw with rfl|hw
  ·simp
  ·exact gf _ (GD u hw)
 refine{D with k_:=by rw[mL];exact D.k_,wz:=?_,mJ:=by rw[mL];exact D.mJ,mK:=by rw[mL];exact D.mK,nd:=by rw[mL];exact D.nd,og:=by rw[DO];exact D.og,wA:=by rw[mL];exact D.wA,ls:=by simpa using D.ls,rO:=?_,l6:=?_,back:=?_,vc:=cS,sz:=by rw[DO,size_put];exact D.sz,df:=by rw[AX];exact D.df,slot:=?_,old:=?_,tA:=?_,bH:=?_,rP:=?_,nr:=?_,S:=S,hl:=hl,gl:=D.gl.app _,Bo:=wD (by simp) _ D.Bo,DN:=by obtain⟨m,e⟩:=D.DN;exact⟨m++more,by rw[e,bU]⟩}
 ·have:=D.wz;simp only[yY,bu]at this;exact this.2
 ·intro j hj wG;refine(sg _ _).2 ?_;rcases fc.1 hj with hj|hj
  ·exact .inr ⟨wF hj,D.rO j hj wG⟩
  ·exact .inl ⟨by simpa using hj,rfl⟩
 ·intro j hj wG;exact(sg _ _).2 (.inr ⟨Ri hj,D.l6 j (by simp[hj]) wG⟩)
 ·intro j hj h hb;refine(sg _ _).2 ?_;rcases(sg _ _).1 hj with⟨rfl,_⟩|⟨cE,hj⟩
  ·by_cases e:h=j
   ·exact .inl ⟨e,rfl⟩
   ·exact .inr ⟨e,hp h hb⟩
  ·by_cases e:h=i
   ·exact .inl ⟨e,rfl⟩
   ·exact .inr ⟨e,D.back j hj h hb⟩
 ·intro t h1 h2;by_cases e:(bz l i).dst=some t
  ·rw[(yp t).1 e,(np t).1 e]
  ·rw[(yp t).2 e,(np t).2 e,dn];refine D.slot t ?_ ?_
   ·intro j hj hd;rcases(sg _ _).1 (h1 j (by simp[hj]) hd)with⟨h,_⟩|⟨_,h⟩
    ·exact absurd h (wF hj)
    ·exact h
   ·intro j hj hd;rcases cn.1 hj with rfl|hj
    ·exact absurd hd e
    ·rcases(sg _ _).1 (h2 j hj hd)with⟨_,h⟩|⟨_,h⟩
     ·cases h
     ·exact h
 ·intro j hj eH t ht;rcases(sg _ _).1 eH with⟨_,h⟩|⟨cE,h⟩
  ·cases h
  ·rcases fc.1 hj with hj|hj
   ·rw[(yp t).2 (λe=>cE (D.uniq ht e)),gf _ (GD t D.Bo)];exact D.old j hj h t ht
   ·exact absurd (by simpa using hj) cE
 ·intro t h;rw[(np t).2 (h i (by simp))];exact D.tA t (λj hj=>h j (by simp[hj]))
 ·intro j hj eH;rcases(sg _ _).1 eH with⟨_,h⟩|⟨cE,h⟩
  ·cases h
  ·rcases fc.1 hj with hj|hj
   ·obtain⟨jX,v',b',rr⟩:=D.bH j hj h;have P:=D.ahead hj (show i∈i::r by simp);refine⟨jX,v',b',rr.frame ?_ ?_ ?_⟩
    ·intro t ht h hd oh;refine(np t).2 (λe=>?_);have:=P.nb;rw[D.uniq hd e]at oh;rw[oh]at this;cases this
    ·intro d hd;exact(np d).2 (λe=>wF hj (D.uniq hd e))
    ·intro t y v iW QX;rcases P.ld hx (by simp[Q0,iW])with hb|hb
     ·have:=hp j hb;rw[h]at this;cases this
     ·obtain⟨e,rfl⟩:=hq hb;exact ZO QX
   ·exact absurd (by simpa using hj) cE
 ·intro j hj eH;rcases(sg _ _).1 eH with⟨h,_⟩|⟨cE,h⟩
  ·exact absurd h (Ri hj)
  ·obtain⟨b,t,z,d,h1,h2,h3,h4,h5⟩:=D.rP j (by simp[hj]) h;exact⟨b,t,z,d,h1,h2,h3,h4,by rw[(yp d).2 (λe=>cE (D.uniq h4 e))];exact h5⟩
 ·intro p hp';obtain⟨h1,h2⟩:=D.nr p hp';rcases cn.1 h1 with e|h1
  ·rw[e,hu]at h2;cases h2
  ·exact⟨h1,(sg _ _).2 (.inr ⟨Ri h1,h2⟩)⟩
theorem ZS:∀(r:List Nat) {cL:List Nat} {fr:List V} {ids:List Nat} {bl:List VB} {Z:List (Nat×aj)} {i:Nat},DI C call q l pm R ms w0 k ew eT cL r fr ids bl ch Z listed a w->oc l r=some i->(∀h,gh pm h i=true->listed[h]?=some true)->
 ∃wH r' fr' ids' bl' Z',DI C call q l pm R ms w0 k ew eT wH (i::r') fr' ids' bl' ch Z' listed a w
 |[],_,_,_,_,_,_,_,h,_=>by simp[oc]at h
 |j::r,cL,fr,ids,bl,Z,i,D,h,hp=>by
  have qj:=D.wz;simp only[yY,bu]at qj;unfold oc at h;cases hA:gC (bz l j)with
  |false=>
   rw[hA]at h;obtain rfl:j=i:=by simpa using h
   exact⟨cL,r,fr,ids,bl,Z,D⟩
  |true=>
   rw[hA]at h qj;simp only[cond_true]at h qj;rw[h]at qj;simp only[bu]at qj;obtain⟨fr',ids',bl',Z',D'⟩:=D.aia hA (hp j qj.1.2);exact ZS r D' h hp
theorem ZT (D:DI C call q l pm R ms w0 k ew eT cL rest fr ids bl ch Z listed a w) (h:rest=[]\/∃i s,rest=i::s/\ki (bz l i)=false):rest=[]\/∃x,oc l rest=some x/\x∈rest/\k8 (bz l x)=true:=by
 rcases h with h|⟨i,s,rfl,hf⟩
 ·exact .inl h
 ·refine .inr ?_;have nm:∀(r:List Nat) x,oc l r=some x->x∈r:=by
   intro r;induction r with
   |nil=>intro x h;simp[oc]at h
   |cons y r ih=>
    intro x h;unfold oc at h;cases hA:gC (bz l y)with
    |true=>rw[hA]at h;exact yu _ (ih x h)
    |false=>rw[hA]at h;simp at h;simp[h]
  rcases wy (bz l i)with⟨h1,h2,h3⟩|⟨h1,h2,h3⟩|⟨h1,h2,h3⟩
  ·rw[hf]at h1;cases h1
  ·have qj:=D.wz;simp only[yY,bu,h2,cond_true]at qj;cases hn:oc l s with
   |none=>rw[hn]at qj;simp at qj
   |some x=>
    rw[hn]at qj;simp only[bu]at qj;exact⟨x,by unfold oc;rw[h2];exact hn,yu _ (nm s x hn),qj.1.1⟩
  ·exact⟨i,by unfold oc;rw[h2];rfl,by simp,h3⟩
end DI
end
section
variable{C:Ctx G} {call:k7 G} {q:Nat->Bool} {l:List ax} {pm:List Nat} {R:List aj} {ms:List Nat} {w0:ag} {k:kF G} {ew fr:List V} {eT:List Nat}
 {cL rest:List Nat} {ids:List Nat} {bl:List VB} {ch:List G} {Z:List (Nat×aj)} {listed:Array Bool} {a:Act} {w:ag} {Q:eE->Act->ag->Prop}
namespace DI
theorem first (h:k9 (wx q l pm) rest=true) {x:Nat} (hn:oc l rest=some x):∀i∈rest,gC (bz l i)=false->i=x\/Q7 q l pm x i:=by
 induction rest with
 |nil=>simp[oc]at hn
 |cons y r ih=>
  intro i hi ha;simp only[k9,bu,gm]at h;unfold oc at hn;cases hA:gC (bz l y)with
  |true=>
   rw[hA]at hn;rcases cn.1 hi with rfl|hi
   ·rw[hA]at ha;cases ha
   ·exact ih h.2 hn i hi ha
  |false=>
   rw[hA]at hn;obtain rfl:y=x:=by simpa using hn
   rcases cn.1 hi with e|hi
   ·exact .inl e
   ·exact .inr (tz (h.1 i hi))
theorem Rj (h:yZ l l.length=true) {i:Nat} {o:ax} (ho:l[i]?=some o) {e:Edge} (he:e∈o.after) (hb:rf .any e=true):e.on<l.length:=by
 have h1:=gm.1 h o (pF ho);have h2:=J8.1 h1 e he;rw[hb]at h2;simpa[iG]using h2
theorem stuck (D:DI C call q l pm R ms w0 k ew eT cL rest fr ids bl ch Z listed a w) (DP:uQ l pm=true) (gz:yZ l l.length=true) (hr:rj .any l.toArray listed=[]):
 ∀(b c:List Nat),cL++rest=c++b->(∀i∈c,listed[i]?=some true)->∀i∈b,listed[i]?=some true:=by
 intro b;induction b with
 |nil=>intro c _ _ i hi;cases hi
 |cons x b ih=>
  intro c hc hl;have hx:x∈cL++rest:=by rw[hc];simp
  have h1:listed[x]?=some true:=by
   rcases D.bit hx with h|h
   ·exact h
   ·exfalso;have ho:=D.at_ hx;have hm:x∈rj .any l.toArray listed:=(lU _ listed x).2 ⟨bz l x,ho,by simp[jR,h],λe he hb=>by
     have dL:=Rj gz ho he hb;have oh:gh pm e.on x=true:=by
      unfold gh;rw[ZI DP ho];exact(La pm _ _).2 ⟨e,by simpa using he,hb,.inl rfl⟩
     have ZU:=D.mJ e.on dL;rw[hc]at ZU;have hle:listed[e.on]?=some true:=by
      rcases fc.1 ZU with hm|hm
      ·exact hl _ hm
      ·exfalso;rcases cn.1 hm with h2|h2
       ·have:=D.wA x hx;rw[h2,this]at oh;cases oh
       ·have hp:=D.k_;rw[hc]at hp;have:=(Bn hp).2.2;simp only[k9,bu,gm]at this;have:=(tz (this.1 _ h2)).nb;rw[oh]at this;cases this
     simp[jR,hle]⟩
    rw[hr]at hm;cases hm
  intro i hi;rcases cn.1 hi with rfl|hi
  ·exact h1
  ·refine ih (c++[x]) (by rw[hc];simp) (λj hj=>?_) i hi;rcases fc.1 hj with hj|hj
   ·exact hl j hj
   ·obtain rfl:j=x:=by simpa using hj
    exact h1
theorem fin (D:DI C call q l pm R ms w0 k ew eT cL rest fr ids bl ch Z listed a w) (hh:rest=[]\/∃i s,rest=i::s/\ki (bz l i)=false) (dw:∀i,i<l.length->listed[i]?=some true):
 k fr bl ch/\a=act ids fr/\St ms w0 (lits ids ids bl++aC ch R) w:=by
 rcases D.ZT hh with rfl|⟨x,hx,hm,hX⟩
 ·have hZ:Z=[]:=by
   cases Z with
   |nil=>rfl
   |cons p Z=>have:=(D.nr p (by simp)).1;cases this
  refine⟨D.vc,?_,by have:=D.S;rw[hZ]at this;simpa using this⟩;refine PM (by rw[D.sz];simp[act,yM]) (by rw[D.df];rfl) ?_;intro t;rw[Q9];exact D.slot t (λi hi _=>dw i (D.mK i (by simp[hi]))) (λi hi=>nomatch hi)
 ·have h1:gC (bz l x)=false:=by rcases wy (bz l x)with h|h|h<;>simp_all
  have:=D.l6 x hm h1;rw[dw x (D.mK x (by simp[hm]))]at this;cases this
end DI
theorem FV (hc:DH C.P C.gl call) (Bp:GG q call) (DP:uQ l pm=true) (gz:yZ l l.length=true)
 (hk:∀fr' m bl' ch' w',(eT++m).length=bl'.length->St ms w0 (lits (eT++m) (eT++m) bl'++aC ch' R) w'->k fr' bl' ch'->Q .normal (act (eT++m) fr') w'):
 ∀(fuel:Nat) {cL rest:List Nat} {fr:List V} {ids:List Nat} {bl:List VB} {ch:List G} {Z:List (Nat×aj)} {listed:Array Bool} {a:Act} {w:ag},
  DI C call q l pm R ms w0 k ew eT cL rest fr ids bl ch Z listed a w->(rest=[]\/∃i s,rest=i::s/\ki (bz l i)=false)->listed.toList.count false=fuel->wpAny C.P .any l.toArray Q fuel listed a w:=by
 have fin:∀{cL rest:List Nat} {fr:List V} {ids:List Nat} {bl:List VB} {ch:List G} {Z:List (Nat×aj)} {listed:Array Bool} {a:Act} {w:ag},
  DI C call q l pm R ms w0 k ew eT cL rest fr ids bl ch Z listed a w->(rest=[]\/∃i s,rest=i::s/\ki (bz l i)=false)->(∀i,i<l.length->listed[i]?=some true)->Q .normal a w:=by
  intro cL rest fr ids bl ch Z listed a w D hh dw;obtain⟨h1,rfl,h3⟩:=D.fin hh dw;obtain⟨m,rfl⟩:=D.DN;exact hk _ _ _ _ _ D.hl h3 h1
 intro fuel;induction fuel with
 |zero=>
  intro cL rest fr ids bl ch Z listed a w D hh GH;have dw:∀i,i<l.length->listed[i]?=some true:=by
   intro i hi;rcases lT D.ls hi with h|h
   ·exact h
   ·exfalso;have:=count_set listed.toList i (by simpa using h);omega
  refine⟨?_,fin D hh dw⟩;refine List.eq_nil_iff_forall_not_mem.2 λi hi=>?_;obtain⟨o,ho,h2,_⟩:=(lU l listed i).1 hi;have iJ:i<l.length:=by rcases cZ i l.length with h|h;exact h;simp[h]at ho
  simp[jR,dw i iJ]at h2
 |succ fuel ih=>
  intro cL rest fr ids bl ch Z listed a w D hh GH;refine⟨λhr=>?_,?_⟩
  ·exfalso;have dw:∀i,i<l.length->listed[i]?=some true:=λi hi=>D.stuck DP gz hr (cL++rest) [] rfl (λ_ h=>nomatch h) i (D.mJ i hi);have:=Kr listed.toList l.length 0 (by simpa using D.ls) (λj hj=>by simpa using dw j hj);omega
  ·intro i hi;obtain⟨o,ho,h2,h3⟩:=(lU l listed i).1 hi;have iJ:i<l.length:=by rcases cZ i l.length with h|h;exact h;simp[h]at ho
   have mB:=Lb ho;have hu:listed[i]?=some false:=by
    rcases lT D.ls iJ with hb|hb
    ·simp[jR,hb]at h2
    ·exact hb
   have hp:∀h,gh pm h i=true->listed[h]?=some true:=by
    intro h hb;obtain⟨e,he,hbd,oW⟩:=ZJ DP ho hb;have dL:=DI.Rj gz ho he hbd;have hl:listed[e.on]?=some true:=by
     have:=h3 e he hbd;rcases lT D.ls (show e.on<l.length by omega)with hb|hb
     ·exact hb
     ·simp[jR,hb]at this
    rcases oW with rfl|oW
    ·exact hl
    ·exact D.back _ hl h oW
   have Bt:(listed.setIfInBounds i true).toList.count false=fuel:=by
    have:=count_set listed.toList i (by simpa using hu);simp only[J_];omega
   have wI:=y9 D.og ho;have hAt:l.toArray[i]?=some o:=by simpa using ho
   unfold wpOp;rw[hAt];simp only;have hm:=D.mJ i iJ;rcases fc.1 hm with hm|hm
   ·obtain⟨jX,v,b,r⟩:=D.bH i hm hu;have lV:=D.Rc hm hu hp r;unfold looks at lV;have D':=D.Rg hm hu hp r;have rg:=r.g;have re:=r.e;rw[mB]at lV D' rg re;rw[Ld lV rg];cases b with
    |true=>
     rw[if_pos rfl]at re;rw[if_pos rfl];refine .inl ?_;unfold oO;rw[GB wI.2.1 lV,Q_ D.gl D.hl D.S re];simp only[AN];exact ih D' hh Bt
    |false=>
     rw[if_neg (by simp)]at re;rw[if_neg (by simp)];subst re;rw[show(undef:ae)=den ids gu by simp[gu,den]];exact ih D' hh Bt
   ·rcases D.ZT hh with rfl|⟨x,hx,hxm,hX⟩
    ·cases hm
    have hxA:gC (bz l x)=false:=by rcases wy (bz l x)with h|h|h<;>simp_all
    have hxu:=D.l6 x hxm hxA;have aid:=DI.first (Bn D.k_).2.2 hx;cases hA:gC (bz l i)with
    |true=>
     obtain⟨yW,d,t,z,hd,iW,hz⟩:=wI.2.2 (by rw[<-mB];exact hA);have D':=D.ah8 hm hu hp (by rw[mB];exact iW) hz (by rw[mB];exact hd);rw[mB]at D';rw[if_pos (by simp[gT,yW])];refine .inl ?_;have bQ:(execOp a.eval o).run C.P w=.ok (.value (.pointer (some ⟨w.heap.size,0,none⟩))) (w.alloc (.cells (ai [] z).toArray t)):=by
      obtain⟨v0,z1,z2⟩:=Be (P:=C.P) (w:=w) (ids:=[]) hz;have Bg:v0.cells=(ai [] z).toArray:=by apply fM;simpa using z2
      unfold execOp;simp only[iW,Instr.alloc,bE,z1,cK,newVar,newRow,Bg];rfl
     unfold oO;rw[bQ];simp only[AN];exact ih D' hh Bt
    |false=>
     have iM:i=x:=by
      rcases aid i hm hA with h|h
      ·exact h
      ·have:=hp x (h.xj hX hA);rw[hxu]at this;cases this
     subst iM;obtain⟨wH,r',fr',ids',bl',Z',D1⟩:=D.ZS rest hx hp;have lV:=D1.ah6 rfl hu hp;unfold looks at lV;obtain⟨b,hg,hb⟩:=ZQ D1.vc;rw[mB]at lV hg hb;rw[Ld lV hg];have Rk:∀{x:V} {more:List Nat} {bl2:List VB} {ch2:List G} {w':ag},jh C call l.toArray (uR l r') (put fr' o.dst x) bl2 ch2 k->(ids'++more).length=bl2.length->St ms w0 (lits (ids'++more) (ids'++more) bl2++aC ch2 (Z'.map (·.2)++R)) w'->
      (more=[]\/bo ids'.length fr'=true)->(uP q o=true->∃e,bl2=bl'++e)->wpAny C.P .any l.toArray Q fuel (listed.setIfInBounds i true) (a.put o.dst (den (ids'++more) x)) w':=by
      intro x more bl2 ch2 w' g1 g2 g3 g4 g5;have D2:=D1.aic hX hp (x:=x) (more:=more) (by rw[mB];exact g1) g2 g3 g4 (by rw[mB];exact g5);rw[mB]at D2;obtain⟨ayE,r3,fr3,D3,hh3⟩:=D2.GF r';exact ih D3 hh3 Bt
     cases b with
     |true=>
      rw[if_pos rfl]at hb;rw[if_pos rfl];refine .inl ?_;cases ZV:uP q o with
      |true=>
       refine QY hc D1.gl D1.hl D1.S (aib Bp ZV hb) (GB wI.2.1 lV) ?_;intro x more bl2 ch2 w' g1 g2 g3 g4;exact Rk g3.1 g1 g2 g4 (λ_=>g3.2)
      |false=>
       refine QY hc D1.gl D1.hl D1.S hb (GB wI.2.1 lV) ?_;intro x more bl2 ch2 w' g1 g2 g3 g4;exact Rk g3 g1 g2 g4 (λe=>by rw[ZV]at e;cases e)
     |false=>
      rw[if_neg (by simp)]at hb;rw[if_neg (by simp)];have:=Rk (x:=gu) (more:=[]) (bl2:=bl') (ch2:=ch) (w':=w) hb (by simpa using D1.hl) (by simpa using D1.S) (.inl rfl) (λ_=>⟨[],by simp⟩);simpa[gu,den]using this
theorem DQ {i j:Nat} (m:Nat):(fE l i j)[m]?=(l[m]?).map λo=>if m=j then K_ i o else o:=by
 unfold fE;split
 ·rename_i o ho;have hj:j<l.length:=by rcases cZ j l.length with h|h;exact h;simp[h]at ho
  by_cases e:m=j
  ·subst e;simp[hj,ho];have:l[m]?=some o:=ho;rw[jv hj]at this;rw[cG this]
  ·rw[J1 (λh=>e h.symm)];cases l[m]?<;>simp[e]
 ·rename_i ho;by_cases e:m=j
  ·subst e;rw[ho];rfl
  ·cases l[m]?<;>simp[e]
theorem Lf {i j:Nat}:(fE l i j).length=l.length:=by unfold fE;split<;>simp
theorem ZW {i j m:Nat} (h:m≠j):bz (fE l i j) m=bz l m:=by
 unfold bz;rw[DQ];cases l[m]?<;>simp[h]
theorem ZX {i j m:Nat} (h:m∈rj .any (fE l i j).toArray listed):m∈rj .any l.toArray listed:=by
 obtain⟨o,ho,h2,h3⟩:=(lU _ _ _).1 h;rw[DQ]at ho;obtain⟨o',kB,e⟩:=im.1 ho;refine(lU _ _ _).2 ⟨o',kB,h2,λe' he hb=>h3 e' ?_ hb⟩;subst e;split
 ·simp[K_,he]
 ·exact he
theorem DR {i j m:Nat} (hm:m≠j\/listed[i]?=some true) (h:m∈rj .any l.toArray listed):m∈rj .any (fE l i j).toArray listed:=by
 obtain⟨o,ho,h2,h3⟩:=(lU _ _ _).1 h;refine(lU _ _ _).2 ⟨_,by rw[DQ,ho];rfl,h2,λe he hb=>?_⟩;split at he
 ·rename_i e1;simp only[K_,Array.mem_push]at he;rcases he with he|rfl
  ·exact h3 e he hb
  ·rcases hm with hm|hm
   ·exact absurd e1 hm
   ·simp[jR,hm]
 ·exact h3 e he hb
theorem ZY {i j:Nat} (ts:Array ae):yielded (fE l i j).toArray ts=yielded l.toArray ts:=by
 funext n;have:((fE l i j).toArray[n]?).bind (·.dst)=(l.toArray[n]?).bind (·.dst):=by
  simp only[jQ,DQ];cases l[n]?with
  |none=>rfl
  |some o=>simp only[mz,Option.bind_some];split<;>rfl
 unfold yielded;rw[this]
theorem Rl {P:aL} {i j m:Nat} {K:Act->ag->Prop} (h:wpOp P (fE l i j).toArray Q m K a w):wpOp P l.toArray Q m K a w:=by
 unfold wpOp at h⊢;simp only[jQ,DQ,ZY]at h⊢;cases ho:l[m]?with
 |none=>rw[ho]at h;exact h
 |some o=>
  rw[ho]at h;simp only[mz]at h⊢;by_cases e:m=j
  ·rw[if_pos e]at h;cases o;exact h
  ·rw[if_neg e]at h;exact h
theorem ZZ {P:aL} {i j:Nat}:∀(fuel:Nat) {listed:Array Bool} {a:Act} {w:ag},listed[i]?=some true->wpAny P .any (fE l i j).toArray Q fuel listed a w->wpAny P .any l.toArray Q fuel listed a w:=by
 intro fuel;induction fuel with
 |zero=>intro listed a w hi h;exact⟨List.eq_nil_iff_forall_not_mem.2 λm hm=>(by have:=DR (j:=j) (.inr hi) hm;rw[h.1]at this;cases this),h.2⟩
 |succ fuel ih=>
  intro listed a w hi h;refine⟨λhr=>h.1 (List.eq_nil_iff_forall_not_mem.2 λm hm=>by have:=ZX hm;rw[hr]at this;cases this),λm hm=>?_⟩;refine wpOp_mono (λa w h=>ih ?_ h) (Rl (h.2 m (DR (.inr hi) hm)));have hs:i<listed.size:=by rcases cZ i listed.size with h|h;exact h;simp[h]at hi
  rw[q_];split
  ·simp[*]
  ·exact hi
theorem wJ {l:List ax} (h:(l.all λo=>!(gC o))=true) (m:Nat):gC (bz l m)=false:=by
 unfold bz;split
 ·rename_i o ho;have:=gm.1 h o (pF ho);simpa using this
 ·rfl
theorem aie {i j:Nat} {uS uT:List Nat} (hc:DH C.P C.gl call) (Bp:GG q call) (yx:i≠j) (Z0:uQ (fE l i j) uS=true) (Z3:yZ (fE l i j) (fE l i j).length=true) (Z4:uQ (fE l j i) uT=true) (Z5:yZ (fE l j i) (fE l j i).length=true)
 (Lg:((fE l i j).all λo=>!(gC o))=true) (Rn:((fE l j i).all λo=>!(gC o))=true)
 (hk:∀fr' m bl' ch' w',(eT++m).length=bl'.length->St ms w0 (lits (eT++m) (eT++m) bl'++aC ch' R) w'->k fr' bl' ch'->Q .normal (act (eT++m) fr') w'):
 ∀(fuel:Nat) {Ro s1 Rp s2:List Nat} {Rq uO:List V} {listed:Array Bool} {a:Act} {w:ag},
  DI C call q (fE l i j) uS R ms w0 k ew eT Ro (i::s1) Rq ids bl ch Z listed a w->ki (bz (fE l i j) i)=false->DI C call q (fE l j i) uT R ms w0 k ew eT Rp (j::s2) uO ids bl ch Z listed a w->ki (bz (fE l j i) j)=false->
  listed.toList.count false=fuel->wpAny C.P .any l.toArray Q fuel listed a w:=by
 intro fuel;induction fuel with
 |zero=>
  intro Ro s1 Rp s2 Rq uO listed a w D1 wK D2 om GH;exfalso;have hu:=D1.l6 i (by simp) (wJ Lg i);have:=count_set listed.toList i (by simpa using hu);omega
 |succ fuel ih=>
  intro Ro s1 Rp s2 Rq uO listed a w D1 wK D2 om GH;have W1:=FV hc Bp Z0 Z3 hk (fuel+1) D1 (.inr ⟨i,s1,rfl,wK⟩) GH;have W2:=FV hc Bp Z4 Z5 hk (fuel+1) D2 (.inr ⟨j,s2,rfl,om⟩) GH;have hX1:k8 (bz (fE l i j) i)=true:=by have:=wJ Lg i;rcases wy (bz (fE l i j) i)with h|h|h<;>simp_all
  have hX2:k8 (bz (fE l j i) j)=true:=by have:=wJ Rn j;rcases wy (bz (fE l j i) j)with h|h|h<;>simp_all
  have Z6:=D1.l6 i (by simp) (wJ Lg i);have Z7:=D2.l6 j (by simp) (wJ Rn j);have yU:∀{m:Nat},listed[m]?=some false->(listed.setIfInBounds m true)[m]?=some true:=λ{m} h=>by
   have hs:m<listed.size:=by rcases cZ m listed.size with h'|h';exact h';simp[h']at h
   simp[hs]
  refine⟨λhr=>W1.1 (List.eq_nil_iff_forall_not_mem.2 λm hm=>by have:=ZX hm;rw[hr]at this;cases this),λm hm=>?_⟩;by_cases e1:m=i
  ·subst e1;exact wpOp_mono (λa w h=>ZZ fuel (yU Z6) h) (Rl (W1.2 m (DR (.inl yx) hm)))
  by_cases e2:m=j
  ·subst e2;exact wpOp_mono (λa w h=>ZZ fuel (yU Z7) h) (Rl (W2.2 m (DR (.inl (λh=>yx h.symm)) hm)))
  obtain⟨o,ho,h2,_⟩:=(lU l listed m).1 hm;have rF:m<l.length:=by rcases cZ m l.length with h|h;exact h;simp[h]at ho
  have hu:listed[m]?=some false:=by
   rcases D1.bit (D1.mJ m (by rw[Lf];exact rF))with hb|hb
   ·simp[jR,hb]at h2
   ·exact hb
  have Z8:∀{l':List ax} {zd:List Nat},uQ l' zd=true->yZ l' l'.length=true->m∈rj .any l'.toArray listed->(∀jj,listed[jj]?=some true->∀h,gh zd h jj=true->listed[h]?=some true)->listed.size=l'.length->∀h,gh zd h m=true->listed[h]?=some true:=by
   intro l' zd DP F9 wo back hls h hb;obtain⟨o',kB,_,h3⟩:=(lU l' listed m).1 wo;obtain⟨e,he,hbd,oW⟩:=ZJ DP kB hb;have dL:=DI.Rj F9 kB he hbd;have hl:listed[e.on]?=some true:=by
    have:=h3 e he hbd;rcases lT hls dL with hb|hb
    ·exact hb
    ·simp[jR,hb]at this
   rcases oW with rfl|oW
   ·exact hl
   ·exact back _ hl h oW
  have GI:=Z8 Z0 Z3 (DR (.inl e2) hm) D1.back D1.ls;have wC:=Z8 Z4 Z5 (DR (.inl e1) hm) D2.back D2.ls;have Z9:∀{l':List ax} {zd s wH:List Nat} {x:Nat},k9 (wx q l' zd) (wH++(x::s))=true->k8 (bz l' x)=true->gC (bz l' m)=false->listed[x]?=some false->(∀h,gh zd h m=true->listed[h]?=some true)->m∈wH++(x::s)->m≠x->m∈wH:=by
   intro l' zd s wH x hp hx ha hux DS wL cE;rcases fc.1 wL with h|h
   ·exact h
   ·exfalso;rcases cn.1 h with h|h
    ·exact cE h
    ·have qk:=(Bn hp).2.2;simp only[k9,bu,gm]at qk;have:=DS x ((tz (qk.1 m h)).xj hx ha);rw[hux]at this;cases this
  have m1:=Z9 D1.k_ hX1 (wJ Lg m) Z6 GI (D1.mJ m (by rw[Lf];exact rF)) e1;have m2:=Z9 D2.k_ hX2 (wJ Rn m) Z7 wC (D2.mJ m (by rw[Lf];exact rF)) e2;obtain⟨f1,v1,b1,r1⟩:=D1.bH m m1 hu;obtain⟨f2,v2,b2,r2⟩:=D2.bH m m2 hu;have o1:bz (fE l i j) m=o:=by rw[ZW e2];exact Lb ho
  have o2:bz (fE l j i) m=o:=by rw[ZW e1];exact Lb ho
  have k1:=D1.Rc m1 hu GI r1;have k2:=D2.Rc m2 hu wC r2;have DU:=D1.Rg m1 hu GI r1;have Bu:=D2.Rg m2 hu wC r2;have g1:=r1.g;have g2:=r2.g;have q1:=r1.e;have q2:=r2.e;unfold looks at k1 k2;rw[o1]at k1 DU g1 q1;rw[o2]at k2 Bu g2 q2;have w1:=Ld k1 g1;have w2:=Ld k2 g2;rw[ZY]at w1 w2;obtain rfl:b1=b2:=by rw[<-w1,<-w2]
  have wI:=y9 D1.og (show(fE l i j)[m]?=some o by rw[DQ,ho];simp[e2]);have Bt:(listed.setIfInBounds m true).toList.count false=fuel:=by
   have:=count_set listed.toList m (by simpa using hu);simp only[J_];omega
  unfold wpOp;rw[show l.toArray[m]?=some o by simpa using ho];simp only;rw[w1];cases b1 with
  |true=>
   rw[if_pos rfl]at q1 q2;rw[if_pos rfl];refine .inl ?_;have DV:(execOp a.eval o).run C.P w=.ok (.value (den ids v1)) w:=by rw[GB wI.2.1 k1,Q_ D1.gl D1.hl D1.S q1]
   have Z_:(execOp a.eval o).run C.P w=.ok (.value (den ids v2)) w:=by rw[GB wI.2.1 k2,Q_ D2.gl D2.hl D2.S q2]
   have hv:den ids v2=den ids v1:=by rw[DV]at Z_;simpa using Z_.symm
   rw[hv]at Bu;unfold oO;rw[DV];simp only[AN];exact ih DU wK Bu om Bt
  |false=>
   rw[if_neg (by simp)]at q1 q2;rw[if_neg (by simp)];subst q1 q2;rw[show(undef:ae)=den ids gu by simp[gu,den]];exact ih DU wK Bu om Bt
end
abbrev uU (G:Type):=eE->List V->List VB->List G->Prop
abbrev DW (G:Type):=Code->List V->List VB->List G->uU G->Prop
def wM (P:aL) (fr:List V) (bl:List VB):List J5->Option (List V)
 |[]=>some []
 |.tmp t::l=>(match wM P fr bl l with|some r=>some (nth fr t::r)|none=>none)
 |.cell a t::l=>(match uN P bl t (nth fr a),wM P fr bl l with|some v,some r=>some (v::r)|_,_=>none)
def GJ:List V->V
 |[v]=>v
 |l=>.av l
def GK (P:aL) (fn:Func) (K:VK G):uU G:=λe fr bl ch=>match e with
 |.normal=>(match wM P fr bl fn.results.toList with|some vs=>K (GJ vs) bl ch|none=>False)
 |.ret=>(match wM P fr bl fn.results.toList with|some vs=>K (GJ vs) bl ch|none=>False)
 |_=>False
def Bv:Nat->List V
 |0=>[]
 |n+1=>gu::Bv n
def DX (C:Ctx G) (rec:DW G):k7 G:=λf args bl ch K=>match C.T f with
 |some c=>c args bl ch K
 |none=>match C.P.funcs[f]?with
  |some fn=>(match fn.body with
   |some c=>rec c (args++Bv (fn.ntmps-args.length)) bl ch (GK C.P fn K)
   |none=>False)
  |none=>False
def aaa (C:Ctx G) (call:k7 G) (l1 l2:List ax) (uS GL uT GM:List Nat) (i j:Nat) (fr:List V) (bl:List VB) (ch:List G) (k:kF G):Prop:=
 cond (Gz C l1 uS GL i fr.length&&(Gz C l2 uT GM j fr.length&&(!(az i j)&&bo bl.length fr))) (jh C call l1.toArray (uR l1 GL) fr bl ch k/\jh C call l2.toArray (uR l2 GM) fr bl ch k) False
def aab (C:Ctx G) (call:k7 G) (l1 l2:List ax) (uS uT:List Nat) (i j:Nat) (fr:List V) (bl:List VB) (ch:List G) (k:kF G):Prop:=aaa C call l1 l2 uS (DL l1 uS) uT (DL l2 uT) i j fr bl ch k
def vcS (C:Ctx G) (call:k7 G) (l:List ax) (pm ts:List Nat) (fr:List V) (bl:List VB) (ch:List G) (k:kF G):Prop:=match Bm l ts with
 |some (i,r)=>(match Bm l r with
  |some (j,_)=>aab C call (fE l i j) (fE l j i) (Gy (fE l i j) [] pm) (Gy (fE l j i) [] pm) i j fr bl ch k
  |none=>False)
 |none=>False
def aac (C:Ctx G) (call:k7 G) (l:List ax) (pm ts:List Nat) (fr:List V) (bl:List VB) (ch:List G) (k:kF G):Prop:=
 cond (Gx C C.q l pm ts fr.length&&bo bl.length fr) (jh C call l.toArray (uR l ts) fr bl ch k) (vcS C call l pm ts fr bl ch k)
def Rr (C:Ctx G) (call:k7 G) (l:List ax) (pm:List Nat) (fr:List V) (bl:List VB) (ch:List G) (k:kF G):Prop:=aac C call l pm (DL l pm) fr bl ch k
def aad (k:kF G) (K:uU G):uU G:=λe fr bl ch=>match e with
 |.normal=>k fr bl ch
 |e=>K e fr bl ch
def GN (id:Nat) (K:uU G):uU G:=λe fr bl ch=>match e with
 |.exit j=>cond (az j id) (K .normal fr bl ch) (K (.exit j) fr bl ch)
 |e=>K e fr bl ch
def lpB:Code->Option Code
 |.loop c=>some c
 |_=>none
def lpK (I:Lp G) (x:I.X) (K:uU G):uU G:=λe fr bl ch=>match e with
 |.normal=>I.en x fr bl ch
 |e=>K e fr bl ch
def Lh (C:Ctx G) (rec:DW G):DW G:=λc fr bl ch K=>match c with
 |.skip=>K .normal fr bl ch
 |.seq a b=>rec a fr bl ch (aad (λfr bl ch=>rec b fr bl ch K) K)
 |.cond x t f=>(match x with
  |.tmp i=>(match nth fr i with
   |.bool b=>cond b (rec t (kh fr i (.bool true)) bl ch K) (rec f (kh fr i (.bool false)) bl ch K)
   |_=>False)
  |.const (.bool b)=>cond b (rec t fr bl ch K) (rec f fr bl ch K)
  |_=>False)
 |.block id b=>(match C.lp id fr with
  |some I=>(match lpB b with
   |some c=>I.QQ fr bl ch/\∀(x:I.X) (g:Nat->ae),rec c (fill (I.fr x) g 0) (I.bl x) (I.ch x) (lpK I x (GN id K))
   |none=>rec b fr bl ch (GN id K))
  |none=>rec b fr bl ch (GN id K))
 |.loop b=>rec b fr bl ch (aad (λfr bl ch=>rec (.loop b) fr bl ch K) K)
 |.exit id=>K (.exit id) fr bl ch
 |.ret=>K .ret fr bl ch
 |.region _ ops false=>jh C (DX C rec) ops ops.toList fr bl ch λfr bl ch=>K .normal fr bl ch
 |.region _ ops true=>Rr C (DX C rec) ops.toList (K7 ops.toList []) fr bl ch λfr bl ch=>K .normal fr bl ch
 |_=>False
def DY (C:Ctx G) (n:Nat):DW G:=Nat.rec (motive:=λ_=>DW G) (λ_ _ _ _ _=>False) (λ_ ih=>Lh C ih) n
def br (C:Ctx G) (n:Nat) (f:fL) (args:List V) (bl:List VB) (ch:List G) (K:VK G):Prop:=match C.P.funcs[f]?with
 |some fn=>(match fn.body with
  |some c=>DY C n c (args++Bv (fn.ntmps-args.length)) bl ch (GK C.P fn K)
  |none=>False)
 |none=>False
section
variable{C:Ctx G} {call:k7 G}
theorem aif {n:Nat} {ts:List Nat} (h1:ts.length=n) (h2:∀i∈ts,i<n) (h3:ts.Nodup):∀i,i<n->i∈ts:=by
 intro i hi;obtain⟨r,hr⟩:=F_ ts (bw n) h3 (λx hx=>List.mem_range.2 (h2 x hx));have hlen:=hr.length_eq;simp[h1]at hlen;subst hlen;have hs:(bw n).Perm ts:=by simpa using hr
 exact hs.mem_iff.1 (List.mem_range.2 hi)
theorem DI.start {l:List ax} {pm ts:List Nat} {R:List aj} {ms:List Nat} {w0 w:ag} {k:kF G} {ids:List Nat} {bl:List VB} {ch:List G} {fr:List V}
 (hg:Gl C.gl ids) (hl:ids.length=bl.length) (S:St ms w0 (lits ids ids bl++aC ch R) w) (hd:Gx C C.q l pm ts fr.length=true) (Li:bo bl.length fr=true) (h:jh C call l.toArray (uR l ts) fr bl ch k):
 (DI C call C.q l pm R ms w0 k fr ids [] ts fr ids bl ch [] (C9 l.length false) (act ids fr) {w with drawn:=w.drawn+1}/\uQ l pm=true/\yZ l l.length=true)/\C.P.follows .mixedOrders=true:=by
 unfold Gx ZH at hd;simp only[bu]at hd;obtain⟨⟨⟨⟨⟨⟨⟨⟨⟨d1,d2⟩,d3⟩,d4⟩,d5⟩,d6⟩,d7⟩,d8⟩,d10⟩,d9⟩:=hd;have hlen:=cz d4;have Rs:∀i∈ts,i<l.length:=λi hi=>by have:=gm.1 d5 i hi;rwa [iG]at this
 have tB:=Q6 d6;have hff:∀j,j<l.length->(C9 l.length false)[j]?=some false:=λj hj=>by simp[AH];exact hj
 have hft:∀(j:Nat),(C9 l.length false)[j]?=some true->False:=λj hj=>by
  rw[AH]at hj;split at hj<;>simp at hj
 have S':St ms w0 (lits ids ids bl++aC ch R) {w with drawn:=w.drawn+1}:=S.quiet (Ch.refl [] w).drew;exact⟨⟨{k_:=d7,wz:=d8,mJ:=λi hi=>aif hlen Rs tB i hi,mK:=Rs,nd:=tB,og:=d9,wA:=λi hi=>(by have:=gm.1 d10 i hi;simpa using this),ls:=(by simp),rO:=λi hi=>(nomatch hi),l6:=λi hi _=>hff i (Rs i hi),back:=λj hj=>(hft j hj).elim,vc:=h,sz:=(by simp[act,yM]),df:=rfl,slot:=λt _ _=>Q9 t,old:=λi hi=>(nomatch hi),tA:=λt _=>rfl,bH:=λi hi=>(nomatch hi),rP:=λi hi hj=>(hft i hj).elim,nr:=λp hp=>(nomatch hp),DM:=List.nodup_nil,S:=(by simpa using S'),hl:=hl,gl:=hg,Bo:=(by rw[hl];exact Li),DN:=⟨[],by simp⟩},d1,d2⟩,d3⟩
theorem Lj {l:List ax} {pm:List Nat} {q:Nat->Bool} {i:Nat} {r:List Nat}:∀{ts:List Nat},k9 (wx q l pm) ts=true->Bm l ts=some (i,r)->i∈ts/\k8 (bz l i)=true/\∀x∈ts,k8 (bz l x)=true->x=i\/wx q l pm i x=true
 |[],_,h=>by cases h
 |y::ts,hp,h=>by
  simp only[k9,bu,gm]at hp;unfold Bm at h;cases hX:k8 (bz l y)with
  |true=>
   rw[hX]at h;obtain⟨rfl,rfl⟩:y=i/\ts=r:=by simpa using h
   exact⟨by simp,hX,λx hx _=>by rcases cn.1 hx with e|hx;exact .inl e;exact .inr (hp.1 x hx)⟩
  |false=>
   rw[hX]at h;obtain⟨h1,h2,h3⟩:=Lj hp.2 h;exact⟨yu _ h1,h2,λx hx Bw=>by
    rcases cn.1 hx with rfl|hx
    ·rw[hX]at Bw;cases Bw
    ·exact h3 x hx Bw⟩
theorem DI.head {q:Nat->Bool} {l:List ax} {pm ts cL rest:List Nat} {R:List aj} {ms:List Nat} {w0 w:ag} {k:kF G} {ew fr:List V} {eT ids:List Nat} {bl:List VB} {ch:List G} {Z:List (Nat×aj)} {a:Act} {n i:Nat} {r:List Nat}
 (D:DI C call q l pm R ms w0 k ew eT cL rest fr ids bl ch Z (C9 n false) a w) (hA:(l.all λo=>!(gC o))=true) (hh:rest=[]\/∃i s,rest=i::s/\ki (bz l i)=false) (hp:k9 (wx q l pm) ts=true) (ei:∀x,x<l.length->x∈ts) (hX:Bm l ts=some (i,r)) (hi:i<l.length):
 ∃s,rest=i::s/\ki (bz l i)=false:=by
 obtain⟨_,h2,h3⟩:=Lj hp hX;have hm:i∈rest:=by
  rcases fc.1 (D.mJ i hi)with h|h
  ·have:=D.rO i h (by rcases wy (bz l i)with e|e|e<;>simp_all);rw[AH]at this;split at this<;>simp at this
  ·exact h
 rcases hh with rfl|⟨x,s,rfl,hf⟩
 ·cases hm
 ·have hx:k8 (bz l x)=true:=by have:=wJ hA x;rcases wy (bz l x)with e|e|e<;>simp_all
  rcases cn.1 hm with rfl|hm
  ·exact⟨s,rfl,hf⟩
  ·exfalso;have wa:x<l.length:=D.mK x (by simp);have qk:=(Bn D.k_).2.2;simp only[k9,bu,gm]at qk;have hb:=(tz (qk.1 i hm)).xj hx (wJ hA i);rcases h3 x (ei x wa) hx with rfl|h
   ·have tB:=D.nd;have:=(List.nodup_append.1 tB).2.1;exact(ri.1 this).1 hm
   ·have:=(tz h).nb;rw[hb]at this;cases this
theorem aih (hc:DH C.P C.gl call) (Bp:GG C.q call) {id:Nat} {ops:Array ax} {R:List aj} {ms:List Nat} {w0 w:ag} {Q:eE->Act->ag->Prop} {k:kF G} {ids:List Nat} {bl:List VB} {ch:List G} {fr:List V}
 (hg:Gl C.gl ids) (hl:ids.length=bl.length) (S:St ms w0 (lits ids ids bl++aC ch R) w) (h:Rr C call ops.toList (K7 ops.toList []) fr bl ch k)
 (hk:∀fr' more bl' ch' w',(ids++more).length=bl'.length->St ms w0 (lits (ids++more) (ids++more) bl'++aC ch' R) w'->k fr' bl' ch'->Q .normal (act (ids++more) fr') w'):
 (Code.region id ops true).wp C.P Q (act ids fr) w:=by
 unfold Rr aac at h;generalize tv:ops.toList=l at h;generalize K7 l []=pm at h;generalize DL l pm=ts at h;have aii:ops=l.toArray:=by rw[<-tv]
 subst aii;cases hd:Gx C C.q l pm ts fr.length&&bo bl.length fr with
 |true=>
  rw[hd]at h;simp only[bu]at hd;obtain⟨⟨D,d1,d2⟩,d3⟩:=DI.start hg hl S hd.1 hd.2 h;refine wp_region_any d3 ?_;obtain⟨cL,r,fr',D',hh⟩:=D.GF ts;exact FV hc Bp d1 d2 hk _ D' hh (by simp[Yj])
 |false=>
  rw[hd]at h;simp only[cond_false]at h;unfold vcS at h;split at h
  ·rename_i i r1 wK;split at h
   ·rename_i j r2 om;unfold aab aaa at h;generalize Gy (fE l i j) [] pm=uS at h;generalize Gy (fE l j i) [] pm=uT at h;generalize DL (fE l i j) uS=GL at h;generalize DL (fE l j i) uT=GM at h;cases hq:Gz C (fE l i j) uS GL i fr.length&&(Gz C (fE l j i) uT GM j fr.length&&(!(az i j)&&bo bl.length fr))with
    |false=>rw[hq]at h;exact h.elim
    |true=>
     rw[hq]at h;simp only[bu,my]at hq;obtain⟨q1,q2,q3,q4⟩:=hq;have yx:i≠j:=λe=>by rw[e,sY]at q3;cases q3
     unfold Gz at q1 q2;simp only[bu]at q1 q2;obtain⟨⟨a1,a2⟩,a3⟩:=q1;obtain⟨⟨c1,c2⟩,c3⟩:=q2;obtain⟨⟨D1,d1,d2⟩,d3⟩:=DI.start hg hl S a1 q4 h.1;obtain⟨⟨D2,e1,e2⟩,_⟩:=DI.start hg hl S c1 q4 h.2;rw[Lf]at D1 D2;split at a3
     ·rename_i x1 y1 g1;obtain rfl:=cz a3;split at c3
      ·rename_i x2 y2 g2;obtain rfl:=cz c3;obtain⟨ab1,rs1,f1,DU,h1⟩:=D1.GF GL;obtain⟨ab2,DZ,f2,Bu,h2⟩:=D2.GF GM;have p1:=Lj D1.k_ g1;have p2:=Lj D2.k_ g2;obtain⟨s1,rfl,hn1⟩:=DU.head a2 h1 D1.k_ (λx hx=>by simpa using D1.mJ x hx) g1 (D1.mK _ (by simpa using p1.1));obtain⟨s2,rfl,hn2⟩:=Bu.head c2 h2 D2.k_ (λx hx=>by simpa using D2.mJ x hx) g2 (D2.mK _ (by simpa using p2.1));refine wp_region_any d3 ?_;exact aie hc Bp yx d1 d2 e1 e2 a2 c2 hk _ DU hn1 Bu hn2 (by simp[Yj])
      ·cases c3
     ·cases a3
   ·exact h.elim
  ·exact h.elim
def ql (C:Ctx G):Prop:=∀f,C.q f=true->∃c,C.T f=some c/\∀args bl ch K,c args bl ch K->c args bl ch λv bl' ch'=>K v bl' ch'/\∃e,bl'=bl++e
theorem aij (hQ:ql C) {rec:DW G}:GG C.q (DX C rec):=by
 intro f hf args bl ch K h;obtain⟨c,hc,hq⟩:=hQ f hf;unfold DX at h⊢;rw[hc]at h⊢;exact hq args bl ch K h
theorem aik {ids:List Nat} (n:Nat):aH ids (Bv n)=nh n undef:=by
 induction n with
 |zero=>rfl
 |succ n ih=>simp[Bv,aH,ih,List.replicate_succ,gu,den]
theorem ail {ids:List Nat} (a b:List V):aH ids (a++b)=aH ids a++aH ids b:=by simp[yM]
theorem Rt {P:aL} {ids:List Nat} {fr:List V} {bl:List VB} {R:List aj} {ms:List Nat} {w0 w:ag} (hl:ids.length=bl.length) (S:St ms w0 (lits ids ids bl++R) w):
 ∀(rs:List J5) {vs:List V},wM P fr bl rs=some vs->Km P w (aH ids fr).toArray rs (aH ids vs)
 |[],vs,h=>by simp only[wM,aY]at h;subst h;exact trivial
 |.tmp t::l,vs,h=>by
  simp only[wM]at h;split at h
  ·rename_i r hr;simp only[aY]at h;subst h;refine⟨?_,Rt hl S l hr⟩;simp only[yB,<-Bb];rfl
  ·cases h
 |.cell a t::l,vs,h=>by
  simp only[wM]at h;split at h
  ·rename_i v r hv hr;simp only[aY]at h;subst h;refine⟨?_,Rt hl S l hr⟩;have h1:=K1 (P:=P) hl S hv;have h2:∃x,den ids (nth fr a)=.pointer (some x):=by
    unfold uN at hv;split at hv
    ·rename_i i off hx;exact⟨⟨ids.getD i 0,off,none⟩,by rw[hx];simp only[den]⟩
    ·cases hv
   obtain⟨x,hx⟩:=h2;rw[hx]at h1;simp only[qZ,ju,bE,du,cK]at h1;simp only[yB,<-Bb,hx,asAddr,bE,du,cK,h1]
  ·cases h
theorem aim {ids:List Nat} (vs:List V):Kn (aH ids vs)=den ids (GJ vs):=by
 match vs with
 |[]=>rfl
 |[v]=>rfl
 |_::_::_=>simp[aH,Kn,GJ,den]
theorem ain {P:aL} {fn:Func} {K:VK G} {e:eE} {fr:List V} {bl:List VB} {ch:List G} {ids:List Nat} {R:List aj} {ms:List Nat} {w0 w:ag} (hl:ids.length=bl.length) (S:St ms w0 (lits ids ids bl++R) w)
 (h:GK P fn K e fr bl ch) {R':ae->ag->Prop} (hk:∀x,K x bl ch->R' (den ids x) w):bodyPost P fn (λe w'=>∃v,e=.returned v/\R' v w') e (act ids fr) w:=by
 have main:(match wM P fr bl fn.results.toList with|some vs=>K (GJ vs) bl ch|none=>False)->∃v,(results fn (act ids fr).tmps).run P w=.ok v w/\R' v w:=by
  intro h;split at h
  ·rename_i vs hvs;exact⟨_,gb (fn:=fn) fn.results.toList _ _ (Rt hl S _ hvs) (by simp) (aim vs),hk _ h⟩
  ·exact h.elim
 unfold GK at h;split at h
 ·obtain⟨v,h1,h2⟩:=main h;exact⟨rfl,v,h1,v,rfl,h2⟩
 ·obtain⟨v,h1,h2⟩:=main h;exact⟨rfl,v,h1,v,rfl,h2⟩
 ·exact h.elim
theorem Lk {ids more:List Nat}:∀(l:List (Option V)) (fr:List V) (i:Nat) (g:Nat->ae),DG ids.length l fr->(∀t,g (i+t)=den (ids++more) (nth fr t))->aH (ids++more) fr=aH ids (fill l g i)
 |[],[],_,_,_,_=>by simp[fill,aH]
 |some v::l,u::fr,i,g,h,hg=>by
  obtain⟨rfl,hw,h⟩:=h;simp only[fill,aH];rw[gf u hw,Lk l fr (i+1) g h (λt=>by have:=hg (t+1);simp only[nth]at this;rw[<-this];congr 1;omega)]
 |none::l,u::fr,i,g,h,hg=>by
  simp only[fill,aH,den];rw[Lk l fr (i+1) g h (λt=>by have:=hg (t+1);simp only[nth]at this;rw[<-this];congr 1;omega)];have:=hg 0;simp only[nth,pG]at this;rw[this]
 |[],_::_,_,_,h,_=>h.elim
 |some _::_,[],_,_,h,_=>h.elim
 |none::_,[],_,_,h,_=>h.elim
theorem aio (ids more:List Nat) (bl j:List VB) (hl:bl.length=ids.length) (hw:bM ids.length bl=true):lits (ids++more) (ids++more) (bl++j)=lits ids ids bl++lits (ids++more) more j:=by
 rw[fC _ _ _ _ hl.symm,fD _ _ hw]
theorem aip {ms:List Nat} {w0 w:ag} {A B R:List aj} (S:St ms w0 ((A++B)++R) w):St ms w0 (A++R) w:=S.sub (agN (List.sublist_append_left A B) R)
def Ru (C:Ctx G) (n:Nat):Prop:=∀(c:Code) {fr:List V} {bl:List VB} {ch:List G} {K:uU G} {ids:List Nat} {R:List aj} {ms:List Nat} {w0 w:ag} {Q:eE->Act->ag->Prop},
 Gl C.gl ids->ids.length=bl.length->St ms w0 (lits ids ids bl++aC ch R) w->DY C n c fr bl ch K->
 (∀e fr' more bl' ch' w',(ids++more).length=bl'.length->St ms w0 (lits (ids++more) (ids++more) bl'++aC ch' R) w'->K e fr' bl' ch'->Q e (act (ids++more) fr') w')->
 c.wp C.P Q (act ids fr) w/\(∀b,c=.loop b->C_ C.P b Q n (act ids fr) w)
theorem aae {n:Nat} (ih:Ru C n) {f:Nat} {fn:Func} {c:Code} (hf:C.P.funcs[f]?=some fn) (hb:fn.body=some c) {args:List V} {ids:List Nat} {bl:List VB} {ch:List G} {R:List aj} {ms:List Nat} {w0 w:ag} {K:VK G}
 (hg:Gl C.gl ids) (hl:ids.length=bl.length) (S:St ms w0 (lits ids ids bl++aC ch R) w) (h:DY C n c (args++Bv (fn.ntmps-args.length)) bl ch (GK C.P fn K)):
 aV C.P f (aH ids args).toArray w λv w'=>∃x more bl' ch',v=den (ids++more) x/\(ids++more).length=bl'.length/\St ms w0 (lits (ids++more) (ids++more) bl'++aC ch' R) w'/\K x bl' ch':=by
 refine calls_of_wp hf hb ?_;have e:({tmps:=(aH ids args).toArray++C9 (fn.ntmps-(aH ids args).toArray.size) undef,defers:=[]}:Act)=act ids (args++Bv (fn.ntmps-args.length)):=by
  simp only[act,ail,aik];congr 1;apply fM;simp[yM]
 rw[e];refine(ih c hg hl S h ?_).1;intro e fr' more bl' ch' w' g1 g2 g3;refine ain g1 g2 g3 ?_;intro x hx;exact⟨x,more,bl',ch',rfl,g1,g2,hx⟩
theorem aaf {n:Nat} (hT:∀f c,C.T f=some c->Sound C.P C.gl f c) (ih:Ru C n):DH C.P C.gl (DX C (DY C n)):=by
 intro f hf args ids bl ch R ms w0 w K hg hl S h;unfold DX at h;split at h
 ·rename_i c hc;exact hT f c hc args ids bl ch R ms w0 w K hg hl S h
 ·split at h
  ·rename_i fn Bj;split at h
   ·rename_i c hc;exact aae ih Bj hc hg hl S h
   ·exact h.elim
  ·exact h.elim
theorem aiq {ids:List Nat} {fr:List V} (i:Nat):(act ids fr).eval (.tmp i)=den ids (nth fr i):=by simp only[Act.eval,act,Bb]
theorem sound (hT:∀f c,C.T f=some c->Sound C.P C.gl f c) (hQ:ql C):∀n,Ru C n:=by
 intro n;induction n with
 |zero=>intro c fr bl ch K ids R ms w0 w Q hg hl S h;exact h.elim
 |succ n ih=>
  intro c fr bl ch K ids R ms w0 w Q hg hl S h hk;replace h:Lh C (DY C n) c fr bl ch K:=h;generalize Rv:DY C n=rec at h;have tD:∀(c:Code) {fr:List V} {bl:List VB} {ch:List G} {K:uU G} {ids:List Nat} {R:List aj} {ms:List Nat} {w0 w:ag} {Q:eE->Act->ag->Prop},Gl C.gl ids->ids.length=bl.length->St ms w0 (lits ids ids bl++aC ch R) w->rec c fr bl ch K->(∀e fr' more bl' ch' w',(ids++more).length=bl'.length->St ms w0 (lits (ids++more) (ids++more) bl'++aC ch' R) w'->K e fr' bl' ch'->Q e (act (ids++more) fr') w')->c.wp C.P Q (act ids fr) w/\(∀b,c=.loop b->C_ C.P b Q n (act ids fr) w):=by rw[<-Rv];exact ih
  have rI:∀e,K e fr bl ch->Q e (act ids fr) w:=λe he=>by
   have:=hk e fr [] bl ch w (by simpa using hl) (by simpa using S) he;simpa using this
  have trans:∀{more:List Nat} {e:eE} {fr':List V} {bl':List VB} {ch':List G} {w':ag},(∀e uO cJ bl2 ch2 w2,((ids++more)++cJ).length=bl2.length->St ms w0 (lits ((ids++more)++cJ) ((ids++more)++cJ) bl2++aC ch2 R) w2->K e uO bl2 ch2->Q e (act ((ids++more)++cJ) uO) w2):=by
   intro more e fr' bl' ch' w' e uO cJ bl2 ch2 w2 g1 g2 g3;rw[bU]at g1 g2⊢;exact hk e uO (more++cJ) bl2 ch2 w2 g1 g2 g3
  cases c with
  |skip=>exact⟨j7 (rI _ h),λb e=>nomatch e⟩
  |seq a b=>
   refine⟨?_,λb e=>nomatch e⟩;refine wp_seq ((tD a hg hl S h ?_).1);intro e fr' more bl' ch' w' g1 g2 g3;cases e with
   |normal=>exact(tD b (hg.app more) g1 g2 g3 (trans (e:=.normal) (fr':=fr') (bl':=bl') (ch':=ch') (w':=w'))).1
   |_=>exact hk _ fr' more bl' ch' w' g1 g2 g3
  |cond x t f=>
   refine⟨?_,λb e=>nomatch e⟩;unfold Lh at h;dsimp only at h;split at h
   ·rename_i i;split at h
    ·rename_i b hb;have hs:=K5 fr i;rw[hb]at hs;have hev:(act ids fr).eval (.tmp i)=.bool b:=by rw[aiq,hb];simp only[den]
     cases b with
     |true=>rw[hs]at h;exact wp_cond_true hev (tD t hg hl S h hk).1
     |false=>rw[hs]at h;exact wp_cond_false hev (tD f hg hl S h hk).1
    ·exact h.elim
   ·rename_i b;cases b with
    |true=>exact wp_cond_true rfl (tD t hg hl S h hk).1
    |false=>exact wp_cond_false rfl (tD f hg hl S h hk).1
   ·exact h.elim
  |block id b=>
   refine⟨?_,λb e=>nomatch e⟩;have fin:∀e fr' more bl' ch' w',(ids++more).length=bl'.length->St ms w0 (lits (ids++more) (ids++more) bl'++aC ch' R) w'->GN id K e fr' bl' ch'->J4 id Q e (act (ids++more) fr') w':=by
    intro e fr' more bl' ch' w' g1 g2 g3;cases e with
    |exit j=>
     simp only[GN]at g3;unfold J4;by_cases hj:j=id
     ·subst hj;rw[sY]at g3;simp only[if_true];exact hk _ _ _ _ _ _ g1 g2 g3
     ·have:az j id=false:=by
       cases hb:az j id with
       |true=>exact absurd (cz hb) hj
       |false=>rfl
      rw[this]at g3;simp only[if_neg hj];exact hk _ _ _ _ _ _ g1 g2 g3
    |_=>exact hk _ _ _ _ _ _ g1 g2 g3
   unfold Lh at h;dsimp only at h;split at h
   ·rename_i I hI;split at h
    ·rename_i c hc;obtain rfl:b=.loop c:=by
      unfold lpB at hc;split at hc
      ·cases hc;rfl
      ·cases hc
     obtain⟨h0,hx⟩:=h;have key:∀N (x:I.X) (g:Nat->ae) w',I.m x<N->(I.bl x).length=ids.length->St ms w0 (lits ids ids (I.bl x)++aC (I.ch x) R) w'->C_ C.P c (J4 id Q) N (act ids (fill (I.fr x) g 0)) w':=by
      intro N;induction N with
      |zero=>intro x g w' hN;omega
      |succ N ihN=>
       intro x g w' hN ry Sx;refine(tD c hg ry.symm Sx (hx x g) ?_).1;intro e fr' more bl' ch' w2 g1 g2 g3;cases e with
       |normal=>
        obtain⟨y,hm,hf,Rw,Li,⟨j,rfl⟩,rfl⟩:=I.ok x fr' bl' ch' g3;have e1:act (ids++more) fr'=act ids (fill (I.fr y) (λt=>den (ids++more) (nth fr' t)) 0):=by
         simp only[act];rw[Lk (I.fr y) fr' 0 (λt=>den (ids++more) (nth fr' t)) (by rw[<-ry];exact hf) (λt=>by simp)]
        show C_ C.P c _ N (act (ids++more) fr') w2;rw[e1];refine ihN y _ w2 (by omega) (Rw.trans ry) ?_;rw[ry]at Li Rw;rw[aio ids more (I.bl y) j Rw Li]at g2;exact aip g2
       |_=>exact fin _ fr' more bl' ch' w2 g1 g2 (by first|exact g3|(unfold lpK at g3;exact g3))
     obtain⟨x0,hf,rfl,rfl⟩:=I.ZD fr bl ch h0;refine jw (wp_loop_rounds (I.m x0+1) ?_);have e1:act ids fr=act ids (fill (I.fr x0) (λt=>den ids (nth fr t)) 0):=by
      have:=Lk (ids:=ids) (more:=[]) (I.fr x0) fr 0 (λt=>den ids (nth fr t)) (by rw[hl];exact hf) (λt=>by simp);simp only[act];simp only[cH]at this;rw[this]
     rw[e1];exact key _ x0 _ w (Nat.lt_succ_self _) hl.symm S
    ·exact jw ((tD b hg hl S h fin).1)
   ·exact jw ((tD b hg hl S h fin).1)
  |loop b=>
   have key:C_ C.P b Q (n+1) (act ids fr) w:=by
    refine(tD b hg hl S h ?_).1;intro e fr' more bl' ch' w' g1 g2 g3;cases e with
    |normal=>exact(tD (.loop b) (hg.app more) g1 g2 g3 (trans (e:=.normal) (fr':=fr') (bl':=bl') (ch':=ch') (w':=w'))).2 b rfl
    |_=>exact hk _ fr' more bl' ch' w' g1 g2 g3
   exact⟨wp_loop_rounds (n+1) key,λb' e=>by cases e;exact key⟩
  |exit id=>exact⟨wp_exit (rI _ h),λb e=>nomatch e⟩
  |ret=>exact⟨gU (rI _ h),λb e=>nomatch e⟩
  |region id ops d=>
   refine⟨?_,λb e=>nomatch e⟩;cases d with
   |true=>exact aih (Rv▸aaf hT ih) (aij hQ) hg hl S h (λfr' more bl' ch' w' g1 g2 g3=>hk _ _ _ _ _ _ g1 g2 g3)
   |false=>
    refine wp_region_list ?_;exact(QZ (aaf hT ih) ops.toList hg hl S (by rw[Rv];exact h) (λfr' more bl' ch' w' g1 g2 g3=>hk _ _ _ _ _ _ g1 g2 g3)).out
  |_=>exact h.elim
theorem eO (hT:∀f c,C.T f=some c->Sound C.P C.gl f c) (hQ:ql C) (n:Nat) {f:Nat} {args:List V} {ids:List Nat} {bl:List VB} {ch:List G} {R:List aj} {ms:List Nat} {w0 w:ag} {K:VK G}
 (hg:Gl C.gl ids) (hl:ids.length=bl.length) (S:St ms w0 (lits ids ids bl++aC ch R) w) (h:br C n f args bl ch K):
 aV C.P f (aH ids args).toArray w λv w'=>∃x more bl' ch',v=den (ids++more) x/\(ids++more).length=bl'.length/\St ms w0 (lits (ids++more) (ids++more) bl'++aC ch' R) w'/\K x bl' ch':=by
 unfold br at h;split at h
 ·rename_i fn hf;split at h
  ·rename_i c hb;exact aae (sound hT hQ n) hf hb hg hl S h
  ·exact h.elim
 ·exact h.elim
end
structure bR (G:Type) where
 f:fL
 q:Bool
 c:dc G
def rR:List (bR G)->fL->Option (dc G)
 |[],_=>none
 |e::l,f=>bif az e.f f then some e.c else rR l f
def uV:List (bR G)->fL->Bool
 |[],_=>false
 |e::l,f=>bif az e.f f then e.q else uV l f
def bZ (P:aL) (gl:Nat->Option Nat) (L:List (bR G)):Ctx G:=⟨P,rR L,gl,uV L,K4,QP,λ_ _=>none⟩
def ia (c:dc G):Prop:=∀args bl ch K,c args bl ch K->c args bl ch λv bl' ch'=>K v bl' ch'/\∃e,bl'=bl++e
def uW (P:aL) (gl:Nat->Option Nat) (e:bR G):Prop:=Sound P gl e.f e.c/\(e.q=true->ia e.c)
def aI (P:aL) (gl:Nat->Option Nat) (L:List (bR G)):Prop:=∀e∈L,uW P gl e
theorem aI.nil {P:aL} {gl:Nat->Option Nat}:aI (G:=G) P gl []:=λe h=>nomatch h
theorem aI.cons {P:aL} {gl:Nat->Option Nat} {e:bR G} {L:List (bR G)} (h:uW P gl e) (k:aI P gl L):aI P gl (e::L):=λx hx=>by
 rcases cn.1 hx with rfl|hx
 ·exact h
 ·exact k x hx
theorem aI.app {P:aL} {gl:Nat->Option Nat} {L M:List (bR G)} (h:aI P gl L) (k:aI P gl M):aI P gl (L++M):=λx hx=>by
 rcases fc.1 hx with hx|hx
 ·exact h x hx
 ·exact k x hx
theorem aI.T {P:aL} {gl:Nat->Option Nat} {L:List (bR G)} (h:aI P gl L):∀f c,(bZ P gl L).T f=some c->Sound (bZ P gl L).P (bZ P gl L).gl f c:=by
 intro f c hc;replace hc:rR L f=some c:=hc;show Sound P gl f c;induction L with
 |nil=>cases hc
 |cons e L ih=>
  unfold rR at hc;cases hb:az e.f f with
  |true=>
   rw[hb]at hc;obtain rfl:e.c=c:=by simpa using hc
   obtain rfl:=cz hb;exact(h e (by simp)).1
  |false=>
   rw[hb]at hc;exact ih (λx hx=>h x (by simp[hx])) hc
theorem aI.Q {P:aL} {gl:Nat->Option Nat} {L:List (bR G)} (h:aI P gl L):ql (bZ P gl L):=by
 intro f hf;replace hf:uV L f=true:=hf;show∃c,rR L f=some c/\_;induction L with
 |nil=>cases hf
 |cons e L ih=>
  unfold uV at hf;unfold rR;cases hb:az e.f f with
  |true=>
   rw[hb]at hf;exact⟨e.c,rfl,(h e (by simp)).2 (by simpa using hf)⟩
  |false=>
   rw[hb]at hf;exact ih (λx hx=>h x (by simp[hx])) hf
def qC (F:List V->List VB->Option (Prop×V)):dc G:=λargs bl ch K=>match F args bl with
 |some (p,v)=>p/\K v bl ch
 |none=>False
theorem Ll (F:List V->List VB->Option (Prop×V)):ia (G:=G) (qC F):=by
 intro args bl ch K h;unfold qC at h⊢;split at h
 ·exact⟨h.1,h.2,[],by simp⟩
 ·exact h
def Mem (ids:List Nat) (bl:List VB) (w:ag):Prop:=ids.length=bl.length/\∀(i:Nat) (b:VB),bl[i]?=some b->w.heap[ids.getD i 0]?=some (.cells (ai ids b.c).toArray b.ty.t b.ty.fz)
structure QF where
 f:fL
 F:List V->List VB->Option (Prop×V)
def QF.Ok (P:aL) (gl:Nat->Option Nat) (q:QF):Prop:=∀args bl p v,q.F args bl=some (p,v)->p->∀ids w,Gl gl ids->Mem ids bl w->aV P q.f (aH ids args).toArray w λx w'=>x=den ids v/\Ch [] w w'
theorem Lm {P:aL} {gl:Nat->Option Nat} {q:QF} (h:q.Ok P gl):Sound P gl q.f (qC (G:=G) q.F):=by
 intro args ids bl ch R ms w0 w K hg hl S hc;unfold qC at hc;split at hc
 ·rename_i p v hF;refine(h args bl p v hF hc.1 ids w hg ⟨hl,λi b hb=>(fV hl S hb).2⟩).mono ?_;rintro x w' ⟨rfl,cB⟩;exact⟨v,[],bl,ch,by simp,by simpa using hl,by simpa using S.quiet cB,hc.2⟩
 ·exact hc.elim
def qE (G:Type) [Bl G] (q:QF):bR G:=⟨q.f,true,qC q.F⟩
def qL (G:Type) [Bl G]:List QF->List (bR G)
 |[]=>[]
 |q::l=>qE G q::qL G l
def bO (P:aL) (gl:Nat->Option Nat) (L:List QF):Prop:=∀q∈L,QF.Ok P gl q
theorem kj {P:aL} {gl:Nat->Option Nat}:∀{L:List QF},bO P gl L->aI (G:=G) P gl (qL G L)
 |[],_=>aI.nil
 |q::l,h=>aI.cons ⟨Lm (h q (by simp)),λ_=>Ll q.F⟩ (kj λx hx=>h x (by simp[hx]))
theorem bO.nil {P:aL} {gl:Nat->Option Nat}:bO P gl []:=λe h=>nomatch h
theorem bO.cons {P:aL} {gl:Nat->Option Nat} {e:QF} {L:List QF} (h:e.Ok P gl) (k:bO P gl L):bO P gl (e::L):=λx hx=>by
 rcases cn.1 hx with rfl|hx
 ·exact h
 ·exact k x hx
theorem bO.app {P:aL} {gl:Nat->Option Nat} {L M:List QF} (h:bO P gl L) (k:bO P gl M):bO P gl (L++M):=λx hx=>by
 rcases fc.1 hx with hx|hx
 ·exact h x hx
 ·exact k x hx
instance:Bl Empty:=⟨λ_=>[]⟩
def dX (P:aL) (L:List QF) (n:Nat) (f:fL) (args:List V) (X:V->Prop):Prop:=br (bZ P (λ_=>none) (qL Empty L)) n f args [] [] λv _ _=>X v
theorem Gl.none {ids:List Nat}:Gl (λ_=>none) ids:=λg i h=>nomatch h
theorem zf {P:aL} {L:List QF} (hL:bO P (λ_=>none) L) (n:Nat) {f:Nat} {args:List V} {v:V} (h:dX P L n f args (·=v)) (ha:bo 0 args=true) (hv:cR 0 v=true) (ids:List Nat) (w:ag):
 aV P f (aH ids args).toArray w λx w'=>x=den ids v/\Ch [] w w':=by
 have e1:aH ids args=aH [] args:=by have:=n_ (ids:=[]) (more:=ids) args ha;simpa using this
 have e2:∀is,den is v=den [] v:=λis=>by have:=gf (ids:=[]) (more:=is) v hv;simpa using this
 rw[e1];refine(eO (kj hL).T (kj hL).Q n (C:=bZ P (λ_=>none) (qL Empty L)) (ids:=[]) (bl:=[]) (ch:=[]) (R:=[]) (ms:=[]) (w0:=w) (w:=w) Gl.none rfl (St.nil [] w) h).mono ?_;rintro x w' ⟨y,more,bl',ch',rfl,h1,S,rfl⟩;exact⟨by rw[e2 ids,e2],S.ch⟩
theorem aM {b:Bool} {X Y:Prop} (h:b=true->X) (k:b=false->Y):cond b X Y:=by cases b;exact k rfl;exact h rfl
end Vx
namespace Vx
open Go Go.RowKit Go.BigFrame Sx
structure bm where
 T:aJ
 z:Nat
 os:List ae
 x:Option aQ
 n:Nat
 c:Nat
 bl:List aj
 h:fu z T os x n c bl
instance:Bl bm:=⟨λg=>g.bl⟩
def bm.v (g:bm):V:=.raw (.slice g.x g.n g.c)
def bm.nil (T z:Nat):bm:=⟨T,z,[],none,0,0,[],yH z T⟩
def tF (P:aL) (T:aJ):Option (Nat×Nat):=match P.info? T with
 |some i=>(match i.zero with
  |some v=>bif az v.cells.size i.size then some (i.size,i.bytes)else none
  |none=>none)
 |none=>none
def Ln (T z:Nat) (s:V) (m:Nat) (news:List ae) (bl:List VB) (K:VK bm):List bm->List bm->Prop
 |_,[]=>False
 |pre,g::l=>bif az g.T T then cond (az g.z z) ((s=g.v/\g.n+m<=1000000)/\∀(x:Option aQ) (c:Nat) (bk:List aj) (h:fu g.z g.T (g.os++news) x (g.n+m) c bk),K (.raw (.slice x (g.n+m) c)) bl (pre++⟨g.T,g.z,g.os++news,x,g.n+m,c,bk,h⟩::l)) False
  else Ln T z s m news bl K (pre++[g]) l
def Lo (P:aL):(bh->V)->Op->List VB->List bm->VK bm->Prop:=λe op bl ch K=>match op with
 |.call c=>(match c.callee,c.args.toList,c.argTypes.toList with
  |.builtin .append,[s,xs],[t,tx]=>(match P.underlying t,P.underlying tx with
   |some (.slice T),some (.slice _)=>(match tF P T,e xs with
    |some (z,bx),.sl i 0 m _=>(match bl[i]?with
     |some b=>cond (az (ck b.c) (m*z)&&(bo 0 b.c&&(mI b.c&&bG bx 10000000))) (Ln T z (e s) m (ai [] b.c) bl K [] ch) False
     |none=>False)
    |_,_=>False)
   |_,_=>False)
  |_,_,_=>False)
 |_=>False
theorem nt {G:Type} [Bl G] (R:List aj):∀(a b:List G),aC (a++b) R=aC a (aC b R)
 |[],b=>rfl
 |g::a,b=>by simp only[fe,aC,nt R a b]
theorem iX {G:Type} [Bl G] (R:List aj):∀(a:List G),aC a R=aC a []++R
 |[]=>rfl
 |g::a=>by simp only[aC,iX R a,bU]
theorem aag {T z:Nat} {s:V} {m:Nat} {news:List ae} {bl:List VB} {K:VK bm}:∀(ch pre:List bm),Ln T z s m news bl K pre ch->∃(l1:List bm) (g:bm) (l2:List bm),ch=l1++g::l2/\g.T=T/\g.z=z/\s=g.v/\g.n+m<=1000000/\
 ∀(x:Option aQ) (c:Nat) (bk:List aj) (h:fu g.z g.T (g.os++news) x (g.n+m) c bk),K (.raw (.slice x (g.n+m) c)) bl ((pre++l1)++⟨g.T,g.z,g.os++news,x,g.n+m,c,bk,h⟩::l2)
 |[],pre,h=>h.elim
 |g::l,pre,h=>by
  unfold Ln at h;cases hb:az g.T T with
  |true=>
   rw[hb]at h;simp only[cond_true]at h;cases hz:az g.z z with
   |false=>rw[hz]at h;exact h.elim
   |true=>
    rw[hz]at h;exact⟨[],g,l,rfl,cz hb,cz hz,h.1.1,h.1.2,by simpa using h.2⟩
  |false=>
   rw[hb]at h;obtain⟨l1,g',l2,rfl,h1,h2,h3,h4,h5⟩:=aag l _ h;refine⟨g::l1,g',l2,rfl,h1,h2,h3,h4,?_⟩;intro x c bk hh;have:=h5 x c bk hh;simpa[bU]using this
theorem aah {P:aL} {gl:Nat->Option Nat}:gv P gl (Lo P):=by
 intro e op ids bl ch R ms w0 w K ρ o hg hl S ba ho h;unfold Lo at h;split at h
 ·rename_i c;split at h
  ·rename_i s xs t tx fl cV ei;split at h
   ·rename_i T T' ht gG;split at h
    ·rename_i z bx i m cc cu gn;split at h
     ·rename_i b hb;cases hq:az (ck b.c) (m*z)&&(bo 0 b.c&&(mI b.c&&bG bx 10000000))with
      |false=>rw[hq]at h;exact h.elim
      |true=>
       rw[hq]at h;simp only[cond_true]at h;simp only[bu]at hq;obtain⟨q1,q2,q3,q4⟩:=hq;have q1:=cz q1;have q4:=dJ q4;obtain⟨l1,g,l2,rfl,rfl,rfl,hs,hn,hK⟩:=aag _ _ h;have hi:(P.info? g.T).map (λi=>(i.zero.map (·.cells.size),i.size,i.bytes))=some (some g.z,g.z,bx):=by
        unfold tF at cu;split at cu
        ·rename_i inf tH;split at cu
         ·rename_i v hv;cases qm:az v.cells.size inf.size with
          |false=>rw[qm]at cu;simp at cu
          |true=>
           rw[qm]at cu;simp only[cond_true,aY,bC]at cu;have:=cz qm;simp[tH,hv,this,cu.1,cu.2]
         ·cases cu
        ·cases cu
       have hd:ai ids b.c=ai [] b.c:=by have:=jg (ids:=[]) (more:=ids) b.c q2;simpa using this
       have aP:=(fV hl S hb).2;have hlen:(ai [] b.c).length=m*g.z:=by rw[<-q1];exact kY b.c
       have gd:Src P g.z tx (.slice (some ⟨ids.getD i 0,0,none⟩) m cc) m (ai [] b.c) w:=by
        refine sW w gG ⟨ids.getD i 0,0,none⟩ m cc _ hlen (λj u hj=>?_) (λu hu=>Bc q3 u hu);rw[iS,cell_of aP,hd];simpa using hj
       have e1:lits ids ids bl++aC (l1++g::l2) R=(lits ids ids bl++aC l1 [])++(g.bl++aC l2 R):=by
        rw[nt,iX (aC (g::l2) R) l1];simp only[aC,bU];rfl
       rw[e1]at S;have mM:(g.n+m)*bx<=140737488355328:=hY (Nat.mul_le_mul hn q4) (by decide);obtain⟨v,w',bQ,hc,x',c',bl',rfl,fZ,nu⟩:=Dq (P:=P) (ty:=o.type) g.h (λy hy=>S.at' (by simp[hy])) bx gd ht hi mM (hY hn (by decide));have S2:=S.uE g.h.wr hc (λy hy=>(nu y hy).1) (λy hy=>(nu y hy).2) fZ.pw;refine⟨_,[],bl,_,w',.inl ?_,by simpa using hl,?_,hK x' c' bl' fZ⟩
       ·obtain⟨oe,ar,iO⟩:=c;simp only at fl cV ei;have e2:ar=#[s,xs]:=by rw[<-cV]
        have e3:iO=#[t,tx]:=by rw[<-ei]
        subst fl e2 e3;have:=j_ (P:=P) (ρ:=ρ) (o:=o) ho (sv:=.slice g.x g.n g.c) (xv:=.slice (some ⟨ids.getD i 0,0,none⟩) m cc) (by rw[ba,hs];simp only[bm.v,den]) (by rw[ba,gn];simp only[den]) bQ;simpa[den]using this
       ·rw[cH];have e4:lits ids ids bl++aC (([]++l1)++⟨g.T,g.z,g.os++ai [] b.c,x',g.n+m,c',bl',fZ⟩::l2) R=(lits ids ids bl++aC l1 [])++(bl'++aC l2 R):=by
         rw[fi,nt,iX (aC (_::l2) R) l1];simp only[aC,bU];rfl
        rw[e4];exact S2
     ·exact h.elim
    ·exact h.elim
   ·exact h.elim
  ·exact h.elim
 ·exact h.elim
def l7 (P:aL) (gl:Nat->Option Nat) (L:List (bR bm)):Ctx bm:=⟨P,rR L,gl,uV L,Lo P,aah,λ_ _=>none⟩
theorem aI.TR {P:aL} {gl:Nat->Option Nat} {L:List (bR bm)} (h:aI P gl L):∀f c,(l7 P gl L).T f=some c->Sound (l7 P gl L).P (l7 P gl L).gl f c:=h.T
theorem aI.QR {P:aL} {gl:Nat->Option Nat} {L:List (bR bm)} (h:aI P gl L):ql (l7 P gl L):=h.Q
theorem air {P:aL} {w:ag} {z T n c m b:Nat} {olds tail news:List ae} (hlen:olds.length=n*z) (pZ:(olds++tail).length=c*z) (jV:n<=c) (aP:w.heap[b]?=some (.cells (olds++tail).toArray T (0,0)))
 {t tx ty:aJ} {xv:ae} (bytes:Nat) (hs:Src P z tx xv m news w) (lB:0<m) (ht:P.underlying t=some (.slice T)) (hi:(P.info? T).map (λi=>(i.zero.map (·.cells.size),i.size,i.bytes))=some (some z,z,bytes))
 (hb:(n+m)*bytes<=140737488355328) (h63:n+m<=maxLen):
 (∃w',(nU #[t,tx] ty #[.slice (some ⟨b,0,none⟩) n c,xv]).run P w=.ok (.slice (some ⟨b,0,none⟩) (n+m) c) w'/\Ch [b] w w'/\w'.heap[b]?=some (.cells ((olds++news)++tail.drop news.length).toArray T (0,0))/\n+m<=c)\/
 (∃b' c' zg w',(nU #[t,tx] ty #[.slice (some ⟨b,0,none⟩) n c,xv]).run P w=.ok (.slice (some ⟨b',0,none⟩) (n+m) c') w'/\Ch [] w w'/\w.heap.size<=b'/\w'.heap[b']?=some (.cells ((olds++news)++zg).toArray T (0,0))/\
  ((olds++news)++zg).length=c'*z/\n+m<=c'):=by
 obtain⟨i,cu,hi⟩:=im.1 hi;simp only[bC]at hi;obtain⟨hz,dM,iK⟩:=hi;obtain⟨z0,lW,nY⟩:=im.1 hz;have pW:=hs.newsLen;have jA:Src P i.size tx xv m news w:=by rw[dM];exact hs
 by_cases nZ:n+m<=c
 ·left;have hbd:n*z+news.length<=(olds++tail).length:=by
   rw[pZ,pW,<-ng];exact Py _ nZ
  have fw:=run_storeCells_at (P:=P) b (n*z) T news 0 (olds++tail).toArray w aP (by simpa using hbd) hs.one;simp only[pG]at fw;have bQ:(nU #[t,tx] ty #[.slice (some ⟨b,0,none⟩) n c,xv]).run P w=.ok (.slice (some ⟨b,0,none⟩) (n+m) c) (w.setRow b ((olds++tail).take (n*z)++news++(olds++tail).drop (n*z+news.length)).toArray):=by
   rcases jA.kind with⟨e',hk⟩|hk<;>simp[nU,dI ht,dI hk,pE,typeInfo,cu,jA.len,nZ,hs.cells,iS,dM,fw,jT]
  refine⟨_,bQ,by simpa using Ch.setRow w b _,?_,nZ⟩;have:=setRow_heap w b (olds++tail).toArray ((olds++tail).take (n*z)++news++(olds++tail).drop (n*z+news.length)).toArray T (0,0) aP;rw[this];congr 3;rw[<-hlen,List.take_left,List.drop_append,List.drop_eq_nil_of_le (by omega)];simp
 ·right;have hg:c<n+m:=by omega
  have hold:(Builtin.firstCells i.size n (.slice (some ⟨b,0,none⟩) n c)).run P w.drew=.ok olds.toArray w.drew:=by
   refine run_firstCells_some (P:=P) w.drew i.size n ⟨b,0,none⟩ n c olds (by rw[hlen,dM]) (λj v hj=>?_);rw[iS];have:w.drew.cell? ⟨b,0+j,none⟩=w.cell? ⟨b,j,none⟩:=by simp
   rw[this,cell_of aP];have kD:j<olds.length:=by
    rcases cZ j olds.length with h|h
    ·exact h
    ·simp[h]at hj
   simp[iq kD,hj]
  have bQ:=run_append_grow_src (P:=P) w t tx ty T i z0 ht cu lW (some ⟨b,0,none⟩) n c olds hold xv m news jA hg (by simp only[maxLen]at h63;omega) (by rw[iK];exact growslice_fits hg hb);have eG:=grownCap_ge w (n+m) c T;refine⟨w.heap.size,grownCap w (n+m) c T,(oQ z0.cells (grownCap w (n+m) c T-(n+m))).toList,_,bQ,?_,dH _,?_,?_,eG⟩
  ·exact((Ch.refl [] w).drew).trans (Ch.alloc [] w.drew _) (λx hx=>.inl hx)
  ·have:=nT w.drew (.cells ((olds++news).toArray++oQ z0.cells (grownCap w (n+m) c T-(n+m))) T);refine Eq.trans this ?_;congr 2;apply fM;simp
  ·rw[ft,ft,hlen,pW,Array.length_toList,size_zeroCells,nY,<-ng,<-ng];congr 1;omega
variable{G:Type} [Bl G]
def Lq (P:aL):(bh->V)->Op->List VB->List G->VK G->Prop:=λe op bl ch K=>match op with
 |.call c=>(match c.callee,c.args.toList,c.argTypes.toList with
  |.builtin .append,[s,xs],[t,tx]=>(match P.underlying t,P.underlying tx with
   |some (.slice T),some (.slice _)=>(match tF P T,e s,e xs with
    |some (z,bx),.sl j 0 n c,.sl i 0 (m+1) _=>(match bl[j]?,bl[i]?with
     |some ⟨wr,⟨Ta,(0,0)⟩,ac⟩,some b=>(match yN ac 0 (n*z)with
      |some C=>cond (az Ta T&&(wr&&(az (ck b.c) ((m+1)*z)&&(mI b.c&&(bG bx 10000000&&(bG (n+(m+1)) 1000000&&(bo bl.length C&&(bo bl.length b.c&&bM bl.length bl))))))))
       ((n<=c/\ck ac=c*z)/\(∀(c':Nat) (u:List ae),n+(m+1)<=c'->ck (C++(b.c++[.rest u]))=c'*z->K (.sl j 0 (n+(m+1)) c') (bl.set j ⟨true,T,C++(b.c++[.rest u])⟩) ch)/\
         (∀(c':Nat) (u:List ae),n+(m+1)<=c'->ck (C++(b.c++[.rest u]))=c'*z->K (.sl bl.length 0 (n+(m+1)) c') (bl++[⟨true,T,C++(b.c++[.rest u])⟩]) ch)) False
      |none=>False)
     |_,_=>False)
    |_,_,_=>False)
   |_,_=>False)
  |_,_,_=>False)
 |_=>False
theorem GO {P:aL} {T z bx:Nat} (cu:tF P T=some (z,bx)):(P.info? T).map (λi=>(i.zero.map (·.cells.size),i.size,i.bytes))=some (some z,z,bx):=by
 unfold tF at cu;split at cu
 ·rename_i inf tH;split at cu
  ·rename_i v hv;cases qm:az v.cells.size inf.size with
   |false=>rw[qm]at cu;simp at cu
   |true=>
    rw[qm]at cu;simp only[cond_true,aY,bC]at cu;have:=cz qm;simp[tH,hv,this,cu.1,cu.2]
  ·cases cu
 ·cases cu
theorem aai {P:aL} {gl:Nat->Option Nat}:gv (G:=G) P gl (Lq P):=by
 intro e op ids bl ch R ms w0 w K ρ o hg hl S ba ho h;unfold Lq at h;split at h
 ·rename_i c;split at h
  ·rename_i s xs t tx fl cV ei;split at h
   ·rename_i T T' ht gG;split at h
    ·rename_i z bx j n cc i m nv cu gV gn;split at h
     ·rename_i wr Ta ac b ha hb;split at h
      ·rename_i C hC;cases hq:az Ta T&&(wr&&(az (ck b.c) ((m+1)*z)&&(mI b.c&&(bG bx 10000000&&(bG (n+(m+1)) 1000000&&(bo bl.length C&&(bo bl.length b.c&&bM bl.length bl)))))))with
       |false=>rw[hq]at h;exact h.elim
       |true=>
        rw[hq]at h;simp only[cond_true]at h;simp only[bu]at hq;obtain⟨q1,q2,q3,q4,q5,q6,q8,q9,GP⟩:=hq;have q1:=cz q1;have q3:=cz q3;have q5:=dJ q5;have q6:=dJ q6;obtain⟨⟨q7,dM⟩,nj,Qf⟩:=h;subst q1 q2;have aP:=(fV hl S hb).2;obtain⟨hj,Rx⟩:=fV hl S ha;obtain⟨g1,g2,g3⟩:=yO (ids:=ids) hC;rw[List.drop_zero]at g1;have wN:(ai ids b.c).length=(m+1)*z:=by rw[kY,q3]
        have gd:Src P z tx (.slice (some ⟨ids.getD i 0,0,none⟩) (m+1) nv) (m+1) (ai ids b.c) w:=by
         refine sW w gG ⟨ids.getD i 0,0,none⟩ (m+1) nv _ wN (λj u hj=>?_) (λu hu=>Bc q4 u hu);rw[iS,cell_of aP];simpa using hj
        have pZ:(ai ids C++(ai ids ac).drop (n*z)).length=cc*z:=by
         rw[<-g1,jS,kY,dM]
        have Ry:w.heap[ids.getD j 0]?=some (.cells (ai ids C++(ai ids ac).drop (n*z)).toArray Ta (0,0)):=by
         rw[<-g1,jS];exact Rx
        have mM:(n+(m+1))*bx<=140737488355328:=hY (Nat.mul_le_mul q6 q5) (by decide);have dd:∀(is:List Nat) (u:List ae),ai is (C++(b.c++[.rest u]))=(ai is C++ai is b.c)++u:=λis u=>by
         rw[iV,iV];simp[ai,cl]
        have sz:∀(is:List Nat) (u:List ae) (c':Nat),((ai is C++ai is b.c)++u).length=c'*z->ck (C++(b.c++[.rest u]))=c'*z:=λis u c' hh=>by
         rw[<-kY (ids:=is),dd,hh]
        obtain⟨oe,ar,iO⟩:=c;simp only at fl cV ei;have e2:ar=#[s,xs]:=by rw[<-cV]
        have e3:iO=#[t,tx]:=by rw[<-ei]
        subst fl e2 e3;have run:∀{v w'},(nU #[t,tx] o.type #[.slice (some ⟨ids.getD j 0,0,none⟩) n cc,.slice (some ⟨ids.getD i 0,0,none⟩) (m+1) nv]).run P w=.ok v w'->(execOp ρ o).run P w=.ok (.value v) w':=λbQ=>
         j_ (P:=P) (ρ:=ρ) (o:=o) ho (by rw[ba,gV];simp only[den]) (by rw[ba,gn];simp only[den]) bQ
        rcases air (P:=P) (ty:=o.type) g2 pZ q7 Ry bx gd (Nat.succ_pos m) ht (GO cu) mM (hY q6 (by decide))with⟨w',bQ,hc,hh,nZ⟩|⟨b',c',zg,w',bQ,hc,ais,hh,ait,nZ⟩
        ·refine⟨_,[],_,ch,w',.inl ?_,by simpa using hl,?_,nj cc (((ai ids ac).drop (n*z)).drop (ai ids b.c).length) nZ (sz ids _ _ ?_)⟩
         ·have:=run bQ;simpa[den]using this
         ·simp only[cH];have fw:=S.step hj rfl hc hh;have kD:j<(lits ids ids bl).length:=by rw[yR ids bl hl];rcases cZ j bl.length with h'|h';exact h';simp[h']at ha
          rw[<-yS (ids:=ids) ids bl j _ hl,<-List.set_append_left _ _ kD];simp only[aD,dd];exact fw
         ·rw[<-pZ];simp only[ft,List.length_drop];have:(ai ids C).length+(ai ids b.c).length<=(ai ids C++(ai ids ac).drop (n*z)).length:=by
           rw[pZ,g2,wN,<-ng];exact Py _ nZ
          simp only[ft,List.length_drop]at this;omega
        ·have GQ:bo ids.length (C++(b.c++[.rest zg]))=true:=by
          rw[hl];have D0:∀(x y:List V),bo bl.length x=true->bo bl.length y=true->bo bl.length (x++y)=true:=by
           intro x y;induction x with
           |nil=>intro _ h;simpa using h
           |cons v x ih=>intro h1 h2;simp only[fe,bo,bu]at h1⊢;exact⟨h1.1,ih h1.2 h2⟩
          exact D0 _ _ q8 (D0 _ _ q9 rfl)
         refine⟨_,[b'],_,ch,w',.inl ?_,by simp[hl],?_,Qf c' zg nZ (sz ids _ _ ait)⟩
         ·have:=run bQ;rw[this];simp only[den];rw[<-hl,kZ]
         ·rw[fC _ _ _ _ hl,fD _ _ (by rw[hl];exact GP)];simp only[lits,aD];rw[jg _ GQ,dd];have:=S.new hc ais hh;refine this.perm ?_;rw[bU (lits ids ids bl)];exact(jU).symm
      ·exact h.elim
     ·exact h.elim
    ·exact h.elim
   ·exact h.elim
  ·exact h.elim
 ·exact h.elim
def rS (P:aL) (gl:Nat->Option Nat) (L:List (bR G)):Ctx G:=⟨P,rR L,gl,uV L,Lq P,aai,λ_ _=>none⟩
theorem aI.TS {P:aL} {gl:Nat->Option Nat} {L:List (bR G)} (h:aI P gl L):∀f c,(rS P gl L).T f=some c->Sound (rS P gl L).P (rS P gl L).gl f c:=h.T
theorem aI.QS {P:aL} {gl:Nat->Option Nat} {L:List (bR G)} (h:aI P gl L):ql (rS P gl L):=h.Q
end Vx
namespace Vx
open Go Go.RowKit Go.BigFrame Sx
def wO (i:Nat):List Nat->Nat->Option Nat
 |[],_=>none
 |j::l,k=>bif az j i then some k else wO i l (k+1)
def vbz:VB:=⟨false,⟨0,(0,0)⟩,[]⟩
mutual
def Lr:V->List Nat
 |.ptr i _=>[i]
 |.sl i _ _ _=>[i]
 |.gp i _ _ _ _=>[i]
 |.pe i _ _ _ _=>[i]
 |.fn _ a b=>D4 a++D4 b
 |.mH _ v=>Lr v
 |.agg l=>D4 l
 |.av l=>D4 l
 |_=>[]
def D4:List V->List Nat
 |[]=>[]
 |v::l=>Lr v++D4 l
end
mutual
def qn (dB:List Nat):V->Option V
 |.ptr i off=>match wO i dB 0 with|some k=>some (.ptr k off)|none=>none
 |.sl i off n c=>match wO i dB 0 with|some k=>some (.sl k off n c)|none=>none
 |.gp i off n c x=>match wO i dB 0 with|some k=>some (.gp k off n c x)|none=>none
 |.pe i o j z q=>match wO i dB 0 with|some k=>some (.pe k o j z q)|none=>none
 |.fn f a b=>match uX dB a,uX dB b with|some a',some b'=>some (.fn f a' b')|_,_=>none
 |.mH t v=>match qn dB v with|some v'=>some (.mH t v')|none=>none
 |.agg l=>match uX dB l with|some l'=>some (.agg l')|none=>none
 |.av l=>match uX dB l with|some l'=>some (.av l')|none=>none
 |v=>some v
def uX (dB:List Nat):List V->Option (List V)
 |[]=>some []
 |v::l=>match qn dB v,uX dB l with|some v',some l'=>some (v'::l')|_,_=>none
end
def Ls (bl:List VB) (dB:List Nat):List Nat->Option (List VB)
 |[]=>some []
 |i::is=>match bl[i]?with
  |some b=>(match uX dB b.c,Ls bl dB is with
   |some c,some l=>some (⟨b.wr,b.ty,c⟩::l)
   |_,_=>none)
  |none=>none
def GR (dB:List Nat):List Nat->List Nat
 |[]=>dB
 |i::l=>match wO i dB 0 with|some _=>GR dB l|none=>GR (dB++[i]) l
def Rz (bl:List VB):Nat->Nat->List Nat->List Nat
 |0,_,dB=>dB
 |n+1,k,dB=>match dB[k]?with
  |some i=>(match bl[i]?with
   |some b=>Rz bl n (k+1) (GR dB (D4 b.c))
   |none=>dB)
  |none=>dB
def zh:Nat->List Nat
 |0=>[]
 |n+1=>zh n++[n]
def GS (n0:Nat) (v:V) (bl:List VB) (dB:List Nat):Option (V×List VB):=bif DK dB&&GU (zh n0) dB then(match qn dB v,Ls bl dB dB with|some v',some bl'=>some (v',bl')|_,_=>none)else none
where GU:List Nat->List Nat->Bool
 |[],_=>true
 |i::a,j::b=>az i j&&GU a b
 |_::_,[]=>false
def bA {G:Type} (n0:Nat) (K:VK G):VK G:=λv bl ch=>match GS n0 v bl (Rz bl bl.length 0 (GR (zh n0) (Lr v)))with
 |some (v',bl')=>K v' bl' ch
 |none=>False
theorem aaj {i:Nat}:∀{l:List Nat} {k m:Nat},wO i l k=some m->k<=m/\l[m-k]?=some i
 |[],k,m,h=>by cases h
 |j::l,k,m,h=>by
  unfold wO at h;cases hb:az j i with
  |true=>
   rw[hb]at h;obtain rfl:k=m:=by simpa using h
   exact⟨dH _,by simp[cz hb]⟩
  |false=>
   rw[hb]at h;obtain⟨h1,h2⟩:=aaj (l:=l) h;refine⟨by omega,?_⟩;rw[show m-k=(m-(k+1))+1 by omega];simpa using h2
theorem Lt {ids dB:List Nat} {i k:Nat} (h:wO i dB 0=some k):(dB.map λj=>ids.getD j 0).getD k 0=ids.getD i 0:=by
 have:=(aaj h).2;simp only[Nat.sub_zero]at this;simp[ir,this]
mutual
theorem Lu {ids dB:List Nat}:∀(v:V) {v':V},qn dB v=some v'->den (dB.map λj=>ids.getD j 0) v'=den ids v
 |.ptr i off,v',h=>by
  simp only[qn]at h;split at h
  ·rename_i k hk;cases h;simp only[den,Lt hk]
  ·cases h
 |.sl i off n c,v',h=>by
  simp only[qn]at h;split at h
  ·rename_i k hk;cases h;simp only[den,Lt hk]
  ·cases h
 |.gp i off n c x,v',h=>by
  simp only[qn]at h;split at h
  ·rename_i k hk;cases h;simp only[den,Lt hk]
  ·cases h
 |.fn f a b,v',h=>by
  simp only[qn]at h;split at h
  ·rename_i a' b' ha hb;cases h;simp only[den,Lv a ha,Lv b hb]
  ·cases h
 |.mH t v,v',h=>by
  simp only[qn]at h;split at h
  ·rename_i u hu;cases h;simp only[den,Lu v hu]
  ·cases h
 |.agg l,v',h=>by
  simp only[qn]at h;split at h
  ·rename_i u hu;cases h;simp only[den,RA l hu]
  ·cases h
 |.av l,v',h=>by
  simp only[qn]at h;split at h
  ·rename_i u hu;cases h;simp only[den,Lv l hu]
  ·cases h
 |.int _ _,v',h=>by cases h;simp[den]
 |.bool _,v',h=>by cases h;simp[den]
 |.bS _ _ _,v',h=>by cases h;simp[den]
 |.arr _ _ _,v',h=>by cases h;simp[den]
 |.dz _ _ _ _,v',h=>by cases h;simp[den]
 |.rest _,v',h=>by cases h;simp[den]
 |.fP _ _ _,v',h=>by cases h;simp[den]
 |.pe i o j z q,v',h=>by
  simp only[qn]at h;split at h
  ·rename_i k hk;cases h;simp only[den,Lt hk]
  ·cases h
 |.raw _,v',h=>by cases h;simp[den]
theorem Lv {ids dB:List Nat}:∀(l:List V) {l':List V},uX dB l=some l'->aH (dB.map λj=>ids.getD j 0) l'=aH ids l
 |[],l',h=>by cases h;rfl
 |v::l,l',h=>by
  simp only[uX]at h;split at h
  ·rename_i v1 l1 hv hl;cases h;simp only[aH,Lu v hv,Lv l hl]
  ·cases h
theorem RA {ids dB:List Nat}:∀(l:List V) {l':List V},uX dB l=some l'->ai (dB.map λj=>ids.getD j 0) l'=ai ids l
 |[],l',h=>by cases h;rfl
 |v::l,l',h=>by
  simp only[uX]at h;split at h
  ·rename_i v1 l1 hv hl;cases h;simp only[ai,Lu v hv,RA l hl];congr 1;cases v<;>simp only[qn]at hv<;>(try split at hv)<;>first|(cases hv;rfl)|(cases hv;done)
  ·cases h
end
theorem aak {ids dB:List Nat} {bl:List VB} (hl:ids.length=bl.length):∀(is:List Nat) {bl':List VB},Ls bl dB is=some bl'->(is.map λj=>ids.getD j 0).length=bl'.length/\
 lits (dB.map λj=>ids.getD j 0) (is.map λj=>ids.getD j 0) bl'=(is.map λj=>aD ids (ids.getD j 0) (bl.getD j vbz))/\∀j∈is,j<bl.length
 |[],bl',h=>by cases h;simp[lits]
 |i::is,bl',h=>by
  unfold Ls at h;split at h
  ·rename_i b hb;split at h
   ·rename_i c l hc hL;cases h;obtain⟨h1,h2,h3⟩:=aak hl is hL;have dL:i<bl.length:=by rcases cZ i bl.length with h'|h';exact h';simp[h']at hb
    refine⟨by simpa using h1,?_,?_⟩
    ·simp only[eF,lits,h2];congr 1;simp only[aD,RA _ hc];simp[ir,hb]
    ·intro j hj;rcases cn.1 hj with rfl|hj
     ·exact dL
     ·exact h3 j hj
   ·cases h
  ·cases h
theorem aal (ids:List Nat):∀(is:List Nat) (bl:List VB),is.length=bl.length->lits ids is bl=(bw bl.length).map λj=>aD ids (is.getD j 0) (bl.getD j vbz)
 |[],[],_=>rfl
 |i::is,b::bl,h=>by
  rw[h_,vU,eF,lQ];simp only[lits];rw[aal ids is bl (by simpa using h)];rfl
theorem aam:∀{a b:List Nat},GS.GU a b=true->∃c,b=a++c
 |[],b,_=>⟨b,rfl⟩
 |i::a,j::b,h=>by
  simp only[GS.GU,bu]at h;obtain⟨c,rfl⟩:=aam h.2;exact⟨c,by simp[cz h.1]⟩
 |_::_,[],h=>by cases h
theorem aan (ids:List Nat):∀n,n<=ids.length->(zh n).map (λj=>ids.getD j 0)=ids.take n
 |0,_=>by simp[zh]
 |n+1,h=>by
  simp only[zh,rk,eF,s8,aan ids n (by omega)];rw[List.take_add_one];congr 1;have:n<ids.length:=by omega
  simp[ir,jv this]
theorem iB {G:Type} {n0:Nat} {K:VK G} {v:V} {bl:List VB} {ch:List G} {ids:List Nat} {X:List aj} {ms:List Nat} {w0 w:ag} (hl:ids.length=bl.length) (hn:n0<=ids.length) (S:St ms w0 (lits ids ids bl++X) w) (h:bA n0 K v bl ch):
 ∃v' more bl',den ids v=den (ids.take n0++more) v'/\(ids.take n0++more).length=bl'.length/\St ms w0 (lits (ids.take n0++more) (ids.take n0++more) bl'++X) w/\K v' bl' ch:=by
 unfold bA at h;generalize Rz bl bl.length 0 (GR (zh n0) (Lr v))=dB at h;unfold GS at h;cases hq:DK dB&&GS.GU (zh n0) dB with
 |false=>rw[hq]at h;exact h.elim
 |true=>
  rw[hq]at h;simp only[cond_true]at h;simp only[bu]at hq;have tB:=Q6 hq.1;obtain⟨c,hc⟩:=aam hq.2;split at h
  ·rename_i v' bl' hv;split at hv
   ·rename_i v1 km uG mM;cases hv;obtain⟨h1,h2,h3⟩:=aak hl dB mM;have e:dB.map (λj=>ids.getD j 0)=ids.take n0++c.map λj=>ids.getD j 0:=by
     rw[hc,rk,aan ids n0 hn]
    refine⟨_,c.map λj=>ids.getD j 0,_,?_,?_,?_,h⟩
    ·rw[<-e];exact(Lu v uG).symm
    ·rw[<-e];exact h1
    ·rw[<-e,h2];obtain⟨r,hr⟩:=F_ dB (bw bl.length) tB (λx hx=>List.mem_range.2 (h3 x hx));rw[aal ids ids bl hl]at S;have S1:=S.perm ((hr.map _).append_right X);rw[rk]at S1;exact S1.sub (agN (List.sublist_append_left _ _) _)
   ·cases hv
  ·exact h.elim
theorem aiu {P:aL} {w:ag} {b:Nat} {kd:fq} {l:List (Int×ae)} {kv:Int} {vv:ae} {mt kt et:aJ} (hu:P.underlying mt=some (.map kt et)) (hk:P.underlying kt=some (.int kd)) (aP:w.heap[b]?=some (nk kd l)) (hn:l.all (λx=>x.1!=kv)=true):
 (agO mt (.map (some b)) (.int kd kv) vv).run P w=.ok () {w with heap:=w.heap.setIfInBounds b (nk kd (l++[(kv,vv)]))}:=by
 have oX:w.heap[b]?=some (.map ((l.zipIdx.map λx=>(⟨.int kd x.1.1,x.1.2,x.2⟩:vS)).toArray) l.length):=aP;have hf:PA (.int kd) (.int kd kv) ((l.zipIdx.map λx=>(⟨.int kd x.1.1,x.1.2,x.2⟩:vS)).toArray).toList 0=some none:=Za kd kv _ 0 (ahj hn);have hc:(Instr.checkKey false 10000 kt (.int kd kv)).run P w=.ok () w:=MapKept.run_checkKey (k:=.int kd kv) hk (by simp[MapKept.IsKey]) false 9999;have aiv:(agO mt (.map (some b)) (.int kd kv) vv).run P w=.ok () {w with heap:=w.heap.setIfInBounds b (Obj.map (((l.zipIdx.map λx=>(⟨.int kd x.1.1,x.1.2,x.2⟩:vS)).toArray).push ⟨.int kd kv,vv,l.length⟩) (l.length+1))}:=by
  generalize ((l.zipIdx.map λx=>(⟨.int kd x.1.1,x.1.2,x.2⟩:vS)).toArray)=es at*;simp[agO,dI hu,MapKept.run_getObj_map oX,hc,MapKept.run_findKey hk hf,MapKept.run_setObj_map _ oX,jT]
 rw[aiv,ahi]
theorem aiw {P:aL} {w:ag} {b:Nat} {kd:fq} {l:List (Int×ae)} {kv:Int} {v:ae} {mt kt et:aJ} (hu:P.underlying mt=some (.map kt et)) (hk:P.underlying kt=some (.int kd)) (aP:w.heap[b]?=some (nk kd l))
 (hn:∃j,PA (.int kd) (.int kd kv) ((l.zipIdx.map λx=>(⟨.int kd x.1.1,x.1.2,x.2⟩:vS)).toArray).toList 0=some (some (j,v))):(Instr.lookup mt (.map (some b)) (.int kd kv) true).run P w=.ok (.tuple #[v,.bool true]) w:=by
 obtain⟨j,hf⟩:=hn;have oX:w.heap[b]?=some (.map ((l.zipIdx.map λx=>(⟨.int kd x.1.1,x.1.2,x.2⟩:vS)).toArray) l.length):=aP;have hc:∀e,(Instr.checkKey e 10000 kt (.int kd kv)).run P w=.ok () w:=λe=>MapKept.run_checkKey (k:=.int kd kv) hk (by simp[MapKept.IsKey]) e 9999;simp[Instr.lookup,dI hu,MapKept.run_getObj_map oX,hc,MapKept.run_findKey hk hf,jT]
structure zi where
 id:Nat
 tb:List (Int×ae)
instance:Bl zi:=⟨λg=>[⟨g.id,true,nk .i64 g.tb⟩]⟩
def RC (P:aL):(bh->V)->Op->List VB->List zi->VK zi->Prop:=λe op bl ch K=>match op with
 |.makeMap t none=>(match ch with
  |[]=>∀id,K (.raw (.map (some id))) bl [⟨id,[]⟩]
  |_=>False)
 |.insert mt m k x=>(match ch,e m,e k with
  |[g],.raw mv,.int .i64 kv=>(match P.underlying mt with
   |some (.map kt _)=>(match P.underlying kt with
    |some (.int .i64)=>cond (g.tb.all (λx=>x.1!=kv)&&cR 0 (e x)) (mv=.map (some g.id)/\K gu bl [⟨g.id,g.tb++[(kv,den [] (e x))]⟩]) False
    |_=>False)
   |_=>False)
  |_,_,_=>False)
 |_=>False
theorem aix {P:aL} {gl:Nat->Option Nat}:gv P gl (RC P):=by
 intro e op ids bl ch R ms w0 w K ρ o hg hl S ba ho h;unfold RC at h;split at h
 ·rename_i t;split at h
  ·refine⟨_,[],bl,_,w.alloc (.map #[] 0),.inl ?_,by simpa using hl,?_,h w.heap.size⟩
   ·unfold execOp;simp[ho,run_makeMap,jT,den]
   ·have:=S.new (Ch.alloc [] w (.map #[] 0)) (dH _) (nT w _);rw[cH];refine this.perm ?_;exact jU.symm
  ·exact h.elim
 ·rename_i mt m k x;split at h
  ·rename_i g mv kv hm hk;split at h
   ·rename_i kt et hu;split at h
    ·rename_i RD;cases hq:g.tb.all (λx=>x.1!=kv)&&cR 0 (e x)with
     |false=>rw[hq]at h;exact h.elim
     |true=>
      rw[hq]at h;simp only[cond_true]at h;simp only[bu]at hq;obtain⟨rfl,hK⟩:=h;have e0:lits ids ids bl++aC [g] R=lits ids ids bl++(⟨g.id,true,nk .i64 g.tb⟩::R):=rfl;rw[e0]at S;have aP:=S.at' (x:=⟨g.id,true,nk .i64 g.tb⟩) (by simp);have hx:den ids (e x)=den [] (e x):=by have:=gf (ids:=[]) (more:=ids) (e x) hq.2;simpa using this
      have bQ:=aiu (P:=P) (vv:=den ids (e x)) hu RD aP hq.1;refine⟨gu,[],bl,_,{w with heap:=w.heap.setIfInBounds g.id (nk .i64 (g.tb++[(kv,den ids (e x))]))},.inr ⟨?_,rfl⟩,by simpa using hl,?_,hK⟩
      ·unfold execOp;simp only[ho,ba,hm,hk,den]at bQ⊢;simp only[bE,bQ,cK];rfl
      ·rw[cH,<-hx];have hi:(lits ids ids bl++(⟨g.id,true,nk .i64 g.tb⟩::R))[(lits ids ids bl).length]?=some ⟨g.id,true,nk .i64 g.tb⟩:=by simp
       have:=S.step hi rfl (Ch.ahh w g.id (nk .i64 (g.tb++[(kv,den ids (e x))]))) (MapKept.heap_set aP).1;rw[List.set_append_right _ _ (dH _),Nat.sub_self]at this;exact this
    ·exact h.elim
   ·exact h.elim
  ·exact h.elim
 ·exact h.elim
def RE (P:aL) (gl:Nat->Option Nat) (L:List (bR zi)):Ctx zi:=⟨P,rR L,gl,uV L,RC P,aix,λ_ _=>none⟩
def fW {G:Type} [Bl G] (P:aL) (gl:Nat->Option Nat) (L:List (bR G)) (h:(bh->V)->Op->List VB->List G->VK G->Prop) (hok:gv P gl h):Ctx G:=⟨P,rR L,gl,uV L,h,hok,λ_ _=>none⟩
theorem Sound.gl {G:Type} [Bl G] {P:aL} {gl GV:Nat->Option Nat} {f:Nat} {c:dc G} (h:Sound P gl f c) (hg:∀ids,Gl GV ids->Gl gl ids):Sound P GV f c:=
 λargs ids bl ch R ms w0 w K h1 h2 S hc=>h args ids bl ch R ms w0 w K (hg ids h1) h2 S hc
inductive Sm (G:Type) where
 |g (x:G)
 |m (x:zi)
instance{G:Type} [Bl G]:Bl (Sm G):=⟨λx=>match x with|.g x=>Bl.B x|.m x=>Bl.B x⟩
def gs {G:Type}:List G->List (Sm G)
 |[]=>[]
 |x::l=>.g x::gs l
theorem aao {G:Type} [Bl G] (R:List aj):∀(l:List G) (r:List (Sm G)),aC (gs l++r) R=aC l (aC r R)
 |[],r=>rfl
 |x::l,r=>by
  simp only[gs,fe,aC,aao R l r];rfl
def GW {G:Type} (c:dc G):dc (Sm G):=λargs bl ch K=>match ch with
 |.g x::rest=>c args bl [x] λv bl' ch'=>K v bl' (gs ch'++rest)
 |_=>False
theorem aiy {G:Type} [Bl G] {P:aL} {gl:Nat->Option Nat} {f:Nat} {c:dc G} (h:Sound P gl f c):Sound P gl f (GW c):=by
 intro args ids bl ch R ms w0 w K hg hl S hc;unfold GW at hc;split at hc
 ·rename_i x rest;have e:aC (.g x::rest:List (Sm G)) R=aC [x] (aC rest R):=rfl;rw[e]at S;refine(h args ids bl [x] (aC rest R) ms w0 w _ hg hl S hc).mono ?_;rintro v w' ⟨y,more,bl',ch',rfl,h1,S1,hK⟩;exact⟨y,more,bl',_,rfl,h1,by rw[aao];exact S1,hK⟩
 ·exact hc.elim
theorem aiz {G:Type} {c:dc G} (h:ia c):ia (GW c):=by
 intro args bl ch K hc;unfold GW at hc⊢;split at hc
 ·exact h _ _ _ _ hc
 ·exact hc.elim
def RF {G:Type}:List (bR G)->List (bR (Sm G))
 |[]=>[]
 |e::l=>⟨e.f,e.q,GW e.c⟩::RF l
theorem aap {G:Type} [Bl G] {P:aL} {gl GV:Nat->Option Nat} (hg:∀ids,Gl GV ids->Gl gl ids):∀{L:List (bR G)},aI P gl L->aI P GV (RF L)
 |[],_=>aI.nil
 |e::l,h=>aI.cons ⟨aiy ((h e (by simp)).1.gl hg),λhq=>aiz ((h e (by simp)).2 hq)⟩ (aap hg λx hx=>h x (by simp[hx]))
variable{G:Type} [Bl G]
def RG (P:aL):(bh->V)->Op->List VB->List G->VK G->Prop:=λe op bl ch K=>match op with
 |.call c=>(match c.callee,c.args.toList,c.argTypes.toList with
  |.builtin .append,[s,xs],[t,tx]=>(match P.underlying t,P.underlying tx with
   |some (.slice T),some (.slice _)=>(match tF P T,e s,e xs with
    |some (z,bx),.raw (.slice none 0 0),.sl i 0 (m+1) _=>(match bl[i]?with
     |some b=>cond (az (ck b.c) ((m+1)*z)&&(mI b.c&&(bG bx 10000000&&(bG (m+1) 1000000&&(bo bl.length b.c&&bM bl.length bl)))))
      (∀(c':Nat) (u:List ae),m+1<=c'->ck (b.c++[.rest u])=c'*z->K (.sl bl.length 0 (m+1) c') (bl++[⟨true,T,b.c++[.rest u]⟩]) ch) False
     |none=>False)
    |_,_,_=>False)
   |_,_=>False)
  |_,_,_=>False)
 |_=>False
theorem aiA {P:aL} {gl:Nat->Option Nat}:gv (G:=G) P gl (RG P):=by
 intro e op ids bl ch R ms w0 w K ρ o hg hl S ba ho h;unfold RG at h;split at h
 ·rename_i c;split at h
  ·rename_i s xs t tx fl cV ei;split at h
   ·rename_i T T' ht gG;split at h
    ·rename_i z bx i m nv cu gV gn;split at h
     ·rename_i b hb;cases hq:az (ck b.c) ((m+1)*z)&&(mI b.c&&(bG bx 10000000&&(bG (m+1) 1000000&&(bo bl.length b.c&&bM bl.length bl))))with
      |false=>rw[hq]at h;exact h.elim
      |true=>
       rw[hq]at h;simp only[cond_true]at h;simp only[bu]at hq;obtain⟨q3,q4,q5,q6,q9,GP⟩:=hq;have q3:=cz q3;have q5:=dJ q5;have q6:=dJ q6;have aP:=(fV hl S hb).2;have wN:(ai ids b.c).length=(m+1)*z:=by rw[kY,q3]
       have gd:Src P z tx (.slice (some ⟨ids.getD i 0,0,none⟩) (m+1) nv) (m+1) (ai ids b.c) w:=by
        refine sW w gG ⟨ids.getD i 0,0,none⟩ (m+1) nv _ wN (λj u hj=>?_) (λu hu=>Bc q4 u hu);rw[iS,cell_of aP];simpa using hj
       have mM:(0+(m+1))*bx<=140737488355328:=hY (Nat.mul_le_mul (by omega:0+(m+1)<=1000000) q5) (by decide);obtain⟨oe,ar,iO⟩:=c;simp only at fl cV ei;have e2:ar=#[s,xs]:=by rw[<-cV]
       have e3:iO=#[t,tx]:=by rw[<-ei]
       subst fl e2 e3;obtain⟨v,w',bQ,hc,x',c',bl',rfl,⟨r1,r2,r3⟩,nu⟩:=Dq (P:=P) (ty:=o.type) (yH z T) (by simp) bx gd ht (GO cu) mM (hY (by omega:0+(m+1)<=1000000) (by decide));rcases r3 with⟨_,h0,_⟩|⟨b',tail,rfl,rfl,hlen⟩
       ·omega
       ·obtain⟨hh,hid⟩:=nu _ (iH.2 rfl);have eG:w.heap.size<=b':=by
         rcases hid with⟨u,hu,_⟩|h
         ·cases hu
         ·exact h
        simp only[fi,eY]at hh hlen r2 bQ;have dd:∀(is:List Nat) (u:List ae),ai is (b.c++[.rest u])=ai is b.c++u:=λis u=>by
         rw[iV];simp[ai,cl]
        have GQ:bo ids.length (b.c++[.rest tail])=true:=by
         rw[hl];have D0:∀(x y:List V),bo bl.length x=true->bo bl.length y=true->bo bl.length (x++y)=true:=by
          intro x y;induction x with
          |nil=>intro _ h;simpa using h
          |cons v x ih=>intro h1 h2;simp only[fe,bo,bu]at h1⊢;exact⟨h1.1,ih h1.2 h2⟩
         exact D0 _ _ q9 rfl
        refine⟨_,[b'],_,ch,w',.inl ?_,by simp[hl],?_,h c' tail r2 ?_⟩
        ·have:=j_ (P:=P) (ρ:=ρ) (o:=o) ho (sv:=.slice none 0 0) (xv:=.slice (some ⟨ids.getD i 0,0,none⟩) (m+1) nv) (by rw[ba,gV];simp only[den]) (by rw[ba,gn];simp only[den]) bQ;rw[this];simp only[den];rw[<-hl,kZ]
        ·rw[fC _ _ _ _ hl,fD _ _ (by rw[hl];exact GP)];simp only[lits,aD];rw[jg _ GQ,dd];have:=S.new hc eG hh;refine this.perm ?_;rw[bU (lits ids ids bl)];exact(jU).symm
        ·rw[<-kY (ids:=ids),dd,hlen]
     ·exact h.elim
    ·exact h.elim
   ·exact h.elim
  ·exact h.elim
 ·exact h.elim
theorem wP {P:aL} {gl:Nat->Option Nat} {a b:(bh->V)->Op->List VB->List G->VK G->Prop} (t:(bh->V)->Op->Bool) (ha:gv P gl a) (hb:gv P gl b):gv P gl (λe op bl ch K=>cond (t e op) (a e op bl ch K) (b e op bl ch K)):=by
 intro e op ids bl ch R ms w0 w K ρ o hg hl S ba ho h;cases ht:t e op with
 |true=>simp only[ht]at h;exact ha e op ids bl ch R ms w0 w K ρ o hg hl S ba ho h
 |false=>simp only[ht]at h;exact hb e op ids bl ch R ms w0 w K ρ o hg hl S ba ho h
def aaq (e:bh->V) (op:Op):Bool:=match op with
 |.call c=>(match c.args.toList with
  |s::_=>(match e s with|.sl _ _ _ _=>true|_=>false)
  |_=>false)
 |_=>false
def GY (P:aL):(bh->V)->Op->List VB->List G->VK G->Prop:=λe op bl ch K=>cond (aaq e op) (Lq P e op bl ch K) (RG P e op bl ch K)
theorem Lw {P:aL} {gl:Nat->Option Nat}:gv (G:=G) P gl (GY P):=wP aaq aai aiA
end Vx
namespace Vx
open Go Sx
section
variable{ids:List Nat} {P:aL} {w:ag}
theorem RH {n:Nat} (h:n<=1000000):i64.wrap (n:Int)=n:=by simp[yr,uz,uA];omega
theorem run_mk {t el:aJ} {n z:Nat} {zc:List V} {inf:TypeInfo} {k1 k2:fq} (hu:P.underlying t=some (.slice el)) (hi:P.info? el=some inf) (hz:eS P el=some (z+1)) (h0:nq P el=some zc) (hl:ck zc=z+1) (h1:1<=n) (hn:n<=1000000) (hb:inf.bytes<=100):
 (Ys t (.int k1 (n:Int)) (.int k2 (n:Int))).run P w=.ok (.slice (some ⟨w.heap.size,0,none⟩) n n) (w.alloc (.cells (ai ids (lD zc n)).toArray el)):=by
 obtain⟨v0,z1,z2⟩:=Be (P:=P) (w:=w) (ids:=ids) h0;have hv:v0.cells.size=z+1:=by rw[<-Array.length_toList,z2,kY,hl]
 have Gu:(Array.range (n*(z+1))).map (λi=>v0.cells[i%v0.cells.size]!)=(ai ids (lD zc n)).toArray:=by
  apply fM;rw[QE v0.cells z hv,z2,Zt]
 have hm:inf.bytes*n<=100000000:=hY (Nat.mul_le_mul hb hn) (by decide);have e1:(decide ((n:Int)<0)||decide ((inf.bytes:Int)*(n:Int)>2^48))=false:=by
  have:(inf.bytes:Int)*(n:Int)<=100000000:=by
   have q:=Int.ofNat_le.2 hm;rw[Int.natCast_mul]at q;exact q
  rw[decide_eq_false (by omega),decide_eq_false (by omega)];rfl
 have e2:¬(n*inf.bytes>roomBytes):=by
  have:n*inf.bytes<=100000000:=by rw[Nat.mul_comm];exact hm
  show¬(n*inf.bytes>_);unfold roomBytes;omega
 have e3:¬n*(z+1)=0:=by
  intro h;rcases Nat.mul_eq_zero.1 h with h|h<;>omega
 simp only[Ys,bE,dI hu,cK,asInt,asIntOf,du,KV hi,RH hn,e1,Bool.false_or,askRoom,if_neg e2,Int.toNat_natCast,gX hz,if_neg e3,z1];simp only[show decide ((n:Int)<0)=false by simp,show decide ((n:Int)>(n:Int))=false by simp,Bool.or_self,Bool.false_eq_true,if_false,bE,du,cK,gX hz,if_neg e3,z1];rw[Gu];rfl
end
variable{G:Type} [Bl G]
def fG (P:aL):(bh->V)->Op->List VB->List G->VK G->Prop:=λe op bl ch K=>match op with
 |.makeSlice t l c=>(match P.underlying t,e l,e c with
  |some (.slice el),.int _ (.ofNat n),.int _ (.ofNat m)=>(match P.info? el,eS P el,nq P el with
   |some inf,some (z+1),some zc=>cond (az n m&&(az (ck zc) (z+1)&&(bG 1 n&&(bG n 1000000&&(bG inf.bytes 100&&(bM bl.length bl&&bo bl.length (lD zc n))))))) (K (.sl bl.length 0 n n) (bl++[⟨true,el,lD zc n⟩]) ch) False
   |_,_,_=>False)
  |_,_,_=>False)
 |_=>False
theorem aiB {P:aL} {gl:Nat->Option Nat}:gv (G:=G) P gl (fG P):=by
 intro e op ids bl ch R ms w0 w K ρ o hg hl S ba ho h;unfold fG at h;split at h
 ·rename_i t l c;split at h
  ·rename_i el k1 n k2 m hu nx GZ;split at h
   ·rename_i inf z zc hi hz h0;cases hq:az n m&&(az (ck zc) (z+1)&&(bG 1 n&&(bG n 1000000&&(bG inf.bytes 100&&(bM bl.length bl&&bo bl.length (lD zc n))))))with
    |false=>rw[hq]at h;exact h.elim
    |true=>
     rw[hq]at h;simp only[bu]at hq;obtain⟨q1,q2,q3,q4,q5,q6,q7⟩:=hq;obtain rfl:=cz q1;have bQ:=run_mk (ids:=ids) (w:=w) (k1:=k1) (k2:=k2) hu hi hz h0 (cz q2) (dJ q3) (dJ q4) (dJ q5);obtain⟨g1,g2⟩:=grow hl S ⟨true,el,lD zc n⟩ rfl rfl (by rw[hl];exact q6) (by rw[hl];exact q7);refine⟨_,[w.heap.size],_,ch,_,.inl ?_,g2,g1,h⟩;unfold execOp;rw[ho];simp only[ba,nx,GZ,den];have e1:db n=(n:Int):=rfl;rw[e1,bE,bQ,cK,du,<-hl,kZ]
   ·exact h.elim
  ·exact h.elim
 ·exact h.elim
def aar (e:bh->V) (op:Op):Bool:=match op with
 |.makeSlice _ _ _=>true
 |_=>false
def zj (P:aL):(bh->V)->Op->List VB->List G->VK G->Prop:=λe op bl ch K=>cond (aar e op) (fG P e op bl ch K) (GY P e op bl ch K)
theorem Bx {P:aL} {gl:Nat->Option Nat}:gv (G:=G) P gl (zj P):=wP aar aiB Lw
end Vx
namespace Vx
open Go Go.RowKit Go.BigFrame Sx
theorem aiC {P:aL} {w:ag} {z T m:Nat} {x:Option aQ} {news:List ae} {t tx ty:aJ} {xv:ae} (bytes:Nat) (hs:Src P z tx xv m news w) (lB:0<m) (ht:P.underlying t=some (.slice T))
 (hi:(P.info? T).map (λi=>(i.zero.map (·.cells.size),i.size,i.bytes))=some (some z,z,bytes)) (hb:m*bytes<=140737488355328) (h63:m<=maxLen):
 ∃b' c' zg w',(nU #[t,tx] ty #[.slice x 0 0,xv]).run P w=.ok (.slice (some ⟨b',0,none⟩) m c') w'/\Ch [] w w'/\w.heap.size<=b'/\w'.heap[b']?=some (.cells (news++zg).toArray T (0,0))/\(news++zg).length=c'*z/\m<=c':=by
 obtain⟨i,cu,hi⟩:=im.1 hi;simp only[bC]at hi;obtain⟨hz,dM,iK⟩:=hi;obtain⟨z0,lW,nY⟩:=im.1 hz;have pW:=hs.newsLen;have jA:Src P i.size tx xv m news w:=by rw[dM];exact hs
 have hold:(Builtin.firstCells i.size 0 (.slice x 0 0)).run P w.drew=.ok ([]:List ae).toArray w.drew:=by
  cases x with
  |none=>exact run_firstCells_none (P:=P) w.drew i.size 0 0 0
  |some a=>exact run_firstCells_some (P:=P) w.drew i.size 0 a 0 0 [] (by simp) (λj v hj=>by simp at hj)
 have bQ:=run_append_grow_src (P:=P) w t tx ty T i z0 ht cu lW x 0 0 [] hold xv m news jA (by omega) (by simp only[maxLen]at h63;omega) (by rw[iK];exact growslice_fits (by omega) (by rw[eY];exact hb));simp only[eY]at bQ;have eG:=grownCap_ge w m 0 T;refine⟨w.heap.size,grownCap w m 0 T,(oQ z0.cells (grownCap w m 0 T-m)).toList,_,bQ,?_,dH _,?_,?_,eG⟩
 ·exact((Ch.refl [] w).drew).trans (Ch.alloc [] w.drew _) (λx hx=>.inl hx)
 ·have:=nT w.drew (.cells ((([]:List ae)++news).toArray++oQ z0.cells (grownCap w m 0 T-m)) T);refine Eq.trans this ?_;congr 2;apply fM;simp
 ·rw[ft,pW,Array.length_toList,size_zeroCells,nY,<-ng];congr 1;omega
variable{G:Type} [Bl G]
def RI (P:aL):(bh->V)->Op->List VB->List G->VK G->Prop:=λe op bl ch K=>match op with
 |.call c=>(match c.callee,c.args.toList,c.argTypes.toList with
  |.builtin .append,[s,xs],[t,tx]=>(match P.underlying t,P.underlying tx with
   |some (.slice T),some (.slice _)=>(match tF P T,e s,e xs with
    |some (z,bx),.sl _ _ 0 0,.sl i 0 (m+1) _=>(match bl[i]?with
     |some b=>(match yN b.c 0 ((m+1)*z)with
      |some C=>cond (mI C&&(bG bx 10000000&&(bG (m+1) 1000000&&(bo bl.length C&&bM bl.length bl))))
       (∀(c':Nat) (u:List ae),m+1<=c'->ck (C++[.rest u])=c'*z->K (.sl bl.length 0 (m+1) c') (bl++[⟨true,T,C++[.rest u]⟩]) ch) False
      |none=>False)
     |none=>False)
    |_,_,_=>False)
   |_,_=>False)
  |_,_,_=>False)
 |_=>False
theorem aiD {P:aL} {gl:Nat->Option Nat}:gv (G:=G) P gl (RI P):=by
 intro e op ids bl ch R ms w0 w K ρ o hg hl S ba ho h;unfold RI at h;split at h
 ·rename_i c;split at h
  ·rename_i s xs t tx fl cV ei;split at h
   ·rename_i T T' ht gG;split at h
    ·rename_i z bx j0 o0 i m nv cu gV gn;split at h
     ·rename_i b hb;split at h
      ·rename_i C hC;cases hq:mI C&&(bG bx 10000000&&(bG (m+1) 1000000&&(bo bl.length C&&bM bl.length bl)))with
       |false=>rw[hq]at h;exact h.elim
       |true=>
        rw[hq]at h;simp only[cond_true]at h;simp only[bu]at hq;obtain⟨q4,q5,q6,q9,GP⟩:=hq;have q5:=dJ q5;have q6:=dJ q6;have aP:=(fV hl S hb).2;obtain⟨g1,g2,g3⟩:=yO (ids:=ids) hC;rw[List.drop_zero]at g1;have wN:(ai ids C).length=(m+1)*z:=by rw[<-g1,vQ];omega
        have gd:Src P z tx (.slice (some ⟨ids.getD i 0,0,none⟩) (m+1) nv) (m+1) (ai ids C) w:=by
         refine sW w gG ⟨ids.getD i 0,0,none⟩ (m+1) nv _ wN (λj u hj=>?_) (λu hu=>Bc q4 u hu);rw[iS,cell_of aP];rw[<-g1]at hj;have wb:j<(m+1)*z:=by
          rcases cZ j ((m+1)*z)with h|h
          ·exact h
          ·rw[jc (by rw[vQ];omega)]at hj;cases hj
         rw[Yt wb]at hj;simpa using hj
        have mM:(m+1)*bx<=140737488355328:=hY (Nat.mul_le_mul q6 q5) (by decide);obtain⟨oe,ar,iO⟩:=c;simp only at fl cV ei;have e2:ar=#[s,xs]:=by rw[<-cV]
        have e3:iO=#[t,tx]:=by rw[<-ei]
        subst fl e2 e3;obtain⟨b',c',tail,w',bQ,hc,eG,hh,hlen,r2⟩:=aiC (P:=P) (ty:=o.type) (x:=some ⟨ids.getD j0 0,o0,none⟩) bx gd (by omega) ht (GO cu) mM (hY q6 (by decide));have dd:∀(is:List Nat) (u:List ae),ai is (C++[.rest u])=ai is C++u:=λis u=>by
         rw[iV];simp[ai,cl]
        have GQ:bo ids.length (C++[.rest tail])=true:=by
         rw[hl];have D0:∀(x y:List V),bo bl.length x=true->bo bl.length y=true->bo bl.length (x++y)=true:=by
          intro x y;induction x with
          |nil=>intro _ h;simpa using h
          |cons v x ih=>intro h1 h2;simp only[fe,bo,bu]at h1⊢;exact⟨h1.1,ih h1.2 h2⟩
         exact D0 _ _ q9 rfl
        refine⟨_,[b'],_,ch,w',.inl ?_,by simp[hl],?_,h c' tail r2 ?_⟩
        ·have:=j_ (P:=P) (ρ:=ρ) (o:=o) ho (sv:=.slice (some ⟨ids.getD j0 0,o0,none⟩) 0 0) (xv:=.slice (some ⟨ids.getD i 0,0,none⟩) (m+1) nv) (by rw[ba,gV];simp only[den]) (by rw[ba,gn];simp only[den]) bQ;rw[this];simp only[den];rw[<-hl,kZ]
        ·rw[fC _ _ _ _ hl,fD _ _ (by rw[hl];exact GP)];simp only[lits,aD];rw[jg _ GQ,dd];have:=S.new hc eG hh;refine this.perm ?_;rw[bU (lits ids ids bl)];exact(jU).symm
        ·rw[<-kY (ids:=ids),dd,hlen]
      ·exact h.elim
     ·exact h.elim
    ·exact h.elim
   ·exact h.elim
  ·exact h.elim
 ·exact h.elim
def RJ (P:aL):(bh->V)->Op->List VB->List G->VK G->Prop:=λe op bl ch K=>match op with
 |.call c=>(match c.callee,c.args.toList,c.argTypes.toList with
  |.builtin .append,[s,xs],[t,tx]=>(match P.underlying t,P.underlying tx with
   |some (.slice T),some (.slice _)=>(match P.info? T,e s,e xs with
    |some _,.sl j o n c,.sl _ _ 0 _=>cond (bG n c) (K (.sl j o n c) bl ch) False
    |some _,.raw (.slice none 0 0),.raw (.slice none 0 0)=>K (.raw (.slice none 0 0)) bl ch
    |_,_,_=>False)
   |_,_=>False)
  |_,_,_=>False)
 |.typeAssert x _ t true=>(match e x,P.underlying t with
  |.mH t' v,some (.struct _)=>cond (az t' t) (K (.av [v,.bool true]) bl ch) False
  |_,_=>False)
 |_=>False
theorem aiE {P:aL} {gl:Nat->Option Nat}:gv (G:=G) P gl (RJ P):=by
 intro e op ids bl ch R ms w0 w K ρ o hg hl S ba ho h;unfold RJ at h;split at h
 ·rename_i c;split at h
  ·rename_i s xs t tx fl cV ei;split at h
   ·rename_i T T' ht gG;obtain⟨oe,ar,iO⟩:=c;simp only at fl cV ei;have e2:ar=#[s,xs]:=by rw[<-cV]
    have e3:iO=#[t,tx]:=by rw[<-ei]
    subst fl e2 e3;split at h
    ·rename_i inf j o0 n c i o1 c1 cu gV gn;cases hq:bG n c with
     |false=>rw[hq]at h;exact h.elim
     |true=>
      rw[hq]at h;have bQ:=run_append_nothing (P:=P) w t tx o.type T inf ht cu (some ⟨ids.getD j 0,o0,none⟩) n c (dJ hq) (.slice (some ⟨ids.getD i 0,o1,none⟩) 0 c1) (sW w gG _ 0 c1 [] (by simp) (λj u hj=>by simp at hj) (λu hu=>by simp at hu));refine⟨_,[],bl,ch,w,.inl ?_,by simpa using hl,by simpa using S,h⟩;have:=j_ (P:=P) (ρ:=ρ) (o:=o) ho (by rw[ba,gV];simp only[den]) (by rw[ba,gn];simp only[den]) bQ;rw[this];simp only[den,cH]
    ·rename_i inf cu gV gn;have bQ:=run_append_nothing (P:=P) w t tx o.type T inf ht cu none 0 0 (dH _) (.slice none 0 0) (Src.ofNil w gG 0);refine⟨_,[],bl,ch,w,.inl ?_,by simpa using hl,by simpa using S,h⟩;have:=j_ (P:=P) (ρ:=ρ) (o:=o) ho (by rw[ba,gV];simp only[den]) (by rw[ba,gn];simp only[den]) bQ;rw[this];simp only[den]
    ·exact h.elim
   ·exact h.elim
  ·exact h.elim
 ·rename_i x xt t;split at h
  ·rename_i t' v fs hx hu;cases hq:az t' t with
   |false=>rw[hq]at h;exact h.elim
   |true=>
    rw[hq]at h;obtain rfl:=cz hq;refine⟨_,[],bl,ch,w,.inl ?_,by simpa using hl,by simpa using S,h⟩;unfold execOp;simp only[ho,ba,hx,den,aH,Instr.typeAssert,bE,dI hu,cK,if_true,du,cH];try rfl
  ·exact h.elim
 ·exact h.elim
def isO (e:bh->V) (op:Op):Bool:=match op with
 |.call c=>(match c.args.toList with
  |[_,x]=>(match e x with|.sl _ _ 0 _=>true|.raw (.slice none 0 0)=>true|_=>false)
  |_=>false)
 |.typeAssert .. =>true
 |_=>false
def isE (e:bh->V) (op:Op):Bool:=match op with
 |.call c=>(match c.args.toList with
  |s::_=>(match e s with|.sl _ _ 0 0=>true|_=>false)
  |_=>false)
 |_=>false
def G0 (P:aL):(bh->V)->Op->List VB->List G->VK G->Prop:=λe op bl ch K=>cond (isO e op) (RJ P e op bl ch K) (cond (isE e op) (RI P e op bl ch K) (zj P e op bl ch K))
theorem Lx {P:aL} {gl:Nat->Option Nat}:gv (G:=G) P gl (G0 P):=wP isO aiE (wP isE aiD Bx)
end Vx
namespace Go.Proofs.YtggfpcggakghnaaGreatDoor
section
open Go Go.RowKit Go.BigFrame Sx Vx
def D5:List Nat->List V->Nat->Option V
 |i::is,v::vs,t=>bif az i t then some v else D5 is vs t
 |_,_,_=>none
def Ly (ix:List Nat) (vs:List V):Nat->Nat->List (Option V)
 |0,_=>[]
 |n+1,i=>D5 ix vs i::Ly ix vs n (i+1)
def G2:List Nat->List V->List V
 |[],_=>[]
 |i::is,fr=>nth fr i::G2 is fr
theorem RK {n:Nat} {fr:List V}:∀(ix:List Nat) (vs:List V),G2 ix fr=vs->bo n vs=true->∀t v,D5 ix vs t=some v->nth fr t=v/\cR n v=true
 |[],vs,_,_,t,v,h=>by cases vs<;>cases h
 |i::is,[],h,_,t,v,_=>by cases h
 |i::is,u::vs,h,hw,t,v,hl=>by
  simp only[G2,List.cons.injEq]at h;simp only[bo,bu]at hw;unfold D5 at hl;cases hb:az i t with
  |true=>
   rw[hb]at hl;cases hl;obtain rfl:=cz hb;exact⟨h.1,hw.1⟩
  |false=>
   rw[hb]at hl;exact RK is vs h.2 hw.2 t v hl
theorem RL {n:Nat} {ew:List V} {ix:List Nat} {vs:List V} (h:∀t v,D5 ix vs t=some v->nth ew t=v/\cR n v=true):∀(N i:Nat) (fr:List V),fr.length=N->(∀k,nth ew (i+k)=nth fr k)->DG n (Ly ix vs N i) fr
 |0,_,[],_,_=>trivial
 |0,_,_::_,hl,_=>by simp at hl
 |N+1,i,[],hl,_=>by simp at hl
 |N+1,i,v::fr,hl,hn=>by
  unfold Ly;have ih:=RL h N (i+1) fr (by simpa using hl) (λk=>by have:=hn (k+1);simp only[nth]at this;rw[<-this];congr 1;omega);have h0:=hn 0;simp only[nth,pG]at h0;cases hk:D5 ix vs i with
  |none=>exact ih
  |some u=>
   obtain⟨h1,h2⟩:=h i u hk;exact⟨h0.symm.trans h1,h2,ih⟩
section
variable{G:Type} {X:Type}
def Bz (dV:X->List V) (bl:X->List VB) (ch:X->List G) (vs:List V) (b:List VB) (c:List G):Prop:=∃x,vs=dV x/\b=bl x/\c=ch x
def BA (m:X->Nat) (dV:X->List V) (bl:X->List VB) (ch:X->List G) (x:X) (vs:List V) (b:List VB) (c:List G):Prop:=∃y,m y<m x/\vs=dV y/\b=bl y/\c=ch y
def D6 (m:X->Nat) (N n0:Nat) (ix:List Nat) (dV:X->List V) (bl:X->List VB) (ch:X->List G) (h1:∀x,(bl x).length=n0) (h2:∀x,bM n0 (bl x)=true) (h3:∀x,bo n0 (dV x)=true):Lp G where
 X:=X
 m:=m
 fr x:=Ly ix (dV x) N 0
 bl:=bl
 ch:=ch
 QQ fr b c:=az fr.length N=true/\Bz dV bl ch (G2 ix fr) b c
 en x fr b c:=az fr.length N=true/\BA m dV bl ch x (G2 ix fr) (b.take n0) c
 ZD:=by
  rintro fr b c ⟨hl,x,hv,rfl,rfl⟩;refine⟨x,?_,rfl,rfl⟩;rw[h1];exact RL (RK ix _ hv (h3 x)) N 0 fr (cz hl) (λk=>by rw[eY])
 ok:=by
  rintro x fr b c ⟨hl,y,hm,hv,hb,rfl⟩;refine⟨y,hm,?_,by rw[h1,h1],by rw[h1];exact h2 y,⟨b.drop n0,?_⟩,rfl⟩
  ·rw[h1];exact RL (RK ix _ hv (h3 y)) N 0 fr (cz hl) (λk=>by rw[eY])
  ·rw[<-hb,jS]
end
def uY {G:Type} [Bl G] (P:aL) (gl:Nat->Option Nat) (L:List (bR G)) (lp:Nat->Option (Lp G)):Ctx G:=⟨P,rR L,gl,uV L,K4,QP,λi _=>lp i⟩
theorem aI.TL {G:Type} [Bl G] {P:aL} {gl:Nat->Option Nat} {L:List (bR G)} {lp:Nat->Option (Lp G)} (h:aI P gl L):∀f c,(uY P gl L lp).T f=some c->Sound (uY P gl L lp).P (uY P gl L lp).gl f c:=h.T
theorem aI.QL {G:Type} [Bl G] {P:aL} {gl:Nat->Option Nat} {L:List (bR G)} {lp:Nat->Option (Lp G)} (h:aI P gl L):ql (uY P gl L lp):=h.Q
def de:Nat->Option Nat:=λ_=>none
def RM {G:Type} (i:Nat) (I:Lp G):Nat->Option (Lp G):=λj=>bif az j i then some I else none
def cT (k:Nat):Int:=([1116352408,1899447441,3049323471,3921009573,961987163,1508970993,2453635748,2870763221,3624381080,310598401,607225278,1426881987,1925078388,2162078206,2614888103,3248222580,3835390401,4022224774,264347078,604807628,770255983,1249150122,1555081692,1996064986,2554220882,2821834349,2952996808,3210313671,3336571891,3584528711,113926993,338241895,666307205,773529912,1294757372,1396182291,1695183700,1986661051,2177026350,2456956037,2730485921,2820302411,3259730800,3345764771,3516065817,3600352804,4094571909,275423344,430227734,506948616,659060556,883997877,958139571,1322822218,1537002063,1747873779,1955562222,2024104815,2227730452,2361852424,2428436474,2756734187,3204031479,3329325298]:List Int).getD k 0
def oY (n:Nat) (x:Int):Int:=bits .or .u32 (u32.wrap (x*2^(32-n))) (jx x (2^n))
def zk:QF:=⟨202,λargs _=>match args with
 |[.int .u32 a,.int .i64 (.ofNat n)]=>(match n with
  |2|6|7|11|13|17|18|19|22|25=>some (True,.int .u32 (oY n a))
  |_=>none)
 |_=>none⟩
theorem vq0 {f:Nat} {xs:List V} {v:V} {n:Nat} (h:∀K,dX prog [] n f xs K=K v) (ha:bo 0 xs=true) (hv:cR 0 v=true) {ids:List Nat} {w:ag}:aV prog f (aH ids xs).toArray w λx w'=>x=den ids v/\Ch [] w w':=
 zf bO.nil n (by rw[h]) ha hv ids w
theorem aas (gl:Nat->Option Nat):zk.Ok prog gl:=by
 intro args bl p_ v_ h hp ids w _ _;unfold zk at h;dsimp only at h;split at h
 ·rename_i a n;split at h<;>first|cases h;done|(simp only[aY,bC]at h;obtain⟨rfl,rfl⟩:=h;exact vq0 (n:=30) (λK=>by kernel_rfl) rfl rfl)
 ·cases h
def w1E (f:Nat->Int) (i:Int):Int:=bits .or .u32 (bits .or .u32 (bits .or .u32 (u32.wrap (u32.wrap (f (0+(i64.wrap (4*i)).toNat))*2^24)) (u32.wrap (u32.wrap (f (0+(i64.wrap (i64.wrap (4*i)+1)).toNat))*2^16)))
 (u32.wrap (u32.wrap (f (0+(i64.wrap (i64.wrap (4*i)+2)).toNat))*2^8))) (u32.wrap (f (0+(i64.wrap (i64.wrap (4*i)+3)).toNat)))
def BB (f:Nat->Int):Nat->Nat->Int
 |0=>λ_=>0
 |k+1=>n8 (BB f k) (0+((k:Nat):Int).toNat) (w1E f (k:Nat))
def w2E (V:Nat->Int) (k:Int):Int:=
 let at_:=λd:Int=>V (0+(i64.wrap (k-d)).toNat)
 u32.wrap (u32.wrap (u32.wrap (at_ 16+at_ 7)+bits .xor .u32 (bits .xor .u32 (oY 7 (at_ 15)) (oY 18 (at_ 15))) (jx (at_ 15) (2^3)))+bits .xor .u32 (bits .xor .u32 (oY 17 (at_ 2)) (oY 19 (at_ 2))) (jx (at_ 2) (2^10)))
def mN (f:Nat->Int):Nat->Nat->Int
 |0=>BB f 16
 |k+1=>n8 (mN f k) (0+((16+k:Nat):Int).toNat) (w2E (mN f k) ((16+k:Nat):Int))
def l8 (a b c d e f g h:Int):Nat->Int:=λj=>([a,b,c,d,e,f,g,h]:List Int).getD j 0
def rE (N W:Nat->Int) (k:Int):Nat->Int:=(l8 (u32.wrap ((u32.wrap ((u32.wrap ((u32.wrap ((u32.wrap ((N 7)+(bits .xor .u32 (bits .xor .u32 (oY 6 (N 4)) (oY 11 (N 4))) (oY 25 (N 4)))))+(bits .or .u32 (bits .and .u32 (N 4) (N 5)) (bits .and .u32 (bits .xor .u32 4294967295 (N 4)) (N 6)))))+(cT (0+(k).toNat))))+(W (0+(k).toNat))))+(u32.wrap ((bits .xor .u32 (bits .xor .u32 (oY 2 (N 0)) (oY 13 (N 0))) (oY 22 (N 0)))+(bits .or .u32 (bits .or .u32 (bits .and .u32 (N 0) (N 1)) (bits .and .u32 (N 0) (N 2))) (bits .and .u32 (N 1) (N 2))))))) (N 0) (N 1) (N 2) (u32.wrap ((N 3)+(u32.wrap ((u32.wrap ((u32.wrap ((u32.wrap ((N 7)+(bits .xor .u32 (bits .xor .u32 (oY 6 (N 4)) (oY 11 (N 4))) (oY 25 (N 4)))))+(bits .or .u32 (bits .and .u32 (N 4) (N 5)) (bits .and .u32 (bits .xor .u32 4294967295 (N 4)) (N 6)))))+(cT (0+(k).toNat))))+(W (0+(k).toNat)))))) (N 4) (N 5) (N 6))
def BC (h W:Nat->Int):Nat->Nat->Int
 |0=>h
 |n+1=>rE (BC h W n) W (n:Int)
def uZ (h f:Nat->Int):Nat->Int:=λj=>u32.wrap (BC h (mN f 48) 64 j+h j)
def oq (m:Int) (n:Nat) (X:Prop):Prop:=(0<=m/\m<(n:Int))/\0+m.toNat<n/\X
theorem oZ {m:Int} {n:Nat} {X:Prop} (h:0<=m/\m<(n:Int)) (k:X):oq m n X:=⟨h,by omega,k⟩
theorem kG {x:Int} (h:-9223372036854775808<=x/\x<=9223372036854775807):i64.wrap x=x:=by simp[yr,uz,uA];omega
section
variable(f:Nat->Int) (K:VK Empty)
def wB (W:Nat->Int):List VB:=[⟨true,⟨205,(0,0)⟩,[.arr .u8 64 f]⟩,⟨true,⟨287,(0,0)⟩,[.arr .u32 64 λ_=>0]⟩,⟨true,⟨287,(0,0)⟩,[.arr .u32 64 W]⟩]
def w3 (i:Int):List V:=[.ptr 0 0,.ptr 1 0,.ptr 2 0,.int .i64 i]
def w1L:Lp Empty:=D6 (X:={i:Nat //i<=16}) (λi=>16-i.1) 89 3 [1,2,3,10] (λi=>w3 (i.1:Int)) (λi=>wB f (BB f i.1)) (λ_=>[]) (λ_=>rfl) (λ_=>rfl) (λ_=>rfl)
def w2L:Lp Empty:=D6 (X:={i:Nat //i<=48}) (λi=>48-i.1) 89 3 [1,2,3,5] (λi=>w3 ((16+i.1:Nat):Int)) (λi=>wB f (mN f i.1)) (λ_=>[]) (λ_=>rfl) (λ_=>rfl) (λ_=>rfl)
def RN:Nat->Option (Lp Empty):=λj=>match j with|0=>some (w1L f)|2=>some (w2L f)|_=>none
def wX:Prop:=
 (true=true/\Bz (λi:{i:Nat //i<=16}=>w3 (i.1:Int)) (λi=>wB f (BB f i.1)) (λ_=>[]) (w3 0) (wB f λ_=>0) ([]:List Empty))/\∀(x:{i:Nat //i<=16}) (g:Nat->ae),cond (decide ((x.1:Int)<16))
  (oq (i64.wrap (4*(x.1:Int))) 64<|oq (i64.wrap (i64.wrap (4*(x.1:Int))+1)) 64<|oq (i64.wrap (i64.wrap (4*(x.1:Int))+2)) 64<|oq (i64.wrap (i64.wrap (4*(x.1:Int))+3)) 64<|oq (x.1:Int) 64
   (true=true/\BA (λi:{i:Nat //i<=16}=>16-i.1) (λi=>w3 (i.1:Int)) (λi=>wB f (BB f i.1)) (λ_=>[]) x (w3 (i64.wrap ((x.1:Int)+1))) (wB f (BB f (x.1+1))) ([]:List Empty)))
  ((true=true/\Bz (λi:{i:Nat //i<=48}=>w3 ((16+i.1:Nat):Int)) (λi=>wB f (mN f i.1)) (λ_=>[]) (w3 16) (wB f (BB f x.1)) ([]:List Empty))/\∀(y:{i:Nat //i<=48}) (g:Nat->ae),cond (decide (((16+y.1:Nat):Int)<64))
    (oq (i64.wrap (((16+y.1:Nat):Int)-15)) 64<|oq (i64.wrap (((16+y.1:Nat):Int)-2)) 64<|True/\True/\True/\True/\(oq (i64.wrap (((16+y.1:Nat):Int)-16)) 64<|oq (i64.wrap (((16+y.1:Nat):Int)-7)) 64<|oq ((16+y.1:Nat):Int) 64
     (true=true/\BA (λi:{i:Nat //i<=48}=>48-i.1) (λi=>w3 ((16+i.1:Nat):Int)) (λi=>wB f (mN f i.1)) (λ_=>[]) y (w3 (i64.wrap (((16+y.1:Nat):Int)+1))) (wB f (mN f (y.1+1))) ([]:List Empty))))
    (K (.agg [.arr .u32 64 (mN f y.1)]) [] []))
theorem aiF:br (uY prog de (qL Empty [zk]) (RN f)) 60 201 [.agg [.arr .u8 64 f]] [] [] (bA 0 K)=wX f K:=by kernel_rfl
end
theorem aiG (f:Nat->Int):wX f λv _ _=>v=.agg [.arr .u32 64 (mN f 48)]:=by
 refine⟨⟨rfl,⟨0,by omega⟩,rfl,rfl,rfl⟩,λx g=>aM (λh=>?_) λh=>?_⟩
 ·have hx:(x.1:Int)<16:=of_decide_eq_true h;have e:=kG (x:=4*(x.1:Int)) (by omega);have e1:=kG (x:=4*(x.1:Int)+1) (by omega);have e2:=kG (x:=4*(x.1:Int)+2) (by omega);have e3:=kG (x:=4*(x.1:Int)+3) (by omega);rw[e,e1,e2,e3];refine oZ (by omega) (oZ (by omega) (oZ (by omega) (oZ (by omega) (oZ (by omega) ⟨rfl,⟨x.1+1,by omega⟩,by show 16-(x.1+1)<16-x.1;omega,?_,rfl,rfl⟩))));rw[kG (by omega)];rfl
 ·have hx:x.1=16:=by have:=of_decide_eq_false h;have:=x.2;omega
  rw[hx];refine⟨⟨rfl,⟨0,by omega⟩,rfl,rfl,rfl⟩,λy g=>aM (λh=>?_) λh=>?_⟩
  ·have hy:((16+y.1:Nat):Int)<64:=of_decide_eq_true h;rw[kG (x:=((16+y.1:Nat):Int)-15) (by omega),kG (x:=((16+y.1:Nat):Int)-2) (by omega),kG (x:=((16+y.1:Nat):Int)-16) (by omega),kG (x:=((16+y.1:Nat):Int)-7) (by omega)];refine oZ (by omega) (oZ (by omega) ⟨trivial,trivial,trivial,trivial,oZ (by omega) (oZ (by omega) (oZ (by omega) ⟨rfl,⟨y.1+1,by omega⟩,by show 48-(y.1+1)<48-y.1;omega,?_,rfl,rfl⟩))⟩);rw[kG (by omega)];rfl
  ·have hy:y.1=48:=by have:=of_decide_eq_false h;have:=y.2;omega
   rw[hy]
def G3:QF:=⟨201,λargs _=>match args with
 |[.agg [.arr .u8 64 f]]=>some (True,.agg [.arr .u32 64 (mN f 48)])
 |_=>none⟩
theorem aiH (gl:Nat->Option Nat):G3.Ok prog gl:=by
 intro args bl p_ v_ h hp ids w _ _;unfold G3 at h;dsimp only at h;split at h
 ·rename_i f;simp only[aY,bC]at h;obtain⟨rfl,rfl⟩:=h;have hv:br (uY prog de (qL Empty [zk]) (RN f)) 60 201 [.agg [.arr .u8 64 f]] [] [] (bA 0 λv _ _=>v=.agg [.arr .u32 64 (mN f 48)]):=by rw[aiF];exact aiG f
  have dw:=kj (G:=Empty) (P:=prog) (gl:=de) (bO.cons (aas _) bO.nil);refine(eO (C:=uY prog de (qL Empty [zk]) (RN f)) (_root_.Go.Proofs.YtggfpcggakghnaaGreatDoor.aI.TL dw) (_root_.Go.Proofs.YtggfpcggakghnaaGreatDoor.aI.QL dw) 60 (ids:=[]) (bl:=[]) (ch:=[]) (R:=[]) (ms:=[]) (w0:=w) (w:=w) (λg i h=>nomatch h) rfl (St.nil [] w) hv).mono ?_;rintro x w' ⟨y,more,bl',ch',rfl,h1,S',hK⟩;obtain⟨v2,cJ,bl2,e,_,_,rfl⟩:=iB (n0:=0) h1 (by simp) S' hK;exact⟨e.trans rfl,S'.ch⟩
 ·cases h
section
variable(t:Nat) (h f:Nat->Int) (K:VK Empty)
def i8 (h:Nat->Int):List V:=[.int .u32 (h 0),.int .u32 (h 1),.int .u32 (h 2),.int .u32 (h 3),.int .u32 (h 4),.int .u32 (h 5),.int .u32 (h 6),.int .u32 (h 7)]
def qo:VB:=⟨false,⟨t,(0,0)⟩,[.arr .u32 64 cT]⟩
def bB (N:Nat->Int):List VB:=[qo t,⟨true,⟨253,(0,0)⟩,i8 h⟩,⟨true,⟨205,(0,0)⟩,[.arr .u8 64 f]⟩,⟨true,⟨253,(0,0)⟩,i8 λ_=>0⟩,⟨true,⟨287,(0,0)⟩,[.arr .u32 64 (mN f 48)]⟩,⟨true,⟨253,(0,0)⟩,i8 N⟩]
def b6 (i:Int):List V:=[.ptr 1 0,.ptr 2 0,.ptr 3 0,.ptr 4 0,.ptr 5 0,.int .i64 i]
def bL:Lp Empty:=D6 (X:={i:Nat //i<=64}) (λi=>64-i.1) 113 6 [2,3,4,5,6,17] (λi=>b6 (i.1:Int)) (λi=>bB t h f (BC h (mN f 48) i.1)) (λ_=>[]) (λ_=>rfl) (λ_=>rfl) (λ_=>rfl)
def ot:Nat->Option Nat:=λg=>bif az g 1 then some 0 else none
def bX:Prop:=True/\(true=true/\Bz (λi:{i:Nat //i<=64}=>b6 (i.1:Int)) (λi=>bB t h f (BC h (mN f 48) i.1)) (λ_=>[]) (b6 0) (bB t h f h) ([]:List Empty))/\∀(x:{i:Nat //i<=64}) (g:Nat->ae),cond (decide ((x.1:Int)<64))
 (oq (x.1:Int) 64<|oq (x.1:Int) 64<|True/\True/\True/\True/\True/\True/\
  (true=true/\BA (λi:{i:Nat //i<=64}=>64-i.1) (λi=>b6 (i.1:Int)) (λi=>bB t h f (BC h (mN f 48) i.1)) (λ_=>[]) x (b6 (i64.wrap ((x.1:Int)+1))) (bB t h f (BC h (mN f 48) (x.1+1))) ([]:List Empty)))
 (K (.agg (i8 λj=>u32.wrap (BC h (mN f 48) x.1 j+h j))) [qo t] [])
theorem aiI:br (uY prog ot (qL Empty [zk,G3]) (RM 0 (bL t h f))) 60 163 [.agg (i8 h),.agg [.arr .u8 64 f]] [qo t] [] (bA 1 K)=bX t h f K:=by kernel_rfl
end
theorem aiJ (t:Nat) (h f:Nat->Int):bX t h f λv _ _=>v=.agg (i8 (uZ h f)):=by
 refine⟨trivial,⟨rfl,⟨0,by omega⟩,rfl,rfl,rfl⟩,λx g=>aM (λhh=>?_) λhh=>?_⟩
 ·have hx:(x.1:Int)<64:=of_decide_eq_true hh;refine oZ (by omega) (oZ (by omega) ⟨trivial,trivial,trivial,trivial,trivial,trivial,rfl,⟨x.1+1,by omega⟩,by show 64-(x.1+1)<64-x.1;omega,?_,rfl,rfl⟩);rw[kG (by omega)];rfl
 ·have hx:x.1=64:=by have:=of_decide_eq_false hh;have:=x.2;omega
  rw[hx];rfl
theorem aiK (t:Nat) (h f:Nat->Int) {ids:List Nat} {w:ag} (hG:w.heap[1]?=some (.cells (aE .u32 64 cT) t (0,0))):aV prog 163 (aH ids [.agg (i8 h),.agg [.arr .u8 64 f]]).toArray w λx w'=>x=den ids (.agg (i8 (uZ h f)))/\Ch [] w w':=by
 have hv:br (uY prog ot (qL Empty [zk,G3]) (RM 0 (bL t h f))) 60 163 [.agg (i8 h),.agg [.arr .u8 64 f]] [qo t] [] (bA 1 λv _ _=>v=.agg (i8 (uZ h f))):=by rw[aiI];exact aiJ t h f
 have dw:=kj (G:=Empty) (P:=prog) (gl:=ot) (bO.cons (aas _) (bO.cons (aiH _) bO.nil));have S0:St [] w (lits [1] [1] [qo t]++[]) w:=St.given (w:=w) [(1,.cells (ai [1] [.arr .u32 64 cT]).toArray t (0,0))] (by
  intro p hp;simp only[iH]at hp;subst hp;have e:(ai [1] [.arr .u32 64 cT]).toArray=aE .u32 64 cT:=by simp[ai,cl,aE]
  rw[e];exact hG)
 have e0:∀ids,aH ids [.agg (i8 h),.agg [.arr .u8 64 f]]=aH [1] [.agg (i8 h),.agg [.arr .u8 64 f]]:=λ_=>rfl;rw[e0];refine(eO (C:=uY prog ot (qL Empty [zk,G3]) (RM 0 (bL t h f))) (_root_.Go.Proofs.YtggfpcggakghnaaGreatDoor.aI.TL dw) (_root_.Go.Proofs.YtggfpcggakghnaaGreatDoor.aI.QL dw) 60 (ids:=[1]) (bl:=[qo t]) (ch:=[]) (R:=[]) (λg i h=>by
  have h:ot g=some i:=h;unfold ot at h;cases hb:az g 1 with
  |false=>rw[hb]at h;cases h
  |true=>rw[hb]at h;cases h;exact⟨by simp,by simp[ir,cz hb]⟩) rfl S0 hv).mono ?_
 rintro x w' ⟨y,more,bl',ch',rfl,h1,S',hK⟩;obtain⟨v2,cJ,bl2,e,_,_,rfl⟩:=iB (n0:=1) h1 (by simp) S' hK;exact⟨e.trans rfl,S'.ch⟩
structure qp (p:Prop):Prop where
 h:p
structure gI where
 bl:List aj
 b:Nat
 o:Nat
 n:Nat
 f:Nat->Int
 h:∀w:ag,(∀y∈bl,w.heap[y.id]?=some y.obj)->cx w b o n f
instance:Bl gI:=⟨λg=>g.bl⟩
def Lz (N:Nat):(bh->V)->Op->List VB->List gI->VK gI->Prop:=λe op bl ch K=>match op with
 |.makeSlice t l c=>(match prog.underlying t,e l,e c with
  |some (.slice 5),.int .i64 m,.int .i64 m'=>cond (bM bl.length bl) ((m=(N:Int)/\m'=(N:Int))/\K (.sl bl.length 0 N N) (bl++[⟨true,⟨5,(0,0)⟩,[.arr .u8 N λ_=>0]⟩]) ch) False
  |_,_,_=>False)
 |.call c=>(match c.callee,c.args.toList,c.argTypes.toList with
  |.builtin .copy,[s,xs],[t,tx]=>(match prog.underlying t,e s,e xs,ch with
   |some (.slice 5),.sl i 0 n c,.raw (.slice (some ⟨b,o,none⟩) m mc),[g]=>(match bl[i]?with
    |some ⟨true,⟨5,(0,0)⟩,[.arr .u8 N' f]⟩=>((g.b=b/\g.o=o/\g.n=m)/\m<=n/\n<=N')/\K (.int .i64 (m:Int)) (bl.set i ⟨true,⟨5,(0,0)⟩,[.arr .u8 N' (dC f 0 m g.f)]⟩) ch
    |_=>False)
   |_,_,_,_=>False)
  |_,_,_=>False)
 |_=>False
theorem D7 (ids:List Nat) (N:Nat) (f:Nat->Int):(ai ids [.arr .u8 N f]).toArray=aE .u8 N f:=by simp[ai,cl,aE]
theorem aat {N:Nat} (h0:1<=N) (h1:N<=1000):gv prog (λ_=>none) (Lz N):=by
 intro e op ids bl ch R ms w0 w K ρ o hg hl S ba ho h;unfold Lz at h;split at h
 ·rename_i t l c;split at h
  ·rename_i m m' hu nx GZ;cases hq:bM bl.length bl with
   |false=>rw[hq]at h;exact h.elim
   |true=>
    rw[hq]at h;obtain⟨⟨rfl,rfl⟩,hK⟩:=h;obtain⟨inf,tH,iK⟩:∃inf,prog.info? 5=some inf/\inf.bytes<=100:=⟨_,rfl,dJ (by kernel_rfl)⟩;have hz:∀k:Nat,(ai ids (lD [.int .u8 0] k))=(bw k).map λ_=>eA .u8 0:=by
     intro k;induction k with
     |zero=>rfl
     |succ k ih=>rw[lD,iV,ih,vU,eF,lQ];rfl
    have bQ:=run_mk (P:=prog) (ids:=ids) (w:=w) (t:=t) (el:=5) (n:=N) (z:=0) (zc:=[.int .u8 0]) (inf:=inf) (k1:=.i64) (k2:=.i64) hu tH (by kernel_rfl) (by kernel_rfl) rfl h0 (by omega) iK;refine⟨_,[w.heap.size],_,ch,w.alloc (.cells (ai ids (lD [.int .u8 0] N)).toArray 5),.inl ?_,by simp[hl],?_,hK⟩
    ·unfold execOp;simp only[ho,ba,nx,GZ,den,bE,bQ,cK,du];rw[<-hl,kZ]
    ·rw[fC _ _ _ _ hl,fD _ _ (by rw[hl];exact hq)];simp only[lits,aD,D7];have e1:(ai ids (lD [.int .u8 0] N)).toArray=aE .u8 N λ_=>0:=by rw[hz];rfl
     rw[e1];refine(S.new (Ch.alloc [] w _) (dH _) (nT w _)).perm ?_;rw[bU];exact jU.symm
  ·exact h.elim
 ·rename_i c;split at h
  ·rename_i s xs t tx fl cV ei;split at h
   ·rename_i i n cc b o' m mc g hu gV gn;split at h
    ·rename_i N' f hb;obtain⟨⟨⟨rfl,rfl,rfl⟩,hm,hn⟩,hK⟩:=h;obtain⟨oe,ar,iO⟩:=c;simp only at fl cV ei;have e2:ar=#[s,xs]:=by rw[<-cV]
     have e3:iO=#[t,tx]:=by rw[<-ei]
     subst fl e2 e3;obtain⟨hj,aP⟩:=fV hl S hb;rw[D7]at aP;have oX:=(fV hl S hb).2;rw[D7]at oX;have h8:cx w g.b g.o g.n g.f:=g.h w λy hy=>S.at' (uy _ (show y∈g.bl++R from pJ _ hy));have Gg:Nat.min g.n n=g.n:=Nat.min_eq_left hm;have bQ:=run_copy_row (P:=prog) w t tx o.type 5 (ids.getD i 0) 0 n cc ⟨g.b,g.o,none⟩ g.n mc (aE .u8 N' f) 5 (b9 g.n g.f) hu (by kernel_rfl) oX (by rw[gH,Gg]) (λj v hj=>by
      obtain⟨h1,rfl⟩:=yK hj;rw[iS];exact h8 j h1) (by rw[gH,Gb];omega) Gd
     have e4:((aE .u8 N' f).toList.take 0++b9 g.n g.f++(aE .u8 N' f).toList.drop (0+(b9 g.n g.f).length)).toArray=aE .u8 N' (dC f 0 g.n g.f):=by
      rw[gH];exact P8 .u8 f (by omega) g.f
     rw[e4]at bQ;have iT:ρ s=.slice (some ⟨ids.getD i 0,0,none⟩) n cc:=by rw[ba,gV];simp only[den]
     have rU:ρ xs=.slice (some ⟨g.b,g.o,none⟩) g.n mc:=by rw[ba,gn];simp only[den]
     have hex:=KC (P:=prog) (ρ:=ρ) (o:=o) ho iT rU bQ;rw[gH]at hex;refine⟨.int .i64 (g.n:Int),[],_,_,_,.inl hex,by simpa using hl,?_,hK⟩
     ·simp only[cH];have fw:=S.step hj rfl (Ch.setRow w _ _) (setRow_heap w (ids.getD i 0) (aE .u8 N' f) (aE .u8 N' (dC f 0 g.n g.f)) 5 (0,0) oX);have kD:i<(lits ids ids bl).length:=by rw[yR ids bl hl];rcases cZ i bl.length with h'|h';exact h';simp[h']at hb
      rw[<-yS (ids:=ids) ids bl i _ hl,<-List.set_append_left _ _ kD];simp only[aD,D7];exact fw
    ·exact h.elim
   ·exact h.elim
  ·exact h.elim
 ·exact h.elim
def qq (n:Nat):Int:=i64.wrap (i64.wrap (Int.tdiv (i64.wrap (i64.wrap (i64.wrap ((n:Int)+9)+64)-1)) 64)*64)
def aiL (e d:Int) (i:Nat) (F:Nat->Int):Nat->Int:=n8 F (0+(i64.wrap (i64.wrap (e-1)-(i:Int))).toNat) (u8.wrap (jx d (2^(8*i))))
def aau (e d:Int) (F:Nat->Int):Nat->Nat->Int
 |0=>F
 |k+1=>aiL e d k (aau e d F k)
def qt (N n:Nat) (f:Nat->Int):Nat->Int:=aau (qq n) (u64.wrap (u64.wrap (n:Int)*8)) (n8 (dC (λ_=>0) 0 n f) (0+((n:Nat):Int).toNat) 128) 8
def LC (e:Int) (N:Nat) (X:Prop):Nat->Nat->Prop
 |0,_=>X
 |k+1,i=>oq (i64.wrap (i64.wrap (e-1)-(i:Int))) N (LC e N X k (i+1))
def RO (N n b o:Nat) (g:gI) (K:VK gI):Prop:=(qq n=(N:Int)/\qq n=(N:Int))/\((g.b=b/\g.o=o/\g.n=n)/\n<=N/\N<=N)/\oq (n:Int) N (LC (qq n) N (K (.sl 0 0 N N) [⟨true,⟨5,(0,0)⟩,[.arr .u8 N (qt N n g.f)]⟩] [g]) 8 0)
def G4 (N:Nat) (h0:1<=N) (h1:N<=1000) (f:fL) (args:List V) (g:gI) (K:VK gI):Prop:=br (fW prog (λ_=>none) ([]:List (bR gI)) (Lz N) (aat h0 h1)) 60 f args [] [g] K
theorem aiM (g:gI) (b o n c:Nat) (K:VK gI):G4 64 (by omega) (by omega) 162 [.raw (.slice (some ⟨b,o,none⟩) n c)] g K=RO 64 n b o g K:=by kernel_rfl
theorem aiN (g:gI) (b o n c:Nat) (K:VK gI):G4 128 (by omega) (by omega) 162 [.raw (.slice (some ⟨b,o,none⟩) n c)] g K=RO 128 n b o g K:=by kernel_rfl
def zl (H:Nat->Int):Nat->Int:=λj=>match j%4 with
 |0=>u8.wrap (jx (H (j/4)) (2^24))
 |1=>u8.wrap (jx (H (j/4)) (2^16))
 |2=>u8.wrap (jx (H (j/4)) (2^8))
 |_=>u8.wrap (H (j/4))
def LD:Nat->Int:=l8 1779033703 3144134277 1013904242 2773480762 1359893119 2600822924 528734635 1541459225
def r8 (X:Nat->Int):Nat->Int:=l8 (X 0) (X 1) (X 2) (X 3) (X 4) (X 5) (X 6) (X 7)
def aav (n:Nat) (f:Nat->Int):Nat->Int:=zl (uZ LD (qt 64 n f))
def RP (f:Nat->Int) (k:Nat):Nat->Int:=λj=>f (k+j)
def aaw (n:Nat) (f:Nat->Int):Nat->Int:=zl (uZ (r8 (uZ LD (qt 128 n f))) (RP (qt 128 n f) 64))
def ji (n:Nat) (f:Nat->Int):Nat->Int:=bif bG n 55 then aav n f else aaw n f
def BD:QF:=⟨163,λargs bl=>match args,bl with
 |[.agg [.int .u32 a,.int .u32 b,.int .u32 c,.int .u32 d,.int .u32 e,.int .u32 f,.int .u32 g,.int .u32 h],.agg [.arr .u8 64 F]],⟨false,⟨t,(0,0)⟩,[.arr .u32 64 R]⟩::_=>some (R=cT,.agg (i8 (uZ (l8 a b c d e f g h) F)))
 |_,_=>none⟩
def RQ:Nat->(Nat->Int)->List V
 |64,F=>[.arr .u8 64 F]
 |128,F=>[.arr .u8 64 F,.arr .u8 64 (RP F 64)]
 |n,F=>[.arr .u8 n F]
def BE (N:Nat):dc gI:=λargs bl ch K=>match args,ch with
 |[.raw (.slice (some ⟨b,o,none⟩) n c)],[g]=>cond (bM bl.length bl) (((g.b=b/\g.o=o/\g.n=n)/\qq n=(N:Int)/\n<N)/\K (.sl bl.length 0 N N) (bl++[⟨true,⟨5,(0,0)⟩,RQ N (qt N n g.f)⟩]) [g]) False
 |_,_=>False
def o4 (x:Int):List V:=[.int .u8 (u8.wrap (jx x (2^24))),.int .u8 (u8.wrap (jx x (2^16))),.int .u8 (u8.wrap (jx x (2^8))),.int .u8 (u8.wrap x)]
def LF (H:Nat->Int):List V:=o4 (H 0)++(o4 (H 1)++(o4 (H 2)++(o4 (H 3)++(o4 (H 4)++(o4 (H 5)++(o4 (H 6)++o4 (H 7)))))))
theorem aiO (H:Nat->Int) (ids:List Nat):den ids (.agg (LF H))=.agg (aE .u8 32 (zl H)):=by kernel_rfl
section
variable(t:Nat) (g:gI) (b o n c:Nat) (K:VK gI)
theorem aiP:br (bZ prog ot (⟨162,false,BE 64⟩::qL gI [BD])) 60 106 [.raw (.slice (some ⟨b,o,none⟩) n c)] [qo t] [g] (bA 1 K)=(((g.b=b/\g.o=o/\g.n=n)/\qq n=((64:Nat):Int)/\n<64)/\cT=cT/\K (.agg (LF (uZ LD (qt 64 n g.f)))) [qo t] [g]):=by kernel_rfl
theorem aiQ:br (bZ prog ot (⟨162,false,BE 128⟩::qL gI [BD])) 60 106 [.raw (.slice (some ⟨b,o,none⟩) n c)] [qo t] [g] (bA 1 K)=(((g.b=b/\g.o=o/\g.n=n)/\qq n=((128:Nat):Int)/\n<128)/\cT=cT/\cT=cT/\K (.agg (LF (uZ (r8 (uZ LD (qt 128 n g.f))) (RP (qt 128 n g.f) 64)))) [qo t] [g]):=by kernel_rfl
end
theorem aiR {w:ag} {b o n:Nat} {f:Nat->Int} (h:cx w b o n f):∃g:gI,(g.b=b/\g.o=o/\g.n=n)/\g.f=f/\∃ps:List (Nat×Obj),g.bl=ps.map (λp=>⟨p.1,false,p.2⟩)/\∀p∈ps,w.heap[p.1]?=some p.2:=by
 rcases vP n with rfl|hn
 ·exact⟨⟨[],b,o,0,f,λ_ _ j hj=>absurd hj (by omega)⟩,⟨rfl,rfl,rfl⟩,rfl,[],rfl,λ_ h=>nomatch h⟩
 ·cases hb:w.heap[b]?with
  |none=>
   have:=h 0 hn;unfold yq at this;simp only[hb]at this;cases this
  |some ob=>
   refine⟨⟨[⟨b,false,ob⟩],b,o,n,f,λw' hw j hj=>?_⟩,⟨rfl,rfl,rfl⟩,rfl,[(b,ob)],rfl,?_⟩
   ·have h1:=h j hj;have h2:w'.heap[b]?=some ob:=hw _ (iH.2 rfl);unfold yq at h1⊢;simp only[hb]at h1;simp only[h2];exact h1
   ·intro p hp;obtain rfl:=iH.1 hp;exact hb
theorem aax {e:Int} {N:Nat} {X:Prop} (he:e=(N:Int)) (h8:8<=N) (hN:N<=1000) (hX:X):∀k i,i+k<=8->LC e N X k i
 |0,_,_=>hX
 |k+1,i,h=>by
  have e1:i64.wrap (i64.wrap (e-1)-(i:Int))=(N:Int)-1-(i:Int):=by rw[he,kG (x:=(N:Int)-1) (by omega),kG (by omega)]
  unfold LC;rw[e1];exact oZ (by omega) (aax he h8 hN hX k (i+1) (by omega))
theorem aay {n:Nat} (h:n<=55):qq n=((64:Nat):Int):=by
 unfold qq;rw[kG (x:=(n:Int)+9) (by omega),kG (x:=(n:Int)+9+64) (by omega),kG (x:=(n:Int)+9+64-1) (by omega),Int.tdiv_eq_ediv_of_nonneg (by omega),show((n:Int)+9+64-1)/64=1 by omega];rfl
theorem aaz {n:Nat} (h:56<=n) (h2:n<=119):qq n=((128:Nat):Int):=by
 unfold qq;rw[kG (x:=(n:Int)+9) (by omega),kG (x:=(n:Int)+9+64) (by omega),kG (x:=(n:Int)+9+64-1) (by omega),Int.tdiv_eq_ediv_of_nonneg (by omega),show((n:Int)+9+64-1)/64=2 by omega];rfl
theorem aiS {N:Nat} (h0:1<=N) (h1:N<=1000) {f:Nat} {args:List V} {g:gI} {K:VK gI} (h:qp (G4 N h0 h1 f args g K)) {R:List aj} {ms:List Nat} {w0 w:ag} (S:St ms w0 (g.bl++R) w):
 aV prog f (aH [] args).toArray w λv w1=>∃x more b ch,v=den more x/\more.length=b.length/\St ms w0 (lits more more b++aC ch R) w1/\K x b ch:=by
 have S0:St ms w0 (lits [] [] []++aC [g] R) w:=S;exact eO (aI.nil (G:=gI) (P:=prog) (gl:=λ_=>none)).T (aI.nil (G:=gI) (P:=prog) (gl:=λ_=>none)).Q 60 (C:=fW prog (λ_=>none) ([]:List (bR gI)) (Lz N) (aat h0 h1)) (ids:=[]) (bl:=[]) (ch:=[g]) (R:=R) Gl.none rfl S0 h.h
def LJ (N n:Nat) (g:gI):VK gI:=λv bl ch=>v=.sl 0 0 N N/\bl=[⟨true,⟨5,(0,0)⟩,[.arr .u8 N (qt N n g.f)]⟩]/\ch=[g]
theorem aaA {N n b o:Nat} {g:gI} (h8:8<=N) (h1:N<=1000) (hg:g.b=b/\g.o=o/\g.n=n) (he:qq n=(N:Int)) (hn:n<N):RO N n b o g (LJ N n g):=
 ⟨⟨he,he⟩,⟨hg,by omega,dH _⟩,oZ (by omega) (aax he h8 h1 ⟨rfl,rfl,rfl⟩ 8 0 (by omega))⟩
theorem aiT {N:Nat} (h0:1<=N) (h8:8<=N) (h1:N<=1000) {b o n c:Nat} (g:gI) (cS:qp (G4 N h0 h1 162 [.raw (.slice (some ⟨b,o,none⟩) n c)] g (LJ N n g)))
 {R:List aj} {ms:List Nat} {w0 w:ag} (S:St ms w0 (g.bl++R) w):aV prog 162 #[.slice (some ⟨b,o,none⟩) n c] w λv w1=>∃b',v=.slice (some ⟨b',0,none⟩) N N/\St ms w0 (⟨b',true,.cells (aE .u8 N (qt N n g.f)) 5 (0,0)⟩::(g.bl++R)) w1:=by
 have hr:=aiS h0 h1 (f:=162) (args:=[.raw (.slice (some ⟨b,o,none⟩) n c)]) (g:=g) (K:=LJ N n g) cS S;have e0:(aH [] [V.raw (.slice (some ⟨b,o,none⟩) n c)]).toArray=#[.slice (some ⟨b,o,none⟩) n c]:=rfl;rw[e0]at hr;clear cS;refine hr.mono ?_;rintro v w' ⟨y,more,bl',ch',rfl,hl,S',rfl,rfl,rfl⟩
 match more,hl with
 |[b'],_=>
  refine⟨b',rfl,?_⟩;have e:lits [b'] [b'] [⟨true,⟨5,(0,0)⟩,[.arr .u8 N (qt N n g.f)]⟩]=[⟨b',true,.cells (aE .u8 N (qt N n g.f)) 5 (0,0)⟩]:=by
   simp only[lits,aD,D7]
  rw[e]at S';exact S'
theorem aiU (ids:List Nat) {N:Nat} (hN:N=64\/N=128) (F:Nat->Int):(ai ids (RQ N F)).toArray=aE .u8 N F:=by
 rcases hN with rfl|rfl
 ·exact D7 ids 64 F
 ·have e:bw 128=bw 64++(bw 64).map (64+·):=by decide
  unfold RQ aE;rw[e,rk,lQ];simp only[ai,cl,cH];rfl
theorem aiV {N:Nat} (hN:N=64\/N=128) (gl:Nat->Option Nat):Sound prog gl 162 (BE N):=by
 intro args ids bl ch R ms w0 w K hg hl S hc;unfold BE at hc;split at hc
 ·rename_i b o n c g;cases hq:bM bl.length bl with
  |false=>rw[hq]at hc;exact hc.elim
  |true=>
   rw[hq]at hc;obtain⟨⟨hgg,he,hn⟩,hK⟩:=hc;have cS:∃(h0:1<=N) (h1:N<=1000),8<=N/\qp (G4 N h0 h1 162 [.raw (.slice (some ⟨b,o,none⟩) n c)] g (LJ N n g)):=by
    rcases hN with rfl|rfl
    ·exact⟨by omega,by omega,by omega,⟨by rw[aiM];exact aaA (by omega) (by omega) hgg he hn⟩⟩
    ·exact⟨by omega,by omega,by omega,⟨by rw[aiN];exact aaA (by omega) (by omega) hgg he hn⟩⟩
   obtain⟨h0,h1,h8,cS⟩:=cS;have S1:St ms w0 (g.bl++(lits ids ids bl++R)) w:=S.perm (pM _ _ _);refine(aiT h0 h8 h1 g cS S1).mono ?_;rintro v w' ⟨b',rfl,S2⟩;refine⟨_,[b'],_,_,?_,by simp[hl],?_,hK⟩
   ·simp only[den];rw[<-hl,kZ]
   ·rw[fC _ _ _ _ hl,fD _ _ (by rw[hl];exact hq)];simp only[lits,aD,aiU _ hN];refine S2.perm ?_;show List.Perm ([_]++(g.bl++(lits ids ids bl++R))) ((lits ids ids bl++[_])++(g.bl++R));refine(pL _ (pM _ _ _)).trans ?_;rw[<-bU];exact FC _ List.perm_append_comm
 ·exact hc.elim
theorem aiW:BD.Ok prog ot:=by
 intro args bl p_ v_ h hp ids w hg hm;unfold BD at h;dsimp only at h;split at h
 ·rename_i a b c d e f g h' F t R bl';simp only[aY,bC]at h;obtain⟨rfl,rfl⟩:=h;subst hp;have h1:=hm.2 0 _ rfl;rw[(hg 1 0 rfl).2]at h1;have e1:(ai ids [.arr .u32 64 cT]).toArray=aE .u32 64 cT:=by simp[ai,cl,aE]
  rw[e1]at h1;exact aiK t (l8 a b c d e f g h') F h1
 ·cases h
theorem aaB {N n:Nat} (hN:N=64\/N=128) {b o c t:Nat} {f H:Nat->Int} {w:ag} (hG:w.heap[1]?=some (.cells (aE .u32 64 cT) t (0,0))) (hB:cx w b o n f) (he:qq n=(N:Int)) (hn:n<N)
 (cS:∀g:gI,(g.b=b/\g.o=o/\g.n=n)->g.f=f->br (bZ prog ot (⟨162,false,BE N⟩::qL gI [BD])) 60 106 [.raw (.slice (some ⟨b,o,none⟩) n c)] [qo t] [g] (bA 1 λv _ _=>v=.agg (LF H))):
 aV prog 106 #[.slice (some ⟨b,o,none⟩) n c] w λv w1=>v=.agg (aE .u8 32 (zl H))/\Ch [] w w1:=by
 obtain⟨g,hg,hf,ps,qk,hh⟩:=aiR hB;have dw:aI prog ot (⟨162,false,BE N⟩::qL gI [BD]):=aI.cons ⟨aiV hN ot,λe=>by cases e⟩ (kj (bO.cons aiW bO.nil));have S0:St [] w (lits [1] [1] [qo t]++aC [g] []) w:=by
  have:=St.given (w:=w) ((1,.cells (ai [1] [.arr .u32 64 cT]).toArray t (0,0))::ps) (by
   intro p hp;rcases cn.1 hp with rfl|hp
   ·have e:(ai [1] [.arr .u32 64 cT]).toArray=aE .u32 64 cT:=by simp[ai,cl,aE]
    rw[e];exact hG
   ·exact hh p hp)
  show St [] w ([_]++(g.bl++[])) w;rw[qk,cH];exact this
 refine(eO dw.T dw.Q 60 (C:=bZ prog ot (⟨162,false,BE N⟩::qL gI [BD])) (ids:=[1]) (bl:=[qo t]) (ch:=[g]) (R:=[]) (λg i h=>by
  have h:ot g=some i:=h;unfold ot at h;cases hb:az g 1 with
  |false=>rw[hb]at h;cases h
  |true=>rw[hb]at h;cases h;exact⟨by simp,by simp[ir,cz hb]⟩) rfl S0 (cS g hg hf)).mono ?_
 rintro v w' ⟨y,more,bl',ch',rfl,h1,S',hK⟩;obtain⟨v2,cJ,bl2,e,_,_,rfl⟩:=iB (n0:=1) h1 (by simp) S' hK;exact⟨e.trans (aiO H _),S'.ch⟩
theorem RR (b o n c:Nat) (f:Nat->Int) (hn:n<=119) {tG:aJ} (w:ag) (hG:w.heap[1]?=some (.cells (aE .u32 64 cT) tG (0,0))) (hB:cx w b o n f):aV prog 106 #[.slice (some ⟨b,o,none⟩) n c] w λv w1=>v=.agg (aE .u8 32 (ji n f))/\Ch [] w w1:=by
 unfold ji;by_cases h:n<=55
 ·rw[uu h];exact aaB (.inl rfl) hG hB (aay h) (by omega) λg hg hf=>by rw[aiP,hf];exact⟨⟨hg,aay h,by omega⟩,rfl,rfl⟩
 ·have hb:bG n 55=false:=by
   cases e:bG n 55 with
   |false=>rfl
   |true=>exact absurd (dJ e) h
  rw[hb];exact aaB (.inr rfl) hG hB (aaz (by omega) hn) (by omega) λg hg hf=>by rw[aiQ,hf];exact⟨⟨hg,aaz (by omega) hn,by omega⟩,rfl,rfl,rfl⟩
end
section
open Go Go.RowKit Go.BigFrame Sx
def D8 (f:Nat->Int) (x:Int):Nat->Nat->Int
 |0=>λ_=>0
 |k+1=>n8 (D8 f x k) k (bits .xor .u8 (f k) x)
def jk (f:Nat->Int) (x:Int):Nat->Int:=λj=>bits .xor .u8 (f j) x
theorem aaC (f:Nat->Int) (x:Int):∀(k j:Nat),j<k->D8 f x k j=jk f x j
 |k+1,j,h=>by
  by_cases e:j=k
  ·subst e;exact Y8 _ _ _
  ·exact(P7 _ _ e).trans (aaC f x k j (by omega))
theorem aiX (f:Nat->Int) (x:Int):aE .u8 64 (D8 f x 64)=aE .u8 64 (jk f x):=ahc _ λi h=>aaC f x 64 i h
theorem aiY {f:Nat->Int} {x:Int} (i:Int) (W:Nat->Int) (h:0<=i) (e:W=D8 f x i.toNat):n8 W (0+i.toNat*1) (bits .xor .u8 (f i.toNat) x)=D8 f x (i+1).toNat:=by
 have h1:(i+1).toNat=i.toNat+1:=by omega
 rw[h1,e,eY,Nat.mul_one];rfl
theorem RT {n m c:Nat} {f g:Nat->Int} (e:n=m) (h:∀i,i<m->f i=g i):bI n f c=bI m g c:=by
 subst e;unfold bI;rw[Gf h]
def jY (n1 n2:Nat) (f g h:Nat->Int):Nat->Int:=cA (n1+n2) (cA n1 f g) h
def G5 (n1 n2 n3:Nat) (f g h k:Nat->Int):Nat->Int:=cA (n1+n2+n3) (cA (n1+n2) (cA n1 f g) h) k
theorem aaD (f:Nat->Int) (y:Int) (w:ag):
 aV prog 108 #[.agg (aE .u8 64 f),.int .u8 y] w λv w1=>∃b,v=.slice (some ⟨b,0,none⟩) 64 64/\w.heap.size<=b/\w1.heap[b]?=some (.cells (aE .u8 64 (jk f y)) 5 (0,0))/\Ch [] w w1:=by
 have S0:=St.nil [] w;refine jd Tryz.func108 rfl ?_;refine aS (aZ ?_);refine eZ S0 (λb=>.pointer (some ⟨b,0,none⟩)) (.cells (aE .u8 64 f) 205) ?_;intro bJ iC dQ;refine au (.slice none 0 0) ?_;refine aW (aR (aS (aZ ?_)));refine eZ dQ (λb=>.slice (some ⟨b,0,none⟩) 64 64) (.cells (aE .u8 64 (λ_=>0)) 5) ?_;intro dD mO dg;refine gx ?_;refine aW (aR (aS (aS (aZ ?_))));refine kA dg 1 64 (aE .u8 64 f) bJ 0 ?_;refine au (.int .i64 0) ?_;refine aW (aR (jw ?_));refine Kz (λzn za zw=>∃(i:Int) (W:Nat->Int) (qu:Nat->ae),(zn=(64-i).toNat/\0<=i/\i<=64/\W=D8 f y i.toNat)/\za=⟨#[.agg (aE .u8 64 f),.int .u8 y,.pointer (some ⟨bJ,0,none⟩),undef,.slice none 0 0,.slice (some ⟨dD,0,none⟩) 64 64,(qu 6),(qu 7),.slice (some ⟨dD,0,none⟩) 64 64,.agg (aE .u8 64 f),.int .i64 i,(qu 11),(qu 12),(qu 13),(qu 14),(qu 15),(qu 16),(qu 17),(qu 18),(qu 19),(qu 20),undef],[]⟩/\St [] w [⟨dD,true,.cells (aE .u8 64 W) 5 (0,0)⟩,⟨bJ,true,.cells (aE .u8 64 f) 205 (0,0)⟩] zw) _ (λzy mP=>⟨(0:Int),(λ_=>0),(λd=>zy.tmps.getD d undef),⟨rfl,by omega,by omega,rfl⟩,by subst mP;kernel_rfl,dg.re (R:=([]:List aj)) [[⟨dD,true,.cells (aE .u8 64 (λ_=>0)) 5 (0,0)⟩],[⟨bJ,true,.cells (aE .u8 64 f) 205 (0,0)⟩]] [0,1]⟩) ?_;rintro _ _ aaE ⟨i,W,qu,⟨rfl,zf8,zf9,aaF⟩,rfl,qx⟩;refine aS (aZ ?_);refine au (.bool (decide (i<64))) ?_;refine aW (aR (aS ?_));refine s_ (decide (i<64)) ?_ ?_
 ·intro ny;have u5:=AV ny;refine j7 (aR (aS (jw (aS (aZ ?_)))));refine au (.int .i64 i) ?_;refine ahf (e:=5) .u8 64 f .i64 i (by omega) (by omega) ?_;refine au (.int .i64 i) ?_;refine au (.int .u8 (f (i).toNat)) ?_;refine aW (aR (aZ ?_));refine dZ ?_;refine au (.int .i64 i) ?_;refine au (.int .u8 (f (i).toNat)) ?_;refine au (.int .u8 y) ?_;refine au (.int .u8 (bits .xor .u8 (f (i).toNat) y)) ?_;refine rG (e:=5) dD 0 (i).toNat 64 1 64 .i64 i (by omega) (by omega) rfl ?_;refine store_ qx 0 (.int .u8 (bits .xor .u8 (f (i).toNat) y)) dD (0+(i).toNat*1) ?_ (hb:=ckF (t:=5) (kd:=.u8) (n:=64) (f:=W) (by omega));intro D9 qy;have rV:St [] w [⟨dD,true,.cells (aE .u8 64 (n8 W (0+(i).toNat*1) (bits .xor .u8 (f (i).toNat) y))) 5 (0,0)⟩,⟨bJ,true,.cells (aE .u8 64 f) 205 (0,0)⟩] D9:=St.stF (t:=5) (kd:=.u8) (n:=64) (f:=W) (i:=0) (off:=(0+(i).toNat*1)) (b:=dD) qy (by omega);refine aW (lS (aR (aZ ?_)));refine lA .i64 (i+1) (AO _ (by omega)) ?_;refine au (.int .i64 (i+1)) ?_;refine aW ?_;refine Gc λzy mP=>?_;exact⟨_,by omega,(i+1),(n8 W (0+(i).toNat*1) (bits .xor .u8 (f (i).toNat) y)),(λd=>zy.tmps.getD d undef),⟨rfl,by omega,by omega,aiY i W (by omega) aaF⟩,by subst mP;kernel_rfl,rV.re (R:=([]:List aj)) [[⟨dD,true,.cells (aE .u8 64 (n8 W (0+(i).toNat*1) (bits .xor .u8 (f (i).toNat) y))) 5 (0,0)⟩],[⟨bJ,true,.cells (aE .u8 64 f) 205 (0,0)⟩]] [0,1]⟩
 intro G6;have zm:=AW G6;refine wp_exit (lR (lR (vZ (aR (aS (aZ ?_))))));refine dZ ?_;refine gx ?_;refine aW (aR (gU ?_));refine gF rfl (gb [.tmp 4] [.slice (some ⟨dD,0,none⟩) 64 64] (.slice (some ⟨dD,0,none⟩) 64 64) ⟨jz,trivial⟩) ?_;have ze:aE .u8 64 W=aE .u8 64 (jk f y):=by rw[aaF,show i.toNat=64 by omega];exact aiX f y
 exact⟨dD,rfl,(qx.own 0 _ rfl rfl).resolve_left (by simp),by rw[<-ze];exact qx.at_ 0 _ rfl,qx.ch⟩
theorem aaG (pb:Nat) (b0 o0 n0 c0:Nat) (f0:Nat->Int) (b1 o1 n1 c1:Nat) (f1:Nat->Int) (h0:0<n0) (hn:n0+n1<=1000000) (w:ag) (hp:w.heap[pb]?=some (.cells #[.slice (some ⟨b0,o0,none⟩) n0 c0,.slice (some ⟨b1,o1,none⟩) n1 c1] 23 (0,0))) (BF:cx w b0 o0 n0 f0) (wQ:cx w b1 o1 n1 f1):
 aV prog 107 #[.slice (some ⟨pb,0,none⟩) 2 2] w λv w1=>∃b c1,v=.slice (some ⟨b,0,none⟩) (n0+n1) c1/\n0+n1<=c1/\w.heap.size<=b/\w1.heap[b]?=some (.cells (bI (n0+n1) (cA n0 f0 f1) c1) 5 (0,0))/\Ch [] w w1:=by
 have S0:=St.given (w:=w) [(pb,.cells #[.slice (some ⟨b0,o0,none⟩) n0 c0,.slice (some ⟨b1,o1,none⟩) n1 c1] 23 (0,0))] (all_cons hp (all_nil));refine jd Tryz.func107 rfl ?_;refine aS (aZ ?_);refine au (.slice none 0 0) ?_;refine aW (aR (aS (aZ ?_)));refine au (.slice none 0 0) ?_;refine aW (aR (aS (aS (aZ ?_))));refine dZ ?_;refine au (.int .i64 2) ?_;refine au (.int .i64 0) ?_;refine aW (aR (jw (FN 24 (aS (aZ ?_)))));refine au (.bool true) ?_;refine aW (aR (aS (v5 ?_)));refine j7 (aR (aS (jw (aS (aZ ?_)))));refine au (.pointer (some ⟨pb,0,none⟩)) ?_;refine pP S0 0 (.slice (some ⟨b0,o0,none⟩) n0 c0) pb 0 ?_;refine gx ?_;refine aW (aR (aZ ?_));refine au (.slice none 0 0) ?_;refine dZ ?_;have zS7:St [] w ([⟨pb,false,.cells #[.slice (some ⟨b0,o0,none⟩) n0 c0,.slice (some ⟨b1,o1,none⟩) n1 c1] 23 (0,0)⟩]++([]:List aj)) w:=S0.re (R:=([]:List aj)) [[⟨pb,false,.cells #[.slice (some ⟨b0,o0,none⟩) n0 c0,.slice (some ⟨b1,o1,none⟩) n1 c1] 23 (0,0)⟩]] [0];have BG:St [] w ([⟨pb,false,.cells #[.slice (some ⟨b0,o0,none⟩) n0 c0,.slice (some ⟨b1,o1,none⟩) n1 c1] 23 (0,0)⟩]++([]++([]:List aj))) w:=zS7.conv (by kernel_rfl);refine Y_ (n:=0) (c:=0) (f:=(λ_=>0)) (g:=f0) (xv:=.slice (some ⟨b0,o0,none⟩) n0 c0) BG (P_ 5) (A6 (e':=5) (St.lY S0 BF (by simp))) (by omega) ?_;intro zx2 RU zq1 mO RV dg;have aiZ:=Gi RV (by omega);obtain⟨zb9,wR,lE,kH⟩:=aiZ;subst lE;subst kH;refine gx ?_;refine aW (lS (aR (aZ ?_)));refine au (.int .i64 1) ?_;refine au (.int .i64 1) ?_;refine aW (v3 (aS (aZ ?_)));refine au (.bool true) ?_;refine aW (aR (aS (v5 ?_)));refine j7 (aR (aS (jw (aS (aZ ?_)))));refine au (.pointer (some ⟨pb,1,none⟩)) ?_;refine pP dg 0 (.slice (some ⟨b1,o1,none⟩) n1 c1) pb 1 ?_;refine gx ?_;refine aW (aR (aZ ?_));refine dZ ?_;refine dZ ?_;have rW:St [] w ([⟨pb,false,.cells #[.slice (some ⟨b0,o0,none⟩) n0 c0,.slice (some ⟨b1,o1,none⟩) n1 c1] 23 (0,0)⟩]++([⟨zb9,true,.cells (bI (0+n0) (cA 0 (λ_=>0) f0) RU) 5 (0,0)⟩]++([]:List aj))) mO:=dg.re (R:=([]:List aj)) [[⟨pb,false,.cells #[.slice (some ⟨b0,o0,none⟩) n0 c0,.slice (some ⟨b1,o1,none⟩) n1 c1] 23 (0,0)⟩],[⟨zb9,true,.cells (bI (0+n0) (cA 0 (λ_=>0) f0) RU) 5 (0,0)⟩]] [0,1];refine Y_ (n:=(0+n0)) (c:=RU) (f:=(cA 0 (λ_=>0) f0)) (g:=f1) (xv:=.slice (some ⟨b1,o1,none⟩) n1 c1) rW ⟨wR,.inr ⟨_,rfl,rfl⟩⟩ (A6 (e':=5) (St.lY dg wQ (by simp))) (by omega) ?_;intro ayF lg ayG BH D_ qz;have ai0:=Gi D_ (by omega);obtain⟨wS,tI,G7,rX⟩:=ai0;subst G7;subst rX;refine gx ?_;refine aW (lS (aR (aZ ?_)));refine au (.int .i64 2) ?_;refine au (.int .i64 2) ?_;refine aW (v3 (aS (aZ ?_)));refine au (.bool false) ?_;refine aW (aR (aS (pQ ?_)));refine wp_exit (lR (lR (vZ (aR (aS (aZ ?_))))));refine dZ ?_;refine gx ?_;refine aW (aR (gU ?_));refine gF rfl (gb [.tmp 2] [.slice (some ⟨wS,0,none⟩) ((0+n0)+n1) lg] (.slice (some ⟨wS,0,none⟩) ((0+n0)+n1) lg) ⟨jz,trivial⟩) ?_;have ze:bI ((0+n0)+n1) (cA (0+n0) (cA 0 (λ_=>0) f0) f1) lg=bI (n0+n1) (cA n0 f0 f1) lg:=RT (by omega) λi hi=>by simp only[ahk,jY,G5,eY]
 exact⟨wS,lg,by rw[show((0+n0)+n1)=n0+n1 by omega],by have:=tI;omega,(qz.own 1 _ rfl rfl).resolve_left (by simp),by rw[<-ze];exact qz.at_ 1 _ rfl,qz.ch⟩
def fR (kn:Nat) (kf:Nat->Int) (n:Nat) (d:Nat->Int):Nat->Int:=ji (64+32) (cA 64 (jk (dC (λ_=>0) 0 kn kf) 92) (ji (64+n) (cA 64 (jk (dC (λ_=>0) 0 kn kf) 54) d)))
def yD (f g:Nat->Int):Nat->Int
 |0=>0
 |k+1=>bits .or .u8 (yD f g k) (bits .xor .u8 (f k) (g k))
theorem ai1 {f g:Nat->Int} (i s:Int) (h:0<=i) (e:s=yD f g i.toNat):bits .or .u8 s (bits .xor .u8 (f i.toNat) (g i.toNat))=yD f g (i+1).toNat:=by
 have h1:(i+1).toNat=i.toNat+1:=by omega
 rw[h1,e];rfl
def o8 (n:Nat) (f g:Nat->Int):Bool:=yD f g n==0
theorem u6 (ka:Option aQ) (kn kc:Nat) (kf:Nat->Int) (b o n c:Nat) (d:Nat->Int) (u7:1<=kn/\kn<=64) (hn:n<=55) {tG:aJ} (w:ag) (hG:w.heap[1]?=some (.cells (aE .u32 64 cT) tG (0,0))) (hk:eJ w ka kn kc kf) (hB:cx w b o n d):
 aV prog 67 #[.slice ka kn kc,.slice (some ⟨b,o,none⟩) n c] w λv w1=>v=.agg (aE .u8 32 (fR kn kf n d))/\Ch [] w w1:=by
 have S0:=St.given (w:=w) [(1,.cells (aE .u32 64 cT) tG (0,0))] (all_cons hG (all_nil));refine jd Tryz.func67 rfl ?_;refine aS (aZ ?_);refine eZ S0 (λb=>.pointer (some ⟨b,0,none⟩)) (.cells (aE .u8 32 (λ_=>0)) 37) ?_;intro bJ iC dQ;refine aW (aR (aS (aZ ?_)));refine eZ dQ (λb=>.pointer (some ⟨b,0,none⟩)) (.cells (aE .u8 64 (λ_=>0)) 205) ?_;intro dD mO dg;refine aW (aR (aS (aS (aZ ?_))));refine au (.slice ka kn kc) ?_;refine au (.int .i64 ((kn:Nat):Int)) ?_;refine oR (.bool (decide (64<((kn:Nat):Int)))) (.bool false) (congrArg Dc (PF (by omega))) ?_;refine aW (aR (pQ ?_));refine aZ ?_;refine au (.slice (some ⟨dD,0,none⟩) 64 64) ?_;refine au (.slice ka kn kc) ?_;refine ahn (elem:=5) (t:=205) dg 0 dD 64 0 64 64 (λ_=>0) ka kn kc kf (eJ.quiet hk dg.ch) (by omega) (by omega) (by omega) (by kernel_rfl) (by kernel_rfl:_=[⟨dD,true,.cells (aE .u8 64 (dC (λ_=>0) 0 kn kf)) 205 (0,0)⟩,⟨bJ,true,.cells (aE .u8 32 (λ_=>0)) 37 (0,0)⟩,⟨1,false,.cells (aE .u32 64 cT) tG (0,0)⟩]) ?_;intro Ea BG;refine aW (aR (aS (aZ ?_)));refine kA BG 0 64 (aE .u8 64 (dC (λ_=>0) 0 kn kf)) dD 0 ?_;refine fT 108 #[.agg (aE .u8 64 (dC (λ_=>0) 0 kn kf)),.int .u8 54] ?_;refine(aaD (dC (λ_=>0) 0 kn kf) 54 _).mono ?_;rintro _ zw9 ⟨LN,rfl,ny,u5,lE⟩;have zo:=BG.new lE ny u5;refine dZ ?_;refine eZ zo (λb=>.slice (some ⟨b,0,none⟩) 2 2) (.cells #[.slice (some ⟨LN,0,none⟩) 64 64,.slice (some ⟨b,o,none⟩) n c] 23) ?_;intro mQ aaH rV;refine fT 107 #[.slice (some ⟨mQ,0,none⟩) 2 2] ?_;refine(aaG mQ LN 0 64 64 (jk (dC (λ_=>0) 0 kn kf) 54) b o n c d (by omega) (by omega) _ (rV.at_ 0 _ rfl) (St.ff (N:=64) (f:=(jk (dC (λ_=>0) 0 kn kf) 54)) (wr:=true) (t:=5) (fr:=(0,0)) rV 1) (St.lY rV hB (by simp))).mono ?_;rintro _ BH ⟨wS,BI,rfl,rX,tI,G8,zm⟩;have rW:=rV.new zm tI G8;refine fT 106 #[.slice (some ⟨wS,0,none⟩) (64+n) BI] ?_;refine(RR wS 0 (64+n) BI (cA 64 (jk (dC (λ_=>0) 0 kn kf) 54) d) (by omega) _ (rW.at_ 5 _ rfl) (St.A8 (c:=BI) (wr:=true) (t:=5) (fr:=(0,0)) rW 0)).mono ?_;rintro _ aaI ⟨rfl,kI⟩;have G9:=rW.quiet kI;refine eZ G9 (λb=>.pointer (some ⟨b,0,none⟩)) (.cells (aE .u8 32 (λ_=>0)) 37) ?_;intro Eb LR RW;refine store_ RW 0 (.agg (aE .u8 32 (ji (64+n) (cA 64 (jk (dC (λ_=>0) 0 kn kf) 54) d)))) Eb 0 ?_;intro ai2 wT;refine aW (aR (aS ?_));refine A1 3 [⟨0,λ_=>.agg (aE .u8 64 (dC (λ_=>0) 0 kn kf)),λ_=>[]⟩,⟨1,λids=>.slice (some ⟨(ids.getD 0 0),0,none⟩) 64 64,λids=>[((ids.getD 0 0),.cells (aE .u8 64 (jk (dC (λ_=>0) 0 kn kf) 92)) 5 (0,0))]⟩,⟨0,λ_=>.slice (some ⟨Eb,0,none⟩) 32 32,λ_=>[]⟩] [[3,1,0],[3,1],[3,2],[4,1,0],[4,1],[4,3,2],[4,3],[5,4,1,0],[5,4,1],[5,4,3,2],[5,4,3],[5,4],[6,0],[6,1],[6,2],[6,3],[6,4],[6,5]] ?_ ?_
 ·refine step_cons (FY wT 4 dD 0 64 (aE .u8 64 (dC (λ_=>0) 0 kn kf))) ?_;refine step_cons ?_ ?_
  ·intro ai3 ayH aaJ ayI ai4;have tJ:ai3 25=.agg (aE .u8 64 (dC (λ_=>0) 0 kn kf)):=(Sp.dO (ai4 0 25 (by kernel_rfl) (by kernel_rfl))).1;have ai5:=wT.quiet aaJ;refine pV ?_;refine mC [(25,.agg (aE .u8 64 (dC (λ_=>0) 0 kn kf)))] (mD tJ (pT)) ?_;have ai6:=ai5.loc;refine Y.fT 108 #[.agg (aE .u8 64 (dC (λ_=>0) 0 kn kf)),.int .u8 92] ?_;refine(aaD (dC (λ_=>0) 0 kn kf) 92 _).mono ?_;rintro _ ayJ ⟨ai7,rfl,ai8,RX,G_⟩;have aaK:=ai6.new G_ ai8 RX;exact⟨aaK.ch,Sp.pU [ai7] (all_cons (aaK.we aaJ.size 0 (by kernel_rfl)) (all_nil))⟩
  refine step_cons iy ?_;exact A0
 intro RY aaL ai9 RZ;have Ec:RY 0=.agg (aE .u8 64 (dC (λ_=>0) 0 kn kf)):=(Sp.dO (RZ 0 (by kernel_rfl))).1;have R1:=Sp.wc (RZ 1 (by kernel_rfl));obtain⟨lF,R2,R3⟩:=R1;have R4:RY 1=.slice (some ⟨lF,0,none⟩) 64 64:=R2;have R5:∀zp∈([(lF,.cells (aE .u8 64 (jk (dC (λ_=>0) 0 kn kf) 92)) 5 (0,0))]:List (Nat×Obj)),ai2.heap.size<=zp.1/\aaL.heap[zp.1]?=some zp.2:=R3;have R6:RY 2=.slice (some ⟨Eb,0,none⟩) 32 32:=(Sp.dO (RZ 2 (by kernel_rfl))).1;have LS:=wT.ro ai9 ([(lF,.cells (aE .u8 64 (jk (dC (λ_=>0) 0 kn kf) 92)) 5 (0,0))]) (R5);refine⟨[.agg (aE .u8 64 (dC (λ_=>0) 0 kn kf)),.slice (some ⟨lF,0,none⟩) 64 64,.slice (some ⟨Eb,0,none⟩) 32 32],by kernel_rfl,eB Ec (eB R4 (eB R6 (Dp))),?_⟩;refine eZ LS (λb=>.slice (some ⟨b,0,none⟩) 2 2) (.cells #[.slice (some ⟨lF,0,none⟩) 64 64,.slice (some ⟨Eb,0,none⟩) 32 32] 23) ?_;intro wU ai_ LU;refine fT 107 #[.slice (some ⟨wU,0,none⟩) 2 2] ?_;refine(aaG wU lF 0 64 64 (jk (dC (λ_=>0) 0 kn kf) 92) Eb 0 32 32 (ji (64+n) (cA 64 (jk (dC (λ_=>0) 0 kn kf) 54) d)) (by omega) (by omega) _ (LU.at_ 0 _ rfl) (St.ff (N:=64) (f:=(jk (dC (λ_=>0) 0 kn kf) 92)) (wr:=false) (t:=5) (fr:=(0,0)) LU 1) (St.ff (N:=32) (f:=(ji (64+n) (cA 64 (jk (dC (λ_=>0) 0 kn kf) 54) d))) (wr:=true) (t:=37) (fr:=(0,0)) LU 2)).mono ?_;rintro _ ayK ⟨aaM,R7,rfl,aaN,R9,aja,ajb⟩;have R_:=LU.new ajb R9 aja;refine fT 106 #[.slice (some ⟨aaM,0,none⟩) (64+32) R7] ?_;refine(RR aaM 0 (64+32) R7 (cA 64 (jk (dC (λ_=>0) 0 kn kf) 92) (ji (64+n) (cA 64 (jk (dC (λ_=>0) 0 kn kf) 54) d))) (by omega) _ (R_.at_ 9 _ rfl) (St.A8 (c:=R7) (wr:=true) (t:=5) (fr:=(0,0)) R_ 0)).mono ?_;rintro _ ayL ⟨rfl,ajc⟩;have ajd:=R_.quiet ajc;refine store_ ajd 8 (.agg (aE .u8 32 (ji (64+32) (cA 64 (jk (dC (λ_=>0) 0 kn kf) 92) (ji (64+n) (cA 64 (jk (dC (λ_=>0) 0 kn kf) 54) d)))))) bJ 0 ?_;intro ayM aaO;refine aW (aR (gU ?_));refine gF rfl (gb [.cell 4 37] [.agg (aE .u8 32 (ji (64+32) (cA 64 (jk (dC (λ_=>0) 0 kn kf) 92) (ji (64+n) (cA 64 (jk (dC (λ_=>0) 0 kn kf) 54) d)))))] (.agg (aE .u8 32 (ji (64+32) (cA 64 (jk (dC (λ_=>0) 0 kn kf) 92) (ji (64+n) (cA 64 (jk (dC (λ_=>0) 0 kn kf) 54) d)))))) ⟨ni aaO 8 32 bJ 0,trivial⟩) ?_;exact⟨by(unfold fR)<;>kernel_rfl,aaO.ch⟩
theorem Sa (ka:Option aQ) (kn kc:Nat) (kf:Nat->Int) (b o n c:Nat) (d:Nat->Int) (u7:1<=kn/\kn<=64) (hn:n<=55) {tG:aJ} (w:ag) (hG:w.heap[1]?=some (.cells (aE .u32 64 cT) tG (0,0))) (hk:eJ w ka kn kc kf) (hB:cx w b o n d):
 aV prog 42 #[.slice ka kn kc,.slice (some ⟨b,o,none⟩) n c] w λv w1=>v=.agg (aE .u8 8 (fR kn kf n d))/\Ch [] w w1:=by
 have S0:=St.given (w:=w) [(1,.cells (aE .u32 64 cT) tG (0,0))] (all_cons hG (all_nil));refine jd Tryz.func42 rfl ?_;refine aS (aZ ?_);refine eZ S0 (λb=>.pointer (some ⟨b,0,none⟩)) (.cells (aE .u8 8 (λ_=>0)) 38) ?_;intro bJ iC dQ;refine aW (aR (aS (aZ ?_)));refine au (.slice ka kn kc) ?_;refine dZ ?_;refine fT 67 #[.slice ka kn kc,.slice (some ⟨b,o,none⟩) n c] ?_;refine(u6 ka kn kc kf b o n c d (by omega) (by omega) _ (dQ.at_ 1 _ rfl) (eJ.quiet hk dQ.ch) (St.lY dQ hB (by simp))).mono ?_;rintro _ Ha ⟨rfl,Hb⟩;have dg:=dQ.quiet Hb;refine eZ dg (λb=>.pointer (some ⟨b,0,none⟩)) (.cells (aE .u8 32 (λ_=>0)) 37) ?_;intro tK zw8 jl;refine store_ jl 0 (.agg (aE .u8 32 (fR kn kf n d))) tK 0 ?_;intro aje zo;refine aW (aR (aS (aZ ?_)));refine au (.slice (some ⟨tK,0,none⟩) 8 32) ?_;refine au (.pointer (some ⟨tK,0,none⟩)) ?_;refine kA zo 0 8 (aE .u8 8 (fR kn kf n d)) tK 0 ?_;refine store_ zo 1 (.agg (aE .u8 8 (fR kn kf n d))) bJ 0 ?_;intro Sb BJ;refine aW (aR (gU ?_));refine gF rfl (gb [.cell 4 38] [.agg (aE .u8 8 (fR kn kf n d))] (.agg (aE .u8 8 (fR kn kf n d))) ⟨ni BJ 1 8 bJ 0,trivial⟩) ?_;exact⟨by kernel_rfl,BJ.ch⟩
theorem aaP (b o n c e q k:Nat) (f g:Nat->Int) (hn:n<=1000000) (w:ag) (hB:cx w b o n f) (hE:cx w e q n g):
 aV prog 192 #[.slice (some ⟨b,o,none⟩) n c,.slice (some ⟨e,q,none⟩) n k] w λv w1=>v=.bool (o8 n f g)/\Ch [] w w1:=by
 have S0:=St.nil [] w;refine jd Tryz.func192 rfl ?_;refine aS (aZ ?_);refine au (.bool false) ?_;refine aW (aR (aS (aS (aZ ?_))));refine dZ ?_;refine au (.int .i64 ((n:Nat):Int)) ?_;refine dZ ?_;refine au (.int .i64 ((n:Nat):Int)) ?_;refine oR (.bool (((n:Nat):Int)!=((n:Nat):Int))) (.bool false) (congrArg Dc (neF (by omega))) ?_;refine aW (aR (pQ ?_));refine j7 (aR (aS (aZ ?_)));refine au (.int .u8 0) ?_;refine aW (aR (aS (aS (aZ ?_))));refine dZ ?_;refine au (.int .i64 ((n:Nat):Int)) ?_;refine au (.int .i64 0) ?_;refine aW (aR (jw ?_));refine Kz (λzn za zw=>∃(i:Int) (s:Int) (fQ:Nat->ae),(zn=(((n:Nat):Int)-i).toNat/\0<=i/\i<=((n:Nat):Int)/\s=yD f g i.toNat)/\za=⟨#[.slice (some ⟨b,o,none⟩) n c,.slice (some ⟨e,q,none⟩) n k,undef,undef,.bool false,.int .u8 s,(fQ 6),(fQ 7),.slice (some ⟨b,o,none⟩) n c,.int .i64 ((n:Nat):Int),.slice (some ⟨e,q,none⟩) n k,.int .i64 ((n:Nat):Int),.bool false,.slice (some ⟨b,o,none⟩) n c,.int .i64 ((n:Nat):Int),.int .i64 i,(fQ 16),(fQ 17),(fQ 18),(fQ 19),(fQ 20),(fQ 21),(fQ 22),(fQ 23),(fQ 24),(fQ 25),(fQ 26),(fQ 27),(fQ 28),undef,undef],[]⟩/\St [] w [] zw) _ (λzy mP=>⟨(0:Int),(0:Int),(λd=>zy.tmps.getD d undef),⟨rfl,by omega,by omega,rfl⟩,by subst mP;kernel_rfl,S0.re (R:=([]:List aj)) [] []⟩) ?_;rintro _ _ mO ⟨i,s,fQ,⟨rfl,zf2,zf3,wV⟩,rfl,dg⟩;refine aS (aZ ?_);refine au (.bool (decide (i<((n:Nat):Int)))) ?_;refine aW (aR (aS ?_));refine s_ (decide (i<((n:Nat):Int))) ?_ ?_
 ·intro wW;have o9:=AV wW;refine j7 (aR (aS (jw (aS (aZ ?_)))));refine au (.int .i64 i) ?_;refine rG (e:=5) b o (i).toNat n 1 c .i64 i (by omega) (by omega) (by omega) ?_;refine uH b o n (o+(i).toNat*1) (i).toNat f (St.lY dg hB (by simp)) (by omega) (by omega) ?_;refine au (.int .i64 i) ?_;refine au (.int .u8 (f (i).toNat)) ?_;refine aW (aR (aZ ?_));refine au (.int .u8 s) ?_;refine au (.int .u8 (f (i).toNat)) ?_;refine dZ ?_;refine au (.int .i64 i) ?_;refine rG (e:=5) e q (i).toNat n 1 k .i64 i (by omega) (by omega) (by omega) ?_;refine uH e q n (q+(i).toNat*1) (i).toNat g (St.lY dg hE (by simp)) (by omega) (by omega) ?_;refine au (.int .u8 (bits .xor .u8 (f (i).toNat) (g (i).toNat))) ?_;refine au (.int .u8 (bits .or .u8 s (bits .xor .u8 (f (i).toNat) (g (i).toNat)))) ?_;refine gx ?_;refine aW (lS (aR (aZ ?_)));refine lA .i64 (i+1) (AO _ (by omega)) ?_;refine au (.int .i64 (i+1)) ?_;refine aW ?_;refine Gc λzy mP=>?_;exact⟨_,by omega,(i+1),(bits .or .u8 s (bits .xor .u8 (f (i).toNat) (g (i).toNat))),(λd=>zy.tmps.getD d undef),⟨rfl,by omega,by omega,ai1 i s (by omega) wV⟩,by subst mP;kernel_rfl,dg.re (R:=([]:List aj)) [] []⟩
 intro wY;have lE:=AW wY;refine wp_exit (lR (lR (vZ (aR (aS (aZ ?_))))));refine au (.int .u8 s) ?_;refine au (.bool (s==0)) ?_;refine au (.bool (s==0)) ?_;refine aW (aR (gU ?_));refine gF rfl (gb [.tmp 4] [.bool (s==0)] (.bool (s==0)) ⟨jz,trivial⟩) ?_;exact⟨congrArg Dc (by unfold o8;rw[wV,show i.toNat=n by omega]),dg.ch⟩
end
end Go.Proofs.YtggfpcggakghnaaGreatDoor
