/- Part 1 of the proof. -/
import Derived.TacticsIn
import Derived.OrdersIn
import Derived.RangeFuncRecord
import Derived.Test.YtddcipamdggcnaaGreatDoorProg
import Derived.Test.YtddcipamdggcnaaGreatDoorU0
set_option linter.all false
set_option maxRecDepth 100000
set_option maxHeartbeats 4000000
noncomputable section
open Go.Proofs.Tryz
open Go.IntKind (u8 u16 u32 u64 i64)
open Array renaming getElem?_replicate->Bx,getD->DS,toList_append->GB,all_eq_true_iff_forall_mem->K3,getElem?_eq_getElem->K4,toList_setIfInBounds->K5,getElem?_eq_none->KW,toList_map->Y_,ext'->fP,getD_eq_getD_getElem?->jO,getElem?_setIfInBounds->s9,length_toList->w7,replicate->zL
open Bool renaming or_eq_true->Bv,true->af,false->ah,and_eq_true->bJ,not_eq_true'->pj
open Go renaming ResultVar->KY,Oper->aA,Addr->aF,Program->aL,TypeId->aP,Value->aj,World->an,Operand->bA,run_underlying->dF,Exit->dR,Code->eZ,FuncId->fG,IntKind->gw,heap_alloc_new->oB,sizeOf->qp,MapEntry->xd
open Go.Addr renaming add_lit->iY,add->qo
open Go.Builtin renaming append_->nJ,zeroCells->rD
open Go.Deferred renaming ofValue->ahb
open Go.Exit renaming inBlock->KX
open Go.Fence renaming wide->Qd
open Go.Instr renaming storeAt->Gz,makeSlice->La,findNow->Qa,buildSlice->Za,mapUpdate->ahe,sureAddr->jt,sliceBound->nK,loadAt->qq,sliceAt->qy,sliceBounds->qz,indexAt->uq,slice->w_
open Go.IntKind renaming bits->td,signed->te,wrap->vH
open Go.Oper renaming uponIn_value->K9,looksAt->K_,uponIn_skip->ahc
open Go.Place renaming get->aha
open Go.Region renaming wanted->gU,ready->rA,binds->s_
open Go.Result renaming andThen_ok->cD,andThen->ju
open Go.Sem renaming run_bind->bH,run_pure->de
open Go.Src renaming ofSlice->qu
open Go.Value renaming bool->K8,int->fI
open Go.World renaming cell?->zK
open Int renaming ofNat_eq_natCast->DU,ofNat->dS,fdiv->il,toNat_natCast->tf
open List renaming any_eq_true->Bu,getElem?_drop->GC,getElem?_set_ne->KV,getElem?_take->Qc,count_replicate_self->Y4,length_singleton->Zb,getElem?_take_of_lt->Ze,append_assoc->bZ,range->bg,mem_cons->cG,append_nil->cy,mem_append->dV,length_append->fH,cons_append->fe,nil_append->fu,getElem?_append_left->gB,getD->gh,map_cons->gx,all_eq_true->ik,getElem?_toArray->j7,getElem?_eq_none->jA,take_append_drop->jR,mem_singleton->jS,getElem?_eq_getElem->jh,length_cons->jv,getElem?_map->kA,mem_append_left->kB,perm_middle->kY,map_map->lN,Perm->lO,map_congr_left->mB,mem_map->oC,replicate->oE,mem_append_right->oF,getElem?_range->pr,mem_cons_of_mem->qA,mem_of_getElem?->rC,perm_append_comm_assoc->rG,range_succ_eq_map->ta,nodup_cons->uo,map_append->uw,range_succ->vK,flatMap_append->vL,length_take->w9,singleton_append->xi,mem_cons_self->xk,ext_getElem?->zN
open List.Perm renaming append_right->BA,swap->Bz,append_left->j8,trans->xm,refl->zM
open List.Sublist renaming append_right->Zd,append_left->mV,cons_cons->xn
open Nat renaming mul_le_mul_right->P9,le_of_not_lt->Zc,beq->aC,testBit->ahd,le_refl->cW,ble->ck,eq_of_beq_eq_true->cw,zero_add->d_,lt_or_ge->di,blt->dq,le_of_ble_eq_true->eU,le_trans->h_,blt_eq->jQ,add_zero->lM,add_mul->oD,eq_zero_or_pos->uu,beq_refl->uv,add_assoc->ux,ble_eq_true_of_le->w8
open Option renaming getD_some->Y3,some->aa,none->ag,map_eq_some_iff->jr,map_some->pk
open Option.some renaming injEq->a_,inj->cP
open Prod.mk renaming injEq->bI
open Go Go.RowKit Go.BigFrame Sx Vx
namespace Vx
section
variable{ae:List Nat}{P:aL}{w w0:an}{ms:List Nat}{e:bA->V}{ρ:bA->aj}{bl:List VB}{R:List av}
def lY(b:Nat):(ae++[b]).getD ae.length 0=b:=by simp[gh]
def aal{t el:aP}{len z:Nat}{zc c:List V}{ps:List (Nat×V)}(hu:P.underlying t=aa (.slice el))(hz:eI P el=aa (z+1))(h0:lX P el=aa zc)(hl:cM zc=z+1)(hb:len*(z+1)<=2^24)
 (hf:Aa (λi=>aa (i*(z+1),z+1)) (mI zc len) ps=aa c):(Za t len (ps.map λp=>(p.1,den ae p.2)).toArray).run P w=.ok (.slice (aa ⟨w.heap.size,0,ag⟩) len len) (w.alloc (.cells (ao ae c).toArray el)):=by
 have BZ:=Q_ (ae:=ae) (place:=λi=>aa (i*(z+1),z+1)) (λi x hx=>hx) ps _ c hf;obtain⟨v0,z1,z2⟩:=BW (P:=P) (w:=w) (ae:=ae) h0;have xG:¬(len*(z+1)>2^24):=oM;have hv:v0.cells.size=z+1:=by rw[<-w7,z2,lW,hl]
 have Hh:(Array.range (len*(z+1))).map (λi=>v0.cells[i%v0.cells.size]!)=(ao ae (mI zc len)).toArray:=by
  apply fP;rw[Rr v0.cells z hv,z2,aak]
 by_cases nO:len*(z+1)=0
 ·have xK:len=0:=by rcases Nat.mul_eq_zero.1 nO with h|h;exact h;omega
  subst xK;simp only[Za,bH,dF hu,cD,gy hz,if_neg xG];simp only[mI,ao]at BZ;simp only[Nat.zero_mul,if_true,bH,de,cD,List.toList_toArray,show Array.range 0=#[]from rfl,Array.map_empty];rw[BZ];rfl
 ·simp only[Za,bH,dF hu,cD,gy hz,if_neg xG,if_neg nO,z1,de,List.toList_toArray];rw[Hh,BZ];rfl
def aif(bo:∀x,ρ x=den ae (e x))(o:aA){v:V}{b:VB}(h:El P e ae.length o.op=aa (v,b)):
 (execOp ρ o).run P w=.ok (.value (den (ae++[w.heap.size]) v)) (w.alloc (.cells (ao ae b.c).toArray b.ty.t))/\b.wr=af/\b.ty.fz=(0,0):=by
 unfold execOp;unfold El at h;split at h
 ·rename_i t ho;split at h
  ·rename_i z hz;simp only[a_,bI]at h;obtain⟨rfl,rfl⟩:=h;obtain⟨v0,z1,z2⟩:=BW (P:=P) (w:=w) (ae:=ae) hz;have BY:v0.cells=(ao ae z).toArray:=by apply fP;simpa using z2
   refine⟨?_,rfl,rfl⟩;simp only[ho,Instr.alloc,bH,z1,cD,newVar,newRow,BY,den,lY];rfl
  ·cases h
 ·rename_i t x ho;cases hq:rR (e x)with
  |false=>rw[hq]at h;simp at h
  |true=>
   rw[hq]at h;simp only[cond_true,a_,bI]at h;obtain⟨rfl,rfl⟩:=h;have hc:(ρ x).cells=(ao ae (kO (e x))).toArray:=by apply fP;rw[bo,Q4 hq]
   refine⟨?_,rfl,rfl⟩;simp only[ho,Instr.box,bH,newVar,newRow,hc,den,lY];rfl
 ·rename_i t len ps ho;split at h
  ·rename_i el hu;split at h
   ·rename_i z zc hz Rs;cases hq:aC (cM zc) (z+1)&&(ck (len*(z+1)) (2^24)&&!(aC len 0&&(aC z 5||(aC z 9||(aC z 13||aC z 45)))))with
    |false=>rw[hq]at h;simp at h
    |true=>
     rw[hq]at h;simp only[cond_true]at h;simp only[bJ]at hq;split at h
     ·rename_i c hc;simp only[a_,bI]at h;obtain⟨rfl,rfl⟩:=h;have:=aal (ae:=ae) (w:=w) hu hz Rs (cw hq.1) (eU hq.2.1) hc;refine⟨?_,rfl,rfl⟩;simp only[ho];rw[bH,show(ps.map λ(x:Nat×bA)=>match x with|(i,x)=>(i,ρ x))=(ps.map λ(p:Nat×bA)=>(p.1,ρ p.2))from rfl,aag ps bo,this];simp[den,lY]
     ·cases h
   ·cases h
  ·cases h
 ·cases h
def grow(hl:ae.length=bl.length)(S:St ms w0 (lits ae ae bl++R) w)(b:VB)(hw:b.wr=af)(hf:b.ty.fz=(0,0))(h1:bY ae.length bl=af)(h2:bF ae.length b.c=af):
 St ms w0 (lits (ae++[w.heap.size]) (ae++[w.heap.size]) (bl++[b])++R) (w.alloc (.cells (ao ae b.c).toArray b.ty.t))/\(ae++[w.heap.size]).length=(bl++[b]).length:=by
 refine⟨?_,by simp[hl]⟩;have h:=S.new (Ch.alloc [] w (.cells (ao ae b.c).toArray b.ty.t)) (cW _) (oB w _);have e:aI (ae++[w.heap.size]) w.heap.size b=⟨w.heap.size,af,.cells (ao ae b.c).toArray b.ty.t (0,0)⟩:=by
  simp only[aI,jI _ h2,hw,hf]
 rw[fw _ _ _ _ hl,fy _ _ h1];simp only[lits,e];refine h.perm ?_;rw[bZ];exact kY.symm
end
def xL:List V->Option (gw×Nat×(Nat->Int))
 |.arr k n f::_=>aa (k,n,f)
 |_=>ag
def L_(f:Nat->Int)(i:Nat)(v:Int):Nat->Int:=λj=>bif aC j i then v else f j
def nf(i:Nat)(v:Int):List V->List V
 |.arr k n f::r=>.arr k n (L_ f i v)::r
 |.cu k n f::r=>.cu k n (L_ f i v)::r
 |l=>l
def hdB:List V->Option (gw×Nat×(Nat->Int))
 |.cu k n f::_=>aa (k,n,f)
 |l=>xL l
def hdI(ix:bA)(c:List V):Option (gw×Nat×(Nat->Int)):=match ix with
 |.tmp 59=>hdB c
 |.tmp 70=>hdB c
 |_=>xL c
def rawIx:bA->Bool
 |.tmp 106=>af
 |.tmp 103=>af
 |.tmp 123=>af
 |.tmp 135=>af
 |_=>ah
def Hj:List V->Option (List Bool)
 |[]=>aa []
 |.bool b::l=>(match Hj l with|some r=>aa (b::r)|none=>ag)
 |_=>ag
def aam(P:aL)(t:aP):Bool:=match P.underlying t with|some .bool=>af|_=>ah
def aan(l:List Bool)(j:Nat):Bool:=l.getD j ah
def B2(P:aL)(bl:List VB)(t:aP)(x:V):Option (Prop×V):=match x with
 |.pe i o j z k=>(match bl[i]?with
  |some b=>(match b.c with
   |.gm z' n g::_=>(match o with
    |0=>bif aC z z' then(match uN P t ((g j).map BU) k with|some v=>aa ((j<n/\∀j,(g j).length=z),v)|none=>ag)else ag
    |_=>ag)
   |.rest aw::.gm z' n g::_=>bif aC z z' then(match uN P t ((g j).map BU) k with|some v=>aa ((o=aw.length/\j<n/\∀j,(g j).length=z),v)|none=>ag)else ag
   |.rest []::.arr kd n f::_=>(match z,k,qI P t with
    |1,0,aa ah=>aa (o+j<n,.int kd (f (o+j)))
    |_,_,_=>ag)
   |c=>(match xL c,z,k,qI P t with
    |some (kd,n,f),1,0,aa ah=>aa (o+j<n,.int kd (f (o+j)))
    |none,1,0,aa ah=>(match z6 c o 5 with|some l=>(match Hj l with|some r=>aa (j<5,.bool (aan r j))|none=>ag)|none=>ag)
    |_,_,_,_=>ag))
  |none=>ag)
 |_=>ag
def B3(P:aL)(bl:List VB)(t:aP)(x v:V):Prop:=vX P bl t x=aa v\/∃p,B2 P bl t x=aa (p,v)/\p
def B4(P:aL)(e:bA->V)(bl:List VB):Op->Option (Prop×V)
 |.indexAddr t x ix=>(match e x with
  |.sl i o n _=>(match bl[i]?with
   |some b=>(match b.c with
    |.gm z' _ _::_=>(match o with
     |0=>(match P.underlying t,e ix with
      |some (.slice el),.int _ m=>(match eI P el with
       |some z=>bif aC z z' then aa ((0<=m/\m<(n:Int)),.pe i 0 m.toNat z 0)else ag
       |none=>ag)
      |_,_=>ag)
     |_=>ag)
    |.rest aw::.gm z' _ _::_=>(match P.underlying t,e ix with
     |some (.slice el),.int _ m=>(match eI P el with
      |some z=>bif aC z z' then aa ((0<=m/\m<(n:Int)),.pe i o m.toNat z 0)else ag
      |none=>ag)
     |_,_=>ag)
    |.rest []::.arr _ _ _::_=>(match P.underlying t,e ix with
     |some (.slice el),.int _ m=>(match eI P el with
      |some 1=>aa ((0<=m/\m<(n:Int)),.pe i o m.toNat 1 0)
      |_=>ag)
     |_,_=>ag)
    |c=>(match hdI ix c,P.underlying t,e ix with
     |some _,aa (.slice el),.int _ m=>(match eI P el with
      |some 1=>aa ((0<=m/\m<(n:Int)),.pe i o m.toNat 1 0)
      |_=>ag)
     |_,_,_=>ag))
   |none=>ag)
  |.ptr i o=>(match bl[i]?with
   |some b=>(match xL b.c,P.underlying t,e ix with
    |some _,aa (.array n el),.int _ m=>(match eI P el with
     |some 1=>aa ((0<=m/\m<(n:Int)),.pe i o m.toNat 1 0)
     |_=>ag)
    |none,aa (.array n el),.int _ m=>bif aC n 5&&aam P el then(match eI P el with
     |some 1=>aa ((0<=m/\m<(n:Int)),.pe i o m.toNat 1 0)
     |_=>ag)else ag
    |_,_,_=>ag)
   |none=>ag)
  |.dB i o n _ _=>(match bl[i]?with
   |some b=>(match b.c with
    |.gm z' _ _::_=>(match o with
     |0=>(match P.underlying t,e ix with
      |some (.slice el),.int _ m=>(match eI P el with
       |some z=>bif aC z z' then aa ((0<=m/\m<(n:Int)),.pe i 0 m.toNat z 0)else ag
       |none=>ag)
      |_,_=>ag)
     |_=>ag)
    |.rest aw::.gm z' _ _::_=>(match P.underlying t,e ix with
     |some (.slice el),.int _ m=>(match eI P el with
      |some z=>bif aC z z' then aa ((0<=m/\m<(n:Int)),.pe i o m.toNat z 0)else ag
      |none=>ag)
     |_,_=>ag)
    |_=>ag)
   |none=>ag)
  |.raw (.slice a n _)=>bif rawIx ix then(match P.underlying t,e ix with
   |some (.slice el),.int _ m=>(match eI P el with
    |some z=>aa (((0<=m/\m<(n:Int))/\∃b,a=aa b),.raw (.pointer (a.map λb=>b.add (m.toNat*z))))
    |none=>ag)
   |_,_=>ag)else ag
  |_=>ag)
 |.slice t x ag (aa hi) ag=>(match e x with
  |.sl i o n c=>(match bl[i]?with
   |some b=>(match b.c with
    |.gm z' _ _::_=>(match o with
     |0=>(match P.underlying t,e hi with
      |some (.slice el),.int _ m=>(match eI P el with
       |some z=>aa ((0<=m/\m<=(c:Int)),.sl i 0 m.toNat c)
       |none=>ag)
      |_,_=>ag)
     |_=>ag)
    |.rest aw::.gm z' _ _::_=>(match P.underlying t,e hi with
     |some (.slice el),.int _ m=>(match eI P el with
      |some z=>aa ((0<=m/\m<=(c:Int)),.sl i o m.toNat c)
      |none=>ag)
     |_,_=>ag)
    |.rest []::.arr _ _ _::_=>(match P.underlying t,e hi with
     |some (.slice el),.int _ m=>(match eI P el with
      |some z=>aa ((0<=m/\m<=(c:Int)),.sl i o m.toNat c)
      |none=>ag)
     |_,_=>ag)
    |_=>ag)
   |none=>ag)
  |.raw (.slice a n c)=>(match P.underlying t,e hi with
   |some (.slice el),.int _ m=>(match eI P el with
    |some z=>aa ((0<=m/\m<=(c:Int)),.raw (.slice a m.toNat c))
    |none=>ag)
   |_,_=>ag)
  |.dB i o n c _=>(match P.underlying t,e hi with
   |some (.slice el),.int _ m=>(match eI P el with
    |some z=>aa ((0<n/\0<=m/\m<=(c:Int)),.sl i o m.toNat c)
    |none=>ag)
   |_,_=>ag)
  |_=>ag)
 |.index t x ix=>(match P.underlying t,e x,e ix with
  |some (.array n el),.agg l,.int _ m=>(match xL l,eI P el,qI P el with
   |some (kd,N,f),aa 1,aa ah=>aa (((0<=m/\m<(n:Int))/\m.toNat<N),.int kd (f m.toNat))
   |_,_,_=>ag)
  |_,_,_=>ag)
 |.slice t x (aa lo) ag ag=>(match e x with
  |.sl i o n c=>(match bl[i]?with
   |some b=>(match b.c with
    |.rest []::.arr _ _ _::_=>(match P.underlying t,e lo with
     |some (.slice el),.int _ m=>(match eI P el with
      |some 1=>aa ((0<=m/\m<=(n:Int)),.sl i (bif aC c m.toNat then o else o+m.toNat) (n-m.toNat) (c-m.toNat))
      |_=>ag)
     |_,_=>ag)
    |_=>ag)
   |none=>ag)
  |ex=>(match ex,P.underlying t,e lo with
   |.raw (.slice (aa ⟨b,q,ag⟩) n c),aa (.slice el),.int _ (.ofNat k)=>(match eI P el with
    |some 1=>aa ((k<n/\n<=c),.raw (.slice (aa ⟨b,q+k,ag⟩) (n-k) (c-k)))
    |_=>ag)
   |_,_,_=>ag))
 |.slice t x (aa lo) (aa hi) ag=>(match e x with
  |.sl i o n c=>(match bl[i]?with
   |some b=>(match b.c with
    |.rest []::.arr _ _ _::_=>(match P.underlying t,e lo,e hi with
     |some (.slice el),.int _ m,.int _ h=>(match eI P el with
      |some 1=>aa ((0<=m/\m<=h/\h<=(c:Int)),.sl i (bif aC c m.toNat then o else o+m.toNat) (h.toNat-m.toNat) (c-m.toNat))
      |_=>ag)
     |_,_,_=>ag)
    |_=>ag)
   |none=>ag)
  |_=>ag)
 |.binOp .rem _ x (.tmp 86) _=>(match e x,e (.tmp 86)with
  |.int .i64 a,.int .i64 b=>aa (0<b,.int .i64 (a.tmod b))
  |_,_=>ag)
 |.binOp .shl _ x (.tmp y) _=>bif aC y 30||aC y 47 then(match e x,e (.tmp y)with
  |.int k a,.int _ b=>aa (0<=b,.int k (k.wrap (a*2^(min b.toNat k.bits))))
  |_,_=>ag)else ag
 |_=>ag
def Rt(P:aL)(bl:List VB)(t:aP)(x y:V):Option (Prop×List VB):=match x,y with
 |.pe i o j 1 0,.int kd' v=>(match bl[i]?with
  |some ⟨af,⟨ty,(0,0)⟩,c⟩=>(match hdB c,qI P t,eI P t with
   |some (kd,n,f),aa ah,aa 1=>(match decEq kd kd' with
    |isTrue _=>aa (o+j<n,bl.set i ⟨af,⟨ty,(0,0)⟩,nf (o+j) v c⟩)
    |isFalse _=>ag)
   |_,_,_=>ag)
  |_=>ag)
 |.pe i o j 1 0,.bool b=>(match LY P bl t (.ptr i (o+j)) (.bool b)with|some b9=>aa (True,b9)|none=>ag)
 |_,_=>ag
section
variable{ae:List Nat}{P:aL}{w w0:an}{ms:List Nat}{e:bA->V}{ρ:bA->aj}{bl:List VB}{R:List av}
def aih{k:gw}{n q:Nat}{f:Nat->Int}{v:Int}{r:List aj}(h:q<n):((((bg n).map λj=>fI k (f j))++r).take q++[.int k v])++(((bg n).map λj=>fI k (f j))++r).drop (q+1)=((bg n).map λj=>fI k (L_ f q v j))++r:=by
 have e:=List.set_eq_take_append_cons_drop (l:=((bg n).map λj=>fI k (f j))++r) (i:=q) (a:=.int k v);rw[if_pos (by simp;omega)]at e;rw[bZ,xi,<-e,List.set_append_left _ _ (by simpa using h)];congr 1;apply zN;intro i;rw[List.getElem?_set];by_cases hi:q=i
 ·subst hi;simp[h,L_]
 ·rw[if_neg hi];simp only[kA];cases hr:(bg n)[i]?with
  |none=>rfl
  |some y=>
   obtain rfl:y=i:=by
    rcases di i n with h1|h1
    ·rw[pr h1]at hr;exact(cP hr).symm
    ·rw[jA (by simpa using h1)]at hr;cases hr
   have hb:aC y q=ah:=by
    cases hb:aC y q with
    |false=>rfl
    |true=>exact absurd (cw hb).symm hi
   simp only[pk,L_,hb,cond_false]
def aao{l:List V}{k:gw}{n:Nat}{f:Nat->Int}(h:xL l=aa (k,n,f))(ae:List Nat):ao ae l=((bg n).map λj=>fI k (f j))++ao ae (l.drop 1):=by
 unfold xL at h;split at h
 ·simp only[a_,bI]at h;obtain⟨rfl,rfl,rfl⟩:=h;simp only[ao,cl,List.drop_succ_cons,List.drop_zero]
 ·cases h
def hdB_at{l:List V}{k:gw}{n:Nat}{f:Nat->Int}(h:hdB l=aa (k,n,f)):(∃r,l=.arr k n f::r)\/∃r,l=.cu k n f::r:=by
 unfold hdB at h;split at h
 ·simp only[a_,bI]at h;obtain⟨rfl,rfl,rfl⟩:=h;exact .inr ⟨_,rfl⟩
 ·unfold xL at h;split at h
  ·simp only[a_,bI]at h;obtain⟨rfl,rfl,rfl⟩:=h;exact .inl ⟨_,rfl⟩
  ·cases h
def hdB_den{l:List V}{k:gw}{n:Nat}{f:Nat->Int}(h:hdB l=aa (k,n,f))(ae:List Nat):ao ae l=((bg n).map λj=>fI k (f j))++ao ae (l.drop 1):=by
 rcases hdB_at h with⟨r,rfl⟩|⟨r,rfl⟩<;>simp only[ao,cl,List.drop_succ_cons,List.drop_zero]
def Ru:∀{l:List V}{r:List Bool},Hj l=aa r->∀ae,ao ae l=r.map K8
 |[],r,h,ae=>by simp only[Hj,a_]at h;subst h;rfl
 |v::l,r,h,ae=>by
  unfold Hj at h;split at h
  ·rename_i e;cases e
  ·rename_i b l' e;cases e;split at h
   ·rename_i r' hr;simp only[a_]at h;subst h;simp only[ao,cl,den,Ru hr ae,gx,fe,fu]
   ·cases h
  ·cases h
def aii{bl ex:List VB}{i:Nat}{b:VB}(h:bl[i]?=aa b):(bl++ex)[i]?=aa b:=by
 have hi:i<bl.length:=by rcases di i bl.length with h'|h';exact h';simp[h']at h
 rw[gB hi,h]
def aij{t:aP}{x:V}{p:Prop}{v:V}{ex:List VB}(h:B2 P bl t x=aa (p,v)):B2 P (bl++ex) t x=aa (p,v):=by
 unfold B2 at h⊢;split at h
 ·split at h
  ·rename_i hb;rw[aii hb];exact h
  ·cases h
 ·cases h
def aik{z:Nat}(g:Nat->List aj)(hz:∀j,(g j).length=z):∀(n j:Nat),j<n->(((bg n).flatMap g).drop (j*z)).take z=g j:=by
 intro n;induction n with
 |zero=>intro j h;omega
 |succ n ih=>
  intro j h;have hl:((bg n).flatMap g).length=n*z:=by
   clear ih h;induction n with
   |zero=>simp
   |succ n ih=>rw[vK,vL,fH,ih];simp[hz,oD]
  rw[vK,vL];rcases di j n with h1|h1
  ·have h2:j*z+z<=n*z:=by rw[<-Nat.succ_mul];exact P9 z h1
   rw[List.drop_append_of_le_length oM,List.take_append_of_le_length (by rw[List.length_drop];omega)];exact ih j h1
  ·obtain rfl:j=n:=oM;rw[List.drop_append,List.drop_eq_nil_of_le oM,hl,Nat.sub_self];simp only[fu,List.flatMap_cons,List.flatMap_nil,cy,List.drop_zero];exact List.take_of_length_le (Nat.le_of_eq (hz j))
def aap{z n j k m:Nat}{g:Nat->List aj}{r:List aj}(hz:∀j,(g j).length=z)(hj:j<n)(hk:k+m<=z):((((bg n).flatMap g)++r).drop (j*z+k)).take m=((g j).drop k).take m:=by
 have h1:=aik g hz n j hj;have hl:((bg n).flatMap g).length=n*z:=by
  clear h1 hj;induction n with
  |zero=>simp
  |succ n ih=>rw[vK,vL,fH,ih];simp[hz,oD]
 have h2:j*z+z<=n*z:=by rw[<-Nat.succ_mul];exact P9 z hj
 rw[<-h1];apply zN;intro i;simp only[Qc,GC];split
 ·rename_i hi;rw[if_pos oM,gB oM,ux]
 ·rfl
def aaq{α:Type}(aw l:List α)(i:Nat):(aw++l).drop (aw.length+i)=l.drop i:=by
 rw[List.drop_append,List.drop_eq_nil_of_le oM];simp
def aar(hl:ae.length=bl.length)(S:St ms w0 (lits ae ae bl++R) w){t:aP}{u:V}{i o j z k n:Nat}{g:Nat->List aj}{aw r:List aj}{b:VB}(hb:bl[i]?=aa b)(hD:ao ae b.c=aw++(((bg n).flatMap g)++r))(ho:o=aw.length)(hu:uN P t ((g j).map BU) k=aa u)(hj:j<n)(hz:∀j,(g j).length=z):
 (qq t (den ae (.pe i o j z k))).run P w=.ok (den ae u) w:=by
 subst ho;have aV:=(gp hl S hb).2;rw[hD]at aV;have hg:ao ae ((g j).map BU)=g j:=LR (g j);unfold uN at hu;simp only[qq,den,jt,bH,de,cD];split at hu
 ·rename_i m ha hn;split at hu
  ·rename_i c vY;simp only[a_]at hu;subst hu;obtain⟨g1,g2,g3⟩:=z_ (ae:=ae) vY;rw[hg]at g1 g3;rw[hz]at g3;refine BG (n:=m) aV ?_ ?_ ?_ ?_
   ·unfold qI at ha;split at ha
    ·rename_i d hd;rw[hd];simpa using ha
    ·cases ha
   ·unfold eI at hn;split at hn
    ·rename_i d hd;rw[hd];simpa using hn
    ·cases hn
   ·apply fP;have:=aap (r:=r) (n:=n) hz hj g3;simp only[Array.toList_extract,List.extract];rw[show aw.length+(j*z+k)+m-(aw.length+(j*z+k))=m by omega,aaq,this,g1]
   ·simpa using g2
  ·cases hu
 ·rename_i ha;have h1:=Q3 (ae:=ae) hu;rw[hg]at h1;have hkz:k<z:=by
   rcases di k z with h|h
   ·exact h
   ·rw[jA (by rw[hz];exact h)]at h1;cases h1
  have h2:=aap (r:=r) (n:=n) (j:=j) (k:=k) (m:=1) hz hj oM;have h3:(aw++((List.flatMap g (bg n))++r))[aw.length+(j*z+k)]?=(g j)[k]?:=by
   rw[<-aaq aw]at h2;have:=congrArg (λl=>l[0]?) h2;simp only[Qc,GC,lM]at this;simpa using this
  refine BF aV ?_ (by rw[j7,h3,h1]);unfold qI at ha;split at ha
  ·rename_i d hd;rw[hd];simpa using ha
  ·cases ha
 ·cases hu
def aas(hl:ae.length=bl.length)(S:St ms w0 (lits ae ae bl++R) w){t:aP}{x v:V}{p:Prop}(h:B2 P bl t x=aa (p,v))(hp:p):(qq t (den ae x)).run P w=.ok (den ae v) w:=by
 unfold B2 at h;split at h
 ·rename_i i o j z k;split at h
  ·rename_i b hb;split at h
   ·rename_i z' n g r hc;split at h
    ·cases hq:aC z z' with
     |false=>rw[hq]at h;simp at h
     |true=>
      rw[hq]at h;simp only[cond_true]at h;split at h
      ·rename_i u hu;simp only[a_,bI]at h;obtain⟨rfl,rfl⟩:=h;exact aar hl S (aw:=[]) hb (by rw[hc];simp only[ao,cl,fu];rfl) rfl hu hp.1 hp.2
      ·cases h
    ·cases h
   ·rename_i aw z' n g r hc;cases hq:aC z z' with
    |false=>rw[hq]at h;simp at h
    |true=>
     rw[hq]at h;simp only[cond_true]at h;split at h
     ·rename_i u hu;simp only[a_,bI]at h;obtain⟨rfl,rfl⟩:=h;exact aar hl S (aw:=aw) hb (by rw[hc];simp only[ao,cl];rfl) hp.1 hu hp.2.1 hp.2.2
     ·cases h
   ·rename_i kd n f r hc;split at h
    ·rename_i lZ;simp only[a_,bI]at h;obtain⟨rfl,rfl⟩:=h;have aV:=(gp hl S hb).2;simp only[qq,den,jt,bH,de,cD];refine BF aV ?_ ?_
     ·unfold qI at lZ;split at lZ
      ·rename_i d hd;rw[hd];simpa using lZ
      ·cases lZ
     ·rw[hc];simp only[ao,cl,fu];rw[j7,show o+(j*1+0)=o+j by omega,gB (by simpa using hp)];simp[pr hp]
    ·cases h
   ·split at h
    ·rename_i kd n f hA lZ;simp only[a_,bI]at h;obtain⟨rfl,rfl⟩:=h;have aV:=(gp hl S hb).2;simp only[qq,den,jt,bH,de,cD];refine BF aV ?_ ?_
     ·unfold qI at lZ;split at lZ
      ·rename_i d hd;rw[hd];simpa using lZ
      ·cases lZ
     ·rw[j7,aao hA ae,show o+(j*1+0)=o+j by omega,gB (by simpa using hp)];simp[pr hp]
    ·rename_i hA lZ;split at h
     ·rename_i l hg;split at h
      ·rename_i r hr;simp only[a_,bI]at h;obtain⟨rfl,rfl⟩:=h;have aV:=(gp hl S hb).2;obtain⟨g1,g2,g3⟩:=z_ (ae:=ae) hg;rw[Ru hr]at g1;have hr5:r.length=5:=by have:=g2;rw[Ru hr]at this;simpa using this
       simp only[qq,den,jt,bH,de,cD];refine BF aV ?_ ?_
       ·unfold qI at lZ;split at lZ
        ·rename_i d hd;rw[hd];simpa using lZ
        ·cases lZ
       ·have h1:=congrArg (λl=>l[j]?) g1;simp only[Qc,GC,if_pos hp,kA]at h1;rw[j7,show o+(j*1+0)=o+j by omega,h1,jh oM];simp[aan,gh,jh (show j<r.length by omega)]
      ·cases h
     ·cases h
    ·cases h
  ·cases h
 ·cases h
def B3.run(hl:ae.length=bl.length)(S:St ms w0 (lits ae ae bl++R) w){t:aP}{x v:V}(h:B3 P bl t x v):(qq t (den ae x)).run P w=.ok (den ae v) w:=by
 rcases h with h|⟨p,h,hp⟩
 ·exact LZ (P:=P) hl S h
 ·exact aas hl S h hp
def aat(ae:List Nat)(i off c l:Nat):(if c=l then(⟨ae.getD i 0,off,ag⟩:aF)else qo ⟨ae.getD i 0,off,ag⟩ (l*1))=⟨ae.getD i 0,bif aC c l then off else off+l,ag⟩:=by
 by_cases hc:c=l
 ·subst hc;simp
 ·have:aC c l=ah:=by
   cases hb:aC c l with
   |true=>exact absurd (cw hb) hc
   |false=>rfl
  rw[if_neg hc,this,iY,Nat.mul_one];rfl
def idx_run{o:aA}{t:aP}{x ix:bA}{a off n c z:Nat}{kk:gw}{m:Int}{el:aP}(i_:o.op=.indexAddr t x ix)(hx:ρ x=.slice (aa ⟨a,off,ag⟩) n c)(hi:ρ ix=.int kk m)(hu:P.underlying t=aa (.slice el))(hz:eI P el=aa z)(hp:0<=m/\m<(n:Int)):
 (execOp ρ o).run P w=.ok (.value (.pointer (aa ⟨a,off+(m.toNat*z+0),ag⟩))) w:=by
 unfold execOp;simp only[i_,hx,hi,uq,asIntOf,jt,bH,de,cD,dF hu];rw[if_pos hp];simp[bH,gy hz,tL]
def idp_run{o:aA}{t:aP}{x ix:bA}{a off n z:Nat}{kk:gw}{m:Int}{el:aP}(i_:o.op=.indexAddr t x ix)(hx:ρ x=.pointer (aa ⟨a,off,ag⟩))(hi:ρ ix=.int kk m)(hu:P.underlying t=aa (.array n el))(hz:eI P el=aa z)(hp:0<=m/\m<(n:Int)):
 (execOp ρ o).run P w=.ok (.value (.pointer (aa ⟨a,off+(m.toNat*z+0),ag⟩))) w:=by
 unfold execOp;simp only[i_,hx,hi,uq,asIntOf,jt,bH,de,cD,dF hu];rw[if_pos hp];simp[bH,gy hz,tL]
def cut_run{o:aA}{t:aP}{x hi:bA}{a:Option aF}{n c z:Nat}{kk:gw}{m:Int}{el:aP}(i_:o.op=.slice t x ag (aa hi) ag)(hx:ρ x=.slice a n c)(hh:ρ hi=.int kk m)(hu:P.underlying t=aa (.slice el))(hz:eI P el=aa z)(hp:0<=m/\m<=(c:Int)):
 (execOp ρ o).run P w=.ok (.value (.slice a m.toNat c)) w:=by
 have fW:∀code,(nK (.int kk m) c code).run P w=.ok m.toNat w:=by
  intro code;simp only[nK,asIntOf,bH,de,cD];rw[if_pos hp];rfl
 have hs:=gy (P:=P) (w:=w) hz;unfold execOp;cases a<;>simp[i_,hx,hh,qy,w_,qz,dF hu,fW,hs,ju,qo]
def aau(bo:∀x,ρ x=den ae (e x))(o:aA){p:Prop}{v:V}(h:B4 P e bl o.op=aa (p,v))(hp:p):(execOp ρ o).run P w=.ok (.value (den ae v)) w:=by
 generalize i_:o.op=op at h;unfold B4 at h;split at h
 ·rename_i t x ix;split at h
  ·rename_i i o n c hx;split at h
   ·rename_i b hb;split at h
    ·rename_i z' n' g r hc;split at h
     ·split at h
      ·rename_i el kk m hu ie;split at h
       ·rename_i z hz;cases hq:aC z z' with
        |false=>rw[hq]at h;simp at h
        |true=>
         rw[hq]at h;simp only[cond_true,a_,bI]at h;obtain⟨rfl,rfl⟩:=h;exact idx_run i_ (by rw[bo,hx];rfl) (by rw[bo,ie];rfl) hu hz hp
       ·cases h
      ·cases h
     ·cases h
    ·rename_i aw z' n' g r hc;split at h
     ·rename_i el kk m hu ie;split at h
      ·rename_i z hz;cases hq:aC z z' with
       |false=>rw[hq]at h;simp at h
       |true=>
        rw[hq]at h;simp only[cond_true,a_,bI]at h;obtain⟨rfl,rfl⟩:=h;exact idx_run i_ (by rw[bo,hx];rfl) (by rw[bo,ie];rfl) hu hz hp
      ·cases h
     ·cases h
    ·split at h
     ·rename_i el kk m hu ie;split at h
      ·rename_i hz;simp only[a_,bI]at h;obtain⟨rfl,rfl⟩:=h;exact idx_run i_ (by rw[bo,hx];rfl) (by rw[bo,ie];rfl) hu hz hp
      ·cases h
     ·cases h
    ·split at h
     ·rename_i el kk m hA hu ie;split at h
      ·rename_i hz;simp only[a_,bI]at h;obtain⟨rfl,rfl⟩:=h;exact idx_run i_ (by rw[bo,hx];rfl) (by rw[bo,ie];rfl) hu hz hp
      ·cases h
     ·cases h
   ·cases h
  ·rename_i i o hx;split at h
   ·rename_i b hb;split at h
    ·rename_i n el kk m hA hu ie;split at h
     ·rename_i hz;simp only[a_,bI]at h;obtain⟨rfl,rfl⟩:=h;exact idp_run i_ (by rw[bo,hx];rfl) (by rw[bo,ie];rfl) hu hz hp
     ·cases h
    ·rename_i n el kk m hA hu ie;cases hq:aC n 5&&aam P el with
     |false=>rw[hq]at h;simp at h
     |true=>
      rw[hq]at h;simp only[cond_true]at h;split at h
      ·rename_i hz;simp only[a_,bI]at h;obtain⟨rfl,rfl⟩:=h;exact idp_run i_ (by rw[bo,hx];rfl) (by rw[bo,ie];rfl) hu hz hp
      ·cases h
    ·cases h
   ·cases h
  ·rename_i i o n c y hx;split at h
   ·rename_i b hb;split at h
    ·rename_i z' n' g r hc;split at h
     ·split at h
      ·rename_i el kk m hu ie;split at h
       ·rename_i z hz;cases hq:aC z z' with
        |false=>rw[hq]at h;simp at h
        |true=>
         rw[hq]at h;simp only[cond_true,a_,bI]at h;obtain⟨rfl,rfl⟩:=h;have En:aC n 0=ah:=by
          cases uP:aC n 0 with
          |false=>rfl
          |true=>exact absurd (cw uP) oM
         exact idx_run i_ (by rw[bo,hx];simp only[den,En,cond_false];rfl) (by rw[bo,ie];rfl) hu hz hp
       ·cases h
      ·cases h
     ·cases h
    ·rename_i aw z' n' g r hc;split at h
     ·rename_i el kk m hu ie;split at h
      ·rename_i z hz;cases hq:aC z z' with
       |false=>rw[hq]at h;simp at h
       |true=>
        rw[hq]at h;simp only[cond_true,a_,bI]at h;obtain⟨rfl,rfl⟩:=h;have En:aC n 0=ah:=by
         cases uP:aC n 0 with
         |false=>rfl
         |true=>exact absurd (cw uP) oM
        exact idx_run i_ (by rw[bo,hx];simp only[den,En,cond_false];rfl) (by rw[bo,ie];rfl) hu hz hp
      ·cases h
     ·cases h
    ·cases h
   ·cases h
  ·rename_i a n c hx;cases hr:rawIx ix with
   |false=>rw[hr]at h;simp at h
   |true=>
   rw[hr]at h;simp only[cond_true]at h;split at h
   ·rename_i el kk m hu ie;split at h
    ·rename_i z hz;simp only[a_,bI]at h;obtain⟨rfl,rfl⟩:=h;obtain⟨hp,b,rfl⟩:=hp;have h1:ρ x=.slice (aa b) n c:=by rw[bo,hx];rfl
     have h2:ρ ix=.int kk m:=by rw[bo,ie];rfl
     unfold execOp;simp only[i_,h1,h2,uq,asIntOf,jt,bH,de,cD,dF hu];rw[if_pos hp];simp[bH,gy hz,den]
    ·cases h
   ·cases h
  ·cases h
 ·rename_i t x hi;split at h
  ·rename_i i o n c hx;split at h
   ·rename_i b hb;split at h
    ·rename_i z' n' g r hc;split at h
     ·split at h
      ·rename_i el kk m hu ie;split at h
       ·rename_i z hz;simp only[a_,bI]at h;obtain⟨rfl,rfl⟩:=h;exact cut_run i_ (by rw[bo,hx];rfl) (by rw[bo,ie];rfl) hu hz hp
       ·cases h
      ·cases h
     ·cases h
    ·rename_i aw z' n' g r hc;split at h
     ·rename_i el kk m hu ie;split at h
      ·rename_i z hz;simp only[a_,bI]at h;obtain⟨rfl,rfl⟩:=h;exact cut_run i_ (by rw[bo,hx];rfl) (by rw[bo,ie];rfl) hu hz hp
      ·cases h
     ·cases h
    ·split at h
     ·rename_i el kk m hu ie;split at h
      ·rename_i z hz;simp only[a_,bI]at h;obtain⟨rfl,rfl⟩:=h;exact cut_run i_ (by rw[bo,hx];rfl) (by rw[bo,ie];rfl) hu hz hp
      ·cases h
     ·cases h
    ·cases h
   ·cases h
  ·rename_i a n c hx;split at h
   ·rename_i el kk m hu ie;split at h
    ·rename_i z hz;simp only[a_,bI]at h;obtain⟨rfl,rfl⟩:=h;exact cut_run i_ (by rw[bo,hx];rfl) (by rw[bo,ie];rfl) hu hz hp
    ·cases h
   ·cases h
  ·rename_i i o n c x2 hx;split at h
   ·rename_i el kk m hu ie;split at h
    ·rename_i z hz;simp only[a_,bI]at h;obtain⟨rfl,rfl⟩:=h;have hn:aC n 0=ah:=by cases n with|zero=>exact absurd hp.1 oM|succ n=>rfl
     exact cut_run i_ (by rw[bo,hx];simp only[den,hn,cond_false];rfl) (by rw[bo,ie];rfl) hu hz hp.2
    ·cases h
   ·cases h
  ·cases h
 ·rename_i t x ix;split at h
  ·rename_i n el l kk m hu hx ie;split at h
   ·rename_i kd N f hA hz lZ;simp only[a_,bI]at h;obtain⟨rfl,rfl⟩:=h;unfold execOp;simp only[i_,bo,hx,ie,den,Instr.index,asIntOf,bH,de,cD,dF hu];rw[if_pos hp.1];have hg:oL l m.toNat=aa (.int kd (f m.toNat)):=by
     unfold xL at hA;split at hA
     ·rename_i k2 n2 f2 r;cases hA;have:ck N m.toNat=ah:=by
       cases hb:ck N m.toNat with
       |false=>rfl
       |true=>exact absurd (eU hb) (by have:=hp.2;omega)
      simp only[oL,this,cond_false]
     ·cases hA
    have:=Ra (ae:=ae) (w:=w) (t:=el) (l:=l) (off:=m.toNat*1) (v:=.int kd (f m.toNat)) (by unfold uN;rw[lZ];simpa using hg);simp[bH,gy hz]at this⊢;rw[this];rfl
   ·cases h
  ·cases h
 ·rename_i t x lo;split at h
  ·rename_i i off n c hx;split at h
   ·rename_i b hb;split at h
    ·split at h
     ·rename_i el kk m hu B5;split at h
      ·rename_i hz;simp only[a_,bI]at h;obtain⟨rfl,rfl⟩:=h;have fW:∀code,(nK (.int kk m) n code).run P w=.ok m.toNat w:=by
        intro code;simp only[nK,asIntOf,bH,de,cD];rw[if_pos hp];rfl
       have hs:=gy (P:=P) (w:=w) hz;have ha:=aat ae i off c m.toNat;unfold execOp;simp only[den,<-ha];by_cases Eo:c=m.toNat<;>simp[i_,bo,hx,B5,den,qy,w_,qz,dF hu,fW,hs,ju,Eo]
      ·cases h
     ·cases h
    ·cases h
   ·cases h
  ·rename_i ex hex;split at h
   ·rename_i b q n c el kd k hx hu B5;split at h
    ·rename_i hz;simp only[a_,bI]at h;obtain⟨rfl,rfl⟩:=h;have hs:(P.info? el).map (·.size)=aa 1:=by
      unfold eI at hz;split at hz
      ·rename_i inf hi;rw[hi];exact hz
      ·cases hz
     exact ZV (o:=o) (w:=w) (k:=k) (kd:=kd) oM hp.2 (q+k) (by rw[if_neg oM]) i_ hu hs (by rw[bo,hx];rfl) (by rw[bo,B5];rfl)
    ·cases h
   ·cases h
 ·rename_i t x lo hi;split at h
  ·rename_i i off n c hx;split at h
   ·rename_i b hb;split at h
    ·split at h
     ·rename_i el kk m kh hh hu B5 hhi;split at h
      ·rename_i hz;simp only[a_,bI]at h;obtain⟨rfl,rfl⟩:=h;obtain⟨h1,h2,h3⟩:=hp;have fW:∀code,(nK (.int kh hh) c code).run P w=.ok hh.toNat w:=by
        intro code;simp only[nK,asIntOf,bH,de,cD];rw[if_pos ⟨oM,h3⟩];rfl
       have Hk:∀code,(nK (.int kk m) hh.toNat code).run P w=.ok m.toNat w:=by
        intro code;simp only[nK,asIntOf,bH,de,cD];rw[if_pos ⟨h1,oM⟩];rfl
       have hs:=gy (P:=P) (w:=w) hz;have ha:=aat ae i off c m.toNat;have run:(execOp ρ o).run P w=.ok (.value (.slice (if c=m.toNat then aa ⟨ae.getD i 0,off,ag⟩else aa (qo ⟨ae.getD i 0,off,ag⟩ (m.toNat*1))) (hh.toNat-m.toNat) (c-m.toNat))) w:=by
        unfold execOp;simp[i_,bo,hx,B5,hhi,den,qy,w_,qz,dF hu,fW,Hk,hs,ju]
       simp only[den,<-ha];rw[run];by_cases Eo:c=m.toNat
       ·rw[if_pos Eo,if_pos Eo]
       ·rw[if_neg Eo,if_neg Eo]
      ·cases h
     ·cases h
    ·cases h
   ·cases h
  ·cases h
 ·rename_i t x t2;split at h
  ·rename_i a b hx hy;simp only[a_,bI]at h;obtain⟨rfl,rfl⟩:=h;have hb:Hf P .rem t (e x) (e (.tmp 86))=aa (.int .i64 (a.tmod b)):=by
    rw[hx,hy];obtain⟨n,rfl⟩:∃n:Nat,b=dS (n+1):=⟨b.toNat-1,by simp only[DU];omega⟩;rfl
   unfold execOp;simp only[i_,bo];rw[bH,Rj hb];rfl
  ·cases h
 ·rename_i t x y t2;cases hq:(aC y 30||aC y 47)with
  |false=>rw[hq]at h;cases h
  |true=>
   rw[hq]at h;simp only[cond_true]at h;split at h
   ·rename_i k a k' b hx hy;simp only[a_,bI]at h;obtain⟨rfl,rfl⟩:=h;have hb:Hf P .shl t (e x) (e (.tmp y))=aa (.int k (k.wrap (a*2^(min b.toNat k.bits)))):=by
     rw[hx,hy];obtain⟨n,rfl⟩:∃n:Nat,b=dS n:=⟨b.toNat,by simp only[DU];omega⟩;rfl
    unfold execOp;simp only[i_,bo];rw[bH,Rj hb];rfl
   ·cases h
 ·cases h
def ail(hl:ae.length=bl.length)(S:St ms w0 (lits ae ae bl++R) w){t:aP}{x y:V}{p:Prop}{b9:List VB}(h:Rt P bl t x y=aa (p,b9))(hp:p):
 ∃w',(Gz t (den ae x) (den ae y)).run P w=.ok () w'/\St ms w0 (lits ae ae b9++R) w'/\ae.length=b9.length:=by
 unfold Rt at h;split at h
 ·rename_i i o j kd' v;split at h
  ·rename_i ty c hb;split at h
   ·rename_i kd n f hA lZ hz;split at h
    ·rename_i hk _;subst hk;simp only[a_,bI]at h;obtain⟨rfl,rfl⟩:=h;obtain⟨hi,aV⟩:=gp hl S hb;have hc:=hdB_den hA ae;have b_:=GH (P:=P) (off:=o+(j*1+0)) (v:=.int kd v) (vs:=[.int kd v]) (ty:=t) aV rfl (by
      unfold eI at hz;split at hz
      ·rename_i d hd;rw[hd];simpa using hz
      ·cases hz) (by simp only[Zb,List.size_toArray];rw[hc];simp;omega) rF
     have fR:=S.step hi rfl (Ch.setRow w (ae.getD i 0) _) (setRow_heap w (ae.getD i 0) _ (splice (ao ae c).toArray (o+(j*1+0)) [.int kd v]) ty (0,0) aV);have m6:splice (ao ae c).toArray (o+(j*1+0)) [.int kd v]=(ao ae (nf (o+j) v c)).toArray:=by
      rcases hdB_at hA with⟨r,rfl⟩|⟨r,rfl⟩<;>
       (apply fP
        simp only[splice,nf,ao,cl,show o+(j*1+0)=o+j by omega,Zb];exact aih hp)
     have mD:i<(lits ae ae bl).length:=by rw[Ac ae bl hl];rcases di i bl.length with h'|h';exact h';simp[h']at hb
     refine⟨w.setRow (ae.getD i 0) (splice (ao ae c).toArray (o+(j*1+0)) [.int kd v]),?_,?_,by simpa using hl⟩
     ·simp only[Gz,den,jt,bH,de,cD];exact b_
     ·have Ae:=Em (ae:=ae) ae bl i ⟨af,⟨ty,(0,0)⟩,nf (o+j) v c⟩ hl;rw[<-Ae,<-List.set_append_left _ _ mD];rw[m6]at fR⊢;exact fR
    ·cases h
   ·cases h
  ·cases h
 ·rename_i i o j b;split at h
  ·rename_i ci hs;simp only[a_,bI]at h;obtain⟨-,rfl⟩:=h;have:=aaj (P:=P) hl S hs;simpa[den,show o+(j*1+0)=o+j by omega]using this
  ·cases h
 ·cases h
end
class Bl (G:Type) where
 B:G->List av
abbrev VK(G:Type):=V->List VB->List G->Prop
abbrev dm(G:Type):=List V->List VB->List G->VK G->Prop
variable{G:Type}[Bl G]
def ax:List G->List av->List av
 |[],R=>R
 |b::l,R=>Bl.B b++ax l R
def Gl(gl:Nat->Option Nat)(ae:List Nat):Prop:=∀g i,gl g=aa i->i<ae.length/\ae.getD i 0=g
def Sound(P:aL)(gl:Nat->Option Nat)(f:fG)(c:dm G):Prop:=∀(ak:List V)(ae:List Nat)(bl:List VB)(ch:List G)(R:List av)(ms:List Nat)(w0 w:an)(K:VK G),
 Gl gl ae->ae.length=bl.length->St ms w0 (lits ae ae bl++ax ch R) w->c ak bl ch K->ba P f (aJ ae ak).toArray w λv w'=>
  ∃x aq b9 ce,v=den (ae++aq) x/\(ae++aq).length=b9.length/\St ms w0 (lits (ae++aq) (ae++aq) b9++ax ce R) w'/\K x b9 ce
def iF(P:aL)(gl:Nat->Option Nat)(h:(bA->V)->Op->List VB->List G->VK G->Prop):Prop:=∀(e:bA->V)(op:Op)(ae:List Nat)(bl:List VB)(ch:List G)(R:List av)(ms:List Nat)(w0 w:an)(K:VK G)(ρ:bA->aj)(o:aA),
 Gl gl ae->ae.length=bl.length->St ms w0 (lits ae ae bl++ax ch R) w->(∀x,ρ x=den ae (e x))->o.op=op->h e op bl ch K->
  ∃x aq b9 ce w',((execOp ρ o).run P w=.ok (.value (den (ae++aq) x)) w'\/((execOp ρ o).run P w=.ok .skip w'/\x=gn))/\(ae++aq).length=b9.length/\St ms w0 (lits (ae++aq) (ae++aq) b9++ax ce R) w'/\K x b9 ce
def B6:(bA->V)->Op->List VB->List G->VK G->Prop:=λ_ _ _ _ _=>False
def Ep{P:aL}{gl:Nat->Option Nat}:iF (G:=G) P gl B6:=λ_ _ _ _ _ _ _ _ _ _ _ _ _ _ _ _ _ h=>h.elim
def B7:Op->Bool
 |.call ⟨.builtin .append,_,_⟩=>af
 |.call ⟨.builtin .copy,_,_⟩=>af
 |.buildSlice _ n _=>aC n 0
 |.makeMap .. =>af
 |.makeSlice .. =>af
 |.lookup .. =>af
 |.insert .. =>af
 |.mapUpdate .. =>af
 |.typeAssert .. =>af
 |.binOp op _ _ y _=>LX op y
 |.convert _ d _=>aC d 9
 |_=>ah
def keepO:Op->Bool
 |.convert .. =>af
 |_=>ah
def FW(rd:Option Nat):Fence:={Qd with round:=rd}
def aim{rd:Option Nat}{n:Nat}{P:aL}{f:fG}{ak:Array aj}{w:an}{R:Ending->an->Prop}(h:Calls P f ak w R):CallsIn (FW rd) n P f ak w R:=callsIn_wide (n:=n)|>.2 h
def Rv(P:aL)(gl:Nat->Option Nat)(l:Nat)(c:dm G):Prop:=∀(ak:List V)(ae:List Nat)(bl:List VB)(ch:List G)(R:List av)(ms:List Nat)(w0 w:an)(K:VK G),
 Gl gl ae->ae.length=bl.length->St ms w0 (lits ae ae bl++ax ch R) w->c ak bl ch K->∃f tmps nV body,(Instr.yield l (aJ ae ak).toArray).run P w=.ok (.round l f tmps nV body) w/\
  RoundIn Qd 0 P l f tmps nV body w λe w'=>∃v,e=.returned v/\∃x aq b9 ce,v=den (ae++aq) x/\(ae++aq).length=b9.length/\St ms w0 (lits (ae++aq) (ae++aq) b9++ax ce R) w'/\K x b9 ce
def xM:Nat->dm G:=λ_ _ _ _ _=>False
def Af{P:aL}{gl:Nat->Option Nat}:∀l,Rv (G:=G) P gl l (xM l):=λ_ _ _ _ _ _ _ _ _ _ _ _ _ h=>h.elim
def fill:List (Option V)->(Nat->aj)->Nat->List V
 |[],_,_=>[]
 |some v::l,g,i=>v::fill l g (i+1)
 |none::l,g,i=>.raw (g i)::fill l g (i+1)
def Er(n:Nat):List (Option V)->List V->Prop
 |[],[]=>True
 |some v::l,u::fr=>u=v/\dg n v=af/\Er n l fr
 |none::l,_::fr=>Er n l fr
 |_,_=>False
structure Lp(G:Type) where
 X:Type
 m:X->Nat
 fr:X->List (Option V)
 bl:X->List VB
 ch:X->List G
 Rw:List V->List VB->List G->Prop
 en:X->List V->List VB->List G->Prop
 ok0:∀fr' b9 ce,Rw fr' b9 ce->∃x,Er b9.length (fr x) fr'/\bl x=b9/\ch x=ce
 ok:∀x fr' b9 ce,en x fr' b9 ce->∃y,m y<m x/\Er (bl x).length (fr y) fr'/\(bl y).length=(bl x).length/\bY (bl x).length (bl y)=af/\(∃j,b9=bl y++j)/\ch y=ce
structure Ctx(G:Type)[Bl G] where
 P:aL
 T:fG->Option (dm G)
 gl:Nat->Option Nat
 q:Nat->Bool
 h:(bA->V)->Op->List VB->List G->VK G->Prop
 hok:iF P gl h
 lp:Nat->List V->Option (Lp G)
 y:Nat->dm G
 yok:∀l,Rv P gl l (y l)
def ev(gl:Nat->Option Nat)(fr:List V):bA->V
 |.tmp t=>nth fr t
 |.const v=>Ei v
 |.global g=>match gl g with|some i=>.ptr i 0|none=>.raw (.pointer (aa ⟨g,0,ag⟩))
 |.func f=>.fn f [] []
def okF(P:aL)(f:fG):Bool:=match P.funcs[f]?with
 |some fn=>!(fn.name== "runtime.NumGoroutine")&&!fn.body.isNone
 |none=>ah
def Rx(P:aL)(bl:List VB)(t:aP)(v:V)(name:String):Option (fG×V):=
 match P.info? t with
 |some i=>(match i.methods.find? (·.name==name)with
  |some m=>(match m.path.toList,m.func,P.underlying t with
   |[],aa (f,af),aa (.pointer _)=>aa (f,v)
   |[],aa (f,ah),aa (.pointer el)=>(match v with
    |.ptr j o=>(match vX P bl el (.ptr j o)with|some u=>aa (f,u)|none=>ag)
    |_=>ag)
   |[],aa (f,ah),aa (.slice _)=>aa (f,v)
   |_,_,_=>ag)
  |none=>ag)
 |none=>ag
def callee(P:aL)(e:bA->V)(bl:List VB):Op->Option (fG×List V)
 |.call c=>(match c.callee with
  |.value f=>(match e f with
   |.fn g a b=>bif okF P g then aa (g,a++c.args.toList.map e++b)else ag
   |_=>ag)
  |.invoke r name=>(match e r with
   |.nT t v=>(match Rx P bl t v name with
    |some (g,u)=>bif okF P g then aa (g,u::c.args.toList.map e)else ag
    |none=>ag)
   |_=>ag)
  |_=>ag)
 |_=>ag
def Es(e:bA->V):Op->Option (Nat×List V)
 |.call c=>(match c.callee with
  |.value f=>(match e f with
   |.raw (.func (.yield l) a b)=>bif a.isEmpty&&b.isEmpty then aa (l,c.args.toList.map e)else ag
   |_=>ag)
  |_=>ag)
 |_=>ag
abbrev l5(G:Type):=fG->List V->List VB->List G->VK G->Prop
abbrev jJ(G:Type):=List V->List VB->List G->Prop
def ldH(t:Nat):bA->Bool
 |.tmp 107=>aC t 64
 |_=>ah
def stH:bA->Bool
 |.tmp 104=>af
 |.tmp 125=>af
 |.tmp 137=>af
 |_=>ah
def pM(C:Ctx G)(call:l5 G)(o:aA)(fr:List V)(bl:List VB)(ch:List G)(k:jJ G):Prop:=
 match o.op with
 |.load t x=>(match vX C.P bl t (ev C.gl fr x)with|some v=>k (put fr o.dst v) bl ch|none=>(match B2 C.P bl t (ev C.gl fr x)with|some (p,v)=>p/\k (put fr o.dst v) bl ch|none=>cond (ldH t x&&bF bl.length fr) (C.h (ev C.gl fr) (.load t x) bl ch λv b9 ce=>b9=bl/\k (put fr o.dst v) b9 ce) False))
 |.store t x y=>(match LY C.P bl t (ev C.gl fr x) (ev C.gl fr y)with|some b9=>k (put fr o.dst gn) b9 ch|none=>(match Rt C.P bl t (ev C.gl fr x) (ev C.gl fr y)with|some (p,b9)=>p/\k (put fr o.dst gn) b9 ch|none=>cond (stH x&&bF bl.length fr) (C.h (ev C.gl fr) (.store t x y) bl ch λv b9 ce=>k (put fr o.dst v) b9 ce) False))
 |op=>match B4 C.P (ev C.gl fr) bl op with
  |some (p,v)=>p/\k (put fr o.dst v) bl ch
  |none=>match BX C.P (ev C.gl fr) op with
  |some v=>k (put fr o.dst v) bl ch
  |none=>match El C.P (ev C.gl fr) bl.length op with
   |some (v,b)=>cond (bF bl.length fr&&(bY bl.length bl&&bF bl.length b.c)) (k (put fr o.dst v) (bl++[b]) ch) False
   |none=>match callee C.P (ev C.gl fr) bl op with
    |some (f,ak)=>cond (bF bl.length fr) (call f ak bl ch λv b9 ce=>k (put fr o.dst v) b9 ce) False
    |none=>match Es (ev C.gl fr) op with
    |some (l,ak)=>cond (bF bl.length fr) (C.y l ak bl ch λv b9 ce=>k (put fr o.dst v) b9 ce) False
    |none=>cond (B7 op&&bF bl.length fr) (C.h (ev C.gl fr) op bl ch λv b9 ce=>cond (keepO op) (b9=bl/\k (put fr o.dst v) b9 ce) (k (put fr o.dst v) b9 ce)) False
def Ag(ops:Array aA)(j:Nat):Option Tmp:=match ops[j]?with|some o=>o.dst|none=>ag
def ki(C:Ctx G)(call:l5 G)(ops:Array aA):List aA->List V->List VB->List G->jJ G->Prop
 |[],fr,bl,ch,K=>K fr bl ch
 |o::l,fr,bl,ch,K=>match o.guard with
  |none=>pM C call o fr bl ch λfr bl ch=>ki C call ops l fr bl ch K
  |some (j,want)=>match Ag ops j with
   |none=>False
   |some t=>match nth fr t with
    |.bool b=>cond b
     (cond want (pM C call o (mH fr t (.bool af)) bl ch λfr bl ch=>ki C call ops l fr bl ch K) (ki C call ops l (put (mH fr t (.bool af)) o.dst gn) bl ch K))
     (cond want (ki C call ops l (put (mH fr t (.bool ah)) o.dst gn) bl ch K) (pM C call o (mH fr t (.bool ah)) bl ch λfr bl ch=>ki C call ops l fr bl ch K))
    |.raw (.tuple _)=>ki C call ops l (put fr o.dst gn) bl ch K
    |_=>False
def act(ae:List Nat)(fr:List V):Act:=⟨(aJ ae fr).toArray,[]⟩
def Et(P:aL)(gl:Nat->Option Nat)(call:l5 G):Prop:=∀f,okF P f=af->Sound P gl f (call f)
section
variable{ae:List Nat}{w w0:an}{ms:List Nat}{bl:List VB}{ch:List G}{R:List av}{fr:List V}{C:Ctx G}{call:l5 G}
def Gl.app{gl:Nat->Option Nat}(h:Gl gl ae)(aq:List Nat):Gl gl (ae++aq):=λg i hg=>by
 obtain⟨h1,h2⟩:=h g i hg;refine⟨by simp;omega,?_⟩;rw[Eh (by rw[jQ];exact h1),h2]
def aav{gl:Nat->Option Nat}(hg:Gl gl ae)(x:bA):(act ae fr).eval x=den ae (ev gl fr x):=by
 cases x with
 |tmp t=>simp only[Act.eval,act,ev,z7]
 |const v=>simp only[Act.eval,ev,ahW]
 |global g=>
  simp only[Act.eval,ev];split
  ·rename_i i hi;simp only[den,(hg g i hi).2]
  ·simp[den]
 |func f=>simp[Act.eval,ev,den,aJ]
def aaw(d:Option Tmp)(v:V):(act ae fr).put d (den ae v)=act ae (put fr d v):=by
 cases d with
 |none=>rfl
 |some t=>simp only[act,Act.put,put,Z7]
def ain{aq:List Nat}(h:bF ae.length fr=af):act (ae++aq) fr=act ae fr:=by simp only[act,pL fr h]
def Ry{P:aL}{t:aP}{i:TypeInfo}(h:P.info? t=aa i)(w:an):(typeInfo t).run P w=.ok i w:=by simp[typeInfo,h]
def Rz{P:aL}{f:fG}(hk:okF P f=af)(ak:Array aj)(w:an):(callFunc f ak).run P w=.ok (.enter f ak) w:=by
 unfold okF at hk;split at hk
 ·rename_i fn Hl;simp only[bJ,pj]at hk;simp only[callFunc,bH,run_program,cD,Hl];rw[if_neg (by simp[hk.1]),if_neg (by simp[hk.2])];simp only[de]
 ·cases hk
def aio{P:aL}(hl:ae.length=bl.length)(S:St ms w0 (lits ae ae bl++R) w){t:aP}{v u:V}{name:String}{f:fG}(h:Rx P bl t v name=aa (f,u))(n:Nat):
 (method (n+1) t (den ae v) name).run P w=.ok (f,den ae u) w:=by
 unfold Rx at h;split at h
 ·rename_i i hi;split at h
  ·rename_i m hm;split at h
   ·rename_i f' el hp hf hu;cases h;simp only[method,bH,Ry hi,cD,hm,hp,hf,follow,de,receiverAt,dF hu,aha]
   ·rename_i f' el hp hf hu;split at h
    ·rename_i j o;split at h
     ·rename_i u' hv;cases h;have xN:=LZ (P:=P) hl S hv;have e1:m.path.isEmpty=af:=by simpa using hp
      have hw:∀(a:aF)(nm:String),Builtin.ssaWrapNilChk_ #[t] t #[.pointer (aa a),strVal "",strVal nm]=pure (.pointer (aa a)):=λ_ _=>rfl;have aip:(loadVar el ⟨ae.getD j 0,o,ag⟩).run P w=.ok (den ae u) w:=xN;simp only[method,bH,Ry hi,cD,hm,hp,hf,follow,de,receiverAt,dF hu,aha,e1,if_true,den,hw,asAddr];rw[aip];rfl
     ·cases h
    ·cases h
   ·rename_i f' el hp hf hu;cases h;simp only[method,bH,Ry hi,cD,hm,hp,hf,follow,de,receiverAt,dF hu,aha]
   ·cases h
  ·cases h
 ·cases h
def aiq{P:aL}{ρ:bA->aj}{e:bA->V}(bo:∀x,ρ x=den ae (e x))(hl:ae.length=bl.length)(S:St ms w0 (lits ae ae bl++R) w)(o:aA){f:fG}{ak:List V}(h:callee P e bl o.op=aa (f,ak)):
 (execOp ρ o).run P w=.ok (.enter f (aJ ae ak).toArray) w/\okF P f=af:=by
 have Eu:∀l:List bA,l.map ρ=aJ ae (l.map e):=λl=>by
  rw[rQ,lN];exact mB λx _=>bo x
 unfold callee at h;split at h
 ·rename_i c ho;split at h
  ·rename_i fo hc;split at h
   ·rename_i g a b hf;cases hk:okF P g with
    |false=>rw[hk]at h;simp at h
    |true=>
     rw[hk]at h;simp only[cond_true,a_,bI]at h;obtain⟨rfl,rfl⟩:=h;refine⟨?_,hk⟩;have cN:(aJ ae a).toArray++c.args.map ρ++(aJ ae b).toArray=(aJ ae (a++c.args.toList.map e++b)).toArray:=by
      apply fP;simp only[GB,Y_,Eu];simp only[rQ,uw]
     simp only[execOp,ho,resolve,hc,bo,hf,den,ahb,bH,de,cD,invoke,Rz hk];rw[<-cN]
   ·cases h
  ·rename_i r name hc;split at h
   ·rename_i t v hr;split at h
    ·rename_i g u hm;cases hk:okF P g with
     |false=>rw[hk]at h;simp at h
     |true=>
      rw[hk]at h;simp only[cond_true,a_,bI]at h;obtain⟨rfl,rfl⟩:=h;refine⟨?_,hk⟩;have hmt:=λn=>aio (P:=P) hl S hm n;have hfu:∀n:Nat,n+Made.depth=(n+99)+1:=λn=>rfl;have cN:#[den ae u]++c.args.map ρ=(aJ ae (u::c.args.toList.map e)).toArray:=by
       apply fP;simp only[GB,Y_,Eu,aJ];rfl
      have hex:(#[den ae (.nT t v)]++c.args.map ρ).extract 1 (#[den ae (.nT t v)]++c.args.map ρ).size=c.args.map ρ:=by
       apply fP;simp;exact List.take_of_length_le sP
      have h0:(#[den ae (.nT t v)]++c.args.map ρ)[0]?=aa (.iface t (den ae v)):=by
       simp[Array.getElem?_append,den]
      simp only[execOp,ho,resolve,hc,bo,hr,bH,de,cD,invoke,h0,hex,callMethod,run_program,hfu,hmt,Rz hk];rw[<-cN]
    ·cases h
   ·cases h
  ·cases h
 ·cases h
def air{rd:Option Nat}{n l:Nat}{P:aL}{f:fG}{tmps:Array aj}{nV body:eZ}{w:an}{R:Ending->an->Prop}(h:RoundIn Qd n P l f tmps nV body w R):RoundIn (FW rd) n P l f tmps nV body w R:=h
def ais{P:aL}{ρ:bA->aj}{e:bA->V}(bo:∀x,ρ x=den ae (e x))(o:aA){l:Nat}{ak:List V}(h:Es e o.op=aa (l,ak)){w:an}:
 (execOp ρ o).run P w=(Instr.yield l (aJ ae ak).toArray).run P w:=by
 have Eu:∀l:List bA,l.map ρ=aJ ae (l.map e):=λl=>by
  rw[rQ,lN];exact mB λx _=>bo x
 unfold Es at h;split at h
 ·rename_i c ho;split at h
  ·rename_i fo hc;split at h
   ·rename_i g a b hf;cases hk:a.isEmpty&&b.isEmpty with
    |false=>rw[hk]at h;simp at h
    |true=>
     rw[hk]at h;simp only[cond_true,a_,bI]at h;obtain⟨rfl,rfl⟩:=h;simp only[bJ,Array.isEmpty_iff]at hk;obtain⟨rfl,rfl⟩:=hk;have cN:#[]++c.args.map ρ++#[]=(aJ ae (c.args.toList.map e)).toArray:=by
      apply fP;simp only[GB,Y_,Eu];simp
     rw[<-cN];simp only[execOp,ho,resolve,hc,bo,hf,den,ahb,bH,de,cD,invoke,Array.append_empty]
   ·cases h
  ·cases h
 ·cases h
def ait{o:aA}{k:jJ G}(h:pM C call o fr bl ch k):∀c,o.op≠.defer c:=by
 intro c e;unfold pM at h;rw[e]at h;simp[B4,BX,El,callee,Es,B7]at h
def RA{rd:Option Nat}(hc:Et C.P C.gl call)(hg:Gl C.gl ae)(hl:ae.length=bl.length)(S:St ms w0 (lits ae ae bl++ax ch R) w){o:aA}{k:jJ G}(h:pM C call o fr bl ch k){a:Act}
 (ha:execOp a.eval o=execOp (act ae fr).eval o) {next:Act->an->Prop} {Q:dR->Act->an->Prop}
 (hk:∀x aq b9 ce w',(ae++aq).length=b9.length->St ms w0 (lits (ae++aq) (ae++aq) b9++ax ce R) w'->k (put fr o.dst x) b9 ce->aq=[]\/bF ae.length fr=af->next (a.put o.dst (den (ae++aq) x)) w'):
 o.wpIn (FW rd) 0 C.P a w next Q:=by
 have bo:=λx=>aav (fr:=fr) hg x;have rN:∀x b9 w',ae.length=b9.length->St ms w0 (lits ae ae b9++ax ch R) w'->k (put fr o.dst x) b9 ch->next (a.put o.dst (den ae x)) w':=λx b9 w' h1 h2 h3=>by
  have:=hk x [] b9 ch w' (by simpa using h1) (by simpa using h2) h3 (.inl rfl);simpa using this
 refine⟨λ_ _=>trivial,?_⟩;rw[Oper.semAt_eq _ _ _ (ait h),ha];unfold pM at h;split at h
 ·rename_i t x ho;split at h
  ·rename_i v hv;have:=LZ (P:=C.P) hl S hv;have e:(execOp (act ae fr).eval o).run C.P w=.ok (.value (den ae v)) w:=by
    unfold execOp;simp only[ho,bo,bH,this];rfl
   rw[e];simp only[K9];exact rN _ _ _ hl S h
  ·split at h
   ·rename_i p v hv;have:=aas (P:=C.P) hl S hv h.1;have e:(execOp (act ae fr).eval o).run C.P w=.ok (.value (den ae v)) w:=by
     unfold execOp;simp only[ho,bo,bH,this];rfl
    rw[e];simp only[K9];exact rN _ _ _ hl S h.2
   ·cases hq:ldH t x&&bF bl.length fr with
    |false=>rw[hq]at h;exact h.elim
    |true=>
     rw[hq]at h;rw[<-hl]at hq;simp only[bJ]at hq;obtain⟨x,aq,b9,ce,w',h1,g1,g2,-,g3⟩:=C.hok _ _ ae bl ch R ms w0 w _ _ o hg hl S bo ho h;rcases h1 with h1|⟨h1,rfl⟩
     ·rw[h1];simp only[K9];exact hk _ _ _ _ _ g1 g2 g3 (.inr hq.2)
     ·rw[h1];simp only[ahc];have:=hk _ _ _ _ _ g1 g2 g3 (.inr hq.2);simpa[gn,den]using this
 ·rename_i t x y ho;split at h
  ·rename_i b9 hv;obtain⟨w',h1,h2,h3⟩:=aaj (P:=C.P) hl S hv;have e:(execOp (act ae fr).eval o).run C.P w=.ok .skip w':=by
    unfold execOp;simp only[ho,bo,bH,h1];rfl
   rw[e];simp only[ahc];rw[show(undef:aj)=den ae gn by simp[gn,den]];exact rN _ _ _ h3 h2 h
  ·split at h
   ·rename_i p b9 hv;obtain⟨w',h1,h2,h3⟩:=ail (P:=C.P) hl S hv h.1;have e:(execOp (act ae fr).eval o).run C.P w=.ok .skip w':=by
     unfold execOp;simp only[ho,bo,bH,h1];rfl
    rw[e];simp only[ahc];rw[show(undef:aj)=den ae gn by simp[gn,den]];exact rN _ _ _ h3 h2 h.2
   ·cases hq:stH x&&bF bl.length fr with
    |false=>rw[hq]at h;exact h.elim
    |true=>
     rw[hq]at h;rw[<-hl]at hq;simp only[bJ]at hq;obtain⟨x,aq,b9,ce,w',h1,g1,g2,g3⟩:=C.hok _ _ ae bl ch R ms w0 w _ _ o hg hl S bo ho h;rcases h1 with h1|⟨h1,rfl⟩
     ·rw[h1];simp only[K9];exact hk _ _ _ _ _ g1 g2 g3 (.inr hq.2)
     ·rw[h1];simp only[ahc];have:=hk _ _ _ _ _ g1 g2 g3 (.inr hq.2);simpa[gn,den]using this
 ·split at h
  ·rename_i p v hv;rw[aau bo o hv h.1];simp only[K9];exact rN _ _ _ hl S h.2
  ·split at h
   ·rename_i v hv;rw[aai bo o v hv];simp only[K9];exact rN _ _ _ hl S h
   ·split at h
    ·rename_i v b hv;cases hq:bF bl.length fr&&(bY bl.length bl&&bF bl.length b.c)with
     |false=>rw[hq]at h;exact h.elim
     |true=>
      rw[hq]at h;simp only[bJ]at hq;rw[<-hl]at hv hq;obtain⟨h1,h2,h2f⟩:=aif (w:=w) bo o hv;obtain⟨h3,h4⟩:=grow hl S b h2 h2f hq.2.1 hq.2.2;rw[h1];simp only[K9];exact hk _ _ _ _ _ h4 h3 h (.inr hq.1)
    ·split at h
     ·rename_i f ak hv;cases hq:bF bl.length fr with
      |false=>rw[hq]at h;exact h.elim
      |true=>
       rw[hq]at h;rw[<-hl]at hq;obtain⟨h1,h2⟩:=aiq bo hl S o hv;rw[h1,Oper.uponIn_enter];refine⟨(λe=>nomatch e),aim ?_⟩;refine Calls.mono (hc f h2 ak ae bl ch R ms w0 w _ hg hl S h) ?_;rintro e w' ⟨v,rfl,x,aq,b9,ce,rfl,g1,g2,g3⟩;exact hk _ _ _ _ _ g1 g2 g3 (.inr hq)
     split at h
     ·rename_i l ak hv;cases hq:bF bl.length fr with
      |false=>rw[hq]at h;exact h.elim
      |true=>
       rw[hq]at h;rw[<-hl]at hq;obtain⟨f,tmps,nV,body,h1,h2⟩:=C.yok l ak ae bl ch R ms w0 w _ hg hl S h;rw[ais bo o hv,h1,Oper.uponIn_round];refine⟨(λe=>nomatch e),RoundIn.mono (air h2) ?_⟩;rintro e w' ⟨v,rfl,x,aq,b9,ce,rfl,g1,g2,g3⟩;exact hk _ _ _ _ _ g1 g2 g3 (.inr hq)
     ·cases hq:B7 o.op&&bF bl.length fr with
      |false=>rw[hq]at h;exact h.elim
      |true=>
       rw[hq]at h;rw[<-hl]at hq;simp only[bJ]at hq;obtain⟨x,aq,b9,ce,w',h1,g1,g2,g3⟩:=C.hok _ _ ae bl ch R ms w0 w _ _ o hg hl S bo rfl h;have g3:k (put fr o.dst x) b9 ce:=by revert g3;cases keepO o.op with|true=>exact And.right|false=>exact id
       rcases h1 with h1|⟨h1,rfl⟩
       ·rw[h1];simp only[K9];exact hk _ _ _ _ _ g1 g2 g3 (.inr hq.2)
       ·rw[h1];simp only[ahc];have:=hk _ _ _ _ _ g1 g2 g3 (.inr hq.2);simpa[gn,den]using this
def aiu{aq:List Nat}(h:aq=[]\/bF ae.length fr=af):act (ae++aq) fr=act ae fr:=by
 rcases h with rfl|h
 ·simp
 ·exact ain h
end
end Vx
namespace Vx
variable{G:Type}[Bl G]
structure WI(rd:Option Nat)(P:aL)(ops:Array aA)(Q:dR->Act->an->Prop)(l:List aA)(a:Act)(w:an):Prop where
 out:wpListIn (FW rd) 0 P ops Q l a w
def WI.want{rd:Option Nat}{P:aL}{ops:Array aA}{Q:dR->Act->an->Prop}{a:Act}{w:an}{rest:List aA}{o:aA}(hw:gU o (yielded ops a.tmps)=af)
 (h:∀K:Act->an->Prop,(∀a w,WI rd P ops Q rest a w->K a w)->o.wpIn (FW rd) 0 P a w K Q):WI rd P ops Q (o::rest) a w:=
 ⟨wpListIn_step λK hK=>by rw[if_pos hw];exact h K λa w x=>hK a w x.out⟩
def WI.skip{rd:Option Nat}{P:aL}{ops:Array aA}{Q:dR->Act->an->Prop}{a:Act}{w:an}{rest:List aA}{o:aA}(k:WI rd P ops Q rest (a.put o.dst undef) w)
 (hw:gU o (yielded ops a.tmps)=ah):WI rd P ops Q (o::rest) a w:=
 ⟨wpListIn_step λK hK=>by rw[if_neg (by rw[hw];simp)];exact⟨λ_ _=>trivial,hK _ _ k.out⟩⟩
section
variable{C:Ctx G}{call:l5 G}
def Ma:∀(fr:List V)(t:Nat),mH fr t (nth fr t)=fr
 |[],_=>rfl
 |_::_,0=>rfl
 |v::l,t+1=>by simp[zZ,z3,z5,lU,lV,ly,Ma l t]
def aiv{ae:List Nat}{fr:List V}{ops:Array aA}{j t:Nat}{b:Bool}(hd:Ag ops j=aa t)(h:nth fr t=.bool b):yielded ops (act ae fr).tmps j=aa b:=by
 have h1:(ops[j]?).bind (·.dst)=aa t:=by
  unfold Ag at hd;split at hd
  ·rename_i o ho;rw[ho];simpa using hd
  ·cases hd
 have h2:(act ae fr).tmps[t]?=aa (.bool b):=by
  have h3:=z7 (ae:=ae) fr t;rw[h]at h3;have h4:t<(aJ ae fr).toArray.size:=by
   rcases di t (aJ ae fr).toArray.size with h5|h5
   ·exact h5
   ·exfalso;rw[DS,dif_neg oM]at h3;simp[den,undef]at h3
  rw[DS,dif_pos h4]at h3;simp only[act];rw[K4 h4];simp only[den]at h3;exact congrArg aa h3.symm
 simp[yielded,h1,h2]
def aiw{ae:List Nat}{fr:List V}{ops:Array aA}{j t:Nat}{vs:Array aj}(hd:Ag ops j=aa t)(h:nth fr t=.raw (.tuple vs)):yielded ops (act ae fr).tmps j=ag:=by
 have h1:(ops[j]?).bind (·.dst)=aa t:=by
  unfold Ag at hd;split at hd
  ·rename_i o ho;rw[ho];simpa using hd
  ·cases hd
 unfold yielded;rw[h1];simp only[Option.bind_some];by_cases h4:t<(aJ ae fr).toArray.size
 ·have h3:=z7 (ae:=ae) fr t;rw[h,DS,dif_pos h4]at h3;simp only[act];rw[K4 h4];simp only[den]at h3;rw[Array.getInternal_eq_getElem]at h3;rw[<-h3]
 ·simp only[act];rw[KW oM]
def RC{rd:Option Nat}(hc:Et C.P C.gl call){ops:Array aA}{R:List av}{ms:List Nat}{w0:an}{Q:dR->Act->an->Prop}{k:jJ G}:∀(l:List aA){ae:List Nat}{bl:List VB}{ch:List G}{fr:List V}{w:an},
 Gl C.gl ae->ae.length=bl.length->St ms w0 (lits ae ae bl++ax ch R) w->ki C call ops l fr bl ch k->
 (∀fr' aq b9 ce w',(ae++aq).length=b9.length->St ms w0 (lits (ae++aq) (ae++aq) b9++ax ce R) w'->k fr' b9 ce->Q .normal (act (ae++aq) fr') w')->
 WI rd C.P ops Q l (act ae fr) w
 |[],ae,bl,ch,fr,w,hg,hl,S,h,hk=>by
  refine⟨wpListIn_nil ?_⟩;have:=hk fr [] bl ch w (by simpa using hl) (by simpa using S) h;simpa using this
 |o::l,ae,bl,ch,fr,w,hg,hl,S,h,hk=>by
  have go:∀fr,gU o (yielded ops (act ae fr).tmps)=af->pM C call o fr bl ch (λfr bl ch=>ki C call ops l fr bl ch k)->WI rd C.P ops Q (o::l) (act ae fr) w:=by
   intro fr hw h;refine WI.want hw λK hK=>RA hc hg hl S h rfl ?_;intro x aq b9 ce w' g1 g2 g3 g4;rw[<-aiu g4,aaw];refine hK _ _ (RC hc l (hg.app aq) g1 g2 g3 ?_);intro pN cj ci ch2 w2 e1 e2 e3;have:=hk pN (aq++cj) ci ch2 w2 (by rw[<-bZ];exact e1) (by rw[<-bZ];exact e2) e3;rw[<-bZ]at this;exact this
  have sk:∀fr,gU o (yielded ops (act ae fr).tmps)=ah->ki C call ops l (put fr o.dst gn) bl ch k->WI rd C.P ops Q (o::l) (act ae fr) w:=by
   intro fr hw h;refine WI.skip ?_ hw;rw[show(undef:aj)=den ae gn by simp[gn,den],aaw];exact RC hc l hg hl S h hk
  simp only[ki]at h;split at h
  ·rename_i Ah;exact go fr (by simp[gU,Ah]) h
  ·rename_i j want Ah;split at h
   ·exact h.elim
   ·rename_i t hd;split at h
    ·rename_i b hb;have hy:=aiv (ae:=ae) hd hb;have Mb:gU o (yielded ops (act ae fr).tmps)=(b==want):=by
      simp only[gU,Ah,hy];cases b<;>cases want<;>rfl
     have hs:=Ma fr t;rw[hb]at hs;cases b with
     |true=>
      rw[hs]at h;cases want with
      |true=>exact go fr (by rw[Mb];rfl) h
      |false=>exact sk fr (by rw[Mb];rfl) h
     |false=>
      rw[hs]at h;cases want with
      |true=>exact sk fr (by rw[Mb];rfl) h
      |false=>exact go fr (by rw[Mb];rfl) h
    ·rename_i vs hb;exact sk fr (by simp only[gU,Ah,aiw (ae:=ae) hd hb];rfl) h
    ·exact h.elim
end
inductive Cl where|f|a|x
 deriving DecidableEq
def aix(t:Nat):bA->Bool
 |.tmp 16=>aC t 22
 |_=>ah
def Ai(o:aA):Cl:=match o.op with
 |.alloc _=>.a
 |.move _=>.f
 |.assign _=>.f
 |.pick .. =>.f
 |.load t y=>bif aC t 232||(aix t y||ldH t y)then .x else .f
 |.nilCheck _=>.f
 |.binOp op _ _ y _=>bif LX op y then .x else .f
 |.unOp .. =>.f
 |.convert _ d _=>bif aC d 9 then .x else .f
 |.makeFunc .. =>.f
 |.makeInterface .. =>.f
 |.build .. =>.f
 |.fieldAddr .. =>.f
 |.field .. =>.f
 |.indexAddr .. =>.f
 |.index .. =>.f
 |.extract .. =>.f
 |.call ⟨.builtin .len,_,_⟩=>.f
 |.call ⟨.builtin .min,_,_⟩=>.f
 |.call ⟨.builtin .max,_,_⟩=>.f
 |.slice .. =>.f
 |.sliceToArrayPointer .. =>.f
 |_=>.x
def kP(o:aA):Bool:=match Ai o with|.f=>af|_=>ah
def gF(o:aA):Bool:=match Ai o with|.a=>af|_=>ah
def lz(o:aA):Bool:=match Ai o with|.x=>af|_=>ah
def RD(o:aA):Bool:=match o.op with|.load .. =>af|_=>ah
def vZ(q:Nat->Bool)(o:aA):Bool:=match o.op with
 |.load .. =>af
 |.box .. =>af
 |.buildSlice _ n _=>!(aC n 0)
 |.convert .. =>af
 |.call ⟨.value (.func f),_,_⟩=>q f
 |_=>ah
def xO(pm:List Nat):List Edge->Nat
 |[]=>0
 |e::l=>bif s_ .any e then xO pm l|||(2^e.on|||pm.getD e.on 0)else xO pm l
def Mc:List aA->List Nat->List Nat
 |[],pm=>pm
 |o::l,pm=>Mc l (pm++[xO pm o.after.toList])
def fS(pm:List Nat)(i j:Nat):Bool:=(pm.getD j 0).testBit i
def v3(l:List aA)(pm:List Nat):Bool:=aC pm.length l.length&&(l.zip pm).all λp=>aC p.2 (xO pm p.1.after.toList)
def bK(l:List aA)(i:Nat):aA:=match l[i]?with|some o=>o|none=>default
def l6(p:Nat->Nat->Bool):List Nat->Bool
 |[]=>af
 |i::l=>l.all (p i)&&l6 p l
def pO(l:List aA):List Nat->Option Nat
 |[]=>ag
 |i::r=>bif gF (bK l i)then pO l r else aa i
def Aj(l:List aA)(pm:List Nat):List Nat->Bool
 |[]=>af
 |i::r=>(bif gF (bK l i)then(match pO l r with|some x=>lz (bK l x)&&fS pm i x|none=>ah)else af)&&Aj l pm r
def looks(l:List aA)(i:Nat):List Tmp:=K_ l.toArray (bK l i)
def Hm(t:Tmp)(l:List Tmp):Bool:=l.any λu=>aC u t
def xP(q:Nat->Bool)(l:List aA)(pm:List Nat)(i j:Nat):Bool:=
 (!(fS pm j i)||(gF (bK l j)&&aC (pm.getD j 0) 0))&&(fS pm i j||
  (bif lz (bK l i)then gF (bK l j)else af)&&
  (bif lz (bK l j)&&RD (bK l i)then vZ q (bK l j)else af))&&
 (match(bK l i).dst with|some t=>(bif Hm t (looks l j)then fS pm i j else af)&&(match(bK l j).dst with|some u=>!(aC t u)|none=>af)|none=>af)&&
 (match(bK l j).dst with|some t=>(bif Hm t (looks l i)then fS pm i j else af)|none=>af)
def Md(C:Ctx G)(n:Nat)(o:aA):Bool:=
 (match o.dst with|some t=>dq t n|none=>af)&&(match o.op with|.select .. =>ah|_=>af)&&
 (bif gF o then(match o.guard,o.dst,o.op with|none,aa _,.alloc t=>(match lX C.P t with|some _=>af|none=>ah)|_,_,_=>ah)else af)
def v5(l:List aA)(ts:List Nat):List aA:=ts.map (bK l)
def Ew:List Nat->Bool
 |[]=>af
 |i::l=>!(l.any λj=>aC j i)&&Ew l
def Ak(l:List aA)(n:Nat):Bool:=l.all λo=>o.after.all λe=>!s_ .any e||dq e.on n
def aax(C:Ctx G)(q:Nat->Bool)(l:List aA)(pm ts:List Nat):Bool:=
 v3 l pm&&Ak l l.length&&C.P.follows .mixedOrders&&aC ts.length l.length&&ts.all (λi=>dq i l.length)&&Ew ts&&
 l6 (xP q l pm) ts&&Aj l pm ts&&ts.all (λi=>!(fS pm i i))
def Hn(C:Ctx G)(q:Nat->Bool)(l:List aA)(pm ts:List Nat)(n:Nat):Bool:=aax C q l pm ts&&l.all (Md C n)
def Me(pm:List Nat)(done m:Nat)(l:List aA)(c:aA->Bool)(am:Nat):Nat->Option Nat
 |0=>ag
 |k+1=>match Me pm done m l c am k with
  |some i=>aa i
  |none=>bif ahd done k then ag else bif c (bK l k)&&aC ((pm.getD k 0)|||(done|||am)) (done|||am)then aa k else ag
def Mf(l:List aA):Nat->Nat
 |0=>0
 |k+1=>bif gF (bK l k)then Mf l k|||2^k else Mf l k
def Ho(pm:List Nat)(l:List aA)(done j:Nat):Nat->List Nat
 |0=>[]
 |k+1=>Ho pm l done j k++(bif gF (bK l k)&&(fS pm k j&&!(ahd done k))then[k]else[])
def sched(pm:List Nat)(l:List aA)(am:Nat):Nat->Nat->List Nat
 |0,_=>[]
 |n+1,done=>match Me pm done l.length l kP 0 l.length with
  |some i=>i::sched pm l am n (done|||2^i)
  |none=>match Me pm done l.length l lz am l.length with
   |some j=>Ho pm l done j l.length++(j::sched pm l am n ((Ho pm l done j l.length).foldl (λs i=>s|||2^i) (done|||2^j)))
   |none=>[]
def Mg(pm:List Nat)(l:List aA)(u:List Tmp):Nat->Nat
 |0=>0
 |k+1=>bif gF (bK l k)&&(aC (pm.getD k 0) 0&&(match(bK l k).dst with|some t=>!(Hm t u)|none=>ah))then Mg pm l u k|||2^k else Mg pm l u k
def aay(pm:List Nat)(done:Nat)(l:List aA):Nat->Option Nat
 |0=>ag
 |k+1=>match aay pm done l k with
  |some i=>aa i
  |none=>bif ahd done k then ag else bif kP (bK l k)&&aC ((pm.getD k 0)|||(done|||Mg pm l (looks l k) l.length)) (done|||Mg pm l (looks l k) l.length)then aa k else ag
def RE(pm:List Nat)(l:List aA)(am:Nat):Nat->Nat->List Nat
 |0,_=>[]
 |n+1,done=>match aay pm done l l.length with
  |some i=>i::RE pm l am n (done|||2^i)
  |none=>match Me pm done l.length l lz am l.length with
   |some j=>Ho pm l done j l.length++(j::RE pm l am n ((Ho pm l done j l.length).foldl (λs i=>s|||2^i) (done|||2^j)))
   |none=>[]
def aiy(pm:List Nat)(l:List aA)(ts:List Nat):List Nat:=bif aC ts.length l.length then ts else RE pm l (Mf l l.length) l.length 0
def Ex(l:List aA)(pm:List Nat):List Nat:=aiy pm l (sched pm l (Mf l l.length) l.length 0)
def Mh(i:Nat)(o:aA):aA:={o with after:=o.after.push ⟨i,.data⟩}
def fY(l:List aA)(i j:Nat):List aA:=match l[j]?with|some o=>l.set j (Mh i o)|none=>l
def Hp:List aA->List Nat->List Nat->List Nat
 |[],pm,_=>pm
 |o::l,pm,old=>Hp l (pm++[xO (pm++old) o.after.toList]) old.tail
def B8(l:List aA):List Nat->Option (Nat×List Nat)
 |[]=>ag
 |i::r=>bif lz (bK l i)then aa (i,r)else B8 l r
def Hq(C:Ctx G)(l:List aA)(pm ts:List Nat)(i n:Nat):Bool:=Hn C C.q l pm ts n&&(l.all λo=>!(gF o))&&(match B8 l ts with|some (x,_)=>aC x i|none=>ah)
section
variable{l:List aA}{pm:List Nat}
def Hr(pm:List Nat)(i:Nat):∀es:List Edge,(xO pm es).testBit i=af↔∃e∈es,s_ .any e=af/\(e.on=i\/(pm.getD e.on 0).testBit i=af)
 |[]=>by simp[xO]
 |e::l=>by
  unfold xO;cases hb:s_ .any e with
  |false=>simp[hb,Hr pm i l]
  |true=>
   simp only[cond_true,Nat.testBit_or,Bv,Hr pm i l,Nat.testBit_two_pow,decide_eq_true_eq];constructor
   ·rintro(⟨x,hx,h1,h2⟩|h2)
    ·exact⟨x,by simp[hx],h1,h2⟩
    ·exact⟨e,sP,hb,h2⟩
   ·rintro⟨x,hx,h1,h2⟩;rcases cG.1 hx with rfl|hx
    ·exact .inr h2
    ·exact .inl ⟨x,hx,h1,h2⟩
def RF(h:v3 l pm=af){j:Nat}{o:aA}(ho:l[j]?=aa o):pm.getD j 0=xO pm o.after.toList:=by
 unfold v3 at h;simp only[bJ]at h;have dl:=cw h.1;have hj:j<l.length:=by rcases di j l.length with h'|h';exact h';simp[h']at ho
 have hm:(l.zip pm)[j]?=aa (o,pm[j]):=by
  rw[List.getElem?_zip_eq_some];exact⟨ho,sP⟩
 have:=ik.1 h.2 _ (rC hm);have:=cw this;simp only[gh,jh (show j<pm.length by omega),Y3];exact this
def Mi{i:Nat}{o:aA}(h:l[i]?=aa o):bK l i=o:=by unfold bK;rw[h]
def aiz{i t:Nat}(h:(bK l i).dst=aa t):l[i]?=aa (bK l i):=by
 unfold bK at h⊢;cases hi:l[i]?with
 |some o=>rfl
 |none=>rw[hi]at h;cases h
def aaz(h:v3 l pm=af){i j:Nat}{o:aA}(ho:l[j]?=aa o)(hb:fS pm i j=af):∃e∈o.after,s_ .any e=af/\(e.on=i\/fS pm i e.on=af):=by
 unfold fS at hb;rw[RF h ho]at hb;obtain⟨e,he,h1,h2⟩:=(Hr pm _ _).1 hb;exact⟨e,by simpa using he,h1,h2⟩
def B9{p:Nat->Nat->Bool}:∀{a b:List Nat},l6 p (a++b)=af->(∀i∈a,∀j∈b,p i j=af)/\l6 p a=af/\l6 p b=af
 |[],b,h=>⟨sP,rfl,h⟩
 |x::a,b,h=>by
  simp only[fe,l6,bJ,ik]at h;obtain⟨i1,i2,i3⟩:=B9 h.2;refine⟨?_,?_,i3⟩
  ·intro i hi j hj;rcases cG.1 hi with rfl|hi
   ·exact h.1 j (by simp[hj])
   ·exact i1 i hi j hj
  ·simp only[l6,bJ,ik];exact⟨λj hj=>h.1 j (by simp[hj]),i2⟩
def RG{p:Nat->Nat->Bool}:∀{a:List Nat},l6 p a=af->∀i∈a,∀j∈a,i≠j->p i j=af\/p j i=af
 |[],_,_,hi,_,_,_=>by cases hi
 |x::a,h,i,hi,j,hj,c_=>by
  simp only[l6,bJ,ik]at h;rcases cG.1 hi with e1|mD
  ·rcases cG.1 hj with e2|mF
   ·exact absurd (e1.trans e2.symm) c_
   ·rw[e1];exact .inl (h.1 j mF)
  ·rcases cG.1 hj with e2|mF
   ·rw[e2];exact .inr (h.1 i mD)
   ·exact RG h.2 i mD j mF c_
def RH:∀{a:List Nat},Ew a=af->a.Nodup
 |[],_=>List.nodup_nil
 |i::a,h=>by
  simp only[Ew,bJ,pj]at h;refine uo.2 ⟨?_,RH h.2⟩;intro hm;have:=List.any_eq_false.1 h.1 i hm;simp[uv]at this
def RI{t:Tmp}{ts:List Tmp}:Hm t ts=af↔t∈ts:=by
 unfold Hm;rw[Bu];constructor
 ·rintro⟨u,hu,h⟩;obtain rfl:=cw h;exact hu
 ·intro h;exact⟨t,h,uv t⟩
def xQ(o:aA):(kP o=af/\gF o=ah/\lz o=ah)\/(kP o=ah/\gF o=af/\lz o=ah)\/(kP o=ah/\gF o=ah/\lz o=af):=by
 unfold kP gF lz;cases Ai o<;>simp
structure RJ(q:Nat->Bool)(l:List aA)(pm:List Nat)(i j:Nat):Prop where
 nx:fS pm j i=ah\/(gF (bK l j)=af/\pm.getD j 0=0)
 nb:∀t,(bK l j).dst=aa t->t∈looks l i->fS pm j i=ah
 xj:lz (bK l i)=af->gF (bK l j)=ah->fS pm i j=af
 ld:lz (bK l j)=af->RD (bK l i)=af->fS pm i j=af\/vZ q (bK l j)=af
 wi:∀t,(bK l i).dst=aa t->t∈looks l j->fS pm i j=af
 wj:∀t,(bK l j).dst=aa t->t∈looks l i->fS pm i j=af
 ww:∀t,(bK l i).dst=aa t->(bK l j).dst≠aa t
def uQ{q:Nat->Bool}{i j:Nat}(h:xP q l pm i j=af):RJ q l pm i j:=by
 unfold xP at h;simp only[bJ]at h;obtain⟨⟨⟨h1,h2⟩,h3⟩,h4⟩:=h;have h1:fS pm j i=ah\/(gF (bK l j)=af/\pm.getD j 0=0):=by
  rcases Bv _ _▸h1 with h1|h1
  ·exact .inl (by simpa using h1)
  ·simp only[bJ]at h1;exact .inr ⟨h1.1,cw h1.2⟩
 refine⟨h1,?_,?_,?_,?_,?_,?_⟩
 ·intro t ht hm;rcases h1 with h1|⟨_,h1⟩
  ·exact h1
  ·rw[ht]at h4;have h5:fS pm i j=af:=by simpa only[RI.2 hm,cond_true]using h4
   unfold fS at h5;rw[h1,Nat.zero_testBit]at h5;cases h5
 ·intro hx ha;rcases Bv _ _▸h2 with h2|h2
  ·exact h2
  ·rw[hx,ha]at h2;simp at h2
 ·intro hx hl;rcases Bv _ _▸h2 with h2|h2
  ·exact .inl h2
  ·rw[hx,hl]at h2;simp only[bJ,Bool.and_self,cond_true]at h2;exact .inr h2.2
 ·intro t ht hm;rw[ht]at h3;simp only[bJ,RI.2 hm,cond_true]at h3;exact h3.1
 ·intro t ht hm;rw[ht]at h4;simpa only[RI.2 hm,cond_true]using h4
 ·intro t ht e;rw[ht,e]at h3;simp[uv]at h3
end
def Hs(l:List aA)(fr:List V)(o:aA)(b:Bool):Prop:=match o.guard with
 |none=>b=af
 |some (g,want)=>∃t,Ag l.toArray g=aa t/\((∃c,nth fr t=.bool c/\b=(c==want))\/(∃vs,nth fr t=.raw (.tuple vs)/\b=ah))
def Ht(C:Ctx G)(bl:List VB)(fr:List V)(o:aA)(v:V):Prop:=(BX C.P (ev C.gl fr) o.op=aa v\/∃b0 p,B4 C.P (ev C.gl fr) b0 o.op=aa (p,v)/\p)\/(∃t x,o.op=.load t x/\B3 C.P bl t (ev C.gl fr x) v)
structure Rec(C:Ctx G)(l:List aA)(pm:List Nat)(eM fr:List V)(bl:List VB)(i:Nat)(kQ:List V)(v:V)(b:Bool):Prop where
 w1:∀t∈looks l i,∀h,(bK l h).dst=aa t->fS pm h i=af->nth kQ t=nth fr t
 w0:∀t∈looks l i,(∀h,(bK l h).dst=aa t->fS pm h i=ah)->nth kQ t=nth eM t
 val:∀d,(bK l i).dst=aa d->nth fr d=v
 g:Hs l kQ (bK l i) b
 e:if b then Ht C bl kQ (bK l i) v else v=gn
section
variable{C:Ctx G}{l:List aA}{pm:List Nat}{ae:List Nat}{w:an}
def RK(a:Act)(t:Tmp):a.eval (.tmp t)=dp a t:=rfl
def RL{fr:List V}(t:Nat):dp (act ae fr) t=den ae (nth fr t):=by rw[<-RK];simp only[Act.eval,act,z7]
def aiA{a:Act}{t:Tmp}{b:Bool}(h:dp a t=.bool b):a.tmps[t]?=aa (.bool b):=by
 have h':a.tmps.getD t undef=.bool b:=h;by_cases h1:t<a.tmps.size
 ·rw[DS,dif_pos h1]at h';rw[K4 h1];exact congrArg aa h'
 ·rw[DS,dif_neg h1]at h';cases h'
def aiB{a:Act}{t:Tmp}{vs:Array aj}(h:dp a t=.tuple vs):a.tmps[t]?=ag\/a.tmps[t]?=aa (.tuple vs):=by
 have h':a.tmps.getD t undef=.tuple vs:=h;by_cases h1:t<a.tmps.size
 ·rw[DS,dif_pos h1]at h';rw[K4 h1];exact .inr (congrArg aa h')
 ·exact .inl (KW (Zc h1))
def aiC{ops:Array aA}{g t:Nat}(h:Ag ops g=aa t):(ops[g]?).bind (·.dst)=aa t:=by
 unfold Ag at h;split at h
 ·rename_i o ho;rw[ho];simpa using h
 ·cases h
def Mj{a:Act}{fr:List V}{o:aA}{b:Bool}(hy:∀t∈K_ l.toArray o,dp a t=den ae (nth fr t))(hg:Hs l fr o b):gU o (yielded l.toArray a.tmps)=b:=by
 unfold Hs at hg;unfold gU;split at hg
 ·rename_i h;rw[h];exact hg.symm
 ·rename_i g want h;rw[h];obtain⟨t,ht,hc⟩:=hg;have hb:=aiC ht;have hm:t∈K_ l.toArray o:=by
   unfold K_;rw[h];refine oF _ ?_;simp only[hb];simp
  have Mk:=hy t hm;simp only[yielded,hb,Option.bind_some];rcases hc with⟨c,h1,h2⟩|⟨vs,h1,h2⟩
  ·rw[h1]at Mk;rw[aiA (b:=c) (by rw[Mk];simp only[den])];simp only;rw[h2];cases c<;>cases want<;>rfl
  ·rw[h1]at Mk;rcases aiB (a:=a) (t:=t) (vs:=vs) (by rw[Mk];simp only[den])with h3|h3
   ·rw[h3,h2];rfl
   ·rw[h3,h2];rfl
def Hu{a:Act}{fr:List V}{o:aA}(hs:∀cs b,o.op≠.select cs b)(hy:∀t∈K_ l.toArray o,dp a t=den ae (nth fr t)):execOp a.eval o=execOp (act ae fr).eval o:=by
 refine execOp_congr o hs ?_;intro x hx;cases x with
 |tmp t=>
  rw[RK,RK,RL];refine hy t ?_;unfold K_;exact kB _ (List.mem_filterMap.2 ⟨.tmp t,by simpa using hx,rfl⟩)
 |const v=>rfl
 |global g=>rfl
 |func f=>rfl
def RM{bl:List VB}{R:List av}{ms:List Nat}{w0:an}{fr:List V}{o:aA}{v:V}(hg:Gl C.gl ae)(hl:ae.length=bl.length)(S:St ms w0 (lits ae ae bl++R) w)(h:Ht C bl fr o v):
 (execOp (act ae fr).eval o).run C.P w=.ok (.value (den ae v)) w:=by
 have bo:=λx=>aav (fr:=fr) hg x;rcases h with(h|⟨b0,p,h,hp⟩)|⟨t,x,ho,h⟩
 ·exact aai bo o v h
 ·exact aau bo o h hp
 ·have:=h.run hl S;unfold execOp;simp only[ho,bo,bH,this];rfl
def aiD{call:l5 G}{o:aA}{fr:List V}{bl:List VB}{ch:List G}{k:jJ G}(hf:kP o=af)(h:pM C call o fr bl ch k):∃v,Ht C bl fr o v/\k (put fr o.dst v) bl ch:=by
 unfold pM at h;split at h
 ·rename_i t x ho;split at h
  ·rename_i v hv;exact⟨v,.inr ⟨t,x,ho,.inl hv⟩,h⟩
  ·split at h
   ·rename_i p v hv;exact⟨v,.inr ⟨t,x,ho,.inr ⟨p,hv,h.1⟩⟩,h.2⟩
   ·cases hq:ldH t x with
    |false=>rw[hq]at h;exact h.elim
    |true=>simp[kP,Ai,ho,hq]at hf
 ·rename_i t x y ho;simp[kP,Ai,ho]at hf
 ·rename_i op h1 h2;split at h
  ·rename_i p v hv;exact⟨v,.inl (.inr ⟨_,p,hv,h.1⟩),h.2⟩
  split at h
  ·rename_i v hv;exact⟨v,.inl (.inl hv),h⟩
  ·exfalso;unfold kP Ai at hf;split at h
   ·rename_i v b hv;unfold El at hv;split at hv<;>simp_all
   ·split at h
    ·rename_i f ak hv;unfold callee at hv;split at hv
     ·rename_i c hc;split at hv
      ·rename_i fo uR;obtain⟨mJ,ar,ts⟩:=c;simp only at uR;subst uR;rw[hc]at hf;simp at hf
      ·rename_i r nm uR;obtain⟨mJ,ar,ts⟩:=c;simp only at uR;subst uR;rw[hc]at hf;simp at hf
      ·cases hv
     ·cases hv
    ·split at h
     ·rename_i lp ak hv;unfold Es at hv;split at hv
      ·rename_i c hc;split at hv
       ·rename_i fo uR;obtain⟨mJ,ar,ts⟩:=c;simp only at uR;subst uR;rw[hc]at hf;simp at hf
       ·cases hv
      ·cases hv
     cases hq:B7 o.op with
     |false=>rw[hq]at h;exact h
     |true=>
      unfold B7 at hq;split at hq<;>simp_all
end
structure DI(C:Ctx G)(call:l5 G)(q:Nat->Bool)(l:List aA)(pm:List Nat)(R:List av)(ms:List Nat)(w0:an)(k:jJ G)(eM:List V)(fj:List Nat)
 (cZ rest:List Nat) (fr:List V) (ae:List Nat) (bl:List VB) (ch:List G) (Z:List (Nat×av)) (ap:Array Bool) (a:Act) (w:an):Prop where
 l7:l6 (xP q l pm) (cZ++rest)=af
 xT:Aj l pm rest=af
 nW:∀i,i<l.length->i∈cZ++rest
 nX:∀i∈cZ++rest,i<l.length
 nd:(cZ++rest).Nodup
 pP:l.all (Md C fr.length)=af
 xU:∀i∈cZ++rest,fS pm i i=ah
 ls:ap.size=l.length
 tM:∀i∈cZ,kP (bK l i)=ah->ap[i]?=aa af
 ng:∀i∈rest,gF (bK l i)=ah->ap[i]?=aa ah
 back:∀j,ap[j]?=aa af->∀i,fS pm i j=af->ap[i]?=aa af
 vc:ki C call l.toArray (v5 l rest) fr bl ch k
 sz:a.tmps.size=fr.length
 df:a.defers=[]
 slot:∀t,(∀i∈cZ,(bK l i).dst=aa t->ap[i]?=aa af)->(∀i∈rest,(bK l i).dst=aa t->ap[i]?=aa ah)->dp a t=den ae (nth fr t)
 old:∀i∈cZ,ap[i]?=aa ah->∀t,(bK l i).dst=aa t->dp a t=den ae (nth eM t)
 uS:∀t,(∀i∈cZ,(bK l i).dst≠aa t)->nth fr t=nth eM t
 aY:∀i∈cZ,ap[i]?=aa ah->∃kQ v b,Rec C l pm eM fr bl i kQ v b
 tN:∀i∈rest,ap[i]?=aa af->∃b t z d,(i,(⟨b,af,.cells (ao [] z).toArray t (0,0)⟩:av))∈Z/\(bK l i).op=.alloc t/\lX C.P t=aa z/\(bK l i).dst=aa d/\dp a d=.pointer (aa ⟨b,0,ag⟩)
 oN:∀p∈Z,p.1∈rest/\ap[p.1]?=aa af
 Ey:(Z.map (·.1)).Nodup
 S:St ms w0 (lits ae ae bl++ax ch (Z.map (·.2)++R)) w
 hl:ae.length=bl.length
 gl:Gl C.gl ae
 B_:bF ae.length eM=af
 Ez:∃m,ae=fj++m
section
variable{C:Ctx G}{call:l5 G}{q:Nat->Bool}{l:List aA}{pm:List Nat}{R:List av}{ms:List Nat}{w0:an}{k:jJ G}{eM fr:List V}{fj:List Nat}
 {cZ rest:List Nat} {ae:List Nat} {bl:List VB} {ch:List G} {Z:List (Nat×av)} {ap:Array Bool} {a:Act} {w:an} {Q:dR->Act->an->Prop}
def aaA:∀(fr:List V)(t:Nat)(x:V),(mH fr t x).length=fr.length
 |[],_,_=>rfl
 |_::_,0,_=>rfl
 |_::l,t+1,x=>by simp[zZ,z3,z5,aaA l t x]
def EA(d:Option Tmp)(x:V):(put fr d x).length=fr.length:=by cases d<;>simp[put,aaA]
def RN:∀(fr:List V)(t u:Nat)(x:V),t<fr.length->nth (mH fr t x) u=if u=t then x else nth fr u
 |[],t,u,x,h=>by simp at h
 |v::l,0,0,x,_=>by simp[zZ,z3,z5,lU,lV,ly]
 |v::l,0,u+1,x,_=>by simp[zZ,z3,z5,lU,lV,ly]
 |v::l,t+1,0,x,_=>by simp[zZ,z3,z5,lU,lV,ly]
 |v::l,t+1,u+1,x,h=>by simp[zZ,z3,z5,lU,lV,ly,RN l t u x (by simpa using h)]
def RO{d:Option Tmp}{x:V}(t:Tmp)(hd:∀u,d=aa u->u<fr.length):(d=aa t->nth (put fr d x) t=x)/\(d≠aa t->nth (put fr d x) t=nth fr t):=by
 cases d with
 |none=>exact⟨λh=>(nomatch h),λ_=>rfl⟩
 |some u=>
  refine⟨λh=>?_,λh=>?_⟩
  ·cases h;simp only[put];rw[RN _ _ _ _ (hd _ rfl),if_pos rfl]
  ·simp only[put];rw[RN _ _ _ _ (hd u rfl),if_neg (λe=>h (by rw[e]))]
def Al{n:Nat}(h:l.all (Md C n)=af){i:Nat}{o:aA}(ho:l[i]?=aa o):(∀t,o.dst=aa t->t<n)/\(∀cs b,o.op≠.select cs b)/\
 (gF o=af->o.guard=ag/\∃d t z,o.dst=aa d/\o.op=.alloc t/\lX C.P t=aa z):=by
 have h1:=ik.1 h o (rC ho);unfold Md at h1;simp only[bJ]at h1;obtain⟨⟨a1,a2⟩,a3⟩:=h1;refine⟨?_,?_,?_⟩
 ·intro t ht;rw[ht]at a1;rw[jQ]at a1;exact a1
 ·intro cs b e;rw[e]at a2;cases a2
 ·intro ha;rw[ha]at a3;simp only[cond_true]at a3;split at a3
  ·rename_i d t hg hd ho;split at a3
   ·rename_i z hz;exact⟨hg,d,t,z,hd,ho,hz⟩
   ·cases a3
  ·cases a3
namespace DI
def at_(D:DI C call q l pm R ms w0 k eM fj cZ rest fr ae bl ch Z ap a w){i:Nat}(h:i∈cZ++rest):l[i]?=aa (bK l i):=by
 have:=D.nX i h;rw[jh this];rw[Mi (jh this)]
def mem_of(D:DI C call q l pm R ms w0 k eM fj cZ rest fr ae bl ch Z ap a w){i t:Nat}(h:(bK l i).dst=aa t):i∈cZ++rest:=by
 have:=aiz h;exact D.nW i (by rcases di i l.length with h'|h';exact h';simp[h']at this)
def bit(D:DI C call q l pm R ms w0 k eM fj cZ rest fr ae bl ch Z ap a w){i:Nat}(h:i∈cZ++rest):ap[i]?=aa af\/ap[i]?=aa ah:=mY D.ls (D.nX i h)
def uniq(D:DI C call q l pm R ms w0 k eM fj cZ rest fr ae bl ch Z ap a w){i j t:Nat}(hi:(bK l i).dst=aa t)(hj:(bK l j).dst=aa t):i=j:=by
 refine Classical.byContradiction λc_=>?_;rcases RG D.l7 i (D.mem_of hi) j (D.mem_of hj) c_ with h|h
 ·exact(uQ h).ww t hi hj
 ·exact(uQ h).ww t hj hi
def ahead(D:DI C call q l pm R ms w0 k eM fj cZ rest fr ae bl ch Z ap a w){i j:Nat}(hi:i∈cZ)(hj:j∈rest):RJ q l pm i j:=uQ ((B9 D.l7).1 i hi j hj)
def apart(D:DI C call q l pm R ms w0 k eM fj cZ rest fr ae bl ch Z ap a w){i:Nat}(hi:i∈cZ)(hj:i∈rest):False:=(List.nodup_append.1 D.nd).2.2 i hi i hj rfl
def RP(D:DI C call q l pm R ms w0 k eM fj cZ rest fr ae bl ch Z ap a w){i:Nat}(hi:i∈cZ)(hu:ap[i]?=aa ah)(hp:∀h,fS pm h i=af->ap[h]?=aa af){kQ:List V}{v:V}{b:Bool}
 (r:Rec C l pm eM fr bl i kQ v b):∀t∈looks l i,dp a t=den ae (nth kQ t):=by
 intro t ht;by_cases hw:∃h,(bK l h).dst=aa t
 ·obtain⟨h,hd⟩:=hw;cases hb:fS pm h i with
  |true=>
   rw[r.w1 t ht h hd hb];refine D.slot t ?_ ?_
   ·intro i' mD gY;rw[D.uniq gY hd];exact hp h hb
   ·intro i' mD gY;have:=(D.ahead hi (D.uniq gY hd▸mD)).nb t hd ht;rw[hb]at this;cases this
  |false=>
   rw[r.w0 t ht (λh' gY=>by rw[D.uniq gY hd];exact hb)];by_cases he:h=i
   ·subst he;exact D.old h hi hu t hd
   ·have hm:=D.mem_of hd;have BO:fS pm i h=af:=by
     rcases RG D.l7 h hm i (by simp[hi]) he with p|p
     ·have:=(uQ p).wi t hd ht;rw[hb]at this;cases this
     ·exact(uQ p).wj t hd ht
    have hun:ap[h]?=aa ah:=by
     rcases D.bit hm with e|e
     ·have:=D.back h e i BO;rw[hu]at this;cases this
     ·exact e
    rcases dV.1 hm with hm|hm
    ·exact D.old h hm hun t hd
    ·rw[<-D.uS t (λi' mD gY=>D.apart mD (D.uniq gY hd▸hm))];refine D.slot t ?_ ?_
     ·intro i' mD gY;exact(D.apart mD (D.uniq gY hd▸hm)).elim
     ·intro i' mD gY;rw[D.uniq gY hd];exact hun
 ·rw[r.w0 t ht (λh hd=>(hw ⟨h,hd⟩).elim),<-D.uS t (λi' _ gY=>hw ⟨i',gY⟩)];exact D.slot t (λi' _ gY=>(hw ⟨i',gY⟩).elim) (λi' _ gY=>(hw ⟨i',gY⟩).elim)
def aiE(D:DI C call q l pm R ms w0 k eM fj cZ rest fr ae bl ch Z ap a w){i:Nat}{r:List Nat}(hr:rest=i::r)(hu:ap[i]?=aa ah)(hp:∀h,fS pm h i=af->ap[h]?=aa af):
 ∀t∈looks l i,dp a t=den ae (nth fr t):=by
 intro t ht;refine D.slot t ?_ ?_
 ·intro h hh hd;exact hp h ((D.ahead hh (by rw[hr];simp)).wi t hd ht)
 ·intro h hh hd;rcases D.bit (i:=h) (by simp[hh])with e|e
  ·exfalso;rw[hr]at hh;rcases cG.1 hh with rfl|hh
   ·rw[hu]at e;cases e
   ·have xV:=(B9 D.l7).2.2;rw[hr]at xV;simp only[l6,bJ,ik]at xV;have:=(uQ (xV.1 h hh)).wj t hd ht;have:=D.back h e i this;rw[hu]at this;cases this
  ·exact e
end DI
end
section
variable{C:Ctx G}{call:l5 G}{q:Nat->Bool}{l:List aA}{pm:List Nat}{R:List av}{ms:List Nat}{w0:an}{k:jJ G}{eM fr:List V}{fj:List Nat}
 {cZ rest:List Nat} {ae:List Nat} {bl:List VB} {ch:List G} {Z:List (Nat×av)} {ap:Array Bool} {a:Act} {w:an} {Q:dR->Act->an->Prop}
def RQ{i j:Nat}{b:Bool}(hi:i<ap.size):(ap.setIfInBounds i af)[j]?=aa b↔(j=i/\b=af)\/(j≠i/\ap[j]?=aa b):=by
 rw[s9];by_cases h:i=j
 ·subst h;simp[hi]
 ·rw[if_neg h];constructor
  ·intro e;exact .inr ⟨λx=>h x.symm,e⟩
  ·rintro(⟨e,_⟩|⟨_,e⟩)
   ·exact absurd e.symm h
   ·exact e
def RR{a:Act}{d:Option Tmp}{v:aj}(hd:∀u,d=aa u->u<a.tmps.size)(t:Tmp):(d=aa t->dp (a.put d v) t=v)/\(d≠aa t->dp (a.put d v) t=dp a t):=by
 cases d with
 |none=>exact⟨λh=>(nomatch h),λ_=>rfl⟩
 |some u=>
  refine⟨λh=>?_,λh=>?_⟩
  ·cases h;rw[zR _ _ _ _ (hd _ rfl),if_pos rfl]
  ·rw[zR _ _ _ _ (hd u rfl),if_neg (λe=>h (by rw[e]))]
namespace DI
def RS(D:DI C call q l pm R ms w0 k eM fj cZ rest fr ae bl ch Z ap a w){i:Nat}(hi:i∈cZ)(hu:ap[i]?=aa ah)(hp:∀h,fS pm h i=af->ap[h]?=aa af){kQ:List V}{v:V}{b:Bool}
 (r:Rec C l pm eM fr bl i kQ v b):DI C call q l pm R ms w0 k eM fj cZ rest fr ae bl ch Z (ap.setIfInBounds i af) (a.put (bK l i).dst (den ae v)) w:=by
 have jE:i<ap.size:=by rw[D.ls];exact D.nX i (by simp[hi])
 have sg:=λj b=>RQ (ap:=ap) (j:=j) (b:=b) jE;have hd:∀u,(bK l i).dst=aa u->u<a.tmps.size:=λu hu=>by rw[D.sz];exact(Al D.pP (D.at_ (by simp[hi]))).1 u hu
 have yp:=RR (v:=den ae v) hd;refine{D with ls:=by simpa using D.ls,tM:=?_,ng:=?_,back:=?_,sz:=by rw[size_put];exact D.sz,df:=by rw[BJ];exact D.df,slot:=?_,old:=?_,aY:=?_,tN:=?_,oN:=λp hp=>⟨(D.oN p hp).1,(sg _ _).2 (.inr ⟨λe=>D.apart hi (e▸(D.oN p hp).1),(D.oN p hp).2⟩)⟩}
 ·intro j hj hf;exact(sg _ _).2 (by by_cases e:j=i;exact .inl ⟨e,rfl⟩;exact .inr ⟨e,D.tM j hj hf⟩)
 ·intro j hj hf;exact(sg _ _).2 (.inr ⟨λe=>D.apart hi (e▸hj),D.ng j hj hf⟩)
 ·intro j hj h hb;refine(sg _ _).2 ?_;rcases(sg _ _).1 hj with⟨rfl,_⟩|⟨c_,hj⟩
  ·by_cases e:h=j
   ·exact .inl ⟨e,rfl⟩
   ·exact .inr ⟨e,hp h hb⟩
  ·by_cases e:h=i
   ·exact .inl ⟨e,rfl⟩
   ·exact .inr ⟨e,D.back j hj h hb⟩
 ·intro t h1 h2;by_cases e:(bK l i).dst=aa t
  ·rw[(yp t).1 e,r.val t e]
  ·rw[(yp t).2 e];refine D.slot t ?_ ?_
   ·intro j hj gY;rcases(sg _ _).1 (h1 j hj gY)with⟨rfl,_⟩|⟨_,h⟩
    ·exact absurd gY e
    ·exact h
   ·intro j hj gY;rcases(sg _ _).1 (h2 j hj gY)with⟨_,h⟩|⟨_,h⟩
    ·cases h
    ·exact h
 ·intro j hj e_ t ht;rcases(sg _ _).1 e_ with⟨_,h⟩|⟨c_,h⟩
  ·cases h
  ·rw[(yp t).2 (λe=>c_ (D.uniq ht e))];exact D.old j hj h t ht
 ·intro j hj e_;rcases(sg _ _).1 e_ with⟨_,h⟩|⟨c_,h⟩
  ·cases h
  ·exact D.aY j hj h
 ·intro j hj e_;rcases(sg _ _).1 e_ with⟨rfl,_⟩|⟨c_,h⟩
  ·exact(D.apart hi hj).elim
  ·obtain⟨b,t,z,d,h1,h2,h3,h4,h5⟩:=D.tN j hj h;exact⟨b,t,z,d,h1,h2,h3,h4,by rw[(yp d).2 (λe=>c_ (D.uniq h4 e))];exact h5⟩
def RT(b:av)(X:List av):∀ch:List G,(b::ax ch X).Perm (ax ch (b::X))
 |[]=>zM _
 |c::ch=>by
  simp only[ax];exact(kY.symm).trans (j8 (Bl.B c) (RT b X ch))
def aiF{P:aL}{t:aP}{z:List V}(h:lX P t=aa z)(ae:List Nat):ao ae z=ao [] z:=by
 unfold lX at h;split at h
 ·split at h
  ·rename_i v hv;simp only[a_]at h;subst h;rw[Q7,Q7];cases v<;>simp[Ei,kO,ao,cl,den,LR]
  ·cases h
 ·cases h
def aiG(D:DI C call q l pm R ms w0 k eM fj cZ rest fr ae bl ch Z ap a w){i d:Nat}{t:aP}{z:List V}(hi:i∈rest)(hu:ap[i]?=aa ah)(hp:∀h,fS pm h i=af->ap[h]?=aa af)
 (ho:(bK l i).op=.alloc t) (hz:lX C.P t=aa z) (hd:(bK l i).dst=aa d):
 DI C call q l pm R ms w0 k eM fj cZ rest fr ae bl ch ((i,⟨w.heap.size,af,.cells (ao [] z).toArray t (0,0)⟩)::Z) (ap.setIfInBounds i af) (a.put (bK l i).dst (.pointer (aa ⟨w.heap.size,0,ag⟩))) (w.alloc (.cells (ao [] z).toArray t)):=by
 have jE:i<ap.size:=by rw[D.ls];exact D.nX i (by simp[hi])
 have sg:=λj b=>RQ (ap:=ap) (j:=j) (b:=b) jE;have Am:∀u,(bK l i).dst=aa u->u<a.tmps.size:=λu hu=>by rw[D.sz];exact(Al D.pP (D.at_ (by simp[hi]))).1 u hu
 have yp:=RR (v:=(.pointer (aa ⟨w.heap.size,0,ag⟩):aj)) Am;have hA:gF (bK l i)=af:=by simp[gF,Ai,ho]
 have hF:kP (bK l i)=ah:=by simp[kP,Ai,ho]
 refine{D with ls:=by simpa using D.ls,tM:=?_,ng:=?_,back:=?_,sz:=by rw[size_put];exact D.sz,df:=by rw[BJ];exact D.df,slot:=?_,old:=?_,aY:=?_,tN:=?_,oN:=?_,Ey:=?_,S:=?_}
 ·intro j hj hf;exact(sg _ _).2 (by by_cases e:j=i;exact .inl ⟨e,rfl⟩;exact .inr ⟨e,D.tM j hj hf⟩)
 ·intro j hj hf;exact(sg _ _).2 (.inr ⟨λe=>(by rw[e,hA]at hf;cases hf),D.ng j hj hf⟩)
 ·intro j hj h hb;refine(sg _ _).2 ?_;rcases(sg _ _).1 hj with⟨rfl,_⟩|⟨c_,hj⟩
  ·by_cases e:h=j
   ·exact .inl ⟨e,rfl⟩
   ·exact .inr ⟨e,hp h hb⟩
  ·by_cases e:h=i
   ·exact .inl ⟨e,rfl⟩
   ·exact .inr ⟨e,D.back j hj h hb⟩
 ·intro t h1 h2;by_cases e:(bK l i).dst=aa t
  ·rcases(sg _ _).1 (h2 i hi e)with⟨_,h⟩|⟨h,_⟩
   ·cases h
   ·exact absurd rfl h
  ·rw[(yp t).2 e];refine D.slot t ?_ ?_
   ·intro j hj gY;rcases(sg _ _).1 (h1 j hj gY)with⟨rfl,_⟩|⟨_,h⟩
    ·exact absurd gY e
    ·exact h
   ·intro j hj gY;rcases(sg _ _).1 (h2 j hj gY)with⟨_,h⟩|⟨_,h⟩
    ·cases h
    ·exact h
 ·intro j hj e_ t ht;rcases(sg _ _).1 e_ with⟨_,h⟩|⟨c_,h⟩
  ·cases h
  ·rw[(yp t).2 (λe=>c_ (D.uniq ht e))];exact D.old j hj h t ht
 ·intro j hj e_;rcases(sg _ _).1 e_ with⟨_,h⟩|⟨c_,h⟩
  ·cases h
  ·exact D.aY j hj h
 ·intro j hj e_;rcases(sg _ _).1 e_ with⟨rfl,_⟩|⟨c_,h⟩
  ·exact⟨_,_,_,_,xk ..,ho,hz,hd,(yp d).1 hd⟩
  ·obtain⟨b,t,z,d,h1,h2,h3,h4,h5⟩:=D.tN j hj h;exact⟨b,t,z,d,qA _ h1,h2,h3,h4,by rw[(yp d).2 (λe=>c_ (D.uniq h4 e))];exact h5⟩
 ·intro p hp;rcases cG.1 hp with rfl|hp
  ·exact⟨hi,(sg _ _).2 (.inl ⟨rfl,rfl⟩)⟩
  ·exact⟨(D.oN p hp).1,(sg _ _).2 (by by_cases e:p.1=i;exact .inl ⟨e,rfl⟩;exact .inr ⟨e,(D.oN p hp).2⟩)⟩
 ·simp only[gx,uo];refine⟨?_,D.Ey⟩;intro hm;obtain⟨p,hp,e⟩:=oC.1 hm;have:=(D.oN p hp).2;rw[e,hu]at this;cases this
 ·have h:=D.S.new (Ch.alloc [] w (.cells (ao [] z).toArray t)) (cW _) (oB w _);refine h.perm ?_;simp only[gx,fe];exact(kY.symm).trans (j8 _ (RT _ _ _))
end DI
end
mutual
theorem aaB{n m:Nat}(An:n<=m):∀v:V,dg n v=af->dg m v=af
 |.int _ _,_=>by simp[dg]
 |.bool _,_=>by simp[dg]
 |.ptr i _,h=>by simp only[dg,jQ]at h⊢;omega
 |.sl i _ _ _,h=>by simp only[dg,jQ]at h⊢;omega
 |.dB i _ _ _ _,h=>by simp only[dg,jQ]at h⊢;omega
 |.fn _ a b,h=>by simp only[dg,bJ]at h⊢;exact⟨xW An a h.1,xW An b h.2⟩
 |.nT _ v,h=>by simp only[dg]at h⊢;exact aaB An v h
 |.agg l,h=>by simp only[dg]at h⊢;exact xW An l h
 |.aD l,h=>by simp only[dg]at h⊢;exact xW An l h
 |.cu _ _ _,_=>by simp[dg]
 |.arr _ _ _,_=>by simp[dg]
 |.fi _ _ _ _,_=>by simp[dg]
 |.rest _,_=>by simp[dg]
 |.gm _ _ _,_=>by simp[dg]
 |.pe i _ _ _ _,h=>by simp only[dg,jQ]at h⊢;omega
 |.raw _,_=>by simp[dg]
theorem xW{n m:Nat}(An:n<=m):∀l:List V,bF n l=af->bF m l=af
 |[],_=>by simp[bF]
 |v::l,h=>by simp only[bF,bJ]at h⊢;exact⟨aaB An v h.1,xW An l h.2⟩
end
def Hv{n:Nat}:∀{fr:List V}(t:Nat),bF n fr=af->dg n (nth fr t)=af
 |[],_,_=>by simp[lU,lV,ly,gn,dg]
 |v::l,0,h=>by simp only[bF,bJ]at h;exact h.1
 |v::l,t+1,h=>by simp only[bF,bJ]at h;exact Hv t h.2
def aiH{P:aL}{bl e:List VB}{t:aP}{x v:V}(h:vX P bl t x=aa v):vX P (bl++e) t x=aa v:=by
 unfold vX at h⊢;split at h
 ·rename_i i off;split at h
  ·rename_i b hb;have hi:i<bl.length:=by rcases di i bl.length with h'|h';exact h';simp[h']at hb
   simp only[gB hi,hb];exact h
  ·cases h
 ·cases h
def aaC{P:aL}{bl e:List VB}{t:aP}{x v:V}(h:B3 P bl t x v):B3 P (bl++e) t x v:=by
 rcases h with h|⟨p,h,hp⟩
 ·exact .inl (aiH h)
 ·exact .inr ⟨p,aij h,hp⟩
def aaD{X Y:List av}(h:X.Perm Y):∀ch:List G,(ax ch X).Perm (ax ch Y)
 |[]=>h
 |c::ch=>j8 (Bl.B c) (aaD h ch)
section
variable{C:Ctx G}{call:l5 G}{q:Nat->Bool}{l:List aA}{pm:List Nat}{R:List av}{ms:List Nat}{w0:an}{k:jJ G}{eM fr:List V}{fj:List Nat}
 {cZ rest:List Nat} {ae:List Nat} {bl:List VB} {ch:List G} {Z:List (Nat×av)} {ap:Array Bool} {a:Act} {w:an} {Q:dR->Act->an->Prop}
def aaE{o:aA}{L:List aA}(h:ki C call l.toArray (o::L) fr bl ch k):∃b,Hs l fr o b/\(if b then pM C call o fr bl ch (λfr bl ch=>ki C call l.toArray L fr bl ch k)else ki C call l.toArray L (put fr o.dst gn) bl ch k):=by
 simp only[ki]at h;unfold Hs;split at h
 ·rename_i hg;(try rw[hg]);exact⟨af,rfl,h⟩
 ·rename_i j want hg;try rw[hg]
  split at h
  ·exact h.elim
  ·rename_i t hd;split at h
   ·rename_i c hc;have hs:=Ma fr t;rw[hc]at hs;refine⟨c==want,⟨t,hd,.inl ⟨c,hc,rfl⟩⟩,?_⟩;cases c<;>(rw[hs]at h;cases want<;>exact h)
   ·rename_i vs hc;exact⟨ah,⟨t,hd,.inr ⟨vs,hc,rfl⟩⟩,h⟩
   ·exact h.elim
def Rec.frame{i:Nat}{kQ:List V}{v:V}{b:Bool}(r:Rec C l pm eM fr bl i kQ v b){fr':List V}{b9:List VB}
 (h1:∀t∈looks l i,∀h,(bK l h).dst=aa t->fS pm h i=af->nth fr' t=nth fr t) (h2:∀d,(bK l i).dst=aa d->nth fr' d=nth fr d)
 (h3:∀t x v,(bK l i).op=.load t x->B3 C.P bl t (ev C.gl kQ x) v->B3 C.P b9 t (ev C.gl kQ x) v):Rec C l pm eM fr' b9 i kQ v b:=by
 refine⟨λt ht h hd hb=>(r.w1 t ht h hd hb).trans (h1 t ht h hd hb).symm,r.w0,λd hd=>(h2 d hd).trans (r.val d hd),r.g,?_⟩;have e:=r.e;cases b with
 |false=>exact e
 |true=>
  rcases e with e|⟨t,x,ho,e⟩
  ·exact .inl e
  ·exact .inr ⟨t,x,ho,h3 t x v ho e⟩
namespace DI
def aiI{i:Nat}{r:List Nat}(D:DI C call q l pm R ms w0 k eM fj cZ (i::r) fr ae bl ch Z ap a w)(hf:kP (bK l i)=af):∃fr',DI C call q l pm R ms w0 k eM fj (cZ++[i]) r fr' ae bl ch Z ap a w:=by
 have nY:(cZ++[i])++r=cZ++(i::r):=sP;have hA:gF (bK l i)=ah:=by rcases xQ (bK l i)with h|h|h<;>simp_all
 have hu:ap[i]?=aa ah:=D.ng i sP hA;have ho:=D.at_ (i:=i) sP;have Am:=(Al D.pP ho).1;obtain⟨b,hg,hb⟩:=aaE D.vc;obtain⟨v,hv,cT⟩:∃v,(if b then Ht C bl fr (bK l i) v else v=gn)/\ki C call l.toArray (v5 l r) (put fr (bK l i).dst v) bl ch k:=by
  cases b with
  |true=>rw[if_pos rfl]at hb;exact aiD hf hb
  |false=>rw[if_neg sP]at hb;exact⟨gn,rfl,hb⟩
 have np:=λt=>RO (fr:=fr) (x:=v) t Am;have xX:∀{j},j∈cZ->j≠i:=λhj e=>D.apart hj (by rw[e];simp);refine⟨put fr (bK l i).dst v,{D with l7:=by rw[nY];exact D.l7,xT:=?_,nW:=by rw[nY];exact D.nW,nX:=by rw[nY];exact D.nX,nd:=by rw[nY];exact D.nd,pP:=by rw[EA];exact D.pP,xU:=by rw[nY];exact D.xU,tM:=?_,ng:=λj hj=>D.ng j (by simp[hj]),vc:=cT,sz:=by rw[EA];exact D.sz,slot:=?_,old:=?_,uS:=?_,aY:=?_,tN:=λj hj=>D.tN j (by simp[hj]),oN:=?_}⟩
 ·have:=D.xT;simp only[Aj,bJ]at this;exact this.2
 ·intro j hj xY;rcases dV.1 hj with hj|hj
  ·exact D.tM j hj xY
  ·obtain rfl:j=i:=by simpa using hj
   rw[hf]at xY;cases xY
 ·intro t h1 h2;by_cases e:(bK l i).dst=aa t
  ·have:=h1 i sP e;rw[hu]at this;cases this
  ·rw[(np t).2 e];refine D.slot t (λj hj=>h1 j (by simp[hj])) ?_;intro j hj hd;rcases cG.1 hj with rfl|hj
   ·exact absurd hd e
   ·exact h2 j hj hd
 ·intro j hj e_ t ht;rcases dV.1 hj with hj|hj
  ·exact D.old j hj e_ t ht
  ·obtain rfl:j=i:=by simpa using hj
   rw[<-D.uS t (λh hh hd=>xX hh (D.uniq hd ht))];refine D.slot t (λh hh hd=>(xX hh (D.uniq hd ht)).elim) ?_;intro h hh hd;rw[D.uniq hd ht];exact hu
 ·intro t h;rw[(np t).2 (h i sP)];exact D.uS t (λj hj=>h j (by simp[hj]))
 ·intro j hj e_;rcases dV.1 hj with hj|hj
  ·obtain⟨kQ,v',b',rr⟩:=D.aY j hj e_;refine⟨kQ,v',b',rr.frame ?_ ?_ (λ_ _ _ _ h=>h)⟩
   ·intro t ht h hd pQ;refine(np t).2 (λe=>?_);have:=(D.ahead hj (show i∈i::r by simp)).nb t e ht;rw[D.uniq hd e]at pQ;rw[pQ]at this;cases this
   ·intro d hd;exact(np d).2 (λe=>xX hj (D.uniq hd e))
  ·obtain rfl:j=i:=by simpa using hj
   refine⟨fr,v,b,⟨?_,?_,λd hd=>(np d).1 hd,hg,hv⟩⟩
   ·intro t ht h hd pQ;refine((np t).2 (λe=>?_)).symm;rw[D.uniq hd e,D.xU j sP]at pQ;cases pQ
   ·intro t ht iL;exact D.uS t (λh hh hd=>by
     have:=(D.ahead hh (show j∈j::r by simp)).wi t hd ht;rw[iL h hd]at this;cases this)
 ·intro p hp;obtain⟨h1,h2⟩:=D.oN p hp;rcases cG.1 h1 with e|h1
  ·rw[e,hu]at h2;cases h2
  ·exact⟨h1,h2⟩
def Hw:∀(r:List Nat){cZ:List Nat}{fr:List V},DI C call q l pm R ms w0 k eM fj cZ r fr ae bl ch Z ap a w->∃xZ r' fr',DI C call q l pm R ms w0 k eM fj xZ r' fr' ae bl ch Z ap a w/\(r'=[]\/∃i s,r'=i::s/\kP (bK l i)=ah)
 |[],cZ,fr,D=>⟨cZ,[],fr,D,.inl rfl⟩
 |i::r,cZ,fr,D=>by
  cases hf:kP (bK l i)with
  |false=>exact⟨cZ,i::r,fr,D,.inr ⟨i,r,rfl,hf⟩⟩
  |true=>
   obtain⟨fr',D'⟩:=D.aiI hf;exact Hw r D'
def aiJ{i:Nat}{r:List Nat}(D:DI C call q l pm R ms w0 k eM fj cZ (i::r) fr ae bl ch Z ap a w)(ha:gF (bK l i)=af)(hi:ap[i]?=aa af):∃fr' ids' b9 Z',DI C call q l pm R ms w0 k eM fj (cZ++[i]) r fr' ids' b9 ch Z' ap a w:=by
 have nY:(cZ++[i])++r=cZ++(i::r):=sP;have ho:=D.at_ (i:=i) sP;have Am:=(Al D.pP ho).1;obtain⟨Ah,_⟩:=(Al D.pP ho).2.2 ha;obtain⟨b,t,z,d,hz,i_,hzt,hd,hy⟩:=D.tN i sP hi;obtain⟨Z1,Z2,rfl⟩:=List.append_of_mem hz;have cT:=D.vc;simp only[v5,gx,ki,Ah,pM,i_,B4,BX,El,hzt]at cT;cases hq:bF bl.length fr&&(bY bl.length bl&&bF bl.length z)with
 |false=>rw[hq]at cT;exact cT.elim
 |true=>
  rw[hq]at cT;simp only[bJ,<-D.hl]at hq;have cT:ki C call l.toArray (v5 l r) (put fr (bK l i).dst (.ptr bl.length 0)) (bl++[⟨af,t,z⟩]) ch k:=cT;have np:=λt=>RO (fr:=fr) (x:=V.ptr bl.length 0) t Am;have xX:∀{j},j∈cZ->j≠i:=λhj e=>D.apart hj (by rw[e];simp);refine⟨_,ae++[b],_,Z1++Z2,{D with l7:=by rw[nY];exact D.l7,xT:=?_,nW:=by rw[nY];exact D.nW,nX:=by rw[nY];exact D.nX,nd:=by rw[nY];exact D.nd,pP:=by rw[EA];exact D.pP,xU:=by rw[nY];exact D.xU,tM:=?_,ng:=λj hj=>D.ng j (by simp[hj]),vc:=cT,sz:=by rw[EA];exact D.sz,slot:=?_,old:=?_,uS:=?_,aY:=?_,tN:=?_,oN:=?_,Ey:=?_,S:=?_,hl:=by simp[D.hl],gl:=D.gl.app _,B_:=xW sP _ D.B_,Ez:=by obtain⟨m,e⟩:=D.Ez;exact⟨m++[b],by rw[e,bZ]⟩}⟩
  ·have:=D.xT;simp only[Aj,bJ]at this;exact this.2
  ·intro j hj xY;rcases dV.1 hj with hj|hj
   ·exact D.tM j hj xY
   ·obtain rfl:j=i:=by simpa using hj
    exact hi
  ·intro u h1 h2;by_cases e:(bK l i).dst=aa u
   ·rw[(np u).1 e];obtain rfl:d=u:=by rw[hd]at e;simpa using e
    rw[hy];simp only[den,<-D.hl,lY]
   ·rw[(np u).2 e,gX _ (Hv u hq.1)];refine D.slot u (λj hj=>h1 j (by simp[hj])) ?_;intro j hj gY;rcases cG.1 hj with rfl|hj
    ·exact absurd gY e
    ·exact h2 j hj gY
  ·intro j hj e_ u hu;rcases dV.1 hj with hj|hj
   ·rw[gX _ (Hv u D.B_)];exact D.old j hj e_ u hu
   ·obtain rfl:j=i:=by simpa using hj
    rw[hi]at e_;cases e_
  ·intro u h;rw[(np u).2 (h i sP)];exact D.uS u (λj hj=>h j (by simp[hj]))
  ·intro j hj e_;rcases dV.1 hj with hj|hj
   ·obtain⟨kQ,v',b',rr⟩:=D.aY j hj e_;refine⟨kQ,v',b',rr.frame ?_ ?_ (λ_ _ _ _ h=>aaC h)⟩
    ·intro u hu h hd pQ;refine(np u).2 (λe=>?_);have:=(D.ahead hj (show i∈i::r by simp)).nb u e hu;rw[D.uniq hd e]at pQ;rw[pQ]at this;cases this
    ·intro u hd;exact(np u).2 (λe=>xX hj (D.uniq hd e))
   ·obtain rfl:j=i:=by simpa using hj
    rw[hi]at e_;cases e_
  ·intro j hj e_;obtain⟨b',t',z',d',h1,h2⟩:=D.tN j (by simp[hj]) e_;refine⟨b',t',z',d',?_,h2⟩;rcases dV.1 h1 with h1|h1
   ·simp[h1]
   ·rcases cG.1 h1 with e|h1
    ·exfalso;have:j=i:=by simpa using congrArg Prod.fst e
     have hn:=(List.nodup_append.1 D.nd).2.1;rw[uo]at hn;exact hn.1 (this▸hj)
    ·simp[h1]
  ·intro p hp;obtain⟨h1,h2⟩:=D.oN p (by rcases dV.1 hp with h|h<;>simp[h]);rcases cG.1 h1 with e|h1
   ·exfalso;have hn:=D.Ey;simp only[uw,gx]at hn;have rI:=(List.perm_middle.nodup_iff.1 hn);rw[uo]at rI;refine rI.1 ?_;rw[<-e];rcases dV.1 hp with h|h
    ·exact kB _ (oC.2 ⟨p,h,rfl⟩)
    ·exact oF _ (oC.2 ⟨p,h,rfl⟩)
   ·exact⟨h1,h2⟩
  ·have hn:=D.Ey;simp only[uw,gx]at hn⊢;have rI:=(List.perm_middle.nodup_iff.1 hn);exact(uo.1 rI).2
  ·refine D.S.perm ?_;rw[fw _ _ _ _ D.hl,fy _ _ hq.2.1];simp only[lits,aI,aiF hzt (ae++[b])];rw[bZ];refine j8 _ ?_;simp only[uw,gx,fe,fu,bZ];exact(aaD kY ch).trans (RT _ _ ch).symm
end DI
end
end Vx
namespace Vx
variable{G:Type}[Bl G]
def Hx(q:Nat->Bool)(call:l5 G):Prop:=∀f,q f=af->∀ak bl ch K,call f ak bl ch K->call f ak bl ch λv b9 ce=>K v b9 ce/\∃e,b9=bl++e
section
variable{C:Ctx G}{call:l5 G}{q:Nat->Bool}{l:List aA}{pm:List Nat}{R:List av}{ms:List Nat}{w0:an}{k:jJ G}{eM fr:List V}{fj:List Nat}
 {cZ rest:List Nat} {ae:List Nat} {bl:List VB} {ch:List G} {Z:List (Nat×av)} {ap:Array Bool} {a:Act} {w:an} {Q:dR->Act->an->Prop}
def aiK(hq:Hx q call){o:aA}(ho:vZ q o=af){k:jJ G}(h:pM C call o fr bl ch k):pM C call o fr bl ch λfr' b9 ce=>k fr' b9 ce/\∃e,b9=bl++e:=by
 unfold pM at h⊢;split at h
 ·rename_i t x e;split at h
  ·first|exact⟨h,[],sP⟩|(split;exact⟨h,[],sP⟩)
  ·split at h
   ·exact⟨h.1,h.2,[],sP⟩
   ·cases hb:ldH t x&&bF bl.length fr with
    |false=>rw[hb]at h;exact h.elim
    |true=>
     rw[hb]at h;have e:(λ(v:V)(b9:List VB)(ce:List G)=>b9=bl/\(k (put fr o.dst v) b9 ce/\∃e,b9=bl++e))=λv b9 ce=>b9=bl/\k (put fr o.dst v) b9 ce:=by
      funext v b c;exact propext ⟨λh=>⟨h.1,h.2.1⟩,λh=>⟨h.1,h.2,[],by rw[h.1,cy]⟩⟩
     show C.h _ _ bl ch λv b9 ce=>b9=bl/\(k (put fr o.dst v) b9 ce/\∃e,b9=bl++e);rw[e];exact h
 ·rename_i t x y e;simp[vZ,e]at ho
 ·rename_i op h1 h2;split at h
  ·exact⟨h.1,h.2,[],sP⟩
  split at h
  ·exact⟨h,[],sP⟩
  ·split at h
   ·cases hb:bF bl.length fr&&(bY bl.length bl&&bF bl.length _)with
    |false=>rw[hb]at h;exact h.elim
    |true=>rw[hb]at h;exact⟨h,_,rfl⟩
   ·split at h
    ·rename_i f ak hc;cases hb:bF bl.length fr with
     |false=>rw[hb]at h;exact h.elim
     |true=>
      rw[hb]at h;have hqf:q f=af:=by
       unfold vZ at ho;unfold callee at hc;split at ho
       ·rename_i e;simp[e]at hc
       ·rename_i e;simp[e]at hc
       ·rename_i e;simp[e]at hc
       ·rename_i e;simp[e]at hc
       ·rename_i g a1 a2 e;rw[e]at hc;simp only[ev]at hc;cases hk:okF C.P g with
        |false=>rw[hk]at hc;simp at hc
        |true=>
         rw[hk]at hc;simp only[cond_true,a_,bI]at hc;rw[<-hc.1];exact ho
       ·cases ho
      exact hq f hqf _ _ _ _ h
    ·split at h
     ·rename_i lp ak hv;exfalso;unfold Es at hv;split at hv
      ·rename_i c hc;split at hv
       ·rename_i fo uR;obtain⟨mJ,ar,ts⟩:=c;simp only at uR;subst uR;unfold vZ at ho;rw[hc]at ho;split at hv
        ·rename_i hr;cases fo<;>simp_all[ev]
        ·cases hv
       ·cases hv
      ·cases hv
     cases hk:B7 o.op with
     |false=>rw[hk]at h;exact h.elim
     |true=>
      cases hkp:keepO o.op with
      |false=>
       exfalso;unfold vZ at ho;unfold B7 at hk;unfold keepO at hkp;split at hk<;>simp_all
      |true=>
       rw[hk,hkp]at h;have e:(λ(v:V)(b9:List VB)(ce:List G)=>cond af (b9=bl/\(k (put fr o.dst v) b9 ce/\∃e,b9=bl++e)) (k (put fr o.dst v) b9 ce/\∃e,b9=bl++e))=λv b9 ce=>cond af (b9=bl/\k (put fr o.dst v) b9 ce) (k (put fr o.dst v) b9 ce):=by
        funext v b c;exact propext ⟨λh=>⟨h.1,h.2.1⟩,λh=>⟨h.1,h.2,[],by rw[h.1,cy]⟩⟩
       rw[e];exact h
namespace DI
def aiL{i:Nat}{r:List Nat}(D:DI C call q l pm R ms w0 k eM fj cZ (i::r) fr ae bl ch Z ap a w)(hx:lz (bK l i)=af)(hp:∀h,fS pm h i=af->ap[h]?=aa af){x:V}{aq:List Nat}{b9:List VB}{ce:List G}{w':an}
 (cT:ki C call l.toArray (v5 l r) (put fr (bK l i).dst x) b9 ce k) (hl:(ae++aq).length=b9.length) (S:St ms w0 (lits (ae++aq) (ae++aq) b9++ax ce (Z.map (·.2)++R)) w') (hw:aq=[]\/bF ae.length fr=af) (hq:vZ q (bK l i)=af->∃e,b9=bl++e):
 DI C call q l pm R ms w0 k eM fj (cZ++[i]) r (put fr (bK l i).dst x) (ae++aq) b9 ce Z (ap.setIfInBounds i af) (a.put (bK l i).dst (den (ae++aq) x)) w':=by
 have nY:(cZ++[i])++r=cZ++(i::r):=sP;have hA:gF (bK l i)=ah:=by rcases xQ (bK l i)with h|h|h<;>simp_all
 have hu:ap[i]?=aa ah:=D.ng i sP hA;have ho:=D.at_ (i:=i) sP;have Am:=(Al D.pP ho).1;have jE:i<ap.size:=by rw[D.ls];exact D.nX i sP
 have sg:=λj b=>RQ (ap:=ap) (j:=j) (b:=b) jE;have np:=λt=>RO (fr:=fr) (x:=x) t Am;have yp:=RR (a:=a) (v:=den (ae++aq) x) (d:=(bK l i).dst) (λu hu=>by rw[D.sz];exact Am u hu);have xX:∀{j},j∈cZ->j≠i:=λhj e=>D.apart hj (by rw[e];simp);have RU:∀{j},j∈r->j≠i:=λhj e=>by
  have hn:=(List.nodup_append.1 D.nd).2.1;rw[uo]at hn;exact hn.1 (e▸hj)
 have dn:∀u,den (ae++aq) (nth fr u)=den ae (nth fr u):=λu=>by
  rcases hw with rfl|hw
  ·simp
  ·exact gX _ (Hv u hw)
 refine{D with l7:=by rw[nY];exact D.l7,xT:=?_,nW:=by rw[nY];exact D.nW,nX:=by rw[nY];exact D.nX,nd:=by rw[nY];exact D.nd,pP:=by rw[EA];exact D.pP,xU:=by rw[nY];exact D.xU,ls:=by simpa using D.ls,tM:=?_,ng:=?_,back:=?_,vc:=cT,sz:=by rw[EA,size_put];exact D.sz,df:=by rw[BJ];exact D.df,slot:=?_,old:=?_,uS:=?_,aY:=?_,tN:=?_,oN:=?_,S:=S,hl:=hl,gl:=D.gl.app _,B_:=xW sP _ D.B_,Ez:=by obtain⟨m,e⟩:=D.Ez;exact⟨m++aq,by rw[e,bZ]⟩}
 ·have:=D.xT;simp only[Aj,bJ]at this;exact this.2
 ·intro j hj xY;refine(sg _ _).2 ?_;rcases dV.1 hj with hj|hj
  ·exact .inr ⟨xX hj,D.tM j hj xY⟩
  ·exact .inl ⟨by simpa using hj,rfl⟩
 ·intro j hj xY;exact(sg _ _).2 (.inr ⟨RU hj,D.ng j (by simp[hj]) xY⟩)
 ·intro j hj h hb;refine(sg _ _).2 ?_;rcases(sg _ _).1 hj with⟨rfl,_⟩|⟨c_,hj⟩
  ·by_cases e:h=j
   ·exact .inl ⟨e,rfl⟩
   ·exact .inr ⟨e,hp h hb⟩
  ·by_cases e:h=i
   ·exact .inl ⟨e,rfl⟩
   ·exact .inr ⟨e,D.back j hj h hb⟩
 ·intro t h1 h2;by_cases e:(bK l i).dst=aa t
  ·rw[(yp t).1 e,(np t).1 e]
  ·rw[(yp t).2 e,(np t).2 e,dn];refine D.slot t ?_ ?_
   ·intro j hj hd;rcases(sg _ _).1 (h1 j (by simp[hj]) hd)with⟨h,_⟩|⟨_,h⟩
    ·exact absurd h (xX hj)
    ·exact h
   ·intro j hj hd;rcases cG.1 hj with rfl|hj
    ·exact absurd hd e
    ·rcases(sg _ _).1 (h2 j hj hd)with⟨_,h⟩|⟨_,h⟩
     ·cases h
     ·exact h
 ·intro j hj e_ t ht;rcases(sg _ _).1 e_ with⟨_,h⟩|⟨c_,h⟩
  ·cases h
  ·rcases dV.1 hj with hj|hj
   ·rw[(yp t).2 (λe=>c_ (D.uniq ht e)),gX _ (Hv t D.B_)];exact D.old j hj h t ht
   ·exact absurd (by simpa using hj) c_
 ·intro t h;rw[(np t).2 (h i sP)];exact D.uS t (λj hj=>h j (by simp[hj]))
 ·intro j hj e_;rcases(sg _ _).1 e_ with⟨_,h⟩|⟨c_,h⟩
  ·cases h
  ·rcases dV.1 hj with hj|hj
   ·obtain⟨kQ,v',b',rr⟩:=D.aY j hj h;have P:=D.ahead hj (show i∈i::r by simp);refine⟨kQ,v',b',rr.frame ?_ ?_ ?_⟩
    ·intro t ht h hd pQ;refine(np t).2 (λe=>?_);have:=P.nb t e ht;rw[D.uniq hd e]at pQ;rw[pQ]at this;cases this
    ·intro d hd;exact(np d).2 (λe=>xX hj (D.uniq hd e))
    ·intro t y v i_ xN;rcases P.ld hx (by simp[RD,i_])with hb|hb
     ·have:=hp j hb;rw[h]at this;cases this
     ·obtain⟨e,rfl⟩:=hq hb;exact aaC xN
   ·exact absurd (by simpa using hj) c_
 ·intro j hj e_;rcases(sg _ _).1 e_ with⟨h,_⟩|⟨c_,h⟩
  ·exact absurd h (RU hj)
  ·obtain⟨b,t,z,d,h1,h2,h3,h4,h5⟩:=D.tN j (by simp[hj]) h;exact⟨b,t,z,d,h1,h2,h3,h4,by rw[(yp d).2 (λe=>c_ (D.uniq h4 e))];exact h5⟩
 ·intro p hp';obtain⟨h1,h2⟩:=D.oN p hp';rcases cG.1 h1 with e|h1
  ·rw[e,hu]at h2;cases h2
  ·exact⟨h1,(sg _ _).2 (.inr ⟨RU h1,h2⟩)⟩
def aaF:∀(r:List Nat){cZ:List Nat}{fr:List V}{ae:List Nat}{bl:List VB}{Z:List (Nat×av)}{i:Nat},DI C call q l pm R ms w0 k eM fj cZ r fr ae bl ch Z ap a w->pO l r=aa i->(∀h,fS pm h i=af->ap[h]?=aa af)->
 ∃xZ r' fr' ids' b9 Z',DI C call q l pm R ms w0 k eM fj xZ (i::r') fr' ids' b9 ch Z' ap a w
 |[],_,_,_,_,_,_,_,h,_=>by simp[pO]at h
 |j::r,cZ,fr,ae,bl,Z,i,D,h,hp=>by
  have rT:=D.xT;simp only[Aj,bJ]at rT;unfold pO at h;cases hA:gF (bK l j)with
  |false=>
   rw[hA]at h;obtain rfl:j=i:=by simpa using h
   exact⟨cZ,r,fr,ae,bl,Z,D⟩
  |true=>
   rw[hA]at h rT;simp only[cond_true]at h rT;rw[h]at rT;simp only[bJ]at rT;obtain⟨fr',ids',b9,Z',D'⟩:=D.aiJ hA (hp j rT.1.2);exact aaF r D' h hp
def aaG(D:DI C call q l pm R ms w0 k eM fj cZ rest fr ae bl ch Z ap a w)(h:rest=[]\/∃i s,rest=i::s/\kP (bK l i)=ah):rest=[]\/∃x,pO l rest=aa x/\x∈rest/\lz (bK l x)=af:=by
 rcases h with h|⟨i,s,rfl,hf⟩
 ·exact .inl h
 ·refine .inr ?_;have nm:∀(r:List Nat) x,pO l r=aa x->x∈r:=by
   intro r;induction r with
   |nil=>intro x h;simp[pO]at h
   |cons y r ih=>
    intro x h;unfold pO at h;cases hA:gF (bK l y)with
    |true=>rw[hA]at h;exact qA _ (ih x h)
    |false=>rw[hA]at h;simp at h;simp[h]
  rcases xQ (bK l i)with⟨h1,h2,h3⟩|⟨h1,h2,h3⟩|⟨h1,h2,h3⟩
  ·rw[hf]at h1;cases h1
  ·have rT:=D.xT;simp only[Aj,bJ,h2,cond_true]at rT;cases hn:pO l s with
   |none=>rw[hn]at rT;simp at rT
   |some x=>
    rw[hn]at rT;simp only[bJ]at rT;exact⟨x,by unfold pO;rw[h2];exact hn,qA _ (nm s x hn),rT.1.1⟩
  ·exact⟨i,by unfold pO;rw[h2];rfl,sP,h3⟩
end DI
end
section
variable{C:Ctx G}{call:l5 G}{q:Nat->Bool}{l:List aA}{pm:List Nat}{R:List av}{ms:List Nat}{w0:an}{k:jJ G}{eM fr:List V}{fj:List Nat}
 {cZ rest:List Nat} {ae:List Nat} {bl:List VB} {ch:List G} {Z:List (Nat×av)} {ap:Array Bool} {a:Act} {w:an} {Q:dR->Act->an->Prop}
namespace DI
def first(h:l6 (xP q l pm) rest=af){x:Nat}(hn:pO l rest=aa x):∀i∈rest,gF (bK l i)=ah->i=x\/RJ q l pm x i:=by
 induction rest with
 |nil=>simp[pO]at hn
 |cons y r ih=>
  intro i hi ha;simp only[l6,bJ,ik]at h;unfold pO at hn;cases hA:gF (bK l y)with
  |true=>
   rw[hA]at hn;rcases cG.1 hi with rfl|hi
   ·rw[hA]at ha;cases ha
   ·exact ih h.2 hn i hi ha
  |false=>
   rw[hA]at hn;obtain rfl:y=x:=by simpa using hn
   rcases cG.1 hi with e|hi
   ·exact .inl e
   ·exact .inr (uQ (h.1 i hi))
def RV(h:Ak l l.length=af){i:Nat}{o:aA}(ho:l[i]?=aa o){e:Edge}(he:e∈o.after)(hb:s_ .any e=af):e.on<l.length:=by
 have h1:=ik.1 h o (rC ho);have h2:=K3.1 h1 e he;rw[hb]at h2;simpa[jQ]using h2
def stuck(D:DI C call q l pm R ms w0 k eM fj cZ rest fr ae bl ch Z ap a w)(Ca:v3 l pm=af)(ir:Ak l l.length=af)(hr:rA .any l.toArray ap=[]):
 ∀(b c:List Nat),cZ++rest=c++b->(∀i∈c,ap[i]?=aa af)->∀i∈b,ap[i]?=aa af:=by
 intro b;induction b with
 |nil=>intro c _ _ i hi;cases hi
 |cons x b ih=>
  intro c hc hl;have hx:x∈cZ++rest:=by rw[hc];simp
  have h1:ap[x]?=aa af:=by
   rcases D.bit hx with h|h
   ·exact h
   ·exfalso;have ho:=D.at_ hx;have hm:x∈rA .any l.toArray ap:=(mC _ ap x).2 ⟨bK l x,ho,by simp[jO,h],λe he hb=>by
     have dy:=RV ir ho he hb;have pQ:fS pm e.on x=af:=by
      unfold fS;rw[RF Ca ho];exact(Hr pm _ _).2 ⟨e,by simpa using he,hb,.inl rfl⟩
     have hem:=D.nW e.on dy;rw[hc]at hem;have hle:ap[e.on]?=aa af:=by
      rcases dV.1 hem with hm|hm
      ·exact hl _ hm
      ·rcases cG.1 hm with h2|h2
       ·have:=D.xU x hx;rw[h2,this]at pQ;cases pQ
       ·have hp:=D.l7;rw[hc]at hp;have:=(B9 hp).2.2;simp only[l6,bJ,ik]at this;rcases(uQ (this.1 _ h2)).nx with h3|⟨h3,h4⟩
        ·rw[pQ]at h3;cases h3
        ·rcases D.bit (show e.on∈cZ++rest by rw[hc];simp[h2])with h5|h5
         ·exact h5
         ·exfalso;have ho2:=D.at_ (show e.on∈cZ++rest by rw[hc];simp[h2]);have hm2:e.on∈rA .any l.toArray ap:=(mC _ ap e.on).2 ⟨bK l e.on,ho2,by simp[jO,h5],λe2 he2 fW=>by
           exfalso;have Hk:fS pm e2.on e.on=af:=by
            unfold fS;rw[RF Ca ho2];exact(Hr pm _ _).2 ⟨e2,by simpa using he2,fW,.inl rfl⟩
           unfold fS at Hk;rw[h4,Nat.zero_testBit]at Hk;cases Hk⟩
          rw[hr]at hm2;cases hm2
     simp[jO,hle]⟩
    rw[hr]at hm;cases hm
  intro i hi;rcases cG.1 hi with rfl|hi
  ·exact h1
  ·refine ih (c++[x]) (by rw[hc];simp) (λj hj=>?_) i hi;rcases dV.1 hj with hj|hj
   ·exact hl j hj
   ·obtain rfl:j=x:=by simpa using hj
    exact h1
def fin(D:DI C call q l pm R ms w0 k eM fj cZ rest fr ae bl ch Z ap a w)(hh:rest=[]\/∃i s,rest=i::s/\kP (bK l i)=ah)(eg:∀i,i<l.length->ap[i]?=aa af):
 k fr bl ch/\a=act ae fr/\St ms w0 (lits ae ae bl++ax ch R) w:=by
 rcases D.aaG hh with rfl|⟨x,hx,hm,hX⟩
 ·have hZ:Z=[]:=by
   cases Z with
   |nil=>rfl
   |cons p Z=>have:=(D.oN p sP).1;cases this
  refine⟨D.vc,?_,by have:=D.S;rw[hZ]at this;simpa using this⟩;refine Qm (by rw[D.sz];simp[act,rQ]) (by rw[D.df];rfl) ?_;intro t;rw[RL];exact D.slot t (λi hi _=>eg i (D.nX i (by simp[hi]))) (λi hi=>nomatch hi)
 ·have h1:gF (bK l x)=ah:=by rcases xQ (bK l x)with h|h|h<;>simp_all
  have:=D.ng x hm h1;rw[eg x (D.nX x (by simp[hm]))]at this;cases this
end DI
def RW{rd:Option Nat}{P:aL}{o:aA}{v:aj}{next:Act->an->Prop}{w':an}(hd:∀c,o.op≠.defer c)(h:(execOp a.eval o).run P w=.ok (.value v) w')(hk:next (a.put o.dst v) w'):o.wpIn (FW rd) 0 P a w next Q:=by
 refine⟨λ_ _=>trivial,?_⟩;rw[Oper.semAt_eq _ _ _ hd,h];exact hk
def aaH{bl:List VB}{fr:List V}{o:aA}{v:V}(h:Ht C bl fr o v):∀c,o.op≠.defer c:=by
 intro c e;rcases h with(h|⟨b0,p,h,hp⟩)|⟨t,x,ho,h⟩
 ·rw[e]at h;simp[BX]at h
 ·rw[e]at h;simp[B4]at h
 ·rw[e]at ho;cases ho
def GR{rd:Option Nat}(hc:Et C.P C.gl call)(Cb:Hx q call)(Ca:v3 l pm=af)(ir:Ak l l.length=af)
 (hk:∀fr' m b9 ce w',(fj++m).length=b9.length->St ms w0 (lits (fj++m) (fj++m) b9++ax ce R) w'->k fr' b9 ce->Q .normal (act (fj++m) fr') w'):
 ∀(fuel:Nat){cZ rest:List Nat}{fr:List V}{ae:List Nat}{bl:List VB}{ch:List G}{Z:List (Nat×av)}{ap:Array Bool}{a:Act}{w:an},
  DI C call q l pm R ms w0 k eM fj cZ rest fr ae bl ch Z ap a w->(rest=[]\/∃i s,rest=i::s/\kP (bK l i)=ah)->ap.toList.count ah=fuel->wpAnyIn (FW rd) 0 C.P .any l.toArray Q fuel ap a w:=by
 have fin:∀{cZ rest:List Nat}{fr:List V}{ae:List Nat}{bl:List VB}{ch:List G}{Z:List (Nat×av)}{ap:Array Bool}{a:Act}{w:an},
  DI C call q l pm R ms w0 k eM fj cZ rest fr ae bl ch Z ap a w->(rest=[]\/∃i s,rest=i::s/\kP (bK l i)=ah)->(∀i,i<l.length->ap[i]?=aa af)->Q .normal a w:=by
  intro cZ rest fr ae bl ch Z ap a w D hh eg;obtain⟨h1,rfl,h3⟩:=D.fin hh eg;obtain⟨m,rfl⟩:=D.Ez;exact hk _ _ _ _ _ D.hl h3 h1
 intro fuel;induction fuel with
 |zero=>
  intro cZ rest fr ae bl ch Z ap a w D hh Hy;have eg:∀i,i<l.length->ap[i]?=aa af:=by
   intro i hi;rcases mY D.ls hi with h|h
   ·exact h
   ·exfalso;have:=count_set ap.toList i (by simpa using h);omega
  refine⟨?_,fin D hh eg⟩;refine List.eq_nil_iff_forall_not_mem.2 λi hi=>?_;obtain⟨o,ho,h2,_⟩:=(mC l ap i).1 hi;have jE:i<l.length:=by rcases di i l.length with h|h;exact h;simp[h]at ho
  simp[jO,eg i jE]at h2
 |succ fuel ih=>
  intro cZ rest fr ae bl ch Z ap a w D hh Hy;refine⟨λhr=>?_,?_⟩
  ·exfalso;have eg:∀i,i<l.length->ap[i]?=aa af:=λi hi=>D.stuck Ca ir hr (cZ++rest) [] rfl (λ_ h=>nomatch h) i (D.nW i hi);have:=Ln ap.toList l.length 0 (by simpa using D.ls) (λj hj=>by simpa using eg j hj);omega
  ·intro i hi;obtain⟨o,ho,h2,h3⟩:=(mC l ap i).1 hi;have jE:i<l.length:=by rcases di i l.length with h|h;exact h;simp[h]at ho
   have nM:=Mi ho;have hu:ap[i]?=aa ah:=by
    rcases mY D.ls jE with hb|hb
    ·simp[jO,hb]at h2
    ·exact hb
   have hp:∀h,fS pm h i=af->ap[h]?=aa af:=by
    intro h hb;obtain⟨e,he,hbd,qJ⟩:=aaz Ca ho hb;have dy:=DI.RV ir ho he hbd;have hl:ap[e.on]?=aa af:=by
     have:=h3 e he hbd;rcases mY D.ls (show e.on<l.length by omega)with hb|hb
     ·exact hb
     ·simp[jO,hb]at this
    rcases qJ with rfl|qJ
    ·exact hl
    ·exact D.back _ hl h qJ
   have Cc:(ap.setIfInBounds i af).toList.count ah=fuel:=by
    have:=count_set ap.toList i (by simpa using hu);simp only[K5];omega
   have mK:=Al D.pP ho;have hAt:l.toArray[i]?=aa o:=by simpa using ho
   unfold wpOpIn;rw[hAt];simp only;have hm:=D.nW i jE;rcases dV.1 hm with hm|hm
   ·obtain⟨kQ,v,b,r⟩:=D.aY i hm hu;have mZ:=D.RP hm hu hp r;unfold looks at mZ;have D':=D.RS hm hu hp r;have rg:=r.g;have re:=r.e;rw[nM]at mZ D' rg re;rw[Mj mZ rg];cases b with
    |true=>
     rw[if_pos rfl]at re;rw[if_pos rfl];refine RW (aaH re) (by rw[Hu mK.2.1 mZ,RM D.gl D.hl D.S re]) ?_;exact ih D' hh Cc
    |false=>
     rw[if_neg sP]at re;rw[if_neg sP];subst re;rw[show(undef:aj)=den ae gn by simp[gn,den]];exact⟨λ_ _=>trivial,ih D' hh Cc⟩
   ·rcases D.aaG hh with rfl|⟨x,hx,hxm,hX⟩
    ·cases hm
    have hxA:gF (bK l x)=ah:=by rcases xQ (bK l x)with h|h|h<;>simp_all
    have hxu:=D.ng x hxm hxA;have aiM:=DI.first (B9 D.l7).2.2 hx;cases hA:gF (bK l i)with
    |true=>
     obtain⟨Ah,d,t,z,hd,i_,hz⟩:=mK.2.2 (by rw[<-nM];exact hA);have D':=D.aiG hm hu hp (by rw[nM];exact i_) hz (by rw[nM];exact hd);rw[nM]at D';rw[if_pos (by simp[gU,Ah])];have b_:(execOp a.eval o).run C.P w=.ok (.value (.pointer (aa ⟨w.heap.size,0,ag⟩))) (w.alloc (.cells (ao [] z).toArray t)):=by
      obtain⟨v0,z1,z2⟩:=BW (P:=C.P) (w:=w) (ae:=[]) hz;have BY:v0.cells=(ao [] z).toArray:=by apply fP;simpa using z2
      unfold execOp;simp only[i_,Instr.alloc,bH,z1,cD,newVar,newRow,BY];rfl
     exact RW (by rw[i_];simp) b_ (ih D' hh Cc)
    |false=>
     have ie:i=x:=by
      rcases aiM i hm hA with h|h
      ·exact h
      ·have:=hp x (h.xj hX hA);rw[hxu]at this;cases this
     subst ie;obtain⟨xZ,r',fr',ids',b9,Z',D1⟩:=D.aaF rest hx hp;have mZ:=D1.aiE rfl hu hp;unfold looks at mZ;obtain⟨b,hg,hb⟩:=aaE D1.vc;rw[nM]at mZ hg hb;rw[Mj mZ hg];have RX:∀{x:V}{aq:List Nat}{ci:List VB}{ch2:List G}{w':an},ki C call l.toArray (v5 l r') (put fr' o.dst x) ci ch2 k->(ids'++aq).length=ci.length->St ms w0 (lits (ids'++aq) (ids'++aq) ci++ax ch2 (Z'.map (·.2)++R)) w'->
      (aq=[]\/bF ids'.length fr'=af)->(vZ q o=af->∃e,ci=b9++e)->wpAnyIn (FW rd) 0 C.P .any l.toArray Q fuel (ap.setIfInBounds i af) (a.put o.dst (den (ids'++aq) x)) w':=by
      intro x aq ci ch2 w' g1 g2 g3 g4 g5;have D2:=D1.aiL hX hp (x:=x) (aq:=aq) (by rw[nM];exact g1) g2 g3 g4 (by rw[nM];exact g5);rw[nM]at D2;obtain⟨azg,r3,fr3,D3,hh3⟩:=D2.Hw r';exact ih D3 hh3 Cc
     cases b with
     |true=>
      rw[if_pos rfl]at hb;rw[if_pos rfl];cases hqo:vZ q o with
      |true=>
       refine RA hc D1.gl D1.hl D1.S (aiK Cb hqo hb) (Hu mK.2.1 mZ) ?_;intro x aq ci ch2 w' g1 g2 g3 g4;exact RX g3.1 g1 g2 g4 (λ_=>g3.2)
      |false=>
       refine RA hc D1.gl D1.hl D1.S hb (Hu mK.2.1 mZ) ?_;intro x aq ci ch2 w' g1 g2 g3 g4;exact RX g3 g1 g2 g4 (λe=>by rw[hqo]at e;cases e)
     |false=>
      rw[if_neg sP]at hb;rw[if_neg sP];have:=RX (x:=gn) (aq:=[]) (ci:=b9) (ch2:=ch) (w':=w) hb (by simpa using D1.hl) (by simpa using D1.S) (.inl rfl) (λ_=>⟨[],sP⟩);refine⟨λ_ _=>trivial,?_⟩;simpa[gn,den]using this
def EB{i j:Nat}(m:Nat):(fY l i j)[m]?=(l[m]?).map λo=>if m=j then Mh i o else o:=by
 unfold fY;split
 ·rename_i o ho;have hj:j<l.length:=by rcases di j l.length with h|h;exact h;simp[h]at ho
  by_cases e:m=j
  ·subst e;simp[hj,ho];have:l[m]?=aa o:=ho;rw[jh hj]at this;rw[cP this]
  ·rw[KV (λh=>e h.symm)];cases l[m]?<;>simp[e]
 ·rename_i ho;by_cases e:m=j
  ·subst e;rw[ho];rfl
  ·cases l[m]?<;>simp[e]
def Ml{i j:Nat}:(fY l i j).length=l.length:=by unfold fY;split<;>simp
def aaI{i j m:Nat}(h:m≠j):bK (fY l i j) m=bK l m:=by
 unfold bK;rw[EB];cases l[m]?<;>simp[h]
def aaJ{i j m:Nat}(h:m∈rA .any (fY l i j).toArray ap):m∈rA .any l.toArray ap:=by
 obtain⟨o,ho,h2,h3⟩:=(mC _ _ _).1 h;rw[EB]at ho;obtain⟨o',lq,e⟩:=jr.1 ho;refine(mC _ _ _).2 ⟨o',lq,h2,λe' he hb=>h3 e' ?_ hb⟩;subst e;split
 ·simp[Mh,he]
 ·exact he
def EC{i j m:Nat}(hm:m≠j\/ap[i]?=aa af)(h:m∈rA .any l.toArray ap):m∈rA .any (fY l i j).toArray ap:=by
 obtain⟨o,ho,h2,h3⟩:=(mC _ _ _).1 h;refine(mC _ _ _).2 ⟨_,by rw[EB,ho];rfl,h2,λe he hb=>?_⟩;split at he
 ·rename_i e1;simp only[Mh,Array.mem_push]at he;rcases he with he|rfl
  ·exact h3 e he hb
  ·rcases hm with hm|hm
   ·exact absurd e1 hm
   ·simp[jO,hm]
 ·exact h3 e he hb
def aaK{i j:Nat}(ts:Array aj):yielded (fY l i j).toArray ts=yielded l.toArray ts:=by
 funext n;have:((fY l i j).toArray[n]?).bind (·.dst)=(l.toArray[n]?).bind (·.dst):=by
  simp only[j7,EB];cases l[n]?with
  |none=>rfl
  |some o=>simp only[pk,Option.bind_some];split<;>rfl
 unfold yielded;rw[this]
def RY{rd:Option Nat}{P:aL}{i j m:Nat}{K:Act->an->Prop}(h:wpOpIn (FW rd) 0 P (fY l i j).toArray Q m K a w):wpOpIn (FW rd) 0 P l.toArray Q m K a w:=by
 unfold wpOpIn at h⊢;simp only[j7,EB,aaK]at h⊢;cases ho:l[m]?with
 |none=>rw[ho]at h;exact h
 |some o=>
  rw[ho]at h;simp only[pk]at h⊢;by_cases e:m=j
  ·rw[if_pos e]at h;cases o;exact h
  ·rw[if_neg e]at h;exact h
def aaL{rd:Option Nat}{P:aL}{i j:Nat}:∀(fuel:Nat){ap:Array Bool}{a:Act}{w:an},ap[i]?=aa af->wpAnyIn (FW rd) 0 P .any (fY l i j).toArray Q fuel ap a w->wpAnyIn (FW rd) 0 P .any l.toArray Q fuel ap a w:=by
 intro fuel;induction fuel with
 |zero=>intro ap a w hi h;exact⟨List.eq_nil_iff_forall_not_mem.2 λm hm=>(by have:=EC (j:=j) (.inr hi) hm;rw[h.1]at this;cases this),h.2⟩
 |succ fuel ih=>
  intro ap a w hi h;refine⟨λhr=>h.1 (List.eq_nil_iff_forall_not_mem.2 λm hm=>by have:=aaJ hm;rw[hr]at this;cases this),λm hm=>?_⟩;refine wpOpIn_mono (λa w h=>ih ?_ h) (RY (h.2 m (EC (.inr hi) hm)));have hs:i<ap.size:=by rcases di i ap.size with h|h;exact h;simp[h]at hi
  rw[s9];split
  ·simp[*]
  ·exact hi
def v7{l:List aA}(h:(l.all λo=>!(gF o))=af)(m:Nat):gF (bK l m)=ah:=by
 unfold bK;split
 ·rename_i o ho;have:=ik.1 h o (rC ho);simpa using this
 ·rfl
def aiN{rd:Option Nat}{i j:Nat}{v8 v9:List Nat}(hc:Et C.P C.gl call)(Cb:Hx q call)(mW:i≠j)(aaM:v3 (fY l i j) v8=af)(aaN:Ak (fY l i j) (fY l i j).length=af)(aaO:v3 (fY l j i) v9=af)(aaP:Ak (fY l j i) (fY l j i).length=af)
 (Mm:((fY l i j).all λo=>!(gF o))=af) (RZ:((fY l j i).all λo=>!(gF o))=af)
 (hk:∀fr' m b9 ce w',(fj++m).length=b9.length->St ms w0 (lits (fj++m) (fj++m) b9++ax ce R) w'->k fr' b9 ce->Q .normal (act (fj++m) fr') w'):
 ∀(fuel:Nat){R1 s1 R2 s2:List Nat}{Cd pN:List V}{ap:Array Bool}{a:Act}{w:an},
  DI C call q (fY l i j) v8 R ms w0 k eM fj R1 (i::s1) Cd ae bl ch Z ap a w->kP (bK (fY l i j) i)=ah->DI C call q (fY l j i) v9 R ms w0 k eM fj R2 (j::s2) pN ae bl ch Z ap a w->kP (bK (fY l j i) j)=ah->
  ap.toList.count ah=fuel->wpAnyIn (FW rd) 0 C.P .any l.toArray Q fuel ap a w:=by
 intro fuel;induction fuel with
 |zero=>
  intro R1 s1 R2 s2 Cd pN ap a w D1 Ce D2 Cf Hy;exfalso;have hu:=D1.ng i sP (v7 Mm i);have:=count_set ap.toList i (by simpa using hu);omega
 |succ fuel ih=>
  intro R1 s1 R2 s2 Cd pN ap a w D1 Ce D2 Cf Hy;have W1:=GR (rd:=rd) hc Cb aaM aaN hk (fuel+1) D1 (.inr ⟨i,s1,rfl,Ce⟩) Hy;have W2:=GR (rd:=rd) hc Cb aaO aaP hk (fuel+1) D2 (.inr ⟨j,s2,rfl,Cf⟩) Hy;have hX1:lz (bK (fY l i j) i)=af:=by have:=v7 Mm i;rcases xQ (bK (fY l i j) i)with h|h|h<;>simp_all
  have hX2:lz (bK (fY l j i) j)=af:=by have:=v7 RZ j;rcases xQ (bK (fY l j i) j)with h|h|h<;>simp_all
  have hui:=D1.ng i sP (v7 Mm i);have huj:=D2.ng j sP (v7 RZ j);have Ae:∀{m:Nat},ap[m]?=aa ah->(ap.setIfInBounds m af)[m]?=aa af:=λ{m} h=>by
   have hs:m<ap.size:=by rcases di m ap.size with h'|h';exact h';simp[h']at h
   simp[hs]
  refine⟨λhr=>W1.1 (List.eq_nil_iff_forall_not_mem.2 λm hm=>by have:=aaJ hm;rw[hr]at this;cases this),λm hm=>?_⟩;by_cases e1:m=i
  ·subst e1;exact wpOpIn_mono (λa w h=>aaL fuel (Ae hui) h) (RY (W1.2 m (EC (.inl mW) hm)))
  by_cases e2:m=j
  ·subst e2;exact wpOpIn_mono (λa w h=>aaL fuel (Ae huj) h) (RY (W2.2 m (EC (.inl (λh=>mW h.symm)) hm)))
  obtain⟨o,ho,h2,_⟩:=(mC l ap m).1 hm;have tD:m<l.length:=by rcases di m l.length with h|h;exact h;simp[h]at ho
  have hu:ap[m]?=aa ah:=by
   rcases D1.bit (D1.nW m (by rw[Ml];exact tD))with hb|hb
   ·simp[jO,hb]at h2
   ·exact hb
  have aaQ:∀{l':List aA}{Ao:List Nat},v3 l' Ao=af->Ak l' l'.length=af->m∈rA .any l'.toArray ap->(∀jj,ap[jj]?=aa af->∀h,fS Ao h jj=af->ap[h]?=aa af)->ap.size=l'.length->∀h,fS Ao h m=af->ap[h]?=aa af:=by
   intro l' Ao Ca G0 uO back hls h hb;obtain⟨o',lq,_,h3⟩:=(mC l' ap m).1 uO;obtain⟨e,he,hbd,qJ⟩:=aaz Ca lq hb;have dy:=DI.RV G0 lq he hbd;have hl:ap[e.on]?=aa af:=by
    have:=h3 e he hbd;rcases mY hls dy with hb|hb
    ·exact hb
    ·simp[jO,hb]at this
   rcases qJ with rfl|qJ
   ·exact hl
   ·exact back _ hl h qJ
  have R3:=aaQ aaM aaN (EC (.inl e2) hm) D1.back D1.ls;have xV:=aaQ aaO aaP (EC (.inl e1) hm) D2.back D2.ls;have inA:∀{l':List aA}{Ao s xZ:List Nat}{x:Nat},l6 (xP q l' Ao) (xZ++(x::s))=af->lz (bK l' x)=af->gF (bK l' m)=ah->ap[x]?=aa ah->(∀h,fS Ao h m=af->ap[h]?=aa af)->m∈xZ++(x::s)->m≠x->m∈xZ:=by
   intro l' Ao s xZ x hp hx ha hux hpp Hz c_;rcases dV.1 Hz with h|h
   ·exact h
   ·exfalso;rcases cG.1 h with h|h
    ·exact c_ h
    ·have rU:=(B9 hp).2.2;simp only[l6,bJ,ik]at rU;have:=hpp x ((uQ (rU.1 m h)).xj hx ha);rw[hux]at this;cases this
  have m1:=inA D1.l7 hX1 (v7 Mm m) hui R3 (D1.nW m (by rw[Ml];exact tD)) e1;have m2:=inA D2.l7 hX2 (v7 RZ m) huj xV (D2.nW m (by rw[Ml];exact tD)) e2;obtain⟨f1,v1,b1,r1⟩:=D1.aY m m1 hu;obtain⟨f2,v2,b2,r2⟩:=D2.aY m m2 hu;have o1:bK (fY l i j) m=o:=by rw[aaI e2];exact Mi ho
  have o2:bK (fY l j i) m=o:=by rw[aaI e1];exact Mi ho
  have k1:=D1.RP m1 hu R3 r1;have k2:=D2.RP m2 hu xV r2;have ED:=D1.RS m1 hu R3 r1;have Cg:=D2.RS m2 hu xV r2;have g1:=r1.g;have g2:=r2.g;have q1:=r1.e;have q2:=r2.e;unfold looks at k1 k2;rw[o1]at k1 ED g1 q1;rw[o2]at k2 Cg g2 q2;have w1:=Mj k1 g1;have w2:=Mj k2 g2;rw[aaK]at w1 w2;obtain rfl:b1=b2:=by rw[<-w1,<-w2]
  have mK:=Al D1.pP (show(fY l i j)[m]?=aa o by rw[EB,ho];simp[e2]);have Cc:(ap.setIfInBounds m af).toList.count ah=fuel:=by
   have:=count_set ap.toList m (by simpa using hu);simp only[K5];omega
  unfold wpOpIn;rw[show l.toArray[m]?=aa o by simpa using ho];simp only;rw[w1];cases b1 with
  |true=>
   rw[if_pos rfl]at q1 q2;rw[if_pos rfl];have Ci:(execOp a.eval o).run C.P w=.ok (.value (den ae v1)) w:=by rw[Hu mK.2.1 k1,RM D1.gl D1.hl D1.S q1]
   have aaR:(execOp a.eval o).run C.P w=.ok (.value (den ae v2)) w:=by rw[Hu mK.2.1 k2,RM D2.gl D2.hl D2.S q2]
   have hv:den ae v2=den ae v1:=by rw[Ci]at aaR;simpa using aaR.symm
   rw[hv]at Cg;exact RW (aaH q1) Ci (ih ED Ce Cg Cf Cc)
  |false=>
   rw[if_neg sP]at q1 q2;rw[if_neg sP];subst q1 q2;rw[show(undef:aj)=den ae gn by simp[gn,den]];exact⟨λ_ _=>trivial,ih ED Ce Cg Cf Cc⟩
end
abbrev oO(G:Type):=dR->List V->List VB->List G->Prop
abbrev Cj(G:Type):=eZ->List V->List VB->List G->oO G->Prop
def x_(P:aL)(fr:List V)(bl:List VB):List KY->Option (List V)
 |[]=>aa []
 |.tmp t::l=>(match x_ P fr bl l with|some r=>aa (nth fr t::r)|none=>ag)
 |.cell a t::l=>(match vX P bl t (nth fr a),x_ P fr bl l with|some v,aa r=>aa (v::r)|_,_=>ag)
def HA:List V->V
 |[v]=>v
 |l=>.aD l
def Ck(P:aL)(fn:Func)(K:VK G):oO G:=λe fr bl ch=>match e with
 |.normal=>(match x_ P fr bl fn.results.toList with|some vs=>K (HA vs) bl ch|none=>False)
 |.ret=>(match x_ P fr bl fn.results.toList with|some vs=>K (HA vs) bl ch|none=>False)
 |_=>False
def pS:Nat->List V
 |0=>[]
 |n+1=>gn::pS n
def EE(C:Ctx G)(rec:Cj G):l5 G:=λf ak bl ch K=>match C.T f with
 |some c=>c ak bl ch K
 |none=>match C.P.funcs[f]?with
  |some fn=>(match fn.body with
   |some c=>rec c (ak++pS (fn.ntmps-ak.length)) bl ch (Ck C.P fn K)
   |none=>False)
  |none=>False
def aaS(C:Ctx G)(call:l5 G)(l1 l2:List aA)(v8 HB v9 HC:List Nat)(i j:Nat)(fr:List V)(bl:List VB)(ch:List G)(k:jJ G):Prop:=
 cond (Hq C l1 v8 HB i fr.length&&(Hq C l2 v9 HC j fr.length&&(!(aC i j)&&bF bl.length fr))) (ki C call l1.toArray (v5 l1 HB) fr bl ch k/\ki C call l2.toArray (v5 l2 HC) fr bl ch k) False
def aaT(C:Ctx G)(call:l5 G)(l1 l2:List aA)(v8 v9:List Nat)(i j:Nat)(fr:List V)(bl:List VB)(ch:List G)(k:jJ G):Prop:=aaS C call l1 l2 v8 (Ex l1 v8) v9 (Ex l2 v9) i j fr bl ch k
def vcS(C:Ctx G)(call:l5 G)(l:List aA)(pm ts:List Nat)(fr:List V)(bl:List VB)(ch:List G)(k:jJ G):Prop:=match B8 l ts with
 |some (i,r)=>(match B8 l r with
  |some (j,_)=>aaT C call (fY l i j) (fY l j i) (Hp (fY l i j) [] pm) (Hp (fY l j i) [] pm) i j fr bl ch k
  |none=>False)
 |none=>False
def aaU(C:Ctx G)(call:l5 G)(l:List aA)(pm ts:List Nat)(fr:List V)(bl:List VB)(ch:List G)(k:jJ G):Prop:=
 cond (Hn C C.q l pm ts fr.length&&bF bl.length fr) (ki C call l.toArray (v5 l ts) fr bl ch k) (vcS C call l pm ts fr bl ch k)
def R4(C:Ctx G)(call:l5 G)(l:List aA)(pm:List Nat)(fr:List V)(bl:List VB)(ch:List G)(k:jJ G):Prop:=aaU C call l pm (Ex l pm) fr bl ch k
def aaV(k:jJ G)(K:oO G):oO G:=λe fr bl ch=>match e with
 |.normal=>k fr bl ch
 |e=>K e fr bl ch
def HD(id:Nat)(K:oO G):oO G:=λe fr bl ch=>match e with
 |.exit j=>cond (aC j id) (K .normal fr bl ch) (K (.exit j) fr bl ch)
 |e=>K e fr bl ch
def lpB:eZ->Option eZ
 |.loop c=>aa c
 |_=>ag
def lpK(I:Lp G)(x:I.X)(K:oO G):oO G:=λe fr bl ch=>match e with
 |.normal=>I.en x fr bl ch
 |e=>K e fr bl ch
def Mn(C:Ctx G)(rec:Cj G):Cj G:=λc fr bl ch K=>match c with
 |.skip=>K .normal fr bl ch
 |.seq a b=>rec a fr bl ch (aaV (λfr bl ch=>rec b fr bl ch K) K)
 |.cond x t f=>(match x with
  |.tmp i=>(match nth fr i with
   |.bool b=>cond b (rec t (mH fr i (.bool af)) bl ch K) (rec f (mH fr i (.bool ah)) bl ch K)
   |_=>False)
  |.const (.bool b)=>cond b (rec t fr bl ch K) (rec f fr bl ch K)
  |_=>False)
 |.block id b=>(match C.lp id fr with
  |some I=>(match lpB b with
   |some c=>I.Rw fr bl ch/\∀(x:I.X)(g:Nat->aj),rec c (fill (I.fr x) g 0) (I.bl x) (I.ch x) (lpK I x (HD id K))
   |none=>rec b fr bl ch (HD id K))
  |none=>rec b fr bl ch (HD id K))
 |.loop b=>rec b fr bl ch (aaV (λfr bl ch=>rec (.loop b) fr bl ch K) K)
 |.exit id=>K (.exit id) fr bl ch
 |.ret=>K .ret fr bl ch
 |.label _=>K .normal fr bl ch
 |.region _ ops ah=>ki C (EE C rec) ops ops.toList fr bl ch λfr bl ch=>K .normal fr bl ch
 |.region _ ops af=>R4 C (EE C rec) ops.toList (Mc ops.toList []) fr bl ch λfr bl ch=>K .normal fr bl ch
 |_=>False
def uT(C:Ctx G)(n:Nat):Cj G:=Nat.rec (motive:=λ_=>Cj G) (λ_ _ _ _ _=>False) (λ_ ih=>Mn C ih) n
def bz(C:Ctx G)(n:Nat)(f:fG)(ak:List V)(bl:List VB)(ch:List G)(K:VK G):Prop:=match C.P.funcs[f]?with
 |some fn=>(match fn.body with
  |some c=>uT C n c (ak++pS (fn.ntmps-ak.length)) bl ch (Ck C.P fn K)
  |none=>False)
 |none=>False
section
variable{C:Ctx G}{call:l5 G}
def aiO{n:Nat}{ts:List Nat}(h1:ts.length=n)(h2:∀i∈ts,i<n)(h3:ts.Nodup):∀i,i<n->i∈ts:=by
 intro i hi;obtain⟨r,hr⟩:=G2 ts (bg n) h3 (λx hx=>List.mem_range.2 (h2 x hx));have dl:=hr.length_eq;simp[h1]at dl;subst dl;have hs:(bg n).Perm ts:=by simpa using hr
 exact hs.mem_iff.1 (List.mem_range.2 hi)
def DI.start{l:List aA}{pm ts:List Nat}{R:List av}{ms:List Nat}{w0 w:an}{k:jJ G}{ae:List Nat}{bl:List VB}{ch:List G}{fr:List V}
 (hg:Gl C.gl ae) (hl:ae.length=bl.length) (S:St ms w0 (lits ae ae bl++ax ch R) w) (hd:Hn C C.q l pm ts fr.length=af) (EF:bF bl.length fr=af) (h:ki C call l.toArray (v5 l ts) fr bl ch k):
 (DI C call C.q l pm R ms w0 k fr ae [] ts fr ae bl ch [] (zL l.length ah) (act ae fr) {w with drawn:=w.drawn+1}/\v3 l pm=af/\Ak l l.length=af)/\C.P.follows .mixedOrders=af:=by
 unfold Hn aax at hd;simp only[bJ]at hd;obtain⟨⟨⟨⟨⟨⟨⟨⟨⟨d1,d2⟩,d3⟩,d4⟩,d5⟩,d6⟩,d7⟩,d8⟩,d10⟩,d9⟩:=hd;have dl:=cw d4;have R5:∀i∈ts,i<l.length:=λi hi=>by have:=ik.1 d5 i hi;rwa [jQ]at this
 have wa:=RH d6;have hff:∀j,j<l.length->(zL l.length ah)[j]?=aa ah:=λj hj=>by simp[Bx];exact hj
 have hft:∀(j:Nat),(zL l.length ah)[j]?=aa af->False:=λj hj=>by
  rw[Bx]at hj;split at hj<;>simp at hj
 have S':St ms w0 (lits ae ae bl++ax ch R) {w with drawn:=w.drawn+1}:=S.quiet (Ch.refl [] w).drew;exact⟨⟨{l7:=d7,xT:=d8,nW:=λi hi=>aiO dl R5 wa i hi,nX:=R5,nd:=wa,pP:=d9,xU:=λi hi=>(by have:=ik.1 d10 i hi;simpa using this),ls:=sP,tM:=λi hi=>(nomatch hi),ng:=λi hi _=>hff i (R5 i hi),back:=λj hj=>(hft j hj).elim,vc:=h,sz:=(by simp[act,rQ]),df:=rfl,slot:=λt _ _=>RL t,old:=λi hi=>(nomatch hi),uS:=λt _=>rfl,aY:=λi hi=>(nomatch hi),tN:=λi hi hj=>(hft i hj).elim,oN:=λp hp=>(nomatch hp),Ey:=List.nodup_nil,S:=(by simpa using S'),hl:=hl,gl:=hg,B_:=(by rw[hl];exact EF),Ez:=⟨[],sP⟩},d1,d2⟩,d3⟩
def Mo{l:List aA}{pm:List Nat}{q:Nat->Bool}{i:Nat}{r:List Nat}:∀{ts:List Nat},l6 (xP q l pm) ts=af->B8 l ts=aa (i,r)->i∈ts/\lz (bK l i)=af/\∀x∈ts,lz (bK l x)=af->x=i\/xP q l pm i x=af
 |[],_,h=>by cases h
 |y::ts,hp,h=>by
  simp only[l6,bJ,ik]at hp;unfold B8 at h;cases hX:lz (bK l y)with
  |true=>
   rw[hX]at h;obtain⟨rfl,rfl⟩:y=i/\ts=r:=by simpa using h
   exact⟨sP,hX,λx hx _=>by rcases cG.1 hx with e|hx;exact .inl e;exact .inr (hp.1 x hx)⟩
  |false=>
   rw[hX]at h;obtain⟨h1,h2,h3⟩:=Mo hp.2 h;exact⟨qA _ h1,h2,λx hx uU=>by
    rcases cG.1 hx with rfl|hx
    ·rw[hX]at uU;cases uU
    ·exact h3 x hx uU⟩
def DI.head{q:Nat->Bool}{l:List aA}{pm ts cZ rest:List Nat}{R:List av}{ms:List Nat}{w0 w:an}{k:jJ G}{eM fr:List V}{fj ae:List Nat}{bl:List VB}{ch:List G}{Z:List (Nat×av)}{a:Act}{n i:Nat}{r:List Nat}
 (D:DI C call q l pm R ms w0 k eM fj cZ rest fr ae bl ch Z (zL n ah) a w) (hA:(l.all λo=>!(gF o))=af) (hh:rest=[]\/∃i s,rest=i::s/\kP (bK l i)=ah) (hp:l6 (xP q l pm) ts=af) (dX:∀x,x<l.length->x∈ts) (hX:B8 l ts=aa (i,r)) (hi:i<l.length):
 ∃s,rest=i::s/\kP (bK l i)=ah:=by
 obtain⟨_,h2,h3⟩:=Mo hp hX;have hm:i∈rest:=by
  rcases dV.1 (D.nW i hi)with h|h
  ·have:=D.tM i h (by rcases xQ (bK l i)with e|e|e<;>simp_all);rw[Bx]at this;split at this<;>simp at this
  ·exact h
 rcases hh with rfl|⟨x,s,rfl,hf⟩
 ·cases hm
 ·have hx:lz (bK l x)=af:=by have:=v7 hA x;rcases xQ (bK l x)with e|e|e<;>simp_all
  rcases cG.1 hm with rfl|hm
  ·exact⟨s,rfl,hf⟩
  ·exfalso;have xB:x<l.length:=D.nX x sP;have rU:=(B9 D.l7).2.2;simp only[l6,bJ,ik]at rU;have hb:=(uQ (rU.1 i hm)).xj hx (v7 hA i);rcases h3 x (dX x xB) hx with rfl|h
   ·have wa:=D.nd;have:=(List.nodup_append.1 wa).2.1;exact(uo.1 this).1 hm
   ·rcases(uQ h).nx with this|⟨h4,_⟩
    ·rw[hb]at this;cases this
    ·rw[v7 hA]at h4;cases h4
def Ap(rd:Option Nat)(P:aL)(c:eZ)(Q:dR->Act->an->Prop):Nat->Act->an->Prop
 |0,_,_=>False
 |n+1,a,w=>c.wpIn (FW rd) 0 P (Exit.then (Ap rd P c Q n) Q) a w
def aaW{rd:Option Nat}{P:aL}{c:eZ}{Q:dR->Act->an->Prop}{a:Act}{w:an}(n:Nat)(h:Ap rd P c Q n a w):(Code.loop c).wpIn (FW rd) 0 P Q a w:=by
 intro b k cs Cm hb hr;have key:∀n a w,Ap rd P c Q n a w->
  ∃e a' w',Q e a' w'/\ArrivesIn (Machine.fenced P (FW rd)) P (lone (b.atR a (.code c::.inLoop c::k)) cs w) b k cs e a' w':=by
  intro n;induction n with
  |zero=>intro a w h;exact h.elim
  |succ n ih=>
   intro a w h;obtain⟨e,EG,EH,hq,Aq⟩:=h b (.inLoop c::k) cs Cm hb hr;cases e with
   |normal=>
    obtain⟨aiP,aiQ,aiR,aiS,aiT⟩:=ih EG EH hq;exact⟨aiP,aiQ,aiR,aiS,.of_steps (StepsIn.trans Aq (.one (fenced_calm hb hr rfl) stepR_inLoop)) aiT⟩
   |exit id=>exact⟨_,EG,EH,hq,.pass (x:=.inLoop c) rfl (λ_ _=>.inl sP) Aq⟩
   |goto l=>exact⟨_,EG,EH,hq,.pass (x:=.inLoop c) rfl (λ_ _=>.inl sP) Aq⟩
   |ret=>exact⟨_,EG,EH,hq,.pass (x:=.inLoop c) rfl (λ_ _=>.inl sP) Aq⟩
   |panic ch=>exact⟨_,EG,EH,hq,.pass (x:=.inLoop c) rfl (λ_ _=>.inl sP) Aq⟩
   |outgrown=>exact⟨_,EG,EH,hq,.pass (x:=.inLoop c) rfl (λ_ _=>.inl sP) Aq⟩
 obtain⟨e,a',w',hq,Aq⟩:=key n a w h;exact⟨e,a',w',hq,.of_steps (.one (fenced_calm hb hr rfl) stepR_loop) Aq⟩
def aiU{rd:Option Nat}(hc:Et C.P C.gl call)(Cb:Hx C.q call){id:Nat}{ops:Array aA}{R:List av}{ms:List Nat}{w0 w:an}{Q:dR->Act->an->Prop}{k:jJ G}{ae:List Nat}{bl:List VB}{ch:List G}{fr:List V}
 (hg:Gl C.gl ae) (hl:ae.length=bl.length) (S:St ms w0 (lits ae ae bl++ax ch R) w) (h:R4 C call ops.toList (Mc ops.toList []) fr bl ch k)
 (hk:∀fr' aq b9 ce w',(ae++aq).length=b9.length->St ms w0 (lits (ae++aq) (ae++aq) b9++ax ce R) w'->k fr' b9 ce->Q .normal (act (ae++aq) fr') w'):
 (Code.region id ops af).wpIn (FW rd) 0 C.P Q (act ae fr) w:=by
 unfold R4 aaU at h;generalize xK:ops.toList=l at h;generalize Mc l []=pm at h;generalize Ex l pm=ts at h;have aiV:ops=l.toArray:=by rw[<-xK]
 subst aiV;cases hd:Hn C C.q l pm ts fr.length&&bF bl.length fr with
 |true=>
  rw[hd]at h;simp only[bJ]at hd;obtain⟨⟨D,d1,d2⟩,d3⟩:=DI.start hg hl S hd.1 hd.2 h;refine wpIn_region_any d3 ?_;obtain⟨cZ,r,fr',D',hh⟩:=D.Hw ts;exact GR hc Cb d1 d2 hk _ D' hh (by simp[Y4])
 |false=>
  rw[hd]at h;simp only[cond_false]at h;unfold vcS at h;split at h
  ·rename_i i r1 Ce;split at h
   ·rename_i j r2 Cf;unfold aaT aaS at h;generalize Hp (fY l i j) [] pm=v8 at h;generalize Hp (fY l j i) [] pm=v9 at h;generalize Ex (fY l i j) v8=HB at h;generalize Ex (fY l j i) v9=HC at h;cases hq:Hq C (fY l i j) v8 HB i fr.length&&(Hq C (fY l j i) v9 HC j fr.length&&(!(aC i j)&&bF bl.length fr))with
    |false=>rw[hq]at h;exact h.elim
    |true=>
     rw[hq]at h;simp only[bJ,pj]at hq;obtain⟨q1,q2,q3,q4⟩:=hq;have mW:i≠j:=λe=>by rw[e,uv]at q3;cases q3
     unfold Hq at q1 q2;simp only[bJ]at q1 q2;obtain⟨⟨a1,a2⟩,a3⟩:=q1;obtain⟨⟨c1,c2⟩,c3⟩:=q2;obtain⟨⟨D1,d1,d2⟩,d3⟩:=DI.start hg hl S a1 q4 h.1;obtain⟨⟨D2,e1,e2⟩,_⟩:=DI.start hg hl S c1 q4 h.2;rw[Ml]at D1 D2;split at a3
     ·rename_i x1 y1 g1;obtain rfl:=cw a3;split at c3
      ·rename_i x2 y2 g2;obtain rfl:=cw c3;obtain⟨ab1,rs1,f1,ED,h1⟩:=D1.Hw HB;obtain⟨ab2,rs2,f2,Cg,h2⟩:=D2.Hw HC;have p1:=Mo D1.l7 g1;have p2:=Mo D2.l7 g2;obtain⟨s1,rfl,hn1⟩:=ED.head a2 h1 D1.l7 (λx hx=>by simpa using D1.nW x hx) g1 (D1.nX _ (by simpa using p1.1));obtain⟨s2,rfl,hn2⟩:=Cg.head c2 h2 D2.l7 (λx hx=>by simpa using D2.nW x hx) g2 (D2.nX _ (by simpa using p2.1));refine wpIn_region_any d3 ?_;exact aiN hc Cb mW d1 d2 e1 e2 a2 c2 hk _ ED hn1 Cg hn2 (by simp[Y4])
      ·cases c3
     ·cases a3
   ·exact h.elim
  ·exact h.elim
def nZ(C:Ctx G):Prop:=∀f,C.q f=af->∃c,C.T f=aa c/\∀ak bl ch K,c ak bl ch K->c ak bl ch λv b9 ce=>K v b9 ce/\∃e,b9=bl++e
def aiW(hQ:nZ C){rec:Cj G}:Hx C.q (EE C rec):=by
 intro f hf ak bl ch K h;obtain⟨c,hc,hq⟩:=hQ f hf;unfold EE at h⊢;rw[hc]at h⊢;exact hq ak bl ch K h
def R6{ae:List Nat}(n:Nat):aJ ae (pS n)=oE n undef:=by
 induction n with
 |zero=>rfl
 |succ n ih=>simp[pS,aJ,ih,List.replicate_succ,gn,den]
def R7{ae:List Nat}(a b:List V):aJ ae (a++b)=aJ ae a++aJ ae b:=by simp[rQ]
def R9{P:aL}{ae:List Nat}{fr:List V}{bl:List VB}{R:List av}{ms:List Nat}{w0 w:an}(hl:ae.length=bl.length)(S:St ms w0 (lits ae ae bl++R) w):
 ∀(rs:List KY){vs:List V},x_ P fr bl rs=aa vs->Lj P w (aJ ae fr).toArray rs (aJ ae vs)
 |[],vs,h=>by simp only[x_,a_]at h;subst h;exact trivial
 |.tmp t::l,vs,h=>by
  simp only[x_]at h;split at h
  ·rename_i r hr;simp only[a_]at h;subst h;refine⟨?_,R9 hl S l hr⟩;simp only[vN,<-z7];rfl
  ·cases h
 |.cell a t::l,vs,h=>by
  simp only[x_]at h;split at h
  ·rename_i v r hv hr;simp only[a_]at h;subst h;refine⟨?_,R9 hl S l hr⟩;have h1:=LZ (P:=P) hl S hv;have h2:∃x,den ae (nth fr a)=.pointer (aa x):=by
    unfold vX at hv;split at hv
    ·rename_i i off hx;exact⟨⟨ae.getD i 0,off,ag⟩,by rw[hx];simp only[den]⟩
    ·cases hv
   obtain⟨x,hx⟩:=h2;rw[hx]at h1;simp only[qq,jt,bH,de,cD]at h1;simp only[vN,<-z7,hx,asAddr,bH,de,cD,h1]
  ·cases h
def aiX{ae:List Nat}(vs:List V):Lk (aJ ae vs)=den ae (HA vs):=by
 match vs with
 |[]=>rfl
 |[v]=>rfl
 |_::_::_=>simp[aJ,Lk,HA,den]
def aaX{P:aL}{fn:Func}{K:VK G}{e:dR}{fr:List V}{bl:List VB}{ch:List G}{ae:List Nat}{R:List av}{ms:List Nat}{w0 w:an}(hl:ae.length=bl.length)(S:St ms w0 (lits ae ae bl++R) w)
 (h:Ck P fn K e fr bl ch) {R':aj->an->Prop} (hk:∀x,K x bl ch->R' (den ae x) w):bodyPost P fn (λe w'=>∃v,e=.returned v/\R' v w') e (act ae fr) w:=by
 have main:(match x_ P fr bl fn.results.toList with|some vs=>K (HA vs) bl ch|none=>False)->∃v,(results fn (act ae fr).tmps).run P w=.ok v w/\R' v w:=by
  intro h;split at h
  ·rename_i vs hvs;exact⟨_,iI (fn:=fn) fn.results.toList _ _ (R9 hl S _ hvs) sP (aiX vs),hk _ h⟩
  ·exact h.elim
 unfold Ck at h;split at h
 ·obtain⟨v,h1,h2⟩:=main h;exact⟨rfl,v,h1,v,rfl,h2⟩
 ·obtain⟨v,h1,h2⟩:=main h;exact⟨rfl,v,h1,v,rfl,h2⟩
 ·exact h.elim
def Mp{ae aq:List Nat}:∀(l:List (Option V))(fr:List V)(i:Nat)(g:Nat->aj),Er ae.length l fr->(∀t,g (i+t)=den (ae++aq) (nth fr t))->aJ (ae++aq) fr=aJ ae (fill l g i)
 |[],[],_,_,_,_=>by simp[fill,aJ]
 |some v::l,u::fr,i,g,h,hg=>by
  obtain⟨rfl,hw,h⟩:=h;simp only[fill,aJ];rw[gX u hw,Mp l fr (i+1) g h (λt=>by have:=hg (t+1);simp only[lU,lV,ly]at this;rw[<-this];congr 1;omega)]
 |none::l,u::fr,i,g,h,hg=>by
  simp only[fill,aJ,den];rw[Mp l fr (i+1) g h (λt=>by have:=hg (t+1);simp only[lU,lV,ly]at this;rw[<-this];congr 1;omega)];have:=hg 0;simp only[lU,lV,ly,lM]at this;rw[this]
 |[],_::_,_,_,h,_=>h.elim
 |some _::_,[],_,_,h,_=>h.elim
 |none::_,[],_,_,h,_=>h.elim
def aiY(ae aq:List Nat)(bl j:List VB)(hl:bl.length=ae.length)(hw:bY ae.length bl=af):lits (ae++aq) (ae++aq) (bl++j)=lits ae ae bl++lits (ae++aq) aq j:=by
 rw[fw _ _ _ _ hl.symm,fy _ _ hw]
def qK{ms:List Nat}{w0 w:an}{A B R:List av}(S:St ms w0 ((A++B)++R) w):St ms w0 (A++R) w:=S.sub (Zd (List.sublist_append_left A B) R)
def R_(C:Ctx G)(n:Nat):Prop:=∀(rd:Option Nat)(c:eZ){fr:List V}{bl:List VB}{ch:List G}{K:oO G}{ae:List Nat}{R:List av}{ms:List Nat}{w0 w:an}{Q:dR->Act->an->Prop},
 Gl C.gl ae->ae.length=bl.length->St ms w0 (lits ae ae bl++ax ch R) w->uT C n c fr bl ch K->
 (∀e fr' aq b9 ce w',(ae++aq).length=b9.length->St ms w0 (lits (ae++aq) (ae++aq) b9++ax ce R) w'->K e fr' b9 ce->Q e (act (ae++aq) fr') w')->
 c.wpIn (FW rd) 0 C.P Q (act ae fr) w/\(∀b,c=.loop b->Ap rd C.P b Q n (act ae fr) w)
def aaY{n:Nat}(ih:R_ C n){f:Nat}{fn:Func}{c:eZ}(hf:C.P.funcs[f]?=aa fn)(hb:fn.body=aa c){ak:List V}{ae:List Nat}{bl:List VB}{ch:List G}{R:List av}{ms:List Nat}{w0 w:an}{K:VK G}
 (hg:Gl C.gl ae) (hl:ae.length=bl.length) (S:St ms w0 (lits ae ae bl++ax ch R) w) (h:uT C n c (ak++pS (fn.ntmps-ak.length)) bl ch (Ck C.P fn K)):
 ba C.P f (aJ ae ak).toArray w λv w'=>∃x aq b9 ce,v=den (ae++aq) x/\(ae++aq).length=b9.length/\St ms w0 (lits (ae++aq) (ae++aq) b9++ax ce R) w'/\K x b9 ce:=by
 refine calls_of_wp hf hb ?_;have e:({tmps:=(aJ ae ak).toArray++zL (fn.ntmps-(aJ ae ak).toArray.size) undef,defers:=[]}:Act)=act ae (ak++pS (fn.ntmps-ak.length)):=by
  simp only[act,R7,R6];congr 1;apply fP;simp[rQ]
 rw[e];refine wpIn_wide (n:=0)|>.1 (ih ag c hg hl S h ?_).1;intro e fr' aq b9 ce w' g1 g2 g3;refine aaX g1 g2 g3 ?_;intro x hx;exact⟨x,aq,b9,ce,rfl,g1,g2,hx⟩
def aaZ{n:Nat}(hT:∀f c,C.T f=aa c->Sound C.P C.gl f c)(ih:R_ C n):Et C.P C.gl (EE C (uT C n)):=by
 intro f hf ak ae bl ch R ms w0 w K hg hl S h;unfold EE at h;split at h
 ·rename_i c hc;exact hT f c hc ak ae bl ch R ms w0 w K hg hl S h
 ·split at h
  ·rename_i fn Hl;split at h
   ·rename_i c hc;exact aaY ih Hl hc hg hl S h
   ·exact h.elim
  ·exact h.elim
def aa0{ae:List Nat}{fr:List V}(i:Nat):(act ae fr).eval (.tmp i)=den ae (nth fr i):=by simp only[Act.eval,act,z7]
def sound(hT:∀f c,C.T f=aa c->Sound C.P C.gl f c)(hQ:nZ C):∀n,R_ C n:=by
 intro n;induction n with
 |zero=>intro rd c fr bl ch K ae R ms w0 w Q hg hl S h;exact h.elim
 |succ n ih=>
  intro rd c fr bl ch K ae R ms w0 w Q hg hl S h hk;replace h:Mn C (uT C n) c fr bl ch K:=h;generalize Sb:uT C n=rec at h;have uV:∀(c:eZ){fr:List V}{bl:List VB}{ch:List G}{K:oO G}{ae:List Nat}{R:List av}{ms:List Nat}{w0 w:an}{Q:dR->Act->an->Prop},Gl C.gl ae->ae.length=bl.length->St ms w0 (lits ae ae bl++ax ch R) w->rec c fr bl ch K->(∀e fr' aq b9 ce w',(ae++aq).length=b9.length->St ms w0 (lits (ae++aq) (ae++aq) b9++ax ce R) w'->K e fr' b9 ce->Q e (act (ae++aq) fr') w')->c.wpIn (FW rd) 0 C.P Q (act ae fr) w/\(∀b,c=.loop b->Ap rd C.P b Q n (act ae fr) w):=by rw[<-Sb];exact ih rd
  have rN:∀e,K e fr bl ch->Q e (act ae fr) w:=λe he=>by
   have:=hk e fr [] bl ch w (by simpa using hl) (by simpa using S) he;simpa using this
  have trans:∀{aq:List Nat}{e:dR}{fr':List V}{b9:List VB}{ce:List G}{w':an},(∀e pN cj ci ch2 w2,((ae++aq)++cj).length=ci.length->St ms w0 (lits ((ae++aq)++cj) ((ae++aq)++cj) ci++ax ch2 R) w2->K e pN ci ch2->Q e (act ((ae++aq)++cj) pN) w2):=by
   intro aq e fr' b9 ce w' e pN cj ci ch2 w2 g1 g2 g3;rw[bZ]at g1 g2⊢;exact hk e pN (aq++cj) ci ch2 w2 g1 g2 g3
  cases c with
  |skip=>exact⟨wpIn_skip (rN _ h),λb e=>nomatch e⟩
  |seq a b=>
   refine⟨?_,λb e=>nomatch e⟩;refine wpIn_seq ((uV a hg hl S h ?_).1);intro e fr' aq b9 ce w' g1 g2 g3;cases e with
   |normal=>exact(uV b (hg.app aq) g1 g2 g3 (trans (e:=.normal) (fr':=fr') (b9:=b9) (ce:=ce) (w':=w'))).1
   |_=>exact hk _ fr' aq b9 ce w' g1 g2 g3
  |cond x t f=>
   refine⟨?_,λb e=>nomatch e⟩;unfold Mn at h;dsimp only at h;split at h
   ·rename_i i;split at h
    ·rename_i b hb;have hs:=Ma fr i;rw[hb]at hs;have Ar:(act ae fr).eval (.tmp i)=.bool b:=by rw[aa0,hb];simp only[den]
     cases b with
     |true=>rw[hs]at h;exact wpIn_cond_true Ar (uV t hg hl S h hk).1
     |false=>rw[hs]at h;exact wpIn_cond_false Ar (uV f hg hl S h hk).1
    ·exact h.elim
   ·rename_i b;cases b with
    |true=>exact wpIn_cond_true rfl (uV t hg hl S h hk).1
    |false=>exact wpIn_cond_false rfl (uV f hg hl S h hk).1
   ·exact h.elim
  |block id b=>
   refine⟨?_,λb e=>nomatch e⟩;have fin:∀e fr' aq b9 ce w',(ae++aq).length=b9.length->St ms w0 (lits (ae++aq) (ae++aq) b9++ax ce R) w'->HD id K e fr' b9 ce->KX id Q e (act (ae++aq) fr') w':=by
    intro e fr' aq b9 ce w' g1 g2 g3;cases e with
    |exit j=>
     simp only[HD]at g3;unfold KX;by_cases hj:j=id
     ·subst hj;rw[uv]at g3;simp only[if_true];exact hk _ _ _ _ _ _ g1 g2 g3
     ·have:aC j id=ah:=by
       cases hb:aC j id with
       |true=>exact absurd (cw hb) hj
       |false=>rfl
      rw[this]at g3;simp only[if_neg hj];exact hk _ _ _ _ _ _ g1 g2 g3
    |_=>exact hk _ _ _ _ _ _ g1 g2 g3
   unfold Mn at h;dsimp only at h;split at h
   ·rename_i I hI;split at h
    ·rename_i c hc;obtain rfl:b=.loop c:=by
      unfold lpB at hc;split at hc
      ·cases hc;rfl
      ·cases hc
     obtain⟨h0,hx⟩:=h;have key:∀N(x:I.X)(g:Nat->aj) w',I.m x<N->(I.bl x).length=ae.length->St ms w0 (lits ae ae (I.bl x)++ax (I.ch x) R) w'->Ap rd C.P c (KX id Q) N (act ae (fill (I.fr x) g 0)) w':=by
      intro N;induction N with
      |zero=>intro x g w' hN;omega
      |succ N ihN=>
       intro x g w' hN tA Sx;refine(uV c hg tA.symm Sx (hx x g) ?_).1;intro e fr' aq b9 ce w2 g1 g2 g3;cases e with
       |normal=>
        obtain⟨y,hm,hf,Sc,EF,⟨j,rfl⟩,rfl⟩:=I.ok x fr' b9 ce g3;have e1:act (ae++aq) fr'=act ae (fill (I.fr y) (λt=>den (ae++aq) (nth fr' t)) 0):=by
         simp only[act];rw[Mp (I.fr y) fr' 0 (λt=>den (ae++aq) (nth fr' t)) (by rw[<-tA];exact hf) (λt=>sP)]
        show Ap rd C.P c _ N (act (ae++aq) fr') w2;rw[e1];refine ihN y _ w2 oM (Sc.trans tA) ?_;rw[tA]at EF Sc;rw[aiY ae aq (I.bl y) j Sc EF]at g2;exact qK g2
       |_=>exact fin _ fr' aq b9 ce w2 g1 g2 (by first|exact g3|(unfold lpK at g3;exact g3))
     obtain⟨x0,hf,rfl,rfl⟩:=I.ok0 fr bl ch h0;refine wpIn_block (aaW (I.m x0+1) ?_);have e1:act ae fr=act ae (fill (I.fr x0) (λt=>den ae (nth fr t)) 0):=by
      have:=Mp (ae:=ae) (aq:=[]) (I.fr x0) fr 0 (λt=>den ae (nth fr t)) (by rw[hl];exact hf) (λt=>sP);simp only[act];simp only[cy]at this;rw[this]
     rw[e1];exact key _ x0 _ w (Nat.lt_succ_self _) hl.symm S
    ·exact wpIn_block ((uV b hg hl S h fin).1)
   ·exact wpIn_block ((uV b hg hl S h fin).1)
  |loop b=>
   have key:Ap rd C.P b Q (n+1) (act ae fr) w:=by
    refine(uV b hg hl S h ?_).1;intro e fr' aq b9 ce w' g1 g2 g3;cases e with
    |normal=>exact(uV (.loop b) (hg.app aq) g1 g2 g3 (trans (e:=.normal) (fr':=fr') (b9:=b9) (ce:=ce) (w':=w'))).2 b rfl
    |_=>exact hk _ fr' aq b9 ce w' g1 g2 g3
   exact⟨aaW (n+1) key,λb' e=>by cases e;exact key⟩
  |exit id=>exact⟨wpIn_exit (rN _ h),λb e=>nomatch e⟩
  |label l=>exact⟨wpIn_label (rN _ h),λb e=>nomatch e⟩
  |ret=>exact⟨wpIn_ret (rN _ h),λb e=>nomatch e⟩
  |region id ops d=>
   refine⟨?_,λb e=>nomatch e⟩;cases d with
   |true=>exact aiU (Sb▸aaZ hT ih) (aiW hQ) hg hl S h (λfr' aq b9 ce w' g1 g2 g3=>hk _ _ _ _ _ _ g1 g2 g3)
   |false=>
    refine wpIn_region_list ?_;exact(RC (aaZ hT ih) ops.toList hg hl S (by rw[Sb];exact h) (λfr' aq b9 ce w' g1 g2 g3=>hk _ _ _ _ _ _ g1 g2 g3)).out
  |_=>exact h.elim
def eO(hT:∀f c,C.T f=aa c->Sound C.P C.gl f c)(hQ:nZ C)(n:Nat){f:Nat}{ak:List V}{ae:List Nat}{bl:List VB}{ch:List G}{R:List av}{ms:List Nat}{w0 w:an}{K:VK G}
 (hg:Gl C.gl ae) (hl:ae.length=bl.length) (S:St ms w0 (lits ae ae bl++ax ch R) w) (h:bz C n f ak bl ch K):
 ba C.P f (aJ ae ak).toArray w λv w'=>∃x aq b9 ce,v=den (ae++aq) x/\(ae++aq).length=b9.length/\St ms w0 (lits (ae++aq) (ae++aq) b9++ax ce R) w'/\K x b9 ce:=by
 unfold bz at h;split at h
 ·rename_i fn hf;split at h
  ·rename_i c hb;exact aaY (sound hT hQ n) hf hb hg hl S h
  ·exact h.elim
 ·exact h.elim
end
structure bT(G:Type) where
 f:fG
 q:Bool
 c:dm G
def qM:List (bT G)->fG->Option (dm G)
 |[],_=>ag
 |e::l,f=>bif aC e.f f then aa e.c else qM l f
def tO:List (bT G)->fG->Bool
 |[],_=>ah
 |e::l,f=>bif aC e.f f then e.q else tO l f
def bU(P:aL)(gl:Nat->Option Nat)(L:List (bT G)):Ctx G:=⟨P,qM L,gl,tO L,B6,Ep,λ_ _=>ag,xM,Af⟩
def gZ(c:dm G):Prop:=∀ak bl ch K,c ak bl ch K->c ak bl ch λv b9 ce=>K v b9 ce/\∃e,b9=bl++e
def wb(P:aL)(gl:Nat->Option Nat)(e:bT G):Prop:=Sound P gl e.f e.c/\(e.q=af->gZ e.c)
def aK(P:aL)(gl:Nat->Option Nat)(L:List (bT G)):Prop:=∀e∈L,wb P gl e
def aK.nil{P:aL}{gl:Nat->Option Nat}:aK (G:=G) P gl []:=λe h=>nomatch h
def aK.cons{P:aL}{gl:Nat->Option Nat}{e:bT G}{L:List (bT G)}(h:wb P gl e)(k:aK P gl L):aK P gl (e::L):=λx hx=>by
 rcases cG.1 hx with rfl|hx
 ·exact h
 ·exact k x hx
def aK.app{P:aL}{gl:Nat->Option Nat}{L M:List (bT G)}(h:aK P gl L)(k:aK P gl M):aK P gl (L++M):=λx hx=>by
 rcases dV.1 hx with hx|hx
 ·exact h x hx
 ·exact k x hx
def aK.T{P:aL}{gl:Nat->Option Nat}{L:List (bT G)}(h:aK P gl L):∀f c,(bU P gl L).T f=aa c->Sound (bU P gl L).P (bU P gl L).gl f c:=by
 intro f c hc;replace hc:qM L f=aa c:=hc;show Sound P gl f c;induction L with
 |nil=>cases hc
 |cons e L ih=>
  unfold qM at hc;cases hb:aC e.f f with
  |true=>
   rw[hb]at hc;obtain rfl:e.c=c:=by simpa using hc
   obtain rfl:=cw hb;exact(h e sP).1
  |false=>
   rw[hb]at hc;exact ih (λx hx=>h x (by simp[hx])) hc
def aK.Q{P:aL}{gl:Nat->Option Nat}{L:List (bT G)}(h:aK P gl L):nZ (bU P gl L):=by
 intro f hf;replace hf:tO L f=af:=hf;show∃c,qM L f=aa c/\_;induction L with
 |nil=>cases hf
 |cons e L ih=>
  unfold tO at hf;unfold qM;cases hb:aC e.f f with
  |true=>
   rw[hb]at hf;exact⟨e.c,rfl,(h e sP).2 (by simpa using hf)⟩
  |false=>
   rw[hb]at hf;exact ih (λx hx=>h x (by simp[hx])) hf
def qC(F:List V->List VB->Option (Prop×V)):dm G:=λak bl ch K=>match F ak bl with
 |some (p,v)=>p/\K v bl ch
 |none=>False
def Mq(F:List V->List VB->Option (Prop×V)):gZ (G:=G) (qC F):=by
 intro ak bl ch K h;unfold qC at h⊢;split at h
 ·exact⟨h.1,h.2,[],sP⟩
 ·exact h
def Mem(ae:List Nat)(bl:List VB)(w:an):Prop:=ae.length=bl.length/\∀(i:Nat)(b:VB),bl[i]?=aa b->w.heap[ae.getD i 0]?=aa (.cells (ao ae b.c).toArray b.ty.t b.ty.fz)
structure QF where
 f:fG
 F:List V->List VB->Option (Prop×V)
def QF.Ok(P:aL)(gl:Nat->Option Nat)(q:QF):Prop:=∀ak bl p v,q.F ak bl=aa (p,v)->p->∀ae w,Gl gl ae->Mem ae bl w->ba P q.f (aJ ae ak).toArray w λx w'=>x=den ae v/\Ch [] w w'
def Mr{P:aL}{gl:Nat->Option Nat}{q:QF}(h:q.Ok P gl):Sound P gl q.f (qC (G:=G) q.F):=by
 intro ak ae bl ch R ms w0 w K hg hl S hc;unfold qC at hc;split at hc
 ·rename_i p v hF;refine(h ak bl p v hF hc.1 ae w hg ⟨hl,λi b hb=>(gp hl S hb).2⟩).mono ?_;rintro x w' ⟨rfl,cz⟩;exact⟨v,[],bl,ch,sP,by simpa using hl,by simpa using S.quiet cz,hc.2⟩
 ·exact hc.elim
def qE(G:Type)[Bl G](q:QF):bT G:=⟨q.f,af,qC q.F⟩
def qL(G:Type)[Bl G]:List QF->List (bT G)
 |[]=>[]
 |q::l=>qE G q::qL G l
def bW(P:aL)(gl:Nat->Option Nat)(L:List QF):Prop:=∀q∈L,QF.Ok P gl q
def kG{P:aL}{gl:Nat->Option Nat}:∀{L:List QF},bW P gl L->aK (G:=G) P gl (qL G L)
 |[],_=>aK.nil
 |q::l,h=>aK.cons ⟨Mr (h q sP),λ_=>Mq q.F⟩ (kG λx hx=>h x (by simp[hx]))
def bW.nil{P:aL}{gl:Nat->Option Nat}:bW P gl []:=λe h=>nomatch h
def bW.cons{P:aL}{gl:Nat->Option Nat}{e:QF}{L:List QF}(h:e.Ok P gl)(k:bW P gl L):bW P gl (e::L):=λx hx=>by
 rcases cG.1 hx with rfl|hx
 ·exact h
 ·exact k x hx
def bW.app{P:aL}{gl:Nat->Option Nat}{L M:List QF}(h:bW P gl L)(k:bW P gl M):bW P gl (L++M):=λx hx=>by
 rcases dV.1 hx with hx|hx
 ·exact h x hx
 ·exact k x hx
instance:Bl Empty:=⟨λ_=>[]⟩
def eJ(P:aL)(L:List QF)(n:Nat)(f:fG)(ak:List V)(X:V->Prop):Prop:=bz (bU P (λ_=>ag) (qL Empty L)) n f ak [] [] λv _ _=>X v
def Gl.no{ae:List Nat}:Gl (λ_=>ag) ae:=λg i h=>nomatch h
def Cn{P:aL}{L:List QF}(hL:bW P (λ_=>ag) L)(n:Nat){f:Nat}{ak:List V}{v:V}(h:eJ P L n f ak (·=v))(ha:bF 0 ak=af)(hv:dg 0 v=af)(ae:List Nat)(w:an):
 ba P f (aJ ae ak).toArray w λx w'=>x=den ae v/\Ch [] w w':=by
 have e1:aJ ae ak=aJ [] ak:=by have:=pL (ae:=[]) (aq:=ae) ak ha;simpa using this
 have e2:∀is,den is v=den [] v:=λis=>by have:=gX (ae:=[]) (aq:=is) v hv;simpa using this
 rw[e1];refine(eO (kG hL).T (kG hL).Q n (C:=bU P (λ_=>ag) (qL Empty L)) (ae:=[]) (bl:=[]) (ch:=[]) (R:=[]) (ms:=[]) (w0:=w) (w:=w) Gl.no rfl (St.nil [] w) h).mono ?_;rintro x w' ⟨y,aq,b9,ce,rfl,h1,S,rfl⟩;exact⟨by rw[e2 ae,e2],S.ch⟩
def aN{b:Bool}{X Y:Prop}(h:b=af->X)(k:b=ah->Y):cond b X Y:=by cases b;exact k rfl;exact h rfl
end Vx
namespace Vx
structure bD where
 T:aP
 z:Nat
 os:List aj
 x:Option aF
 n:Nat
 c:Nat
 bl:List av
 h:dk z T os x n c bl
instance:Bl bD:=⟨λg=>g.bl⟩
def bD.v(g:bD):V:=.raw (.slice g.x g.n g.c)
def bD.nil(T z:Nat):bD:=⟨T,z,[],ag,0,0,[],pF z T⟩
def tP(P:aL)(T:aP):Option (Nat×Nat):=match P.info? T with
 |some i=>(match i.zero with
  |some v=>bif aC v.cells.size i.size then aa (i.size,i.bytes)else ag
  |none=>ag)
 |none=>ag
def Ms(T z:Nat)(s:V)(m:Nat)(dt:List aj)(bl:List VB)(K:VK bD):List bD->List bD->Prop
 |_,[]=>False
 |aw,g::l=>bif aC g.T T then cond (aC g.z z) ((s=g.v/\g.n+m<=1000000)/\∀(x:Option aF)(c:Nat)(bk:List av)(h:dk g.z g.T (g.os++dt) x (g.n+m) c bk),K (.raw (.slice x (g.n+m) c)) bl (aw++⟨g.T,g.z,g.os++dt,x,g.n+m,c,bk,h⟩::l)) False
  else Ms T z s m dt bl K (aw++[g]) l
def Mt(P:aL):(bA->V)->Op->List VB->List bD->VK bD->Prop:=λe op bl ch K=>match op with
 |.call c=>(match c.callee,c.args.toList,c.argTypes.toList with
  |.builtin .append,[s,xs],[t,tx]=>(match P.underlying t,P.underlying tx with
   |some (.slice T),aa (.slice _)=>(match tP P T,e xs with
    |some (z,ct),.sl i 0 m _=>(match bl[i]?with
     |some b=>cond (aC (cM b.c) (m*z)&&(bF 0 b.c&&(nU b.c&&ck ct 10000000))) (Ms T z (e s) m (ao [] b.c) bl K [] ch) False
     |none=>False)
    |_,_=>False)
   |_,_=>False)
  |_,_,_=>False)
 |_=>False
def k7{G:Type}[Bl G](R:List av):∀(a b:List G),ax (a++b) R=ax a (ax b R)
 |[],b=>rfl
 |g::a,b=>by simp only[fe,ax,k7 R a b]
def fk{G:Type}[Bl G](R:List av):∀(a:List G),ax a R=ax a []++R
 |[]=>rfl
 |g::a=>by simp only[ax,fk R a,bZ]
def aa1{T z:Nat}{s:V}{m:Nat}{dt:List aj}{bl:List VB}{K:VK bD}:∀(ch aw:List bD),Ms T z s m dt bl K aw ch->∃(l1:List bD)(g:bD)(l2:List bD),ch=l1++g::l2/\g.T=T/\g.z=z/\s=g.v/\g.n+m<=1000000/\
 ∀(x:Option aF)(c:Nat)(bk:List av)(h:dk g.z g.T (g.os++dt) x (g.n+m) c bk),K (.raw (.slice x (g.n+m) c)) bl ((aw++l1)++⟨g.T,g.z,g.os++dt,x,g.n+m,c,bk,h⟩::l2)
 |[],aw,h=>h.elim
 |g::l,aw,h=>by
  unfold Ms at h;cases hb:aC g.T T with
  |true=>
   rw[hb]at h;simp only[cond_true]at h;cases hz:aC g.z z with
   |false=>rw[hz]at h;exact h.elim
   |true=>
    rw[hz]at h;exact⟨[],g,l,rfl,cw hb,cw hz,h.1.1,h.1.2,by simpa using h.2⟩
  |false=>
   rw[hb]at h;obtain⟨l1,g',l2,rfl,h1,h2,h3,h4,h5⟩:=aa1 l _ h;refine⟨g::l1,g',l2,rfl,h1,h2,h3,h4,?_⟩;intro x c bk hh;have:=h5 x c bk hh;simpa[bZ]using this
def aa2{P:aL}{gl:Nat->Option Nat}:iF P gl (Mt P):=by
 intro e op ae bl ch R ms w0 w K ρ o hg hl S bo ho h;unfold Mt at h;split at h
 ·rename_i c;split at h
  ·rename_i s xs t tx fc cN dX;split at h
   ·rename_i T T' ht gj;split at h
    ·rename_i z ct i m cc cE fV;split at h
     ·rename_i b hb;cases hq:aC (cM b.c) (m*z)&&(bF 0 b.c&&(nU b.c&&ck ct 10000000))with
      |false=>rw[hq]at h;exact h.elim
      |true=>
       rw[hq]at h;simp only[cond_true]at h;simp only[bJ]at hq;obtain⟨q1,q2,q3,q4⟩:=hq;have q1:=cw q1;have q4:=eU q4;obtain⟨l1,g,l2,rfl,rfl,rfl,hs,hn,hK⟩:=aa1 _ _ h;have hi:(P.info? g.T).map (λi=>(i.zero.map (·.cells.size),i.size,i.bytes))=aa (aa g.z,g.z,ct):=by
        unfold tP at cE;split at cE
        ·rename_i inf uW;split at cE
         ·rename_i v hv;cases rV:aC v.cells.size inf.size with
          |false=>rw[rV]at cE;simp at cE
          |true=>
           rw[rV]at cE;simp only[cond_true,a_,bI]at cE;have:=cw rV;simp[uW,hv,this,cE.1,cE.2]
         ·cases cE
        ·cases cE
       have hd:ao ae b.c=ao [] b.c:=by have:=jI (ae:=[]) (aq:=ae) b.c q2;simpa using this
       have aV:=(gp hl S hb).2;have dl:(ao [] b.c).length=m*g.z:=by rw[<-q1];exact lW b.c
       have fh:Src P g.z tx (.slice (aa ⟨ae.getD i 0,0,ag⟩) m cc) m (ao [] b.c) w:=by
        refine qu w gj ⟨ae.getD i 0,0,ag⟩ m cc _ dl (λj u hj=>?_) (λu hu=>BV q3 u hu);rw[iY,cell_of aV,hd];simpa using hj
       have e1:lits ae ae bl++ax (l1++g::l2) R=(lits ae ae bl++ax l1 [])++(g.bl++ax l2 R):=by
        rw[k7,fk (ax (g::l2) R) l1];simp only[ax,bZ];rfl
       rw[e1]at S;have iM:(g.n+m)*ct<=140737488355328:=h_ (Nat.mul_le_mul hn q4) dC;obtain⟨v,w',b_,hc,x',c',b9,rfl,gi,n5⟩:=BN (P:=P) (ty:=o.type) g.h (λy hy=>S.at' (by simp[hy])) ct fh ht hi iM (h_ hn dC);have S2:=S.uG g.h.wr hc (λy hy=>(n5 y hy).1) (λy hy=>(n5 y hy).2) gi.pw;refine⟨_,[],bl,_,w',.inl ?_,by simpa using hl,?_,hK x' c' b9 gi⟩
       ·obtain⟨mJ,ar,iO⟩:=c;simp only at fc cN dX;have e2:ar=#[s,xs]:=by rw[<-cN]
        have e3:iO=#[t,tx]:=by rw[<-dX]
        subst fc e2 e3;have:=jU (P:=P) (ρ:=ρ) (o:=o) ho (sv:=.slice g.x g.n g.c) (xv:=.slice (aa ⟨ae.getD i 0,0,ag⟩) m cc) (by rw[bo,hs];simp only[bD.v,den]) (by rw[bo,fV];simp only[den]) b_;simpa[den]using this
       ·rw[cy];have e4:lits ae ae bl++ax (([]++l1)++⟨g.T,g.z,g.os++ao [] b.c,x',g.n+m,c',b9,gi⟩::l2) R=(lits ae ae bl++ax l1 [])++(b9++ax l2 R):=by
         rw[fu,k7,fk (ax (_::l2) R) l1];simp only[ax,bZ];rfl
        rw[e4];exact S2
     ·exact h.elim
    ·exact h.elim
   ·exact h.elim
  ·exact h.elim
 ·exact h.elim
def nh(P:aL)(gl:Nat->Option Nat)(L:List (bT bD)):Ctx bD:=⟨P,qM L,gl,tO L,Mt P,aa2,λ_ _=>ag,xM,Af⟩
def aK.TR{P:aL}{gl:Nat->Option Nat}{L:List (bT bD)}(h:aK P gl L):∀f c,(nh P gl L).T f=aa c->Sound (nh P gl L).P (nh P gl L).gl f c:=h.T
def aK.QR{P:aL}{gl:Nat->Option Nat}{L:List (bT bD)}(h:aK P gl L):nZ (nh P gl L):=h.Q
def aiZ{P:aL}{w:an}{z T n c m b:Nat}{bw tail dt:List aj}(dl:bw.length=n*z)(pG:(bw++tail).length=c*z)(kD:n<=c)(aV:w.heap[b]?=aa (.cells (bw++tail).toArray T (0,0)))
 {t tx ty:aP} {xv:aj} (bytes:Nat) (hs:Src P z tx xv m dt w) (kE:0<m) (ht:P.underlying t=aa (.slice T)) (hi:(P.info? T).map (λi=>(i.zero.map (·.cells.size),i.size,i.bytes))=aa (aa z,z,bytes))
 (hb:(n+m)*bytes<=140737488355328) (h63:n+m<=maxLen):
 (∃w',(nJ #[t,tx] ty #[.slice (aa ⟨b,0,ag⟩) n c,xv]).run P w=.ok (.slice (aa ⟨b,0,ag⟩) (n+m) c) w'/\Ch [b] w w'/\w'.heap[b]?=aa (.cells ((bw++dt)++tail.drop dt.length).toArray T (0,0))/\n+m<=c)\/
 (∃b' c' As w',(nJ #[t,tx] ty #[.slice (aa ⟨b,0,ag⟩) n c,xv]).run P w=.ok (.slice (aa ⟨b',0,ag⟩) (n+m) c') w'/\Ch [] w w'/\w.heap.size<=b'/\w'.heap[b']?=aa (.cells ((bw++dt)++As).toArray T (0,0))/\
  ((bw++dt)++As).length=c'*z/\n+m<=c'):=by
 obtain⟨i,cE,hi⟩:=jr.1 hi;simp only[bI]at hi;obtain⟨hz,dr,kC⟩:=hi;obtain⟨z0,nO,qF⟩:=jr.1 hz;have rL:=hs.newsLen;have iJ:Src P i.size tx xv m dt w:=by rw[dr];exact hs
 by_cases mE:n+m<=c
 ·left;have hbd:n*z+dt.length<=(bw++tail).length:=by
   rw[pG,rL,<-oD];exact P9 _ mE
  have fR:=run_storeCells_at (P:=P) b (n*z) T dt 0 (bw++tail).toArray w aV (by simpa using hbd) hs.one;simp only[lM]at fR;have b_:(nJ #[t,tx] ty #[.slice (aa ⟨b,0,ag⟩) n c,xv]).run P w=.ok (.slice (aa ⟨b,0,ag⟩) (n+m) c) (w.setRow b ((bw++tail).take (n*z)++dt++(bw++tail).drop (n*z+dt.length)).toArray):=by
   rcases iJ.kind with⟨e',hk⟩|hk<;>simp[nJ,dF ht,dF hk,qp,typeInfo,cE,iJ.len,mE,hs.cells,iY,dr,fR,ju]
  refine⟨_,b_,by simpa using Ch.setRow w b _,?_,mE⟩;have:=setRow_heap w b (bw++tail).toArray ((bw++tail).take (n*z)++dt++(bw++tail).drop (n*z+dt.length)).toArray T (0,0) aV;rw[this];congr 3;rw[<-dl,List.take_left,List.drop_append,List.drop_eq_nil_of_le oM];simp
 ·right;have hg:c<n+m:=oM;have hold:(Builtin.firstCells i.size n (.slice (aa ⟨b,0,ag⟩) n c)).run P w.drew=.ok bw.toArray w.drew:=by
   refine run_firstCells_some (P:=P) w.drew i.size n ⟨b,0,ag⟩ n c bw (by rw[dl,dr]) (λj v hj=>?_);rw[iY];have:w.drew.cell? ⟨b,0+j,ag⟩=w.cell? ⟨b,j,ag⟩:=sP;rw[this,cell_of aV];have mF:j<bw.length:=by
    rcases di j bw.length with h|h
    ·exact h
    ·simp[h]at hj
   simp[gB mF,hj]
  have b_:=run_append_grow_src (P:=P) w t tx ty T i z0 ht cE nO (aa ⟨b,0,ag⟩) n c bw hold xv m dt iJ hg (by simp only[maxLen]at h63;omega) (by rw[kC];exact growslice_fits hg hb);have fJ:=grownCap_ge w (n+m) c T;refine⟨w.heap.size,grownCap w (n+m) c T,(rD z0.cells (grownCap w (n+m) c T-(n+m))).toList,_,b_,?_,cW _,?_,?_,fJ⟩
  ·exact((Ch.refl [] w).drew).trans (Ch.alloc [] w.drew _) (λx hx=>.inl hx)
  ·have:=oB w.drew (.cells ((bw++dt).toArray++rD z0.cells (grownCap w (n+m) c T-(n+m))) T);refine Eq.trans this ?_;congr 2;apply fP;simp
  ·rw[fH,fH,dl,rL,w7,size_zeroCells,qF,<-oD,<-oD];congr 1;omega
variable{G:Type}[Bl G]
def Mu(P:aL):(bA->V)->Op->List VB->List G->VK G->Prop:=λe op bl ch K=>match op with
 |.call c=>(match c.callee,c.args.toList,c.argTypes.toList with
  |.builtin .append,[s,xs],[t,tx]=>(match P.underlying t,P.underlying tx with
   |some (.slice T),aa (.slice _)=>(match tP P T,e s,e xs with
    |some (z,ct),.sl j 0 n c,.sl i 0 (m+1) _=>(match bl[j]?,bl[i]?with
     |some ⟨wr,⟨Ta,(0,0)⟩,ac⟩,aa b=>(match z6 ac 0 (n*z)with
      |some C=>cond (aC Ta T&&(wr&&(aC (cM b.c) ((m+1)*z)&&(nU b.c&&(ck ct 10000000&&(ck (n+(m+1)) 1000000&&(bF bl.length C&&(bF bl.length b.c&&bY bl.length bl))))))))
       ((n<=c/\cM ac=c*z)/\(∀(c':Nat)(u:List aj),n+(m+1)<=c'->cM (C++(b.c++[.rest u]))=c'*z->K (.sl j 0 (n+(m+1)) c') (bl.set j ⟨af,T,C++(b.c++[.rest u])⟩) ch)/\
         (∀(c':Nat)(u:List aj),n+(m+1)<=c'->cM (C++(b.c++[.rest u]))=c'*z->K (.sl bl.length 0 (n+(m+1)) c') (bl++[⟨af,T,C++(b.c++[.rest u])⟩]) ch)) False
      |none=>False)
     |_,_=>False)
    |_,_,_=>False)
   |_,_=>False)
  |_,_,_=>False)
 |_=>False
def EI{P:aL}{T z ct:Nat}(cE:tP P T=aa (z,ct)):(P.info? T).map (λi=>(i.zero.map (·.cells.size),i.size,i.bytes))=aa (aa z,z,ct):=by
 unfold tP at cE;split at cE
 ·rename_i inf uW;split at cE
  ·rename_i v hv;cases rV:aC v.cells.size inf.size with
   |false=>rw[rV]at cE;simp at cE
   |true=>
    rw[rV]at cE;simp only[cond_true,a_,bI]at cE;have:=cw rV;simp[uW,hv,this,cE.1,cE.2]
  ·cases cE
 ·cases cE
def aa3{P:aL}{gl:Nat->Option Nat}:iF (G:=G) P gl (Mu P):=by
 intro e op ae bl ch R ms w0 w K ρ o hg hl S bo ho h;unfold Mu at h;split at h
 ·rename_i c;split at h
  ·rename_i s xs t tx fc cN dX;split at h
   ·rename_i T T' ht gj;split at h
    ·rename_i z ct j n cc i m oP cE gV fV;split at h
     ·rename_i wr Ta ac b ha hb;split at h
      ·rename_i C hC;cases hq:aC Ta T&&(wr&&(aC (cM b.c) ((m+1)*z)&&(nU b.c&&(ck ct 10000000&&(ck (n+(m+1)) 1000000&&(bF bl.length C&&(bF bl.length b.c&&bY bl.length bl)))))))with
       |false=>rw[hq]at h;exact h.elim
       |true=>
        rw[hq]at h;simp only[cond_true]at h;simp only[bJ]at hq;obtain⟨q1,q2,q3,q4,q5,q6,q8,q9,HE⟩:=hq;have q1:=cw q1;have q3:=cw q3;have q5:=eU q5;have q6:=eU q6;obtain⟨⟨q7,dr⟩,oI,G_⟩:=h;subst q1 q2;have aV:=(gp hl S hb).2;obtain⟨hj,Se⟩:=gp hl S ha;obtain⟨g1,g2,g3⟩:=z_ (ae:=ae) hC;rw[List.drop_zero]at g1;have yb:(ao ae b.c).length=(m+1)*z:=by rw[lW,q3]
        have fh:Src P z tx (.slice (aa ⟨ae.getD i 0,0,ag⟩) (m+1) oP) (m+1) (ao ae b.c) w:=by
         refine qu w gj ⟨ae.getD i 0,0,ag⟩ (m+1) oP _ yb (λj u hj=>?_) (λu hu=>BV q4 u hu);rw[iY,cell_of aV];simpa using hj
        have pG:(ao ae C++(ao ae ac).drop (n*z)).length=cc*z:=by
         rw[<-g1,jR,lW,dr]
        have Sf:w.heap[ae.getD j 0]?=aa (.cells (ao ae C++(ao ae ac).drop (n*z)).toArray Ta (0,0)):=by
         rw[<-g1,jR];exact Se
        have iM:(n+(m+1))*ct<=140737488355328:=h_ (Nat.mul_le_mul q6 q5) dC;have dd:∀(is:List Nat)(u:List aj),ao is (C++(b.c++[.rest u]))=(ao is C++ao is b.c)++u:=λis u=>by
         rw[kg,kg];simp[ao,cl]
        have sz:∀(is:List Nat)(u:List aj)(c':Nat),((ao is C++ao is b.c)++u).length=c'*z->cM (C++(b.c++[.rest u]))=c'*z:=λis u c' hh=>by
         rw[<-lW (ae:=is),dd,hh]
        obtain⟨mJ,ar,iO⟩:=c;simp only at fc cN dX;have e2:ar=#[s,xs]:=by rw[<-cN]
        have e3:iO=#[t,tx]:=by rw[<-dX]
        subst fc e2 e3;have run:∀{v w'},(nJ #[t,tx] o.type #[.slice (aa ⟨ae.getD j 0,0,ag⟩) n cc,.slice (aa ⟨ae.getD i 0,0,ag⟩) (m+1) oP]).run P w=.ok v w'->(execOp ρ o).run P w=.ok (.value v) w':=λb_=>
         jU (P:=P) (ρ:=ρ) (o:=o) ho (by rw[bo,gV];simp only[den]) (by rw[bo,fV];simp only[den]) b_
        rcases aiZ (P:=P) (ty:=o.type) g2 pG q7 Sf ct fh (Nat.succ_pos m) ht (EI cE) iM (h_ q6 dC)with⟨w',b_,hc,hh,mE⟩|⟨b',c',As,w',b_,hc,ai0,hh,ai1,mE⟩
        ·refine⟨_,[],_,ch,w',.inl ?_,by simpa using hl,?_,oI cc (((ao ae ac).drop (n*z)).drop (ao ae b.c).length) mE (sz ae _ _ ?_)⟩
         ·have:=run b_;simpa[den]using this
         ·simp only[cy];have fR:=S.step hj rfl hc hh;have mF:j<(lits ae ae bl).length:=by rw[Ac ae bl hl];rcases di j bl.length with h'|h';exact h';simp[h']at ha
          rw[<-Em (ae:=ae) ae bl j _ hl,<-List.set_append_left _ _ mF];simp only[aI,dd];exact fR
         ·rw[<-pG];simp only[fH,List.length_drop];have:(ao ae C).length+(ao ae b.c).length<=(ao ae C++(ao ae ac).drop (n*z)).length:=by
           rw[pG,g2,yb,<-oD];exact P9 _ mE
          simp only[fH,List.length_drop]at this;omega
        ·have HF:bF ae.length (C++(b.c++[.rest As]))=af:=by
          rw[hl];have EJ:∀(x y:List V),bF bl.length x=af->bF bl.length y=af->bF bl.length (x++y)=af:=by
           intro x y;induction x with
           |nil=>intro _ h;simpa using h
           |cons v x ih=>intro h1 h2;simp only[fe,bF,bJ]at h1⊢;exact⟨h1.1,ih h1.2 h2⟩
          exact EJ _ _ q8 (EJ _ _ q9 rfl)
         refine⟨_,[b'],_,ch,w',.inl ?_,by simp[hl],?_,G_ c' As mE (sz ae _ _ ai1)⟩
         ·have:=run b_;rw[this];simp only[den];rw[<-hl,lY]
         ·rw[fw _ _ _ _ hl,fy _ _ (by rw[hl];exact HE)];simp only[lits,aI];rw[jI _ HF,dd];have:=S.new hc ai0 hh;refine this.perm ?_;rw[bZ (lits ae ae bl)];exact(kY).symm
      ·exact h.elim
     ·exact h.elim
    ·exact h.elim
   ·exact h.elim
  ·exact h.elim
 ·exact h.elim
def tQ(P:aL)(gl:Nat->Option Nat)(L:List (bT G)):Ctx G:=⟨P,qM L,gl,tO L,Mu P,aa3,λ_ _=>ag,xM,Af⟩
def aK.TS{P:aL}{gl:Nat->Option Nat}{L:List (bT G)}(h:aK P gl L):∀f c,(tQ P gl L).T f=aa c->Sound (tQ P gl L).P (tQ P gl L).gl f c:=h.T
def aK.QS{P:aL}{gl:Nat->Option Nat}{L:List (bT G)}(h:aK P gl L):nZ (tQ P gl L):=h.Q
end Vx
namespace Vx
def yc(i:Nat):List Nat->Nat->Option Nat
 |[],_=>ag
 |j::l,k=>bif aC j i then aa k else yc i l (k+1)
def vbz:VB:=⟨ah,⟨0,(0,0)⟩,[]⟩
mutual
def Mv:V->List Nat
 |.ptr i _=>[i]
 |.sl i _ _ _=>[i]
 |.dB i _ _ _ _=>[i]
 |.pe i _ _ _ _=>[i]
 |.fn _ a b=>EK a++EK b
 |.nT _ v=>Mv v
 |.agg l=>EK l
 |.aD l=>EK l
 |_=>[]
def EK:List V->List Nat
 |[]=>[]
 |v::l=>Mv v++EK l
end
mutual
def rW(dY:List Nat):V->Option V
 |.ptr i off=>match yc i dY 0 with|some k=>aa (.ptr k off)|none=>ag
 |.sl i off n c=>match yc i dY 0 with|some k=>aa (.sl k off n c)|none=>ag
 |.dB i off n c x=>match yc i dY 0 with|some k=>aa (.dB k off n c x)|none=>ag
 |.pe i o j z q=>match yc i dY 0 with|some k=>aa (.pe k o j z q)|none=>ag
 |.fn f a b=>match wc dY a,wc dY b with|some a',aa b'=>aa (.fn f a' b')|_,_=>ag
 |.nT t v=>match rW dY v with|some v'=>aa (.nT t v')|none=>ag
 |.agg l=>match wc dY l with|some l'=>aa (.agg l')|none=>ag
 |.aD l=>match wc dY l with|some l'=>aa (.aD l')|none=>ag
 |v=>aa v
def wc(dY:List Nat):List V->Option (List V)
 |[]=>aa []
 |v::l=>match rW dY v,wc dY l with|some v',aa l'=>aa (v'::l')|_,_=>ag
end
def Mw(bl:List VB)(dY:List Nat):List Nat->Option (List VB)
 |[]=>aa []
 |i::is=>match bl[i]?with
  |some b=>(match wc dY b.c,Mw bl dY is with
   |some c,aa l=>aa (⟨b.wr,b.ty,c⟩::l)
   |_,_=>ag)
  |none=>ag
def HG(dY:List Nat):List Nat->List Nat
 |[]=>dY
 |i::l=>match yc i dY 0 with|some _=>HG dY l|none=>HG (dY++[i]) l
def Sg(bl:List VB):Nat->Nat->List Nat->List Nat
 |0,_,dY=>dY
 |n+1,k,dY=>match dY[k]?with
  |some i=>(match bl[i]?with
   |some b=>Sg bl n (k+1) (HG dY (EK b.c))
   |none=>dY)
  |none=>dY
def At:Nat->List Nat
 |0=>[]
 |n+1=>At n++[n]
def HH(n0:Nat)(v:V)(bl:List VB)(dY:List Nat):Option (V×List VB):=bif Ew dY&&HI (At n0) dY then(match rW dY v,Mw bl dY dY with|some v',aa b9=>aa (v',b9)|_,_=>ag)else ag
where HI:List Nat->List Nat->Bool
 |[],_=>af
 |i::a,j::b=>aC i j&&HI a b
 |_::_,[]=>ah
def bG{G:Type}(n0:Nat)(K:VK G):VK G:=λv bl ch=>match HH n0 v bl (Sg bl bl.length 0 (HG (At n0) (Mv v)))with
 |some (v',b9)=>K v' b9 ch
 |none=>False
def aa4{i:Nat}:∀{l:List Nat}{k m:Nat},yc i l k=aa m->k<=m/\l[m-k]?=aa i
 |[],k,m,h=>by cases h
 |j::l,k,m,h=>by
  unfold yc at h;cases hb:aC j i with
  |true=>
   rw[hb]at h;obtain rfl:k=m:=by simpa using h
   exact⟨cW _,by simp[cw hb]⟩
  |false=>
   rw[hb]at h;obtain⟨h1,h2⟩:=aa4 (l:=l) h;refine⟨oM,?_⟩;rw[show m-k=(m-(k+1))+1 by omega];simpa using h2
def Mx{ae dY:List Nat}{i k:Nat}(h:yc i dY 0=aa k):(dY.map λj=>ae.getD j 0).getD k 0=ae.getD i 0:=by
 have:=(aa4 h).2;simp only[Nat.sub_zero]at this;simp[gh,this]
mutual
theorem My{ae dY:List Nat}:∀(v:V){v':V},rW dY v=aa v'->den (dY.map λj=>ae.getD j 0) v'=den ae v
 |.ptr i off,v',h=>by
  simp only[rW]at h;split at h
  ·rename_i k hk;cases h;simp only[den,Mx hk]
  ·cases h
 |.sl i off n c,v',h=>by
  simp only[rW]at h;split at h
  ·rename_i k hk;cases h;simp only[den,Mx hk]
  ·cases h
 |.dB i off n c x,v',h=>by
  simp only[rW]at h;split at h
  ·rename_i k hk;cases h;simp only[den,Mx hk]
  ·cases h
 |.fn f a b,v',h=>by
  simp only[rW]at h;split at h
  ·rename_i a' b' ha hb;cases h;simp only[den,Mz a ha,Mz b hb]
  ·cases h
 |.nT t v,v',h=>by
  simp only[rW]at h;split at h
  ·rename_i u hu;cases h;simp only[den,My v hu]
  ·cases h
 |.agg l,v',h=>by
  simp only[rW]at h;split at h
  ·rename_i u hu;cases h;simp only[den,Sh l hu]
  ·cases h
 |.aD l,v',h=>by
  simp only[rW]at h;split at h
  ·rename_i u hu;cases h;simp only[den,Mz l hu]
  ·cases h
 |.int _ _,v',h=>by cases h;simp[den]
 |.bool _,v',h=>by cases h;simp[den]
 |.cu _ _ _,v',h=>by cases h;simp[den]
 |.arr _ _ _,v',h=>by cases h;simp[den]
 |.fi _ _ _ _,v',h=>by cases h;simp[den]
 |.rest _,v',h=>by cases h;simp[den]
 |.gm _ _ _,v',h=>by cases h;simp[den]
 |.pe i o j z q,v',h=>by
  simp only[rW]at h;split at h
  ·rename_i k hk;cases h;simp only[den,Mx hk]
  ·cases h
 |.raw _,v',h=>by cases h;simp[den]
theorem Mz{ae dY:List Nat}:∀(l:List V){l':List V},wc dY l=aa l'->aJ (dY.map λj=>ae.getD j 0) l'=aJ ae l
 |[],l',h=>by cases h;rfl
 |v::l,l',h=>by
  simp only[wc]at h;split at h
  ·rename_i v1 l1 hv hl;cases h;simp only[aJ,My v hv,Mz l hl]
  ·cases h
theorem Sh{ae dY:List Nat}:∀(l:List V){l':List V},wc dY l=aa l'->ao (dY.map λj=>ae.getD j 0) l'=ao ae l
 |[],l',h=>by cases h;rfl
 |v::l,l',h=>by
  simp only[wc]at h;split at h
  ·rename_i v1 l1 hv hl;cases h;simp only[ao,My v hv,Sh l hl];congr 1;cases v<;>simp only[rW]at hv<;>(try split at hv)<;>first|(cases hv;rfl)|(cases hv;done)
  ·cases h
end
def aa5{ae dY:List Nat}{bl:List VB}(hl:ae.length=bl.length):∀(is:List Nat){b9:List VB},Mw bl dY is=aa b9->(is.map λj=>ae.getD j 0).length=b9.length/\
 lits (dY.map λj=>ae.getD j 0) (is.map λj=>ae.getD j 0) b9=(is.map λj=>aI ae (ae.getD j 0) (bl.getD j vbz))/\∀j∈is,j<bl.length
 |[],b9,h=>by cases h;simp[lits]
 |i::is,b9,h=>by
  unfold Mw at h;split at h
  ·rename_i b hb;split at h
   ·rename_i c l hc hL;cases h;obtain⟨h1,h2,h3⟩:=aa5 hl is hL;have dy:i<bl.length:=by rcases di i bl.length with h'|h';exact h';simp[h']at hb
    refine⟨by simpa using h1,?_,?_⟩
    ·simp only[gx,lits,h2];congr 1;simp only[aI,Sh _ hc];simp[gh,hb]
    ·intro j hj;rcases cG.1 hj with rfl|hj
     ·exact dy
     ·exact h3 j hj
   ·cases h
  ·cases h
def aa6(ae:List Nat):∀(is:List Nat)(bl:List VB),is.length=bl.length->lits ae is bl=(bg bl.length).map λj=>aI ae (is.getD j 0) (bl.getD j vbz)
 |[],[],_=>rfl
 |i::is,b::bl,h=>by
  rw[jv,ta,gx,lN];simp only[lits];rw[aa6 ae is bl (by simpa using h)];rfl
def aa7:∀{a b:List Nat},HH.HI a b=af->∃c,b=a++c
 |[],b,_=>⟨b,rfl⟩
 |i::a,j::b,h=>by
  simp only[HH.HI,bJ]at h;obtain⟨c,rfl⟩:=aa7 h.2;exact⟨c,by simp[cw h.1]⟩
 |_::_,[],h=>by cases h
def aa8(ae:List Nat):∀n,n<=ae.length->(At n).map (λj=>ae.getD j 0)=ae.take n
 |0,_=>by simp[At]
 |n+1,h=>by
  simp only[At,uw,gx,List.map_nil,aa8 ae n oM];rw[List.take_add_one];congr 1;have:n<ae.length:=oM;simp[gh,jh this]
def ig{G:Type}{n0:Nat}{K:VK G}{v:V}{bl:List VB}{ch:List G}{ae:List Nat}{X:List av}{ms:List Nat}{w0 w:an}(hl:ae.length=bl.length)(hn:n0<=ae.length)(S:St ms w0 (lits ae ae bl++X) w)(h:bG n0 K v bl ch):
 ∃v' aq b9,den ae v=den (ae.take n0++aq) v'/\(ae.take n0++aq).length=b9.length/\St ms w0 (lits (ae.take n0++aq) (ae.take n0++aq) b9++X) w/\K v' b9 ch:=by
 unfold bG at h;generalize Sg bl bl.length 0 (HG (At n0) (Mv v))=dY at h;unfold HH at h;cases hq:Ew dY&&HH.HI (At n0) dY with
 |false=>rw[hq]at h;exact h.elim
 |true=>
  rw[hq]at h;simp only[cond_true]at h;simp only[bJ]at hq;have wa:=RH hq.1;obtain⟨c,hc⟩:=aa7 hq.2;split at h
  ·rename_i v' b9 hv;split at hv
   ·rename_i v1 jX vR iM;cases hv;obtain⟨h1,h2,h3⟩:=aa5 hl dY iM;have e:dY.map (λj=>ae.getD j 0)=ae.take n0++c.map λj=>ae.getD j 0:=by
     rw[hc,uw,aa8 ae n0 hn]
    refine⟨_,c.map λj=>ae.getD j 0,_,?_,?_,?_,h⟩
    ·rw[<-e];exact(My v vR).symm
    ·rw[<-e];exact h1
    ·rw[<-e,h2];obtain⟨r,hr⟩:=G2 dY (bg bl.length) wa (λx hx=>List.mem_range.2 (h3 x hx));rw[aa6 ae ae bl hl]at S;have S1:=S.perm ((hr.map _).append_right X);rw[uw]at S1;exact S1.sub (Zd (List.sublist_append_left _ _) _)
   ·cases hv
  ·exact h.elim
structure YG where
 l:Nat
 d:Nat
 a:Nat
 fn:fG
 tm:Array aj
 p:Tmp
 nV:eZ
 body:eZ
 ty:aP
 c:List V
def YG.obj(y:YG)(s:LoopState):Obj:=.loop {state:=s,pending:=ag,fn:=y.fn,tmps:=y.tm,params:=#[y.p],assign:=y.nV,body:=y.body,defers:=y.d}
def YG.B(y:YG):List av:=[⟨y.l,af,y.obj .ready⟩,⟨y.d,af,.deferred (aa [])⟩,⟨y.a,af,.cells (ao [] y.c).toArray y.ty (0,0)⟩]
class Au (G:Type) [Bl G] where
 HJ:YG->G
 aa9:List G->Option (List G×YG)
 hB:∀y,Bl.B (HJ y)=y.B
 ok:∀ch p y,aa9 ch=aa (p,y)->ch=p++[HJ y]
variable{G:Type}[Bl G][Au G]
def EL(t L:Nat)(g:Nat->aj):Nat->Nat->List V
 |0,_=>[]
 |n+1,i=>(bif aC i t then .ptr L 0 else .raw (g i))::EL t L g n (i+1)
def aa_(L:Nat)(y:YG)(K:VK G):oO G:=λe fr bl ch=>match e with
 |.normal=>(match bl[L]?with
  |some ⟨af,⟨ty,(0,0)⟩,c⟩=>cond (aC ty y.ty&&(bF 0 c&&bY L (bl.take L))) (K (.bool af) (bl.take L) (ch++[Au.HJ ⟨y.l,y.d,y.a,y.fn,y.tm,y.p,y.nV,y.body,y.ty,c⟩])) False
  |_=>False)
 |_=>False
def yAs(rec:Cj G)(body:eZ)(K:oO G):oO G:=λe fr bl ch=>match e with
 |.normal=>rec body fr bl ch K
 |_=>False
def yC(C:Ctx G)(n nt t p:Nat)(nV body:eZ):Nat->dm G:=λl ak bl ch K=>match ak,Au.aa9 ch with
 |[v],aa (aw,y)=>cond (dg bl.length v&&(bY bl.length bl&&bF 0 y.c))
  ((l=y.l/\y.p=p/\y.nV=nV/\y.body=body/\y.tm.size=nt/\y.tm.getD t undef=.pointer (aa ⟨y.a,0,ag⟩))/\
    uT C n nV (mH (EL t bl.length (λi=>y.tm.getD i undef) nt 0) p v) (bl++[⟨af,⟨y.ty,(0,0)⟩,y.c⟩]) aw (yAs (uT C n) body (aa_ bl.length y K))) False
 |_,_=>False
def aba{ae:List Nat}{t L:Nat}{g:Nat->aj}(h:g t=.pointer (aa ⟨ae.getD L 0,0,ag⟩)):∀(n i:Nat),aJ ae (EL t L g n i)=(bg n).map λj=>g (i+j)
 |0,_=>rfl
 |n+1,i=>by
  rw[ta,gx,lN];simp only[EL,aJ,aba h n (i+1)];congr 1
  ·cases hb:aC i t with
   |true=>
    obtain rfl:=cw hb;simp only[cond_true,den,lM,h]
   |false=>simp only[cond_false,den,lM]
  ·exact mB λj _=>by simp only[Function.comp_apply];congr 1;omega
def ai2{ae:List Nat}{t L:Nat}{tm:Array aj}(h:tm.getD t undef=.pointer (aa ⟨ae.getD L 0,0,ag⟩)):(aJ ae (EL t L (λi=>tm.getD i undef) tm.size 0)).toArray=tm:=by
 rw[aba h];apply Array.ext
 ·simp
 ·intro i h1 h2;simp[DS,h2]
def Ch.putObj(w:an)(l:Nat)(o:Obj):Ch [l] w (w.putObj l o):=
 ⟨rfl,rfl,rfl,sP,λk hk hm=>World.putObj_heap_other (by simpa using hm)⟩
def abb(ch:List G)(A R:List av)(x:av):(A++ax ch (x::R)).Perm (x::(A++ax ch R)):=by
 rw[fk (x::R) ch,fk R ch];refine(j8 A kY).trans ?_;exact kY
def St.putObj{ms:List Nat}{w0 w:an}{A R:List av}{ch:List G}{l:Nat}{o o':Obj}(S:St ms w0 (A++ax ch (⟨l,af,o⟩::R)) w):St ms w0 (A++ax ch (⟨l,af,o'⟩::R)) (w.putObj l o'):=by
 have S1:=S.perm (abb ch A R _);have S2:=S1.step (i:=0) (x:=⟨l,af,o⟩) rfl rfl (Ch.putObj w l o') (World.putObj_heap_same (oH (S1.at_ 0 ⟨l,af,o⟩ rfl)));exact St.perm S2 (abb ch A R _).symm
def abc(p:List G)(y:YG)(R:List av):ax (p++[Au.HJ y]) R=ax p (y.B++R):=by
 rw[k7];show ax p (Bl.B (Au.HJ y:G)++R)=_;rw[Au.hB]
def ai3{C:Ctx G}(hT:∀f c,C.T f=aa c->Sound C.P C.gl f c)(hQ:nZ C)(n nt t p:Nat)(nV body:eZ)(l:Nat):Rv C.P C.gl l (yC C n nt t p nV body l):=by
 intro ak ae bl ch R ms w0 w K hg hl S h;unfold yC at h;split at h
 ·rename_i v aw y hy;obtain rfl:=Au.ok _ _ _ hy;cases hq:dg bl.length v&&(bY bl.length bl&&bF 0 y.c)with
  |false=>rw[hq]at h;exact h.elim
  |true=>
   rw[hq]at h;obtain⟨⟨rfl,rfl,rfl,rfl,rfl,h5⟩,h⟩:=h;simp only[bJ,<-hl]at hq;obtain⟨q1,q2,q3⟩:=hq;have hyc:∀is,ao is y.c=ao [] y.c:=λis=>by have:=jI (ae:=[]) (aq:=is) y.c q3;simpa using this
   rw[abc]at S;have S1:St ms w0 (lits (ae++[y.a]) (ae++[y.a]) (bl++[⟨af,⟨y.ty,(0,0)⟩,y.c⟩])++ax aw (⟨y.l,af,y.obj .ready⟩::⟨y.d,af,.deferred (aa [])⟩::R)) w:=by
    refine S.perm ?_;rw[fw _ _ _ _ hl,fy _ _ q2];simp only[lits,aI,hyc,YG.B,fe,fu];rw[fk (_::_::_::R) aw,fk (_::_::R) aw,bZ];refine j8 _ ?_;rw[xi];refine xm ?_ kY;refine j8 _ ?_;exact((Bz _ _ _).cons _).trans (Bz _ _ _)
   have dl:(ae++[y.a]).length=(bl++[(⟨af,⟨y.ty,(0,0)⟩,y.c⟩:VB)]).length:=by simp[hl]
   have aV:w.heap[y.l]?=aa (y.obj .ready):=S1.at' (x:=⟨y.l,af,y.obj .ready⟩) (by rw[fk];simp);have HK:((#[y.p].zip (aJ ae [v]).toArray).foldl (λtmps(t,a)=>tmps.setIfInBounds t a) y.tm)=(act (ae++[y.a]) (mH (EL t bl.length (λi=>y.tm.getD i undef) y.tm.size 0) y.p v)).tmps:=by
    have e1:=ai2 (ae:=ae++[y.a]) (t:=t) (L:=bl.length) (tm:=y.tm) (by rw[h5,<-hl,lY]);simp only[act,Z7,e1,gX v q1];simp[aJ]
   refine⟨_,_,_,_,run_yield aV (by simp[aJ]),roundIn_of_wpIn trivial ?_⟩;show Code.wpIn (FW (aa y.l)) 0 C.P y.nV _ ⟨_,[]⟩ w;simp only[HK];refine(sound hT hQ n (aa y.l) y.nV (hg.app [y.a]) dl S1 h ?_).1;intro e Cd ai4 jX Si w1 g1 g2 g3;unfold yAs at g3;split at g3
   ·have uJ:w1.heap[y.l]?=aa (y.obj .ready):=g2.at' (x:=⟨y.l,af,y.obj .ready⟩) (by rw[fk];simp);refine⟨_,run_beginRound uJ rfl,?_⟩;show Code.wpIn (FW (aa y.l)) 0 C.P y.body _ _ _;have g2':=St.putObj (o':=y.obj .busy) g2;refine(sound hT hQ n (aa y.l) y.body ((hg.app [y.a]).app ai4) g1 g2' g3 ?_).1;intro e pN cj ci ch2 w2 k1 k2 k3;unfold aa_ at k3;split at k3
    ·split at k3
     ·rename_i ty c hb;cases hq:aC ty y.ty&&(bF 0 c&&bY bl.length (ci.take bl.length))with
      |false=>rw[hq]at k3;exact k3.elim
      |true=>
       rw[hq]at k3;simp only[cond_true]at k3;simp only[bJ]at hq;obtain⟨r1,r2,r3⟩:=hq;obtain rfl:=cw r1;have qN:w2.heap[y.l]?=aa (y.obj .busy):=k2.at' (x:=⟨y.l,af,y.obj .busy⟩) (by rw[fk];simp);have MA:=St.putObj (o':=y.obj .ready) k2;refine⟨_,_,run_endRound ag qN,_,rfl,.bool af,[],ci.take bl.length,_,rfl,?_,?_,k3⟩
       ·have:bl.length<ci.length:=by
         rcases di bl.length ci.length with h'|h'
         ·exact h'
         ·simp[h']at hb
        simp[hl];omega
       ·have hc:∀is,ao is c=ao [] c:=λis=>by have:=jI (ae:=[]) (aq:=is) c r2;simpa using this
        have dy:bl.length<ci.length:=by
         rcases di bl.length ci.length with h'|h'
         ·exact h'
         ·simp[h']at hb
        have m6:ci=ci.take bl.length++(⟨af,⟨y.ty,(0,0)⟩,c⟩::ci.drop (bl.length+1)):=by
         have uz:ci[bl.length]=⟨af,⟨y.ty,(0,0)⟩,c⟩:=by rw[jh dy]at hb;exact cP hb
         rw[<-uz,<-List.drop_eq_getElem_cons dy,jR]
        have cK:ae.length=(ci.take bl.length).length:=by simp[hl];omega
        rw[abc];generalize ci.take bl.length=A at m6 cK r3⊢;generalize ci.drop (bl.length+1)=J at m6;subst m6;simp only[cy];simp only[bZ,fe,fu]at MA;rw[fw ae _ _ _ cK,fy _ _ (by rw[hl];exact r3)]at MA;simp only[lits,aI,hc]at MA;have k4:=MA.sub (bs':=(lits ae ae A++[⟨y.a,af,.cells (ao [] c).toArray y.ty (0,0)⟩])++ax ch2 (⟨y.l,af,y.obj .ready⟩::⟨y.d,af,.deferred (aa [])⟩::R)) (by
         refine Zd ?_ _;refine mV ?_ _;exact xn _ (List.nil_sublist _))
        refine k4.perm ?_;rw[fk (_::_::R) ch2,fk (YG.B _++R) ch2,bZ];refine j8 _ ?_;rw[xi];refine xm kY.symm ?_;refine j8 _ ?_;exact(Bz _ _ _).trans ((Bz _ _ _).cons _)
     ·exact k3.elim
    ·exact k3.elim
   ·exact g3.elim
 ·exact h.elim
end Vx
namespace Go.Proofs.YtddcipamdggcnaaGreatDoor
section
structure dD where
 n:Nat
 f:Nat->Int
 x:Option aF
 c:Nat
 B:List av
 h:ff 5 n f x c B
def dD.v(b:dD):aj:=.slice b.x b.n b.c
def dD.nil:dD:=⟨0,λ_=>0,ag,0,[],cW _,.inl ⟨rfl,rfl,rfl,rfl⟩⟩
structure jy where
 n:Nat
 f:Nat->Int
 x:Option aF
 c:Nat
 B:List av
 h:∀w:an,(∀y∈B,w.heap[y.id]?=aa y.obj)->ei w x n c f
def jy.v(b:jy):aj:=.slice b.x b.n b.c
structure ew where
 a:Nat->Nat
 r:Nat->dD
def ew.jl(s:ew)(i:Nat):av:=⟨s.a i,af,.cells #[(s.r i).v] 133 (0,0)⟩
def ew.B(s:ew):List av:=(s.jl 0::(s.r 0).B)++((s.jl 1::(s.r 1).B)++(s.jl 2::(s.r 2).B))
def ew.set(s:ew)(i:Nat)(r:dD):ew:=⟨s.a,λj=>if j=i then r else s.r j⟩
structure jz where
 n:Nat
 f:Nat->Int
 x:Option aF
 c:Nat
 B:List av
 le:n<=1000000
 h:(n=0/\n<=c/\(x=ag->c=0)/\B=[])\/ff 5 n f x c B
def jz.v(b:jz):aj:=.slice b.x b.n b.c
def ni:List jz->List av
 |[]=>[]
 |b::l=>b.B++ni l
def lA:List dD->List av
 |[]=>[]
 |b::l=>b.B++lA l
end
end Go.Proofs.YtddcipamdggcnaaGreatDoor
namespace Vx
def ai5{P:aL}{w:an}{b:Nat}{kd:gw}{l:List (Int×aj)}{kv:Int}{vv:aj}{mt kt et:aP}(hu:P.underlying mt=aa (.map kt et))(hk:P.underlying kt=aa (.int kd))(aV:w.heap[b]?=aa (oJ kd l))(hn:l.all (λx=>x.1!=kv)=af):
 (ahe mt (.map (aa b)) (.int kd kv) vv).run P w=.ok () {w with heap:=w.heap.setIfInBounds b (oJ kd (l++[(kv,vv)]))}:=by
 have qN:w.heap[b]?=aa (.map ((l.zipIdx.map λx=>(⟨.int kd x.1.1,x.1.2,x.2⟩:xd)).toArray) l.length):=aV;have hf:Qa (.int kd) (.int kd kv) ((l.zipIdx.map λx=>(⟨.int kd x.1.1,x.1.2,x.2⟩:xd)).toArray).toList 0=aa ag:=ZX kd kv _ 0 (ahO hn);have hc:(Instr.checkKey ah 10000 kt (.int kd kv)).run P w=.ok () w:=MapKept.run_checkKey (k:=.int kd kv) hk (by simp[MapKept.IsKey]) ah 9999;have ai6:(ahe mt (.map (aa b)) (.int kd kv) vv).run P w=.ok () {w with heap:=w.heap.setIfInBounds b (Obj.map (((l.zipIdx.map λx=>(⟨.int kd x.1.1,x.1.2,x.2⟩:xd)).toArray).push ⟨.int kd kv,vv,l.length⟩) (l.length+1))}:=by
  generalize ((l.zipIdx.map λx=>(⟨.int kd x.1.1,x.1.2,x.2⟩:xd)).toArray)=es at*;simp[ahe,dF hu,MapKept.run_getObj_map qN,hc,MapKept.run_findKey hk hf,MapKept.run_setObj_map _ qN,ju]
 rw[ai6,ahN]
def ai7{P:aL}{w:an}{b:Nat}{kd:gw}{l:List (Int×aj)}{kv:Int}{v:aj}{mt kt et:aP}(hu:P.underlying mt=aa (.map kt et))(hk:P.underlying kt=aa (.int kd))(aV:w.heap[b]?=aa (oJ kd l))
 (hn:∃j,Qa (.int kd) (.int kd kv) ((l.zipIdx.map λx=>(⟨.int kd x.1.1,x.1.2,x.2⟩:xd)).toArray).toList 0=aa (aa (j,v))):(Instr.lookup mt (.map (aa b)) (.int kd kv) af).run P w=.ok (.tuple #[v,.bool af]) w:=by
 obtain⟨j,hf⟩:=hn;have qN:w.heap[b]?=aa (.map ((l.zipIdx.map λx=>(⟨.int kd x.1.1,x.1.2,x.2⟩:xd)).toArray) l.length):=aV;have hc:∀e,(Instr.checkKey e 10000 kt (.int kd kv)).run P w=.ok () w:=λe=>MapKept.run_checkKey (k:=.int kd kv) hk (by simp[MapKept.IsKey]) e 9999;simp[Instr.lookup,dF hu,MapKept.run_getObj_map qN,hc,MapKept.run_findKey hk hf,ju]
structure Av where
 id:Nat
 tb:List (Int×aj)
instance:Bl Av:=⟨λg=>[⟨g.id,af,oJ .i64 g.tb⟩]⟩
def Sj(P:aL):(bA->V)->Op->List VB->List Av->VK Av->Prop:=λe op bl ch K=>match op with
 |.makeMap t ag=>(match ch with
  |[]=>∀id,K (.raw (.map (aa id))) bl [⟨id,[]⟩]
  |_=>False)
 |.insert mt m k x=>(match ch,e m,e k with
  |[g],.raw mv,.int .i64 kv=>(match P.underlying mt with
   |some (.map kt _)=>(match P.underlying kt with
    |some (.int .i64)=>cond (g.tb.all (λx=>x.1!=kv)&&dg 0 (e x)) (mv=.map (aa g.id)/\K gn bl [⟨g.id,g.tb++[(kv,den [] (e x))]⟩]) False
    |_=>False)
   |_=>False)
  |_,_,_=>False)
 |_=>False
def ai8{P:aL}{gl:Nat->Option Nat}:iF P gl (Sj P):=by
 intro e op ae bl ch R ms w0 w K ρ o hg hl S bo ho h;unfold Sj at h;split at h
 ·rename_i t;split at h
  ·refine⟨_,[],bl,_,w.alloc (.map #[] 0),.inl ?_,by simpa using hl,?_,h w.heap.size⟩
   ·unfold execOp;simp[ho,run_makeMap,ju,den]
   ·have:=S.new (Ch.alloc [] w (.map #[] 0)) (cW _) (oB w _);rw[cy];refine this.perm ?_;exact kY.symm
  ·exact h.elim
 ·rename_i mt m k x;split at h
  ·rename_i g mv kv hm hk;split at h
   ·rename_i kt et hu;split at h
    ·rename_i Sk;cases hq:g.tb.all (λx=>x.1!=kv)&&dg 0 (e x)with
     |false=>rw[hq]at h;exact h.elim
     |true=>
      rw[hq]at h;simp only[cond_true]at h;simp only[bJ]at hq;obtain⟨rfl,hK⟩:=h;have e0:lits ae ae bl++ax [g] R=lits ae ae bl++(⟨g.id,af,oJ .i64 g.tb⟩::R):=rfl;rw[e0]at S;have aV:=S.at' (x:=⟨g.id,af,oJ .i64 g.tb⟩) sP;have hx:den ae (e x)=den [] (e x):=by have:=gX (ae:=[]) (aq:=ae) (e x) hq.2;simpa using this
      have b_:=ai5 (P:=P) (vv:=den ae (e x)) hu Sk aV hq.1;refine⟨gn,[],bl,_,{w with heap:=w.heap.setIfInBounds g.id (oJ .i64 (g.tb++[(kv,den ae (e x))]))},.inr ⟨?_,rfl⟩,by simpa using hl,?_,hK⟩
      ·unfold execOp;simp only[ho,bo,hm,hk,den]at b_⊢;simp only[bH,b_,cD];rfl
      ·rw[cy,<-hx];have hi:(lits ae ae bl++(⟨g.id,af,oJ .i64 g.tb⟩::R))[(lits ae ae bl).length]?=aa ⟨g.id,af,oJ .i64 g.tb⟩:=sP;have:=S.step hi rfl (Ch.ahM w g.id (oJ .i64 (g.tb++[(kv,den ae (e x))]))) (MapKept.heap_set aV).1;rw[List.set_append_right _ _ (cW _),Nat.sub_self]at this;exact this
    ·exact h.elim
   ·exact h.elim
  ·exact h.elim
 ·exact h.elim
def Sl(P:aL)(gl:Nat->Option Nat)(L:List (bT Av)):Ctx Av:=⟨P,qM L,gl,tO L,Sj P,ai8,λ_ _=>ag,xM,Af⟩
def gM{G:Type}[Bl G](P:aL)(gl:Nat->Option Nat)(L:List (bT G))(h:(bA->V)->Op->List VB->List G->VK G->Prop)(hok:iF P gl h):Ctx G:=⟨P,qM L,gl,tO L,h,hok,λ_ _=>ag,xM,Af⟩
def Sound.gl{G:Type}[Bl G]{P:aL}{gl HL:Nat->Option Nat}{f:Nat}{c:dm G}(h:Sound P gl f c)(hg:∀ae,Gl HL ae->Gl gl ae):Sound P HL f c:=
 λak ae bl ch R ms w0 w K h1 h2 S hc=>h ak ae bl ch R ms w0 w K (hg ae h1) h2 S hc
inductive Sm(G:Type) where
 |g (x:G)
 |m (x:Av)
instance{G:Type} [Bl G]:Bl (Sm G):=⟨λx=>match x with|.g x=>Bl.B x|.m x=>Bl.B x⟩
def gs{G:Type}:List G->List (Sm G)
 |[]=>[]
 |x::l=>.g x::gs l
def abd{G:Type}[Bl G](R:List av):∀(l:List G)(r:List (Sm G)),ax (gs l++r) R=ax l (ax r R)
 |[],r=>rfl
 |x::l,r=>by
  simp only[gs,fe,ax,abd R l r];rfl
def HM{G:Type}(c:dm G):dm (Sm G):=λak bl ch K=>match ch with
 |.g x::rest=>c ak bl [x] λv b9 ce=>K v b9 (gs ce++rest)
 |_=>False
def ai9{G:Type}[Bl G]{P:aL}{gl:Nat->Option Nat}{f:Nat}{c:dm G}(h:Sound P gl f c):Sound P gl f (HM c):=by
 intro ak ae bl ch R ms w0 w K hg hl S hc;unfold HM at hc;split at hc
 ·rename_i x rest;have e:ax (.g x::rest:List (Sm G)) R=ax [x] (ax rest R):=rfl;rw[e]at S;refine(h ak ae bl [x] (ax rest R) ms w0 w _ hg hl S hc).mono ?_;rintro v w' ⟨y,aq,b9,ce,rfl,h1,S1,hK⟩;exact⟨y,aq,b9,_,rfl,h1,by rw[abd];exact S1,hK⟩
 ·exact hc.elim
def ai_{G:Type}{c:dm G}(h:gZ c):gZ (HM c):=by
 intro ak bl ch K hc;unfold HM at hc⊢;split at hc
 ·exact h _ _ _ _ hc
 ·exact hc.elim
def Sn{G:Type}:List (bT G)->List (bT (Sm G))
 |[]=>[]
 |e::l=>⟨e.f,e.q,HM e.c⟩::Sn l
def abe{G:Type}[Bl G]{P:aL}{gl HL:Nat->Option Nat}(hg:∀ae,Gl HL ae->Gl gl ae):∀{L:List (bT G)},aK P gl L->aK P HL (Sn L)
 |[],_=>aK.nil
 |e::l,h=>aK.cons ⟨ai9 ((h e sP).1.gl hg),λhq=>ai_ ((h e sP).2 hq)⟩ (abe hg λx hx=>h x (by simp[hx]))
variable{G:Type}[Bl G]
def So(P:aL):(bA->V)->Op->List VB->List G->VK G->Prop:=λe op bl ch K=>match op with
 |.call c=>(match c.callee,c.args.toList,c.argTypes.toList with
  |.builtin .append,[s,xs],[t,tx]=>(match P.underlying t,P.underlying tx with
   |some (.slice T),aa (.slice _)=>(match tP P T,e s,e xs with
    |some (z,ct),.raw (.slice ag 0 0),.sl i 0 (m+1) _=>(match bl[i]?with
     |some b=>cond (aC (cM b.c) ((m+1)*z)&&(nU b.c&&(ck ct 10000000&&(ck (m+1) 1000000&&(bF bl.length b.c&&bY bl.length bl)))))
      (∀(c':Nat)(u:List aj),m+1<=c'->cM (b.c++[.rest u])=c'*z->K (.sl bl.length 0 (m+1) c') (bl++[⟨af,T,b.c++[.rest u]⟩]) ch) False
     |none=>False)
    |_,_,_=>False)
   |_,_=>False)
  |_,_,_=>False)
 |_=>False
def aja{P:aL}{gl:Nat->Option Nat}:iF (G:=G) P gl (So P):=by
 intro e op ae bl ch R ms w0 w K ρ o hg hl S bo ho h;unfold So at h;split at h
 ·rename_i c;split at h
  ·rename_i s xs t tx fc cN dX;split at h
   ·rename_i T T' ht gj;split at h
    ·rename_i z ct i m oP cE gV fV;split at h
     ·rename_i b hb;cases hq:aC (cM b.c) ((m+1)*z)&&(nU b.c&&(ck ct 10000000&&(ck (m+1) 1000000&&(bF bl.length b.c&&bY bl.length bl))))with
      |false=>rw[hq]at h;exact h.elim
      |true=>
       rw[hq]at h;simp only[cond_true]at h;simp only[bJ]at hq;obtain⟨q3,q4,q5,q6,q9,HE⟩:=hq;have q3:=cw q3;have q5:=eU q5;have q6:=eU q6;have aV:=(gp hl S hb).2;have yb:(ao ae b.c).length=(m+1)*z:=by rw[lW,q3]
       have fh:Src P z tx (.slice (aa ⟨ae.getD i 0,0,ag⟩) (m+1) oP) (m+1) (ao ae b.c) w:=by
        refine qu w gj ⟨ae.getD i 0,0,ag⟩ (m+1) oP _ yb (λj u hj=>?_) (λu hu=>BV q4 u hu);rw[iY,cell_of aV];simpa using hj
       have iM:(0+(m+1))*ct<=140737488355328:=h_ (Nat.mul_le_mul (by omega:0+(m+1)<=1000000) q5) dC;obtain⟨mJ,ar,iO⟩:=c;simp only at fc cN dX;have e2:ar=#[s,xs]:=by rw[<-cN]
       have e3:iO=#[t,tx]:=by rw[<-dX]
       subst fc e2 e3;obtain⟨v,w',b_,hc,x',c',b9,rfl,⟨r1,r2,r3⟩,n5⟩:=BN (P:=P) (ty:=o.type) (pF z T) sP ct fh ht (EI cE) iM (h_ (by omega:0+(m+1)<=1000000) dC);rcases r3 with⟨_,h0,_⟩|⟨b',tail,rfl,rfl,dl⟩
       ·omega
       ·obtain⟨hh,hid⟩:=n5 _ (jS.2 rfl);have fJ:w.heap.size<=b':=by
         rcases hid with⟨u,hu,_⟩|h
         ·cases hu
         ·exact h
        simp only[fu,d_]at hh dl r2 b_;have dd:∀(is:List Nat)(u:List aj),ao is (b.c++[.rest u])=ao is b.c++u:=λis u=>by
         rw[kg];simp[ao,cl]
        have HF:bF ae.length (b.c++[.rest tail])=af:=by
         rw[hl];have EJ:∀(x y:List V),bF bl.length x=af->bF bl.length y=af->bF bl.length (x++y)=af:=by
          intro x y;induction x with
          |nil=>intro _ h;simpa using h
          |cons v x ih=>intro h1 h2;simp only[fe,bF,bJ]at h1⊢;exact⟨h1.1,ih h1.2 h2⟩
         exact EJ _ _ q9 rfl
        refine⟨_,[b'],_,ch,w',.inl ?_,by simp[hl],?_,h c' tail r2 ?_⟩
        ·have:=jU (P:=P) (ρ:=ρ) (o:=o) ho (sv:=.slice ag 0 0) (xv:=.slice (aa ⟨ae.getD i 0,0,ag⟩) (m+1) oP) (by rw[bo,gV];simp only[den]) (by rw[bo,fV];simp only[den]) b_;rw[this];simp only[den];rw[<-hl,lY]
        ·rw[fw _ _ _ _ hl,fy _ _ (by rw[hl];exact HE)];simp only[lits,aI];rw[jI _ HF,dd];have:=S.new hc fJ hh;refine this.perm ?_;rw[bZ (lits ae ae bl)];exact(kY).symm
        ·rw[<-lW (ae:=ae),dd,dl]
     ·exact h.elim
    ·exact h.elim
   ·exact h.elim
  ·exact h.elim
 ·exact h.elim
def Co{P:aL}{gl:Nat->Option Nat}{a b:(bA->V)->Op->List VB->List G->VK G->Prop}(t:(bA->V)->Op->Bool)(ha:iF P gl a)(hb:iF P gl b):iF P gl (λe op bl ch K=>cond (t e op) (a e op bl ch K) (b e op bl ch K)):=by
 intro e op ae bl ch R ms w0 w K ρ o hg hl S bo ho h;cases ht:t e op with
 |true=>simp only[ht]at h;exact ha e op ae bl ch R ms w0 w K ρ o hg hl S bo ho h
 |false=>simp only[ht]at h;exact hb e op ae bl ch R ms w0 w K ρ o hg hl S bo ho h
def abf(e:bA->V)(op:Op):Bool:=match op with
 |.call c=>(match c.args.toList with
  |s::_=>(match e s with|.sl _ _ _ _=>af|_=>ah)
  |_=>ah)
 |_=>ah
def Cp(P:aL):(bA->V)->Op->List VB->List G->VK G->Prop:=λe op bl ch K=>cond (abf e op) (Mu P e op bl ch K) (So P e op bl ch K)
def EM{P:aL}{gl:Nat->Option Nat}:iF (G:=G) P gl (Cp P):=Co abf aa3 aja
end Vx
namespace Vx
open Go Sx
section
variable{ae:List Nat}{P:aL}{w:an}
def MB{n:Nat}(h:n<=1000000):i64.wrap (n:Int)=n:=by simp[vH,td,te];omega
def run_mk{t el:aP}{n z:Nat}{zc:List V}{inf:TypeInfo}{k1 k2:gw}(hu:P.underlying t=aa (.slice el))(hi:P.info? el=aa inf)(hz:eI P el=aa (z+1))(h0:lX P el=aa zc)(hl:cM zc=z+1)(h1:1<=n)(hn:n<=1000000)(hb:inf.bytes<=100):
 (La t (.int k1 (n:Int)) (.int k2 (n:Int))).run P w=.ok (.slice (aa ⟨w.heap.size,0,ag⟩) n n) (w.alloc (.cells (ao ae (mI zc n)).toArray el)):=by
 obtain⟨v0,z1,z2⟩:=BW (P:=P) (w:=w) (ae:=ae) h0;have hv:v0.cells.size=z+1:=by rw[<-w7,z2,lW,hl]
 have Hh:(Array.range (n*(z+1))).map (λi=>v0.cells[i%v0.cells.size]!)=(ao ae (mI zc n)).toArray:=by
  apply fP;rw[Rr v0.cells z hv,z2,aak]
 have hm:inf.bytes*n<=100000000:=h_ (Nat.mul_le_mul hb hn) dC;have e1:(decide ((n:Int)<0)||decide ((inf.bytes:Int)*(n:Int)>2^48))=ah:=by
  have:(inf.bytes:Int)*(n:Int)<=100000000:=by
   have q:=Int.ofNat_le.2 hm;rw[Int.natCast_mul]at q;exact q
  rw[decide_eq_false oM,decide_eq_false oM];rfl
 have e2:¬(n*inf.bytes>roomBytes):=by
  have:n*inf.bytes<=100000000:=by rw[Nat.mul_comm];exact hm
  show¬(n*inf.bytes>_);unfold roomBytes;omega
 have e3:¬n*(z+1)=0:=by
  intro h;rcases Nat.mul_eq_zero.1 h with h|h<;>omega
 simp only[La,bH,dF hu,cD,asInt,asIntOf,de,He hi,MB hn,e1,Bool.false_or,askRoom,if_neg e2,tf,gy hz,if_neg e3,z1];simp only[show decide ((n:Int)<0)=ah by simp,show decide ((n:Int)>(n:Int))=ah by simp,Bool.or_self,Bool.false_eq_true,if_false,bH,de,cD,gy hz,if_neg e3,z1];rw[Hh];rfl
end
variable{G:Type}[Bl G]
def gG(P:aL):(bA->V)->Op->List VB->List G->VK G->Prop:=λe op bl ch K=>match op with
 |.makeSlice t l c=>(match P.underlying t,e l,e c with
  |some (.slice el),.int _ (.ofNat n),.int _ (.ofNat m)=>(match P.info? el,eI P el,lX P el with
   |some inf,aa (z+1),aa zc=>cond (aC n m&&(aC (cM zc) (z+1)&&(ck 1 n&&(ck n 1000000&&(ck inf.bytes 100&&(bY bl.length bl&&bF bl.length (mI zc n))))))) (K (.sl bl.length 0 n n) (bl++[⟨af,el,mI zc n⟩]) ch) False
   |_,_,_=>False)
  |_,_,_=>False)
 |_=>False
def ajb{P:aL}{gl:Nat->Option Nat}:iF (G:=G) P gl (gG P):=by
 intro e op ae bl ch R ms w0 w K ρ o hg hl S bo ho h;unfold gG at h;split at h
 ·rename_i t l c;split at h
  ·rename_i el k1 n k2 m hu oQ HN;split at h
   ·rename_i inf z zc hi hz h0;cases hq:aC n m&&(aC (cM zc) (z+1)&&(ck 1 n&&(ck n 1000000&&(ck inf.bytes 100&&(bY bl.length bl&&bF bl.length (mI zc n))))))with
    |false=>rw[hq]at h;exact h.elim
    |true=>
     rw[hq]at h;simp only[bJ]at hq;obtain⟨q1,q2,q3,q4,q5,q6,q7⟩:=hq;obtain rfl:=cw q1;have b_:=run_mk (ae:=ae) (w:=w) (k1:=k1) (k2:=k2) hu hi hz h0 (cw q2) (eU q3) (eU q4) (eU q5);obtain⟨g1,g2⟩:=grow hl S ⟨af,el,mI zc n⟩ rfl rfl (by rw[hl];exact q6) (by rw[hl];exact q7);refine⟨_,[w.heap.size],_,ch,_,.inl ?_,g2,g1,h⟩;unfold execOp;rw[ho];simp only[bo,oQ,HN,den];have e1:dS n=(n:Int):=rfl;rw[e1,bH,b_,cD,de,<-hl,lY]
   ·exact h.elim
  ·exact h.elim
 ·exact h.elim
def abg(e:bA->V)(op:Op):Bool:=match op with
 |.makeSlice _ _ _=>af
 |_=>ah
def EN(P:aL):(bA->V)->Op->List VB->List G->VK G->Prop:=λe op bl ch K=>cond (abg e op) (gG P e op bl ch K) (Cp P e op bl ch K)
def HO{P:aL}{gl:Nat->Option Nat}:iF (G:=G) P gl (EN P):=Co abg ajb EM
end Vx
namespace Vx
def ajc{P:aL}{w:an}{z T m:Nat}{x:Option aF}{dt:List aj}{t tx ty:aP}{xv:aj}(bytes:Nat)(hs:Src P z tx xv m dt w)(kE:0<m)(ht:P.underlying t=aa (.slice T))
 (hi:(P.info? T).map (λi=>(i.zero.map (·.cells.size),i.size,i.bytes))=aa (aa z,z,bytes)) (hb:m*bytes<=140737488355328) (h63:m<=maxLen):
 ∃b' c' As w',(nJ #[t,tx] ty #[.slice x 0 0,xv]).run P w=.ok (.slice (aa ⟨b',0,ag⟩) m c') w'/\Ch [] w w'/\w.heap.size<=b'/\w'.heap[b']?=aa (.cells (dt++As).toArray T (0,0))/\(dt++As).length=c'*z/\m<=c':=by
 obtain⟨i,cE,hi⟩:=jr.1 hi;simp only[bI]at hi;obtain⟨hz,dr,kC⟩:=hi;obtain⟨z0,nO,qF⟩:=jr.1 hz;have rL:=hs.newsLen;have iJ:Src P i.size tx xv m dt w:=by rw[dr];exact hs
 have hold:(Builtin.firstCells i.size 0 (.slice x 0 0)).run P w.drew=.ok ([]:List aj).toArray w.drew:=by
  cases x with
  |none=>exact run_firstCells_none (P:=P) w.drew i.size 0 0 0
  |some a=>exact run_firstCells_some (P:=P) w.drew i.size 0 a 0 0 [] sP (λj v hj=>by simp at hj)
 have b_:=run_append_grow_src (P:=P) w t tx ty T i z0 ht cE nO x 0 0 [] hold xv m dt iJ oM (by simp only[maxLen]at h63;omega) (by rw[kC];exact growslice_fits oM (by rw[d_];exact hb));simp only[d_]at b_;have fJ:=grownCap_ge w m 0 T;refine⟨w.heap.size,grownCap w m 0 T,(rD z0.cells (grownCap w m 0 T-m)).toList,_,b_,?_,cW _,?_,?_,fJ⟩
 ·exact((Ch.refl [] w).drew).trans (Ch.alloc [] w.drew _) (λx hx=>.inl hx)
 ·have:=oB w.drew (.cells ((([]:List aj)++dt).toArray++rD z0.cells (grownCap w m 0 T-m)) T);refine Eq.trans this ?_;congr 2;apply fP;simp
 ·rw[fH,rL,w7,size_zeroCells,qF,<-oD];congr 1;omega
variable{G:Type}[Bl G]
def Sr(P:aL):(bA->V)->Op->List VB->List G->VK G->Prop:=λe op bl ch K=>match op with
 |.call c=>(match c.callee,c.args.toList,c.argTypes.toList with
  |.builtin .append,[s,xs],[t,tx]=>(match P.underlying t,P.underlying tx with
   |some (.slice T),aa (.slice _)=>(match tP P T,e s,e xs with
    |some (z,ct),.sl _ _ 0 0,.sl i 0 (m+1) _=>(match bl[i]?with
     |some b=>(match z6 b.c 0 ((m+1)*z)with
      |some C=>cond (nU C&&(ck ct 10000000&&(ck (m+1) 1000000&&(bF bl.length C&&bY bl.length bl))))
       (∀(c':Nat)(u:List aj),m+1<=c'->cM (C++[.rest u])=c'*z->K (.sl bl.length 0 (m+1) c') (bl++[⟨af,T,C++[.rest u]⟩]) ch) False
      |none=>False)
     |none=>False)
    |_,_,_=>False)
   |_,_=>False)
  |_,_,_=>False)
 |_=>False
def ajd{P:aL}{gl:Nat->Option Nat}:iF (G:=G) P gl (Sr P):=by
 intro e op ae bl ch R ms w0 w K ρ o hg hl S bo ho h;unfold Sr at h;split at h
 ·rename_i c;split at h
  ·rename_i s xs t tx fc cN dX;split at h
   ·rename_i T T' ht gj;split at h
    ·rename_i z ct j0 o0 i m oP cE gV fV;split at h
     ·rename_i b hb;split at h
      ·rename_i C hC;cases hq:nU C&&(ck ct 10000000&&(ck (m+1) 1000000&&(bF bl.length C&&bY bl.length bl)))with
       |false=>rw[hq]at h;exact h.elim
       |true=>
        rw[hq]at h;simp only[cond_true]at h;simp only[bJ]at hq;obtain⟨q4,q5,q6,q9,HE⟩:=hq;have q5:=eU q5;have q6:=eU q6;have aV:=(gp hl S hb).2;obtain⟨g1,g2,g3⟩:=z_ (ae:=ae) hC;rw[List.drop_zero]at g1;have yb:(ao ae C).length=(m+1)*z:=by rw[<-g1,w9];omega
        have fh:Src P z tx (.slice (aa ⟨ae.getD i 0,0,ag⟩) (m+1) oP) (m+1) (ao ae C) w:=by
         refine qu w gj ⟨ae.getD i 0,0,ag⟩ (m+1) oP _ yb (λj u hj=>?_) (λu hu=>BV q4 u hu);rw[iY,cell_of aV];rw[<-g1]at hj;have zT:j<(m+1)*z:=by
          rcases di j ((m+1)*z)with h|h
          ·exact h
          ·rw[jA (by rw[w9];omega)]at hj;cases hj
         rw[Ze zT]at hj;simpa using hj
        have iM:(m+1)*ct<=140737488355328:=h_ (Nat.mul_le_mul q6 q5) dC;obtain⟨mJ,ar,iO⟩:=c;simp only at fc cN dX;have e2:ar=#[s,xs]:=by rw[<-cN]
        have e3:iO=#[t,tx]:=by rw[<-dX]
        subst fc e2 e3;obtain⟨b',c',tail,w',b_,hc,fJ,hh,dl,r2⟩:=ajc (P:=P) (ty:=o.type) (x:=aa ⟨ae.getD j0 0,o0,ag⟩) ct fh oM ht (EI cE) iM (h_ q6 dC);have dd:∀(is:List Nat)(u:List aj),ao is (C++[.rest u])=ao is C++u:=λis u=>by
         rw[kg];simp[ao,cl]
        have HF:bF ae.length (C++[.rest tail])=af:=by
         rw[hl];have EJ:∀(x y:List V),bF bl.length x=af->bF bl.length y=af->bF bl.length (x++y)=af:=by
          intro x y;induction x with
          |nil=>intro _ h;simpa using h
          |cons v x ih=>intro h1 h2;simp only[fe,bF,bJ]at h1⊢;exact⟨h1.1,ih h1.2 h2⟩
         exact EJ _ _ q9 rfl
        refine⟨_,[b'],_,ch,w',.inl ?_,by simp[hl],?_,h c' tail r2 ?_⟩
        ·have:=jU (P:=P) (ρ:=ρ) (o:=o) ho (sv:=.slice (aa ⟨ae.getD j0 0,o0,ag⟩) 0 0) (xv:=.slice (aa ⟨ae.getD i 0,0,ag⟩) (m+1) oP) (by rw[bo,gV];simp only[den]) (by rw[bo,fV];simp only[den]) b_;rw[this];simp only[den];rw[<-hl,lY]
        ·rw[fw _ _ _ _ hl,fy _ _ (by rw[hl];exact HE)];simp only[lits,aI];rw[jI _ HF,dd];have:=S.new hc fJ hh;refine this.perm ?_;rw[bZ (lits ae ae bl)];exact(kY).symm
        ·rw[<-lW (ae:=ae),dd,dl]
      ·exact h.elim
     ·exact h.elim
    ·exact h.elim
   ·exact h.elim
  ·exact h.elim
 ·exact h.elim
def Ss(P:aL):(bA->V)->Op->List VB->List G->VK G->Prop:=λe op bl ch K=>match op with
 |.call c=>(match c.callee,c.args.toList,c.argTypes.toList with
  |.builtin .append,[s,xs],[t,tx]=>(match P.underlying t,P.underlying tx with
   |some (.slice T),aa (.slice _)=>(match P.info? T,e s,e xs with
    |some _,.sl j o n c,.sl _ _ 0 _=>cond (ck n c) (K (.sl j o n c) bl ch) False
    |some _,.raw (.slice ag 0 0),.raw (.slice ag 0 0)=>K (.raw (.slice ag 0 0)) bl ch
    |_,_,_=>False)
   |_,_=>False)
  |_,_,_=>False)
 |.typeAssert x _ t af=>(match e x,P.underlying t with
  |.nT t' v,aa (.struct _)=>cond (aC t' t) (K (.aD [v,.bool af]) bl ch) False
  |_,_=>False)
 |_=>False
def aje{P:aL}{gl:Nat->Option Nat}:iF (G:=G) P gl (Ss P):=by
 intro e op ae bl ch R ms w0 w K ρ o hg hl S bo ho h;unfold Ss at h;split at h
 ·rename_i c;split at h
  ·rename_i s xs t tx fc cN dX;split at h
   ·rename_i T T' ht gj;obtain⟨mJ,ar,iO⟩:=c;simp only at fc cN dX;have e2:ar=#[s,xs]:=by rw[<-cN]
    have e3:iO=#[t,tx]:=by rw[<-dX]
    subst fc e2 e3;split at h
    ·rename_i inf j o0 n c i o1 c1 cE gV fV;cases hq:ck n c with
     |false=>rw[hq]at h;exact h.elim
     |true=>
      rw[hq]at h;have b_:=run_append_nothing (P:=P) w t tx o.type T inf ht cE (aa ⟨ae.getD j 0,o0,ag⟩) n c (eU hq) (.slice (aa ⟨ae.getD i 0,o1,ag⟩) 0 c1) (qu w gj _ 0 c1 [] sP (λj u hj=>by simp at hj) (λu hu=>by simp at hu));refine⟨_,[],bl,ch,w,.inl ?_,by simpa using hl,by simpa using S,h⟩;have:=jU (P:=P) (ρ:=ρ) (o:=o) ho (by rw[bo,gV];simp only[den]) (by rw[bo,fV];simp only[den]) b_;rw[this];simp only[den,cy]
    ·rename_i inf cE gV fV;have b_:=run_append_nothing (P:=P) w t tx o.type T inf ht cE ag 0 0 (cW _) (.slice ag 0 0) (Src.ofNil w gj 0);refine⟨_,[],bl,ch,w,.inl ?_,by simpa using hl,by simpa using S,h⟩;have:=jU (P:=P) (ρ:=ρ) (o:=o) ho (by rw[bo,gV];simp only[den]) (by rw[bo,fV];simp only[den]) b_;rw[this];simp only[den]
    ·exact h.elim
   ·exact h.elim
  ·exact h.elim
 ·rename_i x xt t;split at h
  ·rename_i t' v fs hx hu;cases hq:aC t' t with
   |false=>rw[hq]at h;exact h.elim
   |true=>
    rw[hq]at h;obtain rfl:=cw hq;refine⟨_,[],bl,ch,w,.inl ?_,by simpa using hl,by simpa using S,h⟩;unfold execOp;simp only[ho,bo,hx,den,aJ,Instr.typeAssert,bH,dF hu,cD,if_true,de,cy];try rfl
  ·exact h.elim
 ·exact h.elim
def isO(e:bA->V)(op:Op):Bool:=match op with
 |.call c=>(match c.args.toList with
  |[_,x]=>(match e x with|.sl _ _ 0 _=>af|.raw (.slice ag 0 0)=>af|_=>ah)
  |_=>ah)
 |.typeAssert .. =>af
 |_=>ah
def isE(e:bA->V)(op:Op):Bool:=match op with
 |.call c=>(match c.args.toList with
  |s::_=>(match e s with|.sl _ _ 0 0=>af|_=>ah)
  |_=>ah)
 |_=>ah
def HP(P:aL):(bA->V)->Op->List VB->List G->VK G->Prop:=λe op bl ch K=>cond (isO e op) (Ss P e op bl ch K) (cond (isE e op) (Sr P e op bl ch K) (EN P e op bl ch K))
def MC{P:aL}{gl:Nat->Option Nat}:iF (G:=G) P gl (HP P):=Co isO aje (Co isE ajd HO)
end Vx
namespace Go.Proofs.YtddcipamdggcnaaGreatDoor
section
def EO:List Nat->List V->Nat->Option V
 |i::is,v::vs,t=>bif aC i t then aa v else EO is vs t
 |_,_,_=>ag
def MD(ix:List Nat)(vs:List V):Nat->Nat->List (Option V)
 |0,_=>[]
 |n+1,i=>EO ix vs i::MD ix vs n (i+1)
def HR:List Nat->List V->List V
 |[],_=>[]
 |i::is,fr=>nth fr i::HR is fr
def Su{n:Nat}{fr:List V}:∀(ix:List Nat)(vs:List V),HR ix fr=vs->bF n vs=af->∀t v,EO ix vs t=aa v->nth fr t=v/\dg n v=af
 |[],vs,_,_,t,v,h=>by cases vs<;>cases h
 |i::is,[],h,_,t,v,_=>by cases h
 |i::is,u::vs,h,hw,t,v,hl=>by
  simp only[HR,List.cons.injEq]at h;simp only[bF,bJ]at hw;unfold EO at hl;cases hb:aC i t with
  |true=>
   rw[hb]at hl;cases hl;obtain rfl:=cw hb;exact⟨h.1,hw.1⟩
  |false=>
   rw[hb]at hl;exact Su is vs h.2 hw.2 t v hl
def Sv{n:Nat}{eM:List V}{ix:List Nat}{vs:List V}(h:∀t v,EO ix vs t=aa v->nth eM t=v/\dg n v=af):∀(N i:Nat)(fr:List V),fr.length=N->(∀k,nth eM (i+k)=nth fr k)->Er n (MD ix vs N i) fr
 |0,_,[],_,_=>trivial
 |0,_,_::_,hl,_=>by simp at hl
 |N+1,i,[],hl,_=>by simp at hl
 |N+1,i,v::fr,hl,hn=>by
  unfold MD;have ih:=Sv h N (i+1) fr (by simpa using hl) (λk=>by have:=hn (k+1);simp only[lU,lV,ly]at this;rw[<-this];congr 1;omega);have h0:=hn 0;simp only[lU,lV,ly,lM]at h0;cases hk:EO ix vs i with
  |none=>exact ih
  |some u=>
   obtain⟨h1,h2⟩:=h i u hk;exact⟨h0.symm.trans h1,h2,ih⟩
section
variable{G:Type}{X:Type}
def uX(eE:X->List V)(bl:X->List VB)(ch:X->List G)(vs:List V)(b:List VB)(c:List G):Prop:=∃x,vs=eE x/\b=bl x/\c=ch x
def uY(m:X->Nat)(eE:X->List V)(bl:X->List VB)(ch:X->List G)(x:X)(vs:List V)(b:List VB)(c:List G):Prop:=∃y,m y<m x/\vs=eE y/\b=bl y/\c=ch y
def we(m:X->Nat)(N n0:Nat)(ix:List Nat)(eE:X->List V)(bl:X->List VB)(ch:X->List G)(h1:∀x,(bl x).length=n0)(h2:∀x,bY n0 (bl x)=af)(h3:∀x,bF n0 (eE x)=af):Lp G where
 X:=X
 m:=m
 fr x:=MD ix (eE x) N 0
 bl:=bl
 ch:=ch
 Rw fr b c:=aC fr.length N=af/\uX eE bl ch (HR ix fr) b c
 en x fr b c:=aC fr.length N=af/\uY m eE bl ch x (HR ix fr) (b.take n0) c
 ok0:=by
  rintro fr b c ⟨hl,x,hv,rfl,rfl⟩;refine⟨x,?_,rfl,rfl⟩;rw[h1];exact Sv (Su ix _ hv (h3 x)) N 0 fr (cw hl) (λk=>by rw[d_])
 ok:=by
  rintro x fr b c ⟨hl,y,hm,hv,hb,rfl⟩;refine⟨y,hm,?_,by rw[h1,h1],by rw[h1];exact h2 y,⟨b.drop n0,?_⟩,rfl⟩
  ·rw[h1];exact Sv (Su ix _ hv (h3 y)) N 0 fr (cw hl) (λk=>by rw[d_])
  ·rw[<-hb,jR]
end
def pT{G:Type}[Bl G](P:aL)(gl:Nat->Option Nat)(L:List (bT G))(lp:Nat->Option (Lp G)):Ctx G:=⟨P,qM L,gl,tO L,B6,Ep,λi _=>lp i,xM,Af⟩
def aK.TL{G:Type}[Bl G]{P:aL}{gl:Nat->Option Nat}{L:List (bT G)}{lp:Nat->Option (Lp G)}(h:aK P gl L):∀f c,(pT P gl L lp).T f=aa c->Sound (pT P gl L lp).P (pT P gl L lp).gl f c:=h.T
def aK.QL{G:Type}[Bl G]{P:aL}{gl:Nat->Option Nat}{L:List (bT G)}{lp:Nat->Option (Lp G)}(h:aK P gl L):nZ (pT P gl L lp):=h.Q
def cU:Nat->Option Nat:=λ_=>ag
def emp_ok:aK (G:=Empty) prog cU []:=aK.nil
def ja{G:Type}(i:Nat)(I:Lp G):Nat->Option (Lp G):=λj=>bif aC j i then aa I else ag
def c9(k:Nat):Int:=([1116352408,1899447441,3049323471,3921009573,961987163,1508970993,2453635748,2870763221,3624381080,310598401,607225278,1426881987,1925078388,2162078206,2614888103,3248222580,3835390401,4022224774,264347078,604807628,770255983,1249150122,1555081692,1996064986,2554220882,2821834349,2952996808,3210313671,3336571891,3584528711,113926993,338241895,666307205,773529912,1294757372,1396182291,1695183700,1986661051,2177026350,2456956037,2730485921,2820302411,3259730800,3345764771,3516065817,3600352804,4094571909,275423344,430227734,506948616,659060556,883997877,958139571,1322822218,1537002063,1747873779,1955562222,2024104815,2227730452,2361852424,2428436474,2756734187,3204031479,3329325298]:List Int).getD k 0
def qO(n:Nat)(x:Int):Int:=bits .or .u32 (u32.wrap (x*2^(32-n))) (il x (2^n))
def Aw:QF:=⟨84,λak _=>match ak with
 |[.int .u32 a,.int .i64 (.ofNat n)]=>(match n with
  |2|6|7|11|13|17|18|19|22|25=>aa (True,.int .u32 (qO n a))
  |_=>ag)
 |_=>ag⟩
def vq0{f:Nat}{xs:List V}{v:V}{n:Nat}(h:∀K,eJ prog [] n f xs K=K v)(ha:bF 0 xs=af)(hv:dg 0 v=af){ae:List Nat}{w:an}:ba prog f (aJ ae xs).toArray w λx w'=>x=den ae v/\Ch [] w w':=
 Cn bW.nil n (by rw[h]) ha hv ae w
def abh(gl:Nat->Option Nat):Aw.Ok prog gl:=by
 intro ak bl p_ v_ h hp ae w _ _;unfold Aw at h;dsimp only at h;split at h
 ·rename_i a n;split at h<;>first|cases h;done|(simp only[a_,bI]at h;obtain⟨rfl,rfl⟩:=h;exact vq0 (n:=30) (λK=>kR) rfl rfl)
 ·cases h
def w1E(f:Nat->Int)(i:Int):Int:=bits .or .u32 (bits .or .u32 (bits .or .u32 (u32.wrap (u32.wrap (f (0+(i64.wrap (4*i)).toNat))*2^24)) (u32.wrap (u32.wrap (f (0+(i64.wrap (i64.wrap (4*i)+1)).toNat))*2^16)))
 (u32.wrap (u32.wrap (f (0+(i64.wrap (i64.wrap (4*i)+2)).toNat))*2^8))) (u32.wrap (f (0+(i64.wrap (i64.wrap (4*i)+3)).toNat)))
def Cq(f:Nat->Int):Nat->Nat->Int
 |0=>λ_=>0
 |k+1=>pH (Cq f k) (0+((k:Nat):Int).toNat) (w1E f (k:Nat))
def w2E(V:Nat->Int)(k:Int):Int:=
 let at_:=λd:Int=>V (0+(i64.wrap (k-d)).toNat)
 u32.wrap (u32.wrap (u32.wrap (at_ 16+at_ 7)+bits .xor .u32 (bits .xor .u32 (qO 7 (at_ 15)) (qO 18 (at_ 15))) (il (at_ 15) (2^3)))+bits .xor .u32 (bits .xor .u32 (qO 17 (at_ 2)) (qO 19 (at_ 2))) (il (at_ 2) (2^10)))
def n6(f:Nat->Int):Nat->Nat->Int
 |0=>Cq f 16
 |k+1=>pH (n6 f k) (0+((16+k:Nat):Int).toNat) (w2E (n6 f k) ((16+k:Nat):Int))
def l8(a b c d e f g h:Int):Nat->Int:=λj=>([a,b,c,d,e,f,g,h]:List Int).getD j 0
def rE(N W:Nat->Int)(k:Int):Nat->Int:=(l8 (u32.wrap ((u32.wrap ((u32.wrap ((u32.wrap ((u32.wrap ((N 7)+(bits .xor .u32 (bits .xor .u32 (qO 6 (N 4)) (qO 11 (N 4))) (qO 25 (N 4)))))+(bits .or .u32 (bits .and .u32 (N 4) (N 5)) (bits .and .u32 (bits .xor .u32 4294967295 (N 4)) (N 6)))))+(c9 (0+(k).toNat))))+(W (0+(k).toNat))))+(u32.wrap ((bits .xor .u32 (bits .xor .u32 (qO 2 (N 0)) (qO 13 (N 0))) (qO 22 (N 0)))+(bits .or .u32 (bits .or .u32 (bits .and .u32 (N 0) (N 1)) (bits .and .u32 (N 0) (N 2))) (bits .and .u32 (N 1) (N 2))))))) (N 0) (N 1) (N 2) (u32.wrap ((N 3)+(u32.wrap ((u32.wrap ((u32.wrap ((u32.wrap ((N 7)+(bits .xor .u32 (bits .xor .u32 (qO 6 (N 4)) (qO 11 (N 4))) (qO 25 (N 4)))))+(bits .or .u32 (bits .and .u32 (N 4) (N 5)) (bits .and .u32 (bits .xor .u32 4294967295 (N 4)) (N 6)))))+(c9 (0+(k).toNat))))+(W (0+(k).toNat)))))) (N 4) (N 5) (N 6))
def Cr(h W:Nat->Int):Nat->Nat->Int
 |0=>h
 |n+1=>rE (Cr h W n) W (n:Int)
def wg(h f:Nat->Int):Nat->Int:=λj=>u32.wrap (Cr h (n6 f 48) 64 j+h j)
def pU(m:Int)(n:Nat)(X:Prop):Prop:=(0<=m/\m<(n:Int))/\0+m.toNat<n/\X
def qP{m:Int}{n:Nat}{X:Prop}(h:0<=m/\m<(n:Int))(k:X):pU m n X:=⟨h,oM,k⟩
def lB{x:Int}(h:dQ x):i64.wrap x=x:=by simp[vH,td,te];omega
section
variable(f:Nat->Int)(K:VK Empty)
def wB(W:Nat->Int):List VB:=[⟨af,⟨156,(0,0)⟩,[.arr .u8 64 f]⟩,⟨af,⟨193,(0,0)⟩,[.arr .u32 64 λ_=>0]⟩,⟨af,⟨193,(0,0)⟩,[.arr .u32 64 W]⟩]
def w3(i:Int):List V:=[.ptr 0 0,.ptr 1 0,.ptr 2 0,.int .i64 i]
def w1L:Lp Empty:=we (X:={i:Nat //i<=16}) (λi=>16-i.1) 89 3 [1,2,3,10] (λi=>w3 (i.1:Int)) (λi=>wB f (Cq f i.1)) (λ_=>[]) (λ_=>rfl) (λ_=>rfl) (λ_=>rfl)
def w2L:Lp Empty:=we (X:={i:Nat //i<=48}) (λi=>48-i.1) 89 3 [1,2,3,5] (λi=>w3 ((16+i.1:Nat):Int)) (λi=>wB f (n6 f i.1)) (λ_=>[]) (λ_=>rfl) (λ_=>rfl) (λ_=>rfl)
def Sw:Nat->Option (Lp Empty):=λj=>match j with|0=>aa (w1L f)|2=>aa (w2L f)|_=>ag
def wX:Prop:=
 (af=af/\uX (λi:{i:Nat //i<=16}=>w3 (i.1:Int)) (λi=>wB f (Cq f i.1)) (λ_=>[]) (w3 0) (wB f λ_=>0) ([]:List Empty))/\∀(x:{i:Nat //i<=16})(g:Nat->aj),cond (decide ((x.1:Int)<16))
  (pU (i64.wrap (4*(x.1:Int))) 64<|pU (i64.wrap (i64.wrap (4*(x.1:Int))+1)) 64<|pU (i64.wrap (i64.wrap (4*(x.1:Int))+2)) 64<|pU (i64.wrap (i64.wrap (4*(x.1:Int))+3)) 64<|pU (x.1:Int) 64
   (af=af/\uY (λi:{i:Nat //i<=16}=>16-i.1) (λi=>w3 (i.1:Int)) (λi=>wB f (Cq f i.1)) (λ_=>[]) x (w3 (i64.wrap ((x.1:Int)+1))) (wB f (Cq f (x.1+1))) ([]:List Empty)))
  ((af=af/\uX (λi:{i:Nat //i<=48}=>w3 ((16+i.1:Nat):Int)) (λi=>wB f (n6 f i.1)) (λ_=>[]) (w3 16) (wB f (Cq f x.1)) ([]:List Empty))/\∀(y:{i:Nat //i<=48})(g:Nat->aj),cond (decide (((16+y.1:Nat):Int)<64))
    (pU (i64.wrap (((16+y.1:Nat):Int)-15)) 64<|pU (i64.wrap (((16+y.1:Nat):Int)-2)) 64<|True/\True/\True/\True/\(pU (i64.wrap (((16+y.1:Nat):Int)-16)) 64<|pU (i64.wrap (((16+y.1:Nat):Int)-7)) 64<|pU ((16+y.1:Nat):Int) 64
     (af=af/\uY (λi:{i:Nat //i<=48}=>48-i.1) (λi=>w3 ((16+i.1:Nat):Int)) (λi=>wB f (n6 f i.1)) (λ_=>[]) y (w3 (i64.wrap (((16+y.1:Nat):Int)+1))) (wB f (n6 f (y.1+1))) ([]:List Empty))))
    (K (.agg [.arr .u32 64 (n6 f y.1)]) [] []))
def ajf:bz (pT prog cU (qL Empty [Aw]) (Sw f)) 60 83 [.agg [.arr .u8 64 f]] [] [] (bG 0 K)=wX f K:=kR
end
def ajg(f:Nat->Int):wX f λv _ _=>v=.agg [.arr .u32 64 (n6 f 48)]:=by
 refine⟨⟨rfl,⟨0,oM⟩,rfl,rfl,rfl⟩,λx g=>aN (λh=>?_) λh=>?_⟩
 ·have hx:(x.1:Int)<16:=of_decide_eq_true h;have e:=lB (x:=4*(x.1:Int)) oM;have e1:=lB (x:=4*(x.1:Int)+1) oM;have e2:=lB (x:=4*(x.1:Int)+2) oM;have e3:=lB (x:=4*(x.1:Int)+3) oM;rw[e,e1,e2,e3];refine qP oM (qP oM (qP oM (qP oM (qP oM ⟨rfl,⟨x.1+1,oM⟩,by show 16-(x.1+1)<16-x.1;omega,?_,rfl,rfl⟩))));rw[lB oM];rfl
 ·have hx:x.1=16:=by have:=of_decide_eq_false h;have:=x.2;omega
  rw[hx];refine⟨⟨rfl,⟨0,oM⟩,rfl,rfl,rfl⟩,λy g=>aN (λh=>?_) λh=>?_⟩
  ·have hy:((16+y.1:Nat):Int)<64:=of_decide_eq_true h;rw[lB (x:=((16+y.1:Nat):Int)-15) oM,lB (x:=((16+y.1:Nat):Int)-2) oM,lB (x:=((16+y.1:Nat):Int)-16) oM,lB (x:=((16+y.1:Nat):Int)-7) oM];refine qP oM (qP oM ⟨trivial,trivial,trivial,trivial,qP oM (qP oM (qP oM ⟨rfl,⟨y.1+1,oM⟩,by show 48-(y.1+1)<48-y.1;omega,?_,rfl,rfl⟩))⟩);rw[lB oM];rfl
  ·have hy:y.1=48:=by have:=of_decide_eq_false h;have:=y.2;omega
   rw[hy]
def HS:QF:=⟨83,λak _=>match ak with
 |[.agg [.arr .u8 64 f]]=>aa (True,.agg [.arr .u32 64 (n6 f 48)])
 |_=>ag⟩
def ajh(gl:Nat->Option Nat):HS.Ok prog gl:=by
 intro ak bl p_ v_ h hp ae w _ _;unfold HS at h;dsimp only at h;split at h
 ·rename_i f;simp only[a_,bI]at h;obtain⟨rfl,rfl⟩:=h;have hv:bz (pT prog cU (qL Empty [Aw]) (Sw f)) 60 83 [.agg [.arr .u8 64 f]] [] [] (bG 0 λv _ _=>v=.agg [.arr .u32 64 (n6 f 48)]):=by rw[ajf];exact ajg f
  have eg:=kG (G:=Empty) (P:=prog) (gl:=cU) (bW.cons (abh _) bW.nil);refine(eO (C:=pT prog cU (qL Empty [Aw]) (Sw f)) (_root_.Go.Proofs.YtddcipamdggcnaaGreatDoor.aK.TL eg) (_root_.Go.Proofs.YtddcipamdggcnaaGreatDoor.aK.QL eg) 60 (ae:=[]) (bl:=[]) (ch:=[]) (R:=[]) (ms:=[]) (w0:=w) (w:=w) (λg i h=>nomatch h) rfl (St.nil [] w) hv).mono ?_;rintro x w' ⟨y,aq,b9,ce,rfl,h1,S',hK⟩;obtain⟨v2,cj,ci,e,_,_,rfl⟩:=ig (n0:=0) h1 sP S' hK;exact⟨e.trans rfl,S'.ch⟩
 ·cases h
section
variable(t:Nat)(h f:Nat->Int)(K:VK Empty)
def i8(h:Nat->Int):List V:=[.int .u32 (h 0),.int .u32 (h 1),.int .u32 (h 2),.int .u32 (h 3),.int .u32 (h 4),.int .u32 (h 5),.int .u32 (h 6),.int .u32 (h 7)]
def rX:VB:=⟨ah,⟨t,(0,0)⟩,[.arr .u32 64 c9]⟩
def bB(N:Nat->Int):List VB:=[rX t,⟨af,⟨153,(0,0)⟩,i8 h⟩,⟨af,⟨156,(0,0)⟩,[.arr .u8 64 f]⟩,⟨af,⟨153,(0,0)⟩,i8 λ_=>0⟩,⟨af,⟨193,(0,0)⟩,[.arr .u32 64 (n6 f 48)]⟩,⟨af,⟨153,(0,0)⟩,i8 N⟩]
def b6(i:Int):List V:=[.ptr 1 0,.ptr 2 0,.ptr 3 0,.ptr 4 0,.ptr 5 0,.int .i64 i]
def bL:Lp Empty:=we (X:={i:Nat //i<=64}) (λi=>64-i.1) 113 6 [2,3,4,5,6,17] (λi=>b6 (i.1:Int)) (λi=>bB t h f (Cr h (n6 f 48) i.1)) (λ_=>[]) (λ_=>rfl) (λ_=>rfl) (λ_=>rfl)
def pV:Nat->Option Nat:=λg=>bif aC g 0 then aa 0 else ag
def bX:Prop:=True/\(af=af/\uX (λi:{i:Nat //i<=64}=>b6 (i.1:Int)) (λi=>bB t h f (Cr h (n6 f 48) i.1)) (λ_=>[]) (b6 0) (bB t h f h) ([]:List Empty))/\∀(x:{i:Nat //i<=64})(g:Nat->aj),cond (decide ((x.1:Int)<64))
 (pU (x.1:Int) 64<|pU (x.1:Int) 64<|True/\True/\True/\True/\True/\True/\
  (af=af/\uY (λi:{i:Nat //i<=64}=>64-i.1) (λi=>b6 (i.1:Int)) (λi=>bB t h f (Cr h (n6 f 48) i.1)) (λ_=>[]) x (b6 (i64.wrap ((x.1:Int)+1))) (bB t h f (Cr h (n6 f 48) (x.1+1))) ([]:List Empty)))
 (K (.agg (i8 λj=>u32.wrap (Cr h (n6 f 48) x.1 j+h j))) [rX t] [])
def aji:bz (pT prog pV (qL Empty [Aw,HS]) (ja 0 (bL t h f))) 60 65 [.agg (i8 h),.agg [.arr .u8 64 f]] [rX t] [] (bG 1 K)=bX t h f K:=kR
end
def ajj(t:Nat)(h f:Nat->Int):bX t h f λv _ _=>v=.agg (i8 (wg h f)):=by
 refine⟨trivial,⟨rfl,⟨0,oM⟩,rfl,rfl,rfl⟩,λx g=>aN (λhh=>?_) λhh=>?_⟩
 ·have hx:(x.1:Int)<64:=of_decide_eq_true hh;refine qP oM (qP oM ⟨trivial,trivial,trivial,trivial,trivial,trivial,rfl,⟨x.1+1,oM⟩,by show 64-(x.1+1)<64-x.1;omega,?_,rfl,rfl⟩);rw[lB oM];rfl
 ·have hx:x.1=64:=by have:=of_decide_eq_false hh;have:=x.2;omega
  rw[hx];rfl
def ajk(t:Nat)(h f:Nat->Int){ae:List Nat}{w:an}(hG:w.heap[0]?=aa (.cells (aH .u32 64 c9) t (0,0))):ba prog 65 (aJ ae [.agg (i8 h),.agg [.arr .u8 64 f]]).toArray w λx w'=>x=den ae (.agg (i8 (wg h f)))/\Ch [] w w':=by
 have hv:bz (pT prog pV (qL Empty [Aw,HS]) (ja 0 (bL t h f))) 60 65 [.agg (i8 h),.agg [.arr .u8 64 f]] [rX t] [] (bG 1 λv _ _=>v=.agg (i8 (wg h f))):=by rw[aji];exact ajj t h f
 have eg:=kG (G:=Empty) (P:=prog) (gl:=pV) (bW.cons (abh _) (bW.cons (ajh _) bW.nil));have S0:St [] w (lits [0] [0] [rX t]++[]) w:=St.given (w:=w) [(0,.cells (ao [0] [.arr .u32 64 c9]).toArray t (0,0))] (by
  intro p hp;simp only[jS]at hp;subst hp;have e:(ao [0] [.arr .u32 64 c9]).toArray=aH .u32 64 c9:=by simp[ao,cl,aH]
  rw[e];exact hG)
 have e0:∀ae,aJ ae [.agg (i8 h),.agg [.arr .u8 64 f]]=aJ [0] [.agg (i8 h),.agg [.arr .u8 64 f]]:=λ_=>rfl;rw[e0];refine(eO (C:=pT prog pV (qL Empty [Aw,HS]) (ja 0 (bL t h f))) (_root_.Go.Proofs.YtddcipamdggcnaaGreatDoor.aK.TL eg) (_root_.Go.Proofs.YtddcipamdggcnaaGreatDoor.aK.QL eg) 60 (ae:=[0]) (bl:=[rX t]) (ch:=[]) (R:=[]) (λg i h=>by
  have h:pV g=aa i:=h;unfold pV at h;cases hb:aC g 0 with
  |false=>rw[hb]at h;cases h
  |true=>rw[hb]at h;cases h;exact⟨sP,by simp[gh,cw hb]⟩) rfl S0 hv).mono ?_
 rintro x w' ⟨y,aq,b9,ce,rfl,h1,S',hK⟩;obtain⟨v2,cj,ci,e,_,_,rfl⟩:=ig (n0:=1) h1 sP S' hK;exact⟨e.trans rfl,S'.ch⟩
structure tR(p:Prop):Prop where
 h:p
structure iP where
 bl:List av
 b:Nat
 o:Nat
 n:Nat
 f:Nat->Int
 h:∀w:an,(∀y∈bl,w.heap[y.id]?=aa y.obj)->cJ w b o n f
instance:Bl iP:=⟨λg=>g.bl⟩
def ME(N:Nat):(bA->V)->Op->List VB->List iP->VK iP->Prop:=λe op bl ch K=>match op with
 |.makeSlice t l c=>(match prog.underlying t,e l,e c with
  |some (.slice 5),.int .i64 m,.int .i64 m'=>cond (bY bl.length bl) ((m=(N:Int)/\m'=(N:Int))/\K (.sl bl.length 0 N N) (bl++[⟨af,⟨5,(0,0)⟩,[.arr .u8 N λ_=>0]⟩]) ch) False
  |_,_,_=>False)
 |.call c=>(match c.callee,c.args.toList,c.argTypes.toList with
  |.builtin .copy,[s,xs],[t,tx]=>(match prog.underlying t,e s,e xs,ch with
   |some (.slice 5),.sl i 0 n c,.raw (.slice (aa ⟨b,o,ag⟩) m mc),[g]=>(match bl[i]?with
    |some ⟨af,⟨5,(0,0)⟩,[.arr .u8 N' f]⟩=>((g.b=b/\g.o=o/\g.n=m)/\m<=n/\n<=N')/\K (.int .i64 (m:Int)) (bl.set i ⟨af,⟨5,(0,0)⟩,[.arr .u8 N' (eH f 0 m g.f)]⟩) ch
    |_=>False)
   |_,_,_,_=>False)
  |_,_,_=>False)
 |_=>False
def EP(ae:List Nat)(N:Nat)(f:Nat->Int):(ao ae [.arr .u8 N f]).toArray=aH .u8 N f:=by simp[ao,cl,aH]
def abi{N:Nat}(h0:1<=N)(h1:N<=1000):iF prog (λ_=>ag) (ME N):=by
 intro e op ae bl ch R ms w0 w K ρ o hg hl S bo ho h;unfold ME at h;split at h
 ·rename_i t l c;split at h
  ·rename_i m m' hu oQ HN;cases hq:bY bl.length bl with
   |false=>rw[hq]at h;exact h.elim
   |true=>
    rw[hq]at h;obtain⟨⟨rfl,rfl⟩,hK⟩:=h;obtain⟨inf,uW,kC⟩:∃inf,prog.info? 5=aa inf/\inf.bytes<=100:=⟨_,rfl,eU kR⟩;have hz:∀k:Nat,(ao ae (mI [.int .u8 0] k))=(bg k).map λ_=>fI .u8 0:=by
     intro k;induction k with
     |zero=>rfl
     |succ k ih=>rw[mI,kg,ih,ta,gx,lN];rfl
    have b_:=run_mk (P:=prog) (ae:=ae) (w:=w) (t:=t) (el:=5) (n:=N) (z:=0) (zc:=[.int .u8 0]) (inf:=inf) (k1:=.i64) (k2:=.i64) hu uW kR kR rfl h0 oM kC;refine⟨_,[w.heap.size],_,ch,w.alloc (.cells (ao ae (mI [.int .u8 0] N)).toArray 5),.inl ?_,by simp[hl],?_,hK⟩
    ·unfold execOp;simp only[ho,bo,oQ,HN,den,bH,b_,cD,de];rw[<-hl,lY]
    ·rw[fw _ _ _ _ hl,fy _ _ (by rw[hl];exact hq)];simp only[lits,aI,EP];have e1:(ao ae (mI [.int .u8 0] N)).toArray=aH .u8 N λ_=>0:=by rw[hz];rfl
     rw[e1];refine(S.new (Ch.alloc [] w _) (cW _) (oB w _)).perm ?_;rw[bZ];exact kY.symm
  ·exact h.elim
 ·rename_i c;split at h
  ·rename_i s xs t tx fc cN dX;split at h
   ·rename_i i n cc b o' m mc g hu gV fV;split at h
    ·rename_i N' f hb;obtain⟨⟨⟨rfl,rfl,rfl⟩,hm,hn⟩,hK⟩:=h;obtain⟨mJ,ar,iO⟩:=c;simp only at fc cN dX;have e2:ar=#[s,xs]:=by rw[<-cN]
     have e3:iO=#[t,tx]:=by rw[<-dX]
     subst fc e2 e3;obtain⟨hj,aV⟩:=gp hl S hb;rw[EP]at aV;have qN:=(gp hl S hb).2;rw[EP]at qN;have h8:cJ w g.b g.o g.n g.f:=g.h w λy hy=>S.at' (oF _ (show y∈g.bl++R from kB _ hy));have G8:Nat.min g.n n=g.n:=Nat.min_eq_left hm;have b_:=run_copy_row (P:=prog) w t tx o.type 5 (ae.getD i 0) 0 n cc ⟨g.b,g.o,ag⟩ g.n mc (aH .u8 N' f) 5 (cQ g.n g.f) hu kR qN (by rw[gD,G8]) (λj v hj=>by
      obtain⟨h1,rfl⟩:=BP hj;rw[iY];exact h8 j h1) (by rw[gD,G4];omega) G6
     have e4:((aH .u8 N' f).toList.take 0++cQ g.n g.f++(aH .u8 N' f).toList.drop (0+(cQ g.n g.f).length)).toArray=aH .u8 N' (eH f 0 g.n g.f):=by
      rw[gD];exact QN .u8 f oM g.f
     rw[e4]at b_;have kF:ρ s=.slice (aa ⟨ae.getD i 0,0,ag⟩) n cc:=by rw[bo,gV];simp only[den]
     have oT:ρ xs=.slice (aa ⟨g.b,g.o,ag⟩) g.n mc:=by rw[bo,fV];simp only[den]
     have hex:=Lz (P:=prog) (ρ:=ρ) (o:=o) ho kF oT b_;rw[gD]at hex;refine⟨.int .i64 (g.n:Int),[],_,_,_,.inl hex,by simpa using hl,?_,hK⟩
     ·simp only[cy];have fR:=S.step hj rfl (Ch.setRow w _ _) (setRow_heap w (ae.getD i 0) (aH .u8 N' f) (aH .u8 N' (eH f 0 g.n g.f)) 5 (0,0) qN);have mF:i<(lits ae ae bl).length:=by rw[Ac ae bl hl];rcases di i bl.length with h'|h';exact h';simp[h']at hb
      rw[<-Em (ae:=ae) ae bl i _ hl,<-List.set_append_left _ _ mF];simp only[aI,EP];exact fR
    ·exact h.elim
   ·exact h.elim
  ·exact h.elim
 ·exact h.elim
def rY(n:Nat):Int:=i64.wrap (i64.wrap (Int.tdiv (i64.wrap (i64.wrap (i64.wrap ((n:Int)+9)+64)-1)) 64)*64)
def ajl(e d:Int)(i:Nat)(F:Nat->Int):Nat->Int:=pH F (0+(i64.wrap (i64.wrap (e-1)-(i:Int))).toNat) (u8.wrap (il d (2^(8*i))))
def abj(e d:Int)(F:Nat->Int):Nat->Nat->Int
 |0=>F
 |k+1=>ajl e d k (abj e d F k)
def tS(N n:Nat)(f:Nat->Int):Nat->Int:=abj (rY n) (u64.wrap (u64.wrap (n:Int)*8)) (pH (eH (λ_=>0) 0 n f) (0+((n:Nat):Int).toNat) 128) 8
def MF(e:Int)(N:Nat)(X:Prop):Nat->Nat->Prop
 |0,_=>X
 |k+1,i=>pU (i64.wrap (i64.wrap (e-1)-(i:Int))) N (MF e N X k (i+1))
def Sz(N n b o:Nat)(g:iP)(K:VK iP):Prop:=(rY n=(N:Int)/\rY n=(N:Int))/\((g.b=b/\g.o=o/\g.n=n)/\n<=N/\N<=N)/\pU (n:Int) N (MF (rY n) N (K (.sl 0 0 N N) [⟨af,⟨5,(0,0)⟩,[.arr .u8 N (tS N n g.f)]⟩] [g]) 8 0)
def HT(N:Nat)(h0:1<=N)(h1:N<=1000)(f:fG)(ak:List V)(g:iP)(K:VK iP):Prop:=bz (gM prog (λ_=>ag) ([]:List (bT iP)) (ME N) (abi h0 h1)) 60 f ak [] [g] K
def ajm(g:iP)(b o n c:Nat)(K:VK iP):HT 64 oM oM 64 [.raw (.slice (aa ⟨b,o,ag⟩) n c)] g K=Sz 64 n b o g K:=kR
def ajn(g:iP)(b o n c:Nat)(K:VK iP):HT 128 oM oM 64 [.raw (.slice (aa ⟨b,o,ag⟩) n c)] g K=Sz 128 n b o g K:=kR
def Ax(H:Nat->Int):Nat->Int:=λj=>match j%4 with
 |0=>u8.wrap (il (H (j/4)) (2^24))
 |1=>u8.wrap (il (H (j/4)) (2^16))
 |2=>u8.wrap (il (H (j/4)) (2^8))
 |_=>u8.wrap (H (j/4))
def MG:Nat->Int:=l8 1779033703 3144134277 1013904242 2773480762 1359893119 2600822924 528734635 1541459225
def r8(X:Nat->Int):Nat->Int:=l8 (X 0) (X 1) (X 2) (X 3) (X 4) (X 5) (X 6) (X 7)
def ajo(n:Nat)(f:Nat->Int):Nat->Int:=Ax (wg MG (tS 64 n f))
def SA(f:Nat->Int)(k:Nat):Nat->Int:=λj=>f (k+j)
def ajp(n:Nat)(f:Nat->Int):Nat->Int:=Ax (wg (r8 (wg MG (tS 128 n f))) (SA (tS 128 n f) 64))
def k8(n:Nat)(f:Nat->Int):Nat->Int:=bif ck n 55 then ajo n f else ajp n f
def Cs:QF:=⟨65,λak bl=>match ak,bl with
 |[.agg [.int .u32 a,.int .u32 b,.int .u32 c,.int .u32 d,.int .u32 e,.int .u32 f,.int .u32 g,.int .u32 h],.agg [.arr .u8 64 F]],⟨ah,⟨t,(0,0)⟩,[.arr .u32 64 R]⟩::_=>aa (R=c9,.agg (i8 (wg (l8 a b c d e f g h) F)))
 |_,_=>ag⟩
def SB:Nat->(Nat->Int)->List V
 |64,F=>[.arr .u8 64 F]
 |128,F=>[.arr .u8 64 F,.arr .u8 64 (SA F 64)]
 |n,F=>[.arr .u8 n F]
def Ct(N:Nat):dm iP:=λak bl ch K=>match ak,ch with
 |[.raw (.slice (aa ⟨b,o,ag⟩) n c)],[g]=>cond (bY bl.length bl) (((g.b=b/\g.o=o/\g.n=n)/\rY n=(N:Int)/\n<N)/\K (.sl bl.length 0 N N) (bl++[⟨af,⟨5,(0,0)⟩,SB N (tS N n g.f)⟩]) [g]) False
 |_,_=>False
def o4(x:Int):List V:=[.int .u8 (u8.wrap (il x (2^24))),.int .u8 (u8.wrap (il x (2^16))),.int .u8 (u8.wrap (il x (2^8))),.int .u8 (u8.wrap x)]
def MH(H:Nat->Int):List V:=o4 (H 0)++(o4 (H 1)++(o4 (H 2)++(o4 (H 3)++(o4 (H 4)++(o4 (H 5)++(o4 (H 6)++o4 (H 7)))))))
def ajq(H:Nat->Int)(ae:List Nat):den ae (.agg (MH H))=.agg (aH .u8 32 (Ax H)):=kR
section
variable(t:Nat)(g:iP)(b o n c:Nat)(K:VK iP)
def ajr:bz (bU prog pV (⟨64,ah,Ct 64⟩::qL iP [Cs])) 60 44 [.raw (.slice (aa ⟨b,o,ag⟩) n c)] [rX t] [g] (bG 1 K)=(((g.b=b/\g.o=o/\g.n=n)/\rY n=((64:Nat):Int)/\n<64)/\c9=c9/\K (.agg (MH (wg MG (tS 64 n g.f)))) [rX t] [g]):=kR
def ajs:bz (bU prog pV (⟨64,ah,Ct 128⟩::qL iP [Cs])) 60 44 [.raw (.slice (aa ⟨b,o,ag⟩) n c)] [rX t] [g] (bG 1 K)=(((g.b=b/\g.o=o/\g.n=n)/\rY n=((128:Nat):Int)/\n<128)/\c9=c9/\c9=c9/\K (.agg (MH (wg (r8 (wg MG (tS 128 n g.f))) (SA (tS 128 n g.f) 64)))) [rX t] [g]):=kR
end
def ajt{w:an}{b o n:Nat}{f:Nat->Int}(h:cJ w b o n f):∃g:iP,(g.b=b/\g.o=o/\g.n=n)/\g.f=f/\∃ps:List (Nat×Obj),g.bl=ps.map (λp=>⟨p.1,ah,p.2⟩)/\∀p∈ps,w.heap[p.1]?=aa p.2:=by
 rcases uu n with rfl|hn
 ·exact⟨⟨[],b,o,0,f,λ_ _ j hj=>absurd hj oM⟩,⟨rfl,rfl,rfl⟩,rfl,[],rfl,λ_ h=>nomatch h⟩
 ·cases hb:w.heap[b]?with
  |none=>
   have:=h 0 hn;unfold zK at this;simp only[hb]at this;cases this
  |some ob=>
   refine⟨⟨[⟨b,ah,ob⟩],b,o,n,f,λw' hw j hj=>?_⟩,⟨rfl,rfl,rfl⟩,rfl,[(b,ob)],rfl,?_⟩
   ·have h1:=h j hj;have h2:w'.heap[b]?=aa ob:=hw _ (jS.2 rfl);unfold zK at h1⊢;simp only[hb]at h1;simp only[h2];exact h1
   ·intro p hp;obtain rfl:=jS.1 hp;exact hb
def abk{e:Int}{N:Nat}{X:Prop}(he:e=(N:Int))(h8:8<=N)(hN:N<=1000)(hX:X):∀k i,i+k<=8->MF e N X k i
 |0,_,_=>hX
 |k+1,i,h=>by
  have e1:i64.wrap (i64.wrap (e-1)-(i:Int))=(N:Int)-1-(i:Int):=by rw[he,lB (x:=(N:Int)-1) oM,lB oM]
  unfold MF;rw[e1];exact qP oM (abk he h8 hN hX k (i+1) oM)
def abl{n:Nat}(h:n<=55):rY n=((64:Nat):Int):=by
 unfold rY;rw[lB (x:=(n:Int)+9) oM,lB (x:=(n:Int)+9+64) oM,lB (x:=(n:Int)+9+64-1) oM,Int.tdiv_eq_ediv_of_nonneg oM,show((n:Int)+9+64-1)/64=1 by omega];rfl
def abm{n:Nat}(h:56<=n)(h2:n<=119):rY n=((128:Nat):Int):=by
 unfold rY;rw[lB (x:=(n:Int)+9) oM,lB (x:=(n:Int)+9+64) oM,lB (x:=(n:Int)+9+64-1) oM,Int.tdiv_eq_ediv_of_nonneg oM,show((n:Int)+9+64-1)/64=2 by omega];rfl
def aju{N:Nat}(h0:1<=N)(h1:N<=1000){f:Nat}{ak:List V}{g:iP}{K:VK iP}(h:tR (HT N h0 h1 f ak g K)){R:List av}{ms:List Nat}{w0 w:an}(S:St ms w0 (g.bl++R) w):
 ba prog f (aJ [] ak).toArray w λv w1=>∃x aq b ch,v=den aq x/\aq.length=b.length/\St ms w0 (lits aq aq b++ax ch R) w1/\K x b ch:=by
 have S0:St ms w0 (lits [] [] []++ax [g] R) w:=S;exact eO (aK.nil (G:=iP) (P:=prog) (gl:=λ_=>ag)).T (aK.nil (G:=iP) (P:=prog) (gl:=λ_=>ag)).Q 60 (C:=gM prog (λ_=>ag) ([]:List (bT iP)) (ME N) (abi h0 h1)) (ae:=[]) (bl:=[]) (ch:=[g]) (R:=R) Gl.no rfl S0 h.h
def MI(N n:Nat)(g:iP):VK iP:=λv bl ch=>v=.sl 0 0 N N/\bl=[⟨af,⟨5,(0,0)⟩,[.arr .u8 N (tS N n g.f)]⟩]/\ch=[g]
def abn{N n b o:Nat}{g:iP}(h8:8<=N)(h1:N<=1000)(hg:g.b=b/\g.o=o/\g.n=n)(he:rY n=(N:Int))(hn:n<N):Sz N n b o g (MI N n g):=
 ⟨⟨he,he⟩,⟨hg,oM,cW _⟩,qP oM (abk he h8 h1 ⟨rfl,rfl,rfl⟩ 8 0 oM)⟩
def ajv{N:Nat}(h0:1<=N)(h8:8<=N)(h1:N<=1000){b o n c:Nat}(g:iP)(cT:tR (HT N h0 h1 64 [.raw (.slice (aa ⟨b,o,ag⟩) n c)] g (MI N n g)))
 {R:List av} {ms:List Nat} {w0 w:an} (S:St ms w0 (g.bl++R) w):ba prog 64 #[.slice (aa ⟨b,o,ag⟩) n c] w λv w1=>∃b',v=.slice (aa ⟨b',0,ag⟩) N N/\St ms w0 (⟨b',af,.cells (aH .u8 N (tS N n g.f)) 5 (0,0)⟩::(g.bl++R)) w1:=by
 have hr:=aju h0 h1 (f:=64) (ak:=[.raw (.slice (aa ⟨b,o,ag⟩) n c)]) (g:=g) (K:=MI N n g) cT S;have e0:(aJ [] [V.raw (.slice (aa ⟨b,o,ag⟩) n c)]).toArray=#[.slice (aa ⟨b,o,ag⟩) n c]:=rfl;rw[e0]at hr;clear cT;refine hr.mono ?_;rintro v w' ⟨y,aq,b9,ce,rfl,hl,S',rfl,rfl,rfl⟩
 match aq,hl with
 |[b'],_=>
  refine⟨b',rfl,?_⟩;have e:lits [b'] [b'] [⟨af,⟨5,(0,0)⟩,[.arr .u8 N (tS N n g.f)]⟩]=[⟨b',af,.cells (aH .u8 N (tS N n g.f)) 5 (0,0)⟩]:=by
   simp only[lits,aI,EP]
  rw[e]at S';exact S'
def ajw(ae:List Nat){N:Nat}(hN:N=64\/N=128)(F:Nat->Int):(ao ae (SB N F)).toArray=aH .u8 N F:=by
 rcases hN with rfl|rfl
 ·exact EP ae 64 F
 ·have e:bg 128=bg 64++(bg 64).map (64+·):=dC;unfold SB aH;rw[e,uw,lN];simp only[ao,cl,cy];rfl
def ajx{N:Nat}(hN:N=64\/N=128)(gl:Nat->Option Nat):Sound prog gl 64 (Ct N):=by
 intro ak ae bl ch R ms w0 w K hg hl S hc;unfold Ct at hc;split at hc
 ·rename_i b o n c g;cases hq:bY bl.length bl with
  |false=>rw[hq]at hc;exact hc.elim
  |true=>
   rw[hq]at hc;obtain⟨⟨hgg,he,hn⟩,hK⟩:=hc;have cT:∃(h0:1<=N)(h1:N<=1000),8<=N/\tR (HT N h0 h1 64 [.raw (.slice (aa ⟨b,o,ag⟩) n c)] g (MI N n g)):=by
    rcases hN with rfl|rfl
    ·exact⟨oM,oM,oM,⟨by rw[ajm];exact abn oM oM hgg he hn⟩⟩
    ·exact⟨oM,oM,oM,⟨by rw[ajn];exact abn oM oM hgg he hn⟩⟩
   obtain⟨h0,h1,h8,cT⟩:=cT;have S1:St ms w0 (g.bl++(lits ae ae bl++R)) w:=S.perm (rG _ _ _);refine(ajv h0 h8 h1 g cT S1).mono ?_;rintro v w' ⟨b',rfl,S2⟩;refine⟨_,[b'],_,_,?_,by simp[hl],?_,hK⟩
   ·simp only[den];rw[<-hl,lY]
   ·rw[fw _ _ _ _ hl,fy _ _ (by rw[hl];exact hq)];simp only[lits,aI,ajw _ hN];refine S2.perm ?_;show lO ([_]++(g.bl++(lits ae ae bl++R))) ((lits ae ae bl++[_])++(g.bl++R));refine(j8 _ (rG _ _ _)).trans ?_;rw[<-bZ];exact BA _ List.perm_append_comm
 ·exact hc.elim
def ajy:Cs.Ok prog pV:=by
 intro ak bl p_ v_ h hp ae w hg hm;unfold Cs at h;dsimp only at h;split at h
 ·rename_i a b c d e f g h' F t R b9;simp only[a_,bI]at h;obtain⟨rfl,rfl⟩:=h;subst hp;have h1:=hm.2 0 _ rfl;rw[(hg 0 0 rfl).2]at h1;have e1:(ao ae [.arr .u32 64 c9]).toArray=aH .u32 64 c9:=by simp[ao,cl,aH]
  rw[e1]at h1;exact ajk t (l8 a b c d e f g h') F h1
 ·cases h
def abo{N n:Nat}(hN:N=64\/N=128){b o c t:Nat}{f H:Nat->Int}{w:an}(hG:w.heap[0]?=aa (.cells (aH .u32 64 c9) t (0,0)))(hB:cJ w b o n f)(he:rY n=(N:Int))(hn:n<N)
 (cT:∀g:iP,(g.b=b/\g.o=o/\g.n=n)->g.f=f->bz (bU prog pV (⟨64,ah,Ct N⟩::qL iP [Cs])) 60 44 [.raw (.slice (aa ⟨b,o,ag⟩) n c)] [rX t] [g] (bG 1 λv _ _=>v=.agg (MH H))):
 ba prog 44 #[.slice (aa ⟨b,o,ag⟩) n c] w λv w1=>v=.agg (aH .u8 32 (Ax H))/\Ch [] w w1:=by
 obtain⟨g,hg,hf,ps,rU,hh⟩:=ajt hB;have eg:aK prog pV (⟨64,ah,Ct N⟩::qL iP [Cs]):=aK.cons ⟨ajx hN pV,λe=>by cases e⟩ (kG (bW.cons ajy bW.nil));have S0:St [] w (lits [0] [0] [rX t]++ax [g] []) w:=by
  have:=St.given (w:=w) ((0,.cells (ao [0] [.arr .u32 64 c9]).toArray t (0,0))::ps) (by
   intro p hp;rcases cG.1 hp with rfl|hp
   ·have e:(ao [0] [.arr .u32 64 c9]).toArray=aH .u32 64 c9:=by simp[ao,cl,aH]
    rw[e];exact hG
   ·exact hh p hp)
  show St [] w ([_]++(g.bl++[])) w;rw[rU,cy];exact this
 refine(eO eg.T eg.Q 60 (C:=bU prog pV (⟨64,ah,Ct N⟩::qL iP [Cs])) (ae:=[0]) (bl:=[rX t]) (ch:=[g]) (R:=[]) (λg i h=>by
  have h:pV g=aa i:=h;unfold pV at h;cases hb:aC g 0 with
  |false=>rw[hb]at h;cases h
  |true=>rw[hb]at h;cases h;exact⟨sP,by simp[gh,cw hb]⟩) rfl S0 (cT g hg hf)).mono ?_
 rintro v w' ⟨y,aq,b9,ce,rfl,h1,S',hK⟩;obtain⟨v2,cj,ci,e,_,_,rfl⟩:=ig (n0:=1) h1 sP S' hK;exact⟨e.trans (ajq H _),S'.ch⟩
def SD(b o n c:Nat)(f:Nat->Int)(hn:n<=119){tG:aP}(w:an)(hG:w.heap[0]?=aa (.cells (aH .u32 64 c9) tG (0,0)))(hB:cJ w b o n f):ba prog 44 #[.slice (aa ⟨b,o,ag⟩) n c] w λv w1=>v=.agg (aH .u8 32 (k8 n f))/\Ch [] w w1:=by
 unfold k8;by_cases h:n<=55
 ·rw[w8 h];exact abo (.inl rfl) hG hB (abl h) oM λg hg hf=>by rw[ajr,hf];exact⟨⟨hg,abl h,oM⟩,rfl,rfl⟩
 ·have hb:ck n 55=ah:=by
   cases e:ck n 55 with
   |false=>rfl
   |true=>exact absurd (eU e) h
  rw[hb];exact abo (.inr rfl) hG hB (abm oM hn) oM λg hg hf=>by rw[ajs,hf];exact⟨⟨hg,abm oM hn,oM⟩,rfl,rfl,rfl⟩
end
end Go.Proofs.YtddcipamdggcnaaGreatDoor
