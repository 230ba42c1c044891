/- Part 1 of the proof. -/
import Derived.TacticsIn
import Derived.OrdersIn
import Derived.RangeFuncRecord
import Derived.Test.YtddcipamdggcnaaGreatDoorProg
import Derived.Test.YtddcipamdggcnaaGreatDoorM0
set_option linter.all false
set_option maxRecDepth 100000
set_option maxHeartbeats 4000000
noncomputable section
open Go.Proofs.Tryz
open Go.IntKind (u8 u16 u32 u64 i64)
open Array renaming getElem?_replicate->Ba,getD->DC,toList_append->Gt,getElem?_eq_none->Kq,all_eq_true_iff_forall_mem->Kv,getElem?_eq_getElem->Kw,toList_setIfInBounds->Kx,toList_map->YB,ext'->fD,getD_eq_getD_getElem?->jG,getElem?_setIfInBounds->su,length_toList->wF,replicate->zm
open Bool renaming or_eq_true->Dz,true->af,false->ag,and_eq_true->bD,not_eq_true'->n7
open Go renaming ResultVar->Ks,Program->aG,Addr->aI,TypeId->aM,Value->ai,World->aj,Oper->aw,Operand->bg,Exit->dE,run_underlying->dw,Code->eH,IntKind->fH,FuncId->fl,heap_alloc_new->n6,sizeOf->pN,MapEntry->wH
open Go.Addr renaming add_lit->iK,add->qJ
open Go.Builtin renaming append_->nh,zeroCells->qM
open Go.Deferred renaming ofValue->agf
open Go.Exit renaming inBlock->Kr
open Go.Fence renaming wide->PR
open Go.Instr renaming storeAt->Gq,makeSlice->KE,findNow->PN,buildSlice->YC,mapUpdate->agi,sureAddr->iY,sliceBound->oP,loadAt->pO,sliceAt->qO,sliceBounds->qP,indexAt->tT,slice->zx
open Go.IntKind renaming bits->vj,signed->vm,wrap->zo
open Go.Oper renaming uponIn_value->KC,looksAt->KD,uponIn_skip->agh
open Go.Place renaming get->agd
open Go.Region renaming wanted->gk,ready->sD,binds->sw
open Go.Result renaming andThen_ok->ct,andThen->je
open Go.Sem renaming run_bind->bz,run_pure->cZ
open Go.Src renaming ofSlice->qN
open Go.Value renaming bool->DD,int->fI
open Go.World renaming cell?->zl
open Int renaming ofNat->dG,fdiv->kP,toNat_natCast->vn
open List renaming any_eq_true->A9,flatMap_append->Bi,getElem?_drop->Gu,getElem?_set_ne->Ko,getElem?_take->PQ,length_singleton->YD,getElem?_take_of_lt->YH,count_replicate_self->Yu,append_assoc->bW,range->bo,mem_cons->cF,append_nil->cT,mem_append->eI,length_append->fL,nil_append->fQ,cons_append->fm,all_eq_true->gQ,map_cons->gb,getD->gd,getElem?_append_left->gm,take_append_drop->jH,getElem?_map->jW,getElem?_toArray->jX,getElem?_eq_getElem->jY,mem_singleton->jZ,length_cons->jf,getElem?_eq_none->ju,perm_middle->kH,map_map->l5,Perm->mE,mem_map->n8,replicate->n_,map_congr_left->ni,getElem?_range->pQ,mem_append_left->pS,mem_cons_of_mem->qQ,perm_append_comm_assoc->qR,mem_of_getElem?->sE,nodup_cons->tS,map_append->tX,range_succ_eq_map->tZ,mem_cons_self->vi,singleton_append->wJ,length_take->zr,ext_getElem?->zv
open List.Perm renaming swap->Bb,append_right->Bc,append_left->j4,trans->wK,refl->zq
open List.Sublist renaming append_right->YF,append_left->mD,cons_cons->wL
open Nat renaming mul_le_mul_right->PL,le_of_not_lt->YE,beq->aA,ble->bZ,lt_or_ge->c9,le_refl->cY,eq_of_beq_eq_true->ck,zero_add->dS,blt->db,le_of_ble_eq_true->eO,le_trans->ia,blt_eq->jt,add_zero->lA,add_mul->n9,eq_zero_or_pos->tU,beq_refl->tW,add_assoc->tY,ble_eq_true_of_le->wG
open Option renaming getD_some->Yt,some->aa,none->ae,map_eq_some_iff->iX,map_some->oO
open Option.some renaming injEq->aW,inj->cG
open Prod.mk renaming injEq->bC
namespace Vx
open Go Go.RowKit Go.BigFrame Sx
section
variable{ids:List Nat} {P:aG} {w w0:aj} {ms:List Nat} {e:bg->V} {ρ:bg->ai} {bl:List VB} {R:List ao}
def lG (b:Nat):(ids++[b]).getD ids.length 0=b:=by simp[gd]
def ZJ {t el:aM} {len z:Nat} {zc c:List V} {ps:List (Nat×V)} (hu:P.underlying t=aa (.slice el)) (hz:eo P el=aa (z+1)) (h0:me P el=aa zc) (hl:cD zc=z+1) (hb:len*(z+1)<=2^24)
 (hf:zQ (λi=>aa (i*(z+1),z+1)) (mf zc len) ps=aa c):(YC t len (ps.map λp=>(p.1,den ids p.2)).toArray).run P w=.ok (.slice (aa ⟨w.heap.size,0,ae⟩) len len) (w.alloc (.cells (ak ids c).toArray el)):=by
 have BN:=QP (ids:=ids) (place:=λi=>aa (i*(z+1),z+1)) (λi x hx=>hx) ps _ c hf;obtain⟨v0,z1,z2⟩:=BK (P:=P) (w:=w) (ids:=ids) h0;have w8:¬(len*(z+1)>2^24):=oM;have hv:v0.cells.size=z+1:=by rw[<-wF,z2,lF,hl]
 have G3:(Array.range (len*(z+1))).map (λi=>v0.cells[i%v0.cells.size]!)=(ak ids (mf zc len)).toArray:=by
  apply fD;rw[Q_ v0.cells z hv,z2,ZI]
 by_cases nv:len*(z+1)=0
 ·have xf:len=0:=by rcases Nat.mul_eq_zero.1 nv with h|h;exact h;omega
  subst xf;simp only[YC,bz,dw hu,ct,gi hz,if_neg w8];simp only[mf,ak]at BN;simp only[Nat.zero_mul,if_true,bz,cZ,ct,List.toList_toArray,show Array.range 0=#[]from rfl,Array.map_empty];rw[BN];rfl
 ·simp only[YC,bz,dw hu,ct,gi hz,if_neg w8,if_neg nv,z1,cZ,List.toList_toArray];rw[G3,BN];rfl
def ahi (bd:∀x,ρ x=den ids (e x)) (o:aw) {v:V} {b:VB} (h:D9 P e ids.length o.op=aa (v,b)):
 (execOp ρ o).run P w=.ok (.value (den (ids++[w.heap.size]) v)) (w.alloc (.cells (ak ids b.c).toArray b.ty.t))/\b.wr=af/\b.ty.fz=(0,0):=by
 unfold execOp;unfold D9 at h;split at h
 ·rename_i t ho;split at h
  ·rename_i z hz;simp only[aW,bC]at h;obtain⟨rfl,rfl⟩:=h;obtain⟨v0,z1,z2⟩:=BK (P:=P) (w:=w) (ids:=ids) hz;have BM:v0.cells=(ak ids z).toArray:=by apply fD;simpa using z2
   refine⟨?_,rfl,rfl⟩;simp only[ho,Instr.alloc,bz,z1,ct,newVar,newRow,BM,den,lG];rfl
  ·cases h
 ·rename_i t x ho;cases hq:rk (e x)with
  |false=>rw[hq]at h;simp at h
  |true=>
   rw[hq]at h;simp only[cond_true,aW,bC]at h;obtain⟨rfl,rfl⟩:=h;have hc:(ρ x).cells=(ak ids (ky (e x))).toArray:=by apply fD;rw[bd,QI hq]
   refine⟨?_,rfl,rfl⟩;simp only[ho,Instr.box,bz,newVar,newRow,hc,den,lG];rfl
 ·rename_i t len ps ho;split at h
  ·rename_i el hu;split at h
   ·rename_i z zc hz Ra;cases hq:aA (cD zc) (z+1)&&(bZ (len*(z+1)) (2^24)&&!(aA len 0&&(aA z 5||(aA z 9||(aA z 13||aA z 45)))))with
    |false=>rw[hq]at h;simp at h
    |true=>
     rw[hq]at h;simp only[cond_true]at h;simp only[bD]at hq;split at h
     ·rename_i c hc;simp only[aW,bC]at h;obtain⟨rfl,rfl⟩:=h;have:=ZJ (ids:=ids) (w:=w) hu hz Ra (ck hq.1) (eO hq.2.1) hc;refine⟨?_,rfl,rfl⟩;simp only[ho];rw[bz,show(ps.map λ(x:Nat×bg)=>match x with|(i,x)=>(i,ρ x))=(ps.map λ(p:Nat×bg)=>(p.1,ρ p.2))from rfl,ZE ps bd,this];simp[den,lG]
     ·cases h
   ·cases h
  ·cases h
 ·cases h
def grow (hl:ids.length=bl.length) (S:St ms w0 (lits ids ids bl++R) w) (b:VB) (hw:b.wr=af) (hf:b.ty.fz=(0,0)) (h1:bY ids.length bl=af) (h2:bu ids.length b.c=af):
 St ms w0 (lits (ids++[w.heap.size]) (ids++[w.heap.size]) (bl++[b])++R) (w.alloc (.cells (ak ids b.c).toArray b.ty.t))/\(ids++[w.heap.size]).length=(bl++[b]).length:=by
 refine⟨?_,by simp[hl]⟩;have h:=S.new (Ch.alloc [] w (.cells (ak ids b.c).toArray b.ty.t)) (cY _) (n6 w _);have e:aC (ids++[w.heap.size]) w.heap.size b=⟨w.heap.size,af,.cells (ak ids b.c).toArray b.ty.t (0,0)⟩:=by
  simp only[aC,jl _ h2,hw,hf]
 rw[fu _ _ _ _ hl,fw _ _ h1];simp only[lits,e];refine h.perm ?_;rw[bW];exact kH.symm
end
def xg:List V->Option (fH×Nat×(Nat->Int))
 |.arr k n f::_=>aa (k,n,f)
 |_=>ae
def Lm (f:Nat->Int) (i:Nat) (v:Int):Nat->Int:=λj=>bif aA j i then v else f j
def Ln (i:Nat) (v:Int):List V->List V
 |.arr k n f::r=>.arr k n (Lm f i v)::r
 |l=>l
def G4:List V->Option (List Bool)
 |[]=>aa []
 |.bool b::l=>(match G4 l with|some r=>aa (b::r)|none=>ae)
 |_=>ae
def ZK (P:aG) (t:aM):Bool:=match P.underlying t with|some .bool=>af|_=>ag
def ZL (l:List Bool) (j:Nat):Bool:=l.getD j ag
def BO (P:aG) (bl:List VB) (t:aM) (x:V):Option (Prop×V):=match x with
 |.pe i o j z k=>(match bl[i]?with
  |some b=>(match b.c with
   |.iD z' n g::_=>(match o with
    |0=>bif aA z z' then(match uo P t ((g j).map BI) k with|some v=>aa ((j<n/\∀j,(g j).length=z),v)|none=>ae)else ae
    |_=>ae)
   |.rest pre::.iD z' n g::_=>bif aA z z' then(match uo P t ((g j).map BI) k with|some v=>aa ((o=pre.length/\j<n/\∀j,(g j).length=z),v)|none=>ae)else ae
   |.rest []::.arr kd n f::_=>(match z,k,pZ P t with
    |1,0,aa ag=>aa (o+j<n,.int kd (f (o+j)))
    |_,_,_=>ae)
   |c=>(match xg c,z,k,pZ P t with
    |some (kd,n,f),1,0,aa ag=>aa (o+j<n,.int kd (f (o+j)))
    |none,1,0,aa ag=>(match zN c o 5 with|some l=>(match G4 l with|some r=>aa (j<5,.bool (ZL r j))|none=>ae)|none=>ae)
    |_,_,_,_=>ae))
  |none=>ae)
 |_=>ae
def BP (P:aG) (bl:List VB) (t:aM) (x v:V):Prop:=vD P bl t x=aa v\/∃p,BO P bl t x=aa (p,v)/\p
def BQ (P:aG) (e:bg->V) (bl:List VB):Op->Option (Prop×V)
 |.indexAddr t x ix=>(match e x with
  |.sl i o n _=>(match bl[i]?with
   |some b=>(match b.c with
    |.iD z' _ _::_=>(match o with
     |0=>(match P.underlying t,e ix with
      |some (.slice el),.int _ m=>(match eo P el with
       |some z=>bif aA z z' then aa ((0<=m/\m<(n:Int)),.pe i 0 m.toNat z 0)else ae
       |none=>ae)
      |_,_=>ae)
     |_=>ae)
    |.rest pre::.iD z' _ _::_=>(match P.underlying t,e ix with
     |some (.slice el),.int _ m=>(match eo P el with
      |some z=>bif aA z z' then aa ((0<=m/\m<(n:Int)),.pe i o m.toNat z 0)else ae
      |none=>ae)
     |_,_=>ae)
    |.rest []::.arr _ _ _::_=>(match P.underlying t,e ix with
     |some (.slice el),.int _ m=>(match eo P el with
      |some 1=>aa ((0<=m/\m<(n:Int)),.pe i o m.toNat 1 0)
      |_=>ae)
     |_,_=>ae)
    |c=>(match xg c,P.underlying t,e ix with
     |some _,aa (.slice el),.int _ m=>(match eo P el with
      |some 1=>aa ((0<=m/\m<(n:Int)),.pe i o m.toNat 1 0)
      |_=>ae)
     |_,_,_=>ae))
   |none=>ae)
  |.ptr i o=>(match bl[i]?with
   |some b=>(match xg b.c,P.underlying t,e ix with
    |some _,aa (.array n el),.int _ m=>(match eo P el with
     |some 1=>aa ((0<=m/\m<(n:Int)),.pe i o m.toNat 1 0)
     |_=>ae)
    |none,aa (.array n el),.int _ m=>bif aA n 5&&ZK P el then(match eo P el with
     |some 1=>aa ((0<=m/\m<(n:Int)),.pe i o m.toNat 1 0)
     |_=>ae)else ae
    |_,_,_=>ae)
   |none=>ae)
  |.eW i o n _ _=>(match bl[i]?with
   |some b=>(match b.c with
    |.iD z' _ _::_=>(match o with
     |0=>(match P.underlying t,e ix with
      |some (.slice el),.int _ m=>(match eo P el with
       |some z=>bif aA z z' then aa ((0<=m/\m<(n:Int)),.pe i 0 m.toNat z 0)else ae
       |none=>ae)
      |_,_=>ae)
     |_=>ae)
    |.rest pre::.iD z' _ _::_=>(match P.underlying t,e ix with
     |some (.slice el),.int _ m=>(match eo P el with
      |some z=>bif aA z z' then aa ((0<=m/\m<(n:Int)),.pe i o m.toNat z 0)else ae
      |none=>ae)
     |_,_=>ae)
    |_=>ae)
   |none=>ae)
  |_=>ae)
 |.slice t x ae (aa hi) ae=>(match e x with
  |.sl i o n c=>(match bl[i]?with
   |some b=>(match b.c with
    |.iD z' _ _::_=>(match o with
     |0=>(match P.underlying t,e hi with
      |some (.slice el),.int _ m=>(match eo P el with
       |some z=>aa ((0<=m/\m<=(c:Int)),.sl i 0 m.toNat c)
       |none=>ae)
      |_,_=>ae)
     |_=>ae)
    |.rest pre::.iD z' _ _::_=>(match P.underlying t,e hi with
     |some (.slice el),.int _ m=>(match eo P el with
      |some z=>aa ((0<=m/\m<=(c:Int)),.sl i o m.toNat c)
      |none=>ae)
     |_,_=>ae)
    |.rest []::.arr _ _ _::_=>(match P.underlying t,e hi with
     |some (.slice el),.int _ m=>(match eo P el with
      |some z=>aa ((0<=m/\m<=(c:Int)),.sl i o m.toNat c)
      |none=>ae)
     |_,_=>ae)
    |_=>ae)
   |none=>ae)
  |.raw (.slice a n c)=>(match P.underlying t,e hi with
   |some (.slice el),.int _ m=>(match eo P el with
    |some z=>aa ((0<=m/\m<=(c:Int)),.raw (.slice a m.toNat c))
    |none=>ae)
   |_,_=>ae)
  |_=>ae)
 |.index t x ix=>(match P.underlying t,e x,e ix with
  |some (.array n el),.agg l,.int _ m=>(match xg l,eo P el,pZ P el with
   |some (kd,N,f),aa 1,aa ag=>aa (((0<=m/\m<(n:Int))/\m.toNat<N),.int kd (f m.toNat))
   |_,_,_=>ae)
  |_,_,_=>ae)
 |.slice t x (aa lo) ae ae=>(match e x with
  |.sl i o n c=>(match bl[i]?with
   |some b=>(match b.c with
    |.rest []::.arr _ _ _::_=>(match P.underlying t,e lo with
     |some (.slice el),.int _ m=>(match eo P el with
      |some 1=>aa ((0<=m/\m<=(n:Int)),.sl i (bif aA c m.toNat then o else o+m.toNat) (n-m.toNat) (c-m.toNat))
      |_=>ae)
     |_,_=>ae)
    |_=>ae)
   |none=>ae)
  |ex=>(match ex,P.underlying t,e lo with
   |.raw (.slice (aa ⟨b,q,ae⟩) n c),aa (.slice el),.int _ (.ofNat k)=>(match eo P el with
    |some 1=>aa ((k<n/\n<=c),.raw (.slice (aa ⟨b,q+k,ae⟩) (n-k) (c-k)))
    |_=>ae)
   |_,_,_=>ae))
 |.slice t x (aa lo) (aa hi) ae=>(match e x with
  |.sl i o n c=>(match bl[i]?with
   |some b=>(match b.c with
    |.rest []::.arr _ _ _::_=>(match P.underlying t,e lo,e hi with
     |some (.slice el),.int _ m,.int _ h=>(match eo P el with
      |some 1=>aa ((0<=m/\m<=h/\h<=(c:Int)),.sl i (bif aA c m.toNat then o else o+m.toNat) (h.toNat-m.toNat) (c-m.toNat))
      |_=>ae)
     |_,_,_=>ae)
    |_=>ae)
   |none=>ae)
  |_=>ae)
 |_=>ae
def Rb (P:aG) (bl:List VB) (t:aM) (x y:V):Option (Prop×List VB):=match x,y with
 |.pe i o j 1 0,.int ZM v=>(match bl[i]?with
  |some ⟨af,⟨ty,(0,0)⟩,c⟩=>(match xg c,pZ P t,eo P t with
   |some (kd,n,f),aa ag,aa 1=>(match decEq kd ZM with
    |isTrue _=>aa (o+j<n,bl.set i ⟨af,⟨ty,(0,0)⟩,Ln (o+j) v c⟩)
    |isFalse _=>ae)
   |_,_,_=>ae)
  |_=>ae)
 |.pe i o j 1 0,.bool b=>(match Lk P bl t (.ptr i (o+j)) (.bool b)with|some bl'=>aa (True,bl')|none=>ae)
 |_,_=>ae
section
variable{ids:List Nat} {P:aG} {w w0:aj} {ms:List Nat} {e:bg->V} {ρ:bg->ai} {bl:List VB} {R:List ao}
def ahj {k:fH} {n q:Nat} {f:Nat->Int} {v:Int} {r:List ai} (h:q<n):((((bo n).map λj=>fI k (f j))++r).take q++[.int k v])++(((bo n).map λj=>fI k (f j))++r).drop (q+1)=((bo n).map λj=>fI k (Lm f q v j))++r:=by
 have e:=List.set_eq_take_append_cons_drop (l:=((bo n).map λj=>fI k (f j))++r) (i:=q) (a:=.int k v);rw[if_pos (by simp;omega)]at e;rw[bW,wJ,<-e,List.set_append_left _ _ (by simpa using h)];congr 1;apply zv;intro i;rw[List.getElem?_set];by_cases hi:q=i
 ·subst hi;simp[h,Lm]
 ·rw[if_neg hi];simp only[jW];cases hr:(bo n)[i]?with
  |none=>rfl
  |some y=>
   obtain rfl:y=i:=by
    rcases c9 i n with h1|h1
    ·rw[pQ h1]at hr;exact(cG hr).symm
    ·rw[ju (by simpa using h1)]at hr;cases hr
   have hb:aA y q=ag:=by
    cases hb:aA y q with
    |false=>rfl
    |true=>exact absurd (ck hb).symm hi
   simp only[oO,Lm,hb,cond_false]
def ZN {l:List V} {k:fH} {n:Nat} {f:Nat->Int} (h:xg l=aa (k,n,f)) (ids:List Nat):ak ids l=((bo n).map λj=>fI k (f j))++ak ids (l.drop 1):=by
 unfold xg at h;split at h
 ·simp only[aW,bC]at h;obtain⟨rfl,rfl,rfl⟩:=h;simp only[ak,cl,List.drop_succ_cons,List.drop_zero]
 ·cases h
def Rc:∀{l:List V} {r:List Bool},G4 l=aa r->∀ids,ak ids l=r.map DD
 |[],r,h,ids=>by simp only[G4,aW]at h;subst h;rfl
 |v::l,r,h,ids=>by
  unfold G4 at h;split at h
  ·rename_i e;cases e
  ·rename_i b l' e;cases e;split at h
   ·rename_i r' hr;simp only[aW]at h;subst h;simp only[ak,cl,den,Rc hr ids,gb,fm,fQ]
   ·cases h
  ·cases h
def ahk {bl ex:List VB} {i:Nat} {b:VB} (h:bl[i]?=aa b):(bl++ex)[i]?=aa b:=by
 have hi:i<bl.length:=by rcases c9 i bl.length with h'|h';exact h';simp[h']at h
 rw[gm hi,h]
def ahl {t:aM} {x:V} {p:Prop} {v:V} {ex:List VB} (h:BO P bl t x=aa (p,v)):BO P (bl++ex) t x=aa (p,v):=by
 unfold BO at h⊢;split at h
 ·split at h
  ·rename_i hb;rw[ahk hb];exact h
  ·cases h
 ·cases h
def ahm {z:Nat} (g:Nat->List ai) (hz:∀j,(g j).length=z):∀(n j:Nat),j<n->(((bo n).flatMap g).drop (j*z)).take z=g j:=by
 intro n;induction n with
 |zero=>intro j h;omega
 |succ n ih=>
  intro j h;have hl:((bo n).flatMap g).length=n*z:=by
   clear ih h;induction n with
   |zero=>simp
   |succ n ih=>rw[List.range_succ,Bi,fL,ih];simp[hz,n9]
  rw[List.range_succ,Bi];rcases c9 j n with h1|h1
  ·have h2:j*z+z<=n*z:=by rw[<-Nat.succ_mul];exact PL z h1
   rw[List.drop_append_of_le_length oM,List.take_append_of_le_length (by rw[List.length_drop];omega)];exact ih j h1
  ·obtain rfl:j=n:=oM;rw[List.drop_append,List.drop_eq_nil_of_le oM,hl,Nat.sub_self];simp only[fQ,List.flatMap_cons,List.flatMap_nil,cT,List.drop_zero];exact List.take_of_length_le (Nat.le_of_eq (hz j))
def ZO {z n j k m:Nat} {g:Nat->List ai} {r:List ai} (hz:∀j,(g j).length=z) (hj:j<n) (hk:k+m<=z):((((bo n).flatMap g)++r).drop (j*z+k)).take m=((g j).drop k).take m:=by
 have h1:=ahm g hz n j hj;have hl:((bo n).flatMap g).length=n*z:=by
  clear h1 hj;induction n with
  |zero=>simp
  |succ n ih=>rw[List.range_succ,Bi,fL,ih];simp[hz,n9]
 have h2:j*z+z<=n*z:=by rw[<-Nat.succ_mul];exact PL z hj
 rw[<-h1];apply zv;intro i;simp only[PQ,Gu];split
 ·rename_i hi;rw[if_pos oM,gm oM,tY]
 ·rfl
def ZP {α:Type} (pre l:List α) (i:Nat):(pre++l).drop (pre.length+i)=l.drop i:=by
 rw[List.drop_append,List.drop_eq_nil_of_le oM];simp
def ZQ (hl:ids.length=bl.length) (S:St ms w0 (lits ids ids bl++R) w) {t:aM} {u:V} {i o j z k n:Nat} {g:Nat->List ai} {pre r:List ai} {b:VB} (hb:bl[i]?=aa b) (hD:ak ids b.c=pre++(((bo n).flatMap g)++r)) (ho:o=pre.length) (hu:uo P t ((g j).map BI) k=aa u) (hj:j<n) (hz:∀j,(g j).length=z):
 (pO t (den ids (.pe i o j z k))).run P w=.ok (den ids u) w:=by
 subst ho;have aS:=(gx hl S hb).2;rw[hD]at aS;have hg:ak ids ((g j).map BI)=g j:=Lf (g j);unfold uo at hu;simp only[pO,den,iY,bz,cZ,ct];split at hu
 ·rename_i m ha hn;split at hu
  ·rename_i c vE;simp only[aW]at hu;subst hu;obtain⟨g1,g2,g3⟩:=zP (ids:=ids) vE;rw[hg]at g1 g3;rw[hz]at g3;refine Bp (n:=m) aS ?_ ?_ ?_ ?_
   ·unfold pZ at ha;split at ha
    ·rename_i d hd;rw[hd];simpa using ha
    ·cases ha
   ·unfold eo at hn;split at hn
    ·rename_i d hd;rw[hd];simpa using hn
    ·cases hn
   ·apply fD;have:=ZO (r:=r) (n:=n) hz hj g3;simp only[Array.toList_extract,List.extract];rw[show pre.length+(j*z+k)+m-(pre.length+(j*z+k))=m by omega,ZP,this,g1]
   ·simpa using g2
  ·cases hu
 ·rename_i ha;have h1:=QE (ids:=ids) hu;rw[hg]at h1;have hkz:k<z:=by
   rcases c9 k z with h|h
   ·exact h
   ·rw[ju (by rw[hz];exact h)]at h1;cases h1
  have h2:=ZO (r:=r) (n:=n) (j:=j) (k:=k) (m:=1) hz hj oM;have h3:(pre++((List.flatMap g (bo n))++r))[pre.length+(j*z+k)]?=(g j)[k]?:=by
   rw[<-ZP pre]at h2;have:=congrArg (λl=>l[0]?) h2;simp only[PQ,Gu,lA]at this;simpa using this
  refine Bo aS ?_ (by rw[jX,h3,h1]);unfold pZ at ha;split at ha
  ·rename_i d hd;rw[hd];simpa using ha
  ·cases ha
 ·cases hu
def ZR (hl:ids.length=bl.length) (S:St ms w0 (lits ids ids bl++R) w) {t:aM} {x v:V} {p:Prop} (h:BO P bl t x=aa (p,v)) (hp:p):(pO t (den ids x)).run P w=.ok (den ids v) w:=by
 unfold BO at h;split at h
 ·rename_i i o j z k;split at h
  ·rename_i b hb;split at h
   ·rename_i z' n g r hc;split at h
    ·cases hq:aA z z' with
     |false=>rw[hq]at h;simp at h
     |true=>
      rw[hq]at h;simp only[cond_true]at h;split at h
      ·rename_i u hu;simp only[aW,bC]at h;obtain⟨rfl,rfl⟩:=h;exact ZQ hl S (pre:=[]) hb (by rw[hc];simp only[ak,cl,fQ];rfl) rfl hu hp.1 hp.2
      ·cases h
    ·cases h
   ·rename_i pre z' n g r hc;cases hq:aA z z' with
    |false=>rw[hq]at h;simp at h
    |true=>
     rw[hq]at h;simp only[cond_true]at h;split at h
     ·rename_i u hu;simp only[aW,bC]at h;obtain⟨rfl,rfl⟩:=h;exact ZQ hl S (pre:=pre) hb (by rw[hc];simp only[ak,cl];rfl) hp.1 hu hp.2.1 hp.2.2
     ·cases h
   ·rename_i kd n f r hc;split at h
    ·rename_i lH;simp only[aW,bC]at h;obtain⟨rfl,rfl⟩:=h;have aS:=(gx hl S hb).2;simp only[pO,den,iY,bz,cZ,ct];refine Bo aS ?_ ?_
     ·unfold pZ at lH;split at lH
      ·rename_i d hd;rw[hd];simpa using lH
      ·cases lH
     ·rw[hc];simp only[ak,cl,fQ];rw[jX,show o+(j*1+0)=o+j by omega,gm (by simpa using hp)];simp[pQ hp]
    ·cases h
   ·split at h
    ·rename_i kd n f hA lH;simp only[aW,bC]at h;obtain⟨rfl,rfl⟩:=h;have aS:=(gx hl S hb).2;simp only[pO,den,iY,bz,cZ,ct];refine Bo aS ?_ ?_
     ·unfold pZ at lH;split at lH
      ·rename_i d hd;rw[hd];simpa using lH
      ·cases lH
     ·rw[jX,ZN hA ids,show o+(j*1+0)=o+j by omega,gm (by simpa using hp)];simp[pQ hp]
    ·rename_i hA lH;split at h
     ·rename_i l hg;split at h
      ·rename_i r hr;simp only[aW,bC]at h;obtain⟨rfl,rfl⟩:=h;have aS:=(gx hl S hb).2;obtain⟨g1,g2,g3⟩:=zP (ids:=ids) hg;rw[Rc hr]at g1;have ZS:r.length=5:=by have:=g2;rw[Rc hr]at this;simpa using this
       simp only[pO,den,iY,bz,cZ,ct];refine Bo aS ?_ ?_
       ·unfold pZ at lH;split at lH
        ·rename_i d hd;rw[hd];simpa using lH
        ·cases lH
       ·have h1:=congrArg (λl=>l[j]?) g1;simp only[PQ,Gu,if_pos hp,jW]at h1;rw[jX,show o+(j*1+0)=o+j by omega,h1,jY oM];simp[ZL,gd,jY (show j<r.length by omega)]
      ·cases h
     ·cases h
    ·cases h
  ·cases h
 ·cases h
def BP.run (hl:ids.length=bl.length) (S:St ms w0 (lits ids ids bl++R) w) {t:aM} {x v:V} (h:BP P bl t x v):(pO t (den ids x)).run P w=.ok (den ids v) w:=by
 rcases h with h|⟨p,h,hp⟩
 ·exact Ll (P:=P) hl S h
 ·exact ZR hl S h hp
def ZT (ids:List Nat) (i off c l:Nat):(if c=l then(⟨ids.getD i 0,off,ae⟩:aI)else qJ ⟨ids.getD i 0,off,ae⟩ (l*1))=⟨ids.getD i 0,bif aA c l then off else off+l,ae⟩:=by
 by_cases hc:c=l
 ·subst hc;simp
 ·have:aA c l=ag:=by
   cases hb:aA c l with
   |true=>exact absurd (ck hb) hc
   |false=>rfl
  rw[if_neg hc,this,iK,Nat.mul_one];rfl
def ZU (bd:∀x,ρ x=den ids (e x)) (o:aw) {p:Prop} {v:V} (h:BQ P e bl o.op=aa (p,v)) (hp:p):(execOp ρ o).run P w=.ok (.value (den ids v)) w:=by
 generalize jm:o.op=op at h;unfold BQ at h;split at h
 ·rename_i t x ix;split at h
  ·rename_i i o n c hx;split at h
   ·rename_i b hb;split at h
    ·rename_i z' n' g r hc;split at h
     ·split at h
      ·rename_i el kk m hu ij;split at h
       ·rename_i z hz;cases hq:aA z z' with
        |false=>rw[hq]at h;simp at h
        |true=>
         rw[hq]at h;simp only[cond_true,aW,bC]at h;obtain⟨rfl,rfl⟩:=h;unfold execOp;simp only[jm,bd,hx,ij,den,tT,asIntOf,iY,bz,cZ,ct,dw hu];rw[if_pos hp];simp[bz,gi hz,sY]
       ·cases h
      ·cases h
     ·cases h
    ·rename_i pre z' n' g r hc;split at h
     ·rename_i el kk m hu ij;split at h
      ·rename_i z hz;cases hq:aA z z' with
       |false=>rw[hq]at h;simp at h
       |true=>
        rw[hq]at h;simp only[cond_true,aW,bC]at h;obtain⟨rfl,rfl⟩:=h;unfold execOp;simp only[jm,bd,hx,ij,den,tT,asIntOf,iY,bz,cZ,ct,dw hu];rw[if_pos hp];simp[bz,gi hz,sY]
      ·cases h
     ·cases h
    ·split at h
     ·rename_i el kk m hu ij;split at h
      ·rename_i hz;simp only[aW,bC]at h;obtain⟨rfl,rfl⟩:=h;unfold execOp;simp only[jm,bd,hx,ij,den,tT,asIntOf,iY,bz,cZ,ct,dw hu];rw[if_pos hp];simp[bz,gi hz,sY]
      ·cases h
     ·cases h
    ·split at h
     ·rename_i el kk m hA hu ij;split at h
      ·rename_i hz;simp only[aW,bC]at h;obtain⟨rfl,rfl⟩:=h;unfold execOp;simp only[jm,bd,hx,ij,den,tT,asIntOf,iY,bz,cZ,ct,dw hu];rw[if_pos hp];simp[bz,gi hz,sY]
      ·cases h
     ·cases h
   ·cases h
  ·rename_i i o hx;split at h
   ·rename_i b hb;split at h
    ·rename_i n el kk m hA hu ij;split at h
     ·rename_i hz;simp only[aW,bC]at h;obtain⟨rfl,rfl⟩:=h;unfold execOp;simp only[jm,bd,hx,ij,den,tT,asIntOf,iY,bz,cZ,ct,dw hu];rw[if_pos hp];simp[bz,gi hz,sY]
     ·cases h
    ·rename_i n el kk m hA hu ij;cases hq:aA n 5&&ZK P el with
     |false=>rw[hq]at h;simp at h
     |true=>
      rw[hq]at h;simp only[cond_true]at h;split at h
      ·rename_i hz;simp only[aW,bC]at h;obtain⟨rfl,rfl⟩:=h;unfold execOp;simp only[jm,bd,hx,ij,den,tT,asIntOf,iY,bz,cZ,ct,dw hu];rw[if_pos hp];simp[bz,gi hz,sY]
      ·cases h
    ·cases h
   ·cases h
  ·rename_i i o n c y hx;split at h
   ·rename_i b hb;split at h
    ·rename_i z' n' g r hc;split at h
     ·split at h
      ·rename_i el kk m hu ij;split at h
       ·rename_i z hz;cases hq:aA z z' with
        |false=>rw[hq]at h;simp at h
        |true=>
         rw[hq]at h;simp only[cond_true,aW,bC]at h;obtain⟨rfl,rfl⟩:=h;have Ea:aA n 0=ag:=by
          cases uu:aA n 0 with
          |false=>rfl
          |true=>exact absurd (ck uu) oM
         unfold execOp;simp only[jm,bd,hx,ij,den,Ea,cond_false,tT,asIntOf,iY,bz,cZ,ct,dw hu];rw[if_pos hp];simp[bz,gi hz,sY]
       ·cases h
      ·cases h
     ·cases h
    ·rename_i pre z' n' g r hc;split at h
     ·rename_i el kk m hu ij;split at h
      ·rename_i z hz;cases hq:aA z z' with
       |false=>rw[hq]at h;simp at h
       |true=>
        rw[hq]at h;simp only[cond_true,aW,bC]at h;obtain⟨rfl,rfl⟩:=h;have Ea:aA n 0=ag:=by
         cases uu:aA n 0 with
         |false=>rfl
         |true=>exact absurd (ck uu) oM
        unfold execOp;simp only[jm,bd,hx,ij,den,Ea,cond_false,tT,asIntOf,iY,bz,cZ,ct,dw hu];rw[if_pos hp];simp[bz,gi hz,sY]
      ·cases h
     ·cases h
    ·cases h
   ·cases h
  ·cases h
 ·rename_i t x hi;split at h
  ·rename_i i o n c hx;split at h
   ·rename_i b hb;split at h
    ·rename_i z' n' g r hc;split at h
     ·split at h
      ·rename_i el kk m hu ij;split at h
       ·rename_i z hz;simp only[aW,bC]at h;obtain⟨rfl,rfl⟩:=h;have hJ:∀code,(oP (.int kk m) c code).run P w=.ok m.toNat w:=by
         intro code;simp only[oP,asIntOf,bz,cZ,ct];rw[if_pos hp];rfl
        have hs:=gi (P:=P) (w:=w) hz;unfold execOp;simp[jm,bd,hx,ij,den,qO,zx,qP,dw hu,hJ,hs,je,qJ]
       ·cases h
      ·cases h
     ·cases h
    ·rename_i pre z' n' g r hc;split at h
     ·rename_i el kk m hu ij;split at h
      ·rename_i z hz;simp only[aW,bC]at h;obtain⟨rfl,rfl⟩:=h;have hJ:∀code,(oP (.int kk m) c code).run P w=.ok m.toNat w:=by
        intro code;simp only[oP,asIntOf,bz,cZ,ct];rw[if_pos hp];rfl
       have hs:=gi (P:=P) (w:=w) hz;unfold execOp;simp[jm,bd,hx,ij,den,qO,zx,qP,dw hu,hJ,hs,je,qJ]
      ·cases h
     ·cases h
    ·split at h
     ·rename_i el kk m hu ij;split at h
      ·rename_i z hz;simp only[aW,bC]at h;obtain⟨rfl,rfl⟩:=h;have hJ:∀code,(oP (.int kk m) c code).run P w=.ok m.toNat w:=by
        intro code;simp only[oP,asIntOf,bz,cZ,ct];rw[if_pos hp];rfl
       have hs:=gi (P:=P) (w:=w) hz;unfold execOp;simp[jm,bd,hx,ij,den,qO,zx,qP,dw hu,hJ,hs,je,qJ]
      ·cases h
     ·cases h
    ·cases h
   ·cases h
  ·rename_i a n c hx;split at h
   ·rename_i el kk m hu ij;split at h
    ·rename_i z hz;simp only[aW,bC]at h;obtain⟨rfl,rfl⟩:=h;have hJ:∀code,(oP (.int kk m) c code).run P w=.ok m.toNat w:=by
      intro code;simp only[oP,asIntOf,bz,cZ,ct];rw[if_pos hp];rfl
     have hs:=gi (P:=P) (w:=w) hz;unfold execOp;cases a<;>simp[jm,bd,hx,ij,den,qO,zx,qP,dw hu,hJ,hs,je,qJ]
    ·cases h
   ·cases h
  ·cases h
 ·rename_i t x ix;split at h
  ·rename_i n el l kk m hu hx ij;split at h
   ·rename_i kd N f hA hz lH;simp only[aW,bC]at h;obtain⟨rfl,rfl⟩:=h;unfold execOp;simp only[jm,bd,hx,ij,den,Instr.index,asIntOf,bz,cZ,ct,dw hu];rw[if_pos hp.1];have hg:ot l m.toNat=aa (.int kd (f m.toNat)):=by
     unfold xg at hA;split at hA
     ·rename_i k2 n2 f2 r;cases hA;have:bZ N m.toNat=ag:=by
       cases hb:bZ N m.toNat with
       |false=>rfl
       |true=>exact absurd (eO hb) (by have:=hp.2;omega)
      simp only[ot,this,cond_false]
     ·cases hA
    have:=QQ (ids:=ids) (w:=w) (t:=el) (l:=l) (off:=m.toNat*1) (v:=.int kd (f m.toNat)) (by unfold uo;rw[lH];simpa using hg);simp[bz,gi hz]at this⊢;rw[this];rfl
   ·cases h
  ·cases h
 ·rename_i t x lo;split at h
  ·rename_i i off n c hx;split at h
   ·rename_i b hb;split at h
    ·split at h
     ·rename_i el kk m hu BR;split at h
      ·rename_i hz;simp only[aW,bC]at h;obtain⟨rfl,rfl⟩:=h;have hJ:∀code,(oP (.int kk m) n code).run P w=.ok m.toNat w:=by
        intro code;simp only[oP,asIntOf,bz,cZ,ct];rw[if_pos hp];rfl
       have hs:=gi (P:=P) (w:=w) hz;have ha:=ZT ids i off c m.toNat;unfold execOp;simp only[den,<-ha];by_cases Eb:c=m.toNat<;>simp[jm,bd,hx,BR,den,qO,zx,qP,dw hu,hJ,hs,je,Eb]
      ·cases h
     ·cases h
    ·cases h
   ·cases h
  ·rename_i ex hex;split at h
   ·rename_i b q n c el kd k hx hu BR;split at h
    ·rename_i hz;simp only[aW,bC]at h;obtain⟨rfl,rfl⟩:=h;have hs:(P.info? el).map (·.size)=aa 1:=by
      unfold eo at hz;split at hz
      ·rename_i inf hi;rw[hi];exact hz
      ·cases hz
     exact Zj (o:=o) (w:=w) (k:=k) (kd:=kd) oM hp.2 (q+k) (by rw[if_neg oM]) jm hu hs (by rw[bd,hx];rfl) (by rw[bd,BR];rfl)
    ·cases h
   ·cases h
 ·rename_i t x lo hi;split at h
  ·rename_i i off n c hx;split at h
   ·rename_i b hb;split at h
    ·split at h
     ·rename_i el kk m kh hh hu BR hhi;split at h
      ·rename_i hz;simp only[aW,bC]at h;obtain⟨rfl,rfl⟩:=h;obtain⟨h1,h2,h3⟩:=hp;have hJ:∀code,(oP (.int kh hh) c code).run P w=.ok hh.toNat w:=by
        intro code;simp only[oP,asIntOf,bz,cZ,ct];rw[if_pos ⟨oM,h3⟩];rfl
       have hb3:∀code,(oP (.int kk m) hh.toNat code).run P w=.ok m.toNat w:=by
        intro code;simp only[oP,asIntOf,bz,cZ,ct];rw[if_pos ⟨h1,oM⟩];rfl
       have hs:=gi (P:=P) (w:=w) hz;have ha:=ZT ids i off c m.toNat;have run:(execOp ρ o).run P w=.ok (.value (.slice (if c=m.toNat then aa ⟨ids.getD i 0,off,ae⟩else aa (qJ ⟨ids.getD i 0,off,ae⟩ (m.toNat*1))) (hh.toNat-m.toNat) (c-m.toNat))) w:=by
        unfold execOp;simp[jm,bd,hx,BR,hhi,den,qO,zx,qP,dw hu,hJ,hb3,hs,je]
       simp only[den,<-ha];rw[run];by_cases Eb:c=m.toNat
       ·rw[if_pos Eb,if_pos Eb]
       ·rw[if_neg Eb,if_neg Eb]
      ·cases h
     ·cases h
    ·cases h
   ·cases h
  ·cases h
 ·cases h
def ahn (hl:ids.length=bl.length) (S:St ms w0 (lits ids ids bl++R) w) {t:aM} {x y:V} {p:Prop} {bl':List VB} (h:Rb P bl t x y=aa (p,bl')) (hp:p):
 ∃w',(Gq t (den ids x) (den ids y)).run P w=.ok () w'/\St ms w0 (lits ids ids bl'++R) w'/\ids.length=bl'.length:=by
 unfold Rb at h;split at h
 ·rename_i i o j ZM v;split at h
  ·rename_i ty c hb;split at h
   ·rename_i kd n f hA lH hz;split at h
    ·rename_i hk _;subst hk;simp only[aW,bC]at h;obtain⟨rfl,rfl⟩:=h;obtain⟨hi,aS⟩:=gx hl S hb;have hc:=ZN hA ids;have bT:=Gv (P:=P) (off:=o+(j*1+0)) (v:=.int kd v) (vs:=[.int kd v]) (ty:=t) aS rfl (by
      unfold eo at hz;split at hz
      ·rename_i d hd;rw[hd];simpa using hz
      ·cases hz) (by simp only[YD,List.size_toArray];rw[hc];simp;omega) rF
     have fE:=S.step hi rfl (Ch.setRow w (ids.getD i 0) _) (setRow_heap w (ids.getD i 0) _ (splice (ak ids c).toArray (o+(j*1+0)) [.int kd v]) ty (0,0) aS);have mL:splice (ak ids c).toArray (o+(j*1+0)) [.int kd v]=(ak ids (Ln (o+j) v c)).toArray:=by
      unfold xg at hA;split at hA
      ·cases hA;apply fD;simp only[splice,Ln,ak,cl,show o+(j*1+0)=o+j by omega,YD];exact ahj hp
      ·cases hA
     have l7:i<(lits ids ids bl).length:=by rw[zT ids bl hl];rcases c9 i bl.length with h'|h';exact h';simp[h']at hb
     refine⟨w.setRow (ids.getD i 0) (splice (ak ids c).toArray (o+(j*1+0)) [.int kd v]),?_,?_,by simpa using hl⟩
     ·simp only[Gq,den,iY,bz,cZ,ct];exact bT
     ·have zV:=D_ (ids:=ids) ids bl i ⟨af,⟨ty,(0,0)⟩,Ln (o+j) v c⟩ hl;rw[<-zV,<-List.set_append_left _ _ l7];rw[mL]at fE⊢;exact fE
    ·cases h
   ·cases h
  ·cases h
 ·rename_i i o j b;split at h
  ·rename_i bl2 hs;simp only[aW,bC]at h;obtain⟨-,rfl⟩:=h;have:=ZH (P:=P) hl S hs;simpa[den,show o+(j*1+0)=o+j by omega]using this
  ·cases h
 ·cases h
end
class Bl (G:Type) where
 B:G->List ao
abbrev VK (G:Type):=V->List VB->List G->Prop
abbrev dk (G:Type):=List V->List VB->List G->VK G->Prop
variable{G:Type} [Bl G]
def au:List G->List ao->List ao
 |[],R=>R
 |b::l,R=>Bl.B b++au l R
def Gl (gl:Nat->Option Nat) (ids:List Nat):Prop:=∀g i,gl g=aa i->i<ids.length/\ids.getD i 0=g
def Sound (P:aG) (gl:Nat->Option Nat) (f:fl) (c:dk G):Prop:=∀(args:List V) (ids:List Nat) (bl:List VB) (ch:List G) (R:List ao) (ms:List Nat) (w0 w:aj) (K:VK G),
 Gl gl ids->ids.length=bl.length->St ms w0 (lits ids ids bl++au ch R) w->c args bl ch K->aX P f (aE ids args).toArray w λv w'=>
  ∃x more bl' ch',v=den (ids++more) x/\(ids++more).length=bl'.length/\St ms w0 (lits (ids++more) (ids++more) bl'++au ch' R) w'/\K x bl' ch'
def ik (P:aG) (gl:Nat->Option Nat) (h:(bg->V)->Op->List VB->List G->VK G->Prop):Prop:=∀(e:bg->V) (op:Op) (ids:List Nat) (bl:List VB) (ch:List G) (R:List ao) (ms:List Nat) (w0 w:aj) (K:VK G) (ρ:bg->ai) (o:aw),
 Gl gl ids->ids.length=bl.length->St ms w0 (lits ids ids bl++au ch R) w->(∀x,ρ x=den ids (e x))->o.op=op->h e op bl ch K->
  ∃x more bl' ch' w',((execOp ρ o).run P w=.ok (.value (den (ids++more) x)) w'\/((execOp ρ o).run P w=.ok .skip w'/\x=fU))/\(ids++more).length=bl'.length/\St ms w0 (lits (ids++more) (ids++more) bl'++au ch' R) w'/\K x bl' ch'
def BS:(bg->V)->Op->List VB->List G->VK G->Prop:=λ_ _ _ _ _=>False
def Ec {P:aG} {gl:Nat->Option Nat}:ik (G:=G) P gl BS:=λ_ _ _ _ _ _ _ _ _ _ _ _ _ _ _ _ _ h=>h.elim
def BU:Op->Bool
 |.call ⟨.builtin .append,_,_⟩=>af
 |.call ⟨.builtin .copy,_,_⟩=>af
 |.buildSlice _ n _=>aA n 0
 |.makeMap .. =>af
 |.makeSlice .. =>af
 |.lookup .. =>af
 |.insert .. =>af
 |.mapUpdate .. =>af
 |.typeAssert .. =>af
 |.binOp op _ _ y _=>Lj op y
 |_=>ag
def FW (rd:Option Nat):Fence:={PR with round:=rd}
def aho {rd:Option Nat} {n:Nat} {P:aG} {f:fl} {args:Array ai} {w:aj} {R:Ending->aj->Prop} (h:Calls P f args w R):CallsIn (FW rd) n P f args w R:=callsIn_wide (n:=n)|>.2 h
def Re (P:aG) (gl:Nat->Option Nat) (l:Nat) (c:dk G):Prop:=∀(args:List V) (ids:List Nat) (bl:List VB) (ch:List G) (R:List ao) (ms:List Nat) (w0 w:aj) (K:VK G),
 Gl gl ids->ids.length=bl.length->St ms w0 (lits ids ids bl++au ch R) w->c args bl ch K->∃f tmps nB body,(Instr.yield l (aE ids args).toArray).run P w=.ok (.round l f tmps nB body) w/\
  RoundIn PR 0 P l f tmps nB body w λe w'=>∃v,e=.returned v/\∃x more bl' ch',v=den (ids++more) x/\(ids++more).length=bl'.length/\St ms w0 (lits (ids++more) (ids++more) bl'++au ch' R) w'/\K x bl' ch'
def xi:Nat->dk G:=λ_ _ _ _ _=>False
def zW {P:aG} {gl:Nat->Option Nat}:∀l,Re (G:=G) P gl l (xi l):=λ_ _ _ _ _ _ _ _ _ _ _ _ _ h=>h.elim
def fill:List (Option V)->(Nat->ai)->Nat->List V
 |[],_,_=>[]
 |some v::l,g,i=>v::fill l g (i+1)
 |none::l,g,i=>.raw (g i)::fill l g (i+1)
def Ed (n:Nat):List (Option V)->List V->Prop
 |[],[]=>True
 |some v::l,u::fr=>u=v/\da n v=af/\Ed n l fr
 |none::l,_::fr=>Ed n l fr
 |_,_=>False
structure Lp (G:Type) where
 X:Type
 m:X->Nat
 fr:X->List (Option V)
 bl:X->List VB
 ch:X->List G
 Rf:List V->List VB->List G->Prop
 en:X->List V->List VB->List G->Prop
 ZV:∀fr' bl' ch',Rf fr' bl' ch'->∃x,Ed bl'.length (fr x) fr'/\bl x=bl'/\ch x=ch'
 ok:∀x fr' bl' ch',en x fr' bl' ch'->∃y,m y<m x/\Ed (bl x).length (fr y) fr'/\(bl y).length=(bl x).length/\bY (bl x).length (bl y)=af/\(∃j,bl'=bl y++j)/\ch y=ch'
structure Ctx (G:Type) [Bl G] where
 P:aG
 T:fl->Option (dk G)
 gl:Nat->Option Nat
 q:Nat->Bool
 h:(bg->V)->Op->List VB->List G->VK G->Prop
 hok:ik P gl h
 lp:Nat->List V->Option (Lp G)
 y:Nat->dk G
 yok:∀l,Re P gl l (y l)
def ev (gl:Nat->Option Nat) (fr:List V):bg->V
 |.tmp t=>nth fr t
 |.const v=>D6 v
 |.global g=>match gl g with|some i=>.ptr i 0|none=>.raw (.pointer (aa ⟨g,0,ae⟩))
 |.func f=>.fn f [] []
def okF (P:aG) (f:fl):Bool:=match P.funcs[f]?with
 |some fn=>!(fn.name== "runtime.NumGoroutine")&&!fn.body.isNone
 |none=>ag
def Rg (P:aG) (bl:List VB) (t:aM) (v:V) (name:String):Option (fl×V):=
 match P.info? t with
 |some i=>(match i.methods.find? (·.name==name)with
  |some m=>(match m.path.toList,m.func,P.underlying t with
   |[],aa (f,af),aa (.pointer _)=>aa (f,v)
   |[],aa (f,ag),aa (.pointer el)=>(match v with
    |.ptr j o=>(match vD P bl el (.ptr j o)with|some u=>aa (f,u)|none=>ae)
    |_=>ae)
   |[],aa (f,ag),aa (.slice _)=>aa (f,v)
   |_,_,_=>ae)
  |none=>ae)
 |none=>ae
def callee (P:aG) (e:bg->V) (bl:List VB):Op->Option (fl×List V)
 |.call c=>(match c.callee with
  |.value f=>(match e f with
   |.fn g a b=>bif okF P g then aa (g,a++c.args.toList.map e++b)else ae
   |_=>ae)
  |.invoke r name=>(match e r with
   |.nz t v=>(match Rg P bl t v name with
    |some (g,u)=>bif okF P g then aa (g,u::c.args.toList.map e)else ae
    |none=>ae)
   |_=>ae)
  |_=>ae)
 |_=>ae
def Ee (e:bg->V):Op->Option (Nat×List V)
 |.call c=>(match c.callee with
  |.value f=>(match e f with
   |.raw (.func (.yield l) a b)=>bif a.isEmpty&&b.isEmpty then aa (l,c.args.toList.map e)else ae
   |_=>ae)
  |_=>ae)
 |_=>ae
abbrev lI (G:Type):=fl->List V->List VB->List G->VK G->Prop
abbrev jn (G:Type):=List V->List VB->List G->Prop
def o8 (C:Ctx G) (call:lI G) (o:aw) (fr:List V) (bl:List VB) (ch:List G) (k:jn G):Prop:=
 match o.op with
 |.load t x=>(match vD C.P bl t (ev C.gl fr x)with|some v=>k (put fr o.dst v) bl ch|none=>(match BO C.P bl t (ev C.gl fr x)with|some (p,v)=>p/\k (put fr o.dst v) bl ch|none=>False))
 |.store t x y=>(match Lk C.P bl t (ev C.gl fr x) (ev C.gl fr y)with|some bl'=>k (put fr o.dst fU) bl' ch|none=>(match Rb C.P bl t (ev C.gl fr x) (ev C.gl fr y)with|some (p,bl')=>p/\k (put fr o.dst fU) bl' ch|none=>False))
 |op=>match BQ C.P (ev C.gl fr) bl op with
  |some (p,v)=>p/\k (put fr o.dst v) bl ch
  |none=>match BL C.P (ev C.gl fr) op with
  |some v=>k (put fr o.dst v) bl ch
  |none=>match D9 C.P (ev C.gl fr) bl.length op with
   |some (v,b)=>cond (bu bl.length fr&&(bY bl.length bl&&bu bl.length b.c)) (k (put fr o.dst v) (bl++[b]) ch) False
   |none=>match callee C.P (ev C.gl fr) bl op with
    |some (f,args)=>cond (bu bl.length fr) (call f args bl ch λv bl' ch'=>k (put fr o.dst v) bl' ch') False
    |none=>match Ee (ev C.gl fr) op with
    |some (l,args)=>cond (bu bl.length fr) (C.y l args bl ch λv bl' ch'=>k (put fr o.dst v) bl' ch') False
    |none=>cond (BU op&&bu bl.length fr) (C.h (ev C.gl fr) op bl ch λv bl' ch'=>k (put fr o.dst v) bl' ch') False
def zX (ops:Array aw) (j:Nat):Option Tmp:=match ops[j]?with|some o=>o.dst|none=>ae
def jL (C:Ctx G) (call:lI G) (ops:Array aw):List aw->List V->List VB->List G->jn G->Prop
 |[],fr,bl,ch,K=>K fr bl ch
 |o::l,fr,bl,ch,K=>match o.guard with
  |none=>o8 C call o fr bl ch λfr bl ch=>jL C call ops l fr bl ch K
  |some (j,want)=>match zX ops j with
   |none=>False
   |some t=>match nth fr t with
    |.bool b=>cond b
     (cond want (o8 C call o (ma fr t (.bool af)) bl ch λfr bl ch=>jL C call ops l fr bl ch K) (jL C call ops l (put (ma fr t (.bool af)) o.dst fU) bl ch K))
     (cond want (jL C call ops l (put (ma fr t (.bool ag)) o.dst fU) bl ch K) (o8 C call o (ma fr t (.bool ag)) bl ch λfr bl ch=>jL C call ops l fr bl ch K))
    |.raw (.tuple _)=>jL C call ops l (put fr o.dst fU) bl ch K
    |_=>False
def act (ids:List Nat) (fr:List V):Act:=⟨(aE ids fr).toArray,[]⟩
def Ef (P:aG) (gl:Nat->Option Nat) (call:lI G):Prop:=∀f,okF P f=af->Sound P gl f (call f)
section
variable{ids:List Nat} {w w0:aj} {ms:List Nat} {bl:List VB} {ch:List G} {R:List ao} {fr:List V} {C:Ctx G} {call:lI G}
def Gl.app {gl:Nat->Option Nat} (h:Gl gl ids) (more:List Nat):Gl gl (ids++more):=λg i hg=>by
 obtain⟨h1,h2⟩:=h g i hg;refine⟨by simp;omega,?_⟩;rw[D5 (by rw[jt];exact h1),h2]
def ZW {gl:Nat->Option Nat} (hg:Gl gl ids) (x:bg):(act ids fr).eval x=den ids (ev gl fr x):=by
 cases x with
 |tmp t=>simp only[Act.eval,act,ev,zO]
 |const v=>simp only[Act.eval,ev,agY]
 |global g=>
  simp only[Act.eval,ev];split
  ·rename_i i hi;simp only[den,(hg g i hi).2]
  ·simp[den]
 |func f=>simp[Act.eval,ev,den,aE]
def ZX (d:Option Tmp) (v:V):(act ids fr).put d (den ids v)=act ids (put fr d v):=by
 cases d with
 |none=>rfl
 |some t=>simp only[act,Act.put,put,Zt]
def ahp {more:List Nat} (h:bu ids.length fr=af):act (ids++more) fr=act ids fr:=by simp only[act,oZ fr h]
def Rh {P:aG} {t:aM} {i:TypeInfo} (h:P.info? t=aa i) (w:aj):(typeInfo t).run P w=.ok i w:=by simp[typeInfo,h]
def Ri {P:aG} {f:fl} (hk:okF P f=af) (args:Array ai) (w:aj):(callFunc f args).run P w=.ok (.enter f args) w:=by
 unfold okF at hk;split at hk
 ·rename_i fn G5;simp only[bD,n7]at hk;simp only[callFunc,bz,run_program,ct,G5];rw[if_neg (by simp[hk.1]),if_neg (by simp[hk.2])];simp only[cZ]
 ·cases hk
def ahq {P:aG} (hl:ids.length=bl.length) (S:St ms w0 (lits ids ids bl++R) w) {t:aM} {v u:V} {name:String} {f:fl} (h:Rg P bl t v name=aa (f,u)) (n:Nat):
 (method (n+1) t (den ids v) name).run P w=.ok (f,den ids u) w:=by
 unfold Rg at h;split at h
 ·rename_i i hi;split at h
  ·rename_i m hm;split at h
   ·rename_i f' el hp hf hu;cases h;simp only[method,bz,Rh hi,ct,hm,hp,hf,follow,cZ,receiverAt,dw hu,agd]
   ·rename_i f' el hp hf hu;split at h
    ·rename_i j o;split at h
     ·rename_i u' hv;cases h;have xk:=Ll (P:=P) hl S hv;have e1:m.path.isEmpty=af:=by simpa using hp
      have hw:∀(a:aI) (nm:String),Builtin.ssaWrapNilChk_ #[t] t #[.pointer (aa a),strVal "",strVal nm]=pure (.pointer (aa a)):=λ_ _=>rfl;have ahr:(loadVar el ⟨ids.getD j 0,o,ae⟩).run P w=.ok (den ids u) w:=xk;simp only[method,bz,Rh hi,ct,hm,hp,hf,follow,cZ,receiverAt,dw hu,agd,e1,if_true,den,hw,asAddr];rw[ahr];rfl
     ·cases h
    ·cases h
   ·rename_i f' el hp hf hu;cases h;simp only[method,bz,Rh hi,ct,hm,hp,hf,follow,cZ,receiverAt,dw hu,agd]
   ·cases h
  ·cases h
 ·cases h
def ahs {P:aG} {ρ:bg->ai} {e:bg->V} (bd:∀x,ρ x=den ids (e x)) (hl:ids.length=bl.length) (S:St ms w0 (lits ids ids bl++R) w) (o:aw) {f:fl} {args:List V} (h:callee P e bl o.op=aa (f,args)):
 (execOp ρ o).run P w=.ok (.enter f (aE ids args).toArray) w/\okF P f=af:=by
 have Eg:∀l:List bg,l.map ρ=aE ids (l.map e):=λl=>by
  rw[rj,l5];exact ni λx _=>bd x
 unfold callee at h;split at h
 ·rename_i c ho;split at h
  ·rename_i fo hc;split at h
   ·rename_i g a b hf;cases hk:okF P g with
    |false=>rw[hk]at h;simp at h
    |true=>
     rw[hk]at h;simp only[cond_true,aW,bC]at h;obtain⟨rfl,rfl⟩:=h;refine⟨?_,hk⟩;have cN:(aE ids a).toArray++c.args.map ρ++(aE ids b).toArray=(aE ids (a++c.args.toList.map e++b)).toArray:=by
      apply fD;simp only[Gt,YB,Eg];simp only[rj,tX]
     simp only[execOp,ho,resolve,hc,bd,hf,den,agf,bz,cZ,ct,invoke,Ri hk];rw[<-cN]
   ·cases h
  ·rename_i r name hc;split at h
   ·rename_i t v hr;split at h
    ·rename_i g u hm;cases hk:okF P g with
     |false=>rw[hk]at h;simp at h
     |true=>
      rw[hk]at h;simp only[cond_true,aW,bC]at h;obtain⟨rfl,rfl⟩:=h;refine⟨?_,hk⟩;have hmt:=λn=>ahq (P:=P) hl S hm n;have hfu:∀n:Nat,n+Made.depth=(n+99)+1:=λn=>rfl;have cN:#[den ids u]++c.args.map ρ=(aE ids (u::c.args.toList.map e)).toArray:=by
       apply fD;simp only[Gt,YB,Eg,aE];rfl
      have hex:(#[den ids (.nz t v)]++c.args.map ρ).extract 1 (#[den ids (.nz t v)]++c.args.map ρ).size=c.args.map ρ:=by
       apply fD;simp;exact List.take_of_length_le sP
      have h0:(#[den ids (.nz t v)]++c.args.map ρ)[0]?=aa (.iface t (den ids v)):=by
       simp[Array.getElem?_append,den]
      simp only[execOp,ho,resolve,hc,bd,hr,bz,cZ,ct,invoke,h0,hex,callMethod,run_program,hfu,hmt,Ri hk];rw[<-cN]
    ·cases h
   ·cases h
  ·cases h
 ·cases h
def aht {rd:Option Nat} {n l:Nat} {P:aG} {f:fl} {tmps:Array ai} {nB body:eH} {w:aj} {R:Ending->aj->Prop} (h:RoundIn PR n P l f tmps nB body w R):RoundIn (FW rd) n P l f tmps nB body w R:=h
def ahu {P:aG} {ρ:bg->ai} {e:bg->V} (bd:∀x,ρ x=den ids (e x)) (o:aw) {l:Nat} {args:List V} (h:Ee e o.op=aa (l,args)) {w:aj}:
 (execOp ρ o).run P w=(Instr.yield l (aE ids args).toArray).run P w:=by
 have Eg:∀l:List bg,l.map ρ=aE ids (l.map e):=λl=>by
  rw[rj,l5];exact ni λx _=>bd x
 unfold Ee at h;split at h
 ·rename_i c ho;split at h
  ·rename_i fo hc;split at h
   ·rename_i g a b hf;cases hk:a.isEmpty&&b.isEmpty with
    |false=>rw[hk]at h;simp at h
    |true=>
     rw[hk]at h;simp only[cond_true,aW,bC]at h;obtain⟨rfl,rfl⟩:=h;simp only[bD,Array.isEmpty_iff]at hk;obtain⟨rfl,rfl⟩:=hk;have cN:#[]++c.args.map ρ++#[]=(aE ids (c.args.toList.map e)).toArray:=by
      apply fD;simp only[Gt,YB,Eg];simp
     rw[<-cN];simp only[execOp,ho,resolve,hc,bd,hf,den,agf,bz,cZ,ct,invoke,Array.append_empty]
   ·cases h
  ·cases h
 ·cases h
def ahv {o:aw} {k:jn G} (h:o8 C call o fr bl ch k):∀c,o.op≠.defer c:=by
 intro c e;unfold o8 at h;rw[e]at h;simp[BQ,BL,D9,callee,Ee,BU]at h
def Rj {rd:Option Nat} (hc:Ef C.P C.gl call) (hg:Gl C.gl ids) (hl:ids.length=bl.length) (S:St ms w0 (lits ids ids bl++au ch R) w) {o:aw} {k:jn G} (h:o8 C call o fr bl ch k) {a:Act}
 (ha:execOp a.eval o=execOp (act ids fr).eval o) {next:Act->aj->Prop} {Q:dE->Act->aj->Prop}
 (hk:∀x more bl' ch' w',(ids++more).length=bl'.length->St ms w0 (lits (ids++more) (ids++more) bl'++au ch' R) w'->k (put fr o.dst x) bl' ch'->more=[]\/bu ids.length fr=af->next (a.put o.dst (den (ids++more) x)) w'):
 o.wpIn (FW rd) 0 C.P a w next Q:=by
 have bd:=λx=>ZW (fr:=fr) hg x;have ra:∀x bl' w',ids.length=bl'.length->St ms w0 (lits ids ids bl'++au ch R) w'->k (put fr o.dst x) bl' ch->next (a.put o.dst (den ids x)) w':=λx bl' w' h1 h2 h3=>by
  have:=hk x [] bl' ch w' (by simpa using h1) (by simpa using h2) h3 (.inl rfl);simpa using this
 refine⟨λ_ _=>trivial,?_⟩;rw[Oper.semAt_eq _ _ _ (ahv h),ha];unfold o8 at h;split at h
 ·rename_i t x ho;split at h
  ·rename_i v hv;have:=Ll (P:=C.P) hl S hv;have e:(execOp (act ids fr).eval o).run C.P w=.ok (.value (den ids v)) w:=by
    unfold execOp;simp only[ho,bd,bz,this];rfl
   rw[e];simp only[KC];exact ra _ _ _ hl S h
  ·split at h
   ·rename_i p v hv;have:=ZR (P:=C.P) hl S hv h.1;have e:(execOp (act ids fr).eval o).run C.P w=.ok (.value (den ids v)) w:=by
     unfold execOp;simp only[ho,bd,bz,this];rfl
    rw[e];simp only[KC];exact ra _ _ _ hl S h.2
   ·exact h.elim
 ·rename_i t x y ho;split at h
  ·rename_i bl' hv;obtain⟨w',h1,h2,h3⟩:=ZH (P:=C.P) hl S hv;have e:(execOp (act ids fr).eval o).run C.P w=.ok .skip w':=by
    unfold execOp;simp only[ho,bd,bz,h1];rfl
   rw[e];simp only[agh];rw[show(undef:ai)=den ids fU by simp[fU,den]];exact ra _ _ _ h3 h2 h
  ·split at h
   ·rename_i p bl' hv;obtain⟨w',h1,h2,h3⟩:=ahn (P:=C.P) hl S hv h.1;have e:(execOp (act ids fr).eval o).run C.P w=.ok .skip w':=by
     unfold execOp;simp only[ho,bd,bz,h1];rfl
    rw[e];simp only[agh];rw[show(undef:ai)=den ids fU by simp[fU,den]];exact ra _ _ _ h3 h2 h.2
   ·exact h.elim
 ·split at h
  ·rename_i p v hv;rw[ZU bd o hv h.1];simp only[KC];exact ra _ _ _ hl S h.2
  ·split at h
   ·rename_i v hv;rw[ZG bd o v hv];simp only[KC];exact ra _ _ _ hl S h
   ·split at h
    ·rename_i v b hv;cases hq:bu bl.length fr&&(bY bl.length bl&&bu bl.length b.c)with
     |false=>rw[hq]at h;exact h.elim
     |true=>
      rw[hq]at h;simp only[bD]at hq;rw[<-hl]at hv hq;obtain⟨h1,h2,h2f⟩:=ahi (w:=w) bd o hv;obtain⟨h3,h4⟩:=grow hl S b h2 h2f hq.2.1 hq.2.2;rw[h1];simp only[KC];exact hk _ _ _ _ _ h4 h3 h (.inr hq.1)
    ·split at h
     ·rename_i f args hv;cases hq:bu bl.length fr with
      |false=>rw[hq]at h;exact h.elim
      |true=>
       rw[hq]at h;rw[<-hl]at hq;obtain⟨h1,h2⟩:=ahs bd hl S o hv;rw[h1,Oper.uponIn_enter];refine⟨(λe=>nomatch e),aho ?_⟩;refine Calls.mono (hc f h2 args ids bl ch R ms w0 w _ hg hl S h) ?_;rintro e w' ⟨v,rfl,x,more,bl',ch',rfl,g1,g2,g3⟩;exact hk _ _ _ _ _ g1 g2 g3 (.inr hq)
     split at h
     ·rename_i l args hv;cases hq:bu bl.length fr with
      |false=>rw[hq]at h;exact h.elim
      |true=>
       rw[hq]at h;rw[<-hl]at hq;obtain⟨f,tmps,nB,body,h1,h2⟩:=C.yok l args ids bl ch R ms w0 w _ hg hl S h;rw[ahu bd o hv,h1,Oper.uponIn_round];refine⟨(λe=>nomatch e),RoundIn.mono (aht h2) ?_⟩;rintro e w' ⟨v,rfl,x,more,bl',ch',rfl,g1,g2,g3⟩;exact hk _ _ _ _ _ g1 g2 g3 (.inr hq)
     ·cases hq:BU o.op&&bu bl.length fr with
      |false=>rw[hq]at h;exact h.elim
      |true=>
       rw[hq]at h;rw[<-hl]at hq;simp only[bD]at hq;obtain⟨x,more,bl',ch',w',h1,g1,g2,g3⟩:=C.hok _ _ ids bl ch R ms w0 w _ _ o hg hl S bd rfl h;rcases h1 with h1|⟨h1,rfl⟩
       ·rw[h1];simp only[KC];exact hk _ _ _ _ _ g1 g2 g3 (.inr hq.2)
       ·rw[h1];simp only[agh];have:=hk _ _ _ _ _ g1 g2 g3 (.inr hq.2);simpa[fU,den]using this
def ahw {more:List Nat} (h:more=[]\/bu ids.length fr=af):act (ids++more) fr=act ids fr:=by
 rcases h with rfl|h
 ·simp
 ·exact ahp h
end
end Vx
namespace Vx
open Go Go.RowKit Go.BigFrame Sx
variable{G:Type} [Bl G]
structure WI (rd:Option Nat) (P:aG) (ops:Array aw) (Q:dE->Act->aj->Prop) (l:List aw) (a:Act) (w:aj):Prop where
 out:wpListIn (FW rd) 0 P ops Q l a w
def WI.want {rd:Option Nat} {P:aG} {ops:Array aw} {Q:dE->Act->aj->Prop} {a:Act} {w:aj} {rest:List aw} {o:aw} (hw:gk o (yielded ops a.tmps)=af)
 (h:∀K:Act->aj->Prop,(∀a w,WI rd P ops Q rest a w->K a w)->o.wpIn (FW rd) 0 P a w K Q):WI rd P ops Q (o::rest) a w:=
 ⟨wpListIn_step λK hK=>by rw[if_pos hw];exact h K λa w x=>hK a w x.out⟩
def WI.skip {rd:Option Nat} {P:aG} {ops:Array aw} {Q:dE->Act->aj->Prop} {a:Act} {w:aj} {rest:List aw} {o:aw} (k:WI rd P ops Q rest (a.put o.dst undef) w)
 (hw:gk o (yielded ops a.tmps)=ag):WI rd P ops Q (o::rest) a w:=
 ⟨wpListIn_step λK hK=>by rw[if_neg (by rw[hw];simp)];exact⟨λ_ _=>trivial,hK _ _ k.out⟩⟩
section
variable{C:Ctx G} {call:lI G}
def Lo:∀(fr:List V) (t:Nat),ma fr t (nth fr t)=fr
 |[],_=>rfl
 |_::_,0=>rfl
 |v::l,t+1=>by simp[zK,zL,zM,lD,lE,kX,Lo l t]
def ahx {ids:List Nat} {fr:List V} {ops:Array aw} {j t:Nat} {b:Bool} (hd:zX ops j=aa t) (h:nth fr t=.bool b):yielded ops (act ids fr).tmps j=aa b:=by
 have h1:(ops[j]?).bind (·.dst)=aa t:=by
  unfold zX at hd;split at hd
  ·rename_i o ho;rw[ho];simpa using hd
  ·cases hd
 have h2:(act ids fr).tmps[t]?=aa (.bool b):=by
  have h3:=zO (ids:=ids) fr t;rw[h]at h3;have h4:t<(aE ids fr).toArray.size:=by
   rcases c9 t (aE ids fr).toArray.size with h5|h5
   ·exact h5
   ·exfalso;rw[DC,dif_neg oM]at h3;simp[den,undef]at h3
  rw[DC,dif_pos h4]at h3;simp only[act];rw[Kw h4];simp only[den]at h3;exact congrArg aa h3.symm
 simp[yielded,h1,h2]
def ahy {ids:List Nat} {fr:List V} {ops:Array aw} {j t:Nat} {vs:Array ai} (hd:zX ops j=aa t) (h:nth fr t=.raw (.tuple vs)):yielded ops (act ids fr).tmps j=ae:=by
 have h1:(ops[j]?).bind (·.dst)=aa t:=by
  unfold zX at hd;split at hd
  ·rename_i o ho;rw[ho];simpa using hd
  ·cases hd
 unfold yielded;rw[h1];simp only[Option.bind_some];by_cases h4:t<(aE ids fr).toArray.size
 ·have h3:=zO (ids:=ids) fr t;rw[h,DC,dif_pos h4]at h3;simp only[act];rw[Kw h4];simp only[den]at h3;rw[Array.getInternal_eq_getElem]at h3;rw[<-h3]
 ·simp only[act];rw[Kq oM]
def Rk {rd:Option Nat} (hc:Ef C.P C.gl call) {ops:Array aw} {R:List ao} {ms:List Nat} {w0:aj} {Q:dE->Act->aj->Prop} {k:jn G}:∀(l:List aw) {ids:List Nat} {bl:List VB} {ch:List G} {fr:List V} {w:aj},
 Gl C.gl ids->ids.length=bl.length->St ms w0 (lits ids ids bl++au ch R) w->jL C call ops l fr bl ch k->
 (∀fr' more bl' ch' w',(ids++more).length=bl'.length->St ms w0 (lits (ids++more) (ids++more) bl'++au ch' R) w'->k fr' bl' ch'->Q .normal (act (ids++more) fr') w')->
 WI rd C.P ops Q l (act ids fr) w
 |[],ids,bl,ch,fr,w,hg,hl,S,h,hk=>by
  refine⟨wpListIn_nil ?_⟩;have:=hk fr [] bl ch w (by simpa using hl) (by simpa using S) h;simpa using this
 |o::l,ids,bl,ch,fr,w,hg,hl,S,h,hk=>by
  have go:∀fr,gk o (yielded ops (act ids fr).tmps)=af->o8 C call o fr bl ch (λfr bl ch=>jL C call ops l fr bl ch k)->WI rd C.P ops Q (o::l) (act ids fr) w:=by
   intro fr hw h;refine WI.want hw λK hK=>Rj hc hg hl S h rfl ?_;intro x more bl' ch' w' g1 g2 g3 g4;rw[<-ahw g4,ZX];refine hK _ _ (Rk hc l (hg.app more) g1 g2 g3 ?_);intro o9 cn bl2 ch2 w2 e1 e2 e3;have:=hk o9 (more++cn) bl2 ch2 w2 (by rw[<-bW];exact e1) (by rw[<-bW];exact e2) e3;rw[<-bW]at this;exact this
  have sk:∀fr,gk o (yielded ops (act ids fr).tmps)=ag->jL C call ops l (put fr o.dst fU) bl ch k->WI rd C.P ops Q (o::l) (act ids fr) w:=by
   intro fr hw h;refine WI.skip ?_ hw;rw[show(undef:ai)=den ids fU by simp[fU,den],ZX];exact Rk hc l hg hl S h hk
  simp only[jL]at h;split at h
  ·rename_i zY;exact go fr (by simp[gk,zY]) h
  ·rename_i j want zY;split at h
   ·exact h.elim
   ·rename_i t hd;split at h
    ·rename_i b hb;have hy:=ahx (ids:=ids) hd hb;have Lq:gk o (yielded ops (act ids fr).tmps)=(b==want):=by
      simp only[gk,zY,hy];cases b<;>cases want<;>rfl
     have hs:=Lo fr t;rw[hb]at hs;cases b with
     |true=>
      rw[hs]at h;cases want with
      |true=>exact go fr (by rw[Lq];rfl) h
      |false=>exact sk fr (by rw[Lq];rfl) h
     |false=>
      rw[hs]at h;cases want with
      |true=>exact sk fr (by rw[Lq];rfl) h
      |false=>exact go fr (by rw[Lq];rfl) h
    ·rename_i vs hb;exact sk fr (by simp only[gk,zY,ahy (ids:=ids) hd hb];rfl) h
    ·exact h.elim
end
inductive Cl where|f|a|x
 deriving DecidableEq
def zZ (o:aw):Cl:=match o.op with
 |.alloc _=>.a
 |.move _=>.f
 |.assign _=>.f
 |.pick .. =>.f
 |.load t _=>bif aA t 232 then .x else .f
 |.nilCheck _=>.f
 |.binOp op _ _ y _=>bif Lj op y then .x else .f
 |.unOp .. =>.f
 |.convert .. =>.f
 |.makeFunc .. =>.f
 |.makeInterface .. =>.f
 |.build .. =>.f
 |.fieldAddr .. =>.f
 |.field .. =>.f
 |.indexAddr .. =>.f
 |.index .. =>.f
 |.extract .. =>.f
 |.call ⟨.builtin .len,_,_⟩=>.f
 |.call ⟨.builtin .min,_,_⟩=>.f
 |.call ⟨.builtin .max,_,_⟩=>.f
 |.slice .. =>.f
 |.sliceToArrayPointer .. =>.f
 |_=>.x
def kJ (o:aw):Bool:=match zZ o with|.f=>af|_=>ag
def hU (o:aw):Bool:=match zZ o with|.a=>af|_=>ag
def lJ (o:aw):Bool:=match zZ o with|.x=>af|_=>ag
def Rl (o:aw):Bool:=match o.op with|.load .. =>af|_=>ag
def vF (q:Nat->Bool) (o:aw):Bool:=match o.op with
 |.load .. =>af
 |.box .. =>af
 |.buildSlice _ n _=>!(aA n 0)
 |.call ⟨.value (.func f),_,_⟩=>q f
 |_=>ag
def xm (pm:List Nat):List Edge->Nat
 |[]=>0
 |e::l=>bif sw .any e then xm pm l|||(2^e.on|||pm.getD e.on 0)else xm pm l
def Lr:List aw->List Nat->List Nat
 |[],pm=>pm
 |o::l,pm=>Lr l (pm++[xm pm o.after.toList])
def gG (pm:List Nat) (i j:Nat):Bool:=(pm.getD j 0).testBit i
def vG (l:List aw) (pm:List Nat):Bool:=aA pm.length l.length&&(l.zip pm).all λp=>aA p.2 (xm pm p.1.after.toList)
def bF (l:List aw) (i:Nat):aw:=match l[i]?with|some o=>o|none=>default
def lK (p:Nat->Nat->Bool):List Nat->Bool
 |[]=>af
 |i::l=>l.all (p i)&&lK p l
def o_ (l:List aw):List Nat->Option Nat
 |[]=>ae
 |i::r=>bif hU (bF l i)then o_ l r else aa i
def z3 (l:List aw) (pm:List Nat):List Nat->Bool
 |[]=>af
 |i::r=>(bif hU (bF l i)then(match o_ l r with|some x=>lJ (bF l x)&&gG pm i x|none=>ag)else af)&&z3 l pm r
def looks (l:List aw) (i:Nat):List Tmp:=KD l.toArray (bF l i)
def Ls (t:Tmp) (l:List Tmp):Bool:=l.any λu=>aA u t
def xn (q:Nat->Bool) (l:List aw) (pm:List Nat) (i j:Nat):Bool:=
 !(gG pm j i)&&(gG pm i j||
   (bif lJ (bF l i)then hU (bF l j)else af)&&
   (bif lJ (bF l j)&&Rl (bF l i)then vF q (bF l j)else af))&&
 (match(bF l i).dst with|some t=>(bif Ls t (looks l j)then gG pm i j else af)&&(match(bF l j).dst with|some u=>!(aA t u)|none=>af)|none=>af)&&
 (match(bF l j).dst with|some t=>(bif Ls t (looks l i)then gG pm i j else af)|none=>af)
def Lt (C:Ctx G) (n:Nat) (o:aw):Bool:=
 (match o.dst with|some t=>db t n|none=>af)&&(match o.op with|.select .. =>ag|_=>af)&&
 (bif hU o then(match o.guard,o.dst,o.op with|none,aa _,.alloc t=>(match me C.P t with|some _=>af|none=>ag)|_,_,_=>ag)else af)
def vH (l:List aw) (ts:List Nat):List aw:=ts.map (bF l)
def Eh:List Nat->Bool
 |[]=>af
 |i::l=>!(l.any λj=>aA j i)&&Eh l
def z5 (l:List aw) (n:Nat):Bool:=l.all λo=>o.after.all λe=>!sw .any e||db e.on n
def ZY (C:Ctx G) (q:Nat->Bool) (l:List aw) (pm ts:List Nat):Bool:=
 vG l pm&&z5 l l.length&&C.P.follows .mixedOrders&&aA ts.length l.length&&ts.all (λi=>db i l.length)&&Eh ts&&
 lK (xn q l pm) ts&&z3 l pm ts&&ts.all (λi=>!(gG pm i i))
def G6 (C:Ctx G) (q:Nat->Bool) (l:List aw) (pm ts:List Nat) (n:Nat):Bool:=ZY C q l pm ts&&l.all (Lt C n)
def Rn (pm:List Nat) (done m:Nat) (l:List aw) (c:aw->Bool) (am:Nat):Nat->Option Nat
 |0=>ae
 |k+1=>match Rn pm done m l c am k with
  |some i=>aa i
  |none=>bif Nat.testBit done k then ae else bif c (bF l k)&&aA ((pm.getD k 0)|||(done|||am)) (done|||am)then aa k else ae
def Ro (l:List aw):Nat->Nat
 |0=>0
 |k+1=>bif hU (bF l k)then Ro l k|||2^k else Ro l k
def Rq (pm:List Nat) (l:List aw) (done j:Nat):Nat->List Nat
 |0=>[]
 |k+1=>Rq pm l done j k++(bif hU (bF l k)&&(gG pm k j&&!(Nat.testBit done k))then[k]else[])
def sched (pm:List Nat) (l:List aw) (am:Nat):Nat->Nat->List Nat
 |0,_=>[]
 |n+1,done=>match Rn pm done l.length l kJ 0 l.length with
  |some i=>i::sched pm l am n (done|||2^i)
  |none=>match Rn pm done l.length l lJ am l.length with
   |some j=>Rq pm l done j l.length++(j::sched pm l am n ((Rq pm l done j l.length).foldl (λs i=>s|||2^i) (done|||2^j)))
   |none=>[]
def Ei (l:List aw) (pm:List Nat):List Nat:=sched pm l (Ro l l.length) l.length 0
def Lu (i:Nat) (o:aw):aw:={o with after:=o.after.push ⟨i,.data⟩}
def fJ (l:List aw) (i j:Nat):List aw:=match l[j]?with|some o=>l.set j (Lu i o)|none=>l
def G7:List aw->List Nat->List Nat->List Nat
 |[],pm,_=>pm
 |o::l,pm,old=>G7 l (pm++[xm (pm++old) o.after.toList]) old.tail
def BV (l:List aw):List Nat->Option (Nat×List Nat)
 |[]=>ae
 |i::r=>bif lJ (bF l i)then aa (i,r)else BV l r
def G8 (C:Ctx G) (l:List aw) (pm ts:List Nat) (i n:Nat):Bool:=G6 C C.q l pm ts n&&(l.all λo=>!(hU o))&&(match BV l ts with|some (x,_)=>aA x i|none=>ag)
section
variable{l:List aw} {pm:List Nat}
def Lv (pm:List Nat) (i:Nat):∀es:List Edge,(xm pm es).testBit i=af↔∃e∈es,sw .any e=af/\(e.on=i\/(pm.getD e.on 0).testBit i=af)
 |[]=>by simp[xm]
 |e::l=>by
  unfold xm;cases hb:sw .any e with
  |false=>simp[hb,Lv pm i l]
  |true=>
   simp only[cond_true,Nat.testBit_or,Dz,Lv pm i l,Nat.testBit_two_pow,decide_eq_true_eq];constructor
   ·rintro(⟨x,hx,h1,h2⟩|h2)
    ·exact⟨x,by simp[hx],h1,h2⟩
    ·exact⟨e,sP,hb,h2⟩
   ·rintro⟨x,hx,h1,h2⟩;rcases cF.1 hx with rfl|hx
    ·exact .inr h2
    ·exact .inl ⟨x,hx,h1,h2⟩
def ZZ (h:vG l pm=af) {j:Nat} {o:aw} (ho:l[j]?=aa o):pm.getD j 0=xm pm o.after.toList:=by
 unfold vG at h;simp only[bD]at h;have hlen:=ck h.1;have hj:j<l.length:=by rcases c9 j l.length with h'|h';exact h';simp[h']at ho
 have hm:(l.zip pm)[j]?=aa (o,pm[j]):=by
  rw[List.getElem?_zip_eq_some];exact⟨ho,sP⟩
 have:=gQ.1 h.2 _ (sE hm);have:=ck this;simp only[gd,jY (show j<pm.length by omega),Yt];exact this
def Lw {i:Nat} {o:aw} (h:l[i]?=aa o):bF l i=o:=by unfold bF;rw[h]
def ahz {i t:Nat} (h:(bF l i).dst=aa t):l[i]?=aa (bF l i):=by
 unfold bF at h⊢;cases hi:l[i]?with
 |some o=>rfl
 |none=>rw[hi]at h;cases h
def Z0 (h:vG l pm=af) {i j:Nat} {o:aw} (ho:l[j]?=aa o) (hb:gG pm i j=af):∃e∈o.after,sw .any e=af/\(e.on=i\/gG pm i e.on=af):=by
 unfold gG at hb;rw[ZZ h ho]at hb;obtain⟨e,he,h1,h2⟩:=(Lv pm _ _).1 hb;exact⟨e,by simpa using he,h1,h2⟩
def BW {p:Nat->Nat->Bool}:∀{a b:List Nat},lK p (a++b)=af->(∀i∈a,∀j∈b,p i j=af)/\lK p a=af/\lK p b=af
 |[],b,h=>⟨sP,rfl,h⟩
 |x::a,b,h=>by
  simp only[fm,lK,bD,gQ]at h;obtain⟨i1,i2,i3⟩:=BW h.2;refine⟨?_,?_,i3⟩
  ·intro i hi j hj;rcases cF.1 hi with rfl|hi
   ·exact h.1 j (by simp[hj])
   ·exact i1 i hi j hj
  ·simp only[lK,bD,gQ];exact⟨λj hj=>h.1 j (by simp[hj]),i2⟩
def Rr {p:Nat->Nat->Bool}:∀{a:List Nat},lK p a=af->∀i∈a,∀j∈a,i≠j->p i j=af\/p j i=af
 |[],_,_,hi,_,_,_=>by cases hi
 |x::a,h,i,hi,j,hj,cL=>by
  simp only[lK,bD,gQ]at h;rcases cF.1 hi with e1|l7
  ·rcases cF.1 hj with e2|mM
   ·exact absurd (e1.trans e2.symm) cL
   ·rw[e1];exact .inl (h.1 j mM)
  ·rcases cF.1 hj with e2|mM
   ·rw[e2];exact .inr (h.1 i l7)
   ·exact Rr h.2 i l7 j mM cL
def Rs:∀{a:List Nat},Eh a=af->a.Nodup
 |[],_=>List.nodup_nil
 |i::a,h=>by
  simp only[Eh,bD,n7]at h;refine tS.2 ⟨?_,Rs h.2⟩;intro hm;have:=List.any_eq_false.1 h.1 i hm;simp[tW]at this
def Z3 {t:Tmp} {ts:List Tmp}:Ls t ts=af↔t∈ts:=by
 unfold Ls;rw[A9];constructor
 ·rintro⟨u,hu,h⟩;obtain rfl:=ck h;exact hu
 ·intro h;exact⟨t,h,tW t⟩
def xp (o:aw):(kJ o=af/\hU o=ag/\lJ o=ag)\/(kJ o=ag/\hU o=af/\lJ o=ag)\/(kJ o=ag/\hU o=ag/\lJ o=af):=by
 unfold kJ hU lJ;cases zZ o<;>simp
structure Rt (q:Nat->Bool) (l:List aw) (pm:List Nat) (i j:Nat):Prop where
 nb:gG pm j i=ag
 xj:lJ (bF l i)=af->hU (bF l j)=ag->gG pm i j=af
 ld:lJ (bF l j)=af->Rl (bF l i)=af->gG pm i j=af\/vF q (bF l j)=af
 wi:∀t,(bF l i).dst=aa t->t∈looks l j->gG pm i j=af
 wj:∀t,(bF l j).dst=aa t->t∈looks l i->gG pm i j=af
 ww:∀t,(bF l i).dst=aa t->(bF l j).dst≠aa t
def uv {q:Nat->Bool} {i j:Nat} (h:xn q l pm i j=af):Rt q l pm i j:=by
 unfold xn at h;simp only[bD,n7]at h;obtain⟨⟨⟨h1,h2⟩,h3⟩,h4⟩:=h;refine⟨h1,?_,?_,?_,?_,?_⟩
 ·intro hx ha;rcases Dz _ _▸h2 with h2|h2
  ·exact h2
  ·rw[hx,ha]at h2;simp at h2
 ·intro hx hl;rcases Dz _ _▸h2 with h2|h2
  ·exact .inl h2
  ·rw[hx,hl]at h2;simp only[bD,Bool.and_self,cond_true]at h2;exact .inr h2.2
 ·intro t ht hm;rw[ht]at h3;simp only[bD,Z3.2 hm,cond_true]at h3;exact h3.1
 ·intro t ht hm;rw[ht]at h4;simpa only[Z3.2 hm,cond_true]using h4
 ·intro t ht e;rw[ht,e]at h3;simp[tW]at h3
end
def G9 (l:List aw) (fr:List V) (o:aw) (b:Bool):Prop:=match o.guard with
 |none=>b=af
 |some (g,want)=>∃t,zX l.toArray g=aa t/\((∃c,nth fr t=.bool c/\b=(c==want))\/(∃vs,nth fr t=.raw (.tuple vs)/\b=ag))
def G_ (C:Ctx G) (bl:List VB) (fr:List V) (o:aw) (v:V):Prop:=(BL C.P (ev C.gl fr) o.op=aa v\/∃b0 p,BQ C.P (ev C.gl fr) b0 o.op=aa (p,v)/\p)\/(∃t x,o.op=.load t x/\BP C.P bl t (ev C.gl fr x) v)
structure Rec (C:Ctx G) (l:List aw) (pm:List Nat) (ew fr:List V) (bl:List VB) (i:Nat) (kz:List V) (v:V) (b:Bool):Prop where
 w1:∀t∈looks l i,∀h,(bF l h).dst=aa t->gG pm h i=af->nth kz t=nth fr t
 w0:∀t∈looks l i,(∀h,(bF l h).dst=aa t->gG pm h i=ag)->nth kz t=nth ew t
 val:∀d,(bF l i).dst=aa d->nth fr d=v
 g:G9 l kz (bF l i) b
 e:if b then G_ C bl kz (bF l i) v else v=fU
section
variable{C:Ctx G} {l:List aw} {pm:List Nat} {ids:List Nat} {w:aj}
def Ru (a:Act) (t:Tmp):a.eval (.tmp t)=cW a t:=rfl
def Rv {fr:List V} (t:Nat):cW (act ids fr) t=den ids (nth fr t):=by rw[<-Ru];simp only[Act.eval,act,zO]
def ahA {a:Act} {t:Tmp} {b:Bool} (h:cW a t=.bool b):a.tmps[t]?=aa (.bool b):=by
 have h':a.tmps.getD t undef=.bool b:=h;by_cases h1:t<a.tmps.size
 ·rw[DC,dif_pos h1]at h';rw[Kw h1];exact congrArg aa h'
 ·rw[DC,dif_neg h1]at h';cases h'
def ahB {a:Act} {t:Tmp} {vs:Array ai} (h:cW a t=.tuple vs):a.tmps[t]?=ae\/a.tmps[t]?=aa (.tuple vs):=by
 have h':a.tmps.getD t undef=.tuple vs:=h;by_cases h1:t<a.tmps.size
 ·rw[DC,dif_pos h1]at h';rw[Kw h1];exact .inr (congrArg aa h')
 ·exact .inl (Kq (YE h1))
def ahC {ops:Array aw} {g t:Nat} (h:zX ops g=aa t):(ops[g]?).bind (·.dst)=aa t:=by
 unfold zX at h;split at h
 ·rename_i o ho;rw[ho];simpa using h
 ·cases h
def Lx {a:Act} {fr:List V} {o:aw} {b:Bool} (hy:∀t∈KD l.toArray o,cW a t=den ids (nth fr t)) (hg:G9 l fr o b):gk o (yielded l.toArray a.tmps)=b:=by
 unfold G9 at hg;unfold gk;split at hg
 ·rename_i h;rw[h];exact hg.symm
 ·rename_i g want h;rw[h];obtain⟨t,ht,hc⟩:=hg;have hb:=ahC ht;have hm:t∈KD l.toArray o:=by
   unfold KD;rw[h];refine List.mem_append_right _ ?_;simp only[hb];simp
  have Ly:=hy t hm;simp only[yielded,hb,Option.bind_some];rcases hc with⟨c,h1,h2⟩|⟨vs,h1,h2⟩
  ·rw[h1]at Ly;rw[ahA (b:=c) (by rw[Ly];simp only[den])];simp only;rw[h2];cases c<;>cases want<;>rfl
  ·rw[h1]at Ly;rcases ahB (a:=a) (t:=t) (vs:=vs) (by rw[Ly];simp only[den])with h3|h3
   ·rw[h3,h2];rfl
   ·rw[h3,h2];rfl
def Ha {a:Act} {fr:List V} {o:aw} (hs:∀cs b,o.op≠.select cs b) (hy:∀t∈KD l.toArray o,cW a t=den ids (nth fr t)):execOp a.eval o=execOp (act ids fr).eval o:=by
 refine execOp_congr o hs ?_;intro x hx;cases x with
 |tmp t=>
  rw[Ru,Ru,Rv];refine hy t ?_;unfold KD;exact pS _ (List.mem_filterMap.2 ⟨.tmp t,by simpa using hx,rfl⟩)
 |const v=>rfl
 |global g=>rfl
 |func f=>rfl
def Rw {bl:List VB} {R:List ao} {ms:List Nat} {w0:aj} {fr:List V} {o:aw} {v:V} (hg:Gl C.gl ids) (hl:ids.length=bl.length) (S:St ms w0 (lits ids ids bl++R) w) (h:G_ C bl fr o v):
 (execOp (act ids fr).eval o).run C.P w=.ok (.value (den ids v)) w:=by
 have bd:=λx=>ZW (fr:=fr) hg x;rcases h with(h|⟨b0,p,h,hp⟩)|⟨t,x,ho,h⟩
 ·exact ZG bd o v h
 ·exact ZU bd o h hp
 ·have:=h.run hl S;unfold execOp;simp only[ho,bd,bz,this];rfl
def ahD {call:lI G} {o:aw} {fr:List V} {bl:List VB} {ch:List G} {k:jn G} (hf:kJ o=af) (h:o8 C call o fr bl ch k):∃v,G_ C bl fr o v/\k (put fr o.dst v) bl ch:=by
 unfold o8 at h;split at h
 ·rename_i t x ho;split at h
  ·rename_i v hv;exact⟨v,.inr ⟨t,x,ho,.inl hv⟩,h⟩
  ·split at h
   ·rename_i p v hv;exact⟨v,.inr ⟨t,x,ho,.inr ⟨p,hv,h.1⟩⟩,h.2⟩
   ·exact h.elim
 ·rename_i t x y ho;simp[kJ,zZ,ho]at hf
 ·rename_i op h1 h2;split at h
  ·rename_i p v hv;exact⟨v,.inl (.inr ⟨_,p,hv,h.1⟩),h.2⟩
  split at h
  ·rename_i v hv;exact⟨v,.inl (.inl hv),h⟩
  ·exfalso;unfold kJ zZ at hf;split at h
   ·rename_i v b hv;unfold D9 at hv;split at hv<;>simp_all
   ·split at h
    ·rename_i f args hv;unfold callee at hv;split at hv
     ·rename_i c hc;split at hv
      ·rename_i fo uw;obtain⟨mR,ar,ts⟩:=c;simp only at uw;subst uw;rw[hc]at hf;simp at hf
      ·rename_i r nm uw;obtain⟨mR,ar,ts⟩:=c;simp only at uw;subst uw;rw[hc]at hf;simp at hf
      ·cases hv
     ·cases hv
    ·split at h
     ·rename_i lp args hv;unfold Ee at hv;split at hv
      ·rename_i c hc;split at hv
       ·rename_i fo uw;obtain⟨mR,ar,ts⟩:=c;simp only at uw;subst uw;rw[hc]at hf;simp at hf
       ·cases hv
      ·cases hv
     cases hq:BU o.op with
     |false=>rw[hq]at h;exact h
     |true=>
      unfold BU at hq;split at hq<;>simp_all
end
structure DI (C:Ctx G) (call:lI G) (q:Nat->Bool) (l:List aw) (pm:List Nat) (R:List ao) (ms:List Nat) (w0:aj) (k:jn G) (ew:List V) (eY:List Nat)
 (cU rest:List Nat) (fr:List V) (ids:List Nat) (bl:List VB) (ch:List G) (Z:List (Nat×ao)) (listed:Array Bool) (a:Act) (w:aj):Prop where
 lL:lK (xn q l pm) (cU++rest)=af
 xq:z3 l pm rest=af
 nC:∀i,i<l.length->i∈cU++rest
 nD:∀i∈cU++rest,i<l.length
 nd:(cU++rest).Nodup
 pa:l.all (Lt C fr.length)=af
 xu:∀i∈cU++rest,gG pm i i=ag
 ls:listed.size=l.length
 sZ:∀i∈cU,kJ (bF l i)=ag->listed[i]?=aa af
 mS:∀i∈rest,hU (bF l i)=ag->listed[i]?=aa ag
 back:∀j,listed[j]?=aa af->∀i,gG pm i j=af->listed[i]?=aa af
 vc:jL C call l.toArray (vH l rest) fr bl ch k
 sz:a.tmps.size=fr.length
 df:a.defers=[]
 slot:∀t,(∀i∈cU,(bF l i).dst=aa t->listed[i]?=aa af)->(∀i∈rest,(bF l i).dst=aa t->listed[i]?=aa ag)->cW a t=den ids (nth fr t)
 old:∀i∈cU,listed[i]?=aa ag->∀t,(bF l i).dst=aa t->cW a t=den ids (nth ew t)
 ux:∀t,(∀i∈cU,(bF l i).dst≠aa t)->nth fr t=nth ew t
 aV:∀i∈cU,listed[i]?=aa ag->∃kz v b,Rec C l pm ew fr bl i kz v b
 s7:∀i∈rest,listed[i]?=aa af->∃b t z d,(i,(⟨b,af,.cells (ak [] z).toArray t (0,0)⟩:ao))∈Z/\(bF l i).op=.alloc t/\me C.P t=aa z/\(bF l i).dst=aa d/\cW a d=.pointer (aa ⟨b,0,ae⟩)
 ou:∀p∈Z,p.1∈rest/\listed[p.1]?=aa af
 Ej:(Z.map (·.1)).Nodup
 S:St ms w0 (lits ids ids bl++au ch (Z.map (·.2)++R)) w
 hl:ids.length=bl.length
 gl:Gl C.gl ids
 BX:bu ids.length ew=af
 Ek:∃m,ids=eY++m
section
variable{C:Ctx G} {call:lI G} {q:Nat->Bool} {l:List aw} {pm:List Nat} {R:List ao} {ms:List Nat} {w0:aj} {k:jn G} {ew fr:List V} {eY:List Nat}
 {cU rest:List Nat} {ids:List Nat} {bl:List VB} {ch:List G} {Z:List (Nat×ao)} {listed:Array Bool} {a:Act} {w:aj} {Q:dE->Act->aj->Prop}
def Z4:∀(fr:List V) (t:Nat) (x:V),(ma fr t x).length=fr.length
 |[],_,_=>rfl
 |_::_,0,_=>rfl
 |_::l,t+1,x=>by simp[zK,zL,zM,Z4 l t x]
def El (d:Option Tmp) (x:V):(put fr d x).length=fr.length:=by cases d<;>simp[put,Z4]
def Rx:∀(fr:List V) (t u:Nat) (x:V),t<fr.length->nth (ma fr t x) u=if u=t then x else nth fr u
 |[],t,u,x,h=>by simp at h
 |v::l,0,0,x,_=>by simp[zK,zL,zM,lD,lE,kX]
 |v::l,0,u+1,x,_=>by simp[zK,zL,zM,lD,lE,kX]
 |v::l,t+1,0,x,_=>by simp[zK,zL,zM,lD,lE,kX]
 |v::l,t+1,u+1,x,h=>by simp[zK,zL,zM,lD,lE,kX,Rx l t u x (by simpa using h)]
def Ry {d:Option Tmp} {x:V} (t:Tmp) (hd:∀u,d=aa u->u<fr.length):(d=aa t->nth (put fr d x) t=x)/\(d≠aa t->nth (put fr d x) t=nth fr t):=by
 cases d with
 |none=>exact⟨λh=>(nomatch h),λ_=>rfl⟩
 |some u=>
  refine⟨λh=>?_,λh=>?_⟩
  ·cases h;simp only[put];rw[Rx _ _ _ _ (hd _ rfl),if_pos rfl]
  ·simp only[put];rw[Rx _ _ _ _ (hd u rfl),if_neg (λe=>h (by rw[e]))]
def z6 {n:Nat} (h:l.all (Lt C n)=af) {i:Nat} {o:aw} (ho:l[i]?=aa o):(∀t,o.dst=aa t->t<n)/\(∀cs b,o.op≠.select cs b)/\
 (hU o=af->o.guard=ae/\∃d t z,o.dst=aa d/\o.op=.alloc t/\me C.P t=aa z):=by
 have h1:=gQ.1 h o (sE ho);unfold Lt at h1;simp only[bD]at h1;obtain⟨⟨a1,a2⟩,a3⟩:=h1;refine⟨?_,?_,?_⟩
 ·intro t ht;rw[ht]at a1;rw[jt]at a1;exact a1
 ·intro cs b e;rw[e]at a2;cases a2
 ·intro ha;rw[ha]at a3;simp only[cond_true]at a3;split at a3
  ·rename_i d t hg hd ho;split at a3
   ·rename_i z hz;exact⟨hg,d,t,z,hd,ho,hz⟩
   ·cases a3
  ·cases a3
namespace DI
def at_ (D:DI C call q l pm R ms w0 k ew eY cU rest fr ids bl ch Z listed a w) {i:Nat} (h:i∈cU++rest):l[i]?=aa (bF l i):=by
 have:=D.nD i h;rw[jY this];rw[Lw (jY this)]
def mem_of (D:DI C call q l pm R ms w0 k ew eY cU rest fr ids bl ch Z listed a w) {i t:Nat} (h:(bF l i).dst=aa t):i∈cU++rest:=by
 have:=ahz h;exact D.nC i (by rcases c9 i l.length with h'|h';exact h';simp[h']at this)
def bit (D:DI C call q l pm R ms w0 k ew eY cU rest fr ids bl ch Z listed a w) {i:Nat} (h:i∈cU++rest):listed[i]?=aa af\/listed[i]?=aa ag:=mI D.ls (D.nD i h)
def uniq (D:DI C call q l pm R ms w0 k ew eY cU rest fr ids bl ch Z listed a w) {i j t:Nat} (hi:(bF l i).dst=aa t) (hj:(bF l j).dst=aa t):i=j:=by
 refine Classical.byContradiction λcL=>?_;rcases Rr D.lL i (D.mem_of hi) j (D.mem_of hj) cL with h|h
 ·exact(uv h).ww t hi hj
 ·exact(uv h).ww t hj hi
def ahead (D:DI C call q l pm R ms w0 k ew eY cU rest fr ids bl ch Z listed a w) {i j:Nat} (hi:i∈cU) (hj:j∈rest):Rt q l pm i j:=uv ((BW D.lL).1 i hi j hj)
def apart (D:DI C call q l pm R ms w0 k ew eY cU rest fr ids bl ch Z listed a w) {i:Nat} (hi:i∈cU) (hj:i∈rest):False:=(List.nodup_append.1 D.nd).2.2 i hi i hj rfl
def Rz (D:DI C call q l pm R ms w0 k ew eY cU rest fr ids bl ch Z listed a w) {i:Nat} (hi:i∈cU) (hu:listed[i]?=aa ag) (hp:∀h,gG pm h i=af->listed[h]?=aa af) {kz:List V} {v:V} {b:Bool}
 (r:Rec C l pm ew fr bl i kz v b):∀t∈looks l i,cW a t=den ids (nth kz t):=by
 intro t ht;by_cases hw:∃h,(bF l h).dst=aa t
 ·obtain⟨h,hd⟩:=hw;cases hb:gG pm h i with
  |true=>
   rw[r.w1 t ht h hd hb];refine D.slot t ?_ ?_
   ·intro i' l7 gH;rw[D.uniq gH hd];exact hp h hb
   ·intro i' l7 gH;have:=(D.ahead hi (D.uniq gH hd▸l7)).nb;rw[hb]at this;cases this
  |false=>
   rw[r.w0 t ht (λh' gH=>by rw[D.uniq gH hd];exact hb)];by_cases he:h=i
   ·subst he;exact D.old h hi hu t hd
   ·have hm:=D.mem_of hd;have GH:gG pm i h=af:=by
     rcases Rr D.lL h hm i (by simp[hi]) he with p|p
     ·have:=(uv p).wi t hd ht;rw[hb]at this;cases this
     ·exact(uv p).wj t hd ht
    have Z5:listed[h]?=aa ag:=by
     rcases D.bit hm with e|e
     ·have:=D.back h e i GH;rw[hu]at this;cases this
     ·exact e
    rcases eI.1 hm with hm|hm
    ·exact D.old h hm Z5 t hd
    ·rw[<-D.ux t (λi' l7 gH=>D.apart l7 (D.uniq gH hd▸hm))];refine D.slot t ?_ ?_
     ·intro i' l7 gH;exact(D.apart l7 (D.uniq gH hd▸hm)).elim
     ·intro i' l7 gH;rw[D.uniq gH hd];exact Z5
 ·rw[r.w0 t ht (λh hd=>(hw ⟨h,hd⟩).elim),<-D.ux t (λi' _ gH=>hw ⟨i',gH⟩)];exact D.slot t (λi' _ gH=>(hw ⟨i',gH⟩).elim) (λi' _ gH=>(hw ⟨i',gH⟩).elim)
def ahE (D:DI C call q l pm R ms w0 k ew eY cU rest fr ids bl ch Z listed a w) {i:Nat} {r:List Nat} (hr:rest=i::r) (hu:listed[i]?=aa ag) (hp:∀h,gG pm h i=af->listed[h]?=aa af):
 ∀t∈looks l i,cW a t=den ids (nth fr t):=by
 intro t ht;refine D.slot t ?_ ?_
 ·intro h hh hd;exact hp h ((D.ahead hh (by rw[hr];simp)).wi t hd ht)
 ·intro h hh hd;rcases D.bit (i:=h) (by simp[hh])with e|e
  ·exfalso;rw[hr]at hh;rcases cF.1 hh with rfl|hh
   ·rw[hu]at e;cases e
   ·have xw:=(BW D.lL).2.2;rw[hr]at xw;simp only[lK,bD,gQ]at xw;have:=(uv (xw.1 h hh)).wj t hd ht;have:=D.back h e i this;rw[hu]at this;cases this
  ·exact e
end DI
end
section
variable{C:Ctx G} {call:lI G} {q:Nat->Bool} {l:List aw} {pm:List Nat} {R:List ao} {ms:List Nat} {w0:aj} {k:jn G} {ew fr:List V} {eY:List Nat}
 {cU rest:List Nat} {ids:List Nat} {bl:List VB} {ch:List G} {Z:List (Nat×ao)} {listed:Array Bool} {a:Act} {w:aj} {Q:dE->Act->aj->Prop}
def RA {i j:Nat} {b:Bool} (hi:i<listed.size):(listed.setIfInBounds i af)[j]?=aa b↔(j=i/\b=af)\/(j≠i/\listed[j]?=aa b):=by
 rw[su];by_cases h:i=j
 ·subst h;simp[hi]
 ·rw[if_neg h];constructor
  ·intro e;exact .inr ⟨λx=>h x.symm,e⟩
  ·rintro(⟨e,_⟩|⟨_,e⟩)
   ·exact absurd e.symm h
   ·exact e
def RC {a:Act} {d:Option Tmp} {v:ai} (hd:∀u,d=aa u->u<a.tmps.size) (t:Tmp):(d=aa t->cW (a.put d v) t=v)/\(d≠aa t->cW (a.put d v) t=cW a t):=by
 cases d with
 |none=>exact⟨λh=>(nomatch h),λ_=>rfl⟩
 |some u=>
  refine⟨λh=>?_,λh=>?_⟩
  ·cases h;rw[zE _ _ _ _ (hd _ rfl),if_pos rfl]
  ·rw[zE _ _ _ _ (hd u rfl),if_neg (λe=>h (by rw[e]))]
namespace DI
def RD (D:DI C call q l pm R ms w0 k ew eY cU rest fr ids bl ch Z listed a w) {i:Nat} (hi:i∈cU) (hu:listed[i]?=aa ag) (hp:∀h,gG pm h i=af->listed[h]?=aa af) {kz:List V} {v:V} {b:Bool}
 (r:Rec C l pm ew fr bl i kz v b):DI C call q l pm R ms w0 k ew eY cU rest fr ids bl ch Z (listed.setIfInBounds i af) (a.put (bF l i).dst (den ids v)) w:=by
 have jg:i<listed.size:=by rw[D.ls];exact D.nD i (by simp[hi])
 have sg:=λj b=>RA (listed:=listed) (j:=j) (b:=b) jg;have hd:∀u,(bF l i).dst=aa u->u<a.tmps.size:=λu hu=>by rw[D.sz];exact(z6 D.pa (D.at_ (by simp[hi]))).1 u hu
 have yp:=RC (v:=den ids v) hd;refine{D with ls:=by simpa using D.ls,sZ:=?_,mS:=?_,back:=?_,sz:=by rw[size_put];exact D.sz,df:=by rw[Bw];exact D.df,slot:=?_,old:=?_,aV:=?_,s7:=?_,ou:=λp hp=>⟨(D.ou p hp).1,(sg _ _).2 (.inr ⟨λe=>D.apart hi (e▸(D.ou p hp).1),(D.ou p hp).2⟩)⟩}
 ·intro j hj hf;exact(sg _ _).2 (by by_cases e:j=i;exact .inl ⟨e,rfl⟩;exact .inr ⟨e,D.sZ j hj hf⟩)
 ·intro j hj hf;exact(sg _ _).2 (.inr ⟨λe=>D.apart hi (e▸hj),D.mS j hj hf⟩)
 ·intro j hj h hb;refine(sg _ _).2 ?_;rcases(sg _ _).1 hj with⟨rfl,_⟩|⟨cL,hj⟩
  ·by_cases e:h=j
   ·exact .inl ⟨e,rfl⟩
   ·exact .inr ⟨e,hp h hb⟩
  ·by_cases e:h=i
   ·exact .inl ⟨e,rfl⟩
   ·exact .inr ⟨e,D.back j hj h hb⟩
 ·intro t h1 h2;by_cases e:(bF l i).dst=aa t
  ·rw[(yp t).1 e,r.val t e]
  ·rw[(yp t).2 e];refine D.slot t ?_ ?_
   ·intro j hj gH;rcases(sg _ _).1 (h1 j hj gH)with⟨rfl,_⟩|⟨_,h⟩
    ·exact absurd gH e
    ·exact h
   ·intro j hj gH;rcases(sg _ _).1 (h2 j hj gH)with⟨_,h⟩|⟨_,h⟩
    ·cases h
    ·exact h
 ·intro j hj eJ t ht;rcases(sg _ _).1 eJ with⟨_,h⟩|⟨cL,h⟩
  ·cases h
  ·rw[(yp t).2 (λe=>cL (D.uniq ht e))];exact D.old j hj h t ht
 ·intro j hj eJ;rcases(sg _ _).1 eJ with⟨_,h⟩|⟨cL,h⟩
  ·cases h
  ·exact D.aV j hj h
 ·intro j hj eJ;rcases(sg _ _).1 eJ with⟨rfl,_⟩|⟨cL,h⟩
  ·exact(D.apart hi hj).elim
  ·obtain⟨b,t,z,d,h1,h2,h3,h4,h5⟩:=D.s7 j hj h;exact⟨b,t,z,d,h1,h2,h3,h4,by rw[(yp d).2 (λe=>cL (D.uniq h4 e))];exact h5⟩
def RE (b:ao) (X:List ao):∀ch:List G,(b::au ch X).Perm (au ch (b::X))
 |[]=>zq _
 |c::ch=>by
  simp only[au];exact(kH.symm).trans (j4 (Bl.B c) (RE b X ch))
def ahF {P:aG} {t:aM} {z:List V} (h:me P t=aa z) (ids:List Nat):ak ids z=ak [] z:=by
 unfold me at h;split at h
 ·split at h
  ·rename_i v hv;simp only[aW]at h;subst h;rw[QM,QM];cases v<;>simp[D6,ky,ak,cl,den,Lf]
  ·cases h
 ·cases h
def ahG (D:DI C call q l pm R ms w0 k ew eY cU rest fr ids bl ch Z listed a w) {i d:Nat} {t:aM} {z:List V} (hi:i∈rest) (hu:listed[i]?=aa ag) (hp:∀h,gG pm h i=af->listed[h]?=aa af)
 (ho:(bF l i).op=.alloc t) (hz:me C.P t=aa z) (hd:(bF l i).dst=aa d):
 DI C call q l pm R ms w0 k ew eY cU rest fr ids bl ch ((i,⟨w.heap.size,af,.cells (ak [] z).toArray t (0,0)⟩)::Z) (listed.setIfInBounds i af) (a.put (bF l i).dst (.pointer (aa ⟨w.heap.size,0,ae⟩))) (w.alloc (.cells (ak [] z).toArray t)):=by
 have jg:i<listed.size:=by rw[D.ls];exact D.nD i (by simp[hi])
 have sg:=λj b=>RA (listed:=listed) (j:=j) (b:=b) jg;have z7:∀u,(bF l i).dst=aa u->u<a.tmps.size:=λu hu=>by rw[D.sz];exact(z6 D.pa (D.at_ (by simp[hi]))).1 u hu
 have yp:=RC (v:=(.pointer (aa ⟨w.heap.size,0,ae⟩):ai)) z7;have hA:hU (bF l i)=af:=by simp[hU,zZ,ho]
 have hF:kJ (bF l i)=ag:=by simp[kJ,zZ,ho]
 refine{D with ls:=by simpa using D.ls,sZ:=?_,mS:=?_,back:=?_,sz:=by rw[size_put];exact D.sz,df:=by rw[Bw];exact D.df,slot:=?_,old:=?_,aV:=?_,s7:=?_,ou:=?_,Ej:=?_,S:=?_}
 ·intro j hj hf;exact(sg _ _).2 (by by_cases e:j=i;exact .inl ⟨e,rfl⟩;exact .inr ⟨e,D.sZ j hj hf⟩)
 ·intro j hj hf;exact(sg _ _).2 (.inr ⟨λe=>(by rw[e,hA]at hf;cases hf),D.mS j hj hf⟩)
 ·intro j hj h hb;refine(sg _ _).2 ?_;rcases(sg _ _).1 hj with⟨rfl,_⟩|⟨cL,hj⟩
  ·by_cases e:h=j
   ·exact .inl ⟨e,rfl⟩
   ·exact .inr ⟨e,hp h hb⟩
  ·by_cases e:h=i
   ·exact .inl ⟨e,rfl⟩
   ·exact .inr ⟨e,D.back j hj h hb⟩
 ·intro t h1 h2;by_cases e:(bF l i).dst=aa t
  ·rcases(sg _ _).1 (h2 i hi e)with⟨_,h⟩|⟨h,_⟩
   ·cases h
   ·exact absurd rfl h
  ·rw[(yp t).2 e];refine D.slot t ?_ ?_
   ·intro j hj gH;rcases(sg _ _).1 (h1 j hj gH)with⟨rfl,_⟩|⟨_,h⟩
    ·exact absurd gH e
    ·exact h
   ·intro j hj gH;rcases(sg _ _).1 (h2 j hj gH)with⟨_,h⟩|⟨_,h⟩
    ·cases h
    ·exact h
 ·intro j hj eJ t ht;rcases(sg _ _).1 eJ with⟨_,h⟩|⟨cL,h⟩
  ·cases h
  ·rw[(yp t).2 (λe=>cL (D.uniq ht e))];exact D.old j hj h t ht
 ·intro j hj eJ;rcases(sg _ _).1 eJ with⟨_,h⟩|⟨cL,h⟩
  ·cases h
  ·exact D.aV j hj h
 ·intro j hj eJ;rcases(sg _ _).1 eJ with⟨rfl,_⟩|⟨cL,h⟩
  ·exact⟨_,_,_,_,vi ..,ho,hz,hd,(yp d).1 hd⟩
  ·obtain⟨b,t,z,d,h1,h2,h3,h4,h5⟩:=D.s7 j hj h;exact⟨b,t,z,d,qQ _ h1,h2,h3,h4,by rw[(yp d).2 (λe=>cL (D.uniq h4 e))];exact h5⟩
 ·intro p hp;rcases cF.1 hp with rfl|hp
  ·exact⟨hi,(sg _ _).2 (.inl ⟨rfl,rfl⟩)⟩
  ·exact⟨(D.ou p hp).1,(sg _ _).2 (by by_cases e:p.1=i;exact .inl ⟨e,rfl⟩;exact .inr ⟨e,(D.ou p hp).2⟩)⟩
 ·simp only[gb,tS];refine⟨?_,D.Ej⟩;intro hm;obtain⟨p,hp,e⟩:=n8.1 hm;have:=(D.ou p hp).2;rw[e,hu]at this;cases this
 ·have h:=D.S.new (Ch.alloc [] w (.cells (ak [] z).toArray t)) (cY _) (n6 w _);refine h.perm ?_;simp only[gb,fm];exact(kH.symm).trans (j4 _ (RE _ _ _))
end DI
end
mutual
theorem Z6 {n m:Nat} (z_:n<=m):∀v:V,da n v=af->da m v=af
 |.int _ _,_=>by simp[da]
 |.bool _,_=>by simp[da]
 |.ptr i _,h=>by simp only[da,jt]at h⊢;omega
 |.sl i _ _ _,h=>by simp only[da,jt]at h⊢;omega
 |.eW i _ _ _ _,h=>by simp only[da,jt]at h⊢;omega
 |.fn _ a b,h=>by simp only[da,bD]at h⊢;exact⟨xy z_ a h.1,xy z_ b h.2⟩
 |.nz _ v,h=>by simp only[da]at h⊢;exact Z6 z_ v h
 |.agg l,h=>by simp only[da]at h⊢;exact xy z_ l h
 |.ay l,h=>by simp only[da]at h⊢;exact xy z_ l h
 |.cv _ _ _,_=>by simp[da]
 |.arr _ _ _,_=>by simp[da]
 |.dO _ _ _ _,_=>by simp[da]
 |.rest _,_=>by simp[da]
 |.iD _ _ _,_=>by simp[da]
 |.pe i _ _ _ _,h=>by simp only[da,jt]at h⊢;omega
 |.raw _,_=>by simp[da]
theorem xy {n m:Nat} (z_:n<=m):∀l:List V,bu n l=af->bu m l=af
 |[],_=>by simp[bu]
 |v::l,h=>by simp only[bu,bD]at h⊢;exact⟨Z6 z_ v h.1,xy z_ l h.2⟩
end
def Hb {n:Nat}:∀{fr:List V} (t:Nat),bu n fr=af->da n (nth fr t)=af
 |[],_,_=>by simp[lD,lE,kX,fU,da]
 |v::l,0,h=>by simp only[bu,bD]at h;exact h.1
 |v::l,t+1,h=>by simp only[bu,bD]at h;exact Hb t h.2
def ahH {P:aG} {bl e:List VB} {t:aM} {x v:V} (h:vD P bl t x=aa v):vD P (bl++e) t x=aa v:=by
 unfold vD at h⊢;split at h
 ·rename_i i off;split at h
  ·rename_i b hb;have hi:i<bl.length:=by rcases c9 i bl.length with h'|h';exact h';simp[h']at hb
   simp only[gm hi,hb];exact h
  ·cases h
 ·cases h
def Z7 {P:aG} {bl e:List VB} {t:aM} {x v:V} (h:BP P bl t x v):BP P (bl++e) t x v:=by
 rcases h with h|⟨p,h,hp⟩
 ·exact .inl (ahH h)
 ·exact .inr ⟨p,ahl h,hp⟩
def Z8 {X Y:List ao} (h:X.Perm Y):∀ch:List G,(au ch X).Perm (au ch Y)
 |[]=>h
 |c::ch=>j4 (Bl.B c) (Z8 h ch)
section
variable{C:Ctx G} {call:lI G} {q:Nat->Bool} {l:List aw} {pm:List Nat} {R:List ao} {ms:List Nat} {w0:aj} {k:jn G} {ew fr:List V} {eY:List Nat}
 {cU rest:List Nat} {ids:List Nat} {bl:List VB} {ch:List G} {Z:List (Nat×ao)} {listed:Array Bool} {a:Act} {w:aj} {Q:dE->Act->aj->Prop}
def Z9 {o:aw} {L:List aw} (h:jL C call l.toArray (o::L) fr bl ch k):∃b,G9 l fr o b/\(if b then o8 C call o fr bl ch (λfr bl ch=>jL C call l.toArray L fr bl ch k)else jL C call l.toArray L (put fr o.dst fU) bl ch k):=by
 simp only[jL]at h;unfold G9;split at h
 ·rename_i hg;(try rw[hg]);exact⟨af,rfl,h⟩
 ·rename_i j want hg;try rw[hg]
  split at h
  ·exact h.elim
  ·rename_i t hd;split at h
   ·rename_i c hc;have hs:=Lo fr t;rw[hc]at hs;refine⟨c==want,⟨t,hd,.inl ⟨c,hc,rfl⟩⟩,?_⟩;cases c<;>(rw[hs]at h;cases want<;>exact h)
   ·rename_i vs hc;exact⟨ag,⟨t,hd,.inr ⟨vs,hc,rfl⟩⟩,h⟩
   ·exact h.elim
def Rec.frame {i:Nat} {kz:List V} {v:V} {b:Bool} (r:Rec C l pm ew fr bl i kz v b) {fr':List V} {bl':List VB}
 (h1:∀t∈looks l i,∀h,(bF l h).dst=aa t->gG pm h i=af->nth fr' t=nth fr t) (h2:∀d,(bF l i).dst=aa d->nth fr' d=nth fr d)
 (h3:∀t x v,(bF l i).op=.load t x->BP C.P bl t (ev C.gl kz x) v->BP C.P bl' t (ev C.gl kz x) v):Rec C l pm ew fr' bl' i kz v b:=by
 refine⟨λt ht h hd hb=>(r.w1 t ht h hd hb).trans (h1 t ht h hd hb).symm,r.w0,λd hd=>(h2 d hd).trans (r.val d hd),r.g,?_⟩;have e:=r.e;cases b with
 |false=>exact e
 |true=>
  rcases e with e|⟨t,x,ho,e⟩
  ·exact .inl e
  ·exact .inr ⟨t,x,ho,h3 t x v ho e⟩
namespace DI
def ahI {i:Nat} {r:List Nat} (D:DI C call q l pm R ms w0 k ew eY cU (i::r) fr ids bl ch Z listed a w) (hf:kJ (bF l i)=af):∃fr',DI C call q l pm R ms w0 k ew eY (cU++[i]) r fr' ids bl ch Z listed a w:=by
 have nE:(cU++[i])++r=cU++(i::r):=sP;have hA:hU (bF l i)=ag:=by rcases xp (bF l i)with h|h|h<;>simp_all
 have hu:listed[i]?=aa ag:=D.mS i sP hA;have ho:=D.at_ (i:=i) sP;have z7:=(z6 D.pa ho).1;obtain⟨b,hg,hb⟩:=Z9 D.vc;obtain⟨v,hv,cV⟩:∃v,(if b then G_ C bl fr (bF l i) v else v=fU)/\jL C call l.toArray (vH l r) (put fr (bF l i).dst v) bl ch k:=by
  cases b with
  |true=>rw[if_pos rfl]at hb;exact ahD hf hb
  |false=>rw[if_neg sP]at hb;exact⟨fU,rfl,hb⟩
 have np:=λt=>Ry (fr:=fr) (x:=v) t z7;have xz:∀{j},j∈cU->j≠i:=λhj e=>D.apart hj (by rw[e];simp);refine⟨put fr (bF l i).dst v,{D with lL:=by rw[nE];exact D.lL,xq:=?_,nC:=by rw[nE];exact D.nC,nD:=by rw[nE];exact D.nD,nd:=by rw[nE];exact D.nd,pa:=by rw[El];exact D.pa,xu:=by rw[nE];exact D.xu,sZ:=?_,mS:=λj hj=>D.mS j (by simp[hj]),vc:=cV,sz:=by rw[El];exact D.sz,slot:=?_,old:=?_,ux:=?_,aV:=?_,s7:=λj hj=>D.s7 j (by simp[hj]),ou:=?_}⟩
 ·have:=D.xq;simp only[z3,bD]at this;exact this.2
 ·intro j hj xA;rcases eI.1 hj with hj|hj
  ·exact D.sZ j hj xA
  ·obtain rfl:j=i:=by simpa using hj
   rw[hf]at xA;cases xA
 ·intro t h1 h2;by_cases e:(bF l i).dst=aa t
  ·have:=h1 i sP e;rw[hu]at this;cases this
  ·rw[(np t).2 e];refine D.slot t (λj hj=>h1 j (by simp[hj])) ?_;intro j hj hd;rcases cF.1 hj with rfl|hj
   ·exact absurd hd e
   ·exact h2 j hj hd
 ·intro j hj eJ t ht;rcases eI.1 hj with hj|hj
  ·exact D.old j hj eJ t ht
  ·obtain rfl:j=i:=by simpa using hj
   rw[<-D.ux t (λh hh hd=>xz hh (D.uniq hd ht))];refine D.slot t (λh hh hd=>(xz hh (D.uniq hd ht)).elim) ?_;intro h hh hd;rw[D.uniq hd ht];exact hu
 ·intro t h;rw[(np t).2 (h i sP)];exact D.ux t (λj hj=>h j (by simp[hj]))
 ·intro j hj eJ;rcases eI.1 hj with hj|hj
  ·obtain⟨kz,v',b',rr⟩:=D.aV j hj eJ;refine⟨kz,v',b',rr.frame ?_ ?_ (λ_ _ _ _ h=>h)⟩
   ·intro t ht h hd pd;refine(np t).2 (λe=>?_);have:=(D.ahead hj (show i∈i::r by simp)).nb;rw[D.uniq hd e]at pd;rw[pd]at this;cases this
   ·intro d hd;exact(np d).2 (λe=>xz hj (D.uniq hd e))
  ·obtain rfl:j=i:=by simpa using hj
   refine⟨fr,v,b,⟨?_,?_,λd hd=>(np d).1 hd,hg,hv⟩⟩
   ·intro t ht h hd pd;refine((np t).2 (λe=>?_)).symm;rw[D.uniq hd e,D.xu j sP]at pd;cases pd
   ·intro t ht il;exact D.ux t (λh hh hd=>by
     have:=(D.ahead hh (show j∈j::r by simp)).wi t hd ht;rw[il h hd]at this;cases this)
 ·intro p hp;obtain⟨h1,h2⟩:=D.ou p hp;rcases cF.1 h1 with e|h1
  ·rw[e,hu]at h2;cases h2
  ·exact⟨h1,h2⟩
def Hc:∀(r:List Nat) {cU:List Nat} {fr:List V},DI C call q l pm R ms w0 k ew eY cU r fr ids bl ch Z listed a w->∃xB r' fr',DI C call q l pm R ms w0 k ew eY xB r' fr' ids bl ch Z listed a w/\(r'=[]\/∃i s,r'=i::s/\kJ (bF l i)=ag)
 |[],cU,fr,D=>⟨cU,[],fr,D,.inl rfl⟩
 |i::r,cU,fr,D=>by
  cases hf:kJ (bF l i)with
  |false=>exact⟨cU,i::r,fr,D,.inr ⟨i,r,rfl,hf⟩⟩
  |true=>
   obtain⟨fr',D'⟩:=D.ahI hf;exact Hc r D'
def ahJ {i:Nat} {r:List Nat} (D:DI C call q l pm R ms w0 k ew eY cU (i::r) fr ids bl ch Z listed a w) (ha:hU (bF l i)=af) (hi:listed[i]?=aa af):∃fr' ids' bl' Z',DI C call q l pm R ms w0 k ew eY (cU++[i]) r fr' ids' bl' ch Z' listed a w:=by
 have nE:(cU++[i])++r=cU++(i::r):=sP;have ho:=D.at_ (i:=i) sP;have z7:=(z6 D.pa ho).1;obtain⟨zY,_⟩:=(z6 D.pa ho).2.2 ha;obtain⟨b,t,z,d,hz,jm,Z_,hd,hy⟩:=D.s7 i sP hi;obtain⟨Z1,Z2,rfl⟩:=List.append_of_mem hz;have cV:=D.vc;simp only[vH,gb,jL,zY,o8,jm,BQ,BL,D9,Z_]at cV;cases hq:bu bl.length fr&&(bY bl.length bl&&bu bl.length z)with
 |false=>rw[hq]at cV;exact cV.elim
 |true=>
  rw[hq]at cV;simp only[bD,<-D.hl]at hq;have cV:jL C call l.toArray (vH l r) (put fr (bF l i).dst (.ptr bl.length 0)) (bl++[⟨af,t,z⟩]) ch k:=cV;have np:=λt=>Ry (fr:=fr) (x:=V.ptr bl.length 0) t z7;have xz:∀{j},j∈cU->j≠i:=λhj e=>D.apart hj (by rw[e];simp);refine⟨_,ids++[b],_,Z1++Z2,{D with lL:=by rw[nE];exact D.lL,xq:=?_,nC:=by rw[nE];exact D.nC,nD:=by rw[nE];exact D.nD,nd:=by rw[nE];exact D.nd,pa:=by rw[El];exact D.pa,xu:=by rw[nE];exact D.xu,sZ:=?_,mS:=λj hj=>D.mS j (by simp[hj]),vc:=cV,sz:=by rw[El];exact D.sz,slot:=?_,old:=?_,ux:=?_,aV:=?_,s7:=?_,ou:=?_,Ej:=?_,S:=?_,hl:=by simp[D.hl],gl:=D.gl.app _,BX:=xy sP _ D.BX,Ek:=by obtain⟨m,e⟩:=D.Ek;exact⟨m++[b],by rw[e,bW]⟩}⟩
  ·have:=D.xq;simp only[z3,bD]at this;exact this.2
  ·intro j hj xA;rcases eI.1 hj with hj|hj
   ·exact D.sZ j hj xA
   ·obtain rfl:j=i:=by simpa using hj
    exact hi
  ·intro u h1 h2;by_cases e:(bF l i).dst=aa u
   ·rw[(np u).1 e];obtain rfl:d=u:=by rw[hd]at e;simpa using e
    rw[hy];simp only[den,<-D.hl,lG]
   ·rw[(np u).2 e,g_ _ (Hb u hq.1)];refine D.slot u (λj hj=>h1 j (by simp[hj])) ?_;intro j hj gH;rcases cF.1 hj with rfl|hj
    ·exact absurd gH e
    ·exact h2 j hj gH
  ·intro j hj eJ u hu;rcases eI.1 hj with hj|hj
   ·rw[g_ _ (Hb u D.BX)];exact D.old j hj eJ u hu
   ·obtain rfl:j=i:=by simpa using hj
    rw[hi]at eJ;cases eJ
  ·intro u h;rw[(np u).2 (h i sP)];exact D.ux u (λj hj=>h j (by simp[hj]))
  ·intro j hj eJ;rcases eI.1 hj with hj|hj
   ·obtain⟨kz,v',b',rr⟩:=D.aV j hj eJ;refine⟨kz,v',b',rr.frame ?_ ?_ (λ_ _ _ _ h=>Z7 h)⟩
    ·intro u hu h hd pd;refine(np u).2 (λe=>?_);have:=(D.ahead hj (show i∈i::r by simp)).nb;rw[D.uniq hd e]at pd;rw[pd]at this;cases this
    ·intro u hd;exact(np u).2 (λe=>xz hj (D.uniq hd e))
   ·obtain rfl:j=i:=by simpa using hj
    rw[hi]at eJ;cases eJ
  ·intro j hj eJ;obtain⟨b',t',z',d',h1,h2⟩:=D.s7 j (by simp[hj]) eJ;refine⟨b',t',z',d',?_,h2⟩;rcases eI.1 h1 with h1|h1
   ·simp[h1]
   ·rcases cF.1 h1 with e|h1
    ·exfalso;have:j=i:=by simpa using congrArg Prod.fst e
     have hn:=(List.nodup_append.1 D.nd).2.1;rw[tS]at hn;exact hn.1 (this▸hj)
    ·simp[h1]
  ·intro p hp;obtain⟨h1,h2⟩:=D.ou p (by rcases eI.1 hp with h|h<;>simp[h]);rcases cF.1 h1 with e|h1
   ·exfalso;have hn:=D.Ej;simp only[tX,gb]at hn;have qU:=(List.perm_middle.nodup_iff.1 hn);rw[tS]at qU;refine qU.1 ?_;rw[<-e];rcases eI.1 hp with h|h
    ·exact pS _ (n8.2 ⟨p,h,rfl⟩)
    ·exact List.mem_append_right _ (n8.2 ⟨p,h,rfl⟩)
   ·exact⟨h1,h2⟩
  ·have hn:=D.Ej;simp only[tX,gb]at hn⊢;have qU:=(List.perm_middle.nodup_iff.1 hn);exact(tS.1 qU).2
  ·refine D.S.perm ?_;rw[fu _ _ _ _ D.hl,fw _ _ hq.2.1];simp only[lits,aC,ahF Z_ (ids++[b])];rw[bW];refine j4 _ ?_;simp only[tX,gb,fm,fQ,bW];exact(Z8 kH ch).trans (RE _ _ ch).symm
end DI
end
end Vx
namespace Vx
open Go Go.RowKit Go.BigFrame Sx
variable{G:Type} [Bl G]
def He (q:Nat->Bool) (call:lI G):Prop:=∀f,q f=af->∀args bl ch K,call f args bl ch K->call f args bl ch λv bl' ch'=>K v bl' ch'/\∃e,bl'=bl++e
section
variable{C:Ctx G} {call:lI G} {q:Nat->Bool} {l:List aw} {pm:List Nat} {R:List ao} {ms:List Nat} {w0:aj} {k:jn G} {ew fr:List V} {eY:List Nat}
 {cU rest:List Nat} {ids:List Nat} {bl:List VB} {ch:List G} {Z:List (Nat×ao)} {listed:Array Bool} {a:Act} {w:aj} {Q:dE->Act->aj->Prop}
def ahK (hq:He q call) {o:aw} (ho:vF q o=af) {k:jn G} (h:o8 C call o fr bl ch k):o8 C call o fr bl ch λfr' bl' ch'=>k fr' bl' ch'/\∃e,bl'=bl++e:=by
 unfold o8 at h⊢;split at h
 ·rename_i t x e;split at h
  ·first|exact⟨h,[],sP⟩|(split;exact⟨h,[],sP⟩)
  ·split at h
   ·exact⟨h.1,h.2,[],sP⟩
   ·exact h.elim
 ·rename_i t x y e;simp[vF,e]at ho
 ·rename_i op h1 h2;split at h
  ·exact⟨h.1,h.2,[],sP⟩
  split at h
  ·exact⟨h,[],sP⟩
  ·split at h
   ·cases hb:bu bl.length fr&&(bY bl.length bl&&bu bl.length _)with
    |false=>rw[hb]at h;exact h.elim
    |true=>rw[hb]at h;exact⟨h,_,rfl⟩
   ·split at h
    ·rename_i f args hc;cases hb:bu bl.length fr with
     |false=>rw[hb]at h;exact h.elim
     |true=>
      rw[hb]at h;have hqf:q f=af:=by
       unfold vF at ho;unfold callee at hc;split at ho
       ·rename_i e;simp[e]at hc
       ·rename_i e;simp[e]at hc
       ·rename_i e;simp[e]at hc
       ·rename_i g a1 a2 e;rw[e]at hc;simp only[ev]at hc;cases hk:okF C.P g with
        |false=>rw[hk]at hc;simp at hc
        |true=>
         rw[hk]at hc;simp only[cond_true,aW,bC]at hc;rw[<-hc.1];exact ho
       ·cases ho
      exact hq f hqf _ _ _ _ h
    ·split at h
     ·rename_i lp args hv;exfalso;unfold Ee at hv;split at hv
      ·rename_i c hc;split at hv
       ·rename_i fo uw;obtain⟨mR,ar,ts⟩:=c;simp only at uw;subst uw;unfold vF at ho;rw[hc]at ho;split at hv
        ·rename_i hr;cases fo<;>simp_all[ev]
        ·cases hv
       ·cases hv
      ·cases hv
     cases hk:BU o.op with
     |false=>rw[hk]at h;exact h.elim
     |true=>
      exfalso;unfold vF at ho;unfold BU at hk;split at hk<;>simp_all
namespace DI
def ahL {i:Nat} {r:List Nat} (D:DI C call q l pm R ms w0 k ew eY cU (i::r) fr ids bl ch Z listed a w) (hx:lJ (bF l i)=af) (hp:∀h,gG pm h i=af->listed[h]?=aa af) {x:V} {more:List Nat} {bl':List VB} {ch':List G} {w':aj}
 (cV:jL C call l.toArray (vH l r) (put fr (bF l i).dst x) bl' ch' k) (hl:(ids++more).length=bl'.length) (S:St ms w0 (lits (ids++more) (ids++more) bl'++au ch' (Z.map (·.2)++R)) w') (hw:more=[]\/bu ids.length fr=af) (hq:vF q (bF l i)=af->∃e,bl'=bl++e):
 DI C call q l pm R ms w0 k ew eY (cU++[i]) r (put fr (bF l i).dst x) (ids++more) bl' ch' Z (listed.setIfInBounds i af) (a.put (bF l i).dst (den (ids++more) x)) w':=by
 have nE:(cU++[i])++r=cU++(i::r):=sP;have hA:hU (bF l i)=ag:=by rcases xp (bF l i)with h|h|h<;>simp_all
 have hu:listed[i]?=aa ag:=D.mS i sP hA;have ho:=D.at_ (i:=i) sP;have z7:=(z6 D.pa ho).1;have jg:i<listed.size:=by rw[D.ls];exact D.nD i sP
 have sg:=λj b=>RA (listed:=listed) (j:=j) (b:=b) jg;have np:=λt=>Ry (fr:=fr) (x:=x) t z7;have yp:=RC (a:=a) (v:=den (ids++more) x) (d:=(bF l i).dst) (λu hu=>by rw[D.sz];exact z7 u hu);have xz:∀{j},j∈cU->j≠i:=λhj e=>D.apart hj (by rw[e];simp);have RF:∀{j},j∈r->j≠i:=λhj e=>by
  have hn:=(List.nodup_append.1 D.nd).2.1;rw[tS]at hn;exact hn.1 (e▸hj)
 have dn:∀u,den (ids++more) (nth fr u)=den ids (nth fr u):=λu=>by
  rcases hw with rfl|hw
  ·simp
  ·exact g_ _ (Hb u hw)
 refine{D with lL:=by rw[nE];exact D.lL,xq:=?_,nC:=by rw[nE];exact D.nC,nD:=by rw[nE];exact D.nD,nd:=by rw[nE];exact D.nd,pa:=by rw[El];exact D.pa,xu:=by rw[nE];exact D.xu,ls:=by simpa using D.ls,sZ:=?_,mS:=?_,back:=?_,vc:=cV,sz:=by rw[El,size_put];exact D.sz,df:=by rw[Bw];exact D.df,slot:=?_,old:=?_,ux:=?_,aV:=?_,s7:=?_,ou:=?_,S:=S,hl:=hl,gl:=D.gl.app _,BX:=xy sP _ D.BX,Ek:=by obtain⟨m,e⟩:=D.Ek;exact⟨m++more,by rw[e,bW]⟩}
 ·have:=D.xq;simp only[z3,bD]at this;exact this.2
 ·intro j hj xA;refine(sg _ _).2 ?_;rcases eI.1 hj with hj|hj
  ·exact .inr ⟨xz hj,D.sZ j hj xA⟩
  ·exact .inl ⟨by simpa using hj,rfl⟩
 ·intro j hj xA;exact(sg _ _).2 (.inr ⟨RF hj,D.mS j (by simp[hj]) xA⟩)
 ·intro j hj h hb;refine(sg _ _).2 ?_;rcases(sg _ _).1 hj with⟨rfl,_⟩|⟨cL,hj⟩
  ·by_cases e:h=j
   ·exact .inl ⟨e,rfl⟩
   ·exact .inr ⟨e,hp h hb⟩
  ·by_cases e:h=i
   ·exact .inl ⟨e,rfl⟩
   ·exact .inr ⟨e,D.back j hj h hb⟩
 ·intro t h1 h2;by_cases e:(bF l i).dst=aa t
  ·rw[(yp t).1 e,(np t).1 e]
  ·rw[(yp t).2 e,(np t).2 e,dn];refine D.slot t ?_ ?_
   ·intro j hj hd;rcases(sg _ _).1 (h1 j (by simp[hj]) hd)with⟨h,_⟩|⟨_,h⟩
    ·exact absurd h (xz hj)
    ·exact h
   ·intro j hj hd;rcases cF.1 hj with rfl|hj
    ·exact absurd hd e
    ·rcases(sg _ _).1 (h2 j hj hd)with⟨_,h⟩|⟨_,h⟩
     ·cases h
     ·exact h
 ·intro j hj eJ t ht;rcases(sg _ _).1 eJ with⟨_,h⟩|⟨cL,h⟩
  ·cases h
  ·rcases eI.1 hj with hj|hj
   ·rw[(yp t).2 (λe=>cL (D.uniq ht e)),g_ _ (Hb t D.BX)];exact D.old j hj h t ht
   ·exact absurd (by simpa using hj) cL
 ·intro t h;rw[(np t).2 (h i sP)];exact D.ux t (λj hj=>h j (by simp[hj]))
 ·intro j hj eJ;rcases(sg _ _).1 eJ with⟨_,h⟩|⟨cL,h⟩
  ·cases h
  ·rcases eI.1 hj with hj|hj
   ·obtain⟨kz,v',b',rr⟩:=D.aV j hj h;have P:=D.ahead hj (show i∈i::r by simp);refine⟨kz,v',b',rr.frame ?_ ?_ ?_⟩
    ·intro t ht h hd pd;refine(np t).2 (λe=>?_);have:=P.nb;rw[D.uniq hd e]at pd;rw[pd]at this;cases this
    ·intro d hd;exact(np d).2 (λe=>xz hj (D.uniq hd e))
    ·intro t y v jm xk;rcases P.ld hx (by simp[Rl,jm])with hb|hb
     ·have:=hp j hb;rw[h]at this;cases this
     ·obtain⟨e,rfl⟩:=hq hb;exact Z7 xk
   ·exact absurd (by simpa using hj) cL
 ·intro j hj eJ;rcases(sg _ _).1 eJ with⟨h,_⟩|⟨cL,h⟩
  ·exact absurd h (RF hj)
  ·obtain⟨b,t,z,d,h1,h2,h3,h4,h5⟩:=D.s7 j (by simp[hj]) h;exact⟨b,t,z,d,h1,h2,h3,h4,by rw[(yp d).2 (λe=>cL (D.uniq h4 e))];exact h5⟩
 ·intro p RG;obtain⟨h1,h2⟩:=D.ou p RG;rcases cF.1 h1 with e|h1
  ·rw[e,hu]at h2;cases h2
  ·exact⟨h1,(sg _ _).2 (.inr ⟨RF h1,h2⟩)⟩
def aaa:∀(r:List Nat) {cU:List Nat} {fr:List V} {ids:List Nat} {bl:List VB} {Z:List (Nat×ao)} {i:Nat},DI C call q l pm R ms w0 k ew eY cU r fr ids bl ch Z listed a w->o_ l r=aa i->(∀h,gG pm h i=af->listed[h]?=aa af)->
 ∃xB r' fr' ids' bl' Z',DI C call q l pm R ms w0 k ew eY xB (i::r') fr' ids' bl' ch Z' listed a w
 |[],_,_,_,_,_,_,_,h,_=>by simp[o_]at h
 |j::r,cU,fr,ids,bl,Z,i,D,h,hp=>by
  have ru:=D.xq;simp only[z3,bD]at ru;unfold o_ at h;cases hA:hU (bF l j)with
  |false=>
   rw[hA]at h;obtain rfl:j=i:=by simpa using h
   exact⟨cU,r,fr,ids,bl,Z,D⟩
  |true=>
   rw[hA]at h ru;simp only[cond_true]at h ru;rw[h]at ru;simp only[bD]at ru;obtain⟨fr',ids',bl',Z',D'⟩:=D.ahJ hA (hp j ru.1.2);exact aaa r D' h hp
def aab (D:DI C call q l pm R ms w0 k ew eY cU rest fr ids bl ch Z listed a w) (h:rest=[]\/∃i s,rest=i::s/\kJ (bF l i)=ag):rest=[]\/∃x,o_ l rest=aa x/\x∈rest/\lJ (bF l x)=af:=by
 rcases h with h|⟨i,s,rfl,hf⟩
 ·exact .inl h
 ·refine .inr ?_;have nm:∀(r:List Nat) x,o_ l r=aa x->x∈r:=by
   intro r;induction r with
   |nil=>intro x h;simp[o_]at h
   |cons y r ih=>
    intro x h;unfold o_ at h;cases hA:hU (bF l y)with
    |true=>rw[hA]at h;exact qQ _ (ih x h)
    |false=>rw[hA]at h;simp at h;simp[h]
  rcases xp (bF l i)with⟨h1,h2,h3⟩|⟨h1,h2,h3⟩|⟨h1,h2,h3⟩
  ·rw[hf]at h1;cases h1
  ·have ru:=D.xq;simp only[z3,bD,h2,cond_true]at ru;cases hn:o_ l s with
   |none=>rw[hn]at ru;simp at ru
   |some x=>
    rw[hn]at ru;simp only[bD]at ru;exact⟨x,by unfold o_;rw[h2];exact hn,qQ _ (nm s x hn),ru.1.1⟩
  ·exact⟨i,by unfold o_;rw[h2];rfl,sP,h3⟩
end DI
end
section
variable{C:Ctx G} {call:lI G} {q:Nat->Bool} {l:List aw} {pm:List Nat} {R:List ao} {ms:List Nat} {w0:aj} {k:jn G} {ew fr:List V} {eY:List Nat}
 {cU rest:List Nat} {ids:List Nat} {bl:List VB} {ch:List G} {Z:List (Nat×ao)} {listed:Array Bool} {a:Act} {w:aj} {Q:dE->Act->aj->Prop}
namespace DI
def first (h:lK (xn q l pm) rest=af) {x:Nat} (hn:o_ l rest=aa x):∀i∈rest,hU (bF l i)=ag->i=x\/Rt q l pm x i:=by
 induction rest with
 |nil=>simp[o_]at hn
 |cons y r ih=>
  intro i hi ha;simp only[lK,bD,gQ]at h;unfold o_ at hn;cases hA:hU (bF l y)with
  |true=>
   rw[hA]at hn;rcases cF.1 hi with rfl|hi
   ·rw[hA]at ha;cases ha
   ·exact ih h.2 hn i hi ha
  |false=>
   rw[hA]at hn;obtain rfl:y=x:=by simpa using hn
   rcases cF.1 hi with e|hi
   ·exact .inl e
   ·exact .inr (uv (h.1 i hi))
def RH (h:z5 l l.length=af) {i:Nat} {o:aw} (ho:l[i]?=aa o) {e:Edge} (he:e∈o.after) (hb:sw .any e=af):e.on<l.length:=by
 have h1:=gQ.1 h o (sE ho);have h2:=Kv.1 h1 e he;rw[hb]at h2;simpa[jt]using h2
def stuck (D:DI C call q l pm R ms w0 k ew eY cU rest fr ids bl ch Z listed a w) (Em:vG l pm=af) (gU:z5 l l.length=af) (hr:sD .any l.toArray listed=[]):
 ∀(b c:List Nat),cU++rest=c++b->(∀i∈c,listed[i]?=aa af)->∀i∈b,listed[i]?=aa af:=by
 intro b;induction b with
 |nil=>intro c _ _ i hi;cases hi
 |cons x b ih=>
  intro c hc hl;have hx:x∈cU++rest:=by rw[hc];simp
  have h1:listed[x]?=aa af:=by
   rcases D.bit hx with h|h
   ·exact h
   ·exfalso;have ho:=D.at_ hx;have hm:x∈sD .any l.toArray listed:=(mJ _ listed x).2 ⟨bF l x,ho,by simp[jG,h],λe he hb=>by
     have cH:=RH gU ho he hb;have pd:gG pm e.on x=af:=by
      unfold gG;rw[ZZ Em ho];exact(Lv pm _ _).2 ⟨e,by simpa using he,hb,.inl rfl⟩
     have hem:=D.nC e.on cH;rw[hc]at hem;have hle:listed[e.on]?=aa af:=by
      rcases eI.1 hem with hm|hm
      ·exact hl _ hm
      ·exfalso;rcases cF.1 hm with h2|h2
       ·have:=D.xu x hx;rw[h2,this]at pd;cases pd
       ·have hp:=D.lL;rw[hc]at hp;have:=(BW hp).2.2;simp only[lK,bD,gQ]at this;have:=(uv (this.1 _ h2)).nb;rw[pd]at this;cases this
     simp[jG,hle]⟩
    rw[hr]at hm;cases hm
  intro i hi;rcases cF.1 hi with rfl|hi
  ·exact h1
  ·refine ih (c++[x]) (by rw[hc];simp) (λj hj=>?_) i hi;rcases eI.1 hj with hj|hj
   ·exact hl j hj
   ·obtain rfl:j=x:=by simpa using hj
    exact h1
def fin (D:DI C call q l pm R ms w0 k ew eY cU rest fr ids bl ch Z listed a w) (hh:rest=[]\/∃i s,rest=i::s/\kJ (bF l i)=ag) (dI:∀i,i<l.length->listed[i]?=aa af):
 k fr bl ch/\a=act ids fr/\St ms w0 (lits ids ids bl++au ch R) w:=by
 rcases D.aab hh with rfl|⟨x,hx,hm,hX⟩
 ·have hZ:Z=[]:=by
   cases Z with
   |nil=>rfl
   |cons p Z=>have:=(D.ou p sP).1;cases this
  refine⟨D.vc,?_,by have:=D.S;rw[hZ]at this;simpa using this⟩;refine P6 (by rw[D.sz];simp[act,rj]) (by rw[D.df];rfl) ?_;intro t;rw[Rv];exact D.slot t (λi hi _=>dI i (D.nD i (by simp[hi]))) (λi hi=>nomatch hi)
 ·have h1:hU (bF l x)=ag:=by rcases xp (bF l x)with h|h|h<;>simp_all
  have:=D.mS x hm h1;rw[dI x (D.nD x (by simp[hm]))]at this;cases this
end DI
def RI {rd:Option Nat} {P:aG} {o:aw} {v:ai} {next:Act->aj->Prop} {w':aj} (hd:∀c,o.op≠.defer c) (h:(execOp a.eval o).run P w=.ok (.value v) w') (hk:next (a.put o.dst v) w'):o.wpIn (FW rd) 0 P a w next Q:=by
 refine⟨λ_ _=>trivial,?_⟩;rw[Oper.semAt_eq _ _ _ hd,h];exact hk
def aac {bl:List VB} {fr:List V} {o:aw} {v:V} (h:G_ C bl fr o v):∀c,o.op≠.defer c:=by
 intro c e;rcases h with(h|⟨b0,p,h,hp⟩)|⟨t,x,ho,h⟩
 ·rw[e]at h;simp[BL]at h
 ·rw[e]at h;simp[BQ]at h
 ·rw[e]at ho;cases ho
def GD {rd:Option Nat} (hc:Ef C.P C.gl call) (BY:He q call) (Em:vG l pm=af) (gU:z5 l l.length=af)
 (hk:∀fr' m bl' ch' w',(eY++m).length=bl'.length->St ms w0 (lits (eY++m) (eY++m) bl'++au ch' R) w'->k fr' bl' ch'->Q .normal (act (eY++m) fr') w'):
 ∀(fuel:Nat) {cU rest:List Nat} {fr:List V} {ids:List Nat} {bl:List VB} {ch:List G} {Z:List (Nat×ao)} {listed:Array Bool} {a:Act} {w:aj},
  DI C call q l pm R ms w0 k ew eY cU rest fr ids bl ch Z listed a w->(rest=[]\/∃i s,rest=i::s/\kJ (bF l i)=ag)->listed.toList.count ag=fuel->wpAnyIn (FW rd) 0 C.P .any l.toArray Q fuel listed a w:=by
 have fin:∀{cU rest:List Nat} {fr:List V} {ids:List Nat} {bl:List VB} {ch:List G} {Z:List (Nat×ao)} {listed:Array Bool} {a:Act} {w:aj},
  DI C call q l pm R ms w0 k ew eY cU rest fr ids bl ch Z listed a w->(rest=[]\/∃i s,rest=i::s/\kJ (bF l i)=ag)->(∀i,i<l.length->listed[i]?=aa af)->Q .normal a w:=by
  intro cU rest fr ids bl ch Z listed a w D hh dI;obtain⟨h1,rfl,h3⟩:=D.fin hh dI;obtain⟨m,rfl⟩:=D.Ek;exact hk _ _ _ _ _ D.hl h3 h1
 intro fuel;induction fuel with
 |zero=>
  intro cU rest fr ids bl ch Z listed a w D hh Hf;have dI:∀i,i<l.length->listed[i]?=aa af:=by
   intro i hi;rcases mI D.ls hi with h|h
   ·exact h
   ·exfalso;have:=count_set listed.toList i (by simpa using h);omega
  refine⟨?_,fin D hh dI⟩;refine List.eq_nil_iff_forall_not_mem.2 λi hi=>?_;obtain⟨o,ho,h2,_⟩:=(mJ l listed i).1 hi;have jg:i<l.length:=by rcases c9 i l.length with h|h;exact h;simp[h]at ho
  simp[jG,dI i jg]at h2
 |succ fuel ih=>
  intro cU rest fr ids bl ch Z listed a w D hh Hf;refine⟨λhr=>?_,?_⟩
  ·exfalso;have dI:∀i,i<l.length->listed[i]?=aa af:=λi hi=>D.stuck Em gU hr (cU++rest) [] rfl (λ_ h=>nomatch h) i (D.nC i hi);have:=KY listed.toList l.length 0 (by simpa using D.ls) (λj hj=>by simpa using dI j hj);omega
  ·intro i hi;obtain⟨o,ho,h2,h3⟩:=(mJ l listed i).1 hi;have jg:i<l.length:=by rcases c9 i l.length with h|h;exact h;simp[h]at ho
   have nk:=Lw ho;have hu:listed[i]?=aa ag:=by
    rcases mI D.ls jg with hb|hb
    ·simp[jG,hb]at h2
    ·exact hb
   have hp:∀h,gG pm h i=af->listed[h]?=aa af:=by
    intro h hb;obtain⟨e,he,hbd,qa⟩:=Z0 Em ho hb;have cH:=DI.RH gU ho he hbd;have hl:listed[e.on]?=aa af:=by
     have:=h3 e he hbd;rcases mI D.ls (show e.on<l.length by omega)with hb|hb
     ·exact hb
     ·simp[jG,hb]at this
    rcases qa with rfl|qa
    ·exact hl
    ·exact D.back _ hl h qa
   have BZ:(listed.setIfInBounds i af).toList.count ag=fuel:=by
    have:=count_set listed.toList i (by simpa using hu);simp only[Kx];omega
   have nF:=z6 D.pa ho;have hAt:l.toArray[i]?=aa o:=by simpa using ho
   unfold wpOpIn;rw[hAt];simp only;have hm:=D.nC i jg;rcases eI.1 hm with hm|hm
   ·obtain⟨kz,v,b,r⟩:=D.aV i hm hu;have mK:=D.Rz hm hu hp r;unfold looks at mK;have D':=D.RD hm hu hp r;have rg:=r.g;have re:=r.e;rw[nk]at mK D' rg re;rw[Lx mK rg];cases b with
    |true=>
     rw[if_pos rfl]at re;rw[if_pos rfl];refine RI (aac re) (by rw[Ha nF.2.1 mK,Rw D.gl D.hl D.S re]) ?_;exact ih D' hh BZ
    |false=>
     rw[if_neg sP]at re;rw[if_neg sP];subst re;rw[show(undef:ai)=den ids fU by simp[fU,den]];exact⟨λ_ _=>trivial,ih D' hh BZ⟩
   ·rcases D.aab hh with rfl|⟨x,hx,hxm,hX⟩
    ·cases hm
    have hxA:hU (bF l x)=ag:=by rcases xp (bF l x)with h|h|h<;>simp_all
    have hxu:=D.mS x hxm hxA;have ahM:=DI.first (BW D.lL).2.2 hx;cases hA:hU (bF l i)with
    |true=>
     obtain⟨zY,d,t,z,hd,jm,hz⟩:=nF.2.2 (by rw[<-nk];exact hA);have D':=D.ahG hm hu hp (by rw[nk];exact jm) hz (by rw[nk];exact hd);rw[nk]at D';rw[if_pos (by simp[gk,zY])];have bT:(execOp a.eval o).run C.P w=.ok (.value (.pointer (aa ⟨w.heap.size,0,ae⟩))) (w.alloc (.cells (ak [] z).toArray t)):=by
      obtain⟨v0,z1,z2⟩:=BK (P:=C.P) (w:=w) (ids:=[]) hz;have BM:v0.cells=(ak [] z).toArray:=by apply fD;simpa using z2
      unfold execOp;simp only[jm,Instr.alloc,bz,z1,ct,newVar,newRow,BM];rfl
     exact RI (by rw[jm];simp) bT (ih D' hh BZ)
    |false=>
     have ij:i=x:=by
      rcases ahM i hm hA with h|h
      ·exact h
      ·have:=hp x (h.xj hX hA);rw[hxu]at this;cases this
     subst ij;obtain⟨xB,r',fr',ids',bl',Z',D1⟩:=D.aaa rest hx hp;have mK:=D1.ahE rfl hu hp;unfold looks at mK;obtain⟨b,hg,hb⟩:=Z9 D1.vc;rw[nk]at mK hg hb;rw[Lx mK hg];have RJ:∀{x:V} {more:List Nat} {bl2:List VB} {ch2:List G} {w':aj},jL C call l.toArray (vH l r') (put fr' o.dst x) bl2 ch2 k->(ids'++more).length=bl2.length->St ms w0 (lits (ids'++more) (ids'++more) bl2++au ch2 (Z'.map (·.2)++R)) w'->
      (more=[]\/bu ids'.length fr'=af)->(vF q o=af->∃e,bl2=bl'++e)->wpAnyIn (FW rd) 0 C.P .any l.toArray Q fuel (listed.setIfInBounds i af) (a.put o.dst (den (ids'++more) x)) w':=by
      intro x more bl2 ch2 w' g1 g2 g3 g4 g5;have D2:=D1.ahL hX hp (x:=x) (more:=more) (by rw[nk];exact g1) g2 g3 g4 (by rw[nk];exact g5);rw[nk]at D2;obtain⟨axV,r3,fr3,D3,hh3⟩:=D2.Hc r';exact ih D3 hh3 BZ
     cases b with
     |true=>
      rw[if_pos rfl]at hb;rw[if_pos rfl];cases hqo:vF q o with
      |true=>
       refine Rj hc D1.gl D1.hl D1.S (ahK BY hqo hb) (Ha nF.2.1 mK) ?_;intro x more bl2 ch2 w' g1 g2 g3 g4;exact RJ g3.1 g1 g2 g4 (λ_=>g3.2)
      |false=>
       refine Rj hc D1.gl D1.hl D1.S hb (Ha nF.2.1 mK) ?_;intro x more bl2 ch2 w' g1 g2 g3 g4;exact RJ g3 g1 g2 g4 (λe=>by rw[hqo]at e;cases e)
     |false=>
      rw[if_neg sP]at hb;rw[if_neg sP];have:=RJ (x:=fU) (more:=[]) (bl2:=bl') (ch2:=ch) (w':=w) hb (by simpa using D1.hl) (by simpa using D1.S) (.inl rfl) (λ_=>⟨[],sP⟩);refine⟨λ_ _=>trivial,?_⟩;simpa[fU,den]using this
def En {i j:Nat} (m:Nat):(fJ l i j)[m]?=(l[m]?).map λo=>if m=j then Lu i o else o:=by
 unfold fJ;split
 ·rename_i o ho;have hj:j<l.length:=by rcases c9 j l.length with h|h;exact h;simp[h]at ho
  by_cases e:m=j
  ·subst e;simp[hj,ho];have:l[m]?=aa o:=ho;rw[jY hj]at this;rw[cG this]
  ·rw[Ko (λh=>e h.symm)];cases l[m]?<;>simp[e]
 ·rename_i ho;by_cases e:m=j
  ·subst e;rw[ho];rfl
  ·cases l[m]?<;>simp[e]
def Lz {i j:Nat}:(fJ l i j).length=l.length:=by unfold fJ;split<;>simp
def aad {i j m:Nat} (h:m≠j):bF (fJ l i j) m=bF l m:=by
 unfold bF;rw[En];cases l[m]?<;>simp[h]
def aae {i j m:Nat} (h:m∈sD .any (fJ l i j).toArray listed):m∈sD .any l.toArray listed:=by
 obtain⟨o,ho,h2,h3⟩:=(mJ _ _ _).1 h;rw[En]at ho;obtain⟨o',kU,e⟩:=iX.1 ho;refine(mJ _ _ _).2 ⟨o',kU,h2,λe' he hb=>h3 e' ?_ hb⟩;subst e;split
 ·simp[Lu,he]
 ·exact he
def Eo {i j m:Nat} (hm:m≠j\/listed[i]?=aa af) (h:m∈sD .any l.toArray listed):m∈sD .any (fJ l i j).toArray listed:=by
 obtain⟨o,ho,h2,h3⟩:=(mJ _ _ _).1 h;refine(mJ _ _ _).2 ⟨_,by rw[En,ho];rfl,h2,λe he hb=>?_⟩;split at he
 ·rename_i e1;simp only[Lu,Array.mem_push]at he;rcases he with he|rfl
  ·exact h3 e he hb
  ·rcases hm with hm|hm
   ·exact absurd e1 hm
   ·simp[jG,hm]
 ·exact h3 e he hb
def aaf {i j:Nat} (ts:Array ai):yielded (fJ l i j).toArray ts=yielded l.toArray ts:=by
 funext n;have:((fJ l i j).toArray[n]?).bind (·.dst)=(l.toArray[n]?).bind (·.dst):=by
  simp only[jX,En];cases l[n]?with
  |none=>rfl
  |some o=>simp only[oO,Option.bind_some];split<;>rfl
 unfold yielded;rw[this]
def RK {rd:Option Nat} {P:aG} {i j m:Nat} {K:Act->aj->Prop} (h:wpOpIn (FW rd) 0 P (fJ l i j).toArray Q m K a w):wpOpIn (FW rd) 0 P l.toArray Q m K a w:=by
 unfold wpOpIn at h⊢;simp only[jX,En,aaf]at h⊢;cases ho:l[m]?with
 |none=>rw[ho]at h;exact h
 |some o=>
  rw[ho]at h;simp only[oO]at h⊢;by_cases e:m=j
  ·rw[if_pos e]at h;cases o;exact h
  ·rw[if_neg e]at h;exact h
def aag {rd:Option Nat} {P:aG} {i j:Nat}:∀(fuel:Nat) {listed:Array Bool} {a:Act} {w:aj},listed[i]?=aa af->wpAnyIn (FW rd) 0 P .any (fJ l i j).toArray Q fuel listed a w->wpAnyIn (FW rd) 0 P .any l.toArray Q fuel listed a w:=by
 intro fuel;induction fuel with
 |zero=>intro listed a w hi h;exact⟨List.eq_nil_iff_forall_not_mem.2 λm hm=>(by have:=Eo (j:=j) (.inr hi) hm;rw[h.1]at this;cases this),h.2⟩
 |succ fuel ih=>
  intro listed a w hi h;refine⟨λhr=>h.1 (List.eq_nil_iff_forall_not_mem.2 λm hm=>by have:=aae hm;rw[hr]at this;cases this),λm hm=>?_⟩;refine wpOpIn_mono (λa w h=>ih ?_ h) (RK (h.2 m (Eo (.inr hi) hm)));have hs:i<listed.size:=by rcases c9 i listed.size with h|h;exact h;simp[h]at hi
  rw[su];split
  ·simp[*]
  ·exact hi
def xC {l:List aw} (h:(l.all λo=>!(hU o))=af) (m:Nat):hU (bF l m)=ag:=by
 unfold bF;split
 ·rename_i o ho;have:=gQ.1 h o (sE ho);simpa using this
 ·rfl
def ahN {rd:Option Nat} {i j:Nat} {vI vJ:List Nat} (hc:Ef C.P C.gl call) (BY:He q call) (ua:i≠j) (aah:vG (fJ l i j) vI=af) (aai:z5 (fJ l i j) (fJ l i j).length=af) (aaj:vG (fJ l j i) vJ=af) (aak:z5 (fJ l j i) (fJ l j i).length=af)
 (LD:((fJ l i j).all λo=>!(hU o))=af) (RL:((fJ l j i).all λo=>!(hU o))=af)
 (hk:∀fr' m bl' ch' w',(eY++m).length=bl'.length->St ms w0 (lits (eY++m) (eY++m) bl'++au ch' R) w'->k fr' bl' ch'->Q .normal (act (eY++m) fr') w'):
 ∀(fuel:Nat) {RM s1 RN s2:List Nat} {B2 o9:List V} {listed:Array Bool} {a:Act} {w:aj},
  DI C call q (fJ l i j) vI R ms w0 k ew eY RM (i::s1) B2 ids bl ch Z listed a w->kJ (bF (fJ l i j) i)=ag->DI C call q (fJ l j i) vJ R ms w0 k ew eY RN (j::s2) o9 ids bl ch Z listed a w->kJ (bF (fJ l j i) j)=ag->
  listed.toList.count ag=fuel->wpAnyIn (FW rd) 0 C.P .any l.toArray Q fuel listed a w:=by
 intro fuel;induction fuel with
 |zero=>
  intro RM s1 RN s2 B2 o9 listed a w D1 B3 D2 B4 Hf;exfalso;have hu:=D1.mS i sP (xC LD i);have:=count_set listed.toList i (by simpa using hu);omega
 |succ fuel ih=>
  intro RM s1 RN s2 B2 o9 listed a w D1 B3 D2 B4 Hf;have W1:=GD (rd:=rd) hc BY aah aai hk (fuel+1) D1 (.inr ⟨i,s1,rfl,B3⟩) Hf;have W2:=GD (rd:=rd) hc BY aaj aak hk (fuel+1) D2 (.inr ⟨j,s2,rfl,B4⟩) Hf;have hX1:lJ (bF (fJ l i j) i)=af:=by have:=xC LD i;rcases xp (bF (fJ l i j) i)with h|h|h<;>simp_all
  have hX2:lJ (bF (fJ l j i) j)=af:=by have:=xC RL j;rcases xp (bF (fJ l j i) j)with h|h|h<;>simp_all
  have hui:=D1.mS i sP (xC LD i);have huj:=D2.mS j sP (xC RL j);have zV:∀{m:Nat},listed[m]?=aa ag->(listed.setIfInBounds m af)[m]?=aa af:=λ{m} h=>by
   have hs:m<listed.size:=by rcases c9 m listed.size with h'|h';exact h';simp[h']at h
   simp[hs]
  refine⟨λhr=>W1.1 (List.eq_nil_iff_forall_not_mem.2 λm hm=>by have:=aae hm;rw[hr]at this;cases this),λm hm=>?_⟩;by_cases e1:m=i
  ·subst e1;exact wpOpIn_mono (λa w h=>aag fuel (zV hui) h) (RK (W1.2 m (Eo (.inl ua) hm)))
  by_cases e2:m=j
  ·subst e2;exact wpOpIn_mono (λa w h=>aag fuel (zV huj) h) (RK (W2.2 m (Eo (.inl (λh=>ua h.symm)) hm)))
  obtain⟨o,ho,h2,_⟩:=(mJ l listed m).1 hm;have sQ:m<l.length:=by rcases c9 m l.length with h|h;exact h;simp[h]at ho
  have hu:listed[m]?=aa ag:=by
   rcases D1.bit (D1.nC m (by rw[Lz];exact sQ))with hb|hb
   ·simp[jG,hb]at h2
   ·exact hb
  have aal:∀{l':List aw} {Aa:List Nat},vG l' Aa=af->z5 l' l'.length=af->m∈sD .any l'.toArray listed->(∀jj,listed[jj]?=aa af->∀h,gG Aa h jj=af->listed[h]?=aa af)->listed.size=l'.length->∀h,gG Aa h m=af->listed[h]?=aa af:=by
   intro l' Aa Em GL uq back hls h hb;obtain⟨o',kU,_,h3⟩:=(mJ l' listed m).1 uq;obtain⟨e,he,hbd,qa⟩:=Z0 Em kU hb;have cH:=DI.RH GL kU he hbd;have hl:listed[e.on]?=aa af:=by
    have:=h3 e he hbd;rcases mI hls cH with hb|hb
    ·exact hb
    ·simp[jG,hb]at this
   rcases qa with rfl|qa
   ·exact hl
   ·exact back _ hl h qa
  have RO:=aal aah aai (Eo (.inl e2) hm) D1.back D1.ls;have xw:=aal aaj aak (Eo (.inl e1) hm) D2.back D2.ls;have inA:∀{l':List aw} {Aa s xB:List Nat} {x:Nat},lK (xn q l' Aa) (xB++(x::s))=af->lJ (bF l' x)=af->hU (bF l' m)=ag->listed[x]?=aa ag->(∀h,gG Aa h m=af->listed[h]?=aa af)->m∈xB++(x::s)->m≠x->m∈xB:=by
   intro l' Aa s xB x hp hx ha hux hpp Hg cL;rcases eI.1 Hg with h|h
   ·exact h
   ·exfalso;rcases cF.1 h with h|h
    ·exact cL h
    ·have rv:=(BW hp).2.2;simp only[lK,bD,gQ]at rv;have:=hpp x ((uv (rv.1 m h)).xj hx ha);rw[hux]at this;cases this
  have m1:=inA D1.lL hX1 (xC LD m) hui RO (D1.nC m (by rw[Lz];exact sQ)) e1;have m2:=inA D2.lL hX2 (xC RL m) huj xw (D2.nC m (by rw[Lz];exact sQ)) e2;obtain⟨f1,v1,b1,r1⟩:=D1.aV m m1 hu;obtain⟨f2,v2,b2,r2⟩:=D2.aV m m2 hu;have o1:bF (fJ l i j) m=o:=by rw[aad e2];exact Lw ho
  have o2:bF (fJ l j i) m=o:=by rw[aad e1];exact Lw ho
  have k1:=D1.Rz m1 hu RO r1;have k2:=D2.Rz m2 hu xw r2;have Ep:=D1.RD m1 hu RO r1;have B5:=D2.RD m2 hu xw r2;have g1:=r1.g;have g2:=r2.g;have q1:=r1.e;have q2:=r2.e;unfold looks at k1 k2;rw[o1]at k1 Ep g1 q1;rw[o2]at k2 B5 g2 q2;have w1:=Lx k1 g1;have w2:=Lx k2 g2;rw[aaf]at w1 w2;obtain rfl:b1=b2:=by rw[<-w1,<-w2]
  have nF:=z6 D1.pa (show(fJ l i j)[m]?=aa o by rw[En,ho];simp[e2]);have BZ:(listed.setIfInBounds m af).toList.count ag=fuel:=by
   have:=count_set listed.toList m (by simpa using hu);simp only[Kx];omega
  unfold wpOpIn;rw[show l.toArray[m]?=aa o by simpa using ho];simp only;rw[w1];cases b1 with
  |true=>
   rw[if_pos rfl]at q1 q2;rw[if_pos rfl];have B6:(execOp a.eval o).run C.P w=.ok (.value (den ids v1)) w:=by rw[Ha nF.2.1 k1,Rw D1.gl D1.hl D1.S q1]
   have aam:(execOp a.eval o).run C.P w=.ok (.value (den ids v2)) w:=by rw[Ha nF.2.1 k2,Rw D2.gl D2.hl D2.S q2]
   have hv:den ids v2=den ids v1:=by rw[B6]at aam;simpa using aam.symm
   rw[hv]at B5;exact RI (aac q1) B6 (ih Ep B3 B5 B4 BZ)
  |false=>
   rw[if_neg sP]at q1 q2;rw[if_neg sP];subst q1 q2;rw[show(undef:ai)=den ids fU by simp[fU,den]];exact⟨λ_ _=>trivial,ih Ep B3 B5 B4 BZ⟩
end
abbrev ov (G:Type):=dE->List V->List VB->List G->Prop
abbrev B7 (G:Type):=eH->List V->List VB->List G->ov G->Prop
def xD (P:aG) (fr:List V) (bl:List VB):List Ks->Option (List V)
 |[]=>aa []
 |.tmp t::l=>(match xD P fr bl l with|some r=>aa (nth fr t::r)|none=>ae)
 |.cell a t::l=>(match vD P bl t (nth fr a),xD P fr bl l with|some v,aa r=>aa (v::r)|_,_=>ae)
def Hh:List V->V
 |[v]=>v
 |l=>.ay l
def B8 (P:aG) (fn:Func) (K:VK G):ov G:=λe fr bl ch=>match e with
 |.normal=>(match xD P fr bl fn.results.toList with|some vs=>K (Hh vs) bl ch|none=>False)
 |.ret=>(match xD P fr bl fn.results.toList with|some vs=>K (Hh vs) bl ch|none=>False)
 |_=>False
def pg:Nat->List V
 |0=>[]
 |n+1=>fU::pg n
def Er (C:Ctx G) (rec:B7 G):lI G:=λf args bl ch K=>match C.T f with
 |some c=>c args bl ch K
 |none=>match C.P.funcs[f]?with
  |some fn=>(match fn.body with
   |some c=>rec c (args++pg (fn.ntmps-args.length)) bl ch (B8 C.P fn K)
   |none=>False)
  |none=>False
def aan (C:Ctx G) (call:lI G) (l1 l2:List aw) (vI Hj vJ Hk:List Nat) (i j:Nat) (fr:List V) (bl:List VB) (ch:List G) (k:jn G):Prop:=
 cond (G8 C l1 vI Hj i fr.length&&(G8 C l2 vJ Hk j fr.length&&(!(aA i j)&&bu bl.length fr))) (jL C call l1.toArray (vH l1 Hj) fr bl ch k/\jL C call l2.toArray (vH l2 Hk) fr bl ch k) False
def aao (C:Ctx G) (call:lI G) (l1 l2:List aw) (vI vJ:List Nat) (i j:Nat) (fr:List V) (bl:List VB) (ch:List G) (k:jn G):Prop:=aan C call l1 l2 vI (Ei l1 vI) vJ (Ei l2 vJ) i j fr bl ch k
def vcS (C:Ctx G) (call:lI G) (l:List aw) (pm ts:List Nat) (fr:List V) (bl:List VB) (ch:List G) (k:jn G):Prop:=match BV l ts with
 |some (i,r)=>(match BV l r with
  |some (j,_)=>aao C call (fJ l i j) (fJ l j i) (G7 (fJ l i j) [] pm) (G7 (fJ l j i) [] pm) i j fr bl ch k
  |none=>False)
 |none=>False
def aap (C:Ctx G) (call:lI G) (l:List aw) (pm ts:List Nat) (fr:List V) (bl:List VB) (ch:List G) (k:jn G):Prop:=
 cond (G6 C C.q l pm ts fr.length&&bu bl.length fr) (jL C call l.toArray (vH l ts) fr bl ch k) (vcS C call l pm ts fr bl ch k)
def RP (C:Ctx G) (call:lI G) (l:List aw) (pm:List Nat) (fr:List V) (bl:List VB) (ch:List G) (k:jn G):Prop:=aap C call l pm (Ei l pm) fr bl ch k
def aaq (k:jn G) (K:ov G):ov G:=λe fr bl ch=>match e with
 |.normal=>k fr bl ch
 |e=>K e fr bl ch
def Hl (id:Nat) (K:ov G):ov G:=λe fr bl ch=>match e with
 |.exit j=>cond (aA j id) (K .normal fr bl ch) (K (.exit j) fr bl ch)
 |e=>K e fr bl ch
def lpB:eH->Option eH
 |.loop c=>aa c
 |_=>ae
def lpK (I:Lp G) (x:I.X) (K:ov G):ov G:=λe fr bl ch=>match e with
 |.normal=>I.en x fr bl ch
 |e=>K e fr bl ch
def LF (C:Ctx G) (rec:B7 G):B7 G:=λc fr bl ch K=>match c with
 |.skip=>K .normal fr bl ch
 |.seq a b=>rec a fr bl ch (aaq (λfr bl ch=>rec b fr bl ch K) K)
 |.cond x t f=>(match x with
  |.tmp i=>(match nth fr i with
   |.bool b=>cond b (rec t (ma fr i (.bool af)) bl ch K) (rec f (ma fr i (.bool ag)) bl ch K)
   |_=>False)
  |.const (.bool b)=>cond b (rec t fr bl ch K) (rec f fr bl ch K)
  |_=>False)
 |.block id b=>(match C.lp id fr with
  |some I=>(match lpB b with
   |some c=>I.Rf fr bl ch/\∀(x:I.X) (g:Nat->ai),rec c (fill (I.fr x) g 0) (I.bl x) (I.ch x) (lpK I x (Hl id K))
   |none=>rec b fr bl ch (Hl id K))
  |none=>rec b fr bl ch (Hl id K))
 |.loop b=>rec b fr bl ch (aaq (λfr bl ch=>rec (.loop b) fr bl ch K) K)
 |.exit id=>K (.exit id) fr bl ch
 |.ret=>K .ret fr bl ch
 |.label _=>K .normal fr bl ch
 |.region _ ops ag=>jL C (Er C rec) ops ops.toList fr bl ch λfr bl ch=>K .normal fr bl ch
 |.region _ ops af=>RP C (Er C rec) ops.toList (Lr ops.toList []) fr bl ch λfr bl ch=>K .normal fr bl ch
 |_=>False
def uy (C:Ctx G) (n:Nat):B7 G:=Nat.rec (motive:=λ_=>B7 G) (λ_ _ _ _ _=>False) (λ_ ih=>LF C ih) n
def br (C:Ctx G) (n:Nat) (f:fl) (args:List V) (bl:List VB) (ch:List G) (K:VK G):Prop:=match C.P.funcs[f]?with
 |some fn=>(match fn.body with
  |some c=>uy C n c (args++pg (fn.ntmps-args.length)) bl ch (B8 C.P fn K)
  |none=>False)
 |none=>False
section
variable{C:Ctx G} {call:lI G}
def ahO {n:Nat} {ts:List Nat} (h1:ts.length=n) (h2:∀i∈ts,i<n) (h3:ts.Nodup):∀i,i<n->i∈ts:=by
 intro i hi;obtain⟨r,hr⟩:=GM ts (bo n) h3 (λx hx=>List.mem_range.2 (h2 x hx));have hlen:=hr.length_eq;simp[h1]at hlen;subst hlen;have hs:(bo n).Perm ts:=by simpa using hr
 exact hs.mem_iff.1 (List.mem_range.2 hi)
def DI.start {l:List aw} {pm ts:List Nat} {R:List ao} {ms:List Nat} {w0 w:aj} {k:jn G} {ids:List Nat} {bl:List VB} {ch:List G} {fr:List V}
 (hg:Gl C.gl ids) (hl:ids.length=bl.length) (S:St ms w0 (lits ids ids bl++au ch R) w) (hd:G6 C C.q l pm ts fr.length=af) (Es:bu bl.length fr=af) (h:jL C call l.toArray (vH l ts) fr bl ch k):
 (DI C call C.q l pm R ms w0 k fr ids [] ts fr ids bl ch [] (zm l.length ag) (act ids fr) {w with drawn:=w.drawn+1}/\vG l pm=af/\z5 l l.length=af)/\C.P.follows .mixedOrders=af:=by
 unfold G6 ZY at hd;simp only[bD]at hd;obtain⟨⟨⟨⟨⟨⟨⟨⟨⟨d1,d2⟩,d3⟩,d4⟩,d5⟩,d6⟩,d7⟩,d8⟩,d10⟩,d9⟩:=hd;have hlen:=ck d4;have RQ:∀i∈ts,i<l.length:=λi hi=>by have:=gQ.1 d5 i hi;rwa [jt]at this
 have vK:=Rs d6;have hff:∀j,j<l.length->(zm l.length ag)[j]?=aa ag:=λj hj=>by simp[Ba];exact hj
 have hft:∀(j:Nat),(zm l.length ag)[j]?=aa af->False:=λj hj=>by
  rw[Ba]at hj;split at hj<;>simp at hj
 have S':St ms w0 (lits ids ids bl++au ch R) {w with drawn:=w.drawn+1}:=S.quiet (Ch.refl [] w).drew;exact⟨⟨{lL:=d7,xq:=d8,nC:=λi hi=>ahO hlen RQ vK i hi,nD:=RQ,nd:=vK,pa:=d9,xu:=λi hi=>(by have:=gQ.1 d10 i hi;simpa using this),ls:=sP,sZ:=λi hi=>(nomatch hi),mS:=λi hi _=>hff i (RQ i hi),back:=λj hj=>(hft j hj).elim,vc:=h,sz:=(by simp[act,rj]),df:=rfl,slot:=λt _ _=>Rv t,old:=λi hi=>(nomatch hi),ux:=λt _=>rfl,aV:=λi hi=>(nomatch hi),s7:=λi hi hj=>(hft i hj).elim,ou:=λp hp=>(nomatch hp),Ej:=List.nodup_nil,S:=(by simpa using S'),hl:=hl,gl:=hg,BX:=(by rw[hl];exact Es),Ek:=⟨[],sP⟩},d1,d2⟩,d3⟩
def LJ {l:List aw} {pm:List Nat} {q:Nat->Bool} {i:Nat} {r:List Nat}:∀{ts:List Nat},lK (xn q l pm) ts=af->BV l ts=aa (i,r)->i∈ts/\lJ (bF l i)=af/\∀x∈ts,lJ (bF l x)=af->x=i\/xn q l pm i x=af
 |[],_,h=>by cases h
 |y::ts,hp,h=>by
  simp only[lK,bD,gQ]at hp;unfold BV at h;cases hX:lJ (bF l y)with
  |true=>
   rw[hX]at h;obtain⟨rfl,rfl⟩:y=i/\ts=r:=by simpa using h
   exact⟨sP,hX,λx hx _=>by rcases cF.1 hx with e|hx;exact .inl e;exact .inr (hp.1 x hx)⟩
  |false=>
   rw[hX]at h;obtain⟨h1,h2,h3⟩:=LJ hp.2 h;exact⟨qQ _ h1,h2,λx hx uz=>by
    rcases cF.1 hx with rfl|hx
    ·rw[hX]at uz;cases uz
    ·exact h3 x hx uz⟩
def DI.head {q:Nat->Bool} {l:List aw} {pm ts cU rest:List Nat} {R:List ao} {ms:List Nat} {w0 w:aj} {k:jn G} {ew fr:List V} {eY ids:List Nat} {bl:List VB} {ch:List G} {Z:List (Nat×ao)} {a:Act} {n i:Nat} {r:List Nat}
 (D:DI C call q l pm R ms w0 k ew eY cU rest fr ids bl ch Z (zm n ag) a w) (hA:(l.all λo=>!(hU o))=af) (hh:rest=[]\/∃i s,rest=i::s/\kJ (bF l i)=ag) (hp:lK (xn q l pm) ts=af) (dU:∀x,x<l.length->x∈ts) (hX:BV l ts=aa (i,r)) (hi:i<l.length):
 ∃s,rest=i::s/\kJ (bF l i)=ag:=by
 obtain⟨_,h2,h3⟩:=LJ hp hX;have hm:i∈rest:=by
  rcases eI.1 (D.nC i hi)with h|h
  ·have:=D.sZ i h (by rcases xp (bF l i)with e|e|e<;>simp_all);rw[Ba]at this;split at this<;>simp at this
  ·exact h
 rcases hh with rfl|⟨x,s,rfl,hf⟩
 ·cases hm
 ·have hx:lJ (bF l x)=af:=by have:=xC hA x;rcases xp (bF l x)with e|e|e<;>simp_all
  rcases cF.1 hm with rfl|hm
  ·exact⟨s,rfl,hf⟩
  ·exfalso;have wV:x<l.length:=D.nD x sP;have rv:=(BW D.lL).2.2;simp only[lK,bD,gQ]at rv;have hb:=(uv (rv.1 i hm)).xj hx (xC hA i);rcases h3 x (dU x wV) hx with rfl|h
   ·have vK:=D.nd;have:=(List.nodup_append.1 vK).2.1;exact(tS.1 this).1 hm
   ·have:=(uv h).nb;rw[hb]at this;cases this
def Ab (rd:Option Nat) (P:aG) (c:eH) (Q:dE->Act->aj->Prop):Nat->Act->aj->Prop
 |0,_,_=>False
 |n+1,a,w=>c.wpIn (FW rd) 0 P (Exit.then (Ab rd P c Q n) Q) a w
def aar {rd:Option Nat} {P:aG} {c:eH} {Q:dE->Act->aj->Prop} {a:Act} {w:aj} (n:Nat) (h:Ab rd P c Q n a w):(Code.loop c).wpIn (FW rd) 0 P Q a w:=by
 intro b k cs B9 hb hr;have key:∀n a w,Ab rd P c Q n a w->
  ∃e a' w',Q e a' w'/\ArrivesIn (Machine.fenced P (FW rd)) P (lone (b.atR a (.code c::.inLoop c::k)) cs w) b k cs e a' w':=by
  intro n;induction n with
  |zero=>intro a w h;exact h.elim
  |succ n ih=>
   intro a w h;obtain⟨e,Et,Eu,hq,Ac⟩:=h b (.inLoop c::k) cs B9 hb hr;cases e with
   |normal=>
    obtain⟨ahP,ahQ,ahR,ahS,ahT⟩:=ih Et Eu hq;exact⟨ahP,ahQ,ahR,ahS,.of_steps (StepsIn.trans Ac (.one (fenced_calm hb hr rfl) stepR_inLoop)) ahT⟩
   |exit id=>exact⟨_,Et,Eu,hq,.pass (x:=.inLoop c) rfl (λ_ _=>.inl sP) Ac⟩
   |goto l=>exact⟨_,Et,Eu,hq,.pass (x:=.inLoop c) rfl (λ_ _=>.inl sP) Ac⟩
   |ret=>exact⟨_,Et,Eu,hq,.pass (x:=.inLoop c) rfl (λ_ _=>.inl sP) Ac⟩
   |panic ch=>exact⟨_,Et,Eu,hq,.pass (x:=.inLoop c) rfl (λ_ _=>.inl sP) Ac⟩
   |outgrown=>exact⟨_,Et,Eu,hq,.pass (x:=.inLoop c) rfl (λ_ _=>.inl sP) Ac⟩
 obtain⟨e,a',w',hq,Ac⟩:=key n a w h;exact⟨e,a',w',hq,.of_steps (.one (fenced_calm hb hr rfl) stepR_loop) Ac⟩
def ahU {rd:Option Nat} (hc:Ef C.P C.gl call) (BY:He C.q call) {id:Nat} {ops:Array aw} {R:List ao} {ms:List Nat} {w0 w:aj} {Q:dE->Act->aj->Prop} {k:jn G} {ids:List Nat} {bl:List VB} {ch:List G} {fr:List V}
 (hg:Gl C.gl ids) (hl:ids.length=bl.length) (S:St ms w0 (lits ids ids bl++au ch R) w) (h:RP C call ops.toList (Lr ops.toList []) fr bl ch k)
 (hk:∀fr' more bl' ch' w',(ids++more).length=bl'.length->St ms w0 (lits (ids++more) (ids++more) bl'++au ch' R) w'->k fr' bl' ch'->Q .normal (act (ids++more) fr') w'):
 (Code.region id ops af).wpIn (FW rd) 0 C.P Q (act ids fr) w:=by
 unfold RP aap at h;generalize xf:ops.toList=l at h;generalize Lr l []=pm at h;generalize Ei l pm=ts at h;have ahV:ops=l.toArray:=by rw[<-xf]
 subst ahV;cases hd:G6 C C.q l pm ts fr.length&&bu bl.length fr with
 |true=>
  rw[hd]at h;simp only[bD]at hd;obtain⟨⟨D,d1,d2⟩,d3⟩:=DI.start hg hl S hd.1 hd.2 h;refine wpIn_region_any d3 ?_;obtain⟨cU,r,fr',D',hh⟩:=D.Hc ts;exact GD hc BY d1 d2 hk _ D' hh (by simp[Yu])
 |false=>
  rw[hd]at h;simp only[cond_false]at h;unfold vcS at h;split at h
  ·rename_i i r1 B3;split at h
   ·rename_i j r2 B4;unfold aao aan at h;generalize G7 (fJ l i j) [] pm=vI at h;generalize G7 (fJ l j i) [] pm=vJ at h;generalize Ei (fJ l i j) vI=Hj at h;generalize Ei (fJ l j i) vJ=Hk at h;cases hq:G8 C (fJ l i j) vI Hj i fr.length&&(G8 C (fJ l j i) vJ Hk j fr.length&&(!(aA i j)&&bu bl.length fr))with
    |false=>rw[hq]at h;exact h.elim
    |true=>
     rw[hq]at h;simp only[bD,n7]at hq;obtain⟨q1,q2,q3,q4⟩:=hq;have ua:i≠j:=λe=>by rw[e,tW]at q3;cases q3
     unfold G8 at q1 q2;simp only[bD]at q1 q2;obtain⟨⟨a1,a2⟩,a3⟩:=q1;obtain⟨⟨c1,c2⟩,c3⟩:=q2;obtain⟨⟨D1,d1,d2⟩,d3⟩:=DI.start hg hl S a1 q4 h.1;obtain⟨⟨D2,e1,e2⟩,_⟩:=DI.start hg hl S c1 q4 h.2;rw[Lz]at D1 D2;split at a3
     ·rename_i x1 y1 g1;obtain rfl:=ck a3;split at c3
      ·rename_i x2 y2 g2;obtain rfl:=ck c3;obtain⟨ab1,rs1,f1,Ep,h1⟩:=D1.Hc Hj;obtain⟨ab2,rs2,f2,B5,h2⟩:=D2.Hc Hk;have p1:=LJ D1.lL g1;have p2:=LJ D2.lL g2;obtain⟨s1,rfl,hn1⟩:=Ep.head a2 h1 D1.lL (λx hx=>by simpa using D1.nC x hx) g1 (D1.nD _ (by simpa using p1.1));obtain⟨s2,rfl,hn2⟩:=B5.head c2 h2 D2.lL (λx hx=>by simpa using D2.nC x hx) g2 (D2.nD _ (by simpa using p2.1));refine wpIn_region_any d3 ?_;exact ahN hc BY ua d1 d2 e1 e2 a2 c2 hk _ Ep hn1 B5 hn2 (by simp[Yu])
      ·cases c3
     ·cases a3
   ·exact h.elim
  ·exact h.elim
def nG (C:Ctx G):Prop:=∀f,C.q f=af->∃c,C.T f=aa c/\∀args bl ch K,c args bl ch K->c args bl ch λv bl' ch'=>K v bl' ch'/\∃e,bl'=bl++e
def ahW (hQ:nG C) {rec:B7 G}:He C.q (Er C rec):=by
 intro f hf args bl ch K h;obtain⟨c,hc,hq⟩:=hQ f hf;unfold Er at h⊢;rw[hc]at h⊢;exact hq args bl ch K h
def RR {ids:List Nat} (n:Nat):aE ids (pg n)=n_ n undef:=by
 induction n with
 |zero=>rfl
 |succ n ih=>simp[pg,aE,ih,List.replicate_succ,fU,den]
def RS {ids:List Nat} (a b:List V):aE ids (a++b)=aE ids a++aE ids b:=by simp[rj]
def RT {P:aG} {ids:List Nat} {fr:List V} {bl:List VB} {R:List ao} {ms:List Nat} {w0 w:aj} (hl:ids.length=bl.length) (S:St ms w0 (lits ids ids bl++R) w):
 ∀(rs:List Ks) {vs:List V},xD P fr bl rs=aa vs->KU P w (aE ids fr).toArray rs (aE ids vs)
 |[],vs,h=>by simp only[xD,aW]at h;subst h;exact trivial
 |.tmp t::l,vs,h=>by
  simp only[xD]at h;split at h
  ·rename_i r hr;simp only[aW]at h;subst h;refine⟨?_,RT hl S l hr⟩;simp only[vo,<-zO];rfl
  ·cases h
 |.cell a t::l,vs,h=>by
  simp only[xD]at h;split at h
  ·rename_i v r hv hr;simp only[aW]at h;subst h;refine⟨?_,RT hl S l hr⟩;have h1:=Ll (P:=P) hl S hv;have h2:∃x,den ids (nth fr a)=.pointer (aa x):=by
    unfold vD at hv;split at hv
    ·rename_i i off hx;exact⟨⟨ids.getD i 0,off,ae⟩,by rw[hx];simp only[den]⟩
    ·cases hv
   obtain⟨x,hx⟩:=h2;rw[hx]at h1;simp only[pO,iY,bz,cZ,ct]at h1;simp only[vo,<-zO,hx,asAddr,bz,cZ,ct,h1]
  ·cases h
def ahX {ids:List Nat} (vs:List V):KV (aE ids vs)=den ids (Hh vs):=by
 match vs with
 |[]=>rfl
 |[v]=>rfl
 |_::_::_=>simp[aE,KV,Hh,den]
def aas {P:aG} {fn:Func} {K:VK G} {e:dE} {fr:List V} {bl:List VB} {ch:List G} {ids:List Nat} {R:List ao} {ms:List Nat} {w0 w:aj} (hl:ids.length=bl.length) (S:St ms w0 (lits ids ids bl++R) w)
 (h:B8 P fn K e fr bl ch) {R':ai->aj->Prop} (hk:∀x,K x bl ch->R' (den ids x) w):bodyPost P fn (λe w'=>∃v,e=.returned v/\R' v w') e (act ids fr) w:=by
 have main:(match xD P fr bl fn.results.toList with|some vs=>K (Hh vs) bl ch|none=>False)->∃v,(results fn (act ids fr).tmps).run P w=.ok v w/\R' v w:=by
  intro h;split at h
  ·rename_i vs hvs;exact⟨_,fR (fn:=fn) fn.results.toList _ _ (RT hl S _ hvs) sP (ahX vs),hk _ h⟩
  ·exact h.elim
 unfold B8 at h;split at h
 ·obtain⟨v,h1,h2⟩:=main h;exact⟨rfl,v,h1,v,rfl,h2⟩
 ·obtain⟨v,h1,h2⟩:=main h;exact⟨rfl,v,h1,v,rfl,h2⟩
 ·exact h.elim
def LN {ids more:List Nat}:∀(l:List (Option V)) (fr:List V) (i:Nat) (g:Nat->ai),Ed ids.length l fr->(∀t,g (i+t)=den (ids++more) (nth fr t))->aE (ids++more) fr=aE ids (fill l g i)
 |[],[],_,_,_,_=>by simp[fill,aE]
 |some v::l,u::fr,i,g,h,hg=>by
  obtain⟨rfl,hw,h⟩:=h;simp only[fill,aE];rw[g_ u hw,LN l fr (i+1) g h (λt=>by have:=hg (t+1);simp only[lD,lE,kX]at this;rw[<-this];congr 1;omega)]
 |none::l,u::fr,i,g,h,hg=>by
  simp only[fill,aE,den];rw[LN l fr (i+1) g h (λt=>by have:=hg (t+1);simp only[lD,lE,kX]at this;rw[<-this];congr 1;omega)];have:=hg 0;simp only[lD,lE,kX,lA]at this;rw[this]
 |[],_::_,_,_,h,_=>h.elim
 |some _::_,[],_,_,h,_=>h.elim
 |none::_,[],_,_,h,_=>h.elim
def ahY (ids more:List Nat) (bl j:List VB) (hl:bl.length=ids.length) (hw:bY ids.length bl=af):lits (ids++more) (ids++more) (bl++j)=lits ids ids bl++lits (ids++more) more j:=by
 rw[fu _ _ _ _ hl.symm,fw _ _ hw]
def qb {ms:List Nat} {w0 w:aj} {A B R:List ao} (S:St ms w0 ((A++B)++R) w):St ms w0 (A++R) w:=S.sub (YF (List.sublist_append_left A B) R)
def RU (C:Ctx G) (n:Nat):Prop:=∀(rd:Option Nat) (c:eH) {fr:List V} {bl:List VB} {ch:List G} {K:ov G} {ids:List Nat} {R:List ao} {ms:List Nat} {w0 w:aj} {Q:dE->Act->aj->Prop},
 Gl C.gl ids->ids.length=bl.length->St ms w0 (lits ids ids bl++au ch R) w->uy C n c fr bl ch K->
 (∀e fr' more bl' ch' w',(ids++more).length=bl'.length->St ms w0 (lits (ids++more) (ids++more) bl'++au ch' R) w'->K e fr' bl' ch'->Q e (act (ids++more) fr') w')->
 c.wpIn (FW rd) 0 C.P Q (act ids fr) w/\(∀b,c=.loop b->Ab rd C.P b Q n (act ids fr) w)
def aat {n:Nat} (ih:RU C n) {f:Nat} {fn:Func} {c:eH} (hf:C.P.funcs[f]?=aa fn) (hb:fn.body=aa c) {args:List V} {ids:List Nat} {bl:List VB} {ch:List G} {R:List ao} {ms:List Nat} {w0 w:aj} {K:VK G}
 (hg:Gl C.gl ids) (hl:ids.length=bl.length) (S:St ms w0 (lits ids ids bl++au ch R) w) (h:uy C n c (args++pg (fn.ntmps-args.length)) bl ch (B8 C.P fn K)):
 aX C.P f (aE ids args).toArray w λv w'=>∃x more bl' ch',v=den (ids++more) x/\(ids++more).length=bl'.length/\St ms w0 (lits (ids++more) (ids++more) bl'++au ch' R) w'/\K x bl' ch':=by
 refine calls_of_wp hf hb ?_;have e:({tmps:=(aE ids args).toArray++zm (fn.ntmps-(aE ids args).toArray.size) undef,defers:=[]}:Act)=act ids (args++pg (fn.ntmps-args.length)):=by
  simp only[act,RS,RR];congr 1;apply fD;simp[rj]
 rw[e];refine wpIn_wide (n:=0)|>.1 (ih ae c hg hl S h ?_).1;intro e fr' more bl' ch' w' g1 g2 g3;refine aas g1 g2 g3 ?_;intro x hx;exact⟨x,more,bl',ch',rfl,g1,g2,hx⟩
def aau {n:Nat} (hT:∀f c,C.T f=aa c->Sound C.P C.gl f c) (ih:RU C n):Ef C.P C.gl (Er C (uy C n)):=by
 intro f hf args ids bl ch R ms w0 w K hg hl S h;unfold Er at h;split at h
 ·rename_i c hc;exact hT f c hc args ids bl ch R ms w0 w K hg hl S h
 ·split at h
  ·rename_i fn G5;split at h
   ·rename_i c hc;exact aat ih G5 hc hg hl S h
   ·exact h.elim
  ·exact h.elim
def aav {ids:List Nat} {fr:List V} (i:Nat):(act ids fr).eval (.tmp i)=den ids (nth fr i):=by simp only[Act.eval,act,zO]
def sound (hT:∀f c,C.T f=aa c->Sound C.P C.gl f c) (hQ:nG C):∀n,RU C n:=by
 intro n;induction n with
 |zero=>intro rd c fr bl ch K ids R ms w0 w Q hg hl S h;exact h.elim
 |succ n ih=>
  intro rd c fr bl ch K ids R ms w0 w Q hg hl S h hk;replace h:LF C (uy C n) c fr bl ch K:=h;generalize RV:uy C n=rec at h;have uA:∀(c:eH) {fr:List V} {bl:List VB} {ch:List G} {K:ov G} {ids:List Nat} {R:List ao} {ms:List Nat} {w0 w:aj} {Q:dE->Act->aj->Prop},Gl C.gl ids->ids.length=bl.length->St ms w0 (lits ids ids bl++au ch R) w->rec c fr bl ch K->(∀e fr' more bl' ch' w',(ids++more).length=bl'.length->St ms w0 (lits (ids++more) (ids++more) bl'++au ch' R) w'->K e fr' bl' ch'->Q e (act (ids++more) fr') w')->c.wpIn (FW rd) 0 C.P Q (act ids fr) w/\(∀b,c=.loop b->Ab rd C.P b Q n (act ids fr) w):=by rw[<-RV];exact ih rd
  have ra:∀e,K e fr bl ch->Q e (act ids fr) w:=λe he=>by
   have:=hk e fr [] bl ch w (by simpa using hl) (by simpa using S) he;simpa using this
  have trans:∀{more:List Nat} {e:dE} {fr':List V} {bl':List VB} {ch':List G} {w':aj},(∀e o9 cn bl2 ch2 w2,((ids++more)++cn).length=bl2.length->St ms w0 (lits ((ids++more)++cn) ((ids++more)++cn) bl2++au ch2 R) w2->K e o9 bl2 ch2->Q e (act ((ids++more)++cn) o9) w2):=by
   intro more e fr' bl' ch' w' e o9 cn bl2 ch2 w2 g1 g2 g3;rw[bW]at g1 g2⊢;exact hk e o9 (more++cn) bl2 ch2 w2 g1 g2 g3
  cases c with
  |skip=>exact⟨wpIn_skip (ra _ h),λb e=>nomatch e⟩
  |seq a b=>
   refine⟨?_,λb e=>nomatch e⟩;refine wpIn_seq ((uA a hg hl S h ?_).1);intro e fr' more bl' ch' w' g1 g2 g3;cases e with
   |normal=>exact(uA b (hg.app more) g1 g2 g3 (trans (e:=.normal) (fr':=fr') (bl':=bl') (ch':=ch') (w':=w'))).1
   |_=>exact hk _ fr' more bl' ch' w' g1 g2 g3
  |cond x t f=>
   refine⟨?_,λb e=>nomatch e⟩;unfold LF at h;dsimp only at h;split at h
   ·rename_i i;split at h
    ·rename_i b hb;have hs:=Lo fr i;rw[hb]at hs;have LR:(act ids fr).eval (.tmp i)=.bool b:=by rw[aav,hb];simp only[den]
     cases b with
     |true=>rw[hs]at h;exact wpIn_cond_true LR (uA t hg hl S h hk).1
     |false=>rw[hs]at h;exact wpIn_cond_false LR (uA f hg hl S h hk).1
    ·exact h.elim
   ·rename_i b;cases b with
    |true=>exact wpIn_cond_true rfl (uA t hg hl S h hk).1
    |false=>exact wpIn_cond_false rfl (uA f hg hl S h hk).1
   ·exact h.elim
  |block id b=>
   refine⟨?_,λb e=>nomatch e⟩;have fin:∀e fr' more bl' ch' w',(ids++more).length=bl'.length->St ms w0 (lits (ids++more) (ids++more) bl'++au ch' R) w'->Hl id K e fr' bl' ch'->Kr id Q e (act (ids++more) fr') w':=by
    intro e fr' more bl' ch' w' g1 g2 g3;cases e with
    |exit j=>
     simp only[Hl]at g3;unfold Kr;by_cases hj:j=id
     ·subst hj;rw[tW]at g3;simp only[if_true];exact hk _ _ _ _ _ _ g1 g2 g3
     ·have:aA j id=ag:=by
       cases hb:aA j id with
       |true=>exact absurd (ck hb) hj
       |false=>rfl
      rw[this]at g3;simp only[if_neg hj];exact hk _ _ _ _ _ _ g1 g2 g3
    |_=>exact hk _ _ _ _ _ _ g1 g2 g3
   unfold LF at h;dsimp only at h;split at h
   ·rename_i I hI;split at h
    ·rename_i c hc;obtain rfl:b=.loop c:=by
      unfold lpB at hc;split at hc
      ·cases hc;rfl
      ·cases hc
     obtain⟨h0,hx⟩:=h;have key:∀N (x:I.X) (g:Nat->ai) w',I.m x<N->(I.bl x).length=ids.length->St ms w0 (lits ids ids (I.bl x)++au (I.ch x) R) w'->Ab rd C.P c (Kr id Q) N (act ids (fill (I.fr x) g 0)) w':=by
      intro N;induction N with
      |zero=>intro x g w' hN;omega
      |succ N ihN=>
       intro x g w' hN sL Sx;refine(uA c hg sL.symm Sx (hx x g) ?_).1;intro e fr' more bl' ch' w2 g1 g2 g3;cases e with
       |normal=>
        obtain⟨y,hm,hf,RW,Es,⟨j,rfl⟩,rfl⟩:=I.ok x fr' bl' ch' g3;have e1:act (ids++more) fr'=act ids (fill (I.fr y) (λt=>den (ids++more) (nth fr' t)) 0):=by
         simp only[act];rw[LN (I.fr y) fr' 0 (λt=>den (ids++more) (nth fr' t)) (by rw[<-sL];exact hf) (λt=>sP)]
        show Ab rd C.P c _ N (act (ids++more) fr') w2;rw[e1];refine ihN y _ w2 oM (RW.trans sL) ?_;rw[sL]at Es RW;rw[ahY ids more (I.bl y) j RW Es]at g2;exact qb g2
       |_=>exact fin _ fr' more bl' ch' w2 g1 g2 (by first|exact g3|(unfold lpK at g3;exact g3))
     obtain⟨x0,hf,rfl,rfl⟩:=I.ZV fr bl ch h0;refine wpIn_block (aar (I.m x0+1) ?_);have e1:act ids fr=act ids (fill (I.fr x0) (λt=>den ids (nth fr t)) 0):=by
      have:=LN (ids:=ids) (more:=[]) (I.fr x0) fr 0 (λt=>den ids (nth fr t)) (by rw[hl];exact hf) (λt=>sP);simp only[act];simp only[cT]at this;rw[this]
     rw[e1];exact key _ x0 _ w (Nat.lt_succ_self _) hl.symm S
    ·exact wpIn_block ((uA b hg hl S h fin).1)
   ·exact wpIn_block ((uA b hg hl S h fin).1)
  |loop b=>
   have key:Ab rd C.P b Q (n+1) (act ids fr) w:=by
    refine(uA b hg hl S h ?_).1;intro e fr' more bl' ch' w' g1 g2 g3;cases e with
    |normal=>exact(uA (.loop b) (hg.app more) g1 g2 g3 (trans (e:=.normal) (fr':=fr') (bl':=bl') (ch':=ch') (w':=w'))).2 b rfl
    |_=>exact hk _ fr' more bl' ch' w' g1 g2 g3
   exact⟨aar (n+1) key,λb' e=>by cases e;exact key⟩
  |exit id=>exact⟨wpIn_exit (ra _ h),λb e=>nomatch e⟩
  |label l=>exact⟨wpIn_label (ra _ h),λb e=>nomatch e⟩
  |ret=>exact⟨wpIn_ret (ra _ h),λb e=>nomatch e⟩
  |region id ops d=>
   refine⟨?_,λb e=>nomatch e⟩;cases d with
   |true=>exact ahU (RV▸aau hT ih) (ahW hQ) hg hl S h (λfr' more bl' ch' w' g1 g2 g3=>hk _ _ _ _ _ _ g1 g2 g3)
   |false=>
    refine wpIn_region_list ?_;exact(Rk (aau hT ih) ops.toList hg hl S (by rw[RV];exact h) (λfr' more bl' ch' w' g1 g2 g3=>hk _ _ _ _ _ _ g1 g2 g3)).out
  |_=>exact h.elim
def eZ (hT:∀f c,C.T f=aa c->Sound C.P C.gl f c) (hQ:nG C) (n:Nat) {f:Nat} {args:List V} {ids:List Nat} {bl:List VB} {ch:List G} {R:List ao} {ms:List Nat} {w0 w:aj} {K:VK G}
 (hg:Gl C.gl ids) (hl:ids.length=bl.length) (S:St ms w0 (lits ids ids bl++au ch R) w) (h:br C n f args bl ch K):
 aX C.P f (aE ids args).toArray w λv w'=>∃x more bl' ch',v=den (ids++more) x/\(ids++more).length=bl'.length/\St ms w0 (lits (ids++more) (ids++more) bl'++au ch' R) w'/\K x bl' ch':=by
 unfold br at h;split at h
 ·rename_i fn hf;split at h
  ·rename_i c hb;exact aat (sound hT hQ n) hf hb hg hl S h
  ·exact h.elim
 ·exact h.elim
end
structure bK (G:Type) where
 f:fl
 q:Bool
 c:dk G
def qc:List (bK G)->fl->Option (dk G)
 |[],_=>ae
 |e::l,f=>bif aA e.f f then aa e.c else qc l f
def s8:List (bK G)->fl->Bool
 |[],_=>ag
 |e::l,f=>bif aA e.f f then e.q else s8 l f
def bM (P:aG) (gl:Nat->Option Nat) (L:List (bK G)):Ctx G:=⟨P,qc L,gl,s8 L,BS,Ec,λ_ _=>ae,xi,zW⟩
def jo (c:dk G):Prop:=∀args bl ch K,c args bl ch K->c args bl ch λv bl' ch'=>K v bl' ch'/\∃e,bl'=bl++e
def vL (P:aG) (gl:Nat->Option Nat) (e:bK G):Prop:=Sound P gl e.f e.c/\(e.q=af->jo e.c)
def aH (P:aG) (gl:Nat->Option Nat) (L:List (bK G)):Prop:=∀e∈L,vL P gl e
def aH.nil {P:aG} {gl:Nat->Option Nat}:aH (G:=G) P gl []:=λe h=>nomatch h
def aH.cons {P:aG} {gl:Nat->Option Nat} {e:bK G} {L:List (bK G)} (h:vL P gl e) (k:aH P gl L):aH P gl (e::L):=λx hx=>by
 rcases cF.1 hx with rfl|hx
 ·exact h
 ·exact k x hx
def aH.app {P:aG} {gl:Nat->Option Nat} {L M:List (bK G)} (h:aH P gl L) (k:aH P gl M):aH P gl (L++M):=λx hx=>by
 rcases eI.1 hx with hx|hx
 ·exact h x hx
 ·exact k x hx
def aH.T {P:aG} {gl:Nat->Option Nat} {L:List (bK G)} (h:aH P gl L):∀f c,(bM P gl L).T f=aa c->Sound (bM P gl L).P (bM P gl L).gl f c:=by
 intro f c hc;replace hc:qc L f=aa c:=hc;show Sound P gl f c;induction L with
 |nil=>cases hc
 |cons e L ih=>
  unfold qc at hc;cases hb:aA e.f f with
  |true=>
   rw[hb]at hc;obtain rfl:e.c=c:=by simpa using hc
   obtain rfl:=ck hb;exact(h e sP).1
  |false=>
   rw[hb]at hc;exact ih (λx hx=>h x (by simp[hx])) hc
def aH.Q {P:aG} {gl:Nat->Option Nat} {L:List (bK G)} (h:aH P gl L):nG (bM P gl L):=by
 intro f hf;replace hf:s8 L f=af:=hf;show∃c,qc L f=aa c/\_;induction L with
 |nil=>cases hf
 |cons e L ih=>
  unfold s8 at hf;unfold qc;cases hb:aA e.f f with
  |true=>
   rw[hb]at hf;exact⟨e.c,rfl,(h e sP).2 (by simpa using hf)⟩
  |false=>
   rw[hb]at hf;exact ih (λx hx=>h x (by simp[hx])) hf
def qC (F:List V->List VB->Option (Prop×V)):dk G:=λargs bl ch K=>match F args bl with
 |some (p,v)=>p/\K v bl ch
 |none=>False
def LS (F:List V->List VB->Option (Prop×V)):jo (G:=G) (qC F):=by
 intro args bl ch K h;unfold qC at h⊢;split at h
 ·exact⟨h.1,h.2,[],sP⟩
 ·exact h
def Mem (ids:List Nat) (bl:List VB) (w:aj):Prop:=ids.length=bl.length/\∀(i:Nat) (b:VB),bl[i]?=aa b->w.heap[ids.getD i 0]?=aa (.cells (ak ids b.c).toArray b.ty.t b.ty.fz)
structure QF where
 f:fl
 F:List V->List VB->Option (Prop×V)
def QF.Ok (P:aG) (gl:Nat->Option Nat) (q:QF):Prop:=∀args bl p v,q.F args bl=aa (p,v)->p->∀ids w,Gl gl ids->Mem ids bl w->aX P q.f (aE ids args).toArray w λx w'=>x=den ids v/\Ch [] w w'
def LU {P:aG} {gl:Nat->Option Nat} {q:QF} (h:q.Ok P gl):Sound P gl q.f (qC (G:=G) q.F):=by
 intro args ids bl ch R ms w0 w K hg hl S hc;unfold qC at hc;split at hc
 ·rename_i p v hF;refine(h args bl p v hF hc.1 ids w hg ⟨hl,λi b hb=>(gx hl S hb).2⟩).mono ?_;rintro x w' ⟨rfl,cz⟩;exact⟨v,[],bl,ch,sP,by simpa using hl,by simpa using S.quiet cz,hc.2⟩
 ·exact hc.elim
def qE (G:Type) [Bl G] (q:QF):bK G:=⟨q.f,af,qC q.F⟩
def qL (G:Type) [Bl G]:List QF->List (bK G)
 |[]=>[]
 |q::l=>qE G q::qL G l
def bP (P:aG) (gl:Nat->Option Nat) (L:List QF):Prop:=∀q∈L,QF.Ok P gl q
def kA {P:aG} {gl:Nat->Option Nat}:∀{L:List QF},bP P gl L->aH (G:=G) P gl (qL G L)
 |[],_=>aH.nil
 |q::l,h=>aH.cons ⟨LU (h q sP),λ_=>LS q.F⟩ (kA λx hx=>h x (by simp[hx]))
def bP.nil {P:aG} {gl:Nat->Option Nat}:bP P gl []:=λe h=>nomatch h
def bP.cons {P:aG} {gl:Nat->Option Nat} {e:QF} {L:List QF} (h:e.Ok P gl) (k:bP P gl L):bP P gl (e::L):=λx hx=>by
 rcases cF.1 hx with rfl|hx
 ·exact h
 ·exact k x hx
def bP.app {P:aG} {gl:Nat->Option Nat} {L M:List QF} (h:bP P gl L) (k:bP P gl M):bP P gl (L++M):=λx hx=>by
 rcases eI.1 hx with hx|hx
 ·exact h x hx
 ·exact k x hx
instance:Bl Empty:=⟨λ_=>[]⟩
def dP (P:aG) (L:List QF) (n:Nat) (f:fl) (args:List V) (X:V->Prop):Prop:=br (bM P (λ_=>ae) (qL Empty L)) n f args [] [] λv _ _=>X v
def Gl.no {ids:List Nat}:Gl (λ_=>ae) ids:=λg i h=>nomatch h
def xE {P:aG} {L:List QF} (hL:bP P (λ_=>ae) L) (n:Nat) {f:Nat} {args:List V} {v:V} (h:dP P L n f args (·=v)) (ha:bu 0 args=af) (hv:da 0 v=af) (ids:List Nat) (w:aj):
 aX P f (aE ids args).toArray w λx w'=>x=den ids v/\Ch [] w w':=by
 have e1:aE ids args=aE [] args:=by have:=oZ (ids:=[]) (more:=ids) args ha;simpa using this
 have e2:∀is,den is v=den [] v:=λis=>by have:=g_ (ids:=[]) (more:=is) v hv;simpa using this
 rw[e1];refine(eZ (kA hL).T (kA hL).Q n (C:=bM P (λ_=>ae) (qL Empty L)) (ids:=[]) (bl:=[]) (ch:=[]) (R:=[]) (ms:=[]) (w0:=w) (w:=w) Gl.no rfl (St.nil [] w) h).mono ?_;rintro x w' ⟨y,more,bl',ch',rfl,h1,S,rfl⟩;exact⟨by rw[e2 ids,e2],S.ch⟩
def aJ {b:Bool} {X Y:Prop} (h:b=af->X) (k:b=ag->Y):cond b X Y:=by cases b;exact k rfl;exact h rfl
end Vx
namespace Vx
open Go Go.RowKit Go.BigFrame Sx
structure bx where
 T:aM
 z:Nat
 os:List ai
 x:Option aI
 n:Nat
 c:Nat
 bl:List ao
 h:dD z T os x n c bl
instance:Bl bx:=⟨λg=>g.bl⟩
def bx.v (g:bx):V:=.raw (.slice g.x g.n g.c)
def bx.nil (T z:Nat):bx:=⟨T,z,[],ae,0,0,[],uf z T⟩
def uB (P:aG) (T:aM):Option (Nat×Nat):=match P.info? T with
 |some i=>(match i.zero with
  |some v=>bif aA v.cells.size i.size then aa (i.size,i.bytes)else ae
  |none=>ae)
 |none=>ae
def LV (T z:Nat) (s:V) (m:Nat) (news:List ai) (bl:List VB) (K:VK bx):List bx->List bx->Prop
 |_,[]=>False
 |pre,g::l=>bif aA g.T T then cond (aA g.z z) ((s=g.v/\g.n+m<=1000000)/\∀(x:Option aI) (c:Nat) (bk:List ao) (h:dD g.z g.T (g.os++news) x (g.n+m) c bk),K (.raw (.slice x (g.n+m) c)) bl (pre++⟨g.T,g.z,g.os++news,x,g.n+m,c,bk,h⟩::l)) False
  else LV T z s m news bl K (pre++[g]) l
def LW (P:aG):(bg->V)->Op->List VB->List bx->VK bx->Prop:=λe op bl ch K=>match op with
 |.call c=>(match c.callee,c.args.toList,c.argTypes.toList with
  |.builtin .append,[s,xs],[t,tx]=>(match P.underlying t,P.underlying tx with
   |some (.slice T),aa (.slice _)=>(match uB P T,e xs with
    |some (z,cd),.sl i 0 m _=>(match bl[i]?with
     |some b=>cond (aA (cD b.c) (m*z)&&(bu 0 b.c&&(nA b.c&&bZ cd 10000000))) (LV T z (e s) m (ak [] b.c) bl K [] ch) False
     |none=>False)
    |_,_=>False)
   |_,_=>False)
  |_,_,_=>False)
 |_=>False
def kY {G:Type} [Bl G] (R:List ao):∀(a b:List G),au (a++b) R=au a (au b R)
 |[],b=>rfl
 |g::a,b=>by simp only[fm,au,kY R a b]
def fe {G:Type} [Bl G] (R:List ao):∀(a:List G),au a R=au a []++R
 |[]=>rfl
 |g::a=>by simp only[au,fe R a,bW]
def aaw {T z:Nat} {s:V} {m:Nat} {news:List ai} {bl:List VB} {K:VK bx}:∀(ch pre:List bx),LV T z s m news bl K pre ch->∃(l1:List bx) (g:bx) (l2:List bx),ch=l1++g::l2/\g.T=T/\g.z=z/\s=g.v/\g.n+m<=1000000/\
 ∀(x:Option aI) (c:Nat) (bk:List ao) (h:dD g.z g.T (g.os++news) x (g.n+m) c bk),K (.raw (.slice x (g.n+m) c)) bl ((pre++l1)++⟨g.T,g.z,g.os++news,x,g.n+m,c,bk,h⟩::l2)
 |[],pre,h=>h.elim
 |g::l,pre,h=>by
  unfold LV at h;cases hb:aA g.T T with
  |true=>
   rw[hb]at h;simp only[cond_true]at h;cases hz:aA g.z z with
   |false=>rw[hz]at h;exact h.elim
   |true=>
    rw[hz]at h;exact⟨[],g,l,rfl,ck hb,ck hz,h.1.1,h.1.2,by simpa using h.2⟩
  |false=>
   rw[hb]at h;obtain⟨l1,g',l2,rfl,h1,h2,h3,h4,h5⟩:=aaw l _ h;refine⟨g::l1,g',l2,rfl,h1,h2,h3,h4,?_⟩;intro x c bk hh;have:=h5 x c bk hh;simpa[bW]using this
def aax {P:aG} {gl:Nat->Option Nat}:ik P gl (LW P):=by
 intro e op ids bl ch R ms w0 w K ρ o hg hl S bd ho h;unfold LW at h;split at h
 ·rename_i c;split at h
  ·rename_i s xs t tx ff cN dU;split at h
   ·rename_i T T' ht gr;split at h
    ·rename_i z cd i m cc cu fS;split at h
     ·rename_i b hb;cases hq:aA (cD b.c) (m*z)&&(bu 0 b.c&&(nA b.c&&bZ cd 10000000))with
      |false=>rw[hq]at h;exact h.elim
      |true=>
       rw[hq]at h;simp only[cond_true]at h;simp only[bD]at hq;obtain⟨q1,q2,q3,q4⟩:=hq;have q1:=ck q1;have q4:=eO q4;obtain⟨l1,g,l2,rfl,rfl,rfl,hs,hn,hK⟩:=aaw _ _ h;have hi:(P.info? g.T).map (λi=>(i.zero.map (·.cells.size),i.size,i.bytes))=aa (aa g.z,g.z,cd):=by
        unfold uB at cu;split at cu
        ·rename_i inf uC;split at cu
         ·rename_i v hv;cases ry:aA v.cells.size inf.size with
          |false=>rw[ry]at cu;simp at cu
          |true=>
           rw[ry]at cu;simp only[cond_true,aW,bC]at cu;have:=ck ry;simp[uC,hv,this,cu.1,cu.2]
         ·cases cu
        ·cases cu
       have hd:ak ids b.c=ak [] b.c:=by have:=jl (ids:=[]) (more:=ids) b.c q2;simpa using this
       have aS:=(gx hl S hb).2;have hlen:(ak [] b.c).length=m*g.z:=by rw[<-q1];exact lF b.c
       have fi:Src P g.z tx (.slice (aa ⟨ids.getD i 0,0,ae⟩) m cc) m (ak [] b.c) w:=by
        refine qN w gr ⟨ids.getD i 0,0,ae⟩ m cc _ hlen (λj u hj=>?_) (λu hu=>BJ q3 u hu);rw[iK,cell_of aS,hd];simpa using hj
       have e1:lits ids ids bl++au (l1++g::l2) R=(lits ids ids bl++au l1 [])++(g.bl++au l2 R):=by
        rw[kY,fe (au (g::l2) R) l1];simp only[au,bW];rfl
       rw[e1]at S;have jM:(g.n+m)*cd<=140737488355328:=ia (Nat.mul_le_mul hn q4) dC;obtain⟨v,w',bT,hc,x',c',bl',rfl,gp,qe⟩:=DP (P:=P) (ty:=o.type) g.h (λy hy=>S.at' (by simp[hy])) cd fi ht hi jM (ia hn dC);have S2:=S.vw g.h.wr hc (λy hy=>(qe y hy).1) (λy hy=>(qe y hy).2) gp.pw;refine⟨_,[],bl,_,w',.inl ?_,by simpa using hl,?_,hK x' c' bl' gp⟩
       ·obtain⟨mR,ar,iO⟩:=c;simp only at ff cN dU;have e2:ar=#[s,xs]:=by rw[<-cN]
        have e3:iO=#[t,tx]:=by rw[<-dU]
        subst ff e2 e3;have:=jJ (P:=P) (ρ:=ρ) (o:=o) ho (sv:=.slice g.x g.n g.c) (xv:=.slice (aa ⟨ids.getD i 0,0,ae⟩) m cc) (by rw[bd,hs];simp only[bx.v,den]) (by rw[bd,fS];simp only[den]) bT;simpa[den]using this
       ·rw[cT];have e4:lits ids ids bl++au (([]++l1)++⟨g.T,g.z,g.os++ak [] b.c,x',g.n+m,c',bl',gp⟩::l2) R=(lits ids ids bl++au l1 [])++(bl'++au l2 R):=by
         rw[fQ,kY,fe (au (_::l2) R) l1];simp only[au,bW];rfl
        rw[e4];exact S2
     ·exact h.elim
    ·exact h.elim
   ·exact h.elim
  ·exact h.elim
 ·exact h.elim
def mT (P:aG) (gl:Nat->Option Nat) (L:List (bK bx)):Ctx bx:=⟨P,qc L,gl,s8 L,LW P,aax,λ_ _=>ae,xi,zW⟩
def aH.TR {P:aG} {gl:Nat->Option Nat} {L:List (bK bx)} (h:aH P gl L):∀f c,(mT P gl L).T f=aa c->Sound (mT P gl L).P (mT P gl L).gl f c:=h.T
def aH.QR {P:aG} {gl:Nat->Option Nat} {L:List (bK bx)} (h:aH P gl L):nG (mT P gl L):=h.Q
def ahZ {P:aG} {w:aj} {z T n c m b:Nat} {olds tail news:List ai} (hlen:olds.length=n*z) (oV:(olds++tail).length=c*z) (j7:n<=c) (aS:w.heap[b]?=aa (.cells (olds++tail).toArray T (0,0)))
 {t tx ty:aM} {xv:ai} (bytes:Nat) (hs:Src P z tx xv m news w) (j8:0<m) (ht:P.underlying t=aa (.slice T)) (hi:(P.info? T).map (λi=>(i.zero.map (·.cells.size),i.size,i.bytes))=aa (aa z,z,bytes))
 (hb:(n+m)*bytes<=140737488355328) (h63:n+m<=maxLen):
 (∃w',(nh #[t,tx] ty #[.slice (aa ⟨b,0,ae⟩) n c,xv]).run P w=.ok (.slice (aa ⟨b,0,ae⟩) (n+m) c) w'/\Ch [b] w w'/\w'.heap[b]?=aa (.cells ((olds++news)++tail.drop news.length).toArray T (0,0))/\n+m<=c)\/
 (∃b' c' Ad w',(nh #[t,tx] ty #[.slice (aa ⟨b,0,ae⟩) n c,xv]).run P w=.ok (.slice (aa ⟨b',0,ae⟩) (n+m) c') w'/\Ch [] w w'/\w.heap.size<=b'/\w'.heap[b']?=aa (.cells ((olds++news)++Ad).toArray T (0,0))/\
  ((olds++news)++Ad).length=c'*z/\n+m<=c'):=by
 obtain⟨i,cu,hi⟩:=iX.1 hi;simp only[bC]at hi;obtain⟨hz,dc,j6⟩:=hi;obtain⟨z0,nv,pV⟩:=iX.1 hz;have qZ:=hs.newsLen;have ie:Src P i.size tx xv m news w:=by rw[dc];exact hs
 by_cases l9:n+m<=c
 ·left;have hbd:n*z+news.length<=(olds++tail).length:=by
   rw[oV,qZ,<-n9];exact PL _ l9
  have fE:=run_storeCells_at (P:=P) b (n*z) T news 0 (olds++tail).toArray w aS (by simpa using hbd) hs.one;simp only[lA]at fE;have bT:(nh #[t,tx] ty #[.slice (aa ⟨b,0,ae⟩) n c,xv]).run P w=.ok (.slice (aa ⟨b,0,ae⟩) (n+m) c) (w.setRow b ((olds++tail).take (n*z)++news++(olds++tail).drop (n*z+news.length)).toArray):=by
   rcases ie.kind with⟨e',hk⟩|hk<;>simp[nh,dw ht,dw hk,pN,typeInfo,cu,ie.len,l9,hs.cells,iK,dc,fE,je]
  refine⟨_,bT,by simpa using Ch.setRow w b _,?_,l9⟩;have:=setRow_heap w b (olds++tail).toArray ((olds++tail).take (n*z)++news++(olds++tail).drop (n*z+news.length)).toArray T (0,0) aS;rw[this];congr 3;rw[<-hlen,List.take_left,List.drop_append,List.drop_eq_nil_of_le oM];simp
 ·right;have hg:c<n+m:=oM;have hold:(Builtin.firstCells i.size n (.slice (aa ⟨b,0,ae⟩) n c)).run P w.drew=.ok olds.toArray w.drew:=by
   refine run_firstCells_some (P:=P) w.drew i.size n ⟨b,0,ae⟩ n c olds (by rw[hlen,dc]) (λj v hj=>?_);rw[iK];have:w.drew.cell? ⟨b,0+j,ae⟩=w.cell? ⟨b,j,ae⟩:=sP;rw[this,cell_of aS];have mM:j<olds.length:=by
    rcases c9 j olds.length with h|h
    ·exact h
    ·simp[h]at hj
   simp[gm mM,hj]
  have bT:=run_append_grow_src (P:=P) w t tx ty T i z0 ht cu nv (aa ⟨b,0,ae⟩) n c olds hold xv m news ie hg (by simp only[maxLen]at h63;omega) (by rw[j6];exact growslice_fits hg hb);have fh:=grownCap_ge w (n+m) c T;refine⟨w.heap.size,grownCap w (n+m) c T,(qM z0.cells (grownCap w (n+m) c T-(n+m))).toList,_,bT,?_,cY _,?_,?_,fh⟩
  ·exact((Ch.refl [] w).drew).trans (Ch.alloc [] w.drew _) (λx hx=>.inl hx)
  ·have:=n6 w.drew (.cells ((olds++news).toArray++qM z0.cells (grownCap w (n+m) c T-(n+m))) T);refine Eq.trans this ?_;congr 2;apply fD;simp
  ·rw[fL,fL,hlen,qZ,wF,size_zeroCells,pV,<-n9,<-n9];congr 1;omega
variable{G:Type} [Bl G]
def LX (P:aG):(bg->V)->Op->List VB->List G->VK G->Prop:=λe op bl ch K=>match op with
 |.call c=>(match c.callee,c.args.toList,c.argTypes.toList with
  |.builtin .append,[s,xs],[t,tx]=>(match P.underlying t,P.underlying tx with
   |some (.slice T),aa (.slice _)=>(match uB P T,e s,e xs with
    |some (z,cd),.sl j 0 n c,.sl i 0 (m+1) _=>(match bl[j]?,bl[i]?with
     |some ⟨wr,⟨Ta,(0,0)⟩,ac⟩,aa b=>(match zN ac 0 (n*z)with
      |some C=>cond (aA Ta T&&(wr&&(aA (cD b.c) ((m+1)*z)&&(nA b.c&&(bZ cd 10000000&&(bZ (n+(m+1)) 1000000&&(bu bl.length C&&(bu bl.length b.c&&bY bl.length bl))))))))
       ((n<=c/\cD ac=c*z)/\(∀(c':Nat) (u:List ai),n+(m+1)<=c'->cD (C++(b.c++[.rest u]))=c'*z->K (.sl j 0 (n+(m+1)) c') (bl.set j ⟨af,T,C++(b.c++[.rest u])⟩) ch)/\
         (∀(c':Nat) (u:List ai),n+(m+1)<=c'->cD (C++(b.c++[.rest u]))=c'*z->K (.sl bl.length 0 (n+(m+1)) c') (bl++[⟨af,T,C++(b.c++[.rest u])⟩]) ch)) False
      |none=>False)
     |_,_=>False)
    |_,_,_=>False)
   |_,_=>False)
  |_,_,_=>False)
 |_=>False
def Hm {P:aG} {T z cd:Nat} (cu:uB P T=aa (z,cd)):(P.info? T).map (λi=>(i.zero.map (·.cells.size),i.size,i.bytes))=aa (aa z,z,cd):=by
 unfold uB at cu;split at cu
 ·rename_i inf uC;split at cu
  ·rename_i v hv;cases ry:aA v.cells.size inf.size with
   |false=>rw[ry]at cu;simp at cu
   |true=>
    rw[ry]at cu;simp only[cond_true,aW,bC]at cu;have:=ck ry;simp[uC,hv,this,cu.1,cu.2]
  ·cases cu
 ·cases cu
def aay {P:aG} {gl:Nat->Option Nat}:ik (G:=G) P gl (LX P):=by
 intro e op ids bl ch R ms w0 w K ρ o hg hl S bd ho h;unfold LX at h;split at h
 ·rename_i c;split at h
  ·rename_i s xs t tx ff cN dU;split at h
   ·rename_i T T' ht gr;split at h
    ·rename_i z cd j n cc i m ow cu gE fS;split at h
     ·rename_i wr Ta ac b ha hb;split at h
      ·rename_i C hC;cases hq:aA Ta T&&(wr&&(aA (cD b.c) ((m+1)*z)&&(nA b.c&&(bZ cd 10000000&&(bZ (n+(m+1)) 1000000&&(bu bl.length C&&(bu bl.length b.c&&bY bl.length bl)))))))with
       |false=>rw[hq]at h;exact h.elim
       |true=>
        rw[hq]at h;simp only[cond_true]at h;simp only[bD]at hq;obtain⟨q1,q2,q3,q4,q5,q6,q8,q9,Hn⟩:=hq;have q1:=ck q1;have q3:=ck q3;have q5:=eO q5;have q6:=eO q6;obtain⟨⟨q7,dc⟩,oh,GV⟩:=h;subst q1 q2;have aS:=(gx hl S hb).2;obtain⟨hj,RX⟩:=gx hl S ha;obtain⟨g1,g2,g3⟩:=zP (ids:=ids) hC;rw[List.drop_zero]at g1;have xF:(ak ids b.c).length=(m+1)*z:=by rw[lF,q3]
        have fi:Src P z tx (.slice (aa ⟨ids.getD i 0,0,ae⟩) (m+1) ow) (m+1) (ak ids b.c) w:=by
         refine qN w gr ⟨ids.getD i 0,0,ae⟩ (m+1) ow _ xF (λj u hj=>?_) (λu hu=>BJ q4 u hu);rw[iK,cell_of aS];simpa using hj
        have oV:(ak ids C++(ak ids ac).drop (n*z)).length=cc*z:=by
         rw[<-g1,jH,lF,dc]
        have RY:w.heap[ids.getD j 0]?=aa (.cells (ak ids C++(ak ids ac).drop (n*z)).toArray Ta (0,0)):=by
         rw[<-g1,jH];exact RX
        have jM:(n+(m+1))*cd<=140737488355328:=ia (Nat.mul_le_mul q6 q5) dC;have dd:∀(is:List Nat) (u:List ai),ak is (C++(b.c++[.rest u]))=(ak is C++ak is b.c)++u:=λis u=>by
         rw[jK,jK];simp[ak,cl]
        have sz:∀(is:List Nat) (u:List ai) (c':Nat),((ak is C++ak is b.c)++u).length=c'*z->cD (C++(b.c++[.rest u]))=c'*z:=λis u c' hh=>by
         rw[<-lF (ids:=is),dd,hh]
        obtain⟨mR,ar,iO⟩:=c;simp only at ff cN dU;have e2:ar=#[s,xs]:=by rw[<-cN]
        have e3:iO=#[t,tx]:=by rw[<-dU]
        subst ff e2 e3;have run:∀{v w'},(nh #[t,tx] o.type #[.slice (aa ⟨ids.getD j 0,0,ae⟩) n cc,.slice (aa ⟨ids.getD i 0,0,ae⟩) (m+1) ow]).run P w=.ok v w'->(execOp ρ o).run P w=.ok (.value v) w':=λbT=>
         jJ (P:=P) (ρ:=ρ) (o:=o) ho (by rw[bd,gE];simp only[den]) (by rw[bd,fS];simp only[den]) bT
        rcases ahZ (P:=P) (ty:=o.type) g2 oV q7 RY cd fi (Nat.succ_pos m) ht (Hm cu) jM (ia q6 dC)with⟨w',bT,hc,hh,l9⟩|⟨b',c',Ad,w',bT,hc,ah0,hh,ah1,l9⟩
        ·refine⟨_,[],_,ch,w',.inl ?_,by simpa using hl,?_,oh cc (((ak ids ac).drop (n*z)).drop (ak ids b.c).length) l9 (sz ids _ _ ?_)⟩
         ·have:=run bT;simpa[den]using this
         ·simp only[cT];have fE:=S.step hj rfl hc hh;have mM:j<(lits ids ids bl).length:=by rw[zT ids bl hl];rcases c9 j bl.length with h'|h';exact h';simp[h']at ha
          rw[<-D_ (ids:=ids) ids bl j _ hl,<-List.set_append_left _ _ mM];simp only[aC,dd];exact fE
         ·rw[<-oV];simp only[fL,List.length_drop];have:(ak ids C).length+(ak ids b.c).length<=(ak ids C++(ak ids ac).drop (n*z)).length:=by
           rw[oV,g2,xF,<-n9];exact PL _ l9
          simp only[fL,List.length_drop]at this;omega
        ·have Ho:bu ids.length (C++(b.c++[.rest Ad]))=af:=by
          rw[hl];have Ew:∀(x y:List V),bu bl.length x=af->bu bl.length y=af->bu bl.length (x++y)=af:=by
           intro x y;induction x with
           |nil=>intro _ h;simpa using h
           |cons v x ih=>intro h1 h2;simp only[fm,bu,bD]at h1⊢;exact⟨h1.1,ih h1.2 h2⟩
          exact Ew _ _ q8 (Ew _ _ q9 rfl)
         refine⟨_,[b'],_,ch,w',.inl ?_,by simp[hl],?_,GV c' Ad l9 (sz ids _ _ ah1)⟩
         ·have:=run bT;rw[this];simp only[den];rw[<-hl,lG]
         ·rw[fu _ _ _ _ hl,fw _ _ (by rw[hl];exact Hn)];simp only[lits,aC];rw[jl _ Ho,dd];have:=S.new hc ah0 hh;refine this.perm ?_;rw[bW (lits ids ids bl)];exact(kH).symm
      ·exact h.elim
     ·exact h.elim
    ·exact h.elim
   ·exact h.elim
  ·exact h.elim
 ·exact h.elim
def s9 (P:aG) (gl:Nat->Option Nat) (L:List (bK G)):Ctx G:=⟨P,qc L,gl,s8 L,LX P,aay,λ_ _=>ae,xi,zW⟩
def aH.TS {P:aG} {gl:Nat->Option Nat} {L:List (bK G)} (h:aH P gl L):∀f c,(s9 P gl L).T f=aa c->Sound (s9 P gl L).P (s9 P gl L).gl f c:=h.T
def aH.QS {P:aG} {gl:Nat->Option Nat} {L:List (bK G)} (h:aH P gl L):nG (s9 P gl L):=h.Q
end Vx
namespace Vx
open Go Go.RowKit Go.BigFrame Sx
def xG (i:Nat):List Nat->Nat->Option Nat
 |[],_=>ae
 |j::l,k=>bif aA j i then aa k else xG i l (k+1)
def vbz:VB:=⟨ag,⟨0,(0,0)⟩,[]⟩
mutual
def LY:V->List Nat
 |.ptr i _=>[i]
 |.sl i _ _ _=>[i]
 |.eW i _ _ _ _=>[i]
 |.pe i _ _ _ _=>[i]
 |.fn _ a b=>Ex a++Ex b
 |.nz _ v=>LY v
 |.agg l=>Ex l
 |.ay l=>Ex l
 |_=>[]
def Ex:List V->List Nat
 |[]=>[]
 |v::l=>LY v++Ex l
end
mutual
def rz (dH:List Nat):V->Option V
 |.ptr i off=>match xG i dH 0 with|some k=>aa (.ptr k off)|none=>ae
 |.sl i off n c=>match xG i dH 0 with|some k=>aa (.sl k off n c)|none=>ae
 |.eW i off n c x=>match xG i dH 0 with|some k=>aa (.eW k off n c x)|none=>ae
 |.pe i o j z q=>match xG i dH 0 with|some k=>aa (.pe k o j z q)|none=>ae
 |.fn f a b=>match vM dH a,vM dH b with|some a',aa b'=>aa (.fn f a' b')|_,_=>ae
 |.nz t v=>match rz dH v with|some v'=>aa (.nz t v')|none=>ae
 |.agg l=>match vM dH l with|some l'=>aa (.agg l')|none=>ae
 |.ay l=>match vM dH l with|some l'=>aa (.ay l')|none=>ae
 |v=>aa v
def vM (dH:List Nat):List V->Option (List V)
 |[]=>aa []
 |v::l=>match rz dH v,vM dH l with|some v',aa l'=>aa (v'::l')|_,_=>ae
end
def LZ (bl:List VB) (dH:List Nat):List Nat->Option (List VB)
 |[]=>aa []
 |i::is=>match bl[i]?with
  |some b=>(match vM dH b.c,LZ bl dH is with
   |some c,aa l=>aa (⟨b.wr,b.ty,c⟩::l)
   |_,_=>ae)
  |none=>ae
def Hp (dH:List Nat):List Nat->List Nat
 |[]=>dH
 |i::l=>match xG i dH 0 with|some _=>Hp dH l|none=>Hp (dH++[i]) l
def RZ (bl:List VB):Nat->Nat->List Nat->List Nat
 |0,_,dH=>dH
 |n+1,k,dH=>match dH[k]?with
  |some i=>(match bl[i]?with
   |some b=>RZ bl n (k+1) (Hp dH (Ex b.c))
   |none=>dH)
  |none=>dH
def Ae:Nat->List Nat
 |0=>[]
 |n+1=>Ae n++[n]
def Hq (n0:Nat) (v:V) (bl:List VB) (dH:List Nat):Option (V×List VB):=bif Eh dH&&Hr (Ae n0) dH then(match rz dH v,LZ bl dH dH with|some v',aa bl'=>aa (v',bl')|_,_=>ae)else ae
where Hr:List Nat->List Nat->Bool
 |[],_=>af
 |i::a,j::b=>aA i j&&Hr a b
 |_::_,[]=>ag
def bA {G:Type} (n0:Nat) (K:VK G):VK G:=λv bl ch=>match Hq n0 v bl (RZ bl bl.length 0 (Hp (Ae n0) (LY v)))with
 |some (v',bl')=>K v' bl' ch
 |none=>False
def aaz {i:Nat}:∀{l:List Nat} {k m:Nat},xG i l k=aa m->k<=m/\l[m-k]?=aa i
 |[],k,m,h=>by cases h
 |j::l,k,m,h=>by
  unfold xG at h;cases hb:aA j i with
  |true=>
   rw[hb]at h;obtain rfl:k=m:=by simpa using h
   exact⟨cY _,by simp[ck hb]⟩
  |false=>
   rw[hb]at h;obtain⟨h1,h2⟩:=aaz (l:=l) h;refine⟨oM,?_⟩;rw[show m-k=(m-(k+1))+1 by omega];simpa using h2
def L_ {ids dH:List Nat} {i k:Nat} (h:xG i dH 0=aa k):(dH.map λj=>ids.getD j 0).getD k 0=ids.getD i 0:=by
 have:=(aaz h).2;simp only[Nat.sub_zero]at this;simp[gd,this]
mutual
theorem Ma {ids dH:List Nat}:∀(v:V) {v':V},rz dH v=aa v'->den (dH.map λj=>ids.getD j 0) v'=den ids v
 |.ptr i off,v',h=>by
  simp only[rz]at h;split at h
  ·rename_i k hk;cases h;simp only[den,L_ hk]
  ·cases h
 |.sl i off n c,v',h=>by
  simp only[rz]at h;split at h
  ·rename_i k hk;cases h;simp only[den,L_ hk]
  ·cases h
 |.eW i off n c x,v',h=>by
  simp only[rz]at h;split at h
  ·rename_i k hk;cases h;simp only[den,L_ hk]
  ·cases h
 |.fn f a b,v',h=>by
  simp only[rz]at h;split at h
  ·rename_i a' b' ha hb;cases h;simp only[den,Mb a ha,Mb b hb]
  ·cases h
 |.nz t v,v',h=>by
  simp only[rz]at h;split at h
  ·rename_i u hu;cases h;simp only[den,Ma v hu]
  ·cases h
 |.agg l,v',h=>by
  simp only[rz]at h;split at h
  ·rename_i u hu;cases h;simp only[den,R1 l hu]
  ·cases h
 |.ay l,v',h=>by
  simp only[rz]at h;split at h
  ·rename_i u hu;cases h;simp only[den,Mb l hu]
  ·cases h
 |.int _ _,v',h=>by cases h;simp[den]
 |.bool _,v',h=>by cases h;simp[den]
 |.cv _ _ _,v',h=>by cases h;simp[den]
 |.arr _ _ _,v',h=>by cases h;simp[den]
 |.dO _ _ _ _,v',h=>by cases h;simp[den]
 |.rest _,v',h=>by cases h;simp[den]
 |.iD _ _ _,v',h=>by cases h;simp[den]
 |.pe i o j z q,v',h=>by
  simp only[rz]at h;split at h
  ·rename_i k hk;cases h;simp only[den,L_ hk]
  ·cases h
 |.raw _,v',h=>by cases h;simp[den]
theorem Mb {ids dH:List Nat}:∀(l:List V) {l':List V},vM dH l=aa l'->aE (dH.map λj=>ids.getD j 0) l'=aE ids l
 |[],l',h=>by cases h;rfl
 |v::l,l',h=>by
  simp only[vM]at h;split at h
  ·rename_i v1 l1 hv hl;cases h;simp only[aE,Ma v hv,Mb l hl]
  ·cases h
theorem R1 {ids dH:List Nat}:∀(l:List V) {l':List V},vM dH l=aa l'->ak (dH.map λj=>ids.getD j 0) l'=ak ids l
 |[],l',h=>by cases h;rfl
 |v::l,l',h=>by
  simp only[vM]at h;split at h
  ·rename_i v1 l1 hv hl;cases h;simp only[ak,Ma v hv,R1 l hl];congr 1;cases v<;>simp only[rz]at hv<;>(try split at hv)<;>first|(cases hv;rfl)|(cases hv;done)
  ·cases h
end
def aaA {ids dH:List Nat} {bl:List VB} (hl:ids.length=bl.length):∀(is:List Nat) {bl':List VB},LZ bl dH is=aa bl'->(is.map λj=>ids.getD j 0).length=bl'.length/\
 lits (dH.map λj=>ids.getD j 0) (is.map λj=>ids.getD j 0) bl'=(is.map λj=>aC ids (ids.getD j 0) (bl.getD j vbz))/\∀j∈is,j<bl.length
 |[],bl',h=>by cases h;simp[lits]
 |i::is,bl',h=>by
  unfold LZ at h;split at h
  ·rename_i b hb;split at h
   ·rename_i c l hc hL;cases h;obtain⟨h1,h2,h3⟩:=aaA hl is hL;have cH:i<bl.length:=by rcases c9 i bl.length with h'|h';exact h';simp[h']at hb
    refine⟨by simpa using h1,?_,?_⟩
    ·simp only[gb,lits,h2];congr 1;simp only[aC,R1 _ hc];simp[gd,hb]
    ·intro j hj;rcases cF.1 hj with rfl|hj
     ·exact cH
     ·exact h3 j hj
   ·cases h
  ·cases h
def aaB (ids:List Nat):∀(is:List Nat) (bl:List VB),is.length=bl.length->lits ids is bl=(bo bl.length).map λj=>aC ids (is.getD j 0) (bl.getD j vbz)
 |[],[],_=>rfl
 |i::is,b::bl,h=>by
  rw[jf,tZ,gb,l5];simp only[lits];rw[aaB ids is bl (by simpa using h)];rfl
def aaC:∀{a b:List Nat},Hq.Hr a b=af->∃c,b=a++c
 |[],b,_=>⟨b,rfl⟩
 |i::a,j::b,h=>by
  simp only[Hq.Hr,bD]at h;obtain⟨c,rfl⟩:=aaC h.2;exact⟨c,by simp[ck h.1]⟩
 |_::_,[],h=>by cases h
def aaD (ids:List Nat):∀n,n<=ids.length->(Ae n).map (λj=>ids.getD j 0)=ids.take n
 |0,_=>by simp[Ae]
 |n+1,h=>by
  simp only[Ae,tX,gb,List.map_nil,aaD ids n oM];rw[List.take_add_one];congr 1;have:n<ids.length:=oM;simp[gd,jY this]
def iP {G:Type} {n0:Nat} {K:VK G} {v:V} {bl:List VB} {ch:List G} {ids:List Nat} {X:List ao} {ms:List Nat} {w0 w:aj} (hl:ids.length=bl.length) (hn:n0<=ids.length) (S:St ms w0 (lits ids ids bl++X) w) (h:bA n0 K v bl ch):
 ∃v' more bl',den ids v=den (ids.take n0++more) v'/\(ids.take n0++more).length=bl'.length/\St ms w0 (lits (ids.take n0++more) (ids.take n0++more) bl'++X) w/\K v' bl' ch:=by
 unfold bA at h;generalize RZ bl bl.length 0 (Hp (Ae n0) (LY v))=dH at h;unfold Hq at h;cases hq:Eh dH&&Hq.Hr (Ae n0) dH with
 |false=>rw[hq]at h;exact h.elim
 |true=>
  rw[hq]at h;simp only[cond_true]at h;simp only[bD]at hq;have vK:=Rs hq.1;obtain⟨c,hc⟩:=aaC hq.2;split at h
  ·rename_i v' bl' hv;split at hv
   ·rename_i v1 jy vy jM;cases hv;obtain⟨h1,h2,h3⟩:=aaA hl dH jM;have e:dH.map (λj=>ids.getD j 0)=ids.take n0++c.map λj=>ids.getD j 0:=by
     rw[hc,tX,aaD ids n0 hn]
    refine⟨_,c.map λj=>ids.getD j 0,_,?_,?_,?_,h⟩
    ·rw[<-e];exact(Ma v vy).symm
    ·rw[<-e];exact h1
    ·rw[<-e,h2];obtain⟨r,hr⟩:=GM dH (bo bl.length) vK (λx hx=>List.mem_range.2 (h3 x hx));rw[aaB ids ids bl hl]at S;have S1:=S.perm ((hr.map _).append_right X);rw[tX]at S1;exact S1.sub (YF (List.sublist_append_left _ _) _)
   ·cases hv
  ·exact h.elim
structure YG where
 l:Nat
 d:Nat
 a:Nat
 fn:fl
 tm:Array ai
 p:Tmp
 nB:eH
 body:eH
 ty:aM
 c:List V
def YG.obj (y:YG) (s:LoopState):Obj:=.loop {state:=s,pending:=ae,fn:=y.fn,tmps:=y.tm,params:=#[y.p],assign:=y.nB,body:=y.body,defers:=y.d}
def YG.B (y:YG):List ao:=[⟨y.l,af,y.obj .ready⟩,⟨y.d,af,.deferred (aa [])⟩,⟨y.a,af,.cells (ak [] y.c).toArray y.ty (0,0)⟩]
class Af (G:Type) [Bl G] where
 Hs:YG->G
 aaE:List G->Option (List G×YG)
 hB:∀y,Bl.B (Hs y)=y.B
 ok:∀ch p y,aaE ch=aa (p,y)->ch=p++[Hs y]
variable{G:Type} [Bl G] [Af G]
def Ey (t L:Nat) (g:Nat->ai):Nat->Nat->List V
 |0,_=>[]
 |n+1,i=>(bif aA i t then .ptr L 0 else .raw (g i))::Ey t L g n (i+1)
def aaF (L:Nat) (y:YG) (K:VK G):ov G:=λe fr bl ch=>match e with
 |.normal=>(match bl[L]?with
  |some ⟨af,⟨ty,(0,0)⟩,c⟩=>cond (aA ty y.ty&&(bu 0 c&&bY L (bl.take L))) (K (.bool af) (bl.take L) (ch++[Af.Hs ⟨y.l,y.d,y.a,y.fn,y.tm,y.p,y.nB,y.body,y.ty,c⟩])) False
  |_=>False)
 |_=>False
def yAs (rec:B7 G) (body:eH) (K:ov G):ov G:=λe fr bl ch=>match e with
 |.normal=>rec body fr bl ch K
 |_=>False
def yC (C:Ctx G) (n nt t p:Nat) (nB body:eH):Nat->dk G:=λl args bl ch K=>match args,Af.aaE ch with
 |[v],aa (pre,y)=>cond (da bl.length v&&(bY bl.length bl&&bu 0 y.c))
  ((l=y.l/\y.p=p/\y.nB=nB/\y.body=body/\y.tm.size=nt/\y.tm.getD t undef=.pointer (aa ⟨y.a,0,ae⟩))/\
    uy C n nB (ma (Ey t bl.length (λi=>y.tm.getD i undef) nt 0) p v) (bl++[⟨af,⟨y.ty,(0,0)⟩,y.c⟩]) pre (yAs (uy C n) body (aaF bl.length y K))) False
 |_,_=>False
def aaG {ids:List Nat} {t L:Nat} {g:Nat->ai} (h:g t=.pointer (aa ⟨ids.getD L 0,0,ae⟩)):∀(n i:Nat),aE ids (Ey t L g n i)=(bo n).map λj=>g (i+j)
 |0,_=>rfl
 |n+1,i=>by
  rw[tZ,gb,l5];simp only[Ey,aE,aaG h n (i+1)];congr 1
  ·cases hb:aA i t with
   |true=>
    obtain rfl:=ck hb;simp only[cond_true,den,lA,h]
   |false=>simp only[cond_false,den,lA]
  ·exact ni λj _=>by simp only[Function.comp_apply];congr 1;omega
def ah2 {ids:List Nat} {t L:Nat} {tm:Array ai} (h:tm.getD t undef=.pointer (aa ⟨ids.getD L 0,0,ae⟩)):(aE ids (Ey t L (λi=>tm.getD i undef) tm.size 0)).toArray=tm:=by
 rw[aaG h];apply Array.ext
 ·simp
 ·intro i h1 h2;simp[DC,h2]
def Ch.putObj (w:aj) (l:Nat) (o:Obj):Ch [l] w (w.putObj l o):=
 ⟨rfl,rfl,rfl,sP,λk hk hm=>World.putObj_heap_other (by simpa using hm)⟩
def aaH (ch:List G) (A R:List ao) (x:ao):(A++au ch (x::R)).Perm (x::(A++au ch R)):=by
 rw[fe (x::R) ch,fe R ch];refine(j4 A kH).trans ?_;exact kH
def St.putObj {ms:List Nat} {w0 w:aj} {A R:List ao} {ch:List G} {l:Nat} {o o':Obj} (S:St ms w0 (A++au ch (⟨l,af,o⟩::R)) w):St ms w0 (A++au ch (⟨l,af,o'⟩::R)) (w.putObj l o'):=by
 have S1:=S.perm (aaH ch A R _);have S2:=S1.step (i:=0) (x:=⟨l,af,o⟩) rfl rfl (Ch.putObj w l o') (World.putObj_heap_same (oe (S1.at_ 0 ⟨l,af,o⟩ rfl)));exact St.perm S2 (aaH ch A R _).symm
def aaI (p:List G) (y:YG) (R:List ao):au (p++[Af.Hs y]) R=au p (y.B++R):=by
 rw[kY];show au p (Bl.B (Af.Hs y:G)++R)=_;rw[Af.hB]
def ah3 {C:Ctx G} (hT:∀f c,C.T f=aa c->Sound C.P C.gl f c) (hQ:nG C) (n nt t p:Nat) (nB body:eH) (l:Nat):Re C.P C.gl l (yC C n nt t p nB body l):=by
 intro args ids bl ch R ms w0 w K hg hl S h;unfold yC at h;split at h
 ·rename_i v pre y hy;obtain rfl:=Af.ok _ _ _ hy;cases hq:da bl.length v&&(bY bl.length bl&&bu 0 y.c)with
  |false=>rw[hq]at h;exact h.elim
  |true=>
   rw[hq]at h;obtain⟨⟨rfl,rfl,rfl,rfl,rfl,h5⟩,h⟩:=h;simp only[bD,<-hl]at hq;obtain⟨q1,q2,q3⟩:=hq;have hyc:∀is,ak is y.c=ak [] y.c:=λis=>by have:=jl (ids:=[]) (more:=is) y.c q3;simpa using this
   rw[aaI]at S;have S1:St ms w0 (lits (ids++[y.a]) (ids++[y.a]) (bl++[⟨af,⟨y.ty,(0,0)⟩,y.c⟩])++au pre (⟨y.l,af,y.obj .ready⟩::⟨y.d,af,.deferred (aa [])⟩::R)) w:=by
    refine S.perm ?_;rw[fu _ _ _ _ hl,fw _ _ q2];simp only[lits,aC,hyc,YG.B,fm,fQ];rw[fe (_::_::_::R) pre,fe (_::_::R) pre,bW];refine j4 _ ?_;rw[wJ];refine wK ?_ kH;refine j4 _ ?_;exact((Bb _ _ _).cons _).trans (Bb _ _ _)
   have hlen:(ids++[y.a]).length=(bl++[(⟨af,⟨y.ty,(0,0)⟩,y.c⟩:VB)]).length:=by simp[hl]
   have aS:w.heap[y.l]?=aa (y.obj .ready):=S1.at' (x:=⟨y.l,af,y.obj .ready⟩) (by rw[fe];simp);have Ht:((#[y.p].zip (aE ids [v]).toArray).foldl (λtmps (t,a)=>tmps.setIfInBounds t a) y.tm)=(act (ids++[y.a]) (ma (Ey t bl.length (λi=>y.tm.getD i undef) y.tm.size 0) y.p v)).tmps:=by
    have e1:=ah2 (ids:=ids++[y.a]) (t:=t) (L:=bl.length) (tm:=y.tm) (by rw[h5,<-hl,lG]);simp only[act,Zt,e1,g_ v q1];simp[aE]
   refine⟨_,_,_,_,run_yield aS (by simp[aE]),roundIn_of_wpIn trivial ?_⟩;show Code.wpIn (FW (aa y.l)) 0 C.P y.nB _ ⟨_,[]⟩ w;simp only[Ht];refine(sound hT hQ n (aa y.l) y.nB (hg.app [y.a]) hlen S1 h ?_).1;intro e B2 ah4 jy R2 w1 g1 g2 g3;unfold yAs at g3;split at g3
   ·have uh:w1.heap[y.l]?=aa (y.obj .ready):=g2.at' (x:=⟨y.l,af,y.obj .ready⟩) (by rw[fe];simp);refine⟨_,run_beginRound uh rfl,?_⟩;show Code.wpIn (FW (aa y.l)) 0 C.P y.body _ _ _;have g2':=St.putObj (o':=y.obj .busy) g2;refine(sound hT hQ n (aa y.l) y.body ((hg.app [y.a]).app ah4) g1 g2' g3 ?_).1;intro e o9 cn bl2 ch2 w2 k1 k2 k3;unfold aaF at k3;split at k3
    ·split at k3
     ·rename_i ty c hb;cases hq:aA ty y.ty&&(bu 0 c&&bY bl.length (bl2.take bl.length))with
      |false=>rw[hq]at k3;exact k3.elim
      |true=>
       rw[hq]at k3;simp only[cond_true]at k3;simp only[bD]at hq;obtain⟨r1,r2,r3⟩:=hq;obtain rfl:=ck r1;have s_:w2.heap[y.l]?=aa (y.obj .busy):=k2.at' (x:=⟨y.l,af,y.obj .busy⟩) (by rw[fe];simp);have Mc:=St.putObj (o':=y.obj .ready) k2;refine⟨_,_,run_endRound ae s_,_,rfl,.bool af,[],bl2.take bl.length,_,rfl,?_,?_,k3⟩
       ·have:bl.length<bl2.length:=by
         rcases c9 bl.length bl2.length with h'|h'
         ·exact h'
         ·simp[h']at hb
        simp[hl];omega
       ·have hc:∀is,ak is c=ak [] c:=λis=>by have:=jl (ids:=[]) (more:=is) c r2;simpa using this
        have cH:bl.length<bl2.length:=by
         rcases c9 bl.length bl2.length with h'|h'
         ·exact h'
         ·simp[h']at hb
        have mL:bl2=bl2.take bl.length++(⟨af,⟨y.ty,(0,0)⟩,c⟩::bl2.drop (bl.length+1)):=by
         have t_:bl2[bl.length]=⟨af,⟨y.ty,(0,0)⟩,c⟩:=by rw[jY cH]at hb;exact cG hb
         rw[<-t_,<-List.drop_eq_getElem_cons cH,jH]
        have cX:ids.length=(bl2.take bl.length).length:=by simp[hl];omega
        rw[aaI];generalize bl2.take bl.length=A at mL cX r3⊢;generalize bl2.drop (bl.length+1)=J at mL;subst mL;simp only[cT];simp only[bW,fm,fQ]at Mc;rw[fu ids _ _ _ cX,fw _ _ (by rw[hl];exact r3)]at Mc;simp only[lits,aC,hc]at Mc;have k4:=Mc.sub (bs':=(lits ids ids A++[⟨y.a,af,.cells (ak [] c).toArray y.ty (0,0)⟩])++au ch2 (⟨y.l,af,y.obj .ready⟩::⟨y.d,af,.deferred (aa [])⟩::R)) (by
         refine YF ?_ _;refine mD ?_ _;exact wL _ (List.nil_sublist _))
        refine k4.perm ?_;rw[fe (_::_::R) ch2,fe (YG.B _++R) ch2,bW];refine j4 _ ?_;rw[wJ];refine wK kH.symm ?_;refine j4 _ ?_;exact(Bb _ _ _).trans ((Bb _ _ _).cons _)
     ·exact k3.elim
    ·exact k3.elim
   ·exact g3.elim
 ·exact h.elim
end Vx
namespace Go.Proofs.YtddcipamdggcnaaGreatDoor
section
open Go Go.RowKit Go.BigFrame Sx Vx
structure dq where
 n:Nat
 f:Nat->Int
 x:Option aI
 c:Nat
 B:List ao
 h:eQ 5 n f x c B
def dq.v (b:dq):ai:=.slice b.x b.n b.c
def dq.nil:dq:=⟨0,λ_=>0,ae,0,[],cY _,.inl ⟨rfl,rfl,rfl,rfl⟩⟩
structure iE where
 n:Nat
 f:Nat->Int
 x:Option aI
 c:Nat
 B:List ao
 h:∀w:aj,(∀y∈B,w.heap[y.id]?=aa y.obj)->dM w x n c f
def iE.v (b:iE):ai:=.slice b.x b.n b.c
structure dQ where
 a:Nat->Nat
 r:Nat->dq
def dQ.iQ (s:dQ) (i:Nat):ao:=⟨s.a i,af,.cells #[(s.r i).v] 133 (0,0)⟩
def dQ.B (s:dQ):List ao:=(s.iQ 0::(s.r 0).B)++((s.iQ 1::(s.r 1).B)++(s.iQ 2::(s.r 2).B))
def dQ.set (s:dQ) (i:Nat) (r:dq):dQ:=⟨s.a,λj=>if j=i then r else s.r j⟩
structure j_ where
 n:Nat
 f:Nat->Int
 x:Option aI
 c:Nat
 B:List ao
 le:n<=1000000
 h:(n=0/\n<=c/\(x=ae->c=0)/\B=[])\/eQ 5 n f x c B
def j_.v (b:j_):ai:=.slice b.x b.n b.c
def ox:List j_->List ao
 |[]=>[]
 |b::l=>b.B++ox l
def kZ:List dq->List ao
 |[]=>[]
 |b::l=>b.B++kZ l
end
end Go.Proofs.YtddcipamdggcnaaGreatDoor
namespace Vx
open Go Go.RowKit Go.BigFrame Sx
def ah5 {P:aG} {w:aj} {b:Nat} {kd:fH} {l:List (Int×ai)} {kv:Int} {vv:ai} {mt kt et:aM} (hu:P.underlying mt=aa (.map kt et)) (hk:P.underlying kt=aa (.int kd)) (aS:w.heap[b]?=aa (om kd l)) (hn:l.all (λx=>x.1!=kv)=af):
 (agi mt (.map (aa b)) (.int kd kv) vv).run P w=.ok () {w with heap:=w.heap.setIfInBounds b (om kd (l++[(kv,vv)]))}:=by
 have s_:w.heap[b]?=aa (.map ((l.zipIdx.map λx=>(⟨.int kd x.1.1,x.1.2,x.2⟩:wH)).toArray) l.length):=aS;have hf:PN (.int kd) (.int kd kv) ((l.zipIdx.map λx=>(⟨.int kd x.1.1,x.1.2,x.2⟩:wH)).toArray).toList 0=aa ae:=Zl kd kv _ 0 (agQ hn);have hc:(Instr.checkKey ag 10000 kt (.int kd kv)).run P w=.ok () w:=MapKept.run_checkKey (k:=.int kd kv) hk (by simp[MapKept.IsKey]) ag 9999;have ah6:(agi mt (.map (aa b)) (.int kd kv) vv).run P w=.ok () {w with heap:=w.heap.setIfInBounds b (Obj.map (((l.zipIdx.map λx=>(⟨.int kd x.1.1,x.1.2,x.2⟩:wH)).toArray).push ⟨.int kd kv,vv,l.length⟩) (l.length+1))}:=by
  generalize ((l.zipIdx.map λx=>(⟨.int kd x.1.1,x.1.2,x.2⟩:wH)).toArray)=es at*;simp[agi,dw hu,MapKept.run_getObj_map s_,hc,MapKept.run_findKey hk hf,MapKept.run_setObj_map _ s_,je]
 rw[ah6,agP]
def ah7 {P:aG} {w:aj} {b:Nat} {kd:fH} {l:List (Int×ai)} {kv:Int} {v:ai} {mt kt et:aM} (hu:P.underlying mt=aa (.map kt et)) (hk:P.underlying kt=aa (.int kd)) (aS:w.heap[b]?=aa (om kd l))
 (hn:∃j,PN (.int kd) (.int kd kv) ((l.zipIdx.map λx=>(⟨.int kd x.1.1,x.1.2,x.2⟩:wH)).toArray).toList 0=aa (aa (j,v))):(Instr.lookup mt (.map (aa b)) (.int kd kv) af).run P w=.ok (.tuple #[v,.bool af]) w:=by
 obtain⟨j,hf⟩:=hn;have s_:w.heap[b]?=aa (.map ((l.zipIdx.map λx=>(⟨.int kd x.1.1,x.1.2,x.2⟩:wH)).toArray) l.length):=aS;have hc:∀e,(Instr.checkKey e 10000 kt (.int kd kv)).run P w=.ok () w:=λe=>MapKept.run_checkKey (k:=.int kd kv) hk (by simp[MapKept.IsKey]) e 9999;simp[Instr.lookup,dw hu,MapKept.run_getObj_map s_,hc,MapKept.run_findKey hk hf,je]
structure Ag where
 id:Nat
 tb:List (Int×ai)
instance:Bl Ag:=⟨λg=>[⟨g.id,af,om .i64 g.tb⟩]⟩
def R3 (P:aG):(bg->V)->Op->List VB->List Ag->VK Ag->Prop:=λe op bl ch K=>match op with
 |.makeMap t ae=>(match ch with
  |[]=>∀id,K (.raw (.map (aa id))) bl [⟨id,[]⟩]
  |_=>False)
 |.insert mt m k x=>(match ch,e m,e k with
  |[g],.raw mv,.int .i64 kv=>(match P.underlying mt with
   |some (.map kt _)=>(match P.underlying kt with
    |some (.int .i64)=>cond (g.tb.all (λx=>x.1!=kv)&&da 0 (e x)) (mv=.map (aa g.id)/\K fU bl [⟨g.id,g.tb++[(kv,den [] (e x))]⟩]) False
    |_=>False)
   |_=>False)
  |_,_,_=>False)
 |_=>False
def ah8 {P:aG} {gl:Nat->Option Nat}:ik P gl (R3 P):=by
 intro e op ids bl ch R ms w0 w K ρ o hg hl S bd ho h;unfold R3 at h;split at h
 ·rename_i t;split at h
  ·refine⟨_,[],bl,_,w.alloc (.map #[] 0),.inl ?_,by simpa using hl,?_,h w.heap.size⟩
   ·unfold execOp;simp[ho,run_makeMap,je,den]
   ·have:=S.new (Ch.alloc [] w (.map #[] 0)) (cY _) (n6 w _);rw[cT];refine this.perm ?_;exact kH.symm
  ·exact h.elim
 ·rename_i mt m k x;split at h
  ·rename_i g mv kv hm hk;split at h
   ·rename_i kt et hu;split at h
    ·rename_i R4;cases hq:g.tb.all (λx=>x.1!=kv)&&da 0 (e x)with
     |false=>rw[hq]at h;exact h.elim
     |true=>
      rw[hq]at h;simp only[cond_true]at h;simp only[bD]at hq;obtain⟨rfl,hK⟩:=h;have e0:lits ids ids bl++au [g] R=lits ids ids bl++(⟨g.id,af,om .i64 g.tb⟩::R):=rfl;rw[e0]at S;have aS:=S.at' (x:=⟨g.id,af,om .i64 g.tb⟩) sP;have hx:den ids (e x)=den [] (e x):=by have:=g_ (ids:=[]) (more:=ids) (e x) hq.2;simpa using this
      have bT:=ah5 (P:=P) (vv:=den ids (e x)) hu R4 aS hq.1;refine⟨fU,[],bl,_,{w with heap:=w.heap.setIfInBounds g.id (om .i64 (g.tb++[(kv,den ids (e x))]))},.inr ⟨?_,rfl⟩,by simpa using hl,?_,hK⟩
      ·unfold execOp;simp only[ho,bd,hm,hk,den]at bT⊢;simp only[bz,bT,ct];rfl
      ·rw[cT,<-hx];have hi:(lits ids ids bl++(⟨g.id,af,om .i64 g.tb⟩::R))[(lits ids ids bl).length]?=aa ⟨g.id,af,om .i64 g.tb⟩:=sP;have:=S.step hi rfl (Ch.agO w g.id (om .i64 (g.tb++[(kv,den ids (e x))]))) (MapKept.heap_set aS).1;rw[List.set_append_right _ _ (cY _),Nat.sub_self]at this;exact this
    ·exact h.elim
   ·exact h.elim
  ·exact h.elim
 ·exact h.elim
def R5 (P:aG) (gl:Nat->Option Nat) (L:List (bK Ag)):Ctx Ag:=⟨P,qc L,gl,s8 L,R3 P,ah8,λ_ _=>ae,xi,zW⟩
def gy {G:Type} [Bl G] (P:aG) (gl:Nat->Option Nat) (L:List (bK G)) (h:(bg->V)->Op->List VB->List G->VK G->Prop) (hok:ik P gl h):Ctx G:=⟨P,qc L,gl,s8 L,h,hok,λ_ _=>ae,xi,zW⟩
def Sound.gl {G:Type} [Bl G] {P:aG} {gl Hu:Nat->Option Nat} {f:Nat} {c:dk G} (h:Sound P gl f c) (hg:∀ids,Gl Hu ids->Gl gl ids):Sound P Hu f c:=
 λargs ids bl ch R ms w0 w K h1 h2 S hc=>h args ids bl ch R ms w0 w K (hg ids h1) h2 S hc
inductive Sm (G:Type) where
 |g (x:G)
 |m (x:Ag)
instance{G:Type} [Bl G]:Bl (Sm G):=⟨λx=>match x with|.g x=>Bl.B x|.m x=>Bl.B x⟩
def gs {G:Type}:List G->List (Sm G)
 |[]=>[]
 |x::l=>.g x::gs l
def aaJ {G:Type} [Bl G] (R:List ao):∀(l:List G) (r:List (Sm G)),au (gs l++r) R=au l (au r R)
 |[],r=>rfl
 |x::l,r=>by
  simp only[gs,fm,au,aaJ R l r];rfl
def Hv {G:Type} (c:dk G):dk (Sm G):=λargs bl ch K=>match ch with
 |.g x::rest=>c args bl [x] λv bl' ch'=>K v bl' (gs ch'++rest)
 |_=>False
def ah9 {G:Type} [Bl G] {P:aG} {gl:Nat->Option Nat} {f:Nat} {c:dk G} (h:Sound P gl f c):Sound P gl f (Hv c):=by
 intro args ids bl ch R ms w0 w K hg hl S hc;unfold Hv at hc;split at hc
 ·rename_i x rest;have e:au (.g x::rest:List (Sm G)) R=au [x] (au rest R):=rfl;rw[e]at S;refine(h args ids bl [x] (au rest R) ms w0 w _ hg hl S hc).mono ?_;rintro v w' ⟨y,more,bl',ch',rfl,h1,S1,hK⟩;exact⟨y,more,bl',_,rfl,h1,by rw[aaJ];exact S1,hK⟩
 ·exact hc.elim
def ah_ {G:Type} {c:dk G} (h:jo c):jo (Hv c):=by
 intro args bl ch K hc;unfold Hv at hc⊢;split at hc
 ·exact h _ _ _ _ hc
 ·exact hc.elim
def R6 {G:Type}:List (bK G)->List (bK (Sm G))
 |[]=>[]
 |e::l=>⟨e.f,e.q,Hv e.c⟩::R6 l
def aaK {G:Type} [Bl G] {P:aG} {gl Hu:Nat->Option Nat} (hg:∀ids,Gl Hu ids->Gl gl ids):∀{L:List (bK G)},aH P gl L->aH P Hu (R6 L)
 |[],_=>aH.nil
 |e::l,h=>aH.cons ⟨ah9 ((h e sP).1.gl hg),λhq=>ah_ ((h e sP).2 hq)⟩ (aaK hg λx hx=>h x (by simp[hx]))
variable{G:Type} [Bl G]
def R7 (P:aG):(bg->V)->Op->List VB->List G->VK G->Prop:=λe op bl ch K=>match op with
 |.call c=>(match c.callee,c.args.toList,c.argTypes.toList with
  |.builtin .append,[s,xs],[t,tx]=>(match P.underlying t,P.underlying tx with
   |some (.slice T),aa (.slice _)=>(match uB P T,e s,e xs with
    |some (z,cd),.raw (.slice ae 0 0),.sl i 0 (m+1) _=>(match bl[i]?with
     |some b=>cond (aA (cD b.c) ((m+1)*z)&&(nA b.c&&(bZ cd 10000000&&(bZ (m+1) 1000000&&(bu bl.length b.c&&bY bl.length bl)))))
      (∀(c':Nat) (u:List ai),m+1<=c'->cD (b.c++[.rest u])=c'*z->K (.sl bl.length 0 (m+1) c') (bl++[⟨af,T,b.c++[.rest u]⟩]) ch) False
     |none=>False)
    |_,_,_=>False)
   |_,_=>False)
  |_,_,_=>False)
 |_=>False
def aia {P:aG} {gl:Nat->Option Nat}:ik (G:=G) P gl (R7 P):=by
 intro e op ids bl ch R ms w0 w K ρ o hg hl S bd ho h;unfold R7 at h;split at h
 ·rename_i c;split at h
  ·rename_i s xs t tx ff cN dU;split at h
   ·rename_i T T' ht gr;split at h
    ·rename_i z cd i m ow cu gE fS;split at h
     ·rename_i b hb;cases hq:aA (cD b.c) ((m+1)*z)&&(nA b.c&&(bZ cd 10000000&&(bZ (m+1) 1000000&&(bu bl.length b.c&&bY bl.length bl))))with
      |false=>rw[hq]at h;exact h.elim
      |true=>
       rw[hq]at h;simp only[cond_true]at h;simp only[bD]at hq;obtain⟨q3,q4,q5,q6,q9,Hn⟩:=hq;have q3:=ck q3;have q5:=eO q5;have q6:=eO q6;have aS:=(gx hl S hb).2;have xF:(ak ids b.c).length=(m+1)*z:=by rw[lF,q3]
       have fi:Src P z tx (.slice (aa ⟨ids.getD i 0,0,ae⟩) (m+1) ow) (m+1) (ak ids b.c) w:=by
        refine qN w gr ⟨ids.getD i 0,0,ae⟩ (m+1) ow _ xF (λj u hj=>?_) (λu hu=>BJ q4 u hu);rw[iK,cell_of aS];simpa using hj
       have jM:(0+(m+1))*cd<=140737488355328:=ia (Nat.mul_le_mul (by omega:0+(m+1)<=1000000) q5) dC;obtain⟨mR,ar,iO⟩:=c;simp only at ff cN dU;have e2:ar=#[s,xs]:=by rw[<-cN]
       have e3:iO=#[t,tx]:=by rw[<-dU]
       subst ff e2 e3;obtain⟨v,w',bT,hc,x',c',bl',rfl,⟨r1,r2,r3⟩,qe⟩:=DP (P:=P) (ty:=o.type) (uf z T) sP cd fi ht (Hm cu) jM (ia (by omega:0+(m+1)<=1000000) dC);rcases r3 with⟨_,h0,_⟩|⟨b',tail,rfl,rfl,hlen⟩
       ·omega
       ·obtain⟨hh,hid⟩:=qe _ (jZ.2 rfl);have fh:w.heap.size<=b':=by
         rcases hid with⟨u,hu,_⟩|h
         ·cases hu
         ·exact h
        simp only[fQ,dS]at hh hlen r2 bT;have dd:∀(is:List Nat) (u:List ai),ak is (b.c++[.rest u])=ak is b.c++u:=λis u=>by
         rw[jK];simp[ak,cl]
        have Ho:bu ids.length (b.c++[.rest tail])=af:=by
         rw[hl];have Ew:∀(x y:List V),bu bl.length x=af->bu bl.length y=af->bu bl.length (x++y)=af:=by
          intro x y;induction x with
          |nil=>intro _ h;simpa using h
          |cons v x ih=>intro h1 h2;simp only[fm,bu,bD]at h1⊢;exact⟨h1.1,ih h1.2 h2⟩
         exact Ew _ _ q9 rfl
        refine⟨_,[b'],_,ch,w',.inl ?_,by simp[hl],?_,h c' tail r2 ?_⟩
        ·have:=jJ (P:=P) (ρ:=ρ) (o:=o) ho (sv:=.slice ae 0 0) (xv:=.slice (aa ⟨ids.getD i 0,0,ae⟩) (m+1) ow) (by rw[bd,gE];simp only[den]) (by rw[bd,fS];simp only[den]) bT;rw[this];simp only[den];rw[<-hl,lG]
        ·rw[fu _ _ _ _ hl,fw _ _ (by rw[hl];exact Hn)];simp only[lits,aC];rw[jl _ Ho,dd];have:=S.new hc fh hh;refine this.perm ?_;rw[bW (lits ids ids bl)];exact(kH).symm
        ·rw[<-lF (ids:=ids),dd,hlen]
     ·exact h.elim
    ·exact h.elim
   ·exact h.elim
  ·exact h.elim
 ·exact h.elim
def B_ {P:aG} {gl:Nat->Option Nat} {a b:(bg->V)->Op->List VB->List G->VK G->Prop} (t:(bg->V)->Op->Bool) (ha:ik P gl a) (hb:ik P gl b):ik P gl (λe op bl ch K=>cond (t e op) (a e op bl ch K) (b e op bl ch K)):=by
 intro e op ids bl ch R ms w0 w K ρ o hg hl S bd ho h;cases ht:t e op with
 |true=>simp only[ht]at h;exact ha e op ids bl ch R ms w0 w K ρ o hg hl S bd ho h
 |false=>simp only[ht]at h;exact hb e op ids bl ch R ms w0 w K ρ o hg hl S bd ho h
def aaL (e:bg->V) (op:Op):Bool:=match op with
 |.call c=>(match c.args.toList with
  |s::_=>(match e s with|.sl _ _ _ _=>af|_=>ag)
  |_=>ag)
 |_=>ag
def Ca (P:aG):(bg->V)->Op->List VB->List G->VK G->Prop:=λe op bl ch K=>cond (aaL e op) (LX P e op bl ch K) (R7 P e op bl ch K)
def Ez {P:aG} {gl:Nat->Option Nat}:ik (G:=G) P gl (Ca P):=B_ aaL aay aia
end Vx
namespace Vx
open Go Sx
section
variable{ids:List Nat} {P:aG} {w:aj}
def Md {n:Nat} (h:n<=1000000):i64.wrap (n:Int)=n:=by simp[zo,vj,vm];omega
def run_mk {t el:aM} {n z:Nat} {zc:List V} {inf:TypeInfo} {k1 k2:fH} (hu:P.underlying t=aa (.slice el)) (hi:P.info? el=aa inf) (hz:eo P el=aa (z+1)) (h0:me P el=aa zc) (hl:cD zc=z+1) (h1:1<=n) (hn:n<=1000000) (hb:inf.bytes<=100):
 (KE t (.int k1 (n:Int)) (.int k2 (n:Int))).run P w=.ok (.slice (aa ⟨w.heap.size,0,ae⟩) n n) (w.alloc (.cells (ak ids (mf zc n)).toArray el)):=by
 obtain⟨v0,z1,z2⟩:=BK (P:=P) (w:=w) (ids:=ids) h0;have hv:v0.cells.size=z+1:=by rw[<-wF,z2,lF,hl]
 have G3:(Array.range (n*(z+1))).map (λi=>v0.cells[i%v0.cells.size]!)=(ak ids (mf zc n)).toArray:=by
  apply fD;rw[Q_ v0.cells z hv,z2,ZI]
 have hm:inf.bytes*n<=100000000:=ia (Nat.mul_le_mul hb hn) dC;have e1:(decide ((n:Int)<0)||decide ((inf.bytes:Int)*(n:Int)>2^48))=ag:=by
  have:(inf.bytes:Int)*(n:Int)<=100000000:=by
   have q:=Int.ofNat_le.2 hm;rw[Int.natCast_mul]at q;exact q
  rw[decide_eq_false oM,decide_eq_false oM];rfl
 have e2:¬(n*inf.bytes>roomBytes):=by
  have:n*inf.bytes<=100000000:=by rw[Nat.mul_comm];exact hm
  show¬(n*inf.bytes>_);unfold roomBytes;omega
 have e3:¬n*(z+1)=0:=by
  intro h;rcases Nat.mul_eq_zero.1 h with h|h<;>omega
 simp only[KE,bz,dw hu,ct,asInt,asIntOf,cZ,G0 hi,Md hn,e1,Bool.false_or,askRoom,if_neg e2,vn,gi hz,if_neg e3,z1];simp only[show decide ((n:Int)<0)=ag by simp,show decide ((n:Int)>(n:Int))=ag by simp,Bool.or_self,Bool.false_eq_true,if_false,bz,cZ,ct,gi hz,if_neg e3,z1];rw[G3];rfl
end
variable{G:Type} [Bl G]
def gj (P:aG):(bg->V)->Op->List VB->List G->VK G->Prop:=λe op bl ch K=>match op with
 |.makeSlice t l c=>(match P.underlying t,e l,e c with
  |some (.slice el),.int _ (.ofNat n),.int _ (.ofNat m)=>(match P.info? el,eo P el,me P el with
   |some inf,aa (z+1),aa zc=>cond (aA n m&&(aA (cD zc) (z+1)&&(bZ 1 n&&(bZ n 1000000&&(bZ inf.bytes 100&&(bY bl.length bl&&bu bl.length (mf zc n))))))) (K (.sl bl.length 0 n n) (bl++[⟨af,el,mf zc n⟩]) ch) False
   |_,_,_=>False)
  |_,_,_=>False)
 |_=>False
def aib {P:aG} {gl:Nat->Option Nat}:ik (G:=G) P gl (gj P):=by
 intro e op ids bl ch R ms w0 w K ρ o hg hl S bd ho h;unfold gj at h;split at h
 ·rename_i t l c;split at h
  ·rename_i el k1 n k2 m hu oz Hw;split at h
   ·rename_i inf z zc hi hz h0;cases hq:aA n m&&(aA (cD zc) (z+1)&&(bZ 1 n&&(bZ n 1000000&&(bZ inf.bytes 100&&(bY bl.length bl&&bu bl.length (mf zc n))))))with
    |false=>rw[hq]at h;exact h.elim
    |true=>
     rw[hq]at h;simp only[bD]at hq;obtain⟨q1,q2,q3,q4,q5,q6,q7⟩:=hq;obtain rfl:=ck q1;have bT:=run_mk (ids:=ids) (w:=w) (k1:=k1) (k2:=k2) hu hi hz h0 (ck q2) (eO q3) (eO q4) (eO q5);obtain⟨g1,g2⟩:=grow hl S ⟨af,el,mf zc n⟩ rfl rfl (by rw[hl];exact q6) (by rw[hl];exact q7);refine⟨_,[w.heap.size],_,ch,_,.inl ?_,g2,g1,h⟩;unfold execOp;rw[ho];simp only[bd,oz,Hw,den];have e1:dG n=(n:Int):=rfl;rw[e1,bz,bT,ct,cZ,<-hl,lG]
   ·exact h.elim
  ·exact h.elim
 ·exact h.elim
def aaM (e:bg->V) (op:Op):Bool:=match op with
 |.makeSlice _ _ _=>af
 |_=>ag
def EA (P:aG):(bg->V)->Op->List VB->List G->VK G->Prop:=λe op bl ch K=>cond (aaM e op) (gj P e op bl ch K) (Ca P e op bl ch K)
def Hx {P:aG} {gl:Nat->Option Nat}:ik (G:=G) P gl (EA P):=B_ aaM aib Ez
end Vx
namespace Vx
open Go Go.RowKit Go.BigFrame Sx
def aic {P:aG} {w:aj} {z T m:Nat} {x:Option aI} {news:List ai} {t tx ty:aM} {xv:ai} (bytes:Nat) (hs:Src P z tx xv m news w) (j8:0<m) (ht:P.underlying t=aa (.slice T))
 (hi:(P.info? T).map (λi=>(i.zero.map (·.cells.size),i.size,i.bytes))=aa (aa z,z,bytes)) (hb:m*bytes<=140737488355328) (h63:m<=maxLen):
 ∃b' c' Ad w',(nh #[t,tx] ty #[.slice x 0 0,xv]).run P w=.ok (.slice (aa ⟨b',0,ae⟩) m c') w'/\Ch [] w w'/\w.heap.size<=b'/\w'.heap[b']?=aa (.cells (news++Ad).toArray T (0,0))/\(news++Ad).length=c'*z/\m<=c':=by
 obtain⟨i,cu,hi⟩:=iX.1 hi;simp only[bC]at hi;obtain⟨hz,dc,j6⟩:=hi;obtain⟨z0,nv,pV⟩:=iX.1 hz;have qZ:=hs.newsLen;have ie:Src P i.size tx xv m news w:=by rw[dc];exact hs
 have hold:(Builtin.firstCells i.size 0 (.slice x 0 0)).run P w.drew=.ok ([]:List ai).toArray w.drew:=by
  cases x with
  |none=>exact run_firstCells_none (P:=P) w.drew i.size 0 0 0
  |some a=>exact run_firstCells_some (P:=P) w.drew i.size 0 a 0 0 [] sP (λj v hj=>by simp at hj)
 have bT:=run_append_grow_src (P:=P) w t tx ty T i z0 ht cu nv x 0 0 [] hold xv m news ie oM (by simp only[maxLen]at h63;omega) (by rw[j6];exact growslice_fits oM (by rw[dS];exact hb));simp only[dS]at bT;have fh:=grownCap_ge w m 0 T;refine⟨w.heap.size,grownCap w m 0 T,(qM z0.cells (grownCap w m 0 T-m)).toList,_,bT,?_,cY _,?_,?_,fh⟩
 ·exact((Ch.refl [] w).drew).trans (Ch.alloc [] w.drew _) (λx hx=>.inl hx)
 ·have:=n6 w.drew (.cells ((([]:List ai)++news).toArray++qM z0.cells (grownCap w m 0 T-m)) T);refine Eq.trans this ?_;congr 2;apply fD;simp
 ·rw[fL,qZ,wF,size_zeroCells,pV,<-n9];congr 1;omega
variable{G:Type} [Bl G]
def R9 (P:aG):(bg->V)->Op->List VB->List G->VK G->Prop:=λe op bl ch K=>match op with
 |.call c=>(match c.callee,c.args.toList,c.argTypes.toList with
  |.builtin .append,[s,xs],[t,tx]=>(match P.underlying t,P.underlying tx with
   |some (.slice T),aa (.slice _)=>(match uB P T,e s,e xs with
    |some (z,cd),.sl _ _ 0 0,.sl i 0 (m+1) _=>(match bl[i]?with
     |some b=>(match zN b.c 0 ((m+1)*z)with
      |some C=>cond (nA C&&(bZ cd 10000000&&(bZ (m+1) 1000000&&(bu bl.length C&&bY bl.length bl))))
       (∀(c':Nat) (u:List ai),m+1<=c'->cD (C++[.rest u])=c'*z->K (.sl bl.length 0 (m+1) c') (bl++[⟨af,T,C++[.rest u]⟩]) ch) False
      |none=>False)
     |none=>False)
    |_,_,_=>False)
   |_,_=>False)
  |_,_,_=>False)
 |_=>False
def aid {P:aG} {gl:Nat->Option Nat}:ik (G:=G) P gl (R9 P):=by
 intro e op ids bl ch R ms w0 w K ρ o hg hl S bd ho h;unfold R9 at h;split at h
 ·rename_i c;split at h
  ·rename_i s xs t tx ff cN dU;split at h
   ·rename_i T T' ht gr;split at h
    ·rename_i z cd j0 o0 i m ow cu gE fS;split at h
     ·rename_i b hb;split at h
      ·rename_i C hC;cases hq:nA C&&(bZ cd 10000000&&(bZ (m+1) 1000000&&(bu bl.length C&&bY bl.length bl)))with
       |false=>rw[hq]at h;exact h.elim
       |true=>
        rw[hq]at h;simp only[cond_true]at h;simp only[bD]at hq;obtain⟨q4,q5,q6,q9,Hn⟩:=hq;have q5:=eO q5;have q6:=eO q6;have aS:=(gx hl S hb).2;obtain⟨g1,g2,g3⟩:=zP (ids:=ids) hC;rw[List.drop_zero]at g1;have xF:(ak ids C).length=(m+1)*z:=by rw[<-g1,zr];omega
        have fi:Src P z tx (.slice (aa ⟨ids.getD i 0,0,ae⟩) (m+1) ow) (m+1) (ak ids C) w:=by
         refine qN w gr ⟨ids.getD i 0,0,ae⟩ (m+1) ow _ xF (λj u hj=>?_) (λu hu=>BJ q4 u hu);rw[iK,cell_of aS];rw[<-g1]at hj;have zF:j<(m+1)*z:=by
          rcases c9 j ((m+1)*z)with h|h
          ·exact h
          ·rw[ju (by rw[zr];omega)]at hj;cases hj
         rw[YH zF]at hj;simpa using hj
        have jM:(m+1)*cd<=140737488355328:=ia (Nat.mul_le_mul q6 q5) dC;obtain⟨mR,ar,iO⟩:=c;simp only at ff cN dU;have e2:ar=#[s,xs]:=by rw[<-cN]
        have e3:iO=#[t,tx]:=by rw[<-dU]
        subst ff e2 e3;obtain⟨b',c',tail,w',bT,hc,fh,hh,hlen,r2⟩:=aic (P:=P) (ty:=o.type) (x:=aa ⟨ids.getD j0 0,o0,ae⟩) cd fi oM ht (Hm cu) jM (ia q6 dC);have dd:∀(is:List Nat) (u:List ai),ak is (C++[.rest u])=ak is C++u:=λis u=>by
         rw[jK];simp[ak,cl]
        have Ho:bu ids.length (C++[.rest tail])=af:=by
         rw[hl];have Ew:∀(x y:List V),bu bl.length x=af->bu bl.length y=af->bu bl.length (x++y)=af:=by
          intro x y;induction x with
          |nil=>intro _ h;simpa using h
          |cons v x ih=>intro h1 h2;simp only[fm,bu,bD]at h1⊢;exact⟨h1.1,ih h1.2 h2⟩
         exact Ew _ _ q9 rfl
        refine⟨_,[b'],_,ch,w',.inl ?_,by simp[hl],?_,h c' tail r2 ?_⟩
        ·have:=jJ (P:=P) (ρ:=ρ) (o:=o) ho (sv:=.slice (aa ⟨ids.getD j0 0,o0,ae⟩) 0 0) (xv:=.slice (aa ⟨ids.getD i 0,0,ae⟩) (m+1) ow) (by rw[bd,gE];simp only[den]) (by rw[bd,fS];simp only[den]) bT;rw[this];simp only[den];rw[<-hl,lG]
        ·rw[fu _ _ _ _ hl,fw _ _ (by rw[hl];exact Hn)];simp only[lits,aC];rw[jl _ Ho,dd];have:=S.new hc fh hh;refine this.perm ?_;rw[bW (lits ids ids bl)];exact(kH).symm
        ·rw[<-lF (ids:=ids),dd,hlen]
      ·exact h.elim
     ·exact h.elim
    ·exact h.elim
   ·exact h.elim
  ·exact h.elim
 ·exact h.elim
def R_ (P:aG):(bg->V)->Op->List VB->List G->VK G->Prop:=λe op bl ch K=>match op with
 |.call c=>(match c.callee,c.args.toList,c.argTypes.toList with
  |.builtin .append,[s,xs],[t,tx]=>(match P.underlying t,P.underlying tx with
   |some (.slice T),aa (.slice _)=>(match P.info? T,e s,e xs with
    |some _,.sl j o n c,.sl _ _ 0 _=>cond (bZ n c) (K (.sl j o n c) bl ch) False
    |some _,.raw (.slice ae 0 0),.raw (.slice ae 0 0)=>K (.raw (.slice ae 0 0)) bl ch
    |_,_,_=>False)
   |_,_=>False)
  |_,_,_=>False)
 |.typeAssert x _ t af=>(match e x,P.underlying t with
  |.nz t' v,aa (.struct _)=>cond (aA t' t) (K (.ay [v,.bool af]) bl ch) False
  |_,_=>False)
 |_=>False
def aie {P:aG} {gl:Nat->Option Nat}:ik (G:=G) P gl (R_ P):=by
 intro e op ids bl ch R ms w0 w K ρ o hg hl S bd ho h;unfold R_ at h;split at h
 ·rename_i c;split at h
  ·rename_i s xs t tx ff cN dU;split at h
   ·rename_i T T' ht gr;obtain⟨mR,ar,iO⟩:=c;simp only at ff cN dU;have e2:ar=#[s,xs]:=by rw[<-cN]
    have e3:iO=#[t,tx]:=by rw[<-dU]
    subst ff e2 e3;split at h
    ·rename_i inf j o0 n c i o1 c1 cu gE fS;cases hq:bZ n c with
     |false=>rw[hq]at h;exact h.elim
     |true=>
      rw[hq]at h;have bT:=run_append_nothing (P:=P) w t tx o.type T inf ht cu (aa ⟨ids.getD j 0,o0,ae⟩) n c (eO hq) (.slice (aa ⟨ids.getD i 0,o1,ae⟩) 0 c1) (qN w gr _ 0 c1 [] sP (λj u hj=>by simp at hj) (λu hu=>by simp at hu));refine⟨_,[],bl,ch,w,.inl ?_,by simpa using hl,by simpa using S,h⟩;have:=jJ (P:=P) (ρ:=ρ) (o:=o) ho (by rw[bd,gE];simp only[den]) (by rw[bd,fS];simp only[den]) bT;rw[this];simp only[den,cT]
    ·rename_i inf cu gE fS;have bT:=run_append_nothing (P:=P) w t tx o.type T inf ht cu ae 0 0 (cY _) (.slice ae 0 0) (Src.ofNil w gr 0);refine⟨_,[],bl,ch,w,.inl ?_,by simpa using hl,by simpa using S,h⟩;have:=jJ (P:=P) (ρ:=ρ) (o:=o) ho (by rw[bd,gE];simp only[den]) (by rw[bd,fS];simp only[den]) bT;rw[this];simp only[den]
    ·exact h.elim
   ·exact h.elim
  ·exact h.elim
 ·rename_i x xt t;split at h
  ·rename_i t' v fs hx hu;cases hq:aA t' t with
   |false=>rw[hq]at h;exact h.elim
   |true=>
    rw[hq]at h;obtain rfl:=ck hq;refine⟨_,[],bl,ch,w,.inl ?_,by simpa using hl,by simpa using S,h⟩;unfold execOp;simp only[ho,bd,hx,den,aE,Instr.typeAssert,bz,dw hu,ct,if_true,cZ,cT];try rfl
  ·exact h.elim
 ·exact h.elim
def isO (e:bg->V) (op:Op):Bool:=match op with
 |.call c=>(match c.args.toList with
  |[_,x]=>(match e x with|.sl _ _ 0 _=>af|.raw (.slice ae 0 0)=>af|_=>ag)
  |_=>ag)
 |.typeAssert .. =>af
 |_=>ag
def isE (e:bg->V) (op:Op):Bool:=match op with
 |.call c=>(match c.args.toList with
  |s::_=>(match e s with|.sl _ _ 0 0=>af|_=>ag)
  |_=>ag)
 |_=>ag
def Hy (P:aG):(bg->V)->Op->List VB->List G->VK G->Prop:=λe op bl ch K=>cond (isO e op) (R_ P e op bl ch K) (cond (isE e op) (R9 P e op bl ch K) (EA P e op bl ch K))
def Me {P:aG} {gl:Nat->Option Nat}:ik (G:=G) P gl (Hy P):=B_ isO aie (B_ isE aid Hx)
end Vx
namespace Go.Proofs.YtddcipamdggcnaaGreatDoor
section
open Go Go.RowKit Go.BigFrame Sx Vx
def EB:List Nat->List V->Nat->Option V
 |i::is,v::vs,t=>bif aA i t then aa v else EB is vs t
 |_,_,_=>ae
def Mf (ix:List Nat) (vs:List V):Nat->Nat->List (Option V)
 |0,_=>[]
 |n+1,i=>EB ix vs i::Mf ix vs n (i+1)
def Hz:List Nat->List V->List V
 |[],_=>[]
 |i::is,fr=>nth fr i::Hz is fr
def Sa {n:Nat} {fr:List V}:∀(ix:List Nat) (vs:List V),Hz ix fr=vs->bu n vs=af->∀t v,EB ix vs t=aa v->nth fr t=v/\da n v=af
 |[],vs,_,_,t,v,h=>by cases vs<;>cases h
 |i::is,[],h,_,t,v,_=>by cases h
 |i::is,u::vs,h,hw,t,v,hl=>by
  simp only[Hz,List.cons.injEq]at h;simp only[bu,bD]at hw;unfold EB at hl;cases hb:aA i t with
  |true=>
   rw[hb]at hl;cases hl;obtain rfl:=ck hb;exact⟨h.1,hw.1⟩
  |false=>
   rw[hb]at hl;exact Sa is vs h.2 hw.2 t v hl
def Sb {n:Nat} {ew:List V} {ix:List Nat} {vs:List V} (h:∀t v,EB ix vs t=aa v->nth ew t=v/\da n v=af):∀(N i:Nat) (fr:List V),fr.length=N->(∀k,nth ew (i+k)=nth fr k)->Ed n (Mf ix vs N i) fr
 |0,_,[],_,_=>trivial
 |0,_,_::_,hl,_=>by simp at hl
 |N+1,i,[],hl,_=>by simp at hl
 |N+1,i,v::fr,hl,hn=>by
  unfold Mf;have ih:=Sb h N (i+1) fr (by simpa using hl) (λk=>by have:=hn (k+1);simp only[lD,lE,kX]at this;rw[<-this];congr 1;omega);have h0:=hn 0;simp only[lD,lE,kX,lA]at h0;cases hk:EB ix vs i with
  |none=>exact ih
  |some u=>
   obtain⟨h1,h2⟩:=h i u hk;exact⟨h0.symm.trans h1,h2,ih⟩
section
variable{G:Type} {X:Type}
def xH (d_:X->List V) (bl:X->List VB) (ch:X->List G) (vs:List V) (b:List VB) (c:List G):Prop:=∃x,vs=d_ x/\b=bl x/\c=ch x
def xI (m:X->Nat) (d_:X->List V) (bl:X->List VB) (ch:X->List G) (x:X) (vs:List V) (b:List VB) (c:List G):Prop:=∃y,m y<m x/\vs=d_ y/\b=bl y/\c=ch y
def Ah (m:X->Nat) (N n0:Nat) (ix:List Nat) (d_:X->List V) (bl:X->List VB) (ch:X->List G) (h1:∀x,(bl x).length=n0) (h2:∀x,bY n0 (bl x)=af) (h3:∀x,bu n0 (d_ x)=af):Lp G where
 X:=X
 m:=m
 fr x:=Mf ix (d_ x) N 0
 bl:=bl
 ch:=ch
 Rf fr b c:=aA fr.length N=af/\xH d_ bl ch (Hz ix fr) b c
 en x fr b c:=aA fr.length N=af/\xI m d_ bl ch x (Hz ix fr) (b.take n0) c
 ZV:=by
  rintro fr b c ⟨hl,x,hv,rfl,rfl⟩;refine⟨x,?_,rfl,rfl⟩;rw[h1];exact Sb (Sa ix _ hv (h3 x)) N 0 fr (ck hl) (λk=>by rw[dS])
 ok:=by
  rintro x fr b c ⟨hl,y,hm,hv,hb,rfl⟩;refine⟨y,hm,?_,by rw[h1,h1],by rw[h1];exact h2 y,⟨b.drop n0,?_⟩,rfl⟩
  ·rw[h1];exact Sb (Sa ix _ hv (h3 y)) N 0 fr (ck hl) (λk=>by rw[dS])
  ·rw[<-hb,jH]
end
def vN {G:Type} [Bl G] (P:aG) (gl:Nat->Option Nat) (L:List (bK G)) (lp:Nat->Option (Lp G)):Ctx G:=⟨P,qc L,gl,s8 L,BS,Ec,λi _=>lp i,xi,zW⟩
def aH.TL {G:Type} [Bl G] {P:aG} {gl:Nat->Option Nat} {L:List (bK G)} {lp:Nat->Option (Lp G)} (h:aH P gl L):∀f c,(vN P gl L lp).T f=aa c->Sound (vN P gl L lp).P (vN P gl L lp).gl f c:=h.T
def aH.QL {G:Type} [Bl G] {P:aG} {gl:Nat->Option Nat} {L:List (bK G)} {lp:Nat->Option (Lp G)} (h:aH P gl L):nG (vN P gl L lp):=h.Q
def cJ:Nat->Option Nat:=λ_=>ae
def ph {G:Type} (i:Nat) (I:Lp G):Nat->Option (Lp G):=λj=>bif aA j i then aa I else ae
def c_ (k:Nat):Int:=([1116352408,1899447441,3049323471,3921009573,961987163,1508970993,2453635748,2870763221,3624381080,310598401,607225278,1426881987,1925078388,2162078206,2614888103,3248222580,3835390401,4022224774,264347078,604807628,770255983,1249150122,1555081692,1996064986,2554220882,2821834349,2952996808,3210313671,3336571891,3584528711,113926993,338241895,666307205,773529912,1294757372,1396182291,1695183700,1986661051,2177026350,2456956037,2730485921,2820302411,3259730800,3345764771,3516065817,3600352804,4094571909,275423344,430227734,506948616,659060556,883997877,958139571,1322822218,1537002063,1747873779,1955562222,2024104815,2227730452,2361852424,2428436474,2756734187,3204031479,3329325298]:List Int).getD k 0
def qf (n:Nat) (x:Int):Int:=bits .or .u32 (u32.wrap (x*2^(32-n))) (kP x (2^n))
def Ai:QF:=⟨84,λargs _=>match args with
 |[.int .u32 a,.int .i64 (.ofNat n)]=>(match n with
  |2|6|7|11|13|17|18|19|22|25=>aa (True,.int .u32 (qf n a))
  |_=>ae)
 |_=>ae⟩
def vq0 {f:Nat} {xs:List V} {v:V} {n:Nat} (h:∀K,dP prog [] n f xs K=K v) (ha:bu 0 xs=af) (hv:da 0 v=af) {ids:List Nat} {w:aj}:aX prog f (aE ids xs).toArray w λx w'=>x=den ids v/\Ch [] w w':=
 xE bP.nil n (by rw[h]) ha hv ids w
def aaN (gl:Nat->Option Nat):Ai.Ok prog gl:=by
 intro args bl p_ v_ h hp ids w _ _;unfold Ai at h;dsimp only at h;split at h
 ·rename_i a n;split at h<;>first|cases h;done|(simp only[aW,bC]at h;obtain⟨rfl,rfl⟩:=h;exact vq0 (n:=30) (λK=>kR) rfl rfl)
 ·cases h
def w1E (f:Nat->Int) (i:Int):Int:=bits .or .u32 (bits .or .u32 (bits .or .u32 (u32.wrap (u32.wrap (f (0+(i64.wrap (4*i)).toNat))*2^24)) (u32.wrap (u32.wrap (f (0+(i64.wrap (i64.wrap (4*i)+1)).toNat))*2^16)))
 (u32.wrap (u32.wrap (f (0+(i64.wrap (i64.wrap (4*i)+2)).toNat))*2^8))) (u32.wrap (f (0+(i64.wrap (i64.wrap (4*i)+3)).toNat)))
def Cb (f:Nat->Int):Nat->Nat->Int
 |0=>λ_=>0
 |k+1=>oW (Cb f k) (0+((k:Nat):Int).toNat) (w1E f (k:Nat))
def w2E (V:Nat->Int) (k:Int):Int:=
 let at_:=λd:Int=>V (0+(i64.wrap (k-d)).toNat)
 u32.wrap (u32.wrap (u32.wrap (at_ 16+at_ 7)+bits .xor .u32 (bits .xor .u32 (qf 7 (at_ 15)) (qf 18 (at_ 15))) (kP (at_ 15) (2^3)))+bits .xor .u32 (bits .xor .u32 (qf 17 (at_ 2)) (qf 19 (at_ 2))) (kP (at_ 2) (2^10)))
def nH (f:Nat->Int):Nat->Nat->Int
 |0=>Cb f 16
 |k+1=>oW (nH f k) (0+((16+k:Nat):Int).toNat) (w2E (nH f k) ((16+k:Nat):Int))
def l8 (a b c d e f g h:Int):Nat->Int:=λj=>([a,b,c,d,e,f,g,h]:List Int).getD j 0
def rE (N W:Nat->Int) (k:Int):Nat->Int:=(l8 (u32.wrap ((u32.wrap ((u32.wrap ((u32.wrap ((u32.wrap ((N 7)+(bits .xor .u32 (bits .xor .u32 (qf 6 (N 4)) (qf 11 (N 4))) (qf 25 (N 4)))))+(bits .or .u32 (bits .and .u32 (N 4) (N 5)) (bits .and .u32 (bits .xor .u32 4294967295 (N 4)) (N 6)))))+(c_ (0+(k).toNat))))+(W (0+(k).toNat))))+(u32.wrap ((bits .xor .u32 (bits .xor .u32 (qf 2 (N 0)) (qf 13 (N 0))) (qf 22 (N 0)))+(bits .or .u32 (bits .or .u32 (bits .and .u32 (N 0) (N 1)) (bits .and .u32 (N 0) (N 2))) (bits .and .u32 (N 1) (N 2))))))) (N 0) (N 1) (N 2) (u32.wrap ((N 3)+(u32.wrap ((u32.wrap ((u32.wrap ((u32.wrap ((N 7)+(bits .xor .u32 (bits .xor .u32 (qf 6 (N 4)) (qf 11 (N 4))) (qf 25 (N 4)))))+(bits .or .u32 (bits .and .u32 (N 4) (N 5)) (bits .and .u32 (bits .xor .u32 4294967295 (N 4)) (N 6)))))+(c_ (0+(k).toNat))))+(W (0+(k).toNat)))))) (N 4) (N 5) (N 6))
def Cc (h W:Nat->Int):Nat->Nat->Int
 |0=>h
 |n+1=>rE (Cc h W n) W (n:Int)
def vO (h f:Nat->Int):Nat->Int:=λj=>u32.wrap (Cc h (nH f 48) 64 j+h j)
def pj (m:Int) (n:Nat) (X:Prop):Prop:=(0<=m/\m<(n:Int))/\0+m.toNat<n/\X
def qg {m:Int} {n:Nat} {X:Prop} (h:0<=m/\m<(n:Int)) (k:X):pj m n X:=⟨h,oM,k⟩
def k7 {x:Int} (h:-9223372036854775808<=x/\x<=9223372036854775807):i64.wrap x=x:=by simp[zo,vj,vm];omega
section
variable(f:Nat->Int) (K:VK Empty)
def wB (W:Nat->Int):List VB:=[⟨af,⟨156,(0,0)⟩,[.arr .u8 64 f]⟩,⟨af,⟨193,(0,0)⟩,[.arr .u32 64 λ_=>0]⟩,⟨af,⟨193,(0,0)⟩,[.arr .u32 64 W]⟩]
def w3 (i:Int):List V:=[.ptr 0 0,.ptr 1 0,.ptr 2 0,.int .i64 i]
def w1L:Lp Empty:=Ah (X:={i:Nat //i<=16}) (λi=>16-i.1) 89 3 [1,2,3,10] (λi=>w3 (i.1:Int)) (λi=>wB f (Cb f i.1)) (λ_=>[]) (λ_=>rfl) (λ_=>rfl) (λ_=>rfl)
def w2L:Lp Empty:=Ah (X:={i:Nat //i<=48}) (λi=>48-i.1) 89 3 [1,2,3,5] (λi=>w3 ((16+i.1:Nat):Int)) (λi=>wB f (nH f i.1)) (λ_=>[]) (λ_=>rfl) (λ_=>rfl) (λ_=>rfl)
def Sc:Nat->Option (Lp Empty):=λj=>match j with|0=>aa (w1L f)|2=>aa (w2L f)|_=>ae
def wX:Prop:=
 (af=af/\xH (λi:{i:Nat //i<=16}=>w3 (i.1:Int)) (λi=>wB f (Cb f i.1)) (λ_=>[]) (w3 0) (wB f λ_=>0) ([]:List Empty))/\∀(x:{i:Nat //i<=16}) (g:Nat->ai),cond (decide ((x.1:Int)<16))
  (pj (i64.wrap (4*(x.1:Int))) 64<|pj (i64.wrap (i64.wrap (4*(x.1:Int))+1)) 64<|pj (i64.wrap (i64.wrap (4*(x.1:Int))+2)) 64<|pj (i64.wrap (i64.wrap (4*(x.1:Int))+3)) 64<|pj (x.1:Int) 64
   (af=af/\xI (λi:{i:Nat //i<=16}=>16-i.1) (λi=>w3 (i.1:Int)) (λi=>wB f (Cb f i.1)) (λ_=>[]) x (w3 (i64.wrap ((x.1:Int)+1))) (wB f (Cb f (x.1+1))) ([]:List Empty)))
  ((af=af/\xH (λi:{i:Nat //i<=48}=>w3 ((16+i.1:Nat):Int)) (λi=>wB f (nH f i.1)) (λ_=>[]) (w3 16) (wB f (Cb f x.1)) ([]:List Empty))/\∀(y:{i:Nat //i<=48}) (g:Nat->ai),cond (decide (((16+y.1:Nat):Int)<64))
    (pj (i64.wrap (((16+y.1:Nat):Int)-15)) 64<|pj (i64.wrap (((16+y.1:Nat):Int)-2)) 64<|True/\True/\True/\True/\(pj (i64.wrap (((16+y.1:Nat):Int)-16)) 64<|pj (i64.wrap (((16+y.1:Nat):Int)-7)) 64<|pj ((16+y.1:Nat):Int) 64
     (af=af/\xI (λi:{i:Nat //i<=48}=>48-i.1) (λi=>w3 ((16+i.1:Nat):Int)) (λi=>wB f (nH f i.1)) (λ_=>[]) y (w3 (i64.wrap (((16+y.1:Nat):Int)+1))) (wB f (nH f (y.1+1))) ([]:List Empty))))
    (K (.agg [.arr .u32 64 (nH f y.1)]) [] []))
def aif:br (vN prog cJ (qL Empty [Ai]) (Sc f)) 60 83 [.agg [.arr .u8 64 f]] [] [] (bA 0 K)=wX f K:=kR
end
def aih (f:Nat->Int):wX f λv _ _=>v=.agg [.arr .u32 64 (nH f 48)]:=by
 refine⟨⟨rfl,⟨0,oM⟩,rfl,rfl,rfl⟩,λx g=>aJ (λh=>?_) λh=>?_⟩
 ·have hx:(x.1:Int)<16:=of_decide_eq_true h;have e:=k7 (x:=4*(x.1:Int)) oM;have e1:=k7 (x:=4*(x.1:Int)+1) oM;have e2:=k7 (x:=4*(x.1:Int)+2) oM;have e3:=k7 (x:=4*(x.1:Int)+3) oM;rw[e,e1,e2,e3];refine qg oM (qg oM (qg oM (qg oM (qg oM ⟨rfl,⟨x.1+1,oM⟩,by show 16-(x.1+1)<16-x.1;omega,?_,rfl,rfl⟩))));rw[k7 oM];rfl
 ·have hx:x.1=16:=by have:=of_decide_eq_false h;have:=x.2;omega
  rw[hx];refine⟨⟨rfl,⟨0,oM⟩,rfl,rfl,rfl⟩,λy g=>aJ (λh=>?_) λh=>?_⟩
  ·have hy:((16+y.1:Nat):Int)<64:=of_decide_eq_true h;rw[k7 (x:=((16+y.1:Nat):Int)-15) oM,k7 (x:=((16+y.1:Nat):Int)-2) oM,k7 (x:=((16+y.1:Nat):Int)-16) oM,k7 (x:=((16+y.1:Nat):Int)-7) oM];refine qg oM (qg oM ⟨trivial,trivial,trivial,trivial,qg oM (qg oM (qg oM ⟨rfl,⟨y.1+1,oM⟩,by show 48-(y.1+1)<48-y.1;omega,?_,rfl,rfl⟩))⟩);rw[k7 oM];rfl
  ·have hy:y.1=48:=by have:=of_decide_eq_false h;have:=y.2;omega
   rw[hy]
def HA:QF:=⟨83,λargs _=>match args with
 |[.agg [.arr .u8 64 f]]=>aa (True,.agg [.arr .u32 64 (nH f 48)])
 |_=>ae⟩
def aii (gl:Nat->Option Nat):HA.Ok prog gl:=by
 intro args bl p_ v_ h hp ids w _ _;unfold HA at h;dsimp only at h;split at h
 ·rename_i f;simp only[aW,bC]at h;obtain⟨rfl,rfl⟩:=h;have hv:br (vN prog cJ (qL Empty [Ai]) (Sc f)) 60 83 [.agg [.arr .u8 64 f]] [] [] (bA 0 λv _ _=>v=.agg [.arr .u32 64 (nH f 48)]):=by rw[aif];exact aih f
  have dI:=kA (G:=Empty) (P:=prog) (gl:=cJ) (bP.cons (aaN _) bP.nil);refine(eZ (C:=vN prog cJ (qL Empty [Ai]) (Sc f)) (_root_.Go.Proofs.YtddcipamdggcnaaGreatDoor.aH.TL dI) (_root_.Go.Proofs.YtddcipamdggcnaaGreatDoor.aH.QL dI) 60 (ids:=[]) (bl:=[]) (ch:=[]) (R:=[]) (ms:=[]) (w0:=w) (w:=w) (λg i h=>nomatch h) rfl (St.nil [] w) hv).mono ?_;rintro x w' ⟨y,more,bl',ch',rfl,h1,S',hK⟩;obtain⟨v2,cn,bl2,e,_,_,rfl⟩:=iP (n0:=0) h1 sP S' hK;exact⟨e.trans rfl,S'.ch⟩
 ·cases h
section
variable(t:Nat) (h f:Nat->Int) (K:VK Empty)
def i8 (h:Nat->Int):List V:=[.int .u32 (h 0),.int .u32 (h 1),.int .u32 (h 2),.int .u32 (h 3),.int .u32 (h 4),.int .u32 (h 5),.int .u32 (h 6),.int .u32 (h 7)]
def rA:VB:=⟨ag,⟨t,(0,0)⟩,[.arr .u32 64 c_]⟩
def bB (N:Nat->Int):List VB:=[rA t,⟨af,⟨153,(0,0)⟩,i8 h⟩,⟨af,⟨156,(0,0)⟩,[.arr .u8 64 f]⟩,⟨af,⟨153,(0,0)⟩,i8 λ_=>0⟩,⟨af,⟨193,(0,0)⟩,[.arr .u32 64 (nH f 48)]⟩,⟨af,⟨153,(0,0)⟩,i8 N⟩]
def b6 (i:Int):List V:=[.ptr 1 0,.ptr 2 0,.ptr 3 0,.ptr 4 0,.ptr 5 0,.int .i64 i]
def bL:Lp Empty:=Ah (X:={i:Nat //i<=64}) (λi=>64-i.1) 113 6 [2,3,4,5,6,17] (λi=>b6 (i.1:Int)) (λi=>bB t h f (Cc h (nH f 48) i.1)) (λ_=>[]) (λ_=>rfl) (λ_=>rfl) (λ_=>rfl)
def pk:Nat->Option Nat:=λg=>bif aA g 0 then aa 0 else ae
def bX:Prop:=True/\(af=af/\xH (λi:{i:Nat //i<=64}=>b6 (i.1:Int)) (λi=>bB t h f (Cc h (nH f 48) i.1)) (λ_=>[]) (b6 0) (bB t h f h) ([]:List Empty))/\∀(x:{i:Nat //i<=64}) (g:Nat->ai),cond (decide ((x.1:Int)<64))
 (pj (x.1:Int) 64<|pj (x.1:Int) 64<|True/\True/\True/\True/\True/\True/\
  (af=af/\xI (λi:{i:Nat //i<=64}=>64-i.1) (λi=>b6 (i.1:Int)) (λi=>bB t h f (Cc h (nH f 48) i.1)) (λ_=>[]) x (b6 (i64.wrap ((x.1:Int)+1))) (bB t h f (Cc h (nH f 48) (x.1+1))) ([]:List Empty)))
 (K (.agg (i8 λj=>u32.wrap (Cc h (nH f 48) x.1 j+h j))) [rA t] [])
def aij:br (vN prog pk (qL Empty [Ai,HA]) (ph 0 (bL t h f))) 60 65 [.agg (i8 h),.agg [.arr .u8 64 f]] [rA t] [] (bA 1 K)=bX t h f K:=kR
end
def aik (t:Nat) (h f:Nat->Int):bX t h f λv _ _=>v=.agg (i8 (vO h f)):=by
 refine⟨trivial,⟨rfl,⟨0,oM⟩,rfl,rfl,rfl⟩,λx g=>aJ (λhh=>?_) λhh=>?_⟩
 ·have hx:(x.1:Int)<64:=of_decide_eq_true hh;refine qg oM (qg oM ⟨trivial,trivial,trivial,trivial,trivial,trivial,rfl,⟨x.1+1,oM⟩,by show 64-(x.1+1)<64-x.1;omega,?_,rfl,rfl⟩);rw[k7 oM];rfl
 ·have hx:x.1=64:=by have:=of_decide_eq_false hh;have:=x.2;omega
  rw[hx];rfl
def ail (t:Nat) (h f:Nat->Int) {ids:List Nat} {w:aj} (hG:w.heap[0]?=aa (.cells (aD .u32 64 c_) t (0,0))):aX prog 65 (aE ids [.agg (i8 h),.agg [.arr .u8 64 f]]).toArray w λx w'=>x=den ids (.agg (i8 (vO h f)))/\Ch [] w w':=by
 have hv:br (vN prog pk (qL Empty [Ai,HA]) (ph 0 (bL t h f))) 60 65 [.agg (i8 h),.agg [.arr .u8 64 f]] [rA t] [] (bA 1 λv _ _=>v=.agg (i8 (vO h f))):=by rw[aij];exact aik t h f
 have dI:=kA (G:=Empty) (P:=prog) (gl:=pk) (bP.cons (aaN _) (bP.cons (aii _) bP.nil));have S0:St [] w (lits [0] [0] [rA t]++[]) w:=St.given (w:=w) [(0,.cells (ak [0] [.arr .u32 64 c_]).toArray t (0,0))] (by
  intro p hp;simp only[jZ]at hp;subst hp;have e:(ak [0] [.arr .u32 64 c_]).toArray=aD .u32 64 c_:=by simp[ak,cl,aD]
  rw[e];exact hG)
 have e0:∀ids,aE ids [.agg (i8 h),.agg [.arr .u8 64 f]]=aE [0] [.agg (i8 h),.agg [.arr .u8 64 f]]:=λ_=>rfl;rw[e0];refine(eZ (C:=vN prog pk (qL Empty [Ai,HA]) (ph 0 (bL t h f))) (_root_.Go.Proofs.YtddcipamdggcnaaGreatDoor.aH.TL dI) (_root_.Go.Proofs.YtddcipamdggcnaaGreatDoor.aH.QL dI) 60 (ids:=[0]) (bl:=[rA t]) (ch:=[]) (R:=[]) (λg i h=>by
  have h:pk g=aa i:=h;unfold pk at h;cases hb:aA g 0 with
  |false=>rw[hb]at h;cases h
  |true=>rw[hb]at h;cases h;exact⟨sP,by simp[gd,ck hb]⟩) rfl S0 hv).mono ?_
 rintro x w' ⟨y,more,bl',ch',rfl,h1,S',hK⟩;obtain⟨v2,cn,bl2,e,_,_,rfl⟩:=iP (n0:=1) h1 sP S' hK;exact⟨e.trans rfl,S'.ch⟩
structure ta (p:Prop):Prop where
 h:p
structure iq where
 bl:List ao
 b:Nat
 o:Nat
 n:Nat
 f:Nat->Int
 h:∀w:aj,(∀y∈bl,w.heap[y.id]?=aa y.obj)->cA w b o n f
instance:Bl iq:=⟨λg=>g.bl⟩
def Mg (N:Nat):(bg->V)->Op->List VB->List iq->VK iq->Prop:=λe op bl ch K=>match op with
 |.makeSlice t l c=>(match prog.underlying t,e l,e c with
  |some (.slice 5),.int .i64 m,.int .i64 m'=>cond (bY bl.length bl) ((m=(N:Int)/\m'=(N:Int))/\K (.sl bl.length 0 N N) (bl++[⟨af,⟨5,(0,0)⟩,[.arr .u8 N λ_=>0]⟩]) ch) False
  |_,_,_=>False)
 |.call c=>(match c.callee,c.args.toList,c.argTypes.toList with
  |.builtin .copy,[s,xs],[t,tx]=>(match prog.underlying t,e s,e xs,ch with
   |some (.slice 5),.sl i 0 n c,.raw (.slice (aa ⟨b,o,ae⟩) m mc),[g]=>(match bl[i]?with
    |some ⟨af,⟨5,(0,0)⟩,[.arr .u8 N' f]⟩=>((g.b=b/\g.o=o/\g.n=m)/\m<=n/\n<=N')/\K (.int .i64 (m:Int)) (bl.set i ⟨af,⟨5,(0,0)⟩,[.arr .u8 N' (ee f 0 m g.f)]⟩) ch
    |_=>False)
   |_,_,_,_=>False)
  |_,_,_=>False)
 |_=>False
def EC (ids:List Nat) (N:Nat) (f:Nat->Int):(ak ids [.arr .u8 N f]).toArray=aD .u8 N f:=by simp[ak,cl,aD]
def aaO {N:Nat} (h0:1<=N) (h1:N<=1000):ik prog (λ_=>ae) (Mg N):=by
 intro e op ids bl ch R ms w0 w K ρ o hg hl S bd ho h;unfold Mg at h;split at h
 ·rename_i t l c;split at h
  ·rename_i m m' hu oz Hw;cases hq:bY bl.length bl with
   |false=>rw[hq]at h;exact h.elim
   |true=>
    rw[hq]at h;obtain⟨⟨rfl,rfl⟩,hK⟩:=h;obtain⟨inf,uC,j6⟩:∃inf,prog.info? 5=aa inf/\inf.bytes<=100:=⟨_,rfl,eO kR⟩;have hz:∀k:Nat,(ak ids (mf [.int .u8 0] k))=(bo k).map λ_=>fI .u8 0:=by
     intro k;induction k with
     |zero=>rfl
     |succ k ih=>rw[mf,jK,ih,tZ,gb,l5];rfl
    have bT:=run_mk (P:=prog) (ids:=ids) (w:=w) (t:=t) (el:=5) (n:=N) (z:=0) (zc:=[.int .u8 0]) (inf:=inf) (k1:=.i64) (k2:=.i64) hu uC kR kR rfl h0 oM j6;refine⟨_,[w.heap.size],_,ch,w.alloc (.cells (ak ids (mf [.int .u8 0] N)).toArray 5),.inl ?_,by simp[hl],?_,hK⟩
    ·unfold execOp;simp only[ho,bd,oz,Hw,den,bz,bT,ct,cZ];rw[<-hl,lG]
    ·rw[fu _ _ _ _ hl,fw _ _ (by rw[hl];exact hq)];simp only[lits,aC,EC];have e1:(ak ids (mf [.int .u8 0] N)).toArray=aD .u8 N λ_=>0:=by rw[hz];rfl
     rw[e1];refine(S.new (Ch.alloc [] w _) (cY _) (n6 w _)).perm ?_;rw[bW];exact kH.symm
  ·exact h.elim
 ·rename_i c;split at h
  ·rename_i s xs t tx ff cN dU;split at h
   ·rename_i i n cc b o' m mc g hu gE fS;split at h
    ·rename_i N' f hb;obtain⟨⟨⟨rfl,rfl,rfl⟩,hm,hn⟩,hK⟩:=h;obtain⟨mR,ar,iO⟩:=c;simp only at ff cN dU;have e2:ar=#[s,xs]:=by rw[<-cN]
     have e3:iO=#[t,tx]:=by rw[<-dU]
     subst ff e2 e3;obtain⟨hj,aS⟩:=gx hl S hb;rw[EC]at aS;have s_:=(gx hl S hb).2;rw[EC]at s_;have h8:cA w g.b g.o g.n g.f:=g.h w λy hy=>S.at' (List.mem_append_right _ (show y∈g.bl++R from pS _ hy));have GS:Nat.min g.n n=g.n:=Nat.min_eq_left hm;have bT:=run_copy_row (P:=prog) w t tx o.type 5 (ids.getD i 0) 0 n cc ⟨g.b,g.o,ae⟩ g.n mc (aD .u8 N' f) 5 (cI g.n g.f) hu kR s_ (by rw[gf,GS]) (λj v hj=>by
      obtain⟨h1,rfl⟩:=BE hj;rw[iK];exact h8 j h1) (by rw[gf,GO];omega) GQ
     have e4:((aD .u8 N' f).toList.take 0++cI g.n g.f++(aD .u8 N' f).toList.drop (0+(cI g.n g.f).length)).toArray=aD .u8 N' (ee f 0 g.n g.f):=by
      rw[gf];exact Qs .u8 f oM g.f
     rw[e4]at bT;have j9:ρ s=.slice (aa ⟨ids.getD i 0,0,ae⟩) n cc:=by rw[bd,gE];simp only[den]
     have oA:ρ xs=.slice (aa ⟨g.b,g.o,ae⟩) g.n mc:=by rw[bd,fS];simp only[den]
     have hex:=La (P:=prog) (ρ:=ρ) (o:=o) ho j9 oA bT;rw[gf]at hex;refine⟨.int .i64 (g.n:Int),[],_,_,_,.inl hex,by simpa using hl,?_,hK⟩
     ·simp only[cT];have fE:=S.step hj rfl (Ch.setRow w _ _) (setRow_heap w (ids.getD i 0) (aD .u8 N' f) (aD .u8 N' (ee f 0 g.n g.f)) 5 (0,0) s_);have mM:i<(lits ids ids bl).length:=by rw[zT ids bl hl];rcases c9 i bl.length with h'|h';exact h';simp[h']at hb
      rw[<-D_ (ids:=ids) ids bl i _ hl,<-List.set_append_left _ _ mM];simp only[aC,EC];exact fE
    ·exact h.elim
   ·exact h.elim
  ·exact h.elim
 ·exact h.elim
def rC (n:Nat):Int:=i64.wrap (i64.wrap (Int.tdiv (i64.wrap (i64.wrap (i64.wrap ((n:Int)+9)+64)-1)) 64)*64)
def aim (e d:Int) (i:Nat) (F:Nat->Int):Nat->Int:=oW F (0+(i64.wrap (i64.wrap (e-1)-(i:Int))).toNat) (u8.wrap (kP d (2^(8*i))))
def aaP (e d:Int) (F:Nat->Int):Nat->Nat->Int
 |0=>F
 |k+1=>aim e d k (aaP e d F k)
def td (N n:Nat) (f:Nat->Int):Nat->Int:=aaP (rC n) (u64.wrap (u64.wrap (n:Int)*8)) (oW (ee (λ_=>0) 0 n f) (0+((n:Nat):Int).toNat) 128) 8
def Mh (e:Int) (N:Nat) (X:Prop):Nat->Nat->Prop
 |0,_=>X
 |k+1,i=>pj (i64.wrap (i64.wrap (e-1)-(i:Int))) N (Mh e N X k (i+1))
def Se (N n b o:Nat) (g:iq) (K:VK iq):Prop:=(rC n=(N:Int)/\rC n=(N:Int))/\((g.b=b/\g.o=o/\g.n=n)/\n<=N/\N<=N)/\pj (n:Int) N (Mh (rC n) N (K (.sl 0 0 N N) [⟨af,⟨5,(0,0)⟩,[.arr .u8 N (td N n g.f)]⟩] [g]) 8 0)
def HB (N:Nat) (h0:1<=N) (h1:N<=1000) (f:fl) (args:List V) (g:iq) (K:VK iq):Prop:=br (gy prog (λ_=>ae) ([]:List (bK iq)) (Mg N) (aaO h0 h1)) 60 f args [] [g] K
def ain (g:iq) (b o n c:Nat) (K:VK iq):HB 64 oM oM 64 [.raw (.slice (aa ⟨b,o,ae⟩) n c)] g K=Se 64 n b o g K:=kR
def aio (g:iq) (b o n c:Nat) (K:VK iq):HB 128 oM oM 64 [.raw (.slice (aa ⟨b,o,ae⟩) n c)] g K=Se 128 n b o g K:=kR
def Aj (H:Nat->Int):Nat->Int:=λj=>match j%4 with
 |0=>u8.wrap (kP (H (j/4)) (2^24))
 |1=>u8.wrap (kP (H (j/4)) (2^16))
 |2=>u8.wrap (kP (H (j/4)) (2^8))
 |_=>u8.wrap (H (j/4))
def Mi:Nat->Int:=l8 1779033703 3144134277 1013904242 2773480762 1359893119 2600822924 528734635 1541459225
def r8 (X:Nat->Int):Nat->Int:=l8 (X 0) (X 1) (X 2) (X 3) (X 4) (X 5) (X 6) (X 7)
def aip (n:Nat) (f:Nat->Int):Nat->Int:=Aj (vO Mi (td 64 n f))
def Sf (f:Nat->Int) (k:Nat):Nat->Int:=λj=>f (k+j)
def aiq (n:Nat) (f:Nat->Int):Nat->Int:=Aj (vO (r8 (vO Mi (td 128 n f))) (Sf (td 128 n f) 64))
def kK (n:Nat) (f:Nat->Int):Nat->Int:=bif bZ n 55 then aip n f else aiq n f
def Cd:QF:=⟨65,λargs bl=>match args,bl with
 |[.agg [.int .u32 a,.int .u32 b,.int .u32 c,.int .u32 d,.int .u32 e,.int .u32 f,.int .u32 g,.int .u32 h],.agg [.arr .u8 64 F]],⟨ag,⟨t,(0,0)⟩,[.arr .u32 64 R]⟩::_=>aa (R=c_,.agg (i8 (vO (l8 a b c d e f g h) F)))
 |_,_=>ae⟩
def Sg:Nat->(Nat->Int)->List V
 |64,F=>[.arr .u8 64 F]
 |128,F=>[.arr .u8 64 F,.arr .u8 64 (Sf F 64)]
 |n,F=>[.arr .u8 n F]
def Ce (N:Nat):dk iq:=λargs bl ch K=>match args,ch with
 |[.raw (.slice (aa ⟨b,o,ae⟩) n c)],[g]=>cond (bY bl.length bl) (((g.b=b/\g.o=o/\g.n=n)/\rC n=(N:Int)/\n<N)/\K (.sl bl.length 0 N N) (bl++[⟨af,⟨5,(0,0)⟩,Sg N (td N n g.f)⟩]) [g]) False
 |_,_=>False
def o4 (x:Int):List V:=[.int .u8 (u8.wrap (kP x (2^24))),.int .u8 (u8.wrap (kP x (2^16))),.int .u8 (u8.wrap (kP x (2^8))),.int .u8 (u8.wrap x)]
def Mj (H:Nat->Int):List V:=o4 (H 0)++(o4 (H 1)++(o4 (H 2)++(o4 (H 3)++(o4 (H 4)++(o4 (H 5)++(o4 (H 6)++o4 (H 7)))))))
def air (H:Nat->Int) (ids:List Nat):den ids (.agg (Mj H))=.agg (aD .u8 32 (Aj H)):=kR
section
variable(t:Nat) (g:iq) (b o n c:Nat) (K:VK iq)
def ais:br (bM prog pk (⟨64,ag,Ce 64⟩::qL iq [Cd])) 60 44 [.raw (.slice (aa ⟨b,o,ae⟩) n c)] [rA t] [g] (bA 1 K)=(((g.b=b/\g.o=o/\g.n=n)/\rC n=((64:Nat):Int)/\n<64)/\c_=c_/\K (.agg (Mj (vO Mi (td 64 n g.f)))) [rA t] [g]):=kR
def ait:br (bM prog pk (⟨64,ag,Ce 128⟩::qL iq [Cd])) 60 44 [.raw (.slice (aa ⟨b,o,ae⟩) n c)] [rA t] [g] (bA 1 K)=(((g.b=b/\g.o=o/\g.n=n)/\rC n=((128:Nat):Int)/\n<128)/\c_=c_/\c_=c_/\K (.agg (Mj (vO (r8 (vO Mi (td 128 n g.f))) (Sf (td 128 n g.f) 64)))) [rA t] [g]):=kR
end
def aiu {w:aj} {b o n:Nat} {f:Nat->Int} (h:cA w b o n f):∃g:iq,(g.b=b/\g.o=o/\g.n=n)/\g.f=f/\∃ps:List (Nat×Obj),g.bl=ps.map (λp=>⟨p.1,ag,p.2⟩)/\∀p∈ps,w.heap[p.1]?=aa p.2:=by
 rcases tU n with rfl|hn
 ·exact⟨⟨[],b,o,0,f,λ_ _ j hj=>absurd hj oM⟩,⟨rfl,rfl,rfl⟩,rfl,[],rfl,λ_ h=>nomatch h⟩
 ·cases hb:w.heap[b]?with
  |none=>
   have:=h 0 hn;unfold zl at this;simp only[hb]at this;cases this
  |some ob=>
   refine⟨⟨[⟨b,ag,ob⟩],b,o,n,f,λw' hw j hj=>?_⟩,⟨rfl,rfl,rfl⟩,rfl,[(b,ob)],rfl,?_⟩
   ·have h1:=h j hj;have h2:w'.heap[b]?=aa ob:=hw _ (jZ.2 rfl);unfold zl at h1⊢;simp only[hb]at h1;simp only[h2];exact h1
   ·intro p hp;obtain rfl:=jZ.1 hp;exact hb
def aaQ {e:Int} {N:Nat} {X:Prop} (he:e=(N:Int)) (h8:8<=N) (hN:N<=1000) (hX:X):∀k i,i+k<=8->Mh e N X k i
 |0,_,_=>hX
 |k+1,i,h=>by
  have e1:i64.wrap (i64.wrap (e-1)-(i:Int))=(N:Int)-1-(i:Int):=by rw[he,k7 (x:=(N:Int)-1) oM,k7 oM]
  unfold Mh;rw[e1];exact qg oM (aaQ he h8 hN hX k (i+1) oM)
def aaR {n:Nat} (h:n<=55):rC n=((64:Nat):Int):=by
 unfold rC;rw[k7 (x:=(n:Int)+9) oM,k7 (x:=(n:Int)+9+64) oM,k7 (x:=(n:Int)+9+64-1) oM,Int.tdiv_eq_ediv_of_nonneg oM,show((n:Int)+9+64-1)/64=1 by omega];rfl
def aaS {n:Nat} (h:56<=n) (h2:n<=119):rC n=((128:Nat):Int):=by
 unfold rC;rw[k7 (x:=(n:Int)+9) oM,k7 (x:=(n:Int)+9+64) oM,k7 (x:=(n:Int)+9+64-1) oM,Int.tdiv_eq_ediv_of_nonneg oM,show((n:Int)+9+64-1)/64=2 by omega];rfl
def aiv {N:Nat} (h0:1<=N) (h1:N<=1000) {f:Nat} {args:List V} {g:iq} {K:VK iq} (h:ta (HB N h0 h1 f args g K)) {R:List ao} {ms:List Nat} {w0 w:aj} (S:St ms w0 (g.bl++R) w):
 aX prog f (aE [] args).toArray w λv w1=>∃x more b ch,v=den more x/\more.length=b.length/\St ms w0 (lits more more b++au ch R) w1/\K x b ch:=by
 have S0:St ms w0 (lits [] [] []++au [g] R) w:=S;exact eZ (aH.nil (G:=iq) (P:=prog) (gl:=λ_=>ae)).T (aH.nil (G:=iq) (P:=prog) (gl:=λ_=>ae)).Q 60 (C:=gy prog (λ_=>ae) ([]:List (bK iq)) (Mg N) (aaO h0 h1)) (ids:=[]) (bl:=[]) (ch:=[g]) (R:=R) Gl.no rfl S0 h.h
def Mk (N n:Nat) (g:iq):VK iq:=λv bl ch=>v=.sl 0 0 N N/\bl=[⟨af,⟨5,(0,0)⟩,[.arr .u8 N (td N n g.f)]⟩]/\ch=[g]
def aaT {N n b o:Nat} {g:iq} (h8:8<=N) (h1:N<=1000) (hg:g.b=b/\g.o=o/\g.n=n) (he:rC n=(N:Int)) (hn:n<N):Se N n b o g (Mk N n g):=
 ⟨⟨he,he⟩,⟨hg,oM,cY _⟩,qg oM (aaQ he h8 h1 ⟨rfl,rfl,rfl⟩ 8 0 oM)⟩
def aiw {N:Nat} (h0:1<=N) (h8:8<=N) (h1:N<=1000) {b o n c:Nat} (g:iq) (cV:ta (HB N h0 h1 64 [.raw (.slice (aa ⟨b,o,ae⟩) n c)] g (Mk N n g)))
 {R:List ao} {ms:List Nat} {w0 w:aj} (S:St ms w0 (g.bl++R) w):aX prog 64 #[.slice (aa ⟨b,o,ae⟩) n c] w λv w1=>∃b',v=.slice (aa ⟨b',0,ae⟩) N N/\St ms w0 (⟨b',af,.cells (aD .u8 N (td N n g.f)) 5 (0,0)⟩::(g.bl++R)) w1:=by
 have hr:=aiv h0 h1 (f:=64) (args:=[.raw (.slice (aa ⟨b,o,ae⟩) n c)]) (g:=g) (K:=Mk N n g) cV S;have e0:(aE [] [V.raw (.slice (aa ⟨b,o,ae⟩) n c)]).toArray=#[.slice (aa ⟨b,o,ae⟩) n c]:=rfl;rw[e0]at hr;clear cV;refine hr.mono ?_;rintro v w' ⟨y,more,bl',ch',rfl,hl,S',rfl,rfl,rfl⟩
 match more,hl with
 |[b'],_=>
  refine⟨b',rfl,?_⟩;have e:lits [b'] [b'] [⟨af,⟨5,(0,0)⟩,[.arr .u8 N (td N n g.f)]⟩]=[⟨b',af,.cells (aD .u8 N (td N n g.f)) 5 (0,0)⟩]:=by
   simp only[lits,aC,EC]
  rw[e]at S';exact S'
def aix (ids:List Nat) {N:Nat} (hN:N=64\/N=128) (F:Nat->Int):(ak ids (Sg N F)).toArray=aD .u8 N F:=by
 rcases hN with rfl|rfl
 ·exact EC ids 64 F
 ·have e:bo 128=bo 64++(bo 64).map (64+·):=dC;unfold Sg aD;rw[e,tX,l5];simp only[ak,cl,cT];rfl
def aiy {N:Nat} (hN:N=64\/N=128) (gl:Nat->Option Nat):Sound prog gl 64 (Ce N):=by
 intro args ids bl ch R ms w0 w K hg hl S hc;unfold Ce at hc;split at hc
 ·rename_i b o n c g;cases hq:bY bl.length bl with
  |false=>rw[hq]at hc;exact hc.elim
  |true=>
   rw[hq]at hc;obtain⟨⟨hgg,he,hn⟩,hK⟩:=hc;have cV:∃(h0:1<=N) (h1:N<=1000),8<=N/\ta (HB N h0 h1 64 [.raw (.slice (aa ⟨b,o,ae⟩) n c)] g (Mk N n g)):=by
    rcases hN with rfl|rfl
    ·exact⟨oM,oM,oM,⟨by rw[ain];exact aaT oM oM hgg he hn⟩⟩
    ·exact⟨oM,oM,oM,⟨by rw[aio];exact aaT oM oM hgg he hn⟩⟩
   obtain⟨h0,h1,h8,cV⟩:=cV;have S1:St ms w0 (g.bl++(lits ids ids bl++R)) w:=S.perm (qR _ _ _);refine(aiw h0 h8 h1 g cV S1).mono ?_;rintro v w' ⟨b',rfl,S2⟩;refine⟨_,[b'],_,_,?_,by simp[hl],?_,hK⟩
   ·simp only[den];rw[<-hl,lG]
   ·rw[fu _ _ _ _ hl,fw _ _ (by rw[hl];exact hq)];simp only[lits,aC,aix _ hN];refine S2.perm ?_;show mE ([_]++(g.bl++(lits ids ids bl++R))) ((lits ids ids bl++[_])++(g.bl++R));refine(j4 _ (qR _ _ _)).trans ?_;rw[<-bW];exact Bc _ List.perm_append_comm
 ·exact hc.elim
def aiz:Cd.Ok prog pk:=by
 intro args bl p_ v_ h hp ids w hg hm;unfold Cd at h;dsimp only at h;split at h
 ·rename_i a b c d e f g h' F t R bl';simp only[aW,bC]at h;obtain⟨rfl,rfl⟩:=h;subst hp;have h1:=hm.2 0 _ rfl;rw[(hg 0 0 rfl).2]at h1;have e1:(ak ids [.arr .u32 64 c_]).toArray=aD .u32 64 c_:=by simp[ak,cl,aD]
  rw[e1]at h1;exact ail t (l8 a b c d e f g h') F h1
 ·cases h
def aaU {N n:Nat} (hN:N=64\/N=128) {b o c t:Nat} {f H:Nat->Int} {w:aj} (hG:w.heap[0]?=aa (.cells (aD .u32 64 c_) t (0,0))) (hB:cA w b o n f) (he:rC n=(N:Int)) (hn:n<N)
 (cV:∀g:iq,(g.b=b/\g.o=o/\g.n=n)->g.f=f->br (bM prog pk (⟨64,ag,Ce N⟩::qL iq [Cd])) 60 44 [.raw (.slice (aa ⟨b,o,ae⟩) n c)] [rA t] [g] (bA 1 λv _ _=>v=.agg (Mj H))):
 aX prog 44 #[.slice (aa ⟨b,o,ae⟩) n c] w λv w1=>v=.agg (aD .u8 32 (Aj H))/\Ch [] w w1:=by
 obtain⟨g,hg,hf,ps,rv,hh⟩:=aiu hB;have dI:aH prog pk (⟨64,ag,Ce N⟩::qL iq [Cd]):=aH.cons ⟨aiy hN pk,λe=>by cases e⟩ (kA (bP.cons aiz bP.nil));have S0:St [] w (lits [0] [0] [rA t]++au [g] []) w:=by
  have:=St.given (w:=w) ((0,.cells (ak [0] [.arr .u32 64 c_]).toArray t (0,0))::ps) (by
   intro p hp;rcases cF.1 hp with rfl|hp
   ·have e:(ak [0] [.arr .u32 64 c_]).toArray=aD .u32 64 c_:=by simp[ak,cl,aD]
    rw[e];exact hG
   ·exact hh p hp)
  show St [] w ([_]++(g.bl++[])) w;rw[rv,cT];exact this
 refine(eZ dI.T dI.Q 60 (C:=bM prog pk (⟨64,ag,Ce N⟩::qL iq [Cd])) (ids:=[0]) (bl:=[rA t]) (ch:=[g]) (R:=[]) (λg i h=>by
  have h:pk g=aa i:=h;unfold pk at h;cases hb:aA g 0 with
  |false=>rw[hb]at h;cases h
  |true=>rw[hb]at h;cases h;exact⟨sP,by simp[gd,ck hb]⟩) rfl S0 (cV g hg hf)).mono ?_
 rintro v w' ⟨y,more,bl',ch',rfl,h1,S',hK⟩;obtain⟨v2,cn,bl2,e,_,_,rfl⟩:=iP (n0:=1) h1 sP S' hK;exact⟨e.trans (air H _),S'.ch⟩
def Sh (b o n c:Nat) (f:Nat->Int) (hn:n<=119) {tG:aM} (w:aj) (hG:w.heap[0]?=aa (.cells (aD .u32 64 c_) tG (0,0))) (hB:cA w b o n f):aX prog 44 #[.slice (aa ⟨b,o,ae⟩) n c] w λv w1=>v=.agg (aD .u8 32 (kK n f))/\Ch [] w w1:=by
 unfold kK;by_cases h:n<=55
 ·rw[wG h];exact aaU (.inl rfl) hG hB (aaR h) oM λg hg hf=>by rw[ais,hf];exact⟨⟨hg,aaR h,oM⟩,rfl,rfl⟩
 ·have hb:bZ n 55=ag:=by
   cases e:bZ n 55 with
   |false=>rfl
   |true=>exact absurd (eO e) h
  rw[hb];exact aaU (.inr rfl) hG hB (aaS oM hn) oM λg hg hf=>by rw[ait,hf];exact⟨⟨hg,aaS oM hn,oM⟩,rfl,rfl,rfl⟩
end
end Go.Proofs.YtddcipamdggcnaaGreatDoor
