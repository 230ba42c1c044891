/- Part 0 of the proof. -/
import Derived.WalkKit
import Derived.Below
import Derived.BigFrame
import Derived.KernelRfl
import Derived.LoopN
import Derived.Laws.CopyRow
import Derived.Laws.StructEq
import Derived.ChangeKeysEq
import Derived.IntWalk
import Derived.Orders
import Derived.Deep.Upon
import Derived.WideMake
set_option linter.all false
set_option maxRecDepth 100000
set_option maxHeartbeats 4000000
open Array renaming getElem?_replicate->AH,replicate->C9,getD->FF,getElem?_eq_none->J3,all_eq_true_iff_forall_mem->J8,getElem?_eq_getElem->J9,toList_setIfInBounds->J_,ext'->fM,getD_eq_getD_getElem?->jR,getElem?_setIfInBounds->q_
open BitVec renaming toNat_ofInt->J7,ofInt->oP
open Bool renaming or_eq_true->Da,and_eq_true->bu,not_eq_true'->my
open Go renaming ResultVar->J5,TypeId->aJ,Program->aL,Addr->aQ,Value->ae,World->ag,Oper->ax,Operand->bh,run_underlying->dI,Exit->eE,FuncId->fL,IntKind->fq,heap_alloc_new->nT,sizeOf->pE,MapEntry->vS
open Go.Addr renaming add_lit->iS,add->vO
open Go.Builtin renaming append_->nU,zeroCells->oQ
open Go.Code renaming rounds->C_
open Go.Exit renaming inBlock->J4
open Go.Instr renaming sliceBound->AJ,slice->FE,storeAt->J2,findNow->PA,fill->agI,fieldAt->agJ,build->agK,sureAddr->ju,loadAt->qZ,indexAt->uo,sliceAt->uw,sliceBounds->ux
open Go.IntKind renaming wrap->yr
open Go.Op renaming unary->Yn,equal->Yo,intArith->agH
open Go.Oper renaming wp->oO
open Go.Region renaming wanted->gT,binds->rf,ready->rj
open Go.Result renaming andThen_ok->cK,andThen->jT
open Go.Sem renaming run_bind->bE,run_pure->du
open Go.Src renaming ofSlice->sW
open Go.Value renaming cells->Ym,int->eA
open Go.World renaming cell?->yq
open Int renaming natCast_nonneg->AL,ofNat_eq_natCast->FG,emod_eq_of_lt->J6,ofNat->db
open List renaming any_eq_true->AD,mem_filter->AE,getElem?_append_right->AF,getElem?_of_mem->AG,pairwise_cons->AK,getElem?_set_ne->J1,length_range->Ka,length_nil->Kc,getElem_append_left->Kd,getElem?_set_self->Pw,pairwise_append->Px,count_replicate_self->Yj,getElem_append_right->Yk,append_assoc->bU,range->bw,append_nil->cH,mem_cons->cn,map_cons->eF,mem_append->fc,cons_append->fe,nil_append->fi,length_append->ft,all_eq_true->gm,length_cons->h_,mem_singleton->iH,getElem?_append_left->iq,getD->ir,getElem?_toArray->jQ,take_append_drop->jS,getElem?_eq_none->jc,getElem?_map->jt,getElem?_eq_getElem->jv,mem_map->lP,map_map->lQ,sublist_append_right->mA,getElem?_range->nV,eq_nil_of_length_eq_zero->nf,replicate->nh,mem_of_getElem?->pF,getD_eq_getElem?_getD->pH,map_congr_left->pI,nodup_cons->ri,map_append->rk,foldl_cons->sZ,length_take->vQ,ext_getElem?->vR,range_succ_eq_map->vU
open List.Mem renaming head->Db,tail->Yl
open List.Perm renaming append_right->FC,swap->Pz,cons->uq
open List.Sublist renaming append_left->uv
open List.cons renaming inj->vT
open Nat renaming add_assoc->AI,lt_of_not_le->PB,lt_of_lt_of_le->Pv,mul_le_mul_right->Py,and_two_pow_sub_one_eq_mod->agG,beq->az,ble->bG,blt->cD,lt_or_ge->cZ,eq_of_beq_eq_true->cz,le_refl->dH,le_of_ble_eq_true->dJ,zero_add->eY,le_trans->hY,blt_eq->iG,add_mul->ng,add_zero->pG,beq_refl->sY,ble_eq_true_of_le->uu,eq_zero_or_pos->vP
open Option renaming getD_some->Yi,map_eq_some_iff->im,map_some->mz
open Option.some renaming injEq->aY,inj->cG
open Prod.mk renaming injEq->bC
namespace Sx
open Go Go.RowKit Go.BigFrame
structure Ch (ms:List Nat) (w w':ag):Prop where
 os:w'.os=w.os
 tape:w'.tape=w.tape
 output:w'.output=w.output
 size:w.heap.size<=w'.heap.size
 block:∀k,k<w.heap.size->k∉ms->w'.heap[k]?=w.heap[k]?
theorem Ch.refl (ms:List Nat) (w:ag):Ch ms w w:=⟨rfl,rfl,rfl,dH _,λ_ _ _=>rfl⟩
theorem Ch.trans {ms ns:List Nat} {a b c:ag} (h:Ch ms a b) (k:Ch ns b c) (hs:∀x∈ns,x∈ms\/a.heap.size<=x):Ch ms a c:=
 ⟨k.os.trans h.os,k.tape.trans h.tape,k.output.trans h.output,hY h.size k.size,λi hi hm=>
  (k.block i (Pv hi h.size) (λhn=>by rcases hs i hn with h1|h1;exact hm h1;omega)).trans (h.block i hi hm)⟩
theorem Ch.below {w w':ag} (h:Ch [] w w'):Below w.heap.size w w':=⟨h.os,h.tape,h.output,h.size,λk hk=>h.block k hk (by simp)⟩
theorem Ch.drew {ms:List Nat} {w w':ag} (h:Ch ms w w'):Ch ms w {w' with drawn:=w'.drawn+1}:=⟨h.os,h.tape,h.output,h.size,h.block⟩
theorem Ch.alloc (ms:List Nat) (w:ag) (o:Obj):Ch ms w (w.alloc o):=
 ⟨rfl,rfl,rfl,by show w.heap.size<=(w.heap.push o).size;simp,λk hk _=>Below.heap_alloc _ _ _ hk⟩
theorem Ch.setRow (w:ag) (g:Nat) (cs:Array ae):Ch [g] w (w.setRow g cs):=
 ⟨rfl,rfl,rfl,by simp[World.setRow],λk hk hm=>by
  simp only[World.setRow,Array.getElem?_modify];rw[if_neg (by intro e;exact hm (by simp[e]))]⟩
structure aj where
 id:Nat
 wr:Bool
 obj:Obj
structure St (ms:List Nat) (w0:ag) (bs:List aj) (w:ag):Prop where
 ch:Ch ms w0 w
 at_:∀(i:Nat) x,bs[i]?=some x->w.heap[x.id]?=some x.obj
 own:∀(i:Nat) x,bs[i]?=some x->x.wr=true->x.id∈ms\/w0.heap.size<=x.id
 apart:∀(i j:Nat) x y,bs[i]?=some x->bs[j]?=some y->i≠j->x.wr=true->x.id≠y.id
theorem pO {w:ag} {k:Nat} {x:Obj} (h:w.heap[k]?=some x):k<w.heap.size:=by
 rcases cZ k w.heap.size with h1|h1
 ·exact h1
 ·simp[h1]at h
theorem St.nil (ms:List Nat) (w:ag):St ms w [] w:=⟨Ch.refl _ _,by simp,by simp,by simp⟩
theorem St.quiet {ms:List Nat} {w0 w w':ag} {bs:List aj} (h:St ms w0 bs w) (hc:Ch [] w w'):St ms w0 bs w':=
 ⟨h.ch.trans hc (by simp),λi x hx=>(hc.block _ (pO (h.at_ i x hx)) (by simp)).trans (h.at_ i x hx),h.own,h.apart⟩
theorem St.step {ms:List Nat} {w0 w w':ag} {bs:List aj} (h:St ms w0 bs w) {i:Nat} {x:aj} (hi:bs[i]?=some x) (hx:x.wr=true) (hc:Ch [x.id] w w') {o':Obj} (ho:w'.heap[x.id]?=some o'):
 St ms w0 (bs.set i ⟨x.id,true,o'⟩) w':=by
 have rp:∀(j:Nat) y,(bs.set i ⟨x.id,true,o'⟩)[j]?=some y->(j=i/\y=⟨x.id,true,o'⟩)\/(j≠i/\bs[j]?=some y):=by
  intro j y hy;by_cases hj:i=j
  ·subst hj;rw[Pw (by rcases cZ i bs.length with h1|h1;exact h1;simp[h1]at hi)]at hy;exact Or.inl ⟨rfl,by simpa using hy.symm⟩
  ·rw[J1 hj]at hy;exact Or.inr ⟨λe=>hj e.symm,hy⟩
 refine⟨h.ch.trans hc (by simpa using h.own i x hi hx),?_,?_,?_⟩
 ·intro j y hy;rcases rp j y hy with⟨rfl,rfl⟩|⟨cE,hy⟩
  ·exact ho
  ·exact(hc.block _ (pO (h.at_ j y hy)) (by simpa using(h.apart i j x y hi hy (λe=>cE e.symm) hx).symm)).trans (h.at_ j y hy)
 ·intro j y hy hw;rcases rp j y hy with⟨rfl,rfl⟩|⟨_,hy⟩
  ·exact h.own _ x hi hx
  ·exact h.own j y hy hw
 ·intro j k y z hy hz cE hw;rcases rp j y hy with⟨rfl,rfl⟩|⟨h1,hy⟩<;>rcases rp k z hz with⟨rfl,rfl⟩|⟨h2,hz⟩
  ·exact absurd rfl cE
  ·exact h.apart _ k x z hi hz (λe=>h2 e.symm) hx
  ·exact λe=>h.apart _ j x y hi ‹bs[j]?=some y› (λe=>h1 e.symm) hx e.symm
  ·exact h.apart _ _ _ _ ‹bs[j]?=some y› hz cE hw
theorem St.new {ms:List Nat} {w0 w w':ag} {bs:List aj} (h:St ms w0 bs w) (hc:Ch [] w w') {b:Nat} {o:Obj} (hb:w.heap.size<=b) (ho:w'.heap[b]?=some o):St ms w0 (⟨b,true,o⟩::bs) w':=by
 have hq:=h.quiet hc;have dL:∀(i:Nat) x,bs[i]?=some x->x.id<b:=λi x hx=>Pv (pO (h.at_ i x hx)) hb;refine⟨hq.ch,?_,?_,?_⟩
 ·intro i x hx;cases i with
  |zero=>obtain rfl:_=x:=by simpa using hx
         exact ho
  |succ i=>exact hq.at_ i x (by simpa using hx)
 ·intro i x hx hw;cases i with
  |zero=>obtain rfl:_=x:=by simpa using hx
         exact Or.inr (hY h.ch.size hb)
  |succ i=>exact hq.own i x (by simpa using hx) hw
 ·intro i j x y hx hy cE hw;cases i with
  |zero=>
   obtain rfl:_=x:=by simpa using hx
   cases j with
   |zero=>exact absurd rfl cE
   |succ j=>have:=dL j y (by simpa using hy);simp;omega
  |succ i=>
   cases j with
   |zero=>obtain rfl:_=y:=by simpa using hy
          have:=dL i x (by simpa using hx);simp;omega
   |succ j=>exact hq.apart i j x y (by simpa using hx) (by simpa using hy) (by omega) hw
theorem St.lt {ms:List Nat} {w0 w:ag} {bs:List aj} (h:St ms w0 bs w) {i:Nat} {x:aj} (hi:bs[i]?=some x):x.id<w.heap.size:=pO (h.at_ i x hi)
theorem St.pick {ms:List Nat} {w0 w:ag} {bs:List aj} (h:St ms w0 bs w) (is:List Nat) {bs':List aj} (he:is.map (bs[·]?)=bs'.map some) (hn:is.Nodup):St ms w0 bs' w:=by
 have aP:∀(i:Nat) x,bs'[i]?=some x->∃j,is[i]?=some j/\bs[j]?=some x:=by
  intro i x hx;have h1:(bs'.map some)[i]?=some (some x):=by simp[hx]
  rw[<-he]at h1;simp only[jt,im]at h1;exact h1
 refine⟨h.ch,?_,?_,?_⟩
 ·intro i x hx;obtain⟨j,_,hj⟩:=aP i x hx;exact h.at_ j x hj
 ·intro i x hx;obtain⟨j,_,hj⟩:=aP i x hx;exact h.own j x hj
 ·intro i k x y hx hy cE;obtain⟨j,yx,hj⟩:=aP i x hx;obtain⟨l,yy,hl⟩:=aP k y hy;refine h.apart j l x y hj hl ?_;intro e;subst e;exact cE ((List.getElem?_inj (by rcases cZ i is.length with h1|h1;exact h1;simp[h1]at yx) hn).1 (yx.trans yy.symm))
def jy (d:TypeDesc):Bool:=match d with|.struct _|.array _ _=>true|_=>false
section
variable{P:aL}
theorem AU {ty:aJ} {b:Bool} (h:(P.underlying ty).map jy=some b) (w:ag):(isAgg ty).run P w=.ok b w:=by
 cases hq:P.underlying ty with
 |none=>simp[hq]at h
 |some d=>
  simp[hq]at h;unfold isAgg;rw[bE,dI hq w];cases d<;>simp_all[jy]
theorem cell_of {w:ag} {g:Nat} {cs:Array ae} {t:aJ} {fr:Nat×Nat} (h:w.heap[g]?=some (.cells cs t fr)) (o:Nat):w.cell? ⟨g,o,none⟩=cs[o]?:=by
 simp[yq,h]
theorem Dj {w:ag} {g off:Nat} {cs:Array ae} {t ty:aJ} {fr:Nat×Nat} {v:ae} (hg:w.heap[g]?=some (.cells cs t fr)) (ha:(P.underlying ty).map jy=some false) (hc:cs[off]?=some v):
 (loadVar ty ⟨g,off,none⟩).run P w=.ok v w:=by
 unfold loadVar;rw[bE,AU ha];simp[load,Sem.run,cell_of hg,hc]
theorem FL {w:ag} {g off n:Nat} {cs vs:Array ae} {t ty:aJ} {fr:Nat×Nat} (hg:w.heap[g]?=some (.cells cs t fr)) (ha:(P.underlying ty).map jy=some true) (hn:(P.info? ty).map (·.size)=some n)
 (hc:cs.extract off (off+n)=vs) (hv:vs.size=n):(loadVar ty ⟨g,off,none⟩).run P w=.ok (.agg vs) w:=by
 have hl:(loadCells ⟨g,off,none⟩ vs.toList.length).run P w=.ok vs.toList.toArray w:=
  run_loadCells_list (P:=P) w ⟨g,off,none⟩ vs.toList (λj v hj=>by
   have FM:(⟨g,off,none⟩:aQ).add j=⟨g,off+j,none⟩:=by unfold vO;split<;>simp_all
   rw[FM,cell_of hg];have h1:vs[j]?=some v:=by simpa using hj
   rw[<-hc,Array.getElem?_extract]at h1;split at h1
   ·exact h1
   ·exact absurd h1 (by simp))
 cases hq:P.info? ty with
 |none=>simp[hq]at hn
 |some i=>
  have hs:i.size=vs.size:=by simpa[hq,hv]using hn
  simp only[Array.length_toList,Array.toArray_toList]at hl;simp[loadVar,bE,AU ha,pE,typeInfo,hq,hs,hl]
def splice (cs:Array ae) (off:Nat) (vs:List ae):Array ae:=(cs.toList.take off++vs++cs.toList.drop (off+vs.length)).toArray
theorem Kj {w:ag} {g off:Nat} {cs:Array ae} {t ty:aJ} {v:ae} {vs:List ae} (hg:w.heap[g]?=some (.cells cs t (0,0))) (hv:v.cells.toList=vs) (hn:(P.info? ty).map (·.size)=some vs.length)
 (hl:off+vs.length<=cs.size) (h1:vs.all (·.oneCell')=true):(storeVar ty ⟨g,off,none⟩ v).run P w=.ok () (w.setRow g (splice cs off vs)):=by
 cases hq:P.info? ty with
 |none=>simp[hq]at hn
 |some i=>
  have hs:i.size=vs.length:=by simpa[hq]using hn
  have hz:v.cells.size=vs.length:=by rw[<-hv];simp
  have:=run_storeCells_at (P:=P) g off t vs 0 cs w hg (by simpa using hl) (by simpa using h1);unfold storeVar;simp[bE,pE,typeInfo,hq,hs,hz,hv,splice]at this⊢;exact this
end
def aV (P:aL) (f:fL) (args:Array ae) (w:ag) (R:ae->ag->Prop):Prop:=Calls P f args w λe w'=>∃v,e=.returned v/\R v w'
theorem aV.mono {P:aL} {f:fL} {args:Array ae} {w:ag} {R R':ae->ag->Prop} (h:aV P f args w R) (hr:∀v w',R v w'->R' v w'):aV P f args w R':=
 Calls.mono h λe w' ⟨v,he,hv⟩=>⟨v,he,hr _ _ hv⟩
def lk (bs:List aj) (i off:Nat):Option (Nat×ae):=
 match bs[i]?with
 |some ⟨b,_,.cells cs _ _⟩=>match cs[off]?with|some v=>some (b,v)|none=>none
 |_=>none
def yz (bs:List aj) (i off n:Nat):Option (Nat×Array ae):=
 match bs[i]?with
 |some ⟨b,_,.cells cs _ _⟩=>match bG (off+n) cs.size with|true=>some (b,((cs.toList.drop off).take n).toArray)|false=>none
 |_=>none
def yA (bs:List aj) (i off n:Nat):Option Nat:=
 match bs[i]?with
 |some ⟨b,true,.cells cs _ (0,0)⟩=>match bG (off+n) cs.size with|true=>some b|false=>none
 |_=>none
def vX (bs:List aj) (i off:Nat) (vs:List ae):List aj:=
 match bs[i]?with
 |some ⟨b,wr,.cells cs t fr⟩=>bs.set i ⟨b,wr,.cells (splice cs off vs) t fr⟩
 |_=>bs
theorem YB {bs:List aj} {i off b:Nat} {v:ae} (h:lk bs i off=some (b,v)):∃wr cs t fr,bs[i]?=some ⟨b,wr,.cells cs t fr⟩/\cs[off]?=some v:=by
 unfold lk at h;split at h
 ·rename_i b' wr cs t fr hb;split at h
  ·rename_i v' hv;simp only[aY,bC]at h;obtain⟨rfl,rfl⟩:=h;exact⟨wr,cs,t,fr,hb,hv⟩
  ·simp at h
 ·simp at h
theorem Kk {bs:List aj} {i off n b:Nat} {vs:Array ae} (h:yz bs i off n=some (b,vs)):∃wr cs t fr,bs[i]?=some ⟨b,wr,.cells cs t fr⟩/\cs.extract off (off+n)=vs/\vs.size=n:=by
 unfold yz at h;split at h
 ·rename_i b' wr cs t fr hb;split at h
  ·rename_i hle;simp only[aY,bC]at h;obtain⟨rfl,rfl⟩:=h;have:=dJ hle;have e:cs.extract off (off+n)=((cs.toList.drop off).take n).toArray:=by
    apply fM;simp[List.extract]
   exact⟨wr,cs,t,fr,hb,e,by simp;omega⟩
  ·simp at h
 ·simp at h
theorem Kl {bs:List aj} {i off n b:Nat} (h:yA bs i off n=some b):∃cs t,bs[i]?=some ⟨b,true,.cells cs t (0,0)⟩/\off+n<=cs.size:=by
 unfold yA at h;split at h
 ·rename_i b' cs t hb;split at h
  ·rename_i hle;simp only[aY]at h;obtain rfl:=h;exact⟨cs,t,hb,dJ hle⟩
  ·simp at h
 ·simp at h
structure WL (P:aL) (ops:Array ax) (Q:eE->Act->ag->Prop) (l:List ax) (a:Act) (w:ag):Prop where
 out:wpList P ops Q l a w
theorem WL.want {P:aL} {ops:Array ax} {Q:eE->Act->ag->Prop} {a:Act} {w:ag} {rest:List ax} {o:ax} (hw:gT o (yielded ops a.tmps)=true)
 (h:∀K:Act->ag->Prop,(∀a w,WL P ops Q rest a w->K a w)->o.wp P a w K Q):WL P ops Q (o::rest) a w:=⟨wpList_want hw λK hK=>h K λa w x=>hK a w x.out⟩
section
variable{P:aL} {ops:Array ax} {rest:List ax} {o:ax} {a:Act} {w w0:ag} {ms:List Nat} {bs:List aj} {Q:eE->Act->ag->Prop}
theorem au (v:ae) (k:WL P ops Q rest (a.put o.dst v) w) (hw:gT o (yielded ops a.tmps)=true:=by kernel_rfl) (h:(execOp a.eval o).run P w=.ok (.value v) w:=by kernel_rfl):WL P ops Q (o::rest) a w:=
 WL.want hw λK hK=>by unfold oO;rw[h];exact hK _ _ k
theorem vY (k:WL P ops Q rest (a.put o.dst undef) w) (hw:gT o (yielded ops a.tmps)=false:=by kernel_rfl):WL P ops Q (o::rest) a w:=⟨wpList_skip hw k.out⟩
theorem pP (S:St ms w0 bs w) (i:Nat) (v:ae) (b off:Nat) {x:bh} {ty:aJ} (k:WL P ops Q rest (a.put o.dst v) w) (hw:gT o (yielded ops a.tmps)=true:=by kernel_rfl) (ho:o.op=.load ty x:=by rfl) (hx:a.eval x=.pointer (some ⟨b,off,none⟩):=by kernel_rfl)
 (ha:(P.underlying ty).map jy=some false:=by kernel_rfl) (hb:lk bs i off=some (b,v):=by kernel_rfl):WL P ops Q (o::rest) a w:=
 WL.want hw λK hK=>by
  obtain⟨wr,cs,t,fr,hb,hc⟩:=YB hb;unfold oO execOp;simp only[ho,hx,qZ,ju,bE,du,cK,Dj (S.at_ i _ hb) ha hc];exact hK _ _ k
theorem kA (S:St ms w0 bs w) (i:Nat) (n:Nat) (vs:Array ae) (b off:Nat) {x:bh} {ty:aJ} (k:WL P ops Q rest (a.put o.dst (.agg vs)) w) (hw:gT o (yielded ops a.tmps)=true:=by kernel_rfl) (ho:o.op=.load ty x:=by rfl) (hx:a.eval x=.pointer (some ⟨b,off,none⟩):=by kernel_rfl)
 (ha:(P.underlying ty).map jy=some true:=by kernel_rfl) (hn:(P.info? ty).map (·.size)=some n:=by kernel_rfl) (hb:yz bs i off n=some (b,vs):=by kernel_rfl):WL P ops Q (o::rest) a w:=
 WL.want hw λK hK=>by
  obtain⟨wr,cs,t,fr,hb,hc,hv⟩:=Kk hb;unfold oO execOp;simp only[ho,hx,qZ,ju,bE,du,cK,FL (S.at_ i _ hb) ha hn hc hv];exact hK _ _ k
theorem store_ (S:St ms w0 bs w) (i:Nat) (v:ae) (b off:Nat) {x y:bh} {ty:aJ} (k:∀w',St ms w0 (vX bs i off v.cells.toList) w'->WL P ops Q rest (a.put o.dst undef) w') (hw:gT o (yielded ops a.tmps)=true:=by kernel_rfl) (ho:o.op=.store ty x y:=by rfl) (hx:a.eval x=.pointer (some ⟨b,off,none⟩):=by kernel_rfl) (hy:a.eval y=v:=by kernel_rfl)
 (hn:(P.info? ty).map (·.size)=some v.cells.toList.length:=by kernel_rfl) (h1:v.cells.toList.all (·.oneCell')=true:=by kernel_rfl) (hb:yA bs i off v.cells.toList.length=some b:=by kernel_rfl):WL P ops Q (o::rest) a w:=
 WL.want hw λK hK=>by
  obtain⟨cs,t,hb,hl⟩:=Kl hb;unfold oO execOp;have aP:=S.at_ i _ hb;simp only[ho,hx,hy,J2,ju,bE,du,cK,Kj (P:=P) aP rfl hn hl h1];refine hK _ _ (k _ ?_);have:=S.step hb rfl (Ch.setRow w b _) (setRow_heap w b cs (splice cs off v.cells.toList) t (0,0) aP);simpa[vX,hb]using this
theorem dZ {x:bh} (k:WL P ops Q rest (a.put o.dst (a.eval x)) w) (hw:gT o (yielded ops a.tmps)=true:=by kernel_rfl) (ho:o.op=.move x:=by rfl):WL P ops Q (o::rest) a w:=
 au _ k hw (by unfold execOp;simp[ho])
theorem gx {x:bh} (k:WL P ops Q rest (a.put o.dst (a.eval x)) w) (hw:gT o (yielded ops a.tmps)=true:=by kernel_rfl) (ho:o.op=.assign x:=by rfl):WL P ops Q (o::rest) a w:=
 au _ k hw (by unfold execOp;simp[ho])
theorem oR (v v':ae) (he:v=v') (k:WL P ops Q rest (a.put o.dst v') w) (hw:gT o (yielded ops a.tmps)=true:=by kernel_rfl) (h:(execOp a.eval o).run P w=.ok (.value v) w:=by kernel_rfl):WL P ops Q (o::rest) a w:=by
 subst he;exact au v k hw h
theorem lA (kd:fq) (e:Int) (he:kd.wrap e=e) (k:WL P ops Q rest (a.put o.dst (.int kd e)) w) (hw:gT o (yielded ops a.tmps)=true:=by kernel_rfl) (h:(execOp a.eval o).run P w=.ok (.value (.int kd (kd.wrap e))) w:=by kernel_rfl):WL P ops Q (o::rest) a w:=
 oR _ _ (by rw[he]) k hw h
theorem YC (t:Nat) (b:Bool) (ht:b=true->WL P ops Q rest (a.put (some t) (.bool true)) w) (hf:b=false->WL P ops Q rest (a.put (some t) (.bool false)) w) (hv:a.tmps[t]?=some (.bool b):=by kernel_rfl):WL P ops Q rest a w:=by
 have hs:a.put (some t) (.bool b)=a:=by
  obtain⟨tmps,ds⟩:=a;have e:tmps.setIfInBounds t (.bool b)=tmps:=by
   apply Array.ext_getElem?;intro i;rw[q_];have PE:tmps[t]?=some (.bool b):=hv;by_cases h:t=i
   ·subst h;rw[if_pos rfl];by_cases h2:t<tmps.size
    ·rw[if_pos h2];exact PE.symm
    ·rw[if_neg h2];rw[J3 (by omega)]at PE;exact absurd PE (by simp)
   ·rw[if_neg h]
  simp only[Act.put,e]
 cases b
 ·rw[<-hs];exact hf rfl
 ·rw[<-hs];exact ht rfl
theorem eZ (S:St ms w0 bs w) (f:Nat->ae) (obj:Obj) (k:∀b w',St ms w0 (⟨b,true,obj⟩::bs) w'->WL P ops Q rest (a.put o.dst (f b)) w') (hw:gT o (yielded ops a.tmps)=true:=by kernel_rfl) (h:(execOp a.eval o).run P w=.ok (.value (f w.heap.size)) (w.alloc obj):=by kernel_rfl):WL P ops Q (o::rest) a w:=
 WL.want hw λK hK=>by
  unfold oO;rw[h];exact hK _ _ (k _ _ (S.new (Ch.alloc _ _ _) (dH _) (nT w obj)))
theorem fT (f:fL) (args:Array ae) (k:aV P f args w λv w'=>WL P ops Q rest (a.put o.dst v) w') (hw:gT o (yielded ops a.tmps)=true:=by kernel_rfl) (h:(execOp a.eval o).run P w=.ok (.enter f args) w:=by kernel_rfl):WL P ops Q (o::rest) a w:=
 WL.want hw λK hK=>by
  unfold oO;rw[h];refine Calls.mono k ?_;rintro e w' ⟨v,rfl,hk⟩;exact hK _ _ hk
end
section
variable{P:aL} {a:Act} {w:ag} {Q:eE->Act->ag->Prop}
theorem jd {f:fL} {fn:Func} {c:Code} {args:Array ae} {R:ae->ag->Prop} (hf:P.funcs[f]?=some fn) (hb:fn.body=some c)
 (h:c.wp P (bodyPost P fn (λe w'=>∃v,e=.returned v/\R v w')) ⟨args++C9 (fn.ntmps-args.size) undef,[]⟩ w):aV P f args w R:=by
 exact calls_of_wp hf hb h
theorem aS {x y:Code} (h:x.wp P (Exit.then (y.wp P Q) Q) a w):(Code.seq x y).wp P Q a w:=wp_seq h
theorem aZ {id:Nat} {l:List ax} (h:WL P l.toArray Q l a w):(Code.region id l.toArray false).wp P Q a w:=wp_region_lit h.out
theorem aW {ops:Array ax} (h:Q .normal a w):WL P ops Q [] a w:=⟨h⟩
theorem aR {y:Code} (h:y.wp P Q a w):Exit.then (y.wp P Q) Q .normal a w:=h
theorem YD {K:Act->ag->Prop} (h:Q .ret a w):Exit.then K Q .ret a w:=h
theorem lR {K:Act->ag->Prop} {id:Nat} (h:Q (.exit id) a w):Exit.then K Q (.exit id) a w:=h
theorem lS {id:Nat} (h:Q .normal a w):J4 id Q .normal a w:=h
theorem vZ {id:Nat} (h:Q .normal a w):J4 id Q (.exit id) a w:=by simpa[J4]using h
theorem FN {c:Code} (n:Nat) (h:c.wp P (Exit.then (C_ P c Q n) Q) a w):(Code.loop c).wp P Q a w:=wp_loop_rounds (n+1) h
theorem v3 {c:Code} {n:Nat} (h:c.wp P (Exit.then (C_ P c Q n) Q) a w):Exit.then (C_ P c Q (n+1)) Q .normal a w:=h
theorem gF {fn:Func} {R:ae->ag->Prop} {v:ae} (hd:a.defers=[]) (hr:(results fn a.tmps).run P w=.ok v w) (h:R v w):bodyPost P fn (λe w'=>∃v,e=.returned v/\R v w') .ret a w:=
 ⟨hd,v,hr,v,rfl,h⟩
theorem end_ {fn:Func} {R:ae->ag->Prop} {v:ae} (hd:a.defers=[]) (hr:(results fn a.tmps).run P w=.ok v w) (h:R v w):bodyPost P fn (λe w'=>∃v,e=.returned v/\R v w') .normal a w:=
 ⟨hd,v,hr,v,rfl,h⟩
def yB (tmps:Array ae):J5->Sem ae
 |.tmp t=>pure (tmps.getD t undef)
 |.cell a t=>do loadVar t (<-asAddr (tmps.getD a undef))
def Km (P:aL) (w:ag) (tmps:Array ae):List J5->List ae->Prop
 |[],[]=>True
 |r::rs,v::vs=>(yB tmps r).run P w=.ok v w/\Km P w tmps rs vs
 |_,_=>False
theorem YE {tmps:Array ae}:∀{rs:List J5} {vs:List ae},Km P w tmps rs vs->(rs.mapM (yB tmps)).run P w=.ok vs w
 |[],[],_=>rfl
 |r::rs,v::vs,⟨h,hs⟩=>by
  simp only[List.mapM_cons,bE,h,cK,YE hs];rfl
 |[],_::_,h=>h.elim
 |_::_,[],h=>h.elim
def Kn:List ae->ae
 |[v]=>v
 |vs=>.tuple vs.toArray
theorem gb {fn:Func} {tmps:Array ae} (rs:List J5) (vs:List ae) (v:ae) (h:Km P w tmps rs vs) (hf:fn.results=rs.toArray:=by kernel_rfl) (hv:Kn vs=v:=by kernel_rfl):(results fn tmps).run P w=.ok v w:=by
 subst hv;have h1:results fn tmps=(do let vs <-fn.results.mapM (yB tmps);pure (if h:vs.size=1 then vs[0]else .tuple vs)):=by
  unfold results;congr 2
 rw[h1,hf,List.mapM_toArray];simp only[Sem.run_map,YE h,cK,bind_pure_comp,Functor.map_map];rcases vs with _|⟨v,_|⟨u,vs⟩⟩<;>simp[Kn]
theorem jz {tmps:Array ae} {t:Nat} {v:ae} (h:tmps.getD t undef=v:=by kernel_rfl):(yB tmps (.tmp t)).run P w=.ok v w:=by subst h;rfl
theorem ni {ms:List Nat} {w0:ag} {bs:List aj} (S:St ms w0 bs w) (i n b off:Nat) {tmps vs:Array ae} {t ty:Nat} (h:tmps.getD t undef=.pointer (some ⟨b,off,none⟩):=by kernel_rfl)
 (ha:(P.underlying ty).map jy=some true:=by kernel_rfl) (hn:(P.info? ty).map (·.size)=some n:=by kernel_rfl) (hb:yz bs i off n=some (b,vs):=by kernel_rfl):(yB tmps (.cell t ty)).run P w=.ok (.agg vs) w:=by
 obtain⟨wr,cs,t,fr,hb,hc,hv⟩:=Kk hb;simp only[yB,h,bE,asAddr,du,cK,FL (S.at_ i _ hb) ha hn hc hv]
end
section
variable{P:aL} {a:Act} {w:ag} {Q:eE->Act->ag->Prop}
theorem v5 {c:bh} {x y:Code} (h:x.wp P Q a w) (hc:a.eval c=.bool true:=by kernel_rfl):(Code.cond c x y).wp P Q a w:=wp_cond_true hc h
theorem pQ {c:bh} {x y:Code} (h:y.wp P Q a w) (hc:a.eval c=.bool false:=by kernel_rfl):(Code.cond c x y).wp P Q a w:=wp_cond_false hc h
theorem s_ {c:bh} {x y:Code} (b:Bool) (ht:b=true->x.wp P Q a w) (hf:b=false->y.wp P Q a w) (hc:a.eval c=.bool b:=by kernel_rfl):(Code.cond c x y).wp P Q a w:=wp_cond_split hc ht hf
theorem PF {x y:Int} (h:y<=x):decide (x<y)=false:=decide_eq_false (by omega)
theorem neF {x y:Int} (h:x=y):(x !=y)=false:=by simpa using h
theorem AV {x y:Int} (h:decide (x<y)=true):x<y:=of_decide_eq_true h
theorem AW {x y:Int} (h:decide (x<y)=false):y<=x:=by have:=of_decide_eq_false h;omega
theorem YF {x y:Int} (h:decide (x<=y)=true):x<=y:=of_decide_eq_true h
theorem YG {x y:Int} (h:decide (x<=y)=false):y<x:=by have:=of_decide_eq_false h;omega
theorem PG {x y:Int} (h:(x !=y)=true):¬x=y:=by simpa using h
theorem PH {x y:Int} (h:(x !=y)=false):x=y:=by simpa using h
theorem PI {b:Bool} (h:(!b)=true):b=false:=by simpa using h
theorem PJ {b:Bool} (h:(!b)=false):b=true:=by simpa using h
end
def Dk (P:aL) (t:aJ) (cs:Array ae) (off:Nat):Option ae:=
 match(P.underlying t).map jy,(P.info? t).map (·.size)with
 |some true,some n=>some (.agg (cs.extract off (off+n)))
 |some false,some _=>cs[off]?
 |_,_=>none
theorem Ko {P:aL} {t:aJ} {cs:Array ae} {off:Nat} {v:ae} (h:Dk P t cs off=some v) (w:ag):(part t cs off).run P w=.ok v w:=by
 unfold Dk at h;split at h
 ·rename_i n h1 h2;obtain rfl:_=v:=by simpa using h
  cases hq:P.info? t with
  |none=>simp[hq]at h2
  |some i=>
   have hs:i.size=n:=by simpa[hq]using h2
   unfold part;simp[bE,AU h1,pE,typeInfo,hq,hs]
 ·rename_i n h1 h2;unfold part;simp[bE,AU h1,h]
 ·simp at h
def Dl (P:aL) (g:aJ->ae->ae->Option Bool) (xs ys:Array ae):List Field->Option Bool
 |[]=>some true
 |f::fs=>
  match decide (f.name≠ "_")with
  |false=>Dl P g xs ys fs
  |true=>match Dk P f.type xs f.offset,Dk P f.type ys f.offset with
   |some a,some b=>match g f.type a b,Dl P g xs ys fs with
    |some r,some q=>some (r&&q)
    |_,_=>none
   |_,_=>none
def FO (P:aL) (g:aJ->ae->ae->Option Bool) (e:aJ) (c:Nat) (xs ys:Array ae):List Nat->Option Bool
 |[]=>some true
 |i::is=>
  match Dk P e xs (i*c),Dk P e ys (i*c)with
  |some a,some b=>match g e a b,FO P g e c xs ys is with
   |some r,some q=>some (r&&q)
   |_,_=>none
  |_,_=>none
def yC (P:aL):Nat->aJ->ae->ae->Option Bool
 |0,_,_,_=>none
 |d+1,t,x,y=>
  match P.underlying t,x,y with
  |some .bool,.bool a,.bool b=>some (a==b)
  |some (.int _),.int k a,.int k' b=>match decide (k=k')with|true=>some (a==b)|false=>none
  |some (.struct _),.agg xs,.agg ys=>match P.stoodInHeld t with|true=>none|false=>Dl P (yC P d) xs ys (P.fieldsOf t).toList
  |some (.array n e),.agg xs,.agg ys=>match P.info? e with|some _=>FO P (yC P d) e (P.cellsOf e) xs ys (bw n)|none=>none
  |_,_,_=>none
section
variable{P:aL}
theorem PK {d:Nat} {g:aJ->ae->ae->Option Bool} (hg:∀t x y r,g t x y=some r->∀w,(Op.equalIn d t x y).run P w=.ok r w) (xs ys:Array ae):
 ∀(fs:List Field) (r:Bool),Dl P g xs ys fs=some r->∀w,(Op.eqFields d xs ys fs).run P w=.ok r w
 |[],r,h,w=>by obtain rfl:true=r:=by simpa[Dl]using h
               rfl
 |f::fs,r,h,w=>by
  unfold Dl at h;unfold Op.eqFields;split at h
  ·rename_i hn;have ta:¬f.name≠ "_" :=of_decide_eq_false hn;rw[if_neg ta];exact PK hg xs ys fs r h w
  ·rename_i hn;have ta:f.name≠ "_" :=of_decide_eq_true hn;rw[if_pos ta];split at h
   ·rename_i a b ha hb;split at h
    ·rename_i r1 q h1 h2;obtain rfl:(r1&&q)=r:=by simpa using h
     simp only[bE,Ko ha,Ko hb,cK,hg _ _ _ _ h1];cases r1
     ·simp
     ·simp[PK hg xs ys fs q h2]
    ·simp at h
   ·simp at h
theorem YH {d:Nat} {g:aJ->ae->ae->Option Bool} (hg:∀t x y r,g t x y=some r->∀w,(Op.equalIn d t x y).run P w=.ok r w) (e c:Nat) (xs ys:Array ae):
 ∀(is:List Nat) (r:Bool),FO P g e c xs ys is=some r->∀w,(Op.eqItems d e c xs ys is).run P w=.ok r w
 |[],r,h,w=>by obtain rfl:true=r:=by simpa[FO]using h
               rfl
 |i::is,r,h,w=>by
  unfold FO at h;unfold Op.eqItems;split at h
  ·rename_i a b ha hb;split at h
   ·rename_i r1 q h1 h2;obtain rfl:(r1&&q)=r:=by simpa using h
    simp only[bE,Ko ha,Ko hb,cK,hg _ _ _ _ h1];cases r1
    ·simp
    ·simp[YH hg e c xs ys is q h2]
   ·simp at h
  ·simp at h
theorem Kq:∀(d:Nat) (t:aJ) (x y:ae) (r:Bool),yC P d t x y=some r->∀w,(Op.equalIn d t x y).run P w=.ok r w
 |0,_,_,_,_,h,_=>by simp[yC]at h
 |d+1,t,x,y,r,h,w=>by
  unfold yC at h;split at h
  ·rename_i a b hu;obtain rfl:(a==b)=r:=by simpa using h
   exact run_equalIn_bool' w d t a b hu
  ·rename_i k0 k a k' b hu;split at h
   ·rename_i hk;obtain rfl:k=k':=of_decide_eq_true hk;obtain rfl:(a==b)=r:=by simpa using h
    exact run_equalIn_int w d t k k0 a b hu
   ·simp at h
  ·rename_i fs xs ys hu;split at h
   ·simp at h
   ·rename_i hp;have hf:P.underlying t=some (.struct (P.fieldsOf t)):=by simp[Program.fieldsOf,hu]
    rw[run_equalIn_struct w d t xs ys hf hp];exact PK (Kq d) xs ys _ r h w
  ·rename_i n e xs ys hu;split at h
   ·rename_i i hi;rw[run_equalIn_array w d xs ys hu hi];exact YH (Kq d) e _ xs ys _ r h w
   ·simp at h
  ·simp at h
variable{ops:Array ax} {rest:List ax} {o:ax} {a:Act} {w:ag} {Q:eE->Act->ag->Prop}
theorem agS {ρ:bh->ae} {t yt:aJ} {x y:bh} {xs ys:Array ae} {r:Bool} (neg:Bool) (ho:o.op=.binOp (bif neg then .neq else .eql) t x y yt) (hx:ρ x=.agg xs) (hy:ρ y=.agg ys) (hg:P.eqGuardType P.depth t=false) (he:yC P 10000 t (.agg xs) (.agg ys)=some r):
 (execOp ρ o).run P w=.ok (.value (.bool (bif neg then !r else r))) w:=by
 have h:=Kq 10000 t (.agg xs) (.agg ys) r he w;unfold execOp;cases neg<;>simp only[ho,hx,hy,cond_true,cond_false,bE,run_eqGuard_agg _ _ t x y xs ys hg,cK,run_eql_struct,run_neq_struct,h,du]
end
theorem PL {a b:Nat} (h:a<=b):(2:Int)^a<=2^b:=by
 have:=Nat.pow_le_pow_right (n:=2) (by omega) h;have h1:((2^a:Nat):Int)=(2:Int)^a:=by simp
 have h2:((2^b:Nat):Int)=(2:Int)^b:=by simp
 omega
theorem agT {a b:Nat} (h:a<=b):(2:Int)^a∣2^b:=by
 obtain⟨c,rfl⟩:=Nat.exists_eq_add_of_le h;exact⟨2^c,Int.pow_add 2 a c⟩
theorem wrap_small (kd:fq) (x:Int) (j:Nat) (h0:0<=x) (h1:x<2^j) (hj:j<kd.bits):kd.wrap x=x:=by
 have h2:((2:Int)^j)<=2^(kd.bits-1):=PL (by omega);have h3:((2:Int)^(kd.bits-1))<=2^kd.bits:=PL (by omega);unfold yr;have h4:x%(2^kd.bits:Int)=x:=J6 h0 (by omega);simp only[h4];rw[if_neg];simp only[bu,decide_eq_true_eq,not_and];intro _;omega
theorem rq (kd:fq) (n m q:Int) (j:Nat) (hm:m=2^j-1) (hq:q=2^j) (hj:j<kd.bits):bits .and kd n m=n%q:=by
 subst hm hq;have hp:(0:Int)<2^j:=Int.pow_pos (by omega);have hle:(2:Int)^j<=2^kd.bits:=PL (by omega);unfold bits;simp only[BitVec.toNat_and];have h1:(oP kd.bits ((2:Int)^j-1)).toNat=2^j-1:=by
  simp only[J7];have h2:((2:Int)^kd.bits)=((2^kd.bits:Nat):Int):=by simp
  rw[<-h2,J6 (by omega) (by omega)];have:((2:Int)^j)=((2^j:Nat):Int):=by simp
  omega
 have h5:(oP kd.bits n).toNat%2^j=(n%2^j).toNat:=by
  simp only[J7];have h2:((2^kd.bits:Nat):Int)=(2:Int)^kd.bits:=by simp
  rw[h2];have h6:(0:Int)<=n%2^kd.bits:=Int.emod_nonneg _ (by have:(0:Int)<2^kd.bits:=Int.pow_pos (by omega)
                                                             omega)
  have h7:(n%2^kd.bits)%2^j=n%2^j:=Int.emod_emod_of_dvd n (agT (by omega));rw[<-h7];have:((2^j:Nat):Int)=(2:Int)^j:=by simp
  rw[<-this];have:=Int.natCast_emod (n%2^kd.bits).toNat (2^j);rw[Int.toNat_of_nonneg h6]at this;omega
 rw[h1,agG,h5];have h0:=Int.emod_nonneg n (by omega:(2:Int)^j≠0);rw[Int.toNat_of_nonneg h0];exact wrap_small kd _ j h0 (Int.emod_lt_of_pos _ hp) hj
theorem yD {a b:Bool} (h:a=false) (k:b=false):(a||b)=false:=by simp[h,k]
theorem YI {P:aL} {f:fL} {args:Array ae} {w:ag} {x:ae} (h:aV P f args w λv w'=>v=x/\Ch [] w w'):Calls P f args w λe w'=>e=.returned x/\Below w.heap.size w w':=by
 refine Calls.mono h ?_;rintro e w' ⟨v,rfl,rfl,hc⟩;exact⟨rfl,hc.below⟩
theorem St.ob {ms:List Nat} {w0 w:ag} {bs:List aj} (S:St ms w0 bs w) (i:Nat) (wr:Bool) (t:aJ) {b:Nat} {cs:Array ae} {fr:Nat×Nat} (h:bs[i]?=some ⟨b,wr,.cells cs t fr⟩:=by kernel_rfl):w.heap[b]?=some (.cells cs t fr):=S.at_ i _ h
theorem St.conv {ms:List Nat} {w0 w:ag} {bs bs':List aj} (S:St ms w0 bs w) (h:bs=bs'):St ms w0 bs' w:=h▸S
def Yields (P:aL) (o:ax) (ρ:bh->ae) (w:ag) (R:ae->ag->Prop):Prop:=
 match(execOp ρ o).run P w with
 |.ok (.value v) w'=>R v w'
 |.ok .skip w'=>R undef w'
 |.ok (.enter f args) w'=>aV P f args w' R
 |_=>False
def v7 (y:Nat->ae):bh->ae
 |.tmp t=>y t
 |.const v=>v
 |.global g=>.pointer (some ⟨g,0,none⟩)
 |.func f=>.func (.func f) #[] #[]
def cP (a:Act):Nat->ae:=λt=>a.tmps.getD t undef
theorem YJ (a:Act):v7 (cP a)=a.eval:=by funext x;cases x<;>rfl
theorem Yields.wp {P:aL} {o:ax} {a:Act} {w:ag} {R:ae->ag->Prop} {K:Act->ag->Prop} {Q:eE->Act->ag->Prop} (h:Yields P o a.eval w R) (hk:∀v w',R v w'->K (a.put o.dst v) w'):o.wp P a w K Q:=by
 unfold Yields at h;unfold oO;generalize (execOp a.eval o).run P w=r at*;cases r with
 |halt x w'=>simp at h
 |ok n w'=>
  cases n<;>simp at h<;>simp only[Oper.upon]
  ·exact hk _ _ h
  ·exact hk _ _ h
  ·refine Calls.mono h ?_;rintro e fY ⟨v,rfl,hv⟩;exact hk _ _ hv
structure Sp where
 k:Nat
 f:List Nat->ae
 bl:List Nat->List (Nat×Obj)
def Sp.holds (s:Sp) (B:Nat) (v:ae) (w:ag):Prop:=∃ids:List Nat,ids.length=s.k/\v=s.f ids/\∀p∈s.bl ids,B<=p.1/\w.heap[p.1]?=some p.2
theorem Sp.holds.FP {s:Sp} {B:Nat} {v:ae} {w w':ag} (h:s.holds B v w) (hc:Ch [] w w'):s.holds B v w':=by
 obtain⟨ids,h1,h2,h3⟩:=h;exact⟨ids,h1,h2,λp hp=>⟨(h3 p hp).1,(hc.block _ (pO (h3 p hp).2) (by simp)).trans (h3 p hp).2⟩⟩
def kX (o:ax) (j:Nat):Bool:=o.after.any λe=>e.on==j&&rf .any e
def nW (l:List ax) (o:ax) (y:Nat->ae):Bool:=
 match o.guard with
 |none=>true
 |some (j,want)=>match(l[j]?).bind (·.dst)with
  |some d=>match y d with
   |.bool b=>b==want
   |_=>false
  |none=>false
theorem YK (l:List ax) (o:ax) (a:Act):gT o (yielded l.toArray a.tmps)=nW l o (cP a):=by
 unfold gT nW;cases hg:o.guard with
 |none=>rfl
 |some p=>
  obtain⟨j,want⟩:=p;simp only[yielded,jQ];cases hd:(l[j]?).bind (·.dst)with
  |none=>simp
  |some d=>
   simp only[Option.bind_some,cP,jR];cases ht:a.tmps[d]?with
   |none=>simp[undef]
   |some v=>cases v<;>simp
def v8 (l:List ax) (i t:Nat):Bool:=l.all λok=>ok.dst !=some t||kX ok i
def v9 (P:aL) (lf l:List ax) (sp:Nat->Sp) (y0:Nat->ae) (w:ag) (i:Nat) (o:ax):Prop:=
 ∀(y:Nat->ae) (w':ag),Ch [] w w'->(∀t,v8 l i t=true->y t=y0 t)->
  (∀j d,kX o j=true->(l[j]?).bind (·.dst)=some d->(sp j).holds w.heap.size (y d) w')->
  (nW lf o y=true->Yields P o (v7 y) w' λv fY=>Ch [] w' fY/\(sp i).holds w.heap.size v fY)/\(nW lf o y=false->(sp i).holds w.heap.size undef w')
def ru (P:aL) (lf l:List ax) (sp:Nat->Sp) (y0:Nat->ae) (w:ag):Nat->List ax->Prop
 |_,[]=>True
 |i,o::rest=>v9 P lf l sp y0 w i o/\ru P lf l sp y0 w (i+1) rest
theorem ru.get {P:aL} {lf l:List ax} {sp:Nat->Sp} {y0:Nat->ae} {w:ag}:∀{k:Nat} {m:List ax},ru P lf l sp y0 w k m->∀(i:Nat) o,m[i]?=some o->v9 P lf l sp y0 w (k+i) o
 |_,[],_,i,o,h=>by simp at h
 |k,x::rest,⟨h1,h2⟩,0,o,h=>by obtain rfl:x=o:=by simpa using h
                              exact h1
 |k,x::rest,⟨h1,h2⟩,i+1,o,h=>by
  have:=ru.get h2 i o (by simpa using h)
  rwa [show k+1+i=k+(i+1) by omega]at this
def gy (vs:Nat->ae):Nat->List ax->Act->Act
 |_,[],a=>a
 |i,o::rest,a=>gy vs (i+1) rest (a.put o.dst (vs i))
theorem size_put (a:Act) (d:Option Tmp) (v:ae):(a.put d v).tmps.size=a.tmps.size:=by cases d<;>simp[Act.put]
theorem AX (a:Act) (d:Option Tmp) (v:ae):(a.put d v).defers=a.defers:=by cases d<;>rfl
theorem yE (a:Act) (d:Nat) (v:ae) (t:Nat) (hd:d<a.tmps.size):cP (a.put (some d) v) t=if t=d then v else cP a t:=by
 simp only[cP,Act.put,jR,q_];by_cases h:d=t
 ·subst h;simp[hd]
 ·rw[if_neg h,if_neg (λe=>h e.symm)]
theorem PM {a b:Act} (hs:a.tmps.size=b.tmps.size) (hd:a.defers=b.defers) (h:∀t,cP a t=cP b t):a=b:=by
 obtain⟨x,ds⟩:=a;obtain⟨y,es⟩:=b;simp only at hd hs;subst hd;congr 1;apply Array.ext hs;intro i h1 h2;have:=h i;simpa[cP,h1,h2]using this
def FQ:List (Option Nat)->Bool
 |[]=>true
 |x::xs=>!(xs.any (·==x))&&FQ xs
def FR (n:Nat) (l:List ax):Bool:=l.all (λo=>match o.dst with|some d=>cD d n|none=>false)&&FQ (l.map (·.dst))
theorem PN:∀{l:List (Option Nat)},FQ l=true->l.Nodup
 |[],_=>List.nodup_nil
 |x::xs,h=>by
  simp only[FQ,bu,my]at h;refine ri.2 ⟨?_,PN h.2⟩;intro hm;have:=h.1;simp only[List.any_eq_false]at this;exact this x hm (by simp)
def oS:Nat->List ax->Bool
 |_,[]=>true
 |i,o::rest=>(o.after.all λe=>!rf .any e||cD e.on i)&&oS (i+1) rest
theorem uC:∀{k:Nat} {l:List ax},oS k l=true->∀(i:Nat) o,l[i]?=some o->∀e∈o.after,rf .any e=true->e.on<k+i
 |_,[],_,i,o,h,_,_,_=>by simp at h
 |k,x::rest,hh,0,o,h,e,he,hb=>by
  obtain rfl:x=o:=by simpa using h
  simp only[oS,bu,J8]at hh;have:=hh.1 e he;simp only[hb,Bool.not_true,Bool.false_or]at this;simpa[iG]using this
 |k,x::rest,hh,i+1,o,h,e,he,hb=>by
  simp only[oS,bu]at hh;have:=uC hh.2 i o (by simpa using h) e he hb;omega
theorem lT {L:Array Bool} {n i:Nat} (h:L.size=n) (hi:i<n):L[i]?=some true\/L[i]?=some false:=by
 have h1:i<L.size:=by omega
 rw[J9 h1];cases L[i]<;>simp
theorem count_set:∀(L:List Bool) (i:Nat),L[i]?=some false->(L.set i true).count false+1=L.count false
 |[],i,h=>by simp at h
 |x::xs,0,h=>by obtain rfl:x=false:=by simpa using h
                simp
 |x::xs,i+1,h=>by
  have:=count_set xs i (by simpa using h);cases x<;>simp[List.set_cons_succ]<;>omega
theorem Kr:∀(L:List Bool) (n m:Nat),L.length=n+m->(∀j,j<n->L[j]?=some true)->L.count false<=m
 |L,0,m,h,_=>by have:=List.count_le_length (a:=false) (l:=L);omega
 |[],n+1,m,h,_=>by simp at h;omega
 |x::xs,n+1,m,h,ht=>by
  obtain rfl:x=true:=by simpa using ht 0 (by omega)
  have:=Kr xs n m (by simp at h;omega) (λj hj=>by simpa using ht (j+1) (by omega));simpa using this
theorem count_tail:∀(L:List Bool) (n m:Nat),L.length=n+m->(∀j,n<=j->j<n+m->L[j]?=some false)->m<=L.count false
 |[],n,m,h,_=>by simp at h;omega
 |x::xs,0,m,h,ht=>by
  obtain rfl:x=false:=by simpa using ht 0 (by omega) (by simp at h;omega)
  have:=count_tail xs 0 (m-1) (by simp at h;omega) (λj h1 h2=>by simpa using ht (j+1) (by omega) (by omega));simp at h⊢;omega
 |x::xs,n+1,m,h,ht=>by
  have:=count_tail xs n m (by simp at h;omega) (λj h1 h2=>by simpa using ht (j+1) (by omega) (by omega));cases x<;>simp<;>omega
theorem PO:∀(L:List Bool) (n m:Nat),L.length=n+m->(∀j,n<=j->j<n+m->L[j]?=some false)->∀i,i<n->L[i]?=some false->m+1<=L.count false
 |[],n,m,h,_,i,hi,_=>by simp at h;omega
 |x::xs,n+1,m,h,ht,i,hi,hx=>by
  have gn:m<=xs.count false:=by
   have:=count_tail xs n m (by simp at h;omega) (λj h1 h2=>by simpa using ht (j+1) (by omega) (by omega));exact this
  cases i with
  |zero=>obtain rfl:x=false:=by simpa using hx
         simp;omega
  |succ i=>
   have:=PO xs n m (by simp at h;omega) (λj h1 h2=>by simpa using ht (j+1) (by omega) (by omega)) i (by omega) (by simpa using hx);cases x<;>simp<;>omega
 |x::xs,0,m,h,ht,i,hi,hx=>by omega
section
variable{P:aL} {l:List ax} {sp:Nat->Sp} {a0:Act} {w0:ag} {Q:eE->Act->ag->Prop}
structure PQ (l:List ax) (n2:Nat) (sp:Nat->Sp) (a0:Act) (w0:ag) (vs:Nat->ae) (listed:Array Bool) (a:Act) (w:ag):Prop where
 ls:listed.size=l.length+n2
 off:∀i,l.length<=i->i<l.length+n2->listed[i]?=some false
 size:a.tmps.size=a0.tmps.size
 defers:a.defers=a0.defers
 ch:Ch [] w0 w
 done:∀(i:Nat) (o:ax) (d:Nat),l[i]?=some o->o.dst=some d->listed[i]?=some true->cP a d=vs i/\(sp i).holds w0.heap.size (vs i) w
 rest:∀(t:Nat),(∀(i:Nat) (o:ax),l[i]?=some o->o.dst=some t->listed[i]?=some false)->cP a t=cP a0 t
 back:∀(i:Nat) (o:ax),l[i]?=some o->listed[i]?=some true->∀j,kX o j=true->listed[j]?=some true
def Dm (l:List ax):List Nat->Bool
 |k::j::rest=>(match l[k]?with|some o=>kX o j|none=>false)&&Dm l (j::rest)
 |_=>true
def rv (l:List ax) (m:Nat) (paths:List (List Nat)):Bool:=
 (paths.all λp=>Dm l p)&&(bw l.length).all λk=>cD k m||(bw k).all λi=>paths.any λp=>p.head?==some k&&p.getLast?==some i&&cD 1 p.length
theorem FT {l:List ax} {listed:Array Bool} (back:∀(i:Nat) (o:ax),l[i]?=some o->listed[i]?=some true->∀j,kX o j=true->listed[j]?=some true):
 ∀(p:List Nat) (k i:Nat),Dm l p=true->p.head?=some k->p.getLast?=some i->1<p.length->(∀o,l[k]?=some o->∀j,kX o j=true->listed[j]?=some true)->listed[i]?=some true
 |[],_,_,_,h,_,_,_=>by simp at h
 |[x],_,_,_,_,_,h,_=>by simp at h
 |x::y::rest,k,i,hp,hh,hl,_,hk=>by
  obtain rfl:x=k:=by simpa using hh
  simp only[Dm,bu]at hp;cases ho:l[x]?with
  |none=>simp[ho]at hp
  |some o=>
   have hy:=hk o ho y (by simpa[ho]using hp.1);cases rest with
   |nil=>obtain rfl:y=i:=by simpa using hl
         exact hy
   |cons z rest=>exact FT back (y::z::rest) y i hp.2 rfl (by simpa using hl) (by simp) (λoy hoy j hj=>back y oy hoy hy j hj)
theorem YL (vs:Nat->ae):∀(m:List ax) (k:Nat) (a:Act),(∀o∈m,∃d,o.dst=some d/\d<a.tmps.size)->(m.map (·.dst)).Nodup->
 (gy vs k m a).tmps.size=a.tmps.size/\(gy vs k m a).defers=a.defers/\(∀t,(∀o∈m,o.dst≠some t)->cP (gy vs k m a) t=cP a t)/\∀i o d,m[i]?=some o->o.dst=some d->cP (gy vs k m a) d=vs (k+i)
 |[],k,a,_,_=>⟨rfl,rfl,λ_ _=>rfl,λi o d h=>by simp at h⟩
 |x::rest,k,a,hd,hn=>by
  obtain⟨dx,hx,dL⟩:=hd x (by simp);simp only[eF,ri]at hn;obtain⟨h1,h2,h3,h4⟩:=YL vs rest (k+1) (a.put x.dst (vs k)) (λo ho=>by
   obtain⟨d,e,h⟩:=hd o (by simp[ho]);exact⟨d,e,by rw[size_put];exact h⟩) hn.2
  refine⟨by simp only[gy];rw[h1,size_put],by simp only[gy];rw[h2,AX],?_,?_⟩
  ·intro t ht;simp only[gy];rw[h3 t (λo ho=>ht o (by simp[ho])),hx,yE _ _ _ _ dL,if_neg];intro e;subst e;exact ht x (by simp) hx
  ·intro i o d hi ho;cases i with
   |zero=>
    obtain rfl:x=o:=by simpa using hi
    simp only[gy];obtain rfl:dx=d:=by rw[hx]at ho;simpa using ho
    rw[h3 dx (λo' kB e=>hn.1 (by rw[hx,<-e];exact List.mem_map_of_mem (f:=λx=>x.dst) kB)),hx,yE _ _ _ _ dL,if_pos rfl];rfl
   |succ i=>
    simp only[gy];rw[h4 i o d (by simpa using hi) ho];congr 1;omega
theorem FU {o:ax} {j:Nat}:kX o j=true↔∃e∈o.after,e.on=j/\rf .any e=true:=by
 unfold kX;rw[<-Array.any_toList,AD];constructor
 ·rintro⟨e,he,hj⟩;simp only[bu,beq_iff_eq]at hj;exact⟨e,Array.mem_toList_iff.1 he,hj.1,hj.2⟩
 ·rintro⟨e,he,h1,h2⟩;exact⟨e,Array.mem_toList_iff.2 he,by simp[h1,h2]⟩
theorem PR {l:List ax} {m:Nat} {paths:List (List Nat)} (h:rv l m paths=true) (k:Nat) (hk:k<l.length) (hm:m<=k) (i:Nat) (hi:i<k):
 ∃p,Dm l p=true/\p.head?=some k/\p.getLast?=some i/\1<p.length:=by
 simp only[rv,bu,gm,List.mem_range,Da,AD]at h;obtain⟨h1,h2⟩:=h;rcases h2 k hk with h3|h3
 ·simp[iG]at h3;omega
 ·obtain⟨p,hp,h4⟩:=h3 i hi;simp only[beq_iff_eq,iG]at h4;exact⟨p,h1 p hp,h4.1.1,h4.1.2,h4.2⟩
theorem lU (m:List ax) (listed:Array Bool) (i:Nat):i∈rj .any m.toArray listed↔∃o,m[i]?=some o/\listed.getD i true=false/\∀e∈o.after,rf .any e=true->listed.getD e.on false=true:=by
 simp only[rj,AE,List.mem_range,List.size_toArray,jQ,bu,my];constructor
 ·rintro⟨h1,h2,h3⟩;have hi:m[i]?=some m[i]:=by simp
  refine⟨m[i],hi,h2,?_⟩;rw[hi]at h3;simp only[mz,Yi,J8,Da,my]at h3;intro e he hb;rcases h3 e he with h|h
  ·rw[hb]at h;cases h
  ·exact h
 ·rintro⟨o,ho,h2,h3⟩;refine⟨by rcases cZ i m.length with h|h;exact h;simp[h]at ho,h2,?_⟩;rw[ho];simp only[mz,Yi,J8,Da,my];intro e he;cases hb:rf .any e with
  |false=>exact Or.inl rfl
  |true=>exact Or.inr (h3 e he hb)
theorem YM (l2:List ax) (gz:oS 0 (l++l2)=true) (paths:List (List Nat)) (ht:rv (l++l2) l.length paths=true):
 ∀(r:List ax) (k:Nat),l2.drop k=r->∀(listed:Array Bool) (a:Act) (w:ag),listed.size=l.length+l2.length->(∀i,i<l.length+k->listed[i]?=some true)->(∀i,l.length+k<=i->i<l.length+l2.length->listed[i]?=some false)->
  wpList P (l++l2).toArray Q r a w->wpAny P .any (l++l2).toArray Q r.length listed a w:=by
 intro r;induction r with
 |nil=>
  intro k hk listed a w dM h1 h2 h;have yy:l2.length<=k:=by simpa using hk
  refine⟨?_,h⟩;refine List.eq_nil_iff_forall_not_mem.2 λi hi=>?_;obtain⟨o,ho,hf,_⟩:=(lU _ listed i).1 hi;have hi:i<(l++l2).length:=by rcases cZ i (l++l2).length with h|h;exact h;simp[jc h]at ho
  have:=h1 i (by simp at hi;omega);simp[jR,this]at hf
 |cons o rest ih=>
  intro k hk listed a w dM h1 h2 h;have yy:k<l2.length:=by rcases cZ k l2.length with h|h;exact h;simp[List.drop_eq_nil_of_le h]at hk
  have hok:l2[k]?=some o:=by rw[<-List.head?_drop,hk];rfl
  have aP:(l++l2)[l.length+k]?=some o:=by rw[AF (by omega)];simpa using hok
  refine⟨λhr=>?_,?_⟩
  ·exfalso;have:l.length+k∈rj .any (l++l2).toArray listed:=(lU _ listed _).2 ⟨o,aP,by simp[jR,h2 (l.length+k) (by omega) (by omega)],λe he hb=>by
    have:=uC gz _ o aP e he hb;simp[jR,h1 e.on (by omega)]⟩
   rw[hr]at this;simp at this
  ·intro i hi;obtain⟨oi,pS,hf,gA⟩:=(lU _ listed i).1 hi;have iJ:i<(l++l2).length:=by rcases cZ i (l++l2).length with h|h;exact h;simp[jc h]at pS
   have eG:l.length+k<=i:=by
    rcases cZ i (l.length+k)with h|h
    ·simp[jR,h1 i h]at hf
    ·exact h
   have heq:i=l.length+k:=by
    rcases cZ (l.length+k) i with dL|hle
    ·exfalso;have hb:∀(x:Nat) (o':ax),(l++l2)[x]?=some o'->listed[x]?=some true->∀j,kX o' j=true->listed[j]?=some true:=by
      intro x o' hx ry j hj;obtain⟨e,he,rfl,hbd⟩:=FU.1 hj;have h3:=uC gz x o' hx e he hbd;refine h1 e.on ?_;rcases cZ x (l.length+k)with h|h
      ·omega
      ·have wa:x<(l++l2).length:=by rcases cZ x (l++l2).length with h'|h';exact h';simp[jc h']at hx
       have:=h2 x h (by simpa using wa);rw[ry]at this;simp at this
     obtain⟨p,q1,q2,q3,q4⟩:=PR ht i (by simpa using iJ) (by omega) (l.length+k) dL;have:=FT hb p i (l.length+k) q1 q2 q3 q4 (λo' kB j hj=>by
      obtain rfl:oi=o':=by rw[pS]at kB;simpa using kB
      obtain⟨e,he,rfl,hbd⟩:=FU.1 hj;have h3:=gA e he hbd;have h4:=uC gz i oi pS e he hbd;rcases lT dM (show e.on<l.length+l2.length by simp at iJ;omega)with hx|hx
      ·exact hx
      ·simp[jR,hx]at h3)
     rw[h2 (l.length+k) (by omega) (by omega)]at this;simp at this
    ·omega
   subst heq;obtain rfl:o=oi:=by rw[aP]at pS;simpa using pS
   have next:∀a' w',wpList P (l++l2).toArray Q rest a' w'->wpAny P .any (l++l2).toArray Q rest.length (listed.setIfInBounds (l.length+k) true) a' w':=by
    intro a' w' h';refine ih (k+1) (by rw[<-List.drop_drop,hk];rfl) _ a' w' (by simpa using dM) ?_ ?_ h'
    ·intro j hj;rw[q_];split
     ·rename_i e;subst e;rw[if_pos (by omega)]
     ·exact h1 j (by omega)
    ·intro j hj wb;rw[q_,if_neg (by omega)];exact h2 j (by omega) wb
   unfold wpList at h;unfold wpOp;simp only[jQ,aP];split at h
   ·rename_i hw;rw[if_pos hw];exact h.imp (Oper.wp_mono λa' w'=>next a' w') id
   ·rename_i hw;rw[if_neg hw];exact next _ _ h
theorem FV (l2:List ax) (paths:List (List Nat)) (ht:rv (l++l2) l.length paths=true) (kC:FR a0.tmps.size l=true) (gz:oS 0 (l++l2)=true) (hs:ru P (l++l2) l sp (cP a0) w0 0 l)
 (hq:∀(vs:Nat->ae) w',Ch [] w0 w'->(∀i o,l[i]?=some o->(sp i).holds w0.heap.size (vs i) w')->wpList P (l++l2).toArray Q l2 (gy vs 0 l a0) w'):
 ∀(fuel:Nat) (vs:Nat->ae) (listed:Array Bool) (a:Act) (w:ag),PQ l l2.length sp a0 w0 vs listed a w->listed.toList.count false=fuel+l2.length->wpAny P .any (l++l2).toArray Q (fuel+l2.length) listed a w:=by
 have inl:∀{i:Nat} {o:ax},(l++l2)[i]?=some o->i<l.length->l[i]?=some o:=λh hi=>by rwa [iq hi]at h
 have inr:∀{i:Nat} {o:ax},l[i]?=some o->(l++l2)[i]?=some o:=λ{i o} h=>by rwa [iq (by rcases cZ i l.length with h'|h';exact h';simp[h']at h)]
 simp only[FR,bu,gm]at kC;have hd:∀o∈l,∃d,o.dst=some d/\d<a0.tmps.size:=by
  intro o ho;have:=kC.1 o ho;cases hx:o.dst with
  |none=>simp[hx]at this
  |some d=>exact⟨d,rfl,by simpa[hx,iG]using this⟩
 have hn:=PN kC.2;have uniq:∀(i j:Nat) o p d,l[i]?=some o->l[j]?=some p->o.dst=some d->p.dst=some d->i=j:=by
  intro i j o p d hi hj ho hp;have iJ:i<(l.map (·.dst)).length:=by simp;rcases cZ i l.length with h|h;exact h;simp[h]at hi
  refine(List.getElem?_inj iJ hn).1 ?_;simp[hi,hj,ho,hp]
 have fin:∀vs listed a w,PQ l l2.length sp a0 w0 vs listed a w->(∀i,i<l.length->listed[i]?=some true)->wpAny P .any (l++l2).toArray Q l2.length listed a w:=by
  intro vs listed a w I dw;obtain⟨h1,h2,h3,h4⟩:=YL vs l 0 a0 hd hn;have:a=gy vs 0 l a0:=by
   refine PM (by rw[I.size,h1]) (by rw[I.defers,h2]) ?_;intro t;by_cases ht:∃(i:Nat) (o:ax),l[i]?=some o/\o.dst=some t
   ·obtain⟨i,o,hi,ho⟩:=ht;rw[h4 i o t hi ho,eY];exact(I.done i o t hi ho (dw i (by rcases cZ i l.length with h|h;exact h;simp[h]at hi))).1
   ·rw[h3 t (λo ho e=>ht (by obtain⟨i,hi⟩:=AG ho;exact⟨i,o,hi,e⟩))];exact I.rest t (λi o hi ho=>absurd ⟨i,o,hi,ho⟩ ht)
  rw[this];refine YM l2 gz paths ht l2 0 rfl listed _ w I.ls (λi hi=>dw i (by omega)) (λi h1 h2=>I.off i (by omega) h2) ?_;exact hq vs w I.ch λi o hi=>by
   obtain⟨d,ho,_⟩:=hd o (pF hi);exact(I.done i o d hi ho (dw i (by rcases cZ i l.length with h|h;exact h;simp[h]at hi))).2
 have tl:∀vs listed a w,PQ l l2.length sp a0 w0 vs listed a w->∀i,i∈rj .any (l++l2).toArray listed->l.length<=i->∀j,j<l.length->listed[j]?=some true:=by
  intro vs listed a w I i hi eG j hj;obtain⟨oi,pS,hf,gA⟩:=(lU _ listed i).1 hi;have iJ:i<(l++l2).length:=by rcases cZ i (l++l2).length with h|h;exact h;simp[jc h]at pS
  obtain⟨p,q1,q2,q3,q4⟩:=PR ht i iJ eG j (by omega);refine FT (l:=l++l2) ?_ p i j q1 q2 q3 q4 ?_
  ·intro x o hx ry k hk;rcases cZ x l.length with h|h
   ·exact I.back x o (inl hx h) ry k hk
   ·have wa:x<(l++l2).length:=by rcases cZ x (l++l2).length with h'|h';exact h';simp[jc h']at hx
    have:=I.off x h (by simpa using wa);rw[ry]at this;simp at this
  ·intro o ho k hk;obtain rfl:oi=o:=by rw[pS]at ho;simpa using ho
   obtain⟨e,he,rfl,hbd⟩:=FU.1 hk;have h3:=gA e he hbd;have h4:=uC gz i oi pS e he hbd;rcases lT I.ls (show e.on<l.length+l2.length by simp at iJ;omega)with hx|hx
   ·exact hx
   ·simp[jR,hx]at h3
 intro fuel;induction fuel with
 |zero=>
  intro vs listed a w I hc;have dw:∀i,i<l.length->listed[i]?=some true:=by
   intro i hi;rcases lT I.ls (show i<l.length+l2.length by omega)with hb|hb
   ·exact hb
   ·exfalso;have h4:=PO listed.toList l.length l2.length (by simpa using I.ls) (λj h1 h2=>by simpa using I.off j h1 h2) i hi (by simpa using hb);omega
  rw[eY];exact fin vs listed a w I dw
 |succ fuel ih=>
  intro vs listed a w I hc;by_cases AY:∀i,i<l.length->listed[i]?=some true
  ·exfalso;have:=Kr listed.toList l.length l2.length (by simpa using I.ls) (λj h1=>by simpa using AY j h1);omega
  rw[show fuel+1+l2.length=(fuel+l2.length)+1 by omega];refine⟨λhr=>?_,?_⟩
  ·
   exfalso;refine AY ?_;intro i;induction i using Nat.strongRecOn with
   |_ i PS=>
    intro hi;rcases lT I.ls (show i<l.length+l2.length by omega)with hb|hb
    ·exact hb
    ·exfalso;have:i∈rj .any (l++l2).toArray listed:=(lU _ listed i).2 ⟨l[i],inr (by simp),by simp[jR,hb],λe he PT=>by
      have dL:=uC gz i l[i] (inr (by simp)) e he PT;have:=PS e.on (by omega) (by omega);simp[jR,this]⟩
     rw[hr]at this;simp at this
  ·intro i hi;have iJ:i<l.length:=by
    rcases cZ i l.length with h|h
    ·exact h
    ·exact absurd (tl vs listed a w I i hi h) AY
   obtain⟨o,mB,h2,h3⟩:=(lU _ listed i).1 hi;have ho:=inl mB iJ;have td:listed[i]?=some false:=by
    rcases lT I.ls (show i<l.length+l2.length by omega)with hb|hb
    ·simp[jR,hb]at h2
    ·exact hb
   obtain⟨d,Dn,PU⟩:=hd o (pF ho);have gA:∀j,kX o j=true->listed[j]?=some true:=by
    intro j hj;unfold kX at hj;rw[<-Array.any_toList,AD]at hj;obtain⟨e,he,hj⟩:=hj;simp only[bu,beq_iff_eq]at hj;obtain⟨rfl,hb⟩:=hj;have he:=Array.mem_toList_iff.1 he;have h4:=h3 e he hb;have dL:=uC gz i o mB e he hb;rcases lT I.ls (show e.on<l.length+l2.length by omega)with hb|hb
    ·exact hb
    ·simp[jR,hb]at h4
   have step:=(ru.get hs i o ho) (cP a) w I.ch (λt ht=>by
    refine I.rest t λk ok hk hok=>?_;rw[v8,gm]at ht;have:=ht ok (pF hk);simp only[hok,bne_self_eq_false,Bool.false_or]at this;have yy:k<l.length:=by rcases cZ k l.length with h|h;exact h;simp[h]at hk
    rcases lT I.ls (show k<l.length+l2.length by omega)with hb|hb
    ·have:=I.back k ok hk hb i (by simpa using this);rw[td]at this;simp at this
    ·exact hb)
    (λj dj hj nX=>by
     cases eH:l[j]?with
     |none=>simp[eH]at nX
     |some oj=>
      have:=I.done j oj dj eH (by simpa[eH]using nX) (gA j hj);rw[this.1];exact this.2)
   rw[eY]at step;have next:∀v w',Ch [] w w'->(sp i).holds w0.heap.size v w'->wpAny P .any (l++l2).toArray Q (fuel+l2.length) (listed.setIfInBounds i true) (a.put o.dst v) w':=by
    intro v w' uD hv;refine ih (λj=>if j=i then v else vs j) _ _ _ ?_ ?_
    ·have gl:∀j b,(listed.setIfInBounds i true)[j]?=some b->(j=i/\b=true)\/(j≠i/\listed[j]?=some b):=by
      intro j b hj;rw[q_]at hj;by_cases h:i=j
      ·subst h;have:i<l.length+l2.length:=by omega
       simp[I.ls,this]at hj;exact Or.inl ⟨rfl,hj⟩
      ·rw[if_neg h]at hj;exact Or.inr ⟨λe=>h e.symm,hj⟩
     have yp:∀t,cP (a.put o.dst v) t=if t=d then v else cP a t:=λt=>by rw[Dn];exact yE _ _ _ _ (by rw[I.size];exact PU)
     refine⟨by simp[I.ls],λj h1 h2=>by
      rw[q_,if_neg (by omega)];exact I.off j h1 h2,by rw[size_put,I.size],by rw[AX,I.defers],I.ch.trans uD (by simp),?_,?_,?_⟩
     ·intro j oj dj hj nX eH;rcases gl j true eH with⟨rfl,_⟩|⟨cE,eH⟩
      ·obtain rfl:o=oj:=by rw[ho]at hj;simpa using hj
       obtain rfl:d=dj:=by rw[Dn]at nX;simpa using nX
       rw[yp];simp;exact hv
      ·have:=I.done j oj dj hj nX eH;rw[yp,if_neg (λ(e:dj=d)=>cE (uniq j i oj o d hj ho (e▸nX) Dn)),if_neg cE];exact⟨this.1,this.2.FP uD⟩
     ·intro t ht;rw[yp,if_neg]
      ·refine I.rest t λk ok hk hok=>?_;have:=ht k ok hk hok;rcases gl k false this with⟨_,h⟩|⟨_,h⟩
       ·cases h
       ·exact h
      ·rintro rfl;have:=ht i o ho Dn;rcases gl i false this with⟨_,h⟩|⟨h,_⟩
       ·cases h
       ·exact h rfl
     ·intro k ok hk lV j hj;have hb:listed[j]?=some true:=by
       rcases gl k true lV with⟨rfl,_⟩|⟨cE,lV⟩
       ·obtain rfl:o=ok:=by rw[ho]at hk;simpa using hk
        exact gA j hj
       ·exact I.back k ok hk lV j hj
      rw[q_];split
      ·rename_i h;subst h;rw[td]at hb;simp at hb
      ·exact hb
    ·have h2:listed[i]?=some false:=td;have agU:=count_set listed.toList i (by simpa using h2);simp only[J_];omega
   unfold wpOp;simp only[jQ,mB];rw[YK];cases hw:nW (l++l2) o (cP a)with
   |true=>
    rw[if_pos rfl];refine Or.inl ?_;have hy:=step.1 hw;rw[YJ]at hy;exact Yields.wp hy λv w' ⟨uD,hv⟩=>next v w' uD hv
   |false=>
    rw[if_neg (by simp)];exact next undef w (Ch.refl _ _) (step.2 hw)
theorem agV {id:Nat} (l l2:List ax) (sp:Nat->Sp) (paths:List (List Nat)) (hm:P.follows .mixedOrders=true) (ht:rv (l++l2) l.length paths=true) (kC:FR a0.tmps.size l=true) (gz:oS 0 (l++l2)=true) (hs:ru P (l++l2) l sp (cP a0) w0 0 l)
 (hq:∀(vs:Nat->ae) w',Ch [] w0 w'->(∀i o,l[i]?=some o->(sp i).holds w0.heap.size (vs i) w')->wpList P (l++l2).toArray Q l2 (gy vs 0 l a0) w'):(Code.region id (l++l2).toArray true).wp P Q a0 w0:=by
 refine wp_region_any hm ?_;have h:=FV l2 paths ht kC gz hs hq l.length (λ_=>undef) (C9 (l++l2).toArray.size false) a0 {w0 with drawn:=w0.drawn+1} ?_ ?_
 ·rw[show(l++l2).toArray.size=l.length+l2.length by simp];rw[show(l++l2).toArray.size=l.length+l2.length by simp]at h;exact h
 ·refine⟨by simp,λi h1 h2=>by simp[AH];omega,rfl,rfl,(Ch.refl _ _).drew,?_,λ_ _=>rfl,?_⟩
  ·intro i o d _ _ h;simp[AH]at h
  ·intro i o _ h;simp[AH]at h
 ·simp[Yj]
end
def rC (l:List Sp):Nat->Sp:=λi=>l.getD i ⟨0,λ_=>undef,λ_=>[]⟩
section
variable{B:Nat} {x:ae} {w:ag} {f:List Nat->ae} {bl:List Nat->List (Nat×Obj)}
theorem Sp.dO (h:(⟨0,f,bl⟩:Sp).holds B x w):x=f []/\∀p∈bl [],B<=p.1/\w.heap[p.1]?=some p.2:=by
 obtain⟨ids,h1,h2,h3⟩:=h;obtain rfl:ids=[]:=by simpa using h1
 exact⟨h2,h3⟩
theorem Sp.wc (h:(⟨1,f,bl⟩:Sp).holds B x w):∃b,x=f [b]/\∀p∈bl [b],B<=p.1/\w.heap[p.1]?=some p.2:=by
 obtain⟨ids,h1,h2,h3⟩:=h
 match ids,h1 with
 |[b],_=>exact⟨b,h2,h3⟩
theorem Sp.YN (h:(⟨2,f,bl⟩:Sp).holds B x w):∃b c,x=f [b,c]/\∀p∈bl [b,c],B<=p.1/\w.heap[p.1]?=some p.2:=by
 obtain⟨ids,h1,h2,h3⟩:=h
 match ids,h1 with
 |[b,c],_=>exact⟨b,c,h2,h3⟩
theorem Sp.YO (h:(⟨3,f,bl⟩:Sp).holds B x w):∃b c d,x=f [b,c,d]/\∀p∈bl [b,c,d],B<=p.1/\w.heap[p.1]?=some p.2:=by
 obtain⟨ids,h1,h2,h3⟩:=h
 match ids,h1 with
 |[b,c,d],_=>exact⟨b,c,d,h2,h3⟩
end
theorem St.ro {ms:List Nat} {w0 w w':ag} {bs:List aj} (S:St ms w0 bs w) (hc:Ch [] w w') (ps:List (Nat×Obj)) (h:∀p∈ps,w.heap.size<=p.1/\w'.heap[p.1]?=some p.2):St ms w0 (ps.map (λp=>⟨p.1,false,p.2⟩)++bs) w':=by
 have hq:=S.quiet hc;have rD:∀(i:Nat) x,(ps.map (λp=>(⟨p.1,false,p.2⟩:aj))++bs)[i]?=some x->(∃p∈ps,x=⟨p.1,false,p.2⟩/\i<ps.length)\/(ps.length<=i/\bs[i-ps.length]?=some x):=by
  intro i x hx;rcases cZ i ps.length with hi|hi
  ·rw[iq (by simpa using hi)]at hx;simp only[jt,im]at hx;obtain⟨p,hp,rfl⟩:=hx;exact Or.inl ⟨p,pF hp,rfl,hi⟩
  ·rw[AF (by simpa using hi)]at hx;exact Or.inr ⟨hi,by simpa using hx⟩
 refine⟨hq.ch,?_,?_,?_⟩
 ·intro i x hx;rcases rD i x hx with⟨p,hp,rfl,_⟩|⟨_,hx⟩
  ·exact(h p hp).2
  ·exact hq.at_ _ x hx
 ·intro i x hx hw;rcases rD i x hx with⟨p,hp,rfl,_⟩|⟨_,hx⟩
  ·cases hw
  ·exact hq.own _ x hx hw
 ·intro i j x y hx hy cE hw;rcases rD i x hx with⟨p,hp,rfl,_⟩|⟨hi,hx⟩
  ·cases hw
  ·rcases rD j y hy with⟨p,hp,rfl,_⟩|⟨hj,hy⟩
   ·have:=S.lt hx;have:=(h p hp).1;simp;omega
   ·exact hq.apart _ _ x y hx hy (by omega) hw
theorem St.loc {ms:List Nat} {w0 w:ag} {bs:List aj} (S:St ms w0 bs w):St [] w (bs.map λx=>⟨x.id,false,x.obj⟩) w:=by
 refine⟨Ch.refl _ _,?_,?_,?_⟩
 ·intro i x hx;simp only[jt,im]at hx;obtain⟨y,hy,rfl⟩:=hx;exact S.at_ i y hy
 ·intro i x hx hw;simp only[jt,im]at hx;obtain⟨y,hy,rfl⟩:=hx;cases hw
 ·intro i j x y hx hy cE hw;simp only[jt,im]at hx;obtain⟨y,hy,rfl⟩:=hx;cases hw
theorem St.we {w0 w:ag} {bs:List aj} (S:St [] w0 bs w) {B:Nat} (hB:B<=w0.heap.size) (i:Nat) {b:Nat} {o:Obj} (hi:bs[i]?=some ⟨b,true,o⟩):B<=b/\w.heap[b]?=some o:=by
 refine⟨?_,S.at_ i _ hi⟩;rcases S.own i _ hi rfl with h|h
 ·simp at h
 ·exact hY hB h
theorem St.YP {w0 w:ag} {bs:List aj} (S:St [] w0 bs w) {B:Nat} (i:Nat) {b:Nat} {o:Obj} (hB:B<=b) (wr:Bool) (hi:bs[i]?=some ⟨b,wr,o⟩):B<=b/\w.heap[b]?=some o:=⟨hB,S.at_ i _ hi⟩
def te:List ae->List ax->Act->Act
 |v::vs,o::rest,a=>te vs rest (a.put o.dst v)
 |_,_,a=>a
def AZ (vs:Nat->ae):Nat->List ae->Prop
 |_,[]=>True
 |i,v::rest=>vs i=v/\AZ vs (i+1) rest
theorem YQ {vs:Nat->ae}:∀{l:List ax} {dV:List ae} {k:Nat} {a:Act},dV.length=l.length->AZ vs k dV->gy vs k l a=te dV l a
 |[],[],_,_,_,_=>rfl
 |o::rest,v::dV,k,a,h,⟨h1,h2⟩=>by
  simp only[gy,te,h1];exact YQ (by simpa using h) h2
 |[],_::_,_,_,h,_=>by simp at h
 |_::_,[],_,_,h,_=>by simp at h
def j8 (env:List (Nat×ae)):bh->ae:=v7 λt=>(env.lookup t).getD undef
def yF (y:Nat->ae):List (Nat×ae)->Prop
 |[]=>True
 |p::rest=>y p.1=p.2/\yF y rest
theorem YR {y:Nat->ae}:∀{env:List (Nat×ae)},yF y env->∀t v,env.lookup t=some v->y t=v
 |[],_,t,v,h=>by simp at h
 |(s,u)::rest,⟨h1,h2⟩,t,v,h=>by
  rw[List.lookup_cons]at h;cases ei:t==s with
  |true=>
   simp[ei]at h;have:t=s:=by simpa using ei
   subst this;subst h;exact h1
  |false=>
   simp[ei]at h;exact YR h2 t v h
def yG (env:List (Nat×ae)) (o:ax):Bool:=o.op.operands.all (λx=>match x with|.tmp t=>(env.lookup t).isSome|_=>true)&&(match o.op with|.select .. =>false|_=>true)
section
variable{P:aL} {o:ax} {w w0:ag} {ms:List Nat} {bs:List aj} {R:ae->ag->Prop} {y:Nat->ae}
theorem mC (env:List (Nat×ae)) (hy:yF y env) (h:Yields P o (j8 env) w R) (nj:yG env o=true:=by kernel_rfl):Yields P o (v7 y) w R:=by
 have:execOp (v7 y) o=execOp (j8 env) o:=by
  simp only[yG,bu]at nj;refine execOp_congr o ?_ ?_
  ·intro cs b agW;rw[agW]at nj;simp at nj
  ·intro x hx;have h1:=J8.1 nj.1 x hx;cases x with
   |tmp t=>
    simp only at h1;cases hl:env.lookup t with
    |none=>simp[hl]at h1
    |some v=>simp[v7,j8,hl,YR hy t v hl]
   |_=>rfl
 unfold Yields at*;rw[this];exact h
theorem agX {A C:Prop} {b:Bool} (hw:b=true) (h:A):(b=true->A)/\(b=false->C):=⟨λ_=>h,λe=>by rw[hw]at e;cases e⟩
end
theorem pT {y:Nat->ae}:yF y []:=trivial
theorem mD {y:Nat->ae} {t:Nat} {v:ae} {env:List (Nat×ae)} (h:y t=v) (k:yF y env):yF y ((t,v)::env):=⟨h,k⟩
theorem Dp {vs:Nat->ae} {i:Nat}:AZ vs i []:=trivial
theorem eB {vs:Nat->ae} {i:Nat} {v:ae} {rest:List ae} (h:vs i=v) (k:AZ vs (i+1) rest):AZ vs i (v::rest):=⟨h,k⟩
theorem all_nil {α:Type} {C:α->Prop}:∀p∈([]:List α),C p:=λp hp=>by cases hp
theorem all_cons {α:Type} {C:α->Prop} {x:α} {xs:List α} (h:C x) (k:∀p∈xs,C p):∀p∈x::xs,C p:=λp hp=>by
 rcases cn.1 hp with rfl|hp
 ·exact h
 ·exact k p hp
theorem Sp.pU {s:Sp} {B:Nat} {v:ae} {w:ag} (ids:List Nat) (h3:∀p∈s.bl ids,B<=p.1/\w.heap[p.1]?=some p.2) (h1:ids.length=s.k:=by kernel_rfl) (h2:v=s.f ids:=by kernel_rfl):s.holds B v w:=⟨ids,h1,h2,h3⟩
theorem A0 {P:aL} {lf l:List ax} {sp:Nat->Sp} {y0:Nat->ae} {w:ag} {i:Nat}:ru P lf l sp y0 w i []:=trivial
theorem step_cons {P:aL} {lf l:List ax} {sp:Nat->Sp} {y0:Nat->ae} {w:ag} {i:Nat} {o:ax} {rest:List ax} (h:v9 P lf l sp y0 w i o) (k:ru P lf l sp y0 w (i+1) rest):ru P lf l sp y0 w i (o::rest):=⟨h,k⟩
theorem pV {A C:Prop} (h:A) {b:Bool} (hw:b=true:=by kernel_rfl):(b=true->A)/\(b=false->C):=agX hw h
theorem St.given {w:ag} (ps:List (Nat×Obj)) (h:∀p∈ps,w.heap[p.1]?=some p.2):St [] w (ps.map λp=>⟨p.1,false,p.2⟩) w:=by
 refine⟨Ch.refl _ _,?_,?_,?_⟩
 ·intro i x hx;simp only[jt,im]at hx;obtain⟨p,hp,rfl⟩:=hx;exact h p (pF hp)
 ·intro i x hx hw;simp only[jt,im]at hx;obtain⟨p,hp,rfl⟩:=hx;cases hw
 ·intro i j x y hx hy cE hw;simp only[jt,im]at hx;obtain⟨p,hp,rfl⟩:=hx;cases hw
theorem A1 {P:aL} {a0:Act} {w0:ag} {Q:eE->Act->ag->Prop} {id:Nat} {L:List ax} (m:Nat) (sp:List Sp) (paths:List (List Nat))
 (hs:ru P L (L.take m) (rC sp) (cP a0) w0 0 (L.take m))
 (hq:∀(vs:Nat->ae) w',Ch [] w0 w'->(∀i,cD i m=true->(rC sp i).holds w0.heap.size (vs i) w')->∃dV:List ae,dV.length=m/\AZ vs 0 dV/\WL P L.toArray Q (L.drop m) (te dV (L.take m) a0) w')
 (hm:P.follows .mixedOrders=true:=by kernel_rfl) (hl:bG m L.length=true:=by kernel_rfl) (ht:rv L m paths=true:=by kernel_rfl) (kC:FR a0.tmps.size (L.take m)=true:=by kernel_rfl) (gz:oS 0 L=true:=by kernel_rfl):(Code.region id L.toArray true).wp P Q a0 w0:=by
 have rF:(L.take m).length=m:=by have:=dJ hl;simp;omega
 have h:=agV (id:=id) (Q:=Q) (P:=P) (a0:=a0) (w0:=w0) (L.take m) (L.drop m) (rC sp) paths hm (by rw[jS,rF];exact ht) kC (by rw[jS];exact gz) (by rw[jS];exact hs) ?_
 ·rwa [jS]at h
 ·intro vs w' hc dw;rw[jS];obtain⟨dV,h1,h2,h3⟩:=hq vs w' hc λi hi=>by
   have je:i<m:=by simpa[iG]using hi
   exact dw i _ (jv (by omega))
  rw[YQ (by rw[h1,rF]) h2];exact h3.out
namespace Y
section
variable{P:aL} {o:ax} {w w0:ag} {ms:List Nat} {bs:List aj} {R:ae->ag->Prop} {ρ:bh->ae}
theorem au (v:ae) (k:R v w) (h:(execOp ρ o).run P w=.ok (.value v) w:=by kernel_rfl):Yields P o ρ w R:=by unfold Yields;rw[h];exact k
theorem oR (v v':ae) (he:v=v') (k:R v' w) (h:(execOp ρ o).run P w=.ok (.value v) w:=by kernel_rfl):Yields P o ρ w R:=by subst he;exact au v k h
theorem lA (kd:fq) (e:Int) (he:kd.wrap e=e) (k:R (.int kd e) w) (h:(execOp ρ o).run P w=.ok (.value (.int kd (kd.wrap e))) w:=by kernel_rfl):Yields P o ρ w R:=oR _ _ (by rw[he]) k h
theorem dZ {x:bh} (k:R (ρ x) w) (ho:o.op=.move x:=by rfl):Yields P o ρ w R:=au _ k (by unfold execOp;simp[ho])
theorem gx {x:bh} (k:R (ρ x) w) (ho:o.op=.assign x:=by rfl):Yields P o ρ w R:=au _ k (by unfold execOp;simp[ho])
theorem pP (S:St ms w0 bs w) (i:Nat) (v:ae) (b off:Nat) {x:bh} {ty:aJ} (k:R v w) (ho:o.op=.load ty x:=by rfl) (hx:ρ x=.pointer (some ⟨b,off,none⟩):=by kernel_rfl)
 (ha:(P.underlying ty).map jy=some false:=by kernel_rfl) (hb:lk bs i off=some (b,v):=by kernel_rfl):Yields P o ρ w R:=by
 obtain⟨wr,cs,t,fr,hb,hc⟩:=YB hb;unfold Yields execOp;simp only[ho,hx,qZ,ju,bE,du,cK,Dj (S.at_ i _ hb) ha hc];exact k
theorem kA (S:St ms w0 bs w) (i:Nat) (n:Nat) (vs:Array ae) (b off:Nat) {x:bh} {ty:aJ} (k:R (.agg vs) w) (ho:o.op=.load ty x:=by rfl) (hx:ρ x=.pointer (some ⟨b,off,none⟩):=by kernel_rfl)
 (ha:(P.underlying ty).map jy=some true:=by kernel_rfl) (hn:(P.info? ty).map (·.size)=some n:=by kernel_rfl) (hb:yz bs i off n=some (b,vs):=by kernel_rfl):Yields P o ρ w R:=by
 obtain⟨wr,cs,t,fr,hb,hc,hv⟩:=Kk hb;unfold Yields execOp;simp only[ho,hx,qZ,ju,bE,du,cK,FL (S.at_ i _ hb) ha hn hc hv];exact k
theorem eZ (S:St ms w0 bs w) (f:Nat->ae) (obj:Obj) (k:∀b w',St ms w0 (⟨b,true,obj⟩::bs) w'->R (f b) w') (h:(execOp ρ o).run P w=.ok (.value (f w.heap.size)) (w.alloc obj):=by kernel_rfl):Yields P o ρ w R:=by
 unfold Yields;rw[h];exact k _ _ (S.new (Ch.alloc _ _ _) (dH _) (nT w obj))
theorem fT (f:fL) (args:Array ae) (k:aV P f args w R) (h:(execOp ρ o).run P w=.ok (.enter f args) w:=by kernel_rfl):Yields P o ρ w R:=by unfold Yields;rw[h];exact k
end
end Y
section
variable{P:aL} {a:Act} {w:ag} {Q:eE->Act->ag->Prop}
theorem PV {p:Nat->Prop} (h:∃n,p n):∃n,p n/\∀m,p m->n<=m:=by
 obtain⟨n,hn⟩:=h;induction n using Nat.strongRecOn with
 |_ n ih=>
  by_cases hm:∃m,m<n/\p m
  ·obtain⟨m,hl,hp⟩:=hm;exact ih m hl hp
  ·refine⟨n,hn,λm hp=>?_⟩;by_cases hl:m<n
   ·exact absurd ⟨m,hl,hp⟩ hm
   ·omega
open Classical in
theorem agY {c:Code} (I:Nat->Act->ag->Prop) (n:Nat) (h:I n a w)
 (round:∀n a w,I n a w->c.wp P (Exit.then (λa' w'=>∃m,m<n/\I m a' w') Q) a w):(Code.loop c).wp P Q a w:=by
 refine wp_loop (λa w=>∃n,I n a w) (λa w=>if h:∃n,I n a w then choose (PV h)else 0) ⟨n,h⟩ ?_;intro a w hI;have hs:=choose_spec (PV hI);refine wp_mono (round _ a w hs.1) ?_;intro e a' w' hh;cases e with
 |normal=>
  obtain⟨m,hm,hi⟩:=hh;refine⟨⟨m,hi⟩,?_⟩;have hx:∃n,I n a' w':=⟨m,hi⟩;have hy:=(choose_spec (PV hx)).2 m hi;simp only[dif_pos hx,dif_pos hI];omega
 |_=>exact hh
end
section
variable{P:aL} {ops:Array ax} {Q:eE->Act->ag->Prop} {rest:List ax} {a:Act} {w w0:ag} {o:ax} {ms:List Nat} {bs:List aj}
theorem St.agZ (S:St ms w0 bs w) {b off:Nat} {v:ae} (hc:w0.cell? ⟨b,off,none⟩=some v) (hm:b∉ms):w.cell? ⟨b,off,none⟩=some v:=by
 have hb:b<w0.heap.size:=by
  unfold yq at hc;split at hc
  ·next h=>exact pO h
  ·exact absurd hc (by simp)
 have:=S.ch.block b hb hm;unfold yq at hc⊢;simpa only[this]using hc
theorem rG (b off i n z c:Nat) (kd:fq) (iv:Int) {t e:aJ} {x y:bh} (h0:0<=iv) (h1:iv<n) (he:i=iv.toNat) (k:WL P ops Q rest (a.put o.dst (.pointer (some ⟨b,off+i*z,none⟩))) w) (hw:gT o (yielded ops a.tmps)=true:=by kernel_rfl)
 (ho:o.op=.indexAddr t x y:=by rfl) (hu:P.underlying t=some (.slice e):=by kernel_rfl) (hz:(P.info? e).map (·.size)=some z:=by kernel_rfl)
 (hx:a.eval x=.slice (some ⟨b,off,none⟩) n c:=by kernel_rfl) (hy:a.eval y=.int kd iv:=by kernel_rfl):WL P ops Q (o::rest) a w:=
 au (.pointer (some ⟨b,off+i*z,none⟩)) k hw (by
  subst he;have FM:∀q:Nat,(⟨b,off,none⟩:aQ).add q=⟨b,off+q,none⟩:=λq=>by
   by_cases hq:q=0
   ·subst hq;rfl
   ·simp[vO,hq]
  cases hq:P.info? e with
  |none=>simp[hq]at hz
  |some inf=>
   have dM:inf.size=z:=by simpa[hq]using hz
   unfold execOp;simp only[ho,hx,hy];unfold uo;simp only[bE,dI hu,cK,asIntOf,du];simp[h0,h1,pE,typeInfo,hq,dM,FM])
end
namespace Y
section
variable{P:aL} {w w0:ag} {o:ax} {ms:List Nat} {bs:List aj} {R:ae->ag->Prop} {ρ:bh->ae}
theorem rG (b off i n z c:Nat) (kd:fq) (iv:Int) {t e:aJ} {x y:bh} (h0:0<=iv) (h1:iv<n) (he:i=iv.toNat) (k:R (.pointer (some ⟨b,off+i*z,none⟩)) w)
 (ho:o.op=.indexAddr t x y:=by rfl) (hu:P.underlying t=some (.slice e):=by kernel_rfl) (hz:(P.info? e).map (·.size)=some z:=by kernel_rfl)
 (hx:ρ x=.slice (some ⟨b,off,none⟩) n c:=by kernel_rfl) (hy:ρ y=.int kd iv:=by kernel_rfl):Yields P o ρ w R:=
 Y.au (.pointer (some ⟨b,off+i*z,none⟩)) k (by
  subst he;have FM:∀q:Nat,(⟨b,off,none⟩:aQ).add q=⟨b,off+q,none⟩:=λq=>by
   by_cases hq:q=0
   ·subst hq;rfl
   ·simp[vO,hq]
  cases hq:P.info? e with
  |none=>simp[hq]at hz
  |some inf=>
   have dM:inf.size=z:=by simpa[hq]using hz
   unfold execOp;simp only[ho,hx,hy];unfold uo;simp only[bE,dI hu,cK,asIntOf,du];simp[h0,h1,pE,typeInfo,hq,dM,FM])
end
end Y
def A2 (x y:aj):Prop:=x.wr=true\/y.wr=true->x.id≠y.id
section
variable{ms:List Nat} {w0 w w':ag} {bs bs':List aj}
theorem St.at' (S:St ms w0 bs w) {x:aj} (h:x∈bs):w.heap[x.id]?=some x.obj:=by
 obtain⟨i,hi⟩:=AG h;exact S.at_ i x hi
theorem St.oT (S:St ms w0 bs w) {x:aj} (h:x∈bs) (hw:x.wr=true):x.id∈ms\/w0.heap.size<=x.id:=by
 obtain⟨i,hi⟩:=AG h;exact S.own i x hi hw
theorem St.pw (S:St ms w0 bs w):bs.Pairwise A2:=by
 rw[List.pairwise_iff_getElem];intro i j hi hj yx hw;have h1:bs[i]?=some bs[i]:=jv hi;have h2:bs[j]?=some bs[j]:=jv hj;rcases hw with hw|hw
 ·exact S.apart i j _ _ h1 h2 (by omega) hw
 ·exact(S.apart j i _ _ h2 h1 (by omega) hw).symm
theorem St.mk' (ch:Ch ms w0 w) (at_:∀x∈bs,w.heap[x.id]?=some x.obj) (own:∀x∈bs,x.wr=true->x.id∈ms\/w0.heap.size<=x.id) (pw:bs.Pairwise A2):St ms w0 bs w:=by
 refine⟨ch,λi x h=>at_ x (pF h),λi x h=>own x (pF h),?_⟩;intro i j x y hx hy cE hw;rw[List.pairwise_iff_getElem]at pw;have hi:i<bs.length:=by
  rcases cZ i bs.length with h|h
  ·exact h
  ·simp[h]at hx
 have hj:j<bs.length:=by
  rcases cZ j bs.length with h|h
  ·exact h
  ·simp[h]at hy
 obtain rfl:bs[i]=x:=by simpa[hi]using hx
 obtain rfl:bs[j]=y:=by simpa[hj]using hy
 rcases Nat.lt_or_gt_of_ne cE with h|h
 ·exact pw i j hi hj h (.inl hw)
 ·exact(pw j i hj hi h (.inr hw)).symm
theorem ag0 {x y:aj} (h:A2 x y):A2 y x:=λhw=>(h hw.symm).symm
theorem St.perm (S:St ms w0 bs w) (h:bs.Perm bs'):St ms w0 bs' w:=
 St.mk' S.ch (λx hx=>S.at' (h.mem_iff.2 hx)) (λx hx=>S.oT (h.mem_iff.2 hx)) ((h.pairwise_iff (λh=>ag0 h)).1 S.pw)
theorem St.sub (S:St ms w0 bs w) (h:bs'.Sublist bs):St ms w0 bs' w:=
 St.mk' S.ch (λx hx=>S.at' (h.mem hx)) (λx hx=>S.oT (h.mem hx)) (S.pw.sublist h)
theorem St.ge (S:St ms w0 bs w) {x:aj} (h:x∈bs):x.id<w.heap.size:=pO (S.at' h)
theorem Ch.mono {es tf:List Nat} (h:Ch es w w') (hs:∀x∈es,x∈tf):Ch tf w w':=⟨h.os,h.tape,h.output,h.size,λk hk hm=>h.block k hk (λhx=>hm (hs k hx))⟩
theorem St.uE {A bl bl' R:List aj} (S:St ms w0 (A++(bl++R)) w) (hw:∀x∈bl,x.wr=true) (hc:Ch (bl.map aj.id) w w')
 (aP:∀x∈bl',w'.heap[x.id]?=some x.obj) (hid:∀x∈bl',(∃y∈bl,x.id=y.id)\/w.heap.size<=x.id) (hp:bl'.Pairwise A2):St ms w0 (A++(bl'++R)) w':=by
 have YS:=S.pw;rw[Px,Px]at YS;obtain⟨pA,⟨pb,pR,pbR⟩,YT⟩:=YS;have tj:∀z,z∈A\/z∈R->z.id∉bl.map aj.id:=by
  intro z hz hm;obtain⟨y,hy,he⟩:=lP.1 hm;rcases hz with hz|hz
  ·exact YT z hz y (by simp[hy]) (.inr (hw y hy)) he.symm
  ·exact pbR y hy z hz (.inl (hw y hy)) he
 have YU:∀z,z∈A\/z∈R->∀x∈bl',z.id≠x.id:=by
  intro z hz x hx e;rcases hid x hx with⟨y,hy,he⟩|h
  ·exact tj z hz (by rw[e,he];exact List.mem_map_of_mem hy)
  ·have:=S.ge (x:=z) (by rcases hz with h|h<;>simp[h]);omega
 refine St.mk' (S.ch.trans hc ?_) ?_ ?_ ?_
 ·intro k hk;obtain⟨y,hy,rfl⟩:=lP.1 hk;exact S.oT (by simp[hy]) (hw y hy)
 ·intro x hx;rcases fc.1 hx with h|h
  ·exact(hc.block _ (S.ge (by simp[h])) (tj x (.inl h))).trans (S.at' (by simp[h]))
  ·rcases fc.1 h with h|h
   ·exact aP x h
   ·exact(hc.block _ (S.ge (by simp[h])) (tj x (.inr h))).trans (S.at' (by simp[h]))
 ·intro x hx YV;rcases fc.1 hx with h|h
  ·exact S.oT (by simp[h]) YV
  ·rcases fc.1 h with h|h
   ·rcases hid x h with⟨y,hy,he⟩|eG
    ·rw[he];exact S.oT (by simp[hy]) (hw y hy)
    ·exact .inr (hY S.ch.size eG)
   ·exact S.oT (by simp[h]) YV
 ·rw[Px,Px];refine⟨pA,⟨hp,pR,λx hx z hz _ e=>YU z (.inr hz) x hx e.symm⟩,λz hz x hx=>?_⟩;rcases fc.1 hx with h|h
  ·exact λ_=>YU z (.inl hz) x h
  ·exact YT z hz x (by simp[h])
theorem St.less {A bl R:List aj} (S:St ms w0 (A++(bl++R)) w) (hw:∀x∈bl,x.wr=true) (hc:Ch (bl.map aj.id) w w'):St ms w0 (A++R) w':=by
 have:=S.uE (bl':=[]) hw hc (by simp) (by simp) List.Pairwise.nil;simpa using this
end
def fu (z:Nat) (T:aJ) (olds:List ae) (x:Option aQ) (n c:Nat) (bl:List aj):Prop:=
 olds.length=n*z/\n<=c/\((x=none/\n=0/\c=0/\bl=[])\/∃b tail,x=some ⟨b,0,none⟩/\bl=[⟨b,true,.cells (olds++tail).toArray T (0,0)⟩]/\(olds++tail).length=c*z)
theorem yH (z:Nat) (T:aJ):fu z T [] none 0 0 []:=⟨by simp,dH _,.inl ⟨rfl,rfl,rfl,rfl⟩⟩
theorem fu.wr {z T olds x n c bl} (h:fu z T olds x n c bl):∀y∈bl,y.wr=true:=by
 rcases h.2.2 with⟨_,_,_,rfl⟩|⟨b,tail,_,rfl,_⟩<;>simp
theorem fu.pw {z T olds x n c bl} (h:fu z T olds x n c bl):bl.Pairwise A2:=by
 rcases h.2.2 with⟨_,_,_,rfl⟩|⟨b,tail,_,rfl,_⟩<;>simp
def tm (z:Nat) (T:aJ) (olds:List ae) (n:Nat) (bl:List aj) (B:Nat) (v:ae) (w':ag):Prop:=
 ∃x c bl',v=.slice x n c/\fu z T olds x n c bl'/\∀y∈bl',w'.heap[y.id]?=some y.obj/\((∃u∈bl,y.id=u.id)\/B<=y.id)
theorem tm.FP {z T olds n bl B v} {w w':ag} (h:tm z T olds n bl B v w) (hc:Ch [] w w'):tm z T olds n bl B v w':=by
 obtain⟨x,c,bl',h1,h2,h3⟩:=h;exact⟨x,c,bl',h1,h2,λy hy=>⟨(hc.block _ (pO (h3 y hy).1) (by simp)).trans (h3 y hy).1,(h3 y hy).2⟩⟩
section
variable{P:aL}
theorem Dq {w:ag} {z T n c m:Nat} {olds news:List ae} {x:Option aQ} {bl:List aj} (hr:fu z T olds x n c bl) (aP:∀y∈bl,w.heap[y.id]?=some y.obj)
 {t tx ty:aJ} {xv:ae} (bytes:Nat) (hs:Src P z tx xv m news w) (ht:P.underlying t=some (.slice T)) (hi:(P.info? T).map (λi=>(i.zero.map (·.cells.size),i.size,i.bytes))=some (some z,z,bytes))
 (hb:(n+m)*bytes<=140737488355328) (h63:n+m<=maxLen):
 ∃v w',(nU #[t,tx] ty #[.slice x n c,xv]).run P w=.ok v w'/\Ch (bl.map aj.id) w w'/\tm z T (olds++news) (n+m) bl w.heap.size v w':=by
 obtain⟨i,cu,hi⟩:=im.1 hi;simp only[bC]at hi;obtain⟨hz,dM,iK⟩:=hi;obtain⟨z0,lW,nY⟩:=im.1 hz;obtain⟨hlen,jV,j9⟩:=hr;have pW:=hs.newsLen;have ayC:news.length=m*i.size:=by rw[dM];exact pW
 have jA:Src P i.size tx xv m news w:=by rw[dM];exact hs
 by_cases nZ:n+m<=c
 ·rcases vP m with lB|lB
  ·subst lB;obtain rfl:news=[]:=nf (by simpa using pW);refine⟨_,_,run_append_nothing (P:=P) w t tx ty T i ht cu x n c jV xv jA,Ch.refl _ _,x,c,bl,rfl,⟨by simpa using hlen,jV,by simpa using j9⟩,λy hy=>⟨aP y hy,.inl ⟨y,hy,rfl⟩⟩⟩
  ·rcases j9 with⟨_,rfl,rfl,_⟩|⟨b,tail,rfl,rfl,pZ⟩
   ·omega
   ·have tn:=aP _ (iH.2 rfl);have hbd:n*z+news.length<=(olds++tail).length:=by
     rw[pZ,pW,<-ng];exact Py _ nZ
    have fw:=run_storeCells_at (P:=P) b (n*z) T news 0 (olds++tail).toArray w tn (by simpa using hbd) hs.one;simp only[pG]at fw;have bQ:(nU #[t,tx] ty #[.slice (some ⟨b,0,none⟩) n c,xv]).run P w=.ok (.slice (some ⟨b,0,none⟩) (n+m) c) (w.setRow b ((olds++tail).take (n*z)++news++(olds++tail).drop (n*z+news.length)).toArray):=by
     rcases jA.kind with⟨e',hk⟩|hk<;>simp[nU,dI ht,dI hk,pE,typeInfo,cu,jA.len,nZ,hs.cells,iS,dM,fw,jT]
    refine⟨_,_,bQ,by simpa using Ch.setRow w b _,some ⟨b,0,none⟩,c,[⟨b,true,.cells ((olds++news)++tail.drop news.length).toArray T (0,0)⟩],rfl,⟨by rw[ft,hlen,pW,ng],nZ,.inr ⟨b,_,rfl,rfl,?_⟩⟩,?_⟩
    ·simp only[ft,List.length_drop,hlen]at pZ hbd⊢;omega
    ·intro y hy;obtain rfl:=iH.1 hy;refine⟨?_,.inl ⟨_,iH.2 rfl,rfl⟩⟩;have:=setRow_heap w b (olds++tail).toArray ((olds++tail).take (n*z)++news++(olds++tail).drop (n*z+news.length)).toArray T (0,0) tn;rw[this];congr 3;rw[<-hlen,List.take_left,List.drop_append,List.drop_eq_nil_of_le (by omega)];simp
 ·have hg:c<n+m:=by omega
  have hold:(Builtin.firstCells i.size n (.slice x n c)).run P w.drew=.ok olds.toArray w.drew:=by
   rcases j9 with⟨rfl,rfl,rfl,_⟩|⟨b,tail,rfl,rfl,pZ⟩
   ·obtain rfl:olds=[]:=nf (by simpa using hlen);exact run_firstCells_none (P:=P) w.drew i.size 0 0 0
   ·have tn:=aP _ (iH.2 rfl);refine run_firstCells_some (P:=P) w.drew i.size n ⟨b,0,none⟩ n c olds (by rw[hlen,dM]) (λj v hj=>?_);rw[iS];have:w.drew.cell? ⟨b,0+j,none⟩=w.cell? ⟨b,j,none⟩:=by simp
    rw[this,cell_of tn];have kD:j<olds.length:=by
     rcases cZ j olds.length with h|h
     ·exact h
     ·simp[h]at hj
    simp[iq kD,hj]
  have bQ:=run_append_grow_src (P:=P) w t tx ty T i z0 ht cu lW x n c olds hold xv m news jA hg (by simp only[maxLen]at h63;omega) (by rw[iK];exact growslice_fits hg hb);have eG:=grownCap_ge w (n+m) c T;refine⟨_,_,bQ,?_,some ⟨w.heap.size,0,none⟩,grownCap w (n+m) c T,[⟨w.heap.size,true,.cells ((olds++news)++(oQ z0.cells (grownCap w (n+m) c T-(n+m))).toList).toArray T (0,0)⟩],rfl,⟨by rw[ft,hlen,pW,ng],eG,.inr ⟨_,_,rfl,rfl,?_⟩⟩,?_⟩
  ·exact((Ch.refl (bl.map aj.id) w).drew).trans (Ch.alloc (bl.map aj.id) w.drew _) (λx hx=>.inl hx)
  ·rw[ft,ft,hlen,pW,Array.length_toList,size_zeroCells,nY,<-ng,<-ng];congr 1;omega
  ·intro y hy;obtain rfl:=iH.1 hy;refine⟨?_,.inr (dH _)⟩;have:=nT w.drew (.cells ((olds++news).toArray++oQ z0.cells (grownCap w (n+m) c T-(n+m))) T);refine Eq.trans this ?_;congr 2;apply fM;simp
end
def Dr (n:Nat) (l:List ax):Bool:=l.all (λo=>match o.dst with|some d=>cD d n|none=>true)&&FQ (l.map (·.dst))
theorem YW (vs:Nat->ae):∀(m:List ax) (k:Nat) (a:Act),(∀o∈m,∀d,o.dst=some d->d<a.tmps.size)->(m.map (·.dst)).Nodup->
 (gy vs k m a).tmps.size=a.tmps.size/\(gy vs k m a).defers=a.defers/\(∀t,(∀o∈m,o.dst≠some t)->cP (gy vs k m a) t=cP a t)/\∀i o d,m[i]?=some o->o.dst=some d->cP (gy vs k m a) d=vs (k+i)
 |[],k,a,_,_=>⟨rfl,rfl,λ_ _=>rfl,λi o d h=>by simp at h⟩
 |x::rest,k,a,hd,hn=>by
  simp only[eF,ri]at hn;obtain⟨h1,h2,h3,h4⟩:=YW vs rest (k+1) (a.put x.dst (vs k)) (λo ho d e=>by
   rw[size_put];exact hd o (by simp[ho]) d e) hn.2
  refine⟨by simp only[gy];rw[h1,size_put],by simp only[gy];rw[h2,AX],?_,?_⟩
  ·intro t ht;simp only[gy];rw[h3 t (λo ho=>ht o (by simp[ho]))];cases hx:x.dst with
   |none=>rfl
   |some dx=>
    rw[yE _ _ _ _ (hd x (by simp) dx hx),if_neg];intro e;subst e;exact ht x (by simp) hx
  ·intro i o d hi ho;cases i with
   |zero=>
    obtain rfl:x=o:=by simpa using hi
    simp only[gy];rw[h3 d (λo' kB e=>hn.1 (by rw[ho,<-e];exact List.mem_map_of_mem (f:=λx=>x.dst) kB)),ho,yE _ _ _ _ (hd x (by simp) d ho),if_pos rfl];rfl
   |succ i=>
    simp only[gy];rw[h4 i o d (by simpa using hi) ho];congr 1;omega
def preB (pre:List (List Nat)) (i:Nat):Bool:=pre.any λp=>match p.getLast? with|some j=>az j i|none=>false
def FW (l:List ax) (k0:Nat) (pre:List (List Nat)):Bool:=pre.all λp=>Dm l p&&(match p.head? with|some k=>az k k0|none=>false)&&cD 1 p.length
def rH (P:aL) (k0:Nat) (pre:List (List Nat)) (es:List Nat) (H:Nat->ae->ag->Prop) (lf l:List ax) (y0:Nat->ae) (w:ag) (i:Nat) (o:ax):Prop:=
 ∀(y:Nat->ae) (w':ag),(i=k0\/preB pre i=true->Ch [] w w')->Ch es w w'->(∀t,v8 l i t=true->y t=y0 t)->
  (∀j d,kX o j=true->(l[j]?).bind (·.dst)=some d->H j (y d) w')->
  (nW lf o y=true->Yields P o (v7 y) w' λv fY=>(i=k0->Ch es w' fY)/\(i≠k0->Ch [] w' fY)/\H i v fY)/\(nW lf o y=false->H i undef w')
def qa (P:aL) (k0:Nat) (pre:List (List Nat)) (es:List Nat) (H:Nat->ae->ag->Prop) (lf l:List ax) (y0:Nat->ae) (w:ag):Nat->List ax->Prop
 |_,[]=>True
 |i,o::rest=>rH P k0 pre es H lf l y0 w i o/\qa P k0 pre es H lf l y0 w (i+1) rest
theorem qa.get {P:aL} {k0:Nat} {pre:List (List Nat)} {es:List Nat} {H:Nat->ae->ag->Prop} {lf l:List ax} {y0:Nat->ae} {w:ag}:∀{k:Nat} {m:List ax},qa P k0 pre es H lf l y0 w k m->∀(i:Nat) o,m[i]?=some o->rH P k0 pre es H lf l y0 w (k+i) o
 |_,[],_,i,o,h=>by simp at h
 |k,x::rest,⟨h1,h2⟩,0,o,h=>by obtain rfl:x=o:=by simpa using h
                              exact h1
 |k,x::rest,⟨h1,h2⟩,i+1,o,h=>by
  have:=qa.get h2 i o (by simpa using h)
  rwa [show k+1+i=k+(i+1) by omega]at this
structure PW (k0:Nat) (es:List Nat) (H:Nat->ae->ag->Prop) (l:List ax) (n2:Nat) (a0:Act) (w0:ag) (vs:Nat->ae) (listed:Array Bool) (a:Act) (w:ag):Prop where
 ls:listed.size=l.length+n2
 off:∀i,l.length<=i->i<l.length+n2->listed[i]?=some false
 size:a.tmps.size=a0.tmps.size
 defers:a.defers=a0.defers
 ch:if listed[k0]?=some true then Ch es w0 w else Ch [] w0 w
 done:∀(i:Nat) (o:ax),l[i]?=some o->listed[i]?=some true->(∀d,o.dst=some d->cP a d=vs i)/\H i (vs i) w
 rest:∀(t:Nat),(∀(i:Nat) (o:ax),l[i]?=some o->o.dst=some t->listed[i]?=some false)->cP a t=cP a0 t
 back:∀(i:Nat) (o:ax),l[i]?=some o->listed[i]?=some true->∀j,kX o j=true->listed[j]?=some true
section
variable{P:aL} {l:List ax} {k0:Nat} {pre:List (List Nat)} {es:List Nat} {H:Nat->ae->ag->Prop} {a0:Act} {w0:ag} {Q:eE->Act->ag->Prop}
theorem ag1 (fw:∀i v w w',Ch [] w w'->H i v w->H i v w') (ag2:FW l k0 pre=true) (PX:∀i v w w',i≠k0->w0.heap.size<=w.heap.size->Ch es w w'->H i v w->H i v w') (l2:List ax) (paths:List (List Nat)) (ht:rv (l++l2) l.length paths=true) (kC:Dr a0.tmps.size l=true) (gz:oS 0 (l++l2)=true) (hs:qa P k0 pre es H (l++l2) l (cP a0) w0 0 l)
 (hq:∀(vs:Nat->ae) w',Ch es w0 w'->(∀i o,l[i]?=some o->H i (vs i) w')->wpList P (l++l2).toArray Q l2 (gy vs 0 l a0) w'):
 ∀(fuel:Nat) (vs:Nat->ae) (listed:Array Bool) (a:Act) (w:ag),PW k0 es H l l2.length a0 w0 vs listed a w->listed.toList.count false=fuel+l2.length->wpAny P .any (l++l2).toArray Q (fuel+l2.length) listed a w:=by
 have inl:∀{i:Nat} {o:ax},(l++l2)[i]?=some o->i<l.length->l[i]?=some o:=λh hi=>by rwa [iq hi]at h
 have inr:∀{i:Nat} {o:ax},l[i]?=some o->(l++l2)[i]?=some o:=λ{i o} h=>by rwa [iq (by rcases cZ i l.length with h'|h';exact h';simp[h']at h)]
 simp only[Dr,bu,gm]at kC;have hd:∀o∈l,∀d,o.dst=some d->d<a0.tmps.size:=by
  intro o ho d hx;have:=kC.1 o ho;simpa[hx,iG]using this
 have hn:=PN kC.2;have uniq:∀(i j:Nat) o p d,l[i]?=some o->l[j]?=some p->o.dst=some d->p.dst=some d->i=j:=by
  intro i j o p d hi hj ho hp;have iJ:i<(l.map (·.dst)).length:=by simp;rcases cZ i l.length with h|h;exact h;simp[h]at hi
  refine(List.getElem?_inj iJ hn).1 ?_;simp[hi,hj,ho,hp]
 have fin:∀vs listed a w,PW k0 es H l l2.length a0 w0 vs listed a w->(∀i,i<l.length->listed[i]?=some true)->wpAny P .any (l++l2).toArray Q l2.length listed a w:=by
  intro vs listed a w I dw;obtain⟨h1,h2,h3,h4⟩:=YW vs l 0 a0 hd hn;have:a=gy vs 0 l a0:=by
   refine PM (by rw[I.size,h1]) (by rw[I.defers,h2]) ?_;intro t;by_cases ht:∃(i:Nat) (o:ax),l[i]?=some o/\o.dst=some t
   ·obtain⟨i,o,hi,ho⟩:=ht;rw[h4 i o t hi ho,eY];exact(I.done i o hi (dw i (by rcases cZ i l.length with h|h;exact h;simp[h]at hi))).1 t ho
   ·rw[h3 t (λo ho e=>ht (by obtain⟨i,hi⟩:=AG ho;exact⟨i,o,hi,e⟩))];exact I.rest t (λi o hi ho=>absurd ⟨i,o,hi,ho⟩ ht)
  rw[this];refine YM l2 gz paths ht l2 0 rfl listed _ w I.ls (λi hi=>dw i (by omega)) (λi h1 h2=>I.off i (by omega) h2) ?_;exact hq vs w (by have:=I.ch;split at this;exact this;exact this.mono (by simp)) λi o hi=>(I.done i o hi (dw i (by rcases cZ i l.length with h|h;exact h;simp[h]at hi))).2
 have tl:∀vs listed a w,PW k0 es H l l2.length a0 w0 vs listed a w->∀i,i∈rj .any (l++l2).toArray listed->l.length<=i->∀j,j<l.length->listed[j]?=some true:=by
  intro vs listed a w I i hi eG j hj;obtain⟨oi,pS,hf,gA⟩:=(lU _ listed i).1 hi;have iJ:i<(l++l2).length:=by rcases cZ i (l++l2).length with h|h;exact h;simp[jc h]at pS
  obtain⟨p,q1,q2,q3,q4⟩:=PR ht i iJ eG j (by omega);refine FT (l:=l++l2) ?_ p i j q1 q2 q3 q4 ?_
  ·intro x o hx ry k hk;rcases cZ x l.length with h|h
   ·exact I.back x o (inl hx h) ry k hk
   ·have wa:x<(l++l2).length:=by rcases cZ x (l++l2).length with h'|h';exact h';simp[jc h']at hx
    have:=I.off x h (by simpa using wa);rw[ry]at this;simp at this
  ·intro o ho k hk;obtain rfl:oi=o:=by rw[pS]at ho;simpa using ho
   obtain⟨e,he,rfl,hbd⟩:=FU.1 hk;have h3:=gA e he hbd;have h4:=uC gz i oi pS e he hbd;rcases lT I.ls (show e.on<l.length+l2.length by simp at iJ;omega)with hx|hx
   ·exact hx
   ·simp[jR,hx]at h3
 intro fuel;induction fuel with
 |zero=>
  intro vs listed a w I hc;have dw:∀i,i<l.length->listed[i]?=some true:=by
   intro i hi;rcases lT I.ls (show i<l.length+l2.length by omega)with hb|hb
   ·exact hb
   ·exfalso;have h4:=PO listed.toList l.length l2.length (by simpa using I.ls) (λj h1 h2=>by simpa using I.off j h1 h2) i hi (by simpa using hb);omega
  rw[eY];exact fin vs listed a w I dw
 |succ fuel ih=>
  intro vs listed a w I hc;by_cases AY:∀i,i<l.length->listed[i]?=some true
  ·exfalso;have:=Kr listed.toList l.length l2.length (by simpa using I.ls) (λj h1=>by simpa using AY j h1);omega
  rw[show fuel+1+l2.length=(fuel+l2.length)+1 by omega];refine⟨λhr=>?_,?_⟩
  ·
   exfalso;refine AY ?_;intro i;induction i using Nat.strongRecOn with
   |_ i PS=>
    intro hi;rcases lT I.ls (show i<l.length+l2.length by omega)with hb|hb
    ·exact hb
    ·exfalso;have:i∈rj .any (l++l2).toArray listed:=(lU _ listed i).2 ⟨l[i],inr (by simp),by simp[jR,hb],λe he PT=>by
      have dL:=uC gz i l[i] (inr (by simp)) e he PT;have:=PS e.on (by omega) (by omega);simp[jR,this]⟩
     rw[hr]at this;simp at this
  ·intro i hi;have iJ:i<l.length:=by
    rcases cZ i l.length with h|h
    ·exact h
    ·exact absurd (tl vs listed a w I i hi h) AY
   obtain⟨o,mB,h2,h3⟩:=(lU _ listed i).1 hi;have ho:=inl mB iJ;have td:listed[i]?=some false:=by
    rcases lT I.ls (show i<l.length+l2.length by omega)with hb|hb
    ·simp[jR,hb]at h2
    ·exact hb
   have PU:=hd o (pF ho);have gA:∀j,kX o j=true->listed[j]?=some true:=by
    intro j hj;unfold kX at hj;rw[<-Array.any_toList,AD]at hj;obtain⟨e,he,hj⟩:=hj;simp only[bu,beq_iff_eq]at hj;obtain⟨rfl,hb⟩:=hj;have he:=Array.mem_toList_iff.1 he;have h4:=h3 e he hb;have dL:=uC gz i o mB e he hb;rcases lT I.ls (show e.on<l.length+l2.length by omega)with hb|hb
    ·exact hb
    ·simp[jR,hb]at h4
   have PY:i=k0\/preB pre i=true->Ch [] w0 w:=λe=>by
    have hk:¬listed[k0]?=some true:=by
     rcases e with e|e
     ·rw[<-e,td];simp
     ·intro hl;unfold preB at e;obtain⟨p,hp,he⟩:=AD.1 e;have g1:=gm.1 ag2 p hp;simp only[bu]at g1;obtain⟨⟨g2,g3⟩,g4⟩:=g1;cases hh:p.head? with
      |none=>rw[hh]at g3;simp at g3
      |some k=>
       rw[hh]at g3;have ek:=cz g3;cases qb:p.getLast? with
       |none=>rw[qb]at he;simp at he
       |some j=>
        rw[qb]at he;have ej:=cz he;have:=FT I.back p k j g2 hh qb (by unfold cD at g4;exact dJ g4) (λo ho j hj=>I.back k o ho (by rw[ek];exact hl) j hj);rw[ej,td]at this;simp at this
    have:=I.ch;rw[if_neg hk]at this;exact this
   have step:=(qa.get hs i o ho) (cP a) w (by rw[eY];exact PY) (by have:=I.ch;split at this;exact this;exact this.mono (by simp)) (λt ht=>by
    refine I.rest t λk ok hk hok=>?_;rw[v8,gm]at ht;have:=ht ok (pF hk);simp only[hok,bne_self_eq_false,Bool.false_or]at this;have yy:k<l.length:=by rcases cZ k l.length with h|h;exact h;simp[h]at hk
    rcases lT I.ls (show k<l.length+l2.length by omega)with hb|hb
    ·have:=I.back k ok hk hb i (by simpa using this);rw[td]at this;simp at this
    ·exact hb)
    (λj dj hj nX=>by
     cases eH:l[j]?with
     |none=>simp[eH]at nX
     |some oj=>
      have:=I.done j oj eH (gA j hj);rw[this.1 dj (by simpa[eH]using nX)];exact this.2)
   have next:∀v w',(i=k0->Ch es w w')->(i≠k0->Ch [] w w')->H i v w'->wpAny P .any (l++l2).toArray Q (fuel+l2.length) (listed.setIfInBounds i true) (a.put o.dst v) w':=by
    intro v w' uD Ds hv;refine ih (λj=>if j=i then v else vs j) _ _ _ ?_ ?_
    ·have gl:∀j b,(listed.setIfInBounds i true)[j]?=some b->(j=i/\b=true)\/(j≠i/\listed[j]?=some b):=by
      intro j b hj;rw[q_]at hj;by_cases h:i=j
      ·subst h;have:i<l.length+l2.length:=by omega
       simp[I.ls,this]at hj;exact Or.inl ⟨rfl,hj⟩
      ·rw[if_neg h]at hj;exact Or.inr ⟨λe=>h e.symm,hj⟩
     have yp:∀t,(o.dst≠some t->cP (a.put o.dst v) t=cP a t)/\(o.dst=some t->cP (a.put o.dst v) t=v):=λt=>by
      cases Dn:o.dst with
      |none=>exact⟨λ_=>rfl,λh=>by cases h⟩
      |some d=>
       have:=yE a d v t (by rw[I.size];exact PU d Dn);refine⟨λh=>?_,λh=>?_⟩
       ·rw[this,if_neg (λe=>h (by rw[e]))]
       ·rw[this,if_pos (by simpa using h.symm)]
     refine⟨by simp[I.ls],λj h1 h2=>by
      rw[q_,if_neg (by omega)];exact I.off j h1 h2,by rw[size_put,I.size],by rw[AX,I.defers],?_,?_,?_,?_⟩
     ·by_cases gB:i=k0
      ·have hk:(listed.setIfInBounds i true)[k0]?=some true:=by
        rw[<-gB,q_,if_pos rfl,if_pos (by rw[I.ls];omega)]
       rw[if_pos hk];exact((PY (.inl gB)).mono (by simp)).trans (uD gB) (λx hx=>.inl hx)
      ·have hk:(listed.setIfInBounds i true)[k0]?=listed[k0]?:=by
        rw[q_,if_neg gB]
       rw[hk];have h1:=I.ch;split at h1
       ·rename_i h2;rw[if_pos h2];exact h1.trans (Ds gB) (by simp)
       ·rename_i h2;rw[if_neg h2];exact h1.trans (Ds gB) (by simp)
     ·intro j oj hj eH;rcases gl j true eH with⟨rfl,_⟩|⟨cE,eH⟩
      ·obtain rfl:o=oj:=by rw[ho]at hj;simpa using hj
       simp only[if_true];exact⟨λdj nX=>(yp dj).2 nX,hv⟩
      ·have:=I.done j oj hj eH;simp only[if_neg cE];refine⟨λdj nX=>?_,?_⟩
       ·rw[(yp dj).1 (λe=>cE (uniq j i oj o dj hj ho nX e))];exact this.1 dj nX
       ·by_cases gB:i=k0
        ·exact PX _ _ _ _ (λe=>cE (by rw[gB];exact e)) (by have:=I.ch;split at this;exact this.size;exact this.size) (uD gB) this.2
        ·exact fw _ _ _ _ (Ds gB) this.2
     ·intro t ht;have cE:o.dst≠some t:=λe=>by
       have:=ht i o ho e;rcases gl i false this with⟨_,h⟩|⟨h,_⟩
       ·cases h
       ·exact h rfl
      rw[(yp t).1 cE];refine I.rest t λk ok hk hok=>?_;have:=ht k ok hk hok;rcases gl k false this with⟨_,h⟩|⟨_,h⟩
      ·cases h
      ·exact h
     ·intro k ok hk lV j hj;have hb:listed[j]?=some true:=by
       rcases gl k true lV with⟨rfl,_⟩|⟨cE,lV⟩
       ·obtain rfl:o=ok:=by rw[ho]at hk;simpa using hk
        exact gA j hj
       ·exact I.back k ok hk lV j hj
      rw[q_];split
      ·rename_i h;subst h;rw[td]at hb;simp at hb
      ·exact hb
    ·have h2:listed[i]?=some false:=td;have agU:=count_set listed.toList i (by simpa using h2);simp only[J_];omega
   unfold wpOp;simp only[jQ,mB];rw[YK];cases hw:nW (l++l2) o (cP a)with
   |true=>
    rw[if_pos rfl];refine Or.inl ?_;have hy:=step.1 hw;rw[YJ]at hy;exact Yields.wp hy λv w' ⟨uD,Ds,hv⟩=>next v w' (by rw[eY]at uD;exact uD) (by rw[eY]at Ds;exact Ds) (by rw[eY]at hv;exact hv)
   |false=>
    rw[if_neg (by simp)];exact next undef w (λ_=>Ch.refl _ _) (λ_=>Ch.refl _ _) (by have:=step.2 hw;rw[eY]at this;exact this)
theorem ag3 {id:Nat} (l l2:List ax) (fw:∀i v w w',Ch [] w w'->H i v w->H i v w') (gA:FW l k0 pre=true) (PX:∀i v w w',i≠k0->w0.heap.size<=w.heap.size->Ch es w w'->H i v w->H i v w') (paths:List (List Nat)) (hm:P.follows .mixedOrders=true) (ht:rv (l++l2) l.length paths=true) (kC:Dr a0.tmps.size l=true) (gz:oS 0 (l++l2)=true) (hs:qa P k0 pre es H (l++l2) l (cP a0) w0 0 l)
 (hq:∀(vs:Nat->ae) w',Ch es w0 w'->(∀i o,l[i]?=some o->H i (vs i) w')->wpList P (l++l2).toArray Q l2 (gy vs 0 l a0) w'):(Code.region id (l++l2).toArray true).wp P Q a0 w0:=by
 refine wp_region_any hm ?_;have h:=ag1 fw gA PX l2 paths ht kC gz hs hq l.length (λ_=>undef) (C9 (l++l2).toArray.size false) a0 {w0 with drawn:=w0.drawn+1} ?_ ?_
 ·rw[show(l++l2).toArray.size=l.length+l2.length by simp];rw[show(l++l2).toArray.size=l.length+l2.length by simp]at h;exact h
 ·refine⟨by simp,λi h1 h2=>by simp[AH];omega,rfl,rfl,?_,?_,λ_ _=>rfl,?_⟩
  ·split
   ·exact(Ch.refl _ _).drew
   ·exact(Ch.refl _ _).drew
  ·intro i o _ h;simp[AH]at h
  ·intro i o _ h;simp[AH]at h
 ·simp[Yj]
end
section
variable{ms:List Nat} {w0 w w':ag} {bs:List aj}
theorem YX {α:Type}:∀{l:List α} {i:Nat} {x:α},l[i]?=some x->l.Perm (x::l.eraseIdx i)
 |[],i,x,h=>by simp at h
 |y::l,0,x,h=>by obtain rfl:y=x:=by simpa using h
                 exact List.Perm.refl _
 |y::l,i+1,x,h=>by
  have:=YX (l:=l) (i:=i) (x:=x) (by simpa using h);exact(uq y this).trans (Pz _ _ _)
end
section
variable{P:aL} {w w0:ag} {ms:List Nat} {bs:List aj}
theorem j_ {ρ:bh->ae} {o:ax} {w':ag} {s x:bh} {t tx:aJ} {sv xv v:ae} (ho:o.op=.call ⟨.builtin .append,#[s,x],#[t,tx]⟩) (hs:ρ s=sv) (hx:ρ x=xv)
 (bQ:(nU #[t,tx] o.type #[sv,xv]).run P w=.ok v w'):(execOp ρ o).run P w=.ok (.value v) w':=by
 simp[execOp,ho,resolve,invoke,builtin,hs,hx,bQ,jT]
theorem ag4 (S:St ms w0 bs w) (i m z:Nat) (news:List ae) {b off c:Nat} {tx e':aJ} (hk:P.underlying tx=some (.slice e')) (hb:yz bs i off (m*z)=some (b,news.toArray)) (h1:news.all (·.oneCell')=true) (hl:news.length=m*z):
 Src P z tx (.slice (some ⟨b,off,none⟩) m c) m news w:=by
 obtain⟨wr,cs,t,fr,PZ,hc,hv⟩:=Kk hb;refine sW w hk ⟨b,off,none⟩ m c news hl (λj u hj=>?_) (λu hu=>gm.1 h1 u hu);rw[iS,cell_of (S.at_ i _ PZ)];have h2:(cs.extract off (off+m*z))[j]?=some u:=by rw[hc];simpa using hj
 rw[Array.getElem?_extract]at h2;split at h2
 ·exact h2
 ·exact absurd h2 (by simp)
section
variable{ops:Array ax} {rest:List ax} {o:ax} {a:Act} {Q:eE->Act->ag->Prop} {z T n c m bytes:Nat} {olds news tail:List ae} {s x:bh} {t tx:aJ} {xv:ae}
theorem ag5 {A bl R:List aj} {xs:Option aQ} (S:St ms w0 (A++(bl++R)) w) (hr:fu z T olds xs n c bl) (hs:Src P z tx xv m news w) (bytes:Nat) (ho:o.op=.call ⟨.builtin .append,#[s,x],#[t,tx]⟩:=by rfl) (hbd:(n+m)*bytes<=140737488355328) (h63:n+m<=maxLen)
 (k:∀x' c' bl' w',fu z T (olds++news) x' (n+m) c' bl'->St ms w0 (A++(bl'++R)) w'->WL P ops Q rest (a.put o.dst (.slice x' (n+m) c')) w')
 (hw:gT o (yielded ops a.tmps)=true:=by kernel_rfl) (A3:a.eval s=.slice xs n c:=by kernel_rfl) (A4:a.eval x=xv:=by kernel_rfl)
 (ht:P.underlying t=some (.slice T):=by kernel_rfl) (cu:(P.info? T).map (λi=>(i.zero.map (·.cells.size),i.size,i.bytes))=some (some z,z,bytes):=by kernel_rfl):WL P ops Q (o::rest) a w:=
 WL.want hw λK hK=>by
  obtain⟨v,w',bQ,hc,x',c',bl',rfl,fZ,aP⟩:=Dq (P:=P) (ty:=o.type) hr (λy hy=>S.at' (by simp[hy])) bytes hs ht cu hbd h63;have S2:=S.uE hr.wr hc (λy hy=>(aP y hy).1) (λy hy=>(aP y hy).2) fZ.pw;unfold oO;rw[j_ ho A3 A4 bQ];exact hK _ _ (k x' c' bl' w' fZ S2)
end
end
def s0 (v:ae):Sp:=⟨0,λ_=>v,λ_=>[]⟩
def wg (l:List ax) (o:ax) (t:Nat):Option Nat:=o.after.toList.findSome? λe=>bif rf .any e&&(match(l[e.on]?).bind (·.dst)with|some d=>az d t|none=>false)then some e.on else none
def valOf (l:List ax) (sp:Nat->Sp) (a0:Act) (o:ax) (t:Nat):ae:=match wg l o t with|some j=>(sp j).f []|none=>cP a0 t
def iu (l:List ax) (sp:Nat->Sp) (a0:Act) (o:ax):List (Nat×ae):=o.op.operands.toList.filterMap λx=>match x with|.tmp t=>some (t,valOf l sp a0 o t)|_=>none
def A5 (l:List ax) (sp:Nat->Sp) (i:Nat) (o:ax):Bool:=o.guard.isNone&&az (sp i).k 0&&(sp i).bl [] matches[]&&yG (iu l sp ⟨#[],[]⟩ o) o&&
 o.op.operands.toList.all λx=>match x with|.tmp t=>(match wg l o t with|some j=>az (sp j).k 0|none=>v8 l i t)|_=>true
theorem P1 {y:Nat->ae}:∀{env:List (Nat×ae)},(∀p∈env,y p.1=p.2)->yF y env
 |[],_=>trivial
 |p::env,h=>⟨h p (by simp),P1 λq hq=>h q (by simp[hq])⟩
theorem Ks {l:List ax} {o:ax} {t j:Nat} (h:wg l o t=some j):kX o j=true/\(l[j]?).bind (·.dst)=some t:=by
 obtain⟨e,he,h⟩:=List.exists_of_findSome?_eq_some h;cases hd:(l[e.on]?).bind (·.dst)with
 |none=>simp[hd]at h
 |some d=>
  simp only[hd]at h;cases hb:rf .any e with
  |false=>simp[hb]at h
  |true=>
   cases hc:az d t with
   |false=>simp[hb,hc]at h
   |true=>
    simp only[hb,hc,Bool.and_self,cond_true,aY]at h;subst h;exact⟨FU.2 ⟨e,Array.mem_toList_iff.1 he,rfl,hb⟩,by rw[hd,cz hc]⟩
theorem YY {l:List ax} {sp sp':Nat->Sp} {a0 a1:Act} {o:ax}:yG (iu l sp a0 o) o=true->yG (iu l sp' a1 o) o=true:=by
 intro h;unfold yG at*;simp only[bu]at*;refine⟨?_,h.2⟩;rw[J8]at*;intro x hx;cases x with
 |tmp t=>
  simp only;have hm:∀(env:List bh) (g:Nat->ae),Operand.tmp t∈env->((env.filterMap λx=>match x with|.tmp t=>some (t,g t)|_=>none).lookup t).isSome=true:=by
   intro env g;induction env with
   |nil=>intro h;simp at h
   |cons y env ih=>
    intro hm;rcases cn.1 hm with h|h
    ·subst h;simp
    ·cases y with
     |tmp s=>
      simp only[List.filterMap_cons,List.lookup_cons];split
      ·rfl
      ·exact ih h
     |_=>simp only[List.filterMap_cons];exact ih h
  exact hm _ _ (Array.mem_toList_iff.2 hx)
 |_=>rfl
section
variable{P:aL} {lf l:List ax} {sp:Nat->Sp} {a0:Act} {w:ag} {i:Nat} {o:ax}
theorem P2 (hs:A5 l sp i o=true) (h:∀w',Ch [] w w'->Yields P o (j8 (iu l sp a0 o)) w' λv fY=>Ch [] w' fY/\v=(sp i).f []):v9 P lf l sp (cP a0) w i o:=by
 simp only[A5,bu]at hs;obtain⟨⟨⟨⟨hg,hk⟩,hb⟩,nj⟩,dw⟩:=hs;have FX:o.guard=none:=by cases hx:o.guard<;>simp_all
 have oU:(sp i).k=0:=cz hk;have wk:(sp i).bl []=[]:=by
  revert hb;cases(sp i).bl []<;>simp
 intro y w' hc tp gA;refine⟨λ_=>?_,λhw=>by simp[nW,FX]at hw⟩;refine mC (iu l sp a0 o) (P1 λp hp=>?_) ?_ (YY nj)
 ·simp only[iu,List.mem_filterMap]at hp;obtain⟨x,hx,hp⟩:=hp;cases x with
  |tmp t=>
   simp only[aY]at hp;subst hp;have h1:=gm.1 dw _ hx;simp only at h1;unfold valOf;cases gd:wg l o t with
   |some j=>
    rw[gd]at h1;obtain⟨he,hd⟩:=Ks gd;obtain⟨ids,h2,h3,_⟩:=gA j t he hd;have h4:(sp j).k=0:=cz h1;obtain rfl:ids=[]:=nf (by rw[h2,h4]);exact h3
   |none=>
    rw[gd]at h1;exact tp t h1
  |_=>simp at hp
 ·have:=h w' hc;unfold Yields at this⊢;split at this
  ·exact⟨this.1,[],by simp[oU],this.2,by rw[wk];simp⟩
  ·exact⟨this.1,[],by simp[oU],this.2,by rw[wk];simp⟩
  ·exact this.mono λv fY h=>⟨h.1,[],by simp[oU],h.2,by rw[wk];simp⟩
  ·exact this.elim
theorem iy (hs:A5 l sp i o=true:=by kernel_rfl) (h:(λw=>(execOp (j8 (iu l sp a0 o)) o).run P w)=(λw=>.ok (.value ((sp i).f [])) w):=by kernel_rfl):v9 P lf l sp (cP a0) w i o:=
 P2 hs λw' _=>by
  have h2:(execOp (j8 (iu l sp a0 o)) o).run P w'=.ok (.value ((sp i).f [])) w':=congrFun h w';unfold Yields;rw[h2];exact⟨Ch.refl _ _,rfl⟩
theorem qE_ (v0:ae) (he:v0=(sp i).f []) (hs:A5 l sp i o=true:=by kernel_rfl) (h:(λw=>(execOp (j8 (iu l sp a0 o)) o).run P w)=(λw=>.ok (.value v0) w):=by kernel_rfl):v9 P lf l sp (cP a0) w i o:=by
 subst he;exact iy hs h
theorem qS_ (kd:fq) (e:Int) (he:kd.wrap e=e) (hv:(sp i).f []=.int kd e:=by kernel_rfl) (hs:A5 l sp i o=true:=by kernel_rfl) (h:(λw=>(execOp (j8 (iu l sp a0 o)) o).run P w)=(λw=>.ok (.value (.int kd (kd.wrap e))) w):=by kernel_rfl):v9 P lf l sp (cP a0) w i o:=
 qE_ (.int kd (kd.wrap e)) (by rw[he,hv]) hs h
variable{ms:List Nat} {w0:ag} {bs:List aj}
theorem Kt (S:St ms w0 bs w) (j b off:Nat) {x:bh} {ty:aJ} (ho:o.op=.load ty x:=by rfl) (hs:A5 l sp i o=true:=by kernel_rfl) (hx:j8 (iu l sp a0 o) x=.pointer (some ⟨b,off,none⟩):=by kernel_rfl)
 (ha:(P.underlying ty).map jy=some false:=by kernel_rfl) (hb:lk bs j off=some (b,(sp i).f []):=by kernel_rfl):v9 P lf l sp (cP a0) w i o:=
 P2 hs λw' hc=>Y.pP (S.quiet hc) j _ b off ⟨Ch.refl _ _,rfl⟩ ho hx ha hb
theorem FY (S:St ms w0 bs w) (j b off n:Nat) (vs:Array ae) {x:bh} {ty:aJ} (ho:o.op=.load ty x:=by rfl) (hv:(sp i).f []=.agg vs:=by kernel_rfl) (hs:A5 l sp i o=true:=by kernel_rfl) (hx:j8 (iu l sp a0 o) x=.pointer (some ⟨b,off,none⟩):=by kernel_rfl)
 (ha:(P.underlying ty).map jy=some true:=by kernel_rfl) (hn:(P.info? ty).map (·.size)=some n:=by kernel_rfl) (hb:yz bs j off n=some (b,vs):=by kernel_rfl):v9 P lf l sp (cP a0) w i o:=
 P2 hs λw' hc=>Y.kA (S.quiet hc) j n vs b off ⟨Ch.refl _ _,hv.symm⟩ ho hx ha hn hb
end
theorem YZ {vs:Nat->ae}:∀{dV:List ae} {k:Nat},(∀i v,dV[i]?=some v->vs (k+i)=v)->AZ vs k dV
 |[],_,_=>trivial
 |v::dV,k,h=>⟨by have:=h 0 v rfl;simpa using this,YZ λi u hu=>by
  have:=h (i+1) u (by simpa using hu)
  rwa [show k+(i+1)=k+1+i by omega]at this⟩
theorem ag6 {P:aL} {a0:Act} {w0:ag} {Q:eE->Act->ag->Prop} {id:Nat} {L:List ax} (m:Nat) (dV:List ae) (paths:List (List Nat))
 (hs:ru P L (L.take m) (rC (dV.map s0)) (cP a0) w0 0 (L.take m))
 (hq:∀w',Ch [] w0 w'->WL P L.toArray Q (L.drop m) (te dV (L.take m) a0) w')
 (P3:dV.length=m:=by kernel_rfl)
 (hm:P.follows .mixedOrders=true:=by kernel_rfl) (hl:bG m L.length=true:=by kernel_rfl) (ht:rv L m paths=true:=by kernel_rfl) (kC:FR a0.tmps.size (L.take m)=true:=by kernel_rfl) (gz:oS 0 L=true:=by kernel_rfl):(Code.region id L.toArray true).wp P Q a0 w0:=by
 refine A1 m (dV.map s0) paths hs (λvs w' hc dw=>⟨dV,P3,YZ λi v hv=>?_,hq w' hc⟩) hm hl ht kC gz;have hi:i<m:=by
  rcases cZ i dV.length with h|h
  ·omega
  ·simp[h]at hv
 obtain⟨ids,h1,h2,_⟩:=dw i (by unfold cD;exact uu hi);have h3:rC (dV.map s0) i=s0 v:=by
  unfold rC;rw[pH,jt,hv];rfl
 rw[h3]at h1 h2;obtain rfl:ids=[]:=nf (by simpa[s0]using h1);rw[eY,h2];rfl
end Sx
namespace Sx
open Go Go.RowKit Go.BigFrame
section
variable{P:aL} {ops:Array ax} {rest:List ax} {o:ax} {a:Act} {w:ag} {Q:eE->Act->ag->Prop}
end
section
variable{P:aL} {lf l:List ax} {sp:Nat->Sp} {y0:Nat->ae} {w:ag} {i:Nat} {o:ax}
end
end Sx
namespace Sx
open Go Go.RowKit Go.BigFrame
def HQ (k0:Nat) (pv:ae->ag->Prop) (sp:Nat->Sp) (B:Nat) (i:Nat) (v:ae) (w:ag):Prop:=match az i k0 with|true=>pv v w|false=>(sp i).holds B v w
def yI (k0:Nat) (l:List ax) (sp:Nat->Sp) (i:Nat) (o:ax):Bool:=o.guard.isNone&&yG (iu l sp ⟨#[],[]⟩ o) o&&
 o.op.operands.toList.all λx=>match x with|.tmp t=>(match wg l o t with|some j=>!(az j k0)&&az (sp j).k 0|none=>v8 l i t)|_=>true
section
variable{P:aL} {lf l:List ax} {sp:Nat->Sp} {a0:Act} {w:ag} {i k0:Nat} {pre:List (List Nat)} {o:ax} {es:List Nat} {pv:ae->ag->Prop}
theorem P4 {H:Nat->ae->ag->Prop} (hs:yI k0 l sp i o=true) {B:Nat} {y:Nat->ae} {w':ag} (tp:∀t,v8 l i t=true->y t=cP a0 t) (gA:∀j d,kX o j=true->(l[j]?).bind (·.dst)=some d->HQ k0 pv sp B j (y d) w'):
 yF y (iu l sp a0 o)/\yG (iu l sp a0 o) o=true/\o.guard=none:=by
 simp only[yI,bu]at hs;obtain⟨⟨hg,nj⟩,dw⟩:=hs;refine⟨P1 λp hp=>?_,YY nj,by cases hx:o.guard<;>simp_all⟩;simp only[iu,List.mem_filterMap]at hp;obtain⟨x,hx,hp⟩:=hp;cases x with
 |tmp t=>
  simp only[aY]at hp;subst hp;have h1:=gm.1 dw _ hx;simp only at h1;unfold valOf;cases gd:wg l o t with
  |some j=>
   rw[gd]at h1;obtain⟨he,hd⟩:=Ks gd;simp only[bu,my]at h1;have h2:=gA j t he hd;unfold HQ at h2;rw[h1.1]at h2;obtain⟨ids,h3,h4,_⟩:=h2;have h5:(sp j).k=0:=cz h1.2;obtain rfl:ids=[]:=nf (by rw[h3,h5]);exact h4
  |none=>
   rw[gd]at h1;exact tp t h1
 |_=>simp at hp
theorem Ku (cE:az i k0=false) (hk:(sp i).k=0) (hb:(sp i).bl []=[]) (hs:yI k0 l sp i o=true) (h:∀w',Ch es w w'->Yields P o (j8 (iu l sp a0 o)) w' λv fY=>Ch [] w' fY/\v=(sp i).f []):
 rH P k0 pre es (HQ k0 pv sp w.heap.size) lf l (cP a0) w i o:=by
 intro y w' _ hc tp gA;obtain⟨FZ,nj,hg⟩:=P4 (H:=λ_ _ _=>True) hs tp gA;have gB:i≠k0:=λe=>by rw[e]at cE;simp at cE
 have hH:∀v fY,v=(sp i).f []->HQ k0 pv sp w.heap.size i v fY:=λv fY e=>by
  unfold HQ;rw[cE];exact⟨[],by simp[hk],e,by rw[hb];simp⟩
 refine⟨λ_=>?_,λhw=>by simp[nW,hg]at hw⟩;refine mC _ FZ ?_ nj;have:=h w' hc;unfold Yields at this⊢;split at this
 ·exact⟨λe'=>absurd e' gB,λ_=>this.1,hH _ _ this.2⟩
 ·exact⟨λe'=>absurd e' gB,λ_=>this.1,hH _ _ this.2⟩
 ·exact this.mono λv fY h=>⟨λe'=>absurd e' gB,λ_=>h.1,hH _ _ h.2⟩
 ·exact this.elim
def Dt (k0:Nat) (l:List ax) (sp:Nat->Sp) (i:Nat) (o:ax):Bool:=!(az i k0)&&az (sp i).k 0&&(sp i).bl [] matches[]&&yI k0 l sp i o
theorem Kv (h:Dt k0 l sp i o=true):az i k0=false/\(sp i).k=0/\(sp i).bl []=[]/\yI k0 l sp i o=true:=by
 simp only[Dt,bu,my]at h;refine⟨h.1.1.1,cz h.1.1.2,?_,h.2⟩;have:=h.1.2;revert this;cases(sp i).bl []<;>simp
theorem Du (hs:Dt k0 l sp i o=true:=by kernel_rfl) (h:(λw=>(execOp (j8 (iu l sp a0 o)) o).run P w)=(λw=>.ok (.value ((sp i).f [])) w):=by kernel_rfl):rH P k0 pre es (HQ k0 pv sp w.heap.size) lf l (cP a0) w i o:=by
 obtain⟨h1,h2,h3,h4⟩:=Kv hs;refine Ku h1 h2 h3 h4 λw' _=>?_;have h2:(execOp (j8 (iu l sp a0 o)) o).run P w'=.ok (.value ((sp i).f [])) w':=congrFun h w';unfold Yields;rw[h2];exact⟨Ch.refl _ _,rfl⟩
theorem eC_ (f:fL) (args:Array ae) (hg:∀w',aV P f args w' λv fY=>v=(sp i).f []/\Ch [] w' fY) (hs:Dt k0 l sp i o=true:=by kernel_rfl) (h:(λw=>(execOp (j8 (iu l sp a0 o)) o).run P w)=(λw=>.ok (.enter f args) w):=by kernel_rfl):rH P k0 pre es (HQ k0 pv sp w.heap.size) lf l (cP a0) w i o:=by
 obtain⟨h1,h2,h3,h4⟩:=Kv hs;refine Ku h1 h2 h3 h4 λw' _=>?_;have h2:(execOp (j8 (iu l sp a0 o)) o).run P w'=.ok (.enter f args) w':=congrFun h w';unfold Yields;rw[h2];exact(hg w').mono λv fY h=>⟨h.2,h.1⟩
variable{ms:List Nat} {w0:ag} {bs:List aj}
theorem Y0 (S:∀w',Ch es w w'->St ms w0 bs w') (j b off:Nat) {x:bh} {ty:aJ} (ho:o.op=.load ty x:=by rfl) (hs:Dt k0 l sp i o=true:=by kernel_rfl) (hx:j8 (iu l sp a0 o) x=.pointer (some ⟨b,off,none⟩):=by kernel_rfl)
 (ha:(P.underlying ty).map jy=some false:=by kernel_rfl) (hb:lk bs j off=some (b,(sp i).f []):=by kernel_rfl):rH P k0 pre es (HQ k0 pv sp w.heap.size) lf l (cP a0) w i o:=by
 obtain⟨h1,h2,h3,h4⟩:=Kv hs;exact Ku h1 h2 h3 h4 λw' hc=>Y.pP (S w' hc) j _ b off ⟨Ch.refl _ _,rfl⟩ ho hx ha hb
theorem F8 (S:∀w',Ch es w w'->St ms w0 bs w') (j b off n:Nat) (vs:Array ae) {x:bh} {ty:aJ} (ho:o.op=.load ty x:=by rfl) (hv:(sp i).f []=.agg vs:=by kernel_rfl) (hs:Dt k0 l sp i o=true:=by kernel_rfl) (hx:j8 (iu l sp a0 o) x=.pointer (some ⟨b,off,none⟩):=by kernel_rfl)
 (ha:(P.underlying ty).map jy=some true:=by kernel_rfl) (hn:(P.info? ty).map (·.size)=some n:=by kernel_rfl) (hb:yz bs j off n=some (b,vs):=by kernel_rfl):rH P k0 pre es (HQ k0 pv sp w.heap.size) lf l (cP a0) w i o:=by
 obtain⟨h1,h2,h3,h4⟩:=Kv hs;exact Ku h1 h2 h3 h4 λw' hc=>Y.kA (S w' hc) j n vs b off ⟨Ch.refl _ _,hv.symm⟩ ho hx ha hn hb
theorem ag7 (he:az i k0=true) (hs:yI k0 l sp i o=true) (h:∀w',Ch [] w w'->Yields P o (j8 (iu l sp a0 o)) w' λv fY=>Ch es w' fY/\pv v fY):
 rH P k0 pre es (HQ k0 pv sp w.heap.size) lf l (cP a0) w i o:=by
 intro y w' Dv _ tp gA;obtain⟨FZ,nj,hg⟩:=P4 (H:=λ_ _ _=>True) hs tp gA;have gB:i=k0:=cz he;refine⟨λ_=>?_,λhw=>by simp[nW,hg]at hw⟩;refine mC _ FZ ?_ nj;have:=h w' (Dv (.inl gB));have hH:∀v fY,pv v fY->HQ k0 pv sp w.heap.size i v fY:=λv fY e=>by unfold HQ;rw[he];exact e
 unfold Yields at this⊢;split at this
 ·exact⟨λ_=>this.1,λe=>absurd gB e,hH _ _ this.2⟩
 ·exact⟨λ_=>this.1,λe=>absurd gB e,hH _ _ this.2⟩
 ·exact this.mono λv fY e=>⟨λ_=>e.1,λe'=>absurd gB e',hH _ _ e.2⟩
 ·exact this.elim
def Y1 (b:Nat) (bs:List aj) (j off:Nat) (vs:List ae) (_:ae) (w:ag):Prop:=∃x,(vX bs j off vs)[j]?=some x/\w.heap[b]?=some x.obj
theorem Y2 (S:St ms w0 bs w) (j:Nat) (v:ae) (b off:Nat) {x y:bh} {ty:aJ} (ho:o.op=.store ty x y:=by rfl) (hs:yI k0 l sp i o=true:=by kernel_rfl) (he:az i k0=true:=by kernel_rfl) (hx:j8 (iu l sp a0 o) x=.pointer (some ⟨b,off,none⟩):=by kernel_rfl) (hy:j8 (iu l sp a0 o) y=v:=by kernel_rfl)
 (hn:(P.info? ty).map (·.size)=some v.cells.toList.length:=by kernel_rfl) (h1:v.cells.toList.all (·.oneCell')=true:=by kernel_rfl) (hb:yA bs j off v.cells.toList.length=some b:=by kernel_rfl):rH P k0 pre [b] (HQ k0 (Y1 b bs j off v.cells.toList) sp w.heap.size) lf l (cP a0) w i o:=by
 refine ag7 he hs λw' hc=>?_;obtain⟨cs,t,uF,hl⟩:=Kl hb;have aP:=(S.quiet hc).at_ j _ uF;unfold Yields execOp;simp only[ho,hx,hy,J2,ju,bE,du,cK,Kj (P:=P) aP rfl hn hl h1];refine⟨Ch.setRow w' b _,⟨b,true,.cells (splice cs off v.cells.toList) t (0,0)⟩,?_,setRow_heap w' b cs _ t (0,0) aP⟩;have hj:j<bs.length:=by
  rcases cZ j bs.length with h|h
  ·exact h
  ·simp[h]at uF
 simp only[vX,uF];rw[Pw hj]
theorem St.Y3 (S:St ms w0 bs w) (j off n:Nat) {b:Nat} (hb:yA bs j off n=some b):∀w',Ch [b] w w'->St ms w0 (bs.eraseIdx j) w':=by
 intro w' hc;obtain⟨cs,t,uF,_⟩:=Kl hb;have S1:St ms w0 ([]++([⟨b,true,.cells cs t (0,0)⟩]++bs.eraseIdx j)) w:=S.perm (YX uF);exact S1.less (by simp) (by simpa using hc)
end
theorem P5 {P:aL} {k0:Nat} {pre:List (List Nat)} {es:List Nat} {H:Nat->ae->ag->Prop} {lf l:List ax} {y0:Nat->ae} {w:ag} {i:Nat}:qa P k0 pre es H lf l y0 w i []:=trivial
theorem lX {P:aL} {k0:Nat} {pre:List (List Nat)} {es:List Nat} {H:Nat->ae->ag->Prop} {lf l:List ax} {y0:Nat->ae} {w:ag} {i:Nat} {o:ax} {rest:List ax} (h:rH P k0 pre es H lf l y0 w i o) (k:qa P k0 pre es H lf l y0 w (i+1) rest):qa P k0 pre es H lf l y0 w i (o::rest):=⟨h,k⟩
theorem P6 {vs:Nat->ae}:∀{l:List ax} {dV:List ae} {k:Nat} {a:Act},dV.length=l.length->(∀i o v,l[i]?=some o->dV[i]?=some v->o.dst=none\/vs (k+i)=v)->gy vs k l a=te dV l a
 |[],[],_,_,_,_=>rfl
 |o::rest,v::dV,k,a,h,hv=>by
  simp only[gy,te];have h0:=hv 0 o v rfl rfl;have e:a.put o.dst (vs k)=a.put o.dst v:=by
   rcases h0 with h0|h0
   ·rw[h0];rfl
   ·rw[pG]at h0;rw[h0]
  rw[e];exact P6 (by simpa using h) λi o' v' h1 h2=>by
   have:=hv (i+1) o' v' (by simpa using h1) (by simpa using h2)
   rwa [show k+(i+1)=k+1+i by omega]at this
 |[],_::_,_,_,h,_=>by simp at h
 |_::_,[],_,_,h,_=>by simp at h
section
variable{P:aL} {a0:Act} {w w0:ag} {Q:eE->Act->ag->Prop} {id:Nat} {L:List ax} {ms:List Nat} {bs:List aj}
theorem Y4 (m k0:Nat) (pre:List (List Nat)) (es:List Nat) (pv:ae->ag->Prop) (dV:List ae) (paths:List (List Nat)) (sp:Nat->Sp)
 (gA:FW (L.take m) k0 pre=true) (hpv:∀v w w',Ch [] w w'->pv v w->pv v w') (gV:∀x∈es,x<w.heap.size)
 (hs:qa P k0 pre es (HQ k0 pv sp w.heap.size) L (L.take m) (cP a0) w 0 (L.take m))
 (hq:∀(vs:Nat->ae) w',Ch es w w'->(∀i,i<m->HQ k0 pv sp w.heap.size i (vs i) w')->WL P L.toArray Q (L.drop m) (gy vs 0 (L.take m) a0) w')
 (hm:P.follows .mixedOrders=true) (hl:bG m L.length=true) (ht:rv L m paths=true) (kC:Dr a0.tmps.size (L.take m)=true) (gz:oS 0 L=true):(Code.region id L.toArray true).wp P Q a0 w:=by
 have rF:(L.take m).length=m:=by have:=dJ hl;simp;omega
 have h:=ag3 (id:=id) (Q:=Q) (P:=P) (k0:=k0) (es:=es) (H:=HQ k0 pv sp w.heap.size) (a0:=a0) (w0:=w) (L.take m) (L.drop m) ?_ gA ?_ paths hm (by rw[jS,rF];exact ht) kC (by rw[jS];exact gz) (by rw[jS];exact hs) ?_
 ·rwa [jS]at h
 ·intro i v w1 w2 hc hH;unfold HQ at*;split at hH
  ·exact hpv _ _ _ hc hH
  ·exact hH.FP hc
 ·intro i v w1 w2 gB hle hc hH;unfold HQ at*;split at hH
  ·rename_i h;exact absurd (cz h) gB
  ·obtain⟨ids,h1,h2,h3⟩:=hH;refine⟨ids,h1,h2,λp hp=>⟨(h3 p hp).1,(hc.block _ (pO (h3 p hp).2) (λhx=>?_)).trans (h3 p hp).2⟩⟩;have:=gV _ hx;have:=(h3 p hp).1;omega
 ·intro vs w' hc dw;rw[jS];exact(hq vs w' hc λi hi=>dw i _ (jv (by omega))).out
theorem Y5 (S:St ms w0 bs w) (m k0 j b off:Nat) (pre:List (List Nat)) (v:ae) (dV:List ae) (paths:List (List Nat))
 (hs:qa P k0 pre [b] (HQ k0 (Y1 b bs j off v.cells.toList) (rC (dV.map s0)) w.heap.size) L (L.take m) (cP a0) w 0 (L.take m))
 (hq:∀w',St ms w0 (vX bs j off v.cells.toList) w'->WL P L.toArray Q (L.drop m) (te dV (L.take m) a0) w')
 (hb:yA bs j off v.cells.toList.length=some b:=by kernel_rfl) (hk:((L.take m)[k0]?).map (·.dst)=some none:=by kernel_rfl) (P3:dV.length=m:=by kernel_rfl) (gA:FW (L.take m) k0 pre=true:=by kernel_rfl)
 (hm:P.follows .mixedOrders=true:=by kernel_rfl) (hl:bG m L.length=true:=by kernel_rfl) (ht:rv L m paths=true:=by kernel_rfl) (kC:Dr a0.tmps.size (L.take m)=true:=by kernel_rfl) (gz:oS 0 L=true:=by kernel_rfl):(Code.region id L.toArray true).wp P Q a0 w:=by
 obtain⟨cs,t,uF,hle⟩:=Kl hb;have rF:(L.take m).length=m:=by have:=dJ hl;simp;omega
 have hj:j<bs.length:=by
  rcases cZ j bs.length with h|h
  ·exact h
  ·simp[h]at uF
 have fw:vX bs j off v.cells.toList=bs.set j ⟨b,true,.cells (splice cs off v.cells.toList) t (0,0)⟩:=by simp only[vX,uF]
 refine Y4 m k0 pre [b] _ dV paths _ gA ?_ ?_ hs ?_ hm hl ht kC gz
 ·rintro v' w1 w2 hc ⟨x,h1,h2⟩;exact⟨x,h1,(hc.block _ (pO h2) (by simp)).trans h2⟩
 ·intro x hx;obtain rfl:=iH.1 hx;exact S.lt uF
 ·intro vs w' hc dw;obtain⟨ok,hok,hdk⟩:=im.1 hk;have rI:k0<m:=by
   rcases cZ k0 m with h|h
   ·exact h
   ·rw[jc (by omega)]at hok;simp at hok
  have hp:gy vs 0 (L.take m) a0=te dV (L.take m) a0:=P6 (by omega) λi o u ho hu=>by
   have hi:i<m:=by
    rcases cZ i dV.length with h|h
    ·omega
    ·simp[h]at hu
   by_cases gB:i=k0
   ·subst gB;rw[hok]at ho;exact .inl (by rw[<-cG ho];exact hdk)
   ·have hH:=dw i hi;unfold HQ at hH;have cE:az i k0=false:=by
     cases hx:az i k0
     ·rfl
     ·exact absurd (cz hx) gB
    rw[cE]at hH;obtain⟨ids,h1,h2,_⟩:=hH;have h3:rC (dV.map s0) i=s0 u:=by
     unfold rC;rw[pH,jt,hu];rfl
    rw[h3]at h1 h2;obtain rfl:ids=[]:=nf (by simpa[s0]using h1);refine .inr ?_;rw[eY,h2];rfl
  rw[hp];refine hq w' ?_;have hH:=dw k0 rI;unfold HQ at hH;rw[show az k0 k0=true from sY k0]at hH;obtain⟨x,hx,hxo⟩:=hH;rw[fw,Pw hj]at hx;obtain rfl:=cG hx;rw[fw];exact S.step uF rfl (by simpa using hc) hxo
end
end Sx
namespace Sx
open Go Go.RowKit Go.BigFrame
section
variable{P:aL} {ops:Array ax} {rest:List ax} {o:ax} {a:Act} {w w0:ag} {ms:List Nat} {bs:List aj} {Q:eE->Act->ag->Prop}
end
end Sx
namespace Sx
open Go Go.RowKit Go.BigFrame
section
variable{P:aL} {a:Act} {w:ag} {Q:eE->Act->ag->Prop}
end
section
variable{P:aL} {ops:Array ax} {rest:List ax} {o:ax} {a:Act} {w:ag} {Q:eE->Act->ag->Prop}
end
end Sx
namespace Sx
open Go Go.RowKit Go.BigFrame
section
variable{P:aL} {ops:Array ax} {rest:List ax} {o:ax} {a:Act} {w:ag} {Q:eE->Act->ag->Prop} {z T m n c:Nat} {news:List ae} {s x:bh} {t tx:aJ} {xv:ae}
end
end Sx
namespace Sx.Y
open Go Go.RowKit Go.BigFrame
variable{P:aL} {w:ag} {o:ax} {R:ae->ag->Prop} {ρ:bh->ae}
end Sx.Y
namespace Sx
open Go Go.RowKit Go.BigFrame
section
variable{P:aL} {ops:Array ax} {rest:List ax} {o:ax} {a:Act} {w w0:ag} {ms:List Nat} {bs:List aj} {Q:eE->Act->ag->Prop}
end
end Sx
namespace Sx
open Go Go.RowKit Go.BigFrame
theorem tm.le {z T olds n bl B B' v} {w:ag} (h:tm z T olds n bl B v w) (hb:B'<=B):tm z T olds n bl B' v w:=by
 obtain⟨x,c,bl',h1,h2,h3⟩:=h;exact⟨x,c,bl',h1,h2,λy hy=>⟨(h3 y hy).1,(h3 y hy).2.imp id (λh=>hY hb h)⟩⟩
def sB (m:Nat) (news:List ae) (T:aJ):Sp:=⟨1,λids=>.slice (some ⟨ids.getD 0 0,0,none⟩) m m,λids=>[(ids.getD 0 0,.cells news.toArray T (0,0))]⟩
section
variable{P:aL} {lf l:List ax} {sp:Nat->Sp} {a0:Act} {w:ag} {i k0:Nat} {pre:List (List Nat)} {o:ax} {es:List Nat} {pv:ae->ag->Prop}
theorem eB_ (m:Nat) (news:List ae) (T:aJ) (rD:sp i=sB m news T:=by rfl) (cE:az i k0=false:=by kernel_rfl) (hs:yI k0 l sp i o=true:=by kernel_rfl)
 (h:(λw=>(execOp (j8 (iu l sp a0 o)) o).run P w)=(λw=>.ok (.value (.slice (some ⟨w.heap.size,0,none⟩) m m)) (w.alloc (.cells news.toArray T (0,0)))):=by kernel_rfl):
 rH P k0 pre es (HQ k0 pv sp w.heap.size) lf l (cP a0) w i o:=by
 intro y w' _ hc tp gA;obtain⟨FZ,nj,hg⟩:=P4 (H:=λ_ _ _=>True) hs tp gA;have gB:i≠k0:=λe=>by rw[e]at cE;simp at cE
 refine⟨λ_=>?_,λhw=>by simp[nW,hg]at hw⟩;refine mC _ FZ ?_ nj;have h2:(execOp (j8 (iu l sp a0 o)) o).run P w'=_:=congrFun h w';unfold Yields;rw[h2];refine⟨λe=>absurd e gB,λ_=>Ch.alloc _ _ _,?_⟩;unfold HQ;rw[cE,rD];refine⟨[w'.heap.size],rfl,rfl,λp hp=>?_⟩;obtain rfl:=iH.1 hp;exact⟨hc.size,nT w' _⟩
variable{ms:List Nat} {w0:ag}
theorem eA_ {A bl R:List aj} {xs:Option aQ} {z n c:Nat} {T T':aJ} {olds:List ae} (S:St ms w0 (A++(bl++R)) w) (hr:fu z T olds xs n c bl) (d1 d2 j2 m:Nat) (news:List ae) (bytes:Nat) {t tx e':aJ}
 (hbd:(n+m)*bytes<=140737488355328) (h63:n+m<=maxLen) (ho:o.op=.call ⟨.builtin .append,#[.tmp d1,.tmp d2],#[t,tx]⟩:=by rfl) (pW:news.length=m*z:=by rfl) (h1:news.all (·.oneCell')=true:=by kernel_rfl)
 (hg:o.guard.isNone=true:=by kernel_rfl) (he:az i k0=true:=by kernel_rfl)
 (iT:(match wg l o d1 with|some j=>!(az j k0)&&az (sp j).k 0|none=>v8 l i d1)=true:=by kernel_rfl) (uG:valOf l sp a0 o d1=.slice xs n c:=by kernel_rfl)
 (qc:wg l o d2=some j2:=by kernel_rfl) (wb:az j2 k0=false:=by kernel_rfl) (rD:sp j2=sB m news T':=by rfl)
 (ht:P.underlying t=some (.slice T):=by kernel_rfl) (gG:P.underlying tx=some (.slice e'):=by kernel_rfl) (cu:(P.info? T).map (λi=>(i.zero.map (·.cells.size),i.size,i.bytes))=some (some z,z,bytes):=by kernel_rfl):
 rH P k0 pre (bl.map aj.id) (HQ k0 (tm z T (olds++news) (n+m) bl w.heap.size) sp w.heap.size) lf l (cP a0) w i o:=by
 intro y w' Dv hc tp gA;have gB:i=k0:=cz he;have FX:o.guard=none:=by cases hx:o.guard<;>simp_all
 have hy1:y d1=.slice xs n c:=by
  unfold valOf at uG;cases gd:wg l o d1 with
  |some j=>
   rw[gd]at uG iT;obtain⟨F9,hd⟩:=Ks gd;simp only[bu,my]at iT;have h2:=gA j d1 F9 hd;unfold HQ at h2;rw[iT.1]at h2;obtain⟨ids,h3,h4,_⟩:=h2;have h5:(sp j).k=0:=cz iT.2;obtain rfl:ids=[]:=nf (by rw[h3,h5]);rw[h4];exact uG
  |none=>
   rw[gd]at uG iT;rw[tp d1 iT];exact uG
 obtain⟨b,hy2,hb⟩:∃b,y d2=.slice (some ⟨b,0,none⟩) m m/\w'.heap[b]?=some (.cells news.toArray T' (0,0)):=by
  obtain⟨F9,hd⟩:=Ks qc;have h2:=gA j2 d2 F9 hd;unfold HQ at h2;rw[wb,rD]at h2;obtain⟨ids,h3,h4,h5⟩:=h2
  match ids,h3 with
  |[b],_=>exact⟨b,h4,(h5 (b,.cells news.toArray T' (0,0)) (iH.2 rfl)).2⟩
 have gd:Src P z tx (.slice (some ⟨b,0,none⟩) m m) m news w':=by
  refine sW w' gG ⟨b,0,none⟩ m m news pW (λj u hj=>?_) (λu hu=>gm.1 h1 u hu);rw[iS,cell_of hb];simpa using hj
 have Sq:=S.quiet (Dv (.inl gB));obtain⟨v,fY,bQ,hc2,hR⟩:=Dq (P:=P) (ty:=o.type) (w:=w') hr (λy hy=>Sq.at' (by simp[hy])) bytes gd ht cu hbd h63;refine⟨λ_=>?_,λhw=>by simp[nW,FX]at hw⟩;unfold Yields;rw[j_ (ρ:=v7 y) ho (sv:=.slice xs n c) (xv:=.slice (some ⟨b,0,none⟩) m m) hy1 hy2 bQ];refine⟨λ_=>hc2,λe=>absurd gB e,?_⟩;unfold HQ;rw[he];exact hR.le hc.size
end
section
variable{P:aL} {a0:Act} {w w0:ag} {Q:eE->Act->ag->Prop} {id:Nat} {L:List ax} {ms:List Nat}
theorem ag8 {A bl R:List aj} {xs:Option aQ} {z n c:Nat} {T T':aJ} {olds:List ae} (S:St ms w0 (A++(bl++R)) w) (hr:fu z T olds xs n c bl) (m k0 i1 mm:Nat) (news:List ae) (pre:List (List Nat)) (dV:List ae) (paths:List (List Nat))
 (hs:qa P k0 pre (bl.map aj.id) (HQ k0 (tm z T (olds++news) (n+mm) bl w.heap.size) (rC ((dV.map s0).set i1 (sB mm news T'))) w.heap.size) L (L.take m) (cP a0) w 0 (L.take m))
 (hq:∀x' c' bl' u w',fu z T (olds++news) x' (n+mm) c' bl'->St ms w0 (A++(bl'++R)) w'->WL P L.toArray Q (L.drop m) (te ((dV.set k0 (.slice x' (n+mm) c')).set i1 u) (L.take m) a0) w')
 (hk:cD k0 m=true:=by kernel_rfl) (hi:cD i1 m=true:=by kernel_rfl) (gB:az i1 k0=false:=by kernel_rfl) (P3:dV.length=m:=by kernel_rfl) (gA:FW (L.take m) k0 pre=true:=by kernel_rfl)
 (hm:P.follows .mixedOrders=true:=by kernel_rfl) (hl:bG m L.length=true:=by kernel_rfl) (ht:rv L m paths=true:=by kernel_rfl) (kC:Dr a0.tmps.size (L.take m)=true:=by kernel_rfl) (gz:oS 0 L=true:=by kernel_rfl):(Code.region id L.toArray true).wp P Q a0 w:=by
 have rF:(L.take m).length=m:=by have:=dJ hl;simp;omega
 have oU:k0<m:=by simpa[iG]using hk
 have je:i1<m:=by simpa[iG]using hi
 have cE:i1≠k0:=λe=>by rw[e]at gB;simp at gB
 refine Y4 m k0 pre (bl.map aj.id) (tm z T (olds++news) (n+mm) bl w.heap.size) dV paths _ gA (λv w1 w2 hc h=>tm.FP h hc) ?_ hs ?_ hm hl ht kC gz
 ·intro x hx;obtain⟨y,hy,rfl⟩:=lP.1 hx;exact S.ge (by simp[hy])
 ·intro vs w' hc dw;have hK:=dw k0 oU;unfold HQ at hK;rw[show az k0 k0=true from sY k0]at hK;obtain⟨x',c',bl',hv,fZ,aP⟩:=hK;have S2:=S.uE hr.wr hc (λy hy=>(aP y hy).1) (λy hy=>(aP y hy).2) fZ.pw;have hp:gy vs 0 (L.take m) a0=te ((dV.set k0 (.slice x' (n+mm) c')).set i1 (vs i1)) (L.take m) a0:=P6 (by rw[List.length_set,List.length_set];omega) λi o u ho hu=>by
   have Kw:i<m:=by
    rcases cZ i m with h|h
    ·exact h
    ·rw[jc (by simp;omega)]at hu;simp at hu
   refine .inr ?_;rw[eY];by_cases h1:i=i1
   ·subst h1;rw[Pw (by simp;omega)]at hu;exact cG hu
   ·rw[J1 (λe=>h1 e.symm)]at hu;by_cases h2:i=k0
    ·subst h2;rw[Pw (by omega)]at hu;rw[hv];exact cG hu
    ·rw[J1 (λe=>h2 e.symm)]at hu;have hH:=dw i Kw;unfold HQ at hH;have hb:az i k0=false:=by
      cases hx:az i k0
      ·rfl
      ·exact absurd (cz hx) h2
     rw[hb]at hH;obtain⟨ids,g1,g2,_⟩:=hH;have h3:rC ((dV.map s0).set i1 (sB mm news T')) i=s0 u:=by
      unfold rC;rw[pH,J1 (λe=>h1 e.symm),jt,hu];rfl
     rw[h3]at g1 g2;obtain rfl:ids=[]:=nf (by simpa[s0]using g1);rw[g2];rfl
  rw[hp];exact hq x' c' bl' (vs i1) w' fZ S2
end
def Dw (val:ae) (Q:List aj->Prop) (bl:List aj) (B:Nat) (v:ae) (w:ag):Prop:=
 v=val/\∃bl',Q bl'/\(∀y∈bl',w.heap[y.id]?=some y.obj/\(y.wr=true->(∃u∈bl,y.id=u.id)\/B<=y.id))/\bl'.Pairwise A2
theorem Dw.FP {val Q bl B v} {w w':ag} (h:Dw val Q bl B v w) (hc:Ch [] w w'):Dw val Q bl B v w':=by
 obtain⟨h1,bl',h2,h3,h4⟩:=h;exact⟨h1,bl',h2,λy hy=>⟨(hc.block _ (pO (h3 y hy).1) (by simp)).trans (h3 y hy).1,(h3 y hy).2⟩,h4⟩
section
variable{P:aL} {lf l:List ax} {sp:Nat->Sp} {a0:Act} {w:ag} {i k0:Nat} {pre:List (List Nat)} {o:ax} {es:List Nat} {pv:ae->ag->Prop}
variable{ms:List Nat} {w0:ag} {bs:List aj}
end
section
variable{P:aL} {a0:Act} {w w0:ag} {Q:eE->Act->ag->Prop} {id:Nat} {L:List ax} {ms:List Nat}
end
def cat (iz:List (List aj)) (R:List aj):List aj:=iz.foldr (·++·) R
theorem ag9 (iz:List (List aj)) (R:List aj):cat iz R=iz.flatten++R:=by
 induction iz with
 |nil=>rfl
 |cons a l ih=>simp[cat]at ih⊢;exact ih
def Kx (n:Nat) (is:List Nat):Bool:=is.all (λi=>cD i n)&&Ky is
where Ky:List Nat->Bool
 |[]=>true
 |i::l=>!(l.any (az i))&&Ky l
theorem Y6:∀{l:List Nat},Kx.Ky l=true->l.Nodup
 |[],_=>List.nodup_nil
 |i::l,h=>by
  simp only[Kx.Ky,bu,my]at h;refine ri.2 ⟨λhm=>?_,Y6 h.2⟩;have:l.any (az i)=true:=AD.2 ⟨i,hm,by simp⟩;rw[this]at h;exact absurd h.1 (by simp)
section
variable{ms:List Nat} {w0 w:ag}
theorem F_:∀(is l:List Nat),is.Nodup->(∀i∈is,i∈l)->∃r,l.Perm (is++r)
 |[],l,_,_=>⟨l,List.Perm.refl _⟩
 |i::is,l,hn,hm=>by
  have ta:=ri.1 hn;obtain⟨r,hr⟩:=F_ is (l.erase i) ta.2 (λj hj=>(List.mem_erase_of_ne (λe=>ta.1 (by rw[<-e];exact hj))).2 (hm j (by simp[hj])));exact⟨r,(List.perm_cons_erase (hm i (by simp))).trans (by simpa using hr.cons i)⟩
theorem ag_ {α:Type} (iz:List α) (d:α) (is:List Nat) (hn:is.Nodup) (dL:∀i∈is,i<iz.length):∃rest,iz.Perm (is.map (λi=>iz.getD i d)++rest):=by
 have hr:(bw iz.length).map (λi=>iz.getD i d)=iz:=by
  apply List.ext_getElem
  ·simp
  ·intro i h1 h2;simp[pH,h2]
 obtain⟨r,yJ⟩:=F_ is (bw iz.length) hn (λi hi=>List.mem_range.2 (dL i hi));refine⟨r.map λi=>iz.getD i d,?_⟩;rw[<-rk];have:=yJ.map (λi=>iz.getD i d)
 rwa [hr]at this
theorem St.re {bs bs' R:List aj} (S:St ms w0 bs w) (iz:List (List aj)) (is:List Nat) (h1:bs=cat iz R:=by kernel_rfl) (h2:Kx iz.length is=true:=by kernel_rfl) (h3:cat (is.map λi=>iz.getD i []) R=bs':=by kernel_rfl):St ms w0 bs' w:=by
 subst h1 h3;simp only[Kx,bu]at h2;obtain⟨rest,hp⟩:=ag_ iz [] is (Y6 h2.2) (λi hi=>by have:=gm.1 h2.1 i hi;unfold cD at this;exact dJ this);rw[ag9]at S⊢;have h4:St ms w0 ((is.map λi=>iz.getD i []).flatten++(rest.flatten++R)) w:=S.perm (by
  rw[<-bU,<-List.flatten_append];exact FC R hp.flatten)
 exact h4.sub (uv (mA _ _) _)
end
def Dx:Obj->Option aJ
 |.cells _ t _=>some t
 |_=>none
def sA (obj:Obj):Sp:=⟨1,λids=>.pointer (some ⟨ids.getD 0 0,0,none⟩),λids=>[(ids.getD 0 0,obj)]⟩
inductive VX where
 |v (x:ae)
 |a (obj:Obj)
def VX.sp:VX->Sp
 |.v x=>s0 x
 |.a o=>sA o
def VX.val (id:Nat):VX->ae
 |.v x=>x
 |.a _=>.pointer (some ⟨id,0,none⟩)
def Ga (ids:Nat->Nat):Nat->List VX->List aj
 |_,[]=>[]
 |i,.v _::xs=>Ga ids (i+1) xs
 |i,.a o::xs=>⟨ids i,true,o⟩::Ga ids (i+1) xs
section
variable{ms:List Nat} {w0 w:ag} {bs:List aj}
end
section
variable{P:aL} {lf l:List ax} {sp:Nat->Sp} {a0:Act} {w:ag} {i k0:Nat} {pre:List (List Nat)} {o:ax} {es:List Nat} {pv:ae->ag->Prop}
variable{ms:List Nat} {w0:ag} {bs:List aj}
end
section
variable{P:aL} {a0:Act} {w w0:ag} {Q:eE->Act->ag->Prop} {id:Nat} {L:List ax} {ms:List Nat}
end
theorem aha (iz:List (List aj)) (R:List aj):cat iz R=cat iz []++R:=by
 induction iz with
 |nil=>rfl
 |cons a l ih=>show a++cat l R=(a++cat l [])++R;rw[ih,bU]
section
variable{ms:List Nat} {w0 w:ag}
theorem St.split {A B R bs:List aj} (S:St ms w0 bs w) (iz:List (List aj)) (h1:bs=A++cat iz R:=by kernel_rfl) (h2:cat iz []=B:=by kernel_rfl):St ms w0 (A++(B++R)) w:=by
 subst h2;rw[<-aha,<-h1];exact S
end
section
variable{P:aL} {lf l:List ax} {sp:Nat->Sp} {a0:Act} {w:ag} {i k0:Nat} {pre:List (List Nat)} {o:ax} {es:List Nat} {pv:ae->ag->Prop}
variable{ms:List Nat} {w0:ag} {bs:List aj}
end
def aE (kd:fq) (n:Nat) (f:Nat->Int):Array ae:=((bw n).map λi=>eA kd (f i)).toArray
def n8 (f:Nat->Int) (i:Nat) (v:Int):Nat->Int:=λj=>bif az j i then v else f j
theorem Gb (kd:fq) (n:Nat) (f:Nat->Int):(aE kd n f).size=n:=by simp[aE]
theorem Y7 (kd:fq) {n:Nat} (f:Nat->Int) {i:Nat} (h:i<n):(aE kd n f)[i]?=some (.int kd (f i)):=by simp[aE,h]
theorem Y8 (f:Nat->Int) (i:Nat) (v:Int):n8 f i v i=v:=by simp[n8]
theorem P7 (f:Nat->Int) {i j:Nat} (v:Int) (h:j≠i):n8 f i v j=f j:=by
 have:az j i=false:=by
  cases hb:az j i
  ·rfl
  ·exact absurd (cz hb) h
 simp[n8,this]
theorem ahb (kd:fq) {n:Nat} (f:Nat->Int) {i:Nat} (h:i<n) (v:Int):splice (aE kd n f) i [.int kd v]=aE kd n (n8 f i v):=by
 apply fM;show((aE kd n f).toList.take i++[eA kd v]++(aE kd n f).toList.drop (i+1))=_;simp only[aE];apply List.ext_getElem
 ·simp;omega
 ·intro j h1 h2;simp only[ft,vQ,List.length_map,Ka,List.length_drop,h_,Kc]at h1 h2;rcases Nat.lt_trichotomy j i with hj|hj|hj
  ·rw[Kd (by simp;omega),Kd (by simp;omega)];simp[P7 _ _ (Nat.ne_of_lt hj)]
  ·subst hj;rw[Kd (by simp;omega),Yk (by simp;omega)];simp[Y8]
  ·rw[Yk (by simp;omega)];simp only[ft,vQ,List.length_map,Ka,h_,Kc,List.getElem_drop,List.getElem_map,List.getElem_range];rw[P7 _ _ (by omega)];congr 2;omega
theorem ahc (kd:fq) {n:Nat} {f g:Nat->Int} (h:∀i,i<n->f i=g i):aE kd n f=aE kd n g:=by
 unfold aE;congr 1;apply pI;intro i hi;rw[h i (List.mem_range.1 hi)]
section
variable{ms:List Nat} {w0 w:ag} {bs:List aj}
theorem ckF {kd:fq} {n:Nat} {f:Nat->Int} {i off b:Nat} {t:aJ} (ho:off<n) (hb:bs[i]?=some ⟨b,true,.cells (aE kd n f) t (0,0)⟩:=by kernel_rfl):yA bs i off 1=some b:=by
 have h2:bG (off+1) (aE kd n f).size=true:=by rw[Gb];exact uu ho
 unfold yA;rw[hb];simp only[h2]
theorem St.stF {kd:fq} {n:Nat} {f:Nat->Int} {i off b:Nat} {t:aJ} {v:Int} (S:St ms w0 (vX bs i off [.int kd v]) w) (ho:off<n) {bs':List aj} (hb:bs[i]?=some ⟨b,true,.cells (aE kd n f) t (0,0)⟩:=by kernel_rfl)
 (h2:bs.set i ⟨b,true,.cells (aE kd n (n8 f off v)) t (0,0)⟩=bs':=by kernel_rfl):St ms w0 bs' w:=by
 unfold vX at S;rw[hb]at S;simp only at S;rw[ahb kd f ho,h2]at S;exact S
end
section
variable{P:aL} {lf l:List ax} {sp:Nat->Sp} {a0:Act} {w:ag} {i k0:Nat} {pre:List (List Nat)} {o:ax} {es:List Nat} {pv:ae->ag->Prop}
variable{ms:List Nat} {w0:ag} {bs:List aj}
end
end Sx
namespace Sx
open Go Go.RowKit Go.BigFrame
def Wr (bl:List aj):Prop:=∀x∈bl,x.wr=true
theorem Wr.nil:Wr []:=λx h=>by cases h
theorem Wr.cons {b:aj} {l:List aj} (h:b.wr=true) (k:Wr l):Wr (b::l):=λx hx=>by
 rcases cn.1 hx with rfl|hx
 ·exact h
 ·exact k x hx
theorem Wr.app {a b:List aj} (h:Wr a) (k:Wr b):Wr (a++b):=λx hx=>by
 rcases fc.1 hx with hx|hx
 ·exact h x hx
 ·exact k x hx
def Ty (L:List Nat) (bl:List aj):Prop:=∀x∈bl,∃t,Dx x.obj=some t/\t∈L
theorem Ty.nil:Ty [] []:=λx h=>by cases h
theorem Ty.cons {b:aj} {l:List aj} {t:Nat} {L:List Nat} (h:Dx b.obj=some t) (k:Ty L l):Ty (t::L) (b::l):=λx hx=>by
 rcases cn.1 hx with rfl|hx
 ·exact⟨t,h,by simp⟩
 ·obtain⟨u,h1,h2⟩:=k x hx;exact⟨u,h1,by simp[h2]⟩
theorem Ty.app {a b:List aj} {L M:List Nat} (h:Ty L a) (k:Ty M b):Ty (L++M) (a++b):=λx hx=>by
 rcases fc.1 hx with hx|hx
 ·obtain⟨u,h1,h2⟩:=h x hx;exact⟨u,h1,by simp[h2]⟩
 ·obtain⟨u,h1,h2⟩:=k x hx;exact⟨u,h1,by simp[h2]⟩
def Y9 (L:List Nat) (ys:List (Option aJ)):Bool:=ys.all λy=>match y with|some t=>L.all λu=>!(az u t)|none=>true
theorem Ty.ne {L:List Nat} {bl:List aj} {ys:List (Option aJ)} (h:Ty L bl) (hd:Y9 L ys=true:=by kernel_rfl):∀x∈bl,∀t∈ys,Dx x.obj≠t:=λx hx t ht e=>by
 obtain⟨u,h1,h2⟩:=h x hx;have h3:=gm.1 hd t ht;rw[h1]at e;subst e;simp only at h3;have h4:=gm.1 h3 u h2;simp at h4
theorem fu.ty {z T olds x n c bl} (h:fu z T olds x n c bl):Ty [T] bl:=by
 rcases h.2.2 with⟨_,_,_,rfl⟩|⟨b,tail,_,rfl,_⟩
 ·intro x hx;cases hx
 ·exact Ty.cons rfl Ty.nil
end Sx
namespace Sx
open Go Go.RowKit Go.BigFrame
section
variable{P:aL} {a:Act} {w:ag} {Q:eE->Act->ag->Prop}
theorem Gc {K:Act->ag->Prop} (h:∀a',a'=a->K a' w):Exit.then K Q .normal a w:=h a rfl
theorem Kz {c:Code} (I:Nat->Act->ag->Prop) (n:Nat) (h:∀a',a'=a->I n a' w)
 (hs:∀m a w,I m a w->c.wp P (Exit.then (λa' w'=>∃k,k<m/\I k a' w') Q) a w):(Code.loop c).wp P Q a w:=agY I n (h a rfl) hs
end
end Sx
namespace Sx
open Go
def b9 (n:Nat) (f:Nat->Int):List ae:=(bw n).map λi=>eA .u8 (f i)
theorem gH (n:Nat) (f:Nat->Int):(b9 n f).length=n:=by simp[b9]
theorem rJ {n:Nat} (f:Nat->Int) {j:Nat} (h:j<n):(b9 n f)[j]?=some (.int .u8 (f j)):=by simp[b9,h]
theorem Gd {n:Nat} {f:Nat->Int}:∀v∈b9 n f,v.oneCell'=true:=λv h=>by
 simp only[b9,lP]at h;obtain⟨j,_,rfl⟩:=h;rfl
theorem yK {n:Nat} {f:Nat->Int} {j:Nat} {v:ae} (h:(b9 n f)[j]?=some v):j<n/\v=.int .u8 (f j):=by
 have hj:j<n:=by
  rcases cZ j n with h1|h1
  ·exact h1
  ·rw[jc (by rw[gH];exact h1)]at h;cases h
 rw[rJ f hj]at h;exact⟨hj,(cG h).symm⟩
def cA (n:Nat) (f g:Nat->Int):Nat->Int:=λj=>bif cD j n then f j else g (j-n)
theorem Ge {a b:Nat} (h:a<b):cD a b=true:=by unfold cD;exact uu h
theorem KA {a b:Nat} (h:¬a<b):cD a b=false:=by
 cases hb:cD a b
 ·rfl
 ·unfold cD at hb;exact absurd (dJ hb) h
theorem ahd {a b:Nat} (h:¬a<=b):bG a b=false:=by
 cases hb:bG a b
 ·rfl
 ·exact absurd (dJ hb) h
theorem KB (n m:Nat) (f g:Nat->Int):b9 n f++b9 m g=b9 (n+m) (cA n f g):=by
 apply vR;intro j;by_cases h:j<n
 ·rw[iq (by rw[gH];exact h),rJ f h,rJ _ (by omega)];simp[cA,Ge h]
 ·rw[AF (by rw[gH];omega),gH];by_cases h2:j<n+m
  ·rw[rJ g (by omega),rJ _ h2];simp[cA,KA h]
  ·rw[jc (by rw[gH];omega),jc (by rw[gH];omega)]
theorem Gf {n:Nat} {f g:Nat->Int} (h:∀i,i<n->f i=g i):b9 n f=b9 n g:=by
 unfold b9;apply pI;intro i hi;rw[h i (List.mem_range.1 hi)]
def dC (f:Nat->Int) (o m:Nat) (g:Nat->Int):Nat->Int:=λj=>bif bG o j&&cD j (o+m)then g (j-o)else f j
theorem P8 (kd:fq) {n:Nat} (f:Nat->Int) {o m:Nat} (h:o+m<=n) (g:Nat->Int):((aE kd n f).toList.take o++(bw m).map (λi=>eA kd (g i))++(aE kd n f).toList.drop (o+m)).toArray=aE kd n (dC f o m g):=by
 apply fM;simp only[aE];apply List.ext_getElem
 ·simp;omega
 ·intro j h1 h2;simp only[ft,vQ,List.length_map,Ka,List.length_drop]at h1 h2;by_cases ha:j<o
  ·rw[Kd (by simp;omega),Kd (by simp;omega)];simp[dC,ahd (show¬o<=j by omega)]
  ·by_cases hb:j<o+m
   ·rw[Kd (by simp;omega),Yk (by simp;omega)];have:min o n=o:=by omega
    simp[dC,uu (show o<=j by omega),Ge hb,this]
   ·rw[Yk (by simp;omega)];have:min o n=o:=by omega
    simp only[ft,vQ,List.length_map,Ka,List.getElem_drop,List.getElem_map,List.getElem_range,this];have e:o+m+(j-(o+m))=j:=by omega
    simp[dC,KA hb,e]
def cx (w:ag) (b o n:Nat) (f:Nat->Int):Prop:=∀j,j<n->w.cell? ⟨b,o+j,none⟩=some (.int .u8 (f j))
theorem cx.cut {w:ag} {b o n:Nat} {f:Nat->Int} (h:cx w b o n f) {m:Nat} (hm:m<=n):cx w b o m f:=λj hj=>h j (by omega)
theorem cx.drop {w:ag} {b o n:Nat} {f:Nat->Int} (h:cx w b o n f) (k:Nat):cx w b (o+k) (n-k) (λj=>f (k+j)):=λj hj=>by
 rw[AI];exact h (k+j) (by omega)
section
variable{ms:List Nat} {w0 w:ag} {bs:List aj}
theorem St.lY (S:St ms w0 bs w) {b o n:Nat} {f:Nat->Int} (h:cx w0 b o n f) (hm:b∉ms):cx w b o n f:=λj hj=>S.agZ (h j hj) hm
theorem St.ff (S:St ms w0 bs w) (i:Nat) {b N:Nat} {wr:Bool} {f:Nat->Int} {t:aJ} {fr:Nat×Nat} (hb:bs[i]?=some ⟨b,wr,.cells (aE .u8 N f) t fr⟩:=by kernel_rfl):cx w b 0 N f:=λj hj=>by
 rw[cell_of (S.at_ i _ hb),eY,Y7 _ f hj]
end
section
variable{P:aL} {w:ag}
theorem A6 {b o n c:Nat} {f:Nat->Int} {tx e':aJ} (h:cx w b o n f) (hk:P.underlying tx=some (.slice e'):=by kernel_rfl):Src P 1 tx (.slice (some ⟨b,o,none⟩) n c) n (b9 n f) w:=
 sW w hk _ n c _ (by rw[gH,Nat.mul_one]) (λj u hj=>by
  obtain⟨h1,rfl⟩:=yK hj;rw[iS];exact h j h1) Gd
theorem KC {ρ:bh->ae} {o:ax} {w':ag} {s x:bh} {t tx:aJ} {sv xv v:ae} (ho:o.op=.call ⟨.builtin .copy,#[s,x],#[t,tx]⟩) (hs:ρ s=sv) (hx:ρ x=xv)
 (bQ:(Builtin.copy_ #[t,tx] o.type #[sv,xv]).run P w=.ok v w'):(execOp ρ o).run P w=.ok (.value v) w':=by
 simp[execOp,ho,resolve,invoke,builtin,hs,hx,bQ,jT]
end
section
variable{P:aL} {ops:Array ax} {rest:List ax} {o:ax} {a:Act} {w w0:ag} {ms:List Nat} {bs:List aj} {Q:eE->Act->ag->Prop}
theorem copy_ (S:St ms w0 bs w) (i:Nat) (b N off n c:Nat) (f:Nat->Int) (sb so m sc:Nat) (g:Nat->Int) {t:aJ} {s x:bh} {tt tx elem:aJ} (h8:cx w sb so m g) (hm:m<=n) (hn:off+m<=N)
 (hb:bs[i]?=some ⟨b,true,.cells (aE .u8 N f) t (0,0)⟩) {bs':List aj} (h2:bs.set i ⟨b,true,.cells (aE .u8 N (dC f off m g)) t (0,0)⟩=bs')
 (k:∀w',St ms w0 bs' w'->WL P ops Q rest (a.put o.dst (.int .i64 m)) w')
 (hw:gT o (yielded ops a.tmps)=true:=by kernel_rfl) (ho:o.op=.call ⟨.builtin .copy,#[s,x],#[tt,tx]⟩:=by rfl) (hs:a.eval s=.slice (some ⟨b,off,none⟩) n c:=by kernel_rfl) (hx:a.eval x=.slice (some ⟨sb,so,none⟩) m sc:=by kernel_rfl)
 (hu:P.underlying tt=some (.slice elem):=by kernel_rfl) (hz:(P.info? elem).map (·.size)=some 1:=by kernel_rfl):WL P ops Q (o::rest) a w:=
 WL.want hw λK hK=>by
  have aP:=S.at_ i _ hb;have Gg:Nat.min m n=m:=Nat.min_eq_left hm;have bQ:=run_copy_row (P:=P) w tt tx o.type elem b off n c ⟨sb,so,none⟩ m sc (aE .u8 N f) t (b9 m g) hu hz aP (by rw[gH,Gg]) (λj v hj=>by
   obtain⟨h1,rfl⟩:=yK hj;rw[iS];exact h8 j h1) (by rw[gH,Gb];exact hn) Gd
  unfold oO;rw[KC ho hs hx bQ];rw[gH];have he:(goInt m:ae)=.int .i64 m:=rfl;rw[he];refine hK _ _ (k _ ?_);have hS:=S.step hb rfl (Ch.setRow w b _) (setRow_heap w b (aE .u8 N f) ((aE .u8 N f).toList.take off++b9 m g++(aE .u8 N f).toList.drop (off+m)).toArray t (0,0) aP);have e2:((aE .u8 N f).toList.take off++b9 m g++(aE .u8 N f).toList.drop (off+m)).toArray=aE .u8 N (dC f off m g):=P8 .u8 f hn g;rw[e2,h2]at hS;rw[e2];exact hS
end
section
variable{P:aL} {ρ:bh->ae} {o:ax} {w:ag}
theorem ahe {t e:aJ} {x lo:bh} {b off n c k:Nat} {kd:fq} (hk:k<=n) (hc:n<=c) (P9:Nat) (kB:P9=(if c=k then off else off+k)) (ho:o.op=.slice t x (some lo) none none:=by rfl) (hu:P.underlying t=some (.slice e):=by kernel_rfl) (hs:(P.info? e).map (·.size)=some 1:=by kernel_rfl)
 (hx:ρ x=.slice (some ⟨b,off,none⟩) n c:=by kernel_rfl) (hh:ρ lo=.int kd ((k:Nat):Int):=by kernel_rfl):(execOp ρ o).run P w=.ok (.value (.slice (some ⟨b,P9,none⟩) (n-k) (c-k))) w:=by
 obtain⟨i,je,dM⟩:=im.1 hs;unfold execOp;simp only[ho,Option.map_none,mz,hx,hh];unfold uw;simp only[bE,dI hu,cK];unfold FE;simp only[bE,dI hu,cK,ux,AJ,asIntOf,du];have h1:(0:Int)<=(k:Int)/\(k:Int)<=(n:Int):=by omega
 have h3:(⟨b,off,none⟩:aQ).add k=⟨b,off+k,none⟩:=iS ..;by_cases KD:c=k
 ·rw[if_pos KD]at kB;simp[h1,pE,typeInfo,je,dM,KD,kB]
 ·rw[if_neg KD]at kB;simp[h1,pE,typeInfo,je,dM,KD,kB,h3]
end
end Sx
namespace Sx
open Go Go.RowKit Go.BigFrame
section
variable{P:aL} {lf l:List ax} {sp:Nat->Sp} {a0:Act} {w:ag} {i:Nat} {o:ax}
end
section
variable{P:aL} {ops:Array ax} {rest:List ax} {o:ax} {a:Act} {w:ag} {Q:eE->Act->ag->Prop}
theorem ahf (vk:fq) (n:Nat) (f:Nat->Int) (kd:fq) (iv:Int) {t e:aJ} {x y:bh} (h0:0<=iv) (h1:iv<n) (k:WL P ops Q rest (a.put o.dst (.int vk (f iv.toNat))) w) (hw:gT o (yielded ops a.tmps)=true:=by kernel_rfl)
 (ho:o.op=.index t x y:=by rfl) (hu:P.underlying t=some (.array n e):=by kernel_rfl) (hz:(P.info? e).map (·.size)=some 1:=by kernel_rfl) (ha:(P.underlying e).map jy=some false:=by kernel_rfl)
 (hx:a.eval x=.agg (aE vk n f):=by kernel_rfl) (hy:a.eval y=.int kd iv:=by kernel_rfl):WL P ops Q (o::rest) a w:=
 au (.int vk (f iv.toNat)) k hw (by
  obtain⟨inf,hq,dM⟩:=im.1 hz;have dL:iv.toNat<n:=by omega
  have rp:(aE vk n f)[iv.toNat]?=some (.int vk (f iv.toNat)):=Y7 vk f dL;unfold execOp;simp only[ho,hx,hy];unfold Instr.index;simp only[bE,dI hu,cK,asIntOf,du];simp[h0,h1,pE,typeInfo,hq,dM,part,AU ha,rp])
end
end Sx
namespace Sx
open Go Go.RowKit Go.BigFrame
def bI (n:Nat) (f:Nat->Int) (c:Nat):Array ae:=(b9 n f++nh (c-n) (eA .u8 0)).toArray
theorem KE (k:Nat):(oQ #[eA .u8 0] k).toList=nh k (eA .u8 0):=by
 apply List.ext_getElem
 ·simp[oQ]
 ·intro i h1 h2;simp[oQ,Nat.mod_one]
def ff (T:aJ) (n:Nat) (f:Nat->Int) (x:Option aQ) (c:Nat) (bl:List aj):Prop:=
 n<=c/\((x=none/\n=0/\c=0/\bl=[])\/∃b,x=some ⟨b,0,none⟩/\bl=[⟨b,true,.cells (bI n f c) T (0,0)⟩])
theorem ff.wr {T n f x c bl} (h:ff T n f x c bl):Wr bl:=by
 rcases h.2 with⟨_,_,_,rfl⟩|⟨b,_,rfl⟩
 ·exact Wr.nil
 ·exact Wr.cons rfl Wr.nil
theorem ff.ty {T n f x c bl} (h:ff T n f x c bl):Ty [T] bl:=by
 rcases h.2 with⟨_,_,_,rfl⟩|⟨b,_,rfl⟩
 ·intro x hx;cases hx
 ·exact Ty.cons rfl Ty.nil
theorem P_ (T:aJ):ff T 0 (λ_=>0) none 0 []:=⟨dH _,.inl ⟨rfl,rfl,rfl,rfl⟩⟩
theorem ahg {n c:Nat} (f:Nat->Int) (h:n<=c):(bI n f c).size=c:=by simp[bI,gH];omega
section
variable{P:aL}
theorem Qa {w:ag} {T n c m:Nat} {f g:Nat->Int} {x:Option aQ} {bl:List aj} (hr:ff T n f x c bl) (aP:∀y∈bl,w.heap[y.id]?=some y.obj)
 {t tx ty:aJ} {xv:ae} (hs:Src P 1 tx xv m (b9 m g) w) (ht:P.underlying t=some (.slice T)) (hi:(P.info? T).map (λi=>(i.zero.map (·.cells),i.size,i.bytes))=some (some #[.int .u8 0],1,1))
 (hb:n+m<=140737488355328):
 ∃v w',(nU #[t,tx] ty #[.slice x n c,xv]).run P w=.ok v w'/\Ch (bl.map aj.id) w w'/\∃x' c' bl',v=.slice x' (n+m) c'/\ff T (n+m) (cA n f g) x' c' bl'/\∀y∈bl',w'.heap[y.id]?=some y.obj/\((∃u∈bl,y.id=u.id)\/w.heap.size<=y.id):=by
 obtain⟨i,cu,hi⟩:=im.1 hi;simp only[bC]at hi;obtain⟨hz,dM,iK⟩:=hi;obtain⟨z0,lW,nY⟩:=im.1 hz;obtain⟨jV,j9⟩:=hr;have jA:Src P i.size tx xv m (b9 m g) w:=by rw[dM];exact hs
 have h63:n+m<=maxLen:=by unfold maxLen;omega
 by_cases nZ:n+m<=c
 ·rcases vP m with lB|lB
  ·subst lB;refine⟨_,_,run_append_nothing (P:=P) w t tx ty T i ht cu x n c jV xv jA,Ch.refl _ _,x,c,bl,rfl,⟨jV,?_⟩,λy hy=>⟨aP y hy,.inl ⟨y,hy,rfl⟩⟩⟩;rcases j9 with h|⟨b,rfl,rfl⟩
   ·exact .inl h
   ·refine .inr ⟨b,rfl,?_⟩;have e:b9 (n+0) (cA n f g)=b9 n f:=Gf λj hj=>by simp[cA,Ge (show j<n by omega)]
    show[(⟨b,true,.cells (bI n f c) T (0,0)⟩:aj)]=[⟨b,true,.cells ((b9 (n+0) (cA n f g)++nh (c-(n+0)) (eA .u8 0)).toArray) T (0,0)⟩];rw[e];rfl
  ·rcases j9 with⟨_,rfl,rfl,_⟩|⟨b,rfl,rfl⟩
   ·omega
   ·have tn:=aP _ (iH.2 rfl);have fw:=run_storeCells_at (P:=P) b n T (b9 m g) 0 (bI n f c) w tn (by rw[ahg f jV,gH];omega) hs.one;simp only[pG,gH]at fw;have bQ:(nU #[t,tx] ty #[.slice (some ⟨b,0,none⟩) n c,xv]).run P w=.ok (.slice (some ⟨b,0,none⟩) (n+m) c) (w.setRow b ((bI n f c).toList.take n++b9 m g++(bI n f c).toList.drop (n+m)).toArray):=by
     rcases jA.kind with⟨e',hk⟩|hk<;>simp[nU,dI ht,dI hk,pE,typeInfo,cu,jA.len,nZ,hs.cells,iS,dM,fw,jT]
    refine⟨_,_,bQ,by simpa using Ch.setRow w b _,some ⟨b,0,none⟩,c,[⟨b,true,.cells (bI (n+m) (cA n f g) c) T (0,0)⟩],rfl,⟨nZ,.inr ⟨b,rfl,rfl⟩⟩,?_⟩;intro y hy;obtain rfl:=iH.1 hy;refine⟨?_,.inl ⟨_,iH.2 rfl,rfl⟩⟩;have:=setRow_heap w b (bI n f c) ((bI n f c).toList.take n++b9 m g++(bI n f c).toList.drop (n+m)).toArray T (0,0) tn;rw[this];congr 2;unfold bI;congr 1;show(b9 n f++_).take n++_++(b9 n f++_).drop (n+m)=_;rw[List.take_left' (gH n f),<-List.drop_drop,List.drop_left' (gH n f),List.drop_replicate,<-KB];congr 2;omega
 ·have hg:c<n+m:=by omega
  have hold:(Builtin.firstCells i.size n (.slice x n c)).run P w.drew=.ok (b9 n f).toArray w.drew:=by
   rcases j9 with⟨rfl,rfl,rfl,_⟩|⟨b,rfl,rfl⟩
   ·exact run_firstCells_none (P:=P) w.drew i.size 0 0 0
   ·have tn:=aP _ (iH.2 rfl);refine run_firstCells_some (P:=P) w.drew i.size n ⟨b,0,none⟩ n c (b9 n f) (by rw[gH,dM,Nat.mul_one]) (λj v hj=>?_);obtain⟨kD,rfl⟩:=yK hj;rw[iS];have:w.drew.cell? ⟨b,0+j,none⟩=w.cell? ⟨b,j,none⟩:=by simp
    rw[this,cell_of tn];simp only[bI,jQ];rw[iq (by rw[gH];exact kD),rJ f kD]
  have bQ:=run_append_grow_src (P:=P) w t tx ty T i z0 ht cu lW x n c (b9 n f) hold xv m (b9 m g) jA hg (by simp only[maxLen]at h63;omega) (by rw[iK];exact growslice_fits hg (by omega));have eG:=grownCap_ge w (n+m) c T;refine⟨_,_,bQ,?_,some ⟨w.heap.size,0,none⟩,grownCap w (n+m) c T,[⟨w.heap.size,true,.cells (bI (n+m) (cA n f g) (grownCap w (n+m) c T)) T (0,0)⟩],rfl,⟨eG,.inr ⟨_,rfl,rfl⟩⟩,?_⟩
  ·exact((Ch.refl (bl.map aj.id) w).drew).trans (Ch.alloc (bl.map aj.id) w.drew _) (λx hx=>.inl hx)
  ·intro y hy;obtain rfl:=iH.1 hy;refine⟨?_,.inr (dH _)⟩;have:=nT w.drew (.cells ((b9 n f++b9 m g).toArray++oQ z0.cells (grownCap w (n+m) c T-(n+m))) T);refine Eq.trans this ?_;congr 2;apply fM;rw[nY,Array.toList_append,KE];show b9 n f++b9 m g++_=b9 (n+m) (cA n f g)++_;rw[<-KB]
end
section
variable{P:aL} {ops:Array ax} {rest:List ax} {o:ax} {a:Act} {w w0:ag} {ms:List Nat} {Q:eE->Act->ag->Prop}
theorem Y_ {A bl R:List aj} {xs:Option aQ} {T n c m:Nat} {f g:Nat->Int} {t tx:aJ} {s x:bh} {xv:ae} (S:St ms w0 (A++(bl++R)) w) (hr:ff T n f xs c bl) (hs:Src P 1 tx xv m (b9 m g) w) (hbd:n+m<=140737488355328)
 (k:∀x' c' bl' w',ff T (n+m) (cA n f g) x' c' bl'->St ms w0 (A++(bl'++R)) w'->WL P ops Q rest (a.put o.dst (.slice x' (n+m) c')) w')
 (ho:o.op=.call ⟨.builtin .append,#[s,x],#[t,tx]⟩:=by rfl) (hw:gT o (yielded ops a.tmps)=true:=by kernel_rfl) (A3:a.eval s=.slice xs n c:=by kernel_rfl) (A4:a.eval x=xv:=by kernel_rfl)
 (ht:P.underlying t=some (.slice T):=by kernel_rfl) (cu:(P.info? T).map (λi=>(i.zero.map (·.cells),i.size,i.bytes))=some (some #[.int .u8 0],1,1):=by kernel_rfl):WL P ops Q (o::rest) a w:=
 WL.want hw λK hK=>by
  obtain⟨v,w',bQ,hc,x',c',bl',rfl,fZ,aP⟩:=Qa (P:=P) (ty:=o.type) hr (λy hy=>S.at' (by simp[hy])) hs ht cu hbd;have S2:=S.uE hr.wr hc (λy hy=>(aP y hy).1) (λy hy=>(aP y hy).2) (by
   rcases fZ.2 with⟨_,_,_,rfl⟩|⟨b,_,rfl⟩<;>simp)
  unfold oO;rw[j_ ho A3 A4 bQ];exact hK _ _ (k x' c' bl' w' fZ S2)
end
end Sx
namespace Sx
open Go Go.RowKit Go.BigFrame
def A7 (f:Nat->Int) (k:Nat):Nat->Int:=λj=>f (k+j)
theorem Gi {T n f x c bl} (h:ff T n f x c bl) (hn:0<n):∃b,n<=c/\x=some ⟨b,0,none⟩/\bl=[⟨b,true,.cells (bI n f c) T (0,0)⟩]:=by
 rcases h.2 with⟨_,h0,_,_⟩|⟨b,h1,h2⟩
 ·omega
 ·exact⟨b,h.1,h1,h2⟩
theorem St.A8 {ms:List Nat} {w0 w:ag} {bs:List aj} (S:St ms w0 bs w) (i:Nat) {b n c:Nat} {wr:Bool} {f:Nat->Int} {t:aJ} {fr:Nat×Nat} (hb:bs[i]?=some ⟨b,wr,.cells (bI n f c) t fr⟩:=by kernel_rfl):cx w b 0 n f:=λj hj=>by
 rw[cell_of (S.at_ i _ hb),eY];simp only[bI,jQ];rw[iq (by rw[gH];exact hj),rJ f hj]
end Sx
namespace Sx
open Go
end Sx
namespace Sx
open Go Go.RowKit Go.BigFrame
theorem Ch.ahh (w:ag) (r:Nat) (o:Obj):Ch [r] w {w with heap:=w.heap.setIfInBounds r o}:=
 ⟨rfl,rfl,rfl,by simp,λk hk hm=>by
  show(w.heap.setIfInBounds r o)[k]?=w.heap[k]?;rw[Array.getElem?_setIfInBounds_ne (λe=>hm (by simp[e]))]⟩
def nk (kd:fq) (l:List (Int×ae)):Obj:=.map ((l.zipIdx.map λx=>(⟨.int kd x.1.1,x.1.2,x.2⟩:vS)).toArray) l.length
theorem Za (kd:fq) (k:Int):∀(l:List vS) (i:Nat),(∀e∈l,∃j,e.key=.int kd j/\j≠k)->PA (.int kd) (.int kd k) l i=some none
 |[],_,_=>rfl
 |e::es,i,h=>by
  obtain⟨j,h1,h2⟩:=h e (Db _);have:Instr.sameNow (.int kd) (.int kd k) e.key=some false:=by
   rw[h1];simp[Instr.sameNow];exact λh=>h2 h.symm
  simp[PA,this,Za kd k es (i+1) (λx hx=>h x (Yl _ hx))]
theorem ahi (kd:fq) (l:List (Int×ae)) (k:Int) (v:ae):
 Obj.map (((l.zipIdx.map λx=>(⟨.int kd x.1.1,x.1.2,x.2⟩:vS)).toArray).push ⟨.int kd k,v,l.length⟩) (l.length+1)=nk kd (l++[(k,v)]):=by
 simp[nk,List.zipIdx_append]
theorem ahj {kd:fq} {l:List (Int×ae)} {k:Int} (h:l.all (λx=>x.1!=k)=true):∀e∈(l.zipIdx.map λx=>(⟨.int kd x.1.1,x.1.2,x.2⟩:vS)),∃j,e.key=.int kd j/\j≠k:=by
 intro e he;obtain⟨x,hx,rfl⟩:=lP.1 he;have hm:=(List.mem_zipIdx hx);have h2:x.1∈l:=by
  obtain⟨_,_,h3⟩:=hm;rw[h3];exact List.getElem_mem _
 exact⟨x.1.1,rfl,by simpa using gm.1 h _ h2⟩
section
variable{P:aL} {ops:Array ax} {rest:List ax} {o:ax} {a:Act} {w w0:ag} {ms:List Nat} {bs:List aj} {Q:eE->Act->ag->Prop}
end
theorem ahk (g:Nat->Int):cA 0 (λ_=>0) g=g:=by
 funext j;show(bif cD j 0 then _ else _)=_;rw[show cD j 0=false from by cases j<;>rfl];simp
theorem St.beside {ms:List Nat} {w0 w w1:ag} {bs bl:List aj} (S:St ms w0 bs w) (T:St [] w bl w1) (h:Wr bl):St ms w0 (bl++bs) w1:=by
 have hq:=S.quiet T.ch;refine St.mk' hq.ch (λx hx=>?_) (λx hx hw=>?_) ?_
 ·rcases fc.1 hx with h1|h1
  ·exact T.at' h1
  ·exact hq.at' h1
 ·rcases fc.1 hx with h1|h1
  ·rcases T.oT h1 hw with h2|h2
   ·cases h2
   ·exact .inr (hY S.ch.size h2)
  ·exact hq.oT h1 hw
 ·rw[Px];refine⟨T.pw,hq.pw,λx hx y hy _ e=>?_⟩;rcases T.oT hx (h x hx)with h2|h2
  ·cases h2
  ·have:=S.ge hy;omega
theorem ahl {w w1:ag} (hc:Ch [] w w1) {a:aQ} {v:ae} (h:w.cell? a=some v):w1.cell? a=some v:=by
 have hb:a.block<w.heap.size:=by
  unfold yq at h;split at h
  ·next h2=>exact pO h2
  ·cases h
 have h3:=hc.block _ hb (by simp);unfold yq at h⊢;rw[h3];exact h
def kE (w:ag) (a:Option aQ) (n c:Nat) (f:Nat->Int):Prop:=n<=c/\(a=none->n=0/\c=0)/\∀x,a=some x->∀j,j<n->w.cell? (x.add j)=some (.int .u8 (f j))
def eJ (w:ag) (a:Option aQ) (n c:Nat) (f:Nat->Int):Prop:=n<=1000000/\kE w a n c f
theorem kE.quiet {w w1:ag} {a:Option aQ} {n c:Nat} {f:Nat->Int} (h:kE w a n c f) (hc:Ch [] w w1):kE w1 a n c f:=⟨h.1,h.2.1,λx e j hj=>ahl hc (h.2.2 x e j hj)⟩
theorem eJ.quiet {w w1:ag} {a:Option aQ} {n c:Nat} {f:Nat->Int} (h:eJ w a n c f) (hc:Ch [] w w1):eJ w1 a n c f:=⟨h.1,h.2.quiet hc⟩
theorem kE.cut {w:ag} {a:Option aQ} {n c m:Nat} {f:Nat->Int} (h:kE w a n c f) (hm:m<=n) (hb:m<=1000000):eJ w a m c f:=
 ⟨hb,hY hm h.1,λe=>⟨by have:=h.2.1 e;omega,(h.2.1 e).2⟩,λx e j hj=>h.2.2 x e j (by omega)⟩
theorem Qb {P:aL} {w:ag} {a:Option aQ} {n c:Nat} {f:Nat->Int} (h:eJ w a n c f) {tx e':aJ} (hk:P.underlying tx=some (.slice e'):=by kernel_rfl):Src P 1 tx (.slice a n c) n (b9 n f) w:=by
 obtain⟨h1,h2,h3,h4⟩:=h;cases a with
 |none=>
  obtain⟨rfl,rfl⟩:=h3 rfl;exact Src.ofNil _ hk 0
 |some x=>exact sW w hk _ n c _ (by rw[gH,Nat.mul_one]) (λj u hj=>by
  obtain⟨h5,rfl⟩:=yK hj;exact h4 x rfl j h5) Gd
def qe (m n:Nat):Nat:=min n m
theorem ahm (m n:Nat):(if((m:Nat):Int)<((n:Nat):Int)then((m:Nat):Int)else((n:Nat):Int))=((qe m n:Nat):Int):=by unfold qe;split<;>omega
theorem eJ.Zb {w:ag} {a:Option aQ} {n c:Nat} {f:Nat->Int} (h:eJ w a n c f) (hn:0<n):∃x,a=some x:=by
 cases a with
 |none=>have:=(h.2.2.1 rfl).1;omega
 |some x=>exact⟨x,rfl⟩
theorem eJ.Qc {w:ag} {b o n c:Nat} {f:Nat->Int} (h:cx w b o n f) (hn:n<=1000000) (hc:n<=c):eJ w (some ⟨b,o,none⟩) n c f:=
 ⟨hn,hc,λe=>absurd e (by simp),λx e j hj=>by cases e;rw[iS];exact h j hj⟩
section
variable{P:aL} {ops:Array ax} {rest:List ax} {o o':ax} {a:Act} {w w0:ag} {ms:List Nat} {bs:List aj} {Q:eE->Act->ag->Prop}
theorem ahn (S:St ms w0 bs w) (i:Nat) (b N off n c:Nat) (f:Nat->Int) (ka:Option aQ) (m sc:Nat) (g:Nat->Int) {t:aJ} {s x:bh} {tt tx elem:aJ} (h8:eJ w ka m sc g) (h1:0<m) (hm:m<=n) (hn:off+m<=N)
 (hb:bs[i]?=some ⟨b,true,.cells (aE .u8 N f) t (0,0)⟩) {bs':List aj} (h2:bs.set i ⟨b,true,.cells (aE .u8 N (dC f off m g)) t (0,0)⟩=bs')
 (k:∀w',St ms w0 bs' w'->WL P ops Q rest (a.put o.dst (.int .i64 m)) w')
 (hw:gT o (yielded ops a.tmps)=true:=by kernel_rfl) (ho:o.op=.call ⟨.builtin .copy,#[s,x],#[tt,tx]⟩:=by rfl) (hs:a.eval s=.slice (some ⟨b,off,none⟩) n c:=by kernel_rfl) (hx:a.eval x=.slice ka m sc:=by kernel_rfl)
 (hu:P.underlying tt=some (.slice elem):=by kernel_rfl) (hz:(P.info? elem).map (·.size)=some 1:=by kernel_rfl):WL P ops Q (o::rest) a w:=
 WL.want hw λK hK=>by
  obtain⟨x0,rfl⟩:=h8.Zb h1;have aP:=S.at_ i _ hb;have Gg:Nat.min m n=m:=Nat.min_eq_left hm;have bQ:=run_copy_row (P:=P) w tt tx o.type elem b off n c x0 m sc (aE .u8 N f) t (b9 m g) hu hz aP (by rw[gH,Gg]) (λj v hj=>by
   obtain⟨h1,rfl⟩:=yK hj;exact h8.2.2.2 x0 rfl j h1) (by rw[gH,Gb];exact hn) Gd
  unfold oO;rw[KC ho hs hx bQ];rw[gH];have he:(goInt m:ae)=.int .i64 m:=rfl;rw[he];refine hK _ _ (k _ ?_);have hS:=S.step hb rfl (Ch.setRow w b _) (setRow_heap w b (aE .u8 N f) ((aE .u8 N f).toList.take off++b9 m g++(aE .u8 N f).toList.drop (off+m)).toArray t (0,0) aP);have e2:((aE .u8 N f).toList.take off++b9 m g++(aE .u8 N f).toList.drop (off+m)).toArray=aE .u8 N (dC f off m g):=P8 .u8 f hn g;rw[e2,h2]at hS;rw[e2];exact hS
theorem uH (b o n off i:Nat) (f:Nat->Int) (h8:cx w b o n f) (hi:i<n) (he:off=o+i) {x:bh} {ty:aJ} (k:WL P ops Q rest (a.put o'.dst (.int .u8 (f i))) w) (hw:gT o' (yielded ops a.tmps)=true:=by kernel_rfl) (ho:o'.op=.load ty x:=by rfl) (hx:a.eval x=.pointer (some ⟨b,off,none⟩):=by kernel_rfl)
 (ha:(P.underlying ty).map jy=some false:=by kernel_rfl):WL P ops Q (o'::rest) a w:=
 au _ k hw (by
  have:=h8 i hi;rw[<-he]at this;unfold execOp;simp only[ho,hx,qZ,ju,bE,du,cK];unfold loadVar;rw[bE,AU ha];simp[load,Sem.run,this])
end
section
variable{P:aL}
theorem Zc {w:ag} {T n c m:Nat} {f g:Nat->Int} {x:Option aQ} (hx:eJ w x n c f)
 {t tx ty:aJ} {xv:ae} (hs:Src P 1 tx xv m (b9 m g) w) (ht:P.underlying t=some (.slice T)) (hi:(P.info? T).map (λi=>(i.zero.map (·.cells),i.size,i.bytes))=some (some #[.int .u8 0],1,1))
 (hb:n+m<=140737488355328) (hg:c<n+m):
 ∃b c' w',(nU #[t,tx] ty #[.slice x n c,xv]).run P w=.ok (.slice (some ⟨b,0,none⟩) (n+m) c') w'/\n+m<=c'/\Ch [] w w'/\w.heap.size<=b/\w'.heap[b]?=some (.cells (bI (n+m) (cA n f g) c') T (0,0)):=by
 obtain⟨i,cu,hi⟩:=im.1 hi;simp only[bC]at hi;obtain⟨hz,dM,iK⟩:=hi;obtain⟨z0,lW,nY⟩:=im.1 hz;have jA:Src P i.size tx xv m (b9 m g) w:=by rw[dM];exact hs
 have h63:n+m<=maxLen:=by unfold maxLen;omega
 have hold:(Builtin.firstCells i.size n (.slice x n c)).run P w.drew=.ok (b9 n f).toArray w.drew:=by
  cases x with
  |none=>
   obtain⟨rfl,rfl⟩:=hx.2.2.1 rfl;exact run_firstCells_none (P:=P) w.drew i.size 0 0 0
  |some a=>
   refine run_firstCells_some (P:=P) w.drew i.size n a n c (b9 n f) (by rw[gH,dM,Nat.mul_one]) (λj v hj=>?_);obtain⟨kD,rfl⟩:=yK hj;have:=hx.2.2.2 a rfl j kD;simpa using this
 have bQ:=run_append_grow_src (P:=P) w t tx ty T i z0 ht cu lW x n c (b9 n f) hold xv m (b9 m g) jA hg (by simp only[maxLen]at h63;omega) (by rw[iK];exact growslice_fits hg (by omega));have eG:=grownCap_ge w (n+m) c T;refine⟨w.heap.size,grownCap w (n+m) c T,_,bQ,eG,?_,dH _,?_⟩
 ·exact((Ch.refl [] w).drew).trans (Ch.alloc [] w.drew _) (λx hx=>.inl hx)
 ·have:=nT w.drew (.cells ((b9 n f++b9 m g).toArray++oQ z0.cells (grownCap w (n+m) c T-(n+m))) T);refine Eq.trans this ?_;congr 2;apply fM;rw[nY,Array.toList_append,KE];show b9 n f++b9 m g++_=b9 (n+m) (cA n f g)++_;rw[<-KB]
end
section
variable{P:aL} {o:ax} {ρ:bh->ae} {w w0:ag} {ms:List Nat} {bs:List aj} {R:ae->ag->Prop}
theorem Y.Zd {x0:Option aQ} {T n c m:Nat} {f g:Nat->Int} {t tx:aJ} {s x:bh} {xv:ae} (S:St ms w0 bs w) (Dy:eJ w x0 n c f) (hs:Src P 1 tx xv m (b9 m g) w) (hbd:n+m<=140737488355328) (hg:c<n+m)
 (k:∀b c' w',n+m<=c'->St ms w0 (⟨b,true,.cells (bI (n+m) (cA n f g) c') T (0,0)⟩::bs) w'->R (.slice (some ⟨b,0,none⟩) (n+m) c') w')
 (ho:o.op=.call ⟨.builtin .append,#[s,x],#[t,tx]⟩:=by rfl) (A3:ρ s=.slice x0 n c:=by kernel_rfl) (A4:ρ x=xv:=by kernel_rfl)
 (ht:P.underlying t=some (.slice T):=by kernel_rfl) (cu:(P.info? T).map (λi=>(i.zero.map (·.cells),i.size,i.bytes))=some (some #[.int .u8 0],1,1):=by kernel_rfl):Yields P o ρ w R:=by
 obtain⟨b,c',w',bQ,hc,cB,hb,aP⟩:=Zc (P:=P) (ty:=o.type) Dy hs ht cu hbd hg;unfold Yields;rw[j_ ho A3 A4 bQ];exact k b c' w' hc (S.new cB hb aP)
end
section
variable{P:aL} {ops:Array ax} {rest:List ax} {o:ax} {a:Act} {w:ag} {Q:eE->Act->ag->Prop} {ρ:bh->ae} {R:ae->ag->Prop}
theorem Qd (kd Qe:fq) (x y:Int) {t yt:aJ} {xo yo:bh} (h:0<=y) (k:WL P ops Q rest (a.put o.dst (.int kd (kd.wrap (x*2^(min y.toNat kd.bits))))) w) (hw:gT o (yielded ops a.tmps)=true:=by kernel_rfl)
 (ho:o.op=.binOp .shl t xo yo yt:=by rfl) (hx:a.eval xo=.int kd x:=by kernel_rfl) (hy:a.eval yo=.int Qe y:=by kernel_rfl):WL P ops Q (o::rest) a w:=
 au _ k hw (by
  have hn:¬y<0:=by omega
  unfold execOp;simp[ho,hx,hy,Go.eqGuard,Go.binOp,Op.shift,hn])
theorem Y.Qd (kd Qe:fq) (x y:Int) {t yt:aJ} {xo yo:bh} (h:0<=y) (k:R (.int kd (kd.wrap (x*2^(min y.toNat kd.bits)))) w)
 (ho:o.op=.binOp .shl t xo yo yt:=by rfl) (hx:ρ xo=.int kd x:=by kernel_rfl) (hy:ρ yo=.int Qe y:=by kernel_rfl):Yields P o ρ w R:=
 Y.au _ k (by
  have hn:¬y<0:=by omega
  unfold execOp;simp[ho,hx,hy,Go.eqGuard,Go.binOp,Op.shift,hn])
end
def dm (l:List Int):Nat->Int:=λj=>l.getD j 0
section
variable{P:aL} {ops:Array ax} {rest:List ax} {o:ax} {a:Act} {w w0:ag} {ms:List Nat} {bs:List aj} {Q:eE->Act->ag->Prop} {ρ:bh->ae}
theorem aho (neg:Bool) (r:Bool) (xs ys:Array ae) {v:ae} (hv:v=.bool (bif neg then !r else r)) {t yt:aJ} {x y:bh} (ho:o.op=.binOp (bif neg then .neq else .eql) t x y yt:=by rfl) (hx:ρ x=.agg xs:=by kernel_rfl) (hy:ρ y=.agg ys:=by kernel_rfl) (hg:P.eqGuardType P.depth t=false:=by kernel_rfl) (he:yC P 10000 t (.agg xs) (.agg ys)=some r:=by kernel_rfl):
 (execOp ρ o).run P w=.ok (.value v) w:=by
 rw[hv];exact agS neg ho hx hy hg he
theorem Zd {x0:Option aQ} {T n c m:Nat} {f g:Nat->Int} {t tx:aJ} {s x:bh} {xv:ae} (S:St ms w0 bs w) (Dy:eJ w x0 n c f) (hs:Src P 1 tx xv m (b9 m g) w) (hbd:n+m<=140737488355328) (hg:c<n+m)
 (k:∀b c' w',n+m<=c'->St ms w0 (⟨b,true,.cells (bI (n+m) (cA n f g) c') T (0,0)⟩::bs) w'->WL P ops Q rest (a.put o.dst (.slice (some ⟨b,0,none⟩) (n+m) c')) w')
 (hw:gT o (yielded ops a.tmps)=true:=by kernel_rfl) (ho:o.op=.call ⟨.builtin .append,#[s,x],#[t,tx]⟩:=by rfl) (A3:a.eval s=.slice x0 n c:=by kernel_rfl) (A4:a.eval x=xv:=by kernel_rfl)
 (ht:P.underlying t=some (.slice T):=by kernel_rfl) (cu:(P.info? T).map (λi=>(i.zero.map (·.cells),i.size,i.bytes))=some (some #[.int .u8 0],1,1):=by kernel_rfl):WL P ops Q (o::rest) a w:=
 WL.want hw λK hK=>by
  obtain⟨b,c',w',bQ,hc,cB,hb,aP⟩:=Zc (P:=P) (ty:=o.type) Dy hs ht cu hbd hg;unfold oO;rw[j_ ho A3 A4 bQ];exact hK _ _ (k b c' w' hc (S.new cB hb aP))
end
theorem St.up {ms:List Nat} {w0 w:ag} {b:Nat} {o:Obj} {B:List aj} {L:List Nat} (S:St ms w0 (⟨b,false,o⟩::B) w) (Qf:w0.heap.size<=b) (hT:Ty L B) (hd:Y9 L [Dx o]=true:=by kernel_rfl):St ms w0 (⟨b,true,o⟩::B) w:=by
 refine St.mk' S.ch (λx hx=>?_) (λx hx hw=>?_) ?_
 ·rcases cn.1 hx with rfl|hx
  ·exact S.at' (x:=⟨b,false,o⟩) (Db _)
  ·exact S.at' (Yl _ hx)
 ·rcases cn.1 hx with rfl|hx
  ·exact .inr Qf
  ·exact S.oT (Yl _ hx) hw
 ·refine AK.2 ⟨λy hy _ e=>?_,(AK.1 S.pw).2⟩;have h1:=S.at' (x:=⟨b,false,o⟩) (Db _);have h2:=S.at' (Yl _ hy);simp only at h1 e;rw[e,h2]at h1;exact hT.ne hd y hy _ (Db _) (congrArg Dx (cG h1))
end Sx
namespace Sd
abbrev ao:=Nat->Int
structure Timer where
 n:Int
 most:Int
deriving DecidableEq,Inhabited
structure Tok where
 aG:Int
 ah:Int
 offer:Int
 oa:Timer
 la:Timer
 bad:Bool
deriving DecidableEq,Inhabited
structure Label where
 lZ:Int
 source:Int
 seq:Int
deriving DecidableEq,Inhabited
structure X4 where
 a:Int
 b:Int
 c:Int
 d:Int
deriving DecidableEq,Inhabited
def X4.get (x:X4) (i:Nat):Int:=match i with|0=>x.a|1=>x.b|2=>x.c|_=>x.d
def X4.map (f:Int->Int) (x:X4):X4:=⟨f x.a,f x.b,f x.c,f x.d⟩
def X4.zip (f:Int->Int->Int) (x y:X4):X4:=⟨f x.a y.a,f x.b y.b,f x.c y.c,f x.d y.d⟩
def X4.zero:X4:=⟨0,0,0,0⟩
structure e_ where
 cls:Int
 aT:X4
 now:X4
 bx:Label
deriving DecidableEq,Inhabited
structure Rec where
 kind:Int
 source:Int
 seq:Int
 ah:Int
 code:Int
 how:Int
deriving DecidableEq,Inhabited
structure a9 where
 kind:Int
 seq:Int
 role:Int
 aT:Int
 ah:Int
 mode:Int
 cls:Int
 now:Bool
 x:X4
deriving DecidableEq,Inhabited
structure aF where
 kind:Int
 seq:Int:=0
 role:Int:=0
 cX:Int:=0
 ah:Int:=0
 code:Int:=0
 aA:ao:=λ_=>0
deriving Inhabited
structure n9 where
 valid:Bool
 x:X4
 KG:Bool
deriving DecidableEq,Inhabited
structure gW where
 any:Bool
 high:Int
 seen:Int
deriving DecidableEq,Inhabited
structure Ask where
 source:Int
 bb:Int
 dp:Timer
deriving DecidableEq,Inhabited
structure eC where
 many:Int
 iA:Bool
 aA:ao
deriving Inhabited
structure fN where
 on:Bool
 cI:Timer
 role:Int
 key:ao
 seen:gW
deriving Inhabited
structure Act where
 mode:Int
 cls:Int
 out:X4
 d_:Label
 ayD:Label
deriving DecidableEq,Inhabited
structure aO where
 i:Nat->Int
 k:Nat->Nat×ao
namespace aO
def order (p:aO) (k:Nat):Int:=p.i k
def A9 (p:aO) (s:Nat):Int:=p.i (9+s)
def table (p:aO) (m r:Nat):Int:=p.i (14+4*m+r)
def graph (p:aO) (m:Nat):Int:=p.i (34+m)
def start (p:aO):Int:=p.i 39
def safe (p:aO):Int:=p.i 40
def lost (p:aO):Int:=p.i 41
def bV (p:aO):Int:=p.i 42
def cW (p:aO):Int:=p.i 43
def offer (p:aO):Int:=p.i 44
def ask (p:aO):Int:=p.i 45
def uI (p:aO):Int:=p.i 46
def beyond (p:aO):Int:=p.i 47
def queue (p:aO):Int:=p.i 48
def fj (p:aO):Int:=p.i 49
def most (p:aO) (c:Nat):Int:=p.i (50+c)
def Dz (p:aO):Int:=p.i 54
def ah (p:aO):Int:=p.i 55
end aO
end Sd
namespace Sd
def sat (n most:Int):Int:=if n<most then n+1 else most
def uJ (n low high:Int):Int:=if n<low then low else if high<n then high else n
def rK (now aT bx:Int):Int:=
 if bx<1 then now
 else if now<=aT then(if aT-now<=bx then aT else now+bx)
 else(if now-aT<=bx then aT else now-bx)
def has (set i:Int):Bool:=decide (0<=set)&&decide (0<=i)&&decide (i<=62)&&decide (set/2^i.toNat%2=1)
namespace Timer
def zero:Timer:=⟨0,0⟩
def start (most:Int):Timer:=⟨0,max most 0⟩
def step (t:Timer):Timer:={t with n:=sat t.n t.most}
def due (t:Timer):Bool:=decide (t.most<=t.n)
end Timer
def placeOf (p:aO) (s:Int):Int:=
 if p.i 0=s then 0 else if p.i 1=s then 1 else if p.i 2=s then 2 else if p.i 3=s then 3 else if p.i 4=s then 4 else-1
def bb (p:aO) (s:Int):Int:=placeOf p s
def eV (p:aO) (a b:Int):Bool:=decide (placeOf p a≠-1)&&decide (placeOf p b≠-1)&&decide (placeOf p a<placeOf p b)
def below (n bound:Int):Bool:=decide (0<=n)&&decide (n<bound)
def jf (p:aO) (source role:Int):Bool:=below source 5&&below role 4&&has (p.A9 source.toNat) role
def may (p:aO) (mode role cls:Int):Bool:=below mode 5&&below role 4&&below cls 4&&has (p.table mode.toNat role.toNat) cls
def goes (p:aO) (from_ aT:Int):Bool:=below from_ 5&&below aT 5&&has (p.graph from_.toNat) aT
namespace Tok
def pass (t:Tok) (aT ah:Int):Tok:=⟨aT,ah,-1,.zero,.zero,t.bad⟩
def new (p:aO):Tok:=⟨4,p.ah,-1,.zero,.zero,false⟩
def dq (t:Tok) (aT:Int):Tok×Int:=
 if aT<0\/5<=aT then(t,1)else if aT=t.aG then(t,25)else if 65535<=t.ah then(t,24)
 else(t.pass aT (t.ah+1),0)
def kg (t:Tok):Tok:=t.pass 4 (if t.aG≠4 then sat t.ah 65535 else t.ah)
def iL (t:Tok):Tok:={t with offer:=-1,oa:=.zero}
def make (p:aO) (t:Tok) (from_ aT:Int) (there:Bool):Tok×Int:=
 if from_≠t.aG then(t,20)else if 65535<=t.ah then(t,24)else if aT=from_ then(t,25)
 else if aT<1\/3<aT\/there=false then(t,2)else if 0<=t.offer then(t,28)
 else({t with offer:=aT,oa:=.start p.offer},0)
def accept (t:Tok) (from_ ah:Int):Tok×Int:=
 if t.offer<0\/t.offer≠from_ then(t,28)else if ah≠t.ah then(t,21)else t.dq from_
def fU (t:Tok) (from_:Int):Tok×Int:=
 if t.offer<0\/t.offer≠from_ then(t,28)else(t.iL,0)
def drop (t:Tok) (source:Int):Tok×Bool:=
 if t.offer<0\/t.offer≠source then(t,false)else(t.iL,true)
def tick (t:Tok):Tok×Int:=
 if t.offer<0 then(t,-1)
 else if t.oa.step.due then(({t with oa:=t.oa.step}:Tok).iL,t.offer)
 else({t with oa:=t.oa.step},-1)
end Tok
namespace Q
def waits (l:List Ask) (s:Int):Bool:=l.any λa=>decide (a.source=s)
def insert (l:List Ask) (a:Ask):List Ask:=(l.takeWhile λx=>decide (x.bb<=a.bb))++a::(l.dropWhile λx=>decide (x.bb<=a.bb))
def push (most:Int) (l:List Ask) (a:Ask):List Ask×Int:=
 if waits l a.source then(l,27)else if most<=l.length then(l,3)else(insert l a,0)
def drop (l:List Ask) (s:Int):List Ask:=l.filter λa=>decide (a.source≠s)
def mE (l:List Ask):List Ask:=l.map λa=>{a with dp:=a.dp.step}
def gone (l:List Ask):List Ask:=(mE l).filter λa=>a.dp.due
def kept (l:List Ask):List Ask:=(mE l).filter λa=>!a.dp.due
end Q
def fO (p:aO) (t:Tok) (most:Int) (q:List Ask) (from_:Int) (now:Bool):Tok×Int×Int×List Ask:=
 if t.bad then(t,0,29,q)else if from_=t.aG then(t,0,25,q)else if 65535<=t.ah then(t,0,24,q)
 else if t.aG=4\/(now=true/\eV p from_ t.aG=true)then
  (if(t.dq from_).2≠0 then(t,0,(t.dq from_).2,q)else((t.dq from_).1,3,0,Q.drop q from_))
 else if now then(t,0,26,q)
 else(t,0,(Q.push most q ⟨from_,bb p from_,.start p.ask⟩).2,(Q.push most q ⟨from_,bb p from_,.start p.ask⟩).1)
def fy (t:Tok) (q:List Ask):Tok×Int×List Ask:=
 match q with
 |[]=>(t,2,q)
 |a::_=>if(t.dq a.source).2≠0 then(t,(t.dq a.source).2,q)else((t.dq a.source).1,0,Q.drop q a.source)
def dh (t:Tok) (q:List Ask) (from_:Int):Tok×Int×List Ask:=
 if from_≠t.aG then(t,20,q)else if 65535<=t.ah then(t,24,q)else fy t q
def dW (p:aO) (t:Tok) (q:List Ask) (there:Bool):Tok×Int×List Ask:=
 if t.aG=4\/there=true then({t with la:=.zero},0,q)
 else
  let la:=(if t.la.most=0 then Timer.start p.cW else t.la).step
  let t1:Tok:={t with la:=la}
  if la.due=false then(t1,0,q)
  else if 65535<=t.ah then(t1.kg,6,q)
  else if(fy t1 q).2.1≠0 then((t1.dq 4).1,5,(fy t1 q).2.2)
  else((fy t1 q).1,5,(fy t1 q).2.2)
namespace e_
def set (p:aO) (pt:e_) (cls:Int) (x:X4) (bx:Label):e_:=
 {pt with cls:=cls,bx:=bx,aT:=if cls<0\/4<=cls then .zero else x.map λn=>uJ n (-(p.most cls.toNat)) (p.most cls.toNat)}
def hold (pt:e_) (bx:Label):e_:={pt with aT:=.zero,bx:=bx}
def step (p:aO) (pt:e_):e_:=
 let now:=X4.zip (λa b=>rK a b p.Dz) pt.now pt.aT
 {pt with now:=now,bx:=if now=pt.now then pt.bx else{pt.bx with lZ:=4}}
end e_
def tj (most:Int) (x:X4):Bool:=
 (decide (x.a< -most)||decide (most<x.a))||(decide (x.b< -most)||decide (most<x.b))||(decide (x.c< -most)||decide (most<x.c))||(decide (x.d< -most)||decide (most<x.d))
def fg (p:aO) (run:Int) (s:n9):Int×Bool:=
 if s.valid=false\/tj p.beyond s.x=false then(0,false)
 else(sat (max run 0) p.uI,decide (p.uI<=sat (max run 0) p.uI))
def mF (p:aO) (t:Tok) (source role mode:Int) (m:a9):Int:=
 if m.kind≠10/\m.kind≠11 then 1 else if source≠t.aG then 20 else if m.ah≠t.ah then 21
 else if may p mode role (if m.kind=10 then 0 else m.cls)=false then 22
 else if m.kind=10/\goes p mode m.mode=false then 23 else 0
end Sd
namespace Sd
def c_ (k:Int):a9:=⟨k,0,0,0,0,0,0,false,.zero⟩
structure aK where
 take:Nat->ao->Option a9
 aA:Nat×ao->Int->Int->ao
 right:Nat×ao->Int->Int->ao->ao->Bool
 key:Nat×ao->Int->Int->ao->ao
 opens:ao->Int->Nat->ao->Bool
 next:ao->Rec->ao
 fg:gW->Int->gW
structure aw where
 cN:Bool×Timer
 ak:Nat->fN
def fN.zero:fN:=⟨false,.zero,0,λ_=>0,⟨false,0,0⟩⟩
namespace aw
def new:aw:=⟨(false,.zero),λ_=>.zero⟩
def cj (t:aw) (s:Int):Bool:=decide (1<=s)&&decide (s<=3)&&(t.ak (s.toNat-1)).on
def on (t:aw) (s:Int):Bool:=if s=4 then true else if s=0 then t.cN.1 else t.cj s
def role (t:aw) (s:Int):Int:=if t.cj s then(t.ak (s.toNat-1)).role else 0
def many (t:aw):Int:=(if(t.ak 0).on then 1 else 0)+(if(t.ak 1).on then 1 else 0)+(if(t.ak 2).on then 1 else 0)
def eD (t:aw) (i:Nat) (s:fN):aw:={t with ak:=λj=>if j=i then s else t.ak j}
def eL (p:aO) (t:aw) (s r:Int) (key:ao):aw×Int:=
 if s<1\/3<s\/r<0\/4<=r then(t,1)
 else if t.cj s=false/\p.fj<=t.many then(t,19)
 else(t.eD (s.toNat-1) ⟨true,.start p.bV,r,key,⟨false,0,0⟩⟩,0)
def take (C:aK) (p:aO) (t:aw) (s:Int) (n:Nat) (f:ao):aw×Except Int a9:=
 if t.cj s=false then(t,.error 16)else
 if n<8\/C.opens (t.ak (s.toNat-1)).key s n f=false then(t,.error 14)else
  match C.take (n-8) f with
  |none=>(t,.error 13)
  |some m=>
   if m.kind=1\/m.kind=2 then(t,.error 13)
   else if C.fg (t.ak (s.toNat-1)).seen m.seq=(t.ak (s.toNat-1)).seen then(t,.error 15)
   else(t.eD (s.toNat-1) {(t.ak (s.toNat-1))with seen:=C.fg (t.ak (s.toNat-1)).seen m.seq,on:=true,cI:=.start p.bV},.ok m)
def end_ (t:aw) (s:Int):aw:=if t.cj s then t.eD (s.toNat-1) .zero else t
def l5 (p:aO) (t:aw):aw:={t with cN:=(true,.start p.bV)}
def uK (t:aw):Bool:=t.cN.1&&t.cN.2.step.due
def fA (t:aw) (i:Nat):Bool:=(t.ak i).on&&(t.ak i).cI.step.due
def tick (t:aw):aw:=
 {cN:=if t.cN.1 then(if t.cN.2.step.due then(false,.zero)else(true,t.cN.2.step))else t.cN,ak:=λi=>if(t.ak i).on then(if(t.ak i).cI.step.due then fN.zero else{(t.ak i)with cI:=(t.ak i).cI.step})else t.ak i}
def ended (t:aw):List Int:=
 (if t.uK then[0]else[])++(if t.fA 0 then[1]else[])++(if t.fA 1 then[2]else[])++(if t.fA 2 then[3]else[])
end aw
structure Core where
 p:aO
 t:Tok
 q:List Ask
 doors:Nat->eC
 af:aw
 samples:Int
 beyond:Int
 mode:Int
 d_:Label
 pt:e_
 head:ao
structure aa where
 c:Core
 bg:List (Int×aF)
 bH:List Rec
def uL:Label:=⟨2,4,0⟩
def linked (s:Int):Bool:=decide (1<=s)&&decide (s<=3)
def eC.zero:eC:=⟨0,false,λ_=>0⟩
def Core.new (p:aO):Core:=
 ⟨p,.new p,[],λ_=>.zero,.new,0,0,p.start,uL,⟨1,.zero,.zero,uL⟩,λ_=>0⟩
def Core.act (c:Core):Act:=⟨c.mode,c.pt.cls,c.pt.now,c.d_,c.pt.bx⟩
namespace aa
variable(C:aK)
def tell (s:aa) (l:Int) (r:aF):aa:={s with bg:=s.bg++[(l,r)]}
def dP (s:aa) (l:Int) (r:aF):aa:=if linked l&&s.c.af.on l then s.tell l r else s
def record (s:aa) (kind source seq code how:Int):aa:=
 let r:Rec:=⟨kind,source,seq,s.c.t.ah,code,how⟩
 {s with bH:=s.bH++[r],c:={s.c with head:=C.next s.c.head r}}
def refuse (s:aa) (l n code:Int):aa:=(s.tell l {kind:=132,seq:=n,code:=code}).record C 7 l n code 0
def iU (s:aa) (l code:Int):aa:=s.record C 1 l 0 code 0
def done (s:aa) (l n:Int):aa:=s.tell l {kind:=131,seq:=n}
def goes (s:aa) (t:Tok) (how n:Int):aa:=
 let a:=s.c.t.aG
 let s1:aa:={s with c:={s.c with t:=t,q:=Q.drop s.c.q t.aG}}
 let s2:=s1.dP a {kind:=134,cX:=t.aG,ah:=t.ah}
 let s3:=s2.dP t.aG {kind:=133,ah:=t.ah}
 s3.record C 8 t.aG n 0 how
def gone (s:aa) (l cX code:Int):aa:=s.dP l {kind:=136,cX:=cX,code:=code}
def leave (s:aa) (source:Int):aa:=
 let s1:aa:={s with c:={s.c with q:=Q.drop s.c.q source}}
 if(s1.c.t.drop source).2=false then s1
 else(({s1 with c:={s1.c with t:=(s1.c.t.drop source).1}}:aa).gone (s1.c.t.drop source).1.aG source 16).record C 12 source 0 16 0
def eM (s:aa) (mode:Int) (bx:Label):aa:={s with c:={s.c with mode:=mode,d_:=bx,pt:=s.c.pt.hold bx}}
def lC (s:aa) (l:Int) (n:Nat) (f:ao):aa:=
 match C.take n f with
 |none=>s.iU C l 13
 |some m=>
  if jf s.c.p l m.role=false then s.refuse C l 0 18
  else
   let d:=s.c.doors (l.toNat-1)
   if 4294967295<=d.many then s.refuse C l 0 24
   else
    let x:=C.aA (s.c.p.k 3) l (d.many+1)
    let s1:aa:={s with c:={s.c with doors:=λj=>if j=l.toNat-1 then⟨d.many+1,true,x⟩else s.c.doors j}}
    (s1.tell l {kind:=129,aA:=x}).record C 2 l 0 0 0
def prove (s:aa) (l:Int) (n:Nat) (f:ao):aa:=
 if n≠10 then s.iU C l 13
 else match C.take 2 f with
 |none=>s.iU C l 13
 |some m=>
  let d:=s.c.doors (l.toNat-1)
  if d.iA=false then s.refuse C l 0 17
  else
   let s1:aa:={s with c:={s.c with doors:=λj=>if j=l.toNat-1 then⟨d.many,false,λ_=>0⟩else s.c.doors j}}
   if C.right (s.c.p.k (l.toNat-1)) l m.role d.aA (λj=>f (2+j))=false then s1.iU C l 14
   else if jf s.c.p l m.role=false then s1.refuse C l 0 18
   else
    let(af,e):=aw.eL s.c.p s.c.af l m.role (C.key (s.c.p.k (l.toNat-1)) l m.role d.aA)
    if e≠0 then s1.refuse C l 0 e
    else
     let s2:aa:={s1 with c:={s1.c with af:=af}}
     (s2.tell l {kind:=130,role:=m.role,cX:=s.c.t.aG,ah:=s.c.t.ah}).record C 3 l 0 0 0
def eu (s:aa) (t:Tok):aa:={s with c:={s.c with t:=t}}
def A_ (s:aa) (l:Int) (m:a9):aa:=
 ((({s with c:={s.c with af:=s.c.af.end_ l}}:aa).leave C l).record C 4 l m.seq 0 0).done l m.seq
def ask (s:aa) (l:Int) (m:a9):aa:=
 let(t,how,e,q):=fO s.c.p s.c.t s.c.p.queue s.c.q l m.now
 if e≠0 then s.refuse C l m.seq e
 else
  let s1:aa:={s with c:={s.c with q:=q}}
  (if 0<how then s1.goes C t how m.seq else(s1.eu t).record C 10 l m.seq 0 0).done l m.seq
def offer (s:aa) (l:Int) (m:a9):aa:=
 let(t,e):=Tok.make s.c.p s.c.t l m.aT (s.c.af.on m.aT)
 if e≠0 then s.refuse C l m.seq e
 else((((s.eu t).dP m.aT {kind:=135,cX:=l,ah:=t.ah}).record C 9 l m.seq 0 m.aT)).done l m.seq
def accept (s:aa) (l:Int) (m:a9):aa:=
 let(t,e):=s.c.t.accept l m.ah
 if e≠0 then s.refuse C l m.seq e else(s.goes C t 1 m.seq).done l m.seq
def fU (s:aa) (l:Int) (m:a9):aa:=
 let(t,e):=s.c.t.fU l
 if e≠0 then s.refuse C l m.seq e
 else((((s.eu t).gone t.aG l 0).record C 11 l m.seq 0 0)).done l m.seq
def release (s:aa) (l:Int) (m:a9):aa:=
 let(t,e,q):=dh s.c.t s.c.q l
 if e≠0 then s.refuse C l m.seq e else(({s with c:={s.c with q:=q}}:aa).goes C t 2 m.seq).done l m.seq
def command (s:aa) (l:Int) (m:a9):aa:=
 let e:=mF s.c.p s.c.t l (s.c.af.role l) s.c.mode m
 if e≠0 then s.refuse C l m.seq e
 else
  let bx:Label:=⟨1,l,m.seq⟩
  let s1:aa:=if m.kind=10 then{s with c:={s.c with mode:=m.mode,d_:=bx}}
   else{s with c:={s.c with pt:=s.c.pt.set s.c.p m.cls m.x bx}}
  (s1.record C 6 l m.seq 0 0).done l m.seq
def jC (s:aa) (l:Int) (m:a9):aa:=
 if m.kind=3 then s.done l m.seq else if m.kind=4 then s.A_ C l m else if m.kind=5 then s.ask C l m
 else if m.kind=6 then s.offer C l m else if m.kind=7 then s.accept C l m else if m.kind=8 then s.fU C l m
 else if m.kind=9 then s.release C l m else if m.kind=10\/m.kind=11 then s.command C l m else s
def item (s:aa) (l code:Int) (n:Nat) (f:ao):aa:=
 if code≠0 then s.iU C l code
 else if 0<n/\f 0=1 then s.lC C l n f
 else if 0<n/\f 0=2 then s.prove C l n f
 else
  match s.c.af.take C s.c.p l n f with
  |(_,.error e)=>s.iU C l e
  |(af,.ok m)=>({s with c:={s.c with af:=af}}:aa).jC C l m
def l5 (s:aa) (x:n9):aa:=
 if x.valid=false then{s with c:={s.c with beyond:=0}}
 else
  let n:=sat s.c.samples 4294967295
  let r:=fg s.c.p s.c.beyond x
  let s1:aa:={s with c:={s.c with samples:=n,af:=s.c.af.l5 s.c.p,beyond:=r.1}}
  if s.c.t.aG=0/\x.KG=true then
   let(t,e,q):=dh s.c.t s.c.q 0
   if e≠0 then s1.record C 7 0 n e 0 else({s1 with c:={s1.c with q:=q}}:aa).goes C t 2 n
  else if s.c.t.aG=0 then
   let e:=mF s.c.p s.c.t 0 0 s.c.mode {c_ 11 with ah:=s.c.t.ah,cls:=1}
   if e≠0 then s1.record C 7 0 n e 0
   else({s1 with c:={s1.c with pt:=s1.c.pt.set s.c.p 1 x.x ⟨1,0,n⟩}}:aa).record C 6 0 n 0 0
  else if r.2 then
   let(t,e):=s.c.t.dq 0
   if e≠0 then s1.record C 7 0 n e 0 else s1.goes C t 4 n
  else s1
def yL (s:aa) (bad:Bool):aa:=
 let s1:=s.eu {s.c.t with bad:=bad}
 if bad=false then s1
 else
  let t:=s1.c.t.kg
  let s2:=if s1.c.t.aG≠4 then s1.goes C t 6 0 else s1.eu t
  let s3:=s2.c.q.foldl (λ(s:aa) (a:Ask)=>({s with c:={s.c with q:=Q.drop s.c.q a.source}}:aa).gone a.source 4 29) s2
  s3.eM s3.c.p.safe uL
def cW (s:aa):aa:=
 let(t,how,q):=dW s.c.p s.c.t s.c.q (s.c.af.on s.c.t.aG)
 if how<=0 then s.eu t
 else
  let s1:=({s with c:={s.c with q:=q}}:aa).goes C t how 0
  if how=5 then s1.eM s1.c.p.lost ⟨3,4,0⟩else s1.eM s1.c.p.safe uL
def tick (s:aa):aa:=
 let ahp:=s.c.af.ended
 let s0:aa:={s with c:={s.c with af:=s.c.af.tick}}
 let s1:=ahp.foldl (λ(s:aa) (x:Int)=>let s:=s.record C 5 x 0 0 0;if linked x then s.leave C x else s) s0
 let(t,Qg):=s1.c.t.tick
 let s2:=s1.eu t
 let s3:=if 0<=Qg then(s2.gone t.aG Qg 30).record C 12 Qg 0 30 0 else s2
 let late:=Q.gone s3.c.q
 let s4:aa:={s3 with c:={s3.c with q:=Q.kept s3.c.q}}
 let s5:=late.foldl (λ(s:aa) (a:Ask)=>(s.gone a.source a.source 30).record C 12 a.source 0 30 0) s4
 let s6:=s5.cW C
 {s6 with c:={s6.c with pt:=s6.c.pt.step s6.c.p}}
end aa
structure fk (p:aO):Prop where
 o0:p.i 0=0
 o4:p.i 4=4
 perm:(p.i 1=1/\p.i 2=2/\p.i 3=3)\/(p.i 1=1/\p.i 2=3/\p.i 3=2)\/(p.i 1=2/\p.i 2=1/\p.i 3=3)\/
  (p.i 1=2/\p.i 2=3/\p.i 3=1)\/(p.i 1=3/\p.i 2=1/\p.i 3=2)\/(p.i 1=3/\p.i 2=2/\p.i 3=1)
 start:0<=p.start/\p.start<=4
 safe:0<=p.safe/\p.safe<=4
 lost:0<=p.lost/\p.lost<=4
 bV:1<=p.bV/\p.bV<=1000
 cW:1<=p.cW/\p.cW<=1000
 offer:1<=p.offer/\p.offer<=1000
 ask:1<=p.ask/\p.ask<=1000
 uI:1<=p.uI/\p.uI<=1000
 beyond:0<=p.beyond/\p.beyond<=1000
 queue:1<=p.queue/\p.queue<=3
 fj:1<=p.fj/\p.fj<=3
 most:∀c,c<4->0<=p.most c/\p.most c<=1000
 Dz:1<=p.Dz/\p.Dz<=1000
 ah:0<=p.ah/\p.ah<=65535
theorem KH {p:aO} (h:fk p) (s:Int) (h0:0<=s) (h4:s<=4):0<=placeOf p s/\placeOf p s<=4:=by
 have e:s=0\/s=1\/s=2\/s=3\/s=4:=by omega
 have:=h.o0;have:=h.o4
 rcases e with rfl|rfl|rfl|rfl|rfl<;>rcases h.perm with⟨a,b,c⟩|⟨a,b,c⟩|⟨a,b,c⟩|⟨a,b,c⟩|⟨a,b,c⟩|⟨a,b,c⟩<;>simp[placeOf, *]
theorem Ze {p:aO} (h:fk p) {s t:Int} (hs:0<=s/\s<=4) (ht:0<=t/\t<=4) (e:placeOf p s=placeOf p t):s=t:=by
 have es:s=0\/s=1\/s=2\/s=3\/s=4:=by omega
 have et:t=0\/t=1\/t=2\/t=3\/t=4:=by omega
 have:=h.o0;have:=h.o4
 rcases es with rfl|rfl|rfl|rfl|rfl<;>rcases et with rfl|rfl|rfl|rfl|rfl<;>first|rfl|(rcases h.perm with⟨a,b,c⟩|⟨a,b,c⟩|⟨a,b,c⟩|⟨a,b,c⟩|⟨a,b,c⟩|⟨a,b,c⟩<;>simp[placeOf, *]at e)
theorem ahq {p:aO} (h:fk p) {s t:Int} (hs:0<=s/\s<=4) (ht:0<=t/\t<=4):eV p s t=decide (bb p s<bb p t):=by
 have a:=KH h s hs.1 hs.2;have b:=KH h t ht.1 ht.2;unfold eV bb;have a':placeOf p s≠-1:=by omega
 have b':placeOf p t≠-1:=by omega
 simp[a',b']
theorem ahr {p:aO} (h:fk p) {s:Int} (hs:0<=s/\s<=3):bb p s<bb p 4:=by
 have es:s=0\/s=1\/s=2\/s=3:=by omega
 have:=h.o0;have:=h.o4
 unfold bb;rcases es with rfl|rfl|rfl|rfl<;>rcases h.perm with⟨a,b,c⟩|⟨a,b,c⟩|⟨a,b,c⟩|⟨a,b,c⟩|⟨a,b,c⟩|⟨a,b,c⟩<;>simp[placeOf, *]
structure qf (p:aO) (t:aw) (aG:Int) (q:List Ask):Prop where
 each:∀a∈q,a.bb=bb p a.source/\1<=a.source/\a.source<=3/\t.on a.source=true/\a.source≠aG/\a.dp.most=p.ask/\0<=a.dp.n/\a.dp.n<p.ask
 sorted:q.Pairwise λa b=>a.bb<b.bb
 len:(q.length:Int)<=p.queue
structure mG (p:aO) (af:aw) (t:Tok):Prop where
 aG:0<=t.aG/\t.aG<=4
 ah:p.ah<=t.ah/\t.ah<=65535
 offer:t.offer=-1\/(1<=t.offer/\t.offer<=3/\t.offer≠t.aG/\af.on t.offer=true/\t.oa.most=p.offer/\0<=t.oa.n/\t.oa.n<p.offer)
 lost:(t.la.most=0/\t.la.n=0)\/(t.la.most=p.cW/\0<=t.la.n/\t.la.n<p.cW)
structure DA (p:aO) (t:aw):Prop where
 cN:t.cN.1=true->t.cN.2.most=p.bV/\0<=t.cN.2.n/\t.cN.2.n<p.bV
 ak:∀i,i<3->(t.ak i).on=true->(t.ak i).cI.most=p.bV/\0<=(t.ak i).cI.n/\(t.ak i).cI.n<p.bV/\0<=(t.ak i).role/\(t.ak i).role<=3/\0<=(t.ak i).seen.high/\(t.ak i).seen.high<=4294967295
structure Inv (c:Core):Prop where
 p:fk c.p
 tok:mG c.p c.af c.t
 q:qf c.p c.af c.t.aG c.q
 af:DA c.p c.af
 samples:0<=c.samples/\c.samples<=4294967295
 mode:0<=c.mode/\c.mode<=4
 doors:∀i,i<3->0<=(c.doors i).many
theorem ahs {n m:Int} (h:0<=n) (hm:0<=m) (hn:n<=m):0<=sat n m/\sat n m<=m:=by unfold sat;split<;>omega
theorem Inv.new {p:aO} (h:fk p):Inv (Core.new p) where
 p:=h
 tok:=⟨by simp[Core.new,Tok.new],by simp[Core.new,Tok.new];exact h.ah.2,.inl rfl,.inl ⟨rfl,rfl⟩⟩
 q:=⟨by simp[Core.new],by simp[Core.new],by simp[Core.new];have:=h.queue;omega⟩
 af:=⟨by simp[Core.new,aw.new],by simp[Core.new,aw.new,fN.zero]⟩
 samples:=by simp[Core.new]
 mode:=h.start
 doors:=by simp[Core.new,eC.zero]
end Sd
namespace Vx
open Go Sx
inductive V where
 |int (k:fq) (n:Int)
 |bool (b:Bool)
 |ptr (i off:Nat)
 |sl (i off len cap:Nat)
 |gp (i off len cap:Nat) (x:Option aQ)
 |fn (f:fL) (fs cs:List V)
 |mH (t:aJ) (v:V)
 |agg (l:List V)
 |av (l:List V)
 |bS (k:fq) (n:Nat) (f:Nat->Int)
 |arr (k:fq) (n:Nat) (f:Nat->Int)
 |dz (p:Sd.aO) (ka:Nat->Option aQ) (kn kc:Nat->Nat)
 |rest (l:List ae)
 |fP (z n:Nat) (g:Nat->List ae)
 |pe (i o j z k:Nat)
 |raw (v:ae)
def oV (p:Sd.aO) (ka:Nat->Option aQ) (kn kc:Nat->Nat):List ae:=(bw 56).map λo=>bif bG 5 o&&bG o 8 then .slice (ka (o-5)) (kn (o-5)) (kc (o-5))else .int .i64 (p.i o)
mutual
def cR (n:Nat):V->Bool
 |.ptr i _=>cD i n
 |.sl i _ _ _=>cD i n
 |.gp i _ _ _ _=>cD i n
 |.pe i _ _ _ _=>cD i n
 |.fn _ a b=>bo n a&&bo n b
 |.mH _ v=>cR n v
 |.agg l=>bo n l
 |.av l=>bo n l
 |_=>true
def bo (n:Nat):List V->Bool
 |[]=>true
 |v::l=>cR n v&&bo n l
end
def cl (v:V) (d:ae):List ae:=match v with
 |.bS k n f=>(bw n).map λj=>eA k (f j)
 |.arr k n f=>(bw n).map λj=>eA k (f j)
 |.dz p ka kn kc=>oV p ka kn kc
 |.rest l=>l
 |.fP z n g=>(bw n).flatMap g
 |_=>[d]
mutual
def den (ids:List Nat):V->ae
 |.int k n=>.int k n
 |.bool b=>.bool b
 |.ptr i off=>.pointer (some ⟨ids.getD i 0,off,none⟩)
 |.sl i off n c=>.slice (some ⟨ids.getD i 0,off,none⟩) n c
 |.gp i off n c x=>.slice (bif az n 0 then x else some ⟨ids.getD i 0,off,none⟩) n c
 |.fn f a b=>.func (.func f) (aH ids a).toArray (aH ids b).toArray
 |.mH t v=>.iface t (den ids v)
 |.agg l=>.agg (ai ids l).toArray
 |.av l=>.tuple (aH ids l).toArray
 |.bS _ _ _=>undef
 |.arr _ _ _=>undef
 |.dz _ _ _ _=>undef
 |.rest _=>undef
 |.fP _ _ _=>undef
 |.pe i o j z k=>.pointer (some ⟨ids.getD i 0,o+(j*z+k),none⟩)
 |.raw v=>v
def aH (ids:List Nat):List V->List ae
 |[]=>[]
 |v::l=>den ids v::aH ids l
def ai (ids:List Nat):List V->List ae
 |[]=>[]
 |v::l=>cl v (den ids v)++ai ids l
end
theorem yM (ids:List Nat) (l:List V):aH ids l=l.map (den ids):=by
 induction l with
 |nil=>simp[aH]
 |cons v l ih=>simp[aH,ih]
theorem DB {ids more:List Nat} {i:Nat} (h:cD i ids.length=true):(ids++more).getD i 0=ids.getD i 0:=by
 rw[iG]at h;simp[ir,iq h]
mutual
theorem gf {ids more:List Nat}:∀(v:V),cR ids.length v=true->den (ids++more) v=den ids v
 |.int _ _,_=>by simp[den]
 |.bool _,_=>by simp[den]
 |.ptr i _,h=>by simp only[cR]at h;simp only[den,DB h]
 |.sl i _ _ _,h=>by simp only[cR]at h;simp only[den,DB h]
 |.gp i _ _ _ _,h=>by simp only[cR]at h;simp only[den,DB h]
 |.fn _ a b,h=>by simp only[cR,bu]at h;simp only[den,n_ a h.1,n_ b h.2]
 |.mH _ v,h=>by simp only[cR]at h;simp only[den,gf v h]
 |.agg l,h=>by simp only[cR]at h;simp only[den,jg l h]
 |.av l,h=>by simp only[cR]at h;simp only[den,n_ l h]
 |.bS _ _ _,_=>by simp[den]
 |.arr _ _ _,_=>by simp[den]
 |.dz _ _ _ _,_=>by simp[den]
 |.rest _,_=>by simp[den]
 |.fP _ _ _,_=>by simp[den]
 |.pe i _ _ _ _,h=>by simp only[cR]at h;simp only[den,DB h]
 |.raw _,_=>by simp[den]
theorem n_ {ids more:List Nat}:∀(l:List V),bo ids.length l=true->aH (ids++more) l=aH ids l
 |[],_=>by simp[aH]
 |v::l,h=>by simp only[bo,bu]at h;simp only[aH,gf v h.1,n_ l h.2]
theorem jg {ids more:List Nat}:∀(l:List V),bo ids.length l=true->ai (ids++more) l=ai ids l
 |[],_=>by simp[ai]
 |v::l,h=>by
  simp only[bo,bu]at h;simp only[ai,gf v h.1,jg l h.2]
end
def gu:V:=.raw undef
def nth:List V->Nat->V
 |[],_=>gu
 |v::_,0=>v
 |_::l,n+1=>nth l n
def kh:List V->Nat->V->List V
 |[],_,_=>[]
 |_::l,0,x=>x::l
 |v::l,n+1,x=>v::kh l n x
def put (fr:List V) (d:Option Tmp) (v:V):List V:=match d with|some t=>kh fr t v|none=>fr
def Ba:ae->V
 |.int k n=>.int k n
 |.bool b=>.bool b
 |v=>.raw v
def DC:ae->V
 |.int k n=>.int k n
 |.bool b=>.bool b
 |.agg cs=>.agg (cs.toList.map Ba)
 |v=>.raw v
def Qh (p:Sd.aO) (ka:Nat->Option aQ) (kn kc:Nat->Nat) (o:Nat):V:=
 bif bG 5 o&&bG o 8 then .raw (.slice (ka (o-5)) (kn (o-5)) (kc (o-5)))else .int .i64 (p.i o)
def nn:List V->Nat->Option V
 |[],_=>none
 |v::l,o=>match v with
  |.bS k n f=>bif bG n o then nn l (o-n)else some (.int k (f o))
  |.arr k n f=>bif bG n o then nn l (o-n)else some (.int k (f o))
  |.dz p ka kn kc=>bif bG 56 o then nn l (o-56)else some (Qh p ka kn kc o)
  |.rest _=>none
  |.fP _ _ _=>none
  |v=>match o with|0=>some v|o+1=>nn l o
def takeN:List V->Nat->Option (List V×List V)
 |l,0=>some ([],l)
 |[],_+1=>none
 |v::l,n+1=>match v with
  |.bS k m f=>bif bG m (n+1)then(match takeN l (n+1-m)with|some (a,b)=>some (v::a,b)|none=>none)
   else some ([.bS k (n+1) f],.bS k (m-(n+1)) (λj=>f (n+1+j))::l)
  |.arr k m f=>bif bG m (n+1)then(match takeN l (n+1-m)with|some (a,b)=>some (v::a,b)|none=>none)
   else some ([.arr k (n+1) f],.arr k (m-(n+1)) (λj=>f (n+1+j))::l)
  |.dz .. =>bif bG 56 (n+1)then(match takeN l (n+1-56)with|some (a,b)=>some (v::a,b)|none=>none)else none
  |.rest _=>none
  |.fP _ _ _=>none
  |_=>match takeN l n with|some (a,b)=>some (v::a,b)|none=>none
def yN (l:List V) (off n:Nat):Option (List V):=match takeN l off with
 |some (_,r)=>(match takeN r n with|some (a,_)=>some a|none=>none)
 |none=>none
def KI (l:List V) (off n:Nat) (vs:List V):Option (List V):=match takeN l off with
 |some (a,r)=>(match takeN r n with|some (_,b)=>some (a++(vs++b))|none=>none)
 |none=>none
def KJ:V->Nat
 |.bS _ n _=>n
 |.arr _ n _=>n
 |.dz .. =>56
 |.rest l=>l.length
 |.fP z n g=>((bw n).flatMap g).length
 |_=>1
def ck:List V->Nat
 |[]=>0
 |v::l=>KJ v+ck l
def KM:V->Bool
 |.agg _=>false
 |.av _=>false
 |.rest l=>l.all (·.oneCell')
 |.fP z n g=>((bw n).flatMap g).all (·.oneCell')
 |.raw v=>v.oneCell'
 |_=>true
def mI:List V->Bool
 |[]=>true
 |v::l=>KM v&&mI l
def jW:V->List V
 |.agg l=>l
 |v=>[v]
def qg:V->Bool
 |.bS .. =>false
 |.arr .. =>false
 |.dz .. =>false
 |.rest _=>false
 |.fP _ _ _=>false
 |.raw v=>v.oneCell'
 |_=>true
section
variable{ids:List Nat}
theorem KO (l:List ae):ai ids (l.map Ba)=l:=by
 induction l with
 |nil=>simp[ai]
 |cons v l ih=>cases v<;>simp[ai,cl,Ba,den,ih]
theorem aht (v:ae):den ids (DC v)=v:=by
 cases v<;>simp[DC,den,KO]
theorem Bb (fr:List V) (t:Nat):den ids (nth fr t)=(aH ids fr).toArray.getD t undef:=by
 induction fr generalizing t with
 |nil=>simp[nth,aH,gu,den]
 |cons v l ih=>
  cases t with
  |zero=>simp[nth,aH]
  |succ t=>rw[nth,ih];simp[aH,FF]
theorem ahu (fr:List V) (t:Nat) (x:V):(aH ids (kh fr t x)).toArray=(aH ids fr).toArray.setIfInBounds t (den ids x):=by
 apply fM;simp only[J_];induction fr generalizing t with
 |nil=>simp[kh,aH]
 |cons v l ih=>cases t<;>simp[kh,aH,ih]
theorem ahv (p:Sd.aO) (ka:Nat->Option aQ) (kn kc:Nat->Nat) {o:Nat} (h:o<56):(oV p ka kn kc)[o]?=some (den ids (Qh p ka kn kc o)):=by
 unfold oV Qh;rw[jt,nV h];simp only[mz];cases bG 5 o&&bG o 8<;>simp[den]
theorem Gj (p:Sd.aO) (ka:Nat->Option aQ) (kn kc:Nat->Nat):(oV p ka kn kc).length=56:=by simp[oV]
theorem Qi {l:List V} {o:Nat} {v:V} (h:nn l o=some v):(ai ids l)[o]?=some (den ids v):=by
 induction l generalizing o with
 |nil=>simp[nn]at h
 |cons a l ih=>
  cases a
  case bS k n f=>
   simp only[nn]at h;simp only[ai,cl];cases hb:bG n o with
   |true=>
    rw[hb]at h;have:=dJ hb;rw[AF (by simpa using this)];simpa using ih h
   |false=>
    rw[hb]at h;have:o<n:=PB λe=>by rw[uu e]at hb;cases hb
    rw[iq (by simpa using this)];simp only[cond_false,aY]at h;subst h;simp[nV this,den]
  case arr k n f=>
   simp only[nn]at h;simp only[ai,cl];cases hb:bG n o with
   |true=>
    rw[hb]at h;have:=dJ hb;rw[AF (by simpa using this)];simpa using ih h
   |false=>
    rw[hb]at h;have:o<n:=PB λe=>by rw[uu e]at hb;cases hb
    rw[iq (by simpa using this)];simp only[cond_false,aY]at h;subst h;simp[nV this,den]
  case dz p ka kn kc=>
   simp only[nn]at h;simp only[ai,cl];cases hb:bG 56 o with
   |true=>
    rw[hb]at h;have:=dJ hb;rw[AF (by rw[Gj];exact this),Gj];simpa using ih h
   |false=>
    rw[hb]at h;have:o<56:=PB λe=>by rw[uu e]at hb;cases hb
    rw[iq (by rw[Gj];exact this)];simp only[cond_false,aY]at h;subst h;exact ahv _ _ _ _ this
  case rest=>simp[nn]at h
  case fP=>simp[nn]at h
  all_goals
   cases o with
   |zero=>simp only[nn,aY]at h;subst h;simp[ai,cl]
   |succ o=>simp only[nn]at h;simpa[ai,cl]using ih h
theorem Zf (k:fq) {m n:Nat} (f:Nat->Int) (h:n<=m):((bw m).map λj=>eA k (f j))=((bw n).map λj=>eA k (f j))++((bw (m-n)).map λj=>eA k (f (n+j))):=by
 obtain⟨d,rfl⟩:=Nat.exists_eq_add_of_le h;rw[List.range_add,rk,lQ,Nat.add_sub_cancel_left];rfl
theorem Gk {l a b:List V} {n:Nat} (h:takeN l n=some (a,b)):ai ids l=ai ids a++ai ids b/\(ai ids a).length=n:=by
 induction l generalizing n a b with
 |nil=>
  cases n with
  |zero=>simp only[takeN,aY,bC]at h;obtain⟨rfl,rfl⟩:=h;simp[ai]
  |succ n=>simp[takeN]at h
 |cons v l ih=>
  cases n with
  |zero=>simp only[takeN,aY,bC]at h;obtain⟨rfl,rfl⟩:=h;simp[ai]
  |succ n=>
   cases v
   case bS k m f=>
    simp only[takeN]at h;cases hb:bG m (n+1)with
    |true=>
     have hm:=dJ hb;rw[hb]at h;simp only[cond_true]at h;split at h
     ·rename_i x y hx;simp only[aY,bC]at h;obtain⟨rfl,rfl⟩:=h;obtain⟨i1,i2⟩:=ih hx;simp[ai,cl,i1,i2];omega
     ·cases h
    |false=>
     have hm:n+1<m:=PB λe=>by rw[uu e]at hb;cases hb
     rw[hb]at h;simp only[cond_false,aY,bC]at h;obtain⟨rfl,rfl⟩:=h;simp only[ai,cl];rw[Zf k f (n:=n+1) (by omega)];simp
   case arr k m f=>
    simp only[takeN]at h;cases hb:bG m (n+1)with
    |true=>
     have hm:=dJ hb;rw[hb]at h;simp only[cond_true]at h;split at h
     ·rename_i x y hx;simp only[aY,bC]at h;obtain⟨rfl,rfl⟩:=h;obtain⟨i1,i2⟩:=ih hx;simp[ai,cl,i1,i2];omega
     ·cases h
    |false=>
     have hm:n+1<m:=PB λe=>by rw[uu e]at hb;cases hb
     rw[hb]at h;simp only[cond_false,aY,bC]at h;obtain⟨rfl,rfl⟩:=h;simp only[ai,cl];rw[Zf k f (n:=n+1) (by omega)];simp
   case dz p ka kn kc=>
    simp only[takeN]at h;cases hb:bG 56 (n+1)with
    |true=>
     have hm:=dJ hb;rw[hb]at h;simp only[cond_true]at h;split at h
     ·rename_i x y hx;simp only[aY,bC]at h;obtain⟨rfl,rfl⟩:=h;obtain⟨i1,i2⟩:=ih hx;simp[ai,cl,i1,i2,Gj];omega
     ·cases h
    |false=>rw[hb]at h;simp at h
   case rest=>simp[takeN]at h
   case fP=>simp[takeN]at h
   all_goals
    simp only[takeN]at h;split at h
    ·rename_i x y hx;simp only[aY,bC]at h;obtain⟨rfl,rfl⟩:=h;obtain⟨i1,i2⟩:=ih hx;simp[ai,cl,i1,i2]
    ·cases h
theorem yO {l c:List V} {off n:Nat} (h:yN l off n=some c):((ai ids l).drop off).take n=ai ids c/\(ai ids c).length=n/\off+n<=(ai ids l).length:=by
 unfold yN at h;split at h
 ·rename_i a r ha;split at h
  ·rename_i b s hb;simp only[aY]at h;subst h;obtain⟨a1,a2⟩:=Gk (ids:=ids) ha;obtain⟨b1,b2⟩:=Gk (ids:=ids) hb;refine⟨?_,b2,?_⟩
   ·rw[a1,<-a2,List.drop_left,b1,<-b2,List.take_left]
   ·rw[a1,b1];simp;omega
  ·cases h
 ·cases h
theorem iV (a b:List V):ai ids (a++b)=ai ids a++ai ids b:=by
 induction a with
 |nil=>simp[ai]
 |cons v l ih=>simp[ai,ih]
theorem Zg {l c vs:List V} {off n:Nat} (h:KI l off n vs=some c):ai ids c=(ai ids l).take off++ai ids vs++(ai ids l).drop (off+n)/\off+n<=(ai ids l).length:=by
 unfold KI at h;split at h
 ·rename_i a r ha;split at h
  ·rename_i b s hb;simp only[aY]at h;subst h;obtain⟨a1,a2⟩:=Gk (ids:=ids) ha;obtain⟨b1,b2⟩:=Gk (ids:=ids) hb;refine⟨?_,?_⟩
   ·rw[iV,iV,a1,b1];have e:off+n=(ai ids a++ai ids b).length:=by simp[a2,b2]
    have e2:ai ids a++(ai ids b++ai ids s)=(ai ids a++ai ids b)++ai ids s:=by simp
    rw[e,e2,List.drop_left,<-e2,<-a2,List.take_left,bU]
   ·rw[a1,b1];simp;omega
  ·cases h
 ·cases h
theorem kY (l:List V):(ai ids l).length=ck l:=by
 induction l with
 |nil=>simp[ai,ck]
 |cons v l ih=>cases v<;>simp[ai,cl,ck,KJ,ih,Gj]<;>omega
theorem ahw {p:Sd.aO} {ka:Nat->Option aQ} {kn kc:Nat->Nat} {v:ae} (h:v∈oV p ka kn kc):v.oneCell'=true:=by
 unfold oV at h;rw[lP]at h;obtain⟨o,_,rfl⟩:=h;cases bG 5 o&&bG o 8<;>rfl
theorem Bc {l:List V} (h:mI l=true):∀v∈ai ids l,v.oneCell'=true:=by
 induction l with
 |nil=>simp[ai]
 |cons a l ih=>
  simp only[mI,bu]at h;intro v hv;simp only[ai,fc]at hv;rcases hv with hv|hv
  ·unfold cl at hv;cases a
   case bS k n f=>simp at hv;obtain⟨_,_,rfl⟩:=hv;rfl
   case arr k n f=>simp at hv;obtain⟨_,_,rfl⟩:=hv;rfl
   case dz=>exact ahw hv
   case rest l'=>exact(gm.1 (by simpa[KM]using h.1)) v hv
   case fP z n g=>
    have h1:((bw n).flatMap g).all (·.oneCell')=true:=h.1;exact gm.1 h1 v hv
   all_goals (obtain rfl:v=_:=by simpa using hv);first|rfl|(simp[KM]at h;done)|(have:=h.1;simpa[KM,den]using this)
  ·exact ih h.2 v hv
theorem Qj {v:V} (h:qg v=true):(den ids v).cells.toList=ai ids (jW v):=by
 cases v
 case agg l=>simp[den,Ym,jW]
 case raw v=>cases v<;>simp_all[den,Ym,jW,ai,cl,qg,Value.oneCell']
 case bS=>simp[qg]at h
 case arr=>simp[qg]at h
 case dz=>simp[qg]at h
 case rest=>simp[qg]at h
 case fP=>simp[qg]at h
 all_goals simp[den,Ym,jW,ai,cl]
end
def Qk (c:Bool) (a b:V):V:=match a,b with
 |.bool x,.bool y=>.bool (cond c x y)
 |.int k x,.int k' y=>(match decEq k k' with|isTrue _=>.int k (cond c x y)|isFalse _=>(match c with|true=>a|false=>b))
 |a,b=>match c with|true=>a|false=>b
def eS (P:aL) (t:aJ):Option Nat:=match P.info? t with|some i=>some i.size|none=>none
def Gm (k:fq):List V->Bool
 |[]=>true
 |.int k' (.ofNat 0)::l=>(match decEq k' k with|isTrue _=>Gm k l|isFalse _=>false)
 |_=>false
def Qm (z:List V):List V:=match z with
 |.int k (.ofNat 0)::l=>bif bG 63 l.length&&Gm k l then[.arr k (l.length+1) λ_=>0]else z
 |_=>z
theorem Zh {k:fq} (ids:List Nat):∀{l:List V},Gm k l=true->ai ids l=(bw l.length).map λ_=>eA k 0
 |[],_=>rfl
 |v::l,h=>by
  unfold Gm at h;split at h
  ·rename_i heq;cases heq
  ·rename_i k' l' heq;obtain⟨rfl,rfl⟩:=vT heq;split at h
   ·rename_i hk _;subst hk;rw[h_,vU,eF,lQ];simp only[ai,cl,den,Zh ids h];rfl
   ·cases h
  ·cases h
theorem Qn (ids:List Nat) (z:List V):ai ids (Qm z)=ai ids z:=by
 unfold Qm;split
 ·rename_i k l;cases hq:bG 63 l.length&&Gm k l with
  |false=>rfl
  |true=>
   simp only[bu]at hq;simp only[cond_true,ai,cl,den,Zh ids hq.2,cH];rw[vU,eF,lQ];rfl
 ·rfl
def nq (P:aL) (t:aJ):Option (List V):=match P.info? t with
 |some i=>(match i.zero with|some v=>some (Qm (jW (DC v)))|none=>none)
 |none=>none
def rL (P:aL) (t:aJ):Option Bool:=match P.underlying t with|some d=>some (jy d)|none=>none
def Qo (op:BinOp) (x y:V):Option V:=match x,y with
 |.int k a,.int k' b=>(match op with
  |.shl=>(match b with|.ofNat n=>some (.int k (k.wrap (a*2^(min n k.bits))))|_=>none)
  |.shr=>(match b with|.ofNat n=>some (.int k (a.fdiv (2^(min n k.bits))))|_=>none)
  |op=>(match decEq k k' with
   |isFalse _=>none
   |isTrue _=>(match op with
    |.add=>some (.int k (k.wrap (a+b)))
    |.sub=>some (.int k (k.wrap (a-b)))
    |.mul=>some (.int k (k.wrap (a*b)))
    |.and=>some (.int k (bits .and k a b))
    |.or=>some (.int k (bits .or k a b))
    |.xor=>some (.int k (bits .xor k a b))
    |.rem=>(match b with|.ofNat (n+1)=>some (.int k (Int.tmod a (.ofNat (n+1))))|_=>none)
    |.quo=>(match b with|.ofNat (n+1)=>some (.int k (k.wrap (Int.tdiv a (.ofNat (n+1)))))|_=>none)
    |.eql=>some (.bool (a==b))
    |.neq=>some (.bool (a !=b))
    |.lss=>some (.bool (decide (a<b)))
    |.leq=>some (.bool (decide (a<=b)))
    |.gtr=>some (.bool (decide (a>b)))
    |.geq=>some (.bool (decide (a>=b)))
    |_=>none)))
 |_,_=>none
def Qp (op:UnOp) (x:V):Option V:=match op,x with
 |.not,.bool b=>some (.bool (!b))
 |.neg,.int k n=>some (.int k (k.wrap (0-n)))
 |.xor,.int k n=>some (.int k (bits .xor k (bif k.signed then-1 else k.max) n))
 |_,_=>none
section
variable{ids:List Nat} {P:aL} {w:ag}
theorem ahx (c:Bool) (a b:V):den ids (Qk c a b)=if c then den ids a else den ids b:=by
 unfold Qk;split
 ·cases c<;>simp[den]
 ·split
  ·rename_i hk _;cases c<;>simp[den,hk]
  ·cases c<;>rfl
 ·cases c<;>rfl
theorem ahy (op:BinOp) (t:aJ) (x y:bh) (k k':fq) (a b:Int):(eqGuard op t x y (.int k a) (.int k' b)).run P w=.ok () w:=by
 unfold eqGuard;cases op<;>rfl
theorem ahz {op:BinOp} {x y v:V} (h:Qo op x y=some v) (t:aJ) (xo yo:bh):
 ((do eqGuard op t xo yo (den ids x) (den ids y);binOp op t (den ids x) (den ids y)):Sem ae).run P w=.ok (den ids v) w:=by
 unfold Qo at h;split at h
 ·rename_i k a k' b;simp only[den,bE,ahy,cK];split at h
  ·split at h
   ·rename_i n;simp only[aY]at h;subst h;have h0:¬(db n<0):=by have:=AL n;simp only[FG];omega
    simp only[binOp,Op.shift,den,if_neg h0];rfl
   ·cases h
  ·split at h
   ·rename_i n;simp only[aY]at h;subst h;have h0:¬(db n<0):=by have:=AL n;simp only[FG];omega
    simp only[binOp,Op.shift,den,if_neg h0];rfl
   ·cases h
  ·rename_i ahA ahB;split at h
   ·cases h
   ·rename_i hk _;subst hk;cases op<;>simp only[aY]at h<;>first
     |(subst h;simp[binOp,agH,Op.intCmp,Op.intBits,Op.intDiv,den,bits];done)
     |(subst h;simp[binOp,agH,Op.intCmp,Op.intBits,Op.intDiv,den,bits];rfl)
     |(split at h<;>first
       |(simp only[aY]at h
         subst h;rename_i n;have h1:¬((db (n+1))=0):=by simp only[FG];omega
         simp only[binOp,Op.intDiv,den,if_neg h1,ne_eq,not_true_eq_false,if_false,ite_false];rfl)
       |cases h)
     |cases h
     |(exact absurd rfl ahA)
     |(exact absurd rfl ahB)
 ·cases h
theorem ahC {op:UnOp} {x v:V} (h:Qp op x=some v):(Yn op (den ids x)).run P w=.ok (den ids v) w:=by
 unfold Qp at h;split at h
 ·simp only[aY]at h;subst h;simp[Yn,den]
 ·simp only[aY]at h;subst h;simp[Yn,agH,den]
 ·simp only[aY]at h;subst h;rename_i k n;cases hk:k.signed<;>simp[Yn,Op.intBits,bits,den,hk]
 ·cases h
end
def yP (pl:Nat->Option (Nat×Nat)):List V->List (Nat×V)->Option (List V)
 |c,[]=>some c
 |c,(i,v)::l=>match pl i with
  |some (off,n)=>bif qg v&&az (ck (jW v)) n then(match KI c off n (jW v)with|some c'=>yP pl c' l|none=>none)else none
  |none=>none
def placesOf (P:aL) (fs:Array Field) (i:Nat):Option (Nat×Nat):=match fs[i]?with
 |some f=>(match eS P f.type with|some n=>some (f.offset,n)|none=>none)
 |none=>none
def tq (P:aL) (t:aJ) (l:List V) (off:Nat):Option V:=match rL P t,eS P t with
 |some true,some n=>(match yN l off n with|some c=>some (.agg c)|none=>none)
 |some false,_=>nn l off
 |_,_=>none
def KR (e:bh->V) (ps:Array (Nat×bh)):List (Nat×V):=ps.toList.map λp=>(p.1,e p.2)
def Zi (P:aL) (fs:Array Field):Bool:=fs.toList.all λf=>match eS P f.type with|some _=>true|none=>false
section
variable{ids:List Nat} {P:aL} {w:ag}
theorem ahD (off:Nat):∀(vs:List ae) (cs:Array ae) (k:Nat),off+k+vs.length<=cs.size->
 ((vs.zipIdx k).foldl (λ(cs:Array ae) (x:ae×Nat)=>cs.setIfInBounds (off+x.2) x.1) cs).toList=cs.toList.take (off+k)++vs++cs.toList.drop (off+k+vs.length):=by
 intro vs;induction vs with
 |nil=>intro cs k h;simp
 |cons v l ih=>
  intro cs k h;simp only[h_]at h;simp only[List.zipIdx_cons,sZ];rw[ih _ _ (by simp;omega)];simp only[J_];have h1:off+k<cs.toList.length:=by simp;omega
  rw[show off+(k+1)=off+k+1 by omega];rw[List.take_set,List.drop_set,if_pos (by omega),List.take_succ_eq_append_getElem h1,List.set_append_right _ _ (by simp;omega)];simp only[vQ,h_];rw[show off+k-min (off+k) cs.toList.length=0 by omega];simp only[List.set_cons_zero,bU,fe,fi];rw[show off+k+1+l.length=off+k+(l.length+1) by omega]
theorem Qq {pl:Nat->Option (Nat×Nat)} {place:Nat->Option (Nat×Nat)} (hp:∀i x,pl i=some x->place i=some x):∀(l:List (Nat×V)) (c c':List V),yP pl c l=some c'->
 agI place (ai ids c).toArray (l.map λp=>(p.1,den ids p.2))=some (ai ids c').toArray:=by
 intro l;induction l with
 |nil=>intro c c' h;simp only[yP,aY]at h;subst h;simp[agI]
 |cons a l ih=>
  intro c c' h;obtain⟨i,v⟩:=a;simp only[yP]at h;split at h
  ·rename_i off n hpl;cases hb:qg v&&az (ck (jW v)) n with
   |false=>rw[hb]at h;simp at h
   |true=>
    rw[hb]at h;simp only[cond_true]at h;simp only[bu]at hb;have dM:ck (jW v)=n:=cz hb.2;split at h
    ·rename_i c1 KU;obtain⟨s1,s2⟩:=Zg (ids:=ids) KU;have Zj:=Qj (ids:=ids) hb.1;have hlen:(den ids v).cells.size=n:=by rw[<-Array.length_toList,Zj,kY,dM]
     simp only[eF,agI,hp i _ hpl];have PY:((decide ((den ids v).cells.size≠n))||decide (off+(den ids v).cells.size>(ai ids c).toArray.size))=false:=by
      simp[hlen];omega
     rw[if_neg (by simp only[ne_eq,Da,decide_eq_true_eq];simp[hlen];omega)];have key:(den ids v).cells.zipIdx.foldl (λ(cs:Array ae) (x:ae×Nat)=>cs.setIfInBounds (off+x.2) x.1) (ai ids c).toArray=(ai ids c1).toArray:=by
      apply fM;rw[<-Array.foldl_toList,Array.toList_zipIdx,ahD off _ _ 0 (by simp[hlen];omega)];rw[Zj,s1];simp[kY,dM]
     rw[key];exact ih _ _ h
    ·cases h
  ·cases h
theorem KV {t:aJ} {i:TypeInfo} (h:P.info? t=some i):(typeInfo t).run P w=.ok i w:=by simp[typeInfo,h]
theorem gX {t:aJ} {n:Nat} (h:eS P t=some n):(pE t).run P w=.ok n w:=by
 unfold eS at h;split at h
 ·rename_i i hi;simp only[aY]at h;simp[pE,bE,KV hi,h]
 ·cases h
theorem Be {t:aJ} {z:List V} (h:nq P t=some z):∃v,(zeroValue t).run P w=.ok v w/\v.cells.toList=ai ids z:=by
 unfold nq at h;split at h
 ·rename_i i hi;split at h
  ·rename_i v hv;simp only[aY]at h;subst h;refine⟨v,by simp[zeroValue,bE,KV hi,hv],?_⟩;rw[Qn];cases v<;>simp[Ym,DC,jW,ai,cl,den,KO]
  ·cases h
 ·cases h
theorem Zk {t:aJ} {b:Bool} (h:rL P t=some b):(isAgg t).run P w=.ok b w:=by
 unfold rL at h;split at h
 ·rename_i d hd;simp only[aY]at h;exact AU (by rw[hd];simp[h]) w
 ·cases h
theorem Qr {t:aJ} {l:List V} {off:Nat} {v:V} (h:tq P t l off=some v):(part t (ai ids l).toArray off).run P w=.ok (den ids v) w:=by
 unfold tq at h;split at h
 ·rename_i n ha hn;split at h
  ·rename_i c hc;simp only[aY]at h;subst h;obtain⟨g1,g2,g3⟩:=yO (ids:=ids) hc;simp only[part,bE,Zk ha,cK,if_pos,gX hn,du];simp only[den];congr 2;apply fM;simp[Array.toList_extract,List.extract,g1]
  ·cases h
 ·rename_i ha;have:=Qi (ids:=ids) h;simp only[part,bE,Zk ha,cK,Bool.false_eq_true,if_false];simp[this]
 ·cases h
theorem ahE {fs:List Field} (h:∀f∈fs,∃n,eS P f.type=some n):(fs.mapM λ(f:Field)=>(do pure (f.offset,<-pE f.type):Sem (Nat×Nat))).run P w=.ok (fs.map λf=>(f.offset,(eS P f.type).getD 0)) w:=by
 induction fs with
 |nil=>rfl
 |cons f l ih=>
  obtain⟨n,hn⟩:=h f (by simp);have:=ih (λf hf=>h f (by simp[hf]));simp only[List.mapM_cons,bE,gX hn,cK,du,this,eF,hn,Yi]
end
def DD (P:aL) (t:aJ) (x y:V):Option Bool:=match P.underlying t,x,y with
 |some .bool,.bool a,.bool b=>some (a==b)
 |some (.pointer _),.ptr _ _,.raw (.pointer none)=>some false
 |some (.pointer _),.raw (.pointer none),.ptr _ _=>some false
 |some (.pointer _),.raw (.pointer none),.raw (.pointer none)=>some true
 |some (.pointer _),.raw (.pointer (some _)),.raw (.pointer none)=>some false
 |some (.slice _),.sl _ _ _ _,.raw (.slice none _ _)=>some false
 |some (.slice _),.raw (.slice (some _) _ _),.raw (.slice none _ _)=>some false
 |some (.slice _),.raw (.slice none _ _),.raw (.slice none _ _)=>some true
 |_,.agg a,.agg b=>bif(bo 0 a&&bo 0 b)&&!(P.eqGuardType P.depth t)then yC P 10000 t (.agg (ai [] a).toArray) (.agg (ai [] b).toArray)else none
 |_,_,_=>none
def Gn (P:aL) (op:BinOp) (t:aJ) (x y:V):Option V:=match Qo op x y with
 |some v=>some v
 |none=>match op with
  |.eql=>(match DD P t x y with|some r=>some (.bool r)|none=>none)
  |.neq=>(match DD P t x y with|some r=>some (.bool (!r))|none=>none)
  |_=>none
def KW (v:V):Option V:=match v with
 |.ptr i o=>some (.ptr i o)
 |.fn f a b=>some (.fn f a b)
 |.pe i o j z k=>some (.pe i o j z k)
 |.raw (.pointer (some a))=>some (.raw (.pointer (some a)))
 |_=>none
def Qs (P:aL) (t:aJ) (x ix:V):Option V:=match P.underlying t,x,ix with
 |some (.array n el),.ptr i off,.int _ (.ofNat j)=>bif cD j n then(match eS P el with|some z=>some (.ptr i (off+j*z))|none=>none)else none
 |some (.slice el),.sl i off n _,.int _ (.ofNat j)=>bif cD j n then(match eS P el with|some z=>some (.ptr i (off+j*z))|none=>none)else none
 |_,_,_=>none
def Qt (P:aL) (s:aJ) (x:V) (f:Nat):Option V:=match P.underlying s,x with
 |some (.struct fs),.ptr i off=>(match fs[f]?with
  |some fd=>(match eS P fd.type with|some (_+1)=>some (.ptr i (off+fd.offset))|_=>none)
  |none=>none)
 |some (.struct fs),.pe i o j z k=>(match fs[f]?with
  |some fd=>(match eS P fd.type with|some (_+1)=>some (.pe i o j z (k+fd.offset))|_=>none)
  |none=>none)
 |_,_=>none
def Qu (P:aL) (t:aJ) (ps:List (Nat×V)):Option V:=match P.underlying t,nq P t with
 |some (.struct fs),some z=>bif Zi P fs then(match yP (placesOf P fs) z ps with|some c=>some (.agg c)|none=>none)else none
 |some (.array _ el),some z=>(match eS P el with|some n=>(match yP (λi=>some (i*n,n)) z ps with|some c=>some (.agg c)|none=>none)|none=>none)
 |_,_=>none
def Qv (P:aL) (t:aJ) (x:V):Option V:=match P.underlying t,x with
 |some (.slice _),.sl _ _ n _=>some (.int .i64 (n:Int))
 |some (.slice _),.gp _ _ n _ _=>some (.int .i64 (n:Int))
 |some (.slice _),.raw (.slice _ n _)=>some (.int .i64 (n:Int))
 |some (.array n _),_=>some (.int .i64 (n:Int))
 |_,_=>none
def wm (x:V) (y:Nat):Option Nat:=match x with
 |.int _ (.ofNat i)=>bif bG i y then some i else none
 |_=>none
def qh (e:bh->V) (o:Option bh) (y d:Nat):Option Nat:=match o with
 |some x=>wm (e x) y
 |none=>some d
def Qw (P:aL) (e:bh->V) (t:aJ) (x:V) (lo hi:Option bh):Option V:=match P.underlying t,x with
 |some (.slice el),.sl i off n c=>(match qh e hi c n,eS P el with
  |some h,some z=>(match qh e lo h 0 with
   |some l=>some (.sl i (bif az c l then off else off+l*z) (h-l) (c-l))
   |none=>none)
  |_,_=>none)
 |some (.pointer arr),.ptr i off=>(match P.underlying arr with
  |some (.array n el)=>(match qh e hi n n,eS P el with
   |some h,some z=>(match qh e lo h 0 with
    |some l=>some (.sl i (bif az n l then off else off+l*z) (h-l) (n-l))
    |none=>none)
   |_,_=>none)
  |_=>none)
 |some (.array n el),.ptr i off=>(match qh e hi n n,eS P el with
  |some h,some z=>(match qh e lo h 0 with
   |some l=>some (.sl i (bif az n l then off else off+l*z) (h-l) (n-l))
   |none=>none)
  |_,_=>none)
 |_,_=>none
def Qx (P:aL) (e:bh->V) (t:aJ) (x:V) (lo:Option bh) (hi mx:bh):Option V:=match P.underlying t,x with
 |some (.pointer arr),.ptr i off=>(match P.underlying arr with
  |some (.array n el)=>(match wm (e mx) n,eS P el with
   |some m,some z=>(match wm (e hi) m with
    |some h=>(match qh e lo h 0 with
     |some l=>some (.sl i (bif az m l then off else off+l*z) (h-l) (m-l))
     |none=>none)
    |none=>none)
   |_,_=>none)
  |_=>none)
 |some (.array n el),.ptr i off=>(match wm (e mx) n,eS P el with
  |some m,some z=>(match wm (e hi) m with
   |some h=>(match qh e lo h 0 with
    |some l=>some (.sl i (bif az m l then off else off+l*z) (h-l) (m-l))
    |none=>none)
   |none=>none)
  |_,_=>none)
 |_,_=>none
def Zl (x y:V):Option V:=match x,y with
 |.int k a,.int _ b=>some (.int k (if b<a then b else a))
 |_,_=>none
def Zm (x y:V):Option V:=match x,y with
 |.int k a,.int _ b=>some (.int k (if b>a then b else a))
 |_,_=>none
def Qy (P:aL) (arr:aJ) (x:V):Option V:=match P.underlying arr,x with
 |some (.array n _),.sl i off len c=>bif bG n len then some (.ptr i off)else none
 |_,_=>none
def KX:BinOp->bh->Bool
 |.rem,.const (.int .i64 (.ofNat 3))=>true
 |_,_=>false
def Gp (P:aL) (e:bh->V):Op->Option V
 |.move x=>some (e x)
 |.assign x=>some (e x)
 |.pick c a b=>(match e c with|.bool c=>some (Qk c (e a) (e b))|_=>none)
 |.nilCheck x=>KW (e x)
 |.binOp op t x y _=>bif KX op y then none else Gn P op t (e x) (e y)
 |.unOp op _ x=>Qp op (e x)
 |.convert s d x=>(match P.underlying s,P.underlying d,e x with|some _,some (.int k),.int _ n=>some (.int k (k.wrap n))|_,_,_=>none)
 |.makeFunc (.func f) a b=>some (.fn f (a.toList.map e) (b.toList.map e))
 |.makeInterface t x=>(match P.underlying t with|some (.interface _)=>none|some _=>some (.mH t (e x))|none=>none)
 |.build t ps=>Qu P t (KR e ps)
 |.fieldAddr s x f=>Qt P s (e x) f
 |.field s x f=>(match P.underlying s,e x with
  |some (.struct fs),.agg l=>(match fs[f]?with|some fd=>tq P fd.type l fd.offset|none=>none)
  |_,_=>none)
 |.indexAddr t x ix=>Qs P t (e x) (e ix)
 |.index t x ix=>(match P.underlying t,e x,e ix with
  |some (.array n el),.agg l,.int _ (.ofNat j)=>bif cD j n then(match eS P el with|some z=>tq P el l (j*z)|none=>none)else none
  |some .string,.raw (.string s),.int _ (.ofNat j)=>(match s[j]?with|some b=>some (.int .u8 b.toNat)|none=>none)
  |_,_,_=>none)
 |.extract x i=>(match e x with|.av l=>(match l[i]?with|some v=>some v|none=>none)|_=>none)
 |.call c=>(match c.callee,c.args.toList,c.argTypes.toList with
  |.builtin .len,[x],t::_=>Qv P t (e x)
  |.builtin .min,[x,y],_=>Zl (e x) (e y)
  |.builtin .max,[x,y],_=>Zm (e x) (e y)
  |_,_,_=>none)
 |.slice t x lo hi none=>Qw P e t (e x) lo hi
 |.slice t x lo (some hi) (some mx)=>Qx P e t (e x) lo hi mx
 |.sliceToArrayPointer arr x=>Qy P arr (e x)
 |_=>none
section
variable{ids:List Nat} {P:aL} {w:ag} {e:bh->V} {ρ:bh->ae}
theorem Zn {t:aJ} {x y:V} {r:Bool} (h:DD P t x y=some r) (xo yo:bh) (op:BinOp) (iW:op=.eql\/op=.neq):
 (eqGuard op t xo yo (den ids x) (den ids y)).run P w=.ok () w/\(Yo t (den ids x) (den ids y)).run P w=.ok r w:=by
 have g0:∀(a b:ae),(∀x,a≠.agg x)->(a≠.nilIface)->(eqGuard op t xo yo a b).run P w=.ok () w:=by
  intro a b h1 h2;unfold eqGuard;rcases iW with rfl|rfl<;>(cases a<;>first|rfl|(exact absurd rfl h2)|(exact absurd rfl (h1 _)))
 unfold DD at h;split at h
 case h_9=>
  rename_i a b;cases hb:(bo 0 a&&bo 0 b)&&!(P.eqGuardType P.depth t)with
  |false=>rw[hb]at h;simp at h
  |true=>
   rw[hb]at h;simp only[cond_true]at h;simp only[bu,my]at hb;have ha:ai ids a=ai [] a:=by have:=jg (ids:=[]) (more:=ids) a hb.1.1;simpa using this
   have wk:ai ids b=ai [] b:=by have:=jg (ids:=[]) (more:=ids) b hb.1.2;simpa using this
   refine⟨?_,?_⟩
   ·simp only[den];unfold eqGuard;rcases iW with rfl|rfl<;>simp[hb.2]
   ·have:=Kq 10000 t _ _ r h w;simp only[den,ha,wk];exact this
 all_goals first
  |(rename_i hu
    simp only[aY]at h;subst h;refine⟨g0 _ _ (by intro x;simp[den]) (by simp[den]),?_⟩;simp only[den];unfold Yo Op.maxDepth Op.equalIn;simp[bE,dI hu]
    done)
  |cases h
theorem Zo {t:aJ} {x y:V} {r:Bool} (h:DD P t x y=some r):(∃b,den ids x=.bool b)\/(∃b,den ids x=.pointer b/\∃c,den ids y=.pointer c)\/(∃b n c,den ids x=.slice b n c)\/(∃b,den ids x=.agg b):=by
 unfold DD at h;split at h<;>first|(exact .inl ⟨_,by simp only[den];rfl⟩)|(exact .inr (.inl ⟨_,by simp only[den];rfl,_,by simp only[den];rfl⟩))|(exact .inr (.inr (.inl ⟨_,_,_,by simp only[den];rfl⟩)))|(exact .inr (.inr (.inr ⟨_,by simp only[den];rfl⟩)))|cases h
theorem Qz {op:BinOp} {t:aJ} {x y v:V} (h:Gn P op t x y=some v) (xo yo:bh):
 ((do eqGuard op t xo yo (den ids x) (den ids y);binOp op t (den ids x) (den ids y)):Sem ae).run P w=.ok (den ids v) w:=by
 unfold Gn at h;split at h
 ·rename_i v' hv;simp only[aY]at h;subst h;exact ahz hv t xo yo
 ·split at h
  ·split at h
   ·rename_i r hr;simp only[aY]at h;subst h;obtain⟨h1,h2⟩:=Zn (ids:=ids) (w:=w) hr xo yo .eql (.inl rfl);simp only[bE,h1,cK];have h3:binOp .eql t (den ids x) (den ids y)=(do pure (.bool (<-Yo t (den ids x) (den ids y)))):=by
     rcases Zo (ids:=ids) hr with⟨b,hb⟩|⟨b,hb,c,hc⟩|⟨b,n,c,hb⟩|⟨b,hb⟩
     ·rw[hb];rfl
     ·rw[hb,hc];rfl
     ·rw[hb];rfl
     ·rw[hb];rfl
    rw[h3];simp[bE,h2,den]
   ·cases h
  ·split at h
   ·rename_i r hr;simp only[aY]at h;subst h;obtain⟨h1,h2⟩:=Zn (ids:=ids) (w:=w) hr xo yo .neq (.inr rfl);simp only[bE,h1,cK];have h3:binOp .neq t (den ids x) (den ids y)=(do pure (.bool (!(<-Yo t (den ids x) (den ids y))))):=by
     rcases Zo (ids:=ids) hr with⟨b,hb⟩|⟨b,hb,c,hc⟩|⟨b,n,c,hb⟩|⟨b,hb⟩
     ·rw[hb];rfl
     ·rw[hb,hc];rfl
     ·rw[hb];rfl
     ·rw[hb];rfl
    rw[h3];simp[bE,h2,den]
   ·cases h
  ·cases h
theorem ahF {x v:V} (h:KW x=some v):v=x/\(∀(f:ae->Sem Next) (g:Sem Next),(match den ids x with
 |.pointer none|.nilIface|.nilFunc=>g
 |x=>f x)=f (den ids x)):=by
 unfold KW at h;split at h<;>first|(simp only[aY]at h;subst h;exact⟨rfl,λf g=>by simp[den]⟩)|cases h
theorem tu (b off k:Nat):(⟨b,off,none⟩:aQ).add k=⟨b,off+k,none⟩:=by unfold vO;split<;>simp_all
theorem ahG {t:aJ} {x ix v:V} (h:Qs P t x ix=some v):(uo t (den ids x) (den ids ix)).run P w=.ok (den ids v) w:=by
 unfold Qs at h;split at h
 ·rename_i n el i off k j hu;cases hb:cD j n with
  |false=>rw[hb]at h;simp at h
  |true=>
   rw[hb]at h;simp only[cond_true]at h;have hj:j<n:=by rw[iG]at hb;exact hb
   split at h
   ·rename_i z hz;simp only[aY]at h;subst h;have h1:(0:Int)<=db j/\db j<(n:Int):=by simp only[FG];omega
    simp only[uo,den,asIntOf,ju,bE,du,cK,dI hu];rw[if_pos h1];simp[bE,gX hz,tu]
   ·cases h
 ·rename_i el i off n c k j hu;cases hb:cD j n with
  |false=>rw[hb]at h;simp at h
  |true=>
   rw[hb]at h;simp only[cond_true]at h;have hj:j<n:=by rw[iG]at hb;exact hb
   split at h
   ·rename_i z hz;simp only[aY]at h;subst h;have h1:(0:Int)<=db j/\db j<(n:Int):=by simp only[FG];omega
    simp only[uo,den,asIntOf,bE,du,cK,dI hu];rw[if_pos h1];simp[bE,gX hz,tu]
   ·cases h
 ·cases h
theorem ahH {s:aJ} {x v:V} {f:Nat} (h:Qt P s x f=some v):(agJ s (den ids x) f).run P w=.ok (den ids v) w:=by
 unfold Qt at h;split at h
 ·rename_i fs i off hu;split at h
  ·rename_i fd Gq;split at h
   ·rename_i n hn;simp only[aY]at h;subst h;simp[agJ,ju,den,bE,dI hu,Gq,fieldPlace,gX hn,tu]
   ·cases h
  ·cases h
 ·rename_i fs i j z k hu;split at h
  ·rename_i fd Gq;split at h
   ·rename_i n hn;simp only[aY]at h;subst h;simp[agJ,ju,den,bE,dI hu,Gq,fieldPlace,gX hn,tu,AI]
   ·cases h
  ·cases h
 ·cases h
theorem ahI {t:aJ} {ps:List (Nat×V)} {v:V} (h:Qu P t ps=some v):(agK t (ps.map λp=>(p.1,den ids p.2)).toArray).run P w=.ok (den ids v) w:=by
 unfold Qu at h;split at h
 ·rename_i fs z hu hz;cases hk:Zi P fs with
  |false=>rw[hk]at h;simp at h
  |true=>
   rw[hk]at h;simp only[cond_true]at h;split at h
   ·rename_i c hc;simp only[aY]at h;subst h;obtain⟨v0,z1,z2⟩:=Be (P:=P) (w:=w) (ids:=ids) hz;have hm:=ahE (P:=P) (w:=w) (fs:=fs.toList) (λf hf=>by
     have:=(gm.1 hk) f hf;split at this
     ·rename_i n hn;exact⟨n,hn⟩
     ·cases this)
    have wo:(fs.mapM λ(f:Field)=>(do pure (f.offset,<-pE f.type):Sem (Nat×Nat))).run P w=.ok (fs.toList.map λf=>(f.offset,(eS P f.type).getD 0)).toArray w:=by
     have e:fs=fs.toList.toArray:=by simp
     rw[e,List.mapM_toArray];simp only[Sem.run_map,hm,cK]
    have hf:=Qq (ids:=ids) (place:=λi=>((fs.toList.map λf=>(f.offset,(eS P f.type).getD 0)).toArray)[i]?) (λi x hx=>by
     unfold placesOf at hx;split at hx
     ·rename_i f hf;split at hx
      ·rename_i n hn;simp only[aY]at hx;subst hx;simp[hf,hn]
      ·cases hx
     ·cases hx) ps z c hc
    have Bg:v0.cells=(ai ids z).toArray:=by apply fM;simpa using z2
    simp only[agK,bE,z1,cK,dI hu,wo,Bg];simp only[den];rw[hf];rfl
   ·cases h
 ·rename_i n el z hu hz;split at h
  ·rename_i m hm;split at h
   ·rename_i c hc;simp only[aY]at h;subst h;obtain⟨v0,z1,z2⟩:=Be (P:=P) (w:=w) (ids:=ids) hz;have hf:=Qq (ids:=ids) (place:=λi=>some (i*m,m)) (λi x hx=>hx) ps z c hc;have Bg:v0.cells=(ai ids z).toArray:=by apply fM;simpa using z2
    simp only[agK,bE,z1,cK,dI hu,gX hm,Bg];simp only[den];rw[hf];rfl
   ·cases h
  ·cases h
 ·cases h
end
section
variable{ids:List Nat} {P:aL} {w:ag} {e:bh->V} {ρ:bh->ae}
theorem ahJ {t:aJ} {x v:V} (h:Qv P t x=some v) (ty:aJ) (ts:Array aJ) (ht:ts[0]?=some t):(Builtin.len_ ts ty #[den ids x]).run P w=.ok (den ids v) w:=by
 unfold Qv at h;split at h<;>first
  |(rename_i hu
    simp only[aY]at h;subst h;simp[Builtin.len_,ht,bE,dI hu,den,goInt]
    done)
  |cases h
theorem Zp (ps:Array (Nat×bh)) (ba:∀x,ρ x=den ids (e x)):(ps.map λ(p:Nat×bh)=>(p.1,ρ p.2))=((KR e ps).map λp=>(p.1,den ids p.2)).toArray:=by
 apply fM;simp[KR,ba]
theorem ahK (l:List bh) (ba:∀x,ρ x=den ids (e x)):aH ids (l.map e)=l.map ρ:=by
 rw[yM,lQ];apply pI;intro x _;exact(ba x).symm
theorem DE {x:V} {y i:Nat} (code:BoundsCode) (h:wm x y=some i):(AJ (den ids x) y code).run P w=.ok i w/\i<=y:=by
 unfold wm at h;split at h
 ·rename_i k j;cases hb:bG j y with
  |false=>rw[hb]at h;cases h
  |true=>
   rw[hb]at h;obtain rfl:j=i:=by simpa using h
   have hle:=dJ hb;refine⟨?_,hle⟩;have h2:(0:Int)<=db j/\db j<=(y:Int):=⟨AL j,Int.ofNat_le.2 hle⟩;simp only[AJ,den,asIntOf,bE,du,cK,if_pos h2];rfl
 ·cases h
theorem QA (ba:∀x,ρ x=den ids (e x)) {lo hi:Option bh} {len cap h l:Nat} (b:Bool) (h1:qh e hi cap len=some h) (h2:qh e lo h 0=some l):
 (ux b len cap (lo.map ρ) (hi.map ρ) none).run P w=.ok (l,h,cap) w:=by
 unfold qh at h1 h2;cases hi with
 |none=>
  obtain rfl:len=h:=by simpa using h1
  cases lo with
  |none=>
   obtain rfl:0=l:=by simpa using h2
   simp[ux,jT]
  |some x=>
   have:=DE (P:=P) (ids:=ids) (w:=w) .sliceB h2;simp[ux,jT,ba,this.1]
 |some y=>
  have a1:=λc=>(DE (P:=P) (ids:=ids) (w:=w) c h1).1;cases lo with
  |none=>
   obtain rfl:0=l:=by simpa using h2
   simp[ux,jT,ba,a1]
  |some x=>
   have:=DE (P:=P) (ids:=ids) (w:=w) .sliceB h2;simp[ux,jT,ba,this.1,a1]
theorem ahL (ba:∀x,ρ x=den ids (e x)) {t:aJ} {x:bh} {lo hi:Option bh} {v:V} (h:Qw P e t (e x) lo hi=some v):(uw t (ρ x) (lo.map ρ) (hi.map ρ) none).run P w=.ok (den ids v) w:=by
 unfold Qw at h;have fin:∀(c l off z i:Nat),(if c=l then(⟨ids.getD i 0,off,none⟩:aQ)else vO ⟨ids.getD i 0,off,none⟩ (l*z))=⟨ids.getD i 0,bif az c l then off else off+l*z,none⟩:=by
  intro c l off z i;by_cases hc:c=l
  ·subst hc;simp
  ·have:az c l=false:=by
    cases hb:az c l with
    |true=>exact absurd (cz hb) hc
    |false=>rfl
   rw[if_neg hc,this,iS];rfl
 split at h
 ·rename_i el i off n c hu hx;split at h
  ·rename_i hh z h1 hz;split at h
   ·rename_i l h2;obtain rfl:=cG h;have hb:=QA (P:=P) (w:=w) ba true h1 h2;have hs:=gX (P:=P) (w:=w) hz;have:=fin c l off z i;simp only[den,<-this];have run:(uw t (ρ x) (lo.map ρ) (hi.map ρ) none).run P w=.ok (.slice (if c=l then some ⟨ids.getD i 0,off,none⟩else some (vO ⟨ids.getD i 0,off,none⟩ (l*z))) (hh-l) (c-l)) w:=by
     simp[uw,FE,dI hu,ba,hx,den,hb,hs,jT]
    rw[run];by_cases hc:c=l
    ·rw[if_pos hc,if_pos hc]
    ·rw[if_neg hc,if_neg hc]
   ·cases h
  ·cases h
 ·rename_i arr i off hu hx;split at h
  ·rename_i n el QB;split at h
   ·rename_i hh z h1 hz;split at h
    ·rename_i l h2;obtain rfl:=cG h;have hb:=QA (P:=P) (w:=w) ba false h1 h2;have hs:=gX (P:=P) (w:=w) hz;have:=fin n l off z i;simp only[den,<-this];simp[uw,FE,dI hu,dI QB,asAddr,ba,hx,den,hb,hs,jT]
    ·cases h
   ·cases h
  ·cases h
 ·rename_i n el i off hu hx;split at h
  ·rename_i hh z h1 hz;split at h
   ·rename_i l h2;obtain rfl:=cG h;have hb:=QA (P:=P) (w:=w) ba false h1 h2;have hs:=gX (P:=P) (w:=w) hz;have:=fin n l off z i;simp only[den,<-this];simp[uw,ju,dI hu,ba,hx,den,hb,hs,jT]
   ·cases h
  ·cases h
 ·cases h
theorem Zq (ba:∀x,ρ x=den ids (e x)) {lo:Option bh} {hi mx:bh} {len cap m h l:Nat} (b:Bool) (h0:wm (e mx) cap=some m) (h1:wm (e hi) m=some h) (h2:qh e lo h 0=some l):
 (ux b len cap (lo.map ρ) (some (ρ hi)) (some (ρ mx))).run P w=.ok (l,h,m) w:=by
 have a0:=λc=>(DE (P:=P) (ids:=ids) (w:=w) c h0).1;have a1:=λc=>(DE (P:=P) (ids:=ids) (w:=w) c h1).1;unfold qh at h2;cases lo with
 |none=>
  obtain rfl:0=l:=by simpa using h2
  simp[ux,jT,ba,a0,a1]
 |some x=>
  have:=λc=>(DE (P:=P) (ids:=ids) (w:=w) c h2).1;simp[ux,jT,ba,a0,a1,this]
theorem ahM (ba:∀x,ρ x=den ids (e x)) {t:aJ} {x:bh} {lo:Option bh} {hi mx:bh} {v:V} (h:Qx P e t (e x) lo hi mx=some v):(uw t (ρ x) (lo.map ρ) (some (ρ hi)) (some (ρ mx))).run P w=.ok (den ids v) w:=by
 unfold Qx at h;have fin:∀(c l off z i:Nat),(if c=l then(⟨ids.getD i 0,off,none⟩:aQ)else vO ⟨ids.getD i 0,off,none⟩ (l*z))=⟨ids.getD i 0,bif az c l then off else off+l*z,none⟩:=by
  intro c l off z i;by_cases hc:c=l
  ·subst hc;simp
  ·have:az c l=false:=by
    cases hb:az c l with
    |true=>exact absurd (cz hb) hc
    |false=>rfl
   rw[if_neg hc,this,iS];rfl
 split at h
 ·rename_i arr i off hu hx;split at h
  ·rename_i n el QB;split at h
   ·rename_i m z h0 hz;split at h
    ·rename_i hh h1;split at h
     ·rename_i l h2;obtain rfl:=cG h;have hb:=Zq (P:=P) (w:=w) (len:=n) ba false h0 h1 h2;have hs:=gX (P:=P) (w:=w) hz;have:=fin m l off z i;simp only[den,<-this];simp[uw,FE,dI hu,dI QB,asAddr,ba,hx,den,hs,jT]at hb⊢;simp[hb,hs]
     ·cases h
    ·cases h
   ·cases h
  ·cases h
 ·rename_i n el i off hu hx;split at h
  ·rename_i m z h0 hz;split at h
   ·rename_i hh h1;split at h
    ·rename_i l h2;obtain rfl:=cG h;have hb:=Zq (P:=P) (w:=w) (len:=n) ba false h0 h1 h2;have hs:=gX (P:=P) (w:=w) hz;have:=fin m l off z i;simp only[den,<-this];simp[uw,ju,dI hu,ba,hx,den,hs,jT]at hb⊢;simp[hb,hs]
    ·cases h
   ·cases h
  ·cases h
 ·cases h
theorem ahN {arr:aJ} {x v:V} (h:Qy P arr x=some v):(Instr.arrayAt arr (den ids x)).run P w=.ok (den ids v) w:=by
 unfold Qy at h;split at h
 ·rename_i n el i off len c hu;cases hq:bG n len with
  |false=>rw[hq]at h;cases h
  |true=>
   rw[hq]at h;obtain rfl:=cG h;have hle:=dJ hq;simp[Instr.arrayAt,dI hu,den,jT,Nat.not_lt.2 hle]
 ·cases h
theorem Zr (ba:∀x,ρ x=den ids (e x)) (o:ax) (v:V) (h:Gp P e o.op=some v):(execOp ρ o).run P w=.ok (.value (den ids v)) w:=by
 unfold execOp;unfold Gp at h;split at h
 ·rename_i x ho;simp only[aY]at h;subst h;simp[ho,ba]
 ·rename_i x ho;simp only[aY]at h;subst h;simp[ho,ba]
 ·rename_i c a b ho;split at h
  ·rename_i cb hc;simp only[aY]at h;subst h;simp only[ho,ba,hc,den,asBool,bE,du,cK,ahx]
  ·cases h
 ·rename_i x ho;obtain⟨rfl,hk⟩:=ahF (ids:=ids) h;simp only[ho,ba];unfold KW at h;split at h<;>first|(simp_all[den];done)|cases h
 ·rename_i op t x y yt ho;cases hr:KX op y with
  |true=>rw[hr]at h;cases h
  |false=>
   rw[hr]at h;simp only[cond_false]at h;simp only[ho,ba];rw[bE,Qz h];rfl
 ·rename_i op t x ho;simp only[ho,ba];rw[bE,ahC h];rfl
 ·rename_i s d x ho;split at h
  ·rename_i d' k n hs hd hx;simp only[aY]at h;subst h;simp[ho,ba,hx,den,convert,bE,dI hs,dI hd,Conv.intToInt]
  ·cases h
 ·rename_i f a b ho;simp only[aY]at h;subst h;simp only[ho,Instr.makeFunc,den,ahK _ ba,bE,du,cK];rw[show a.map ρ=(a.toList.map ρ).toArray from by apply fM;simp,show b.map ρ=(b.toList.map ρ).toArray from by apply fM;simp]
 ·rename_i t x ho;split at h
  ·cases h
  ·rename_i d hd hu;simp only[aY]at h;subst h;simp only[ho,ba,Instr.makeInterface,bE,dI hu,cK];cases d<;>first|(simp[den];done)|(exact absurd rfl (hd _))
  ·cases h
 ·rename_i t ps ho;try simp only[ho]
  rw[bE];have:=ahI (ids:=ids) (w:=w) h;rw[show(ps.map λ(x:Nat×bh)=>match x with|(i,x)=>(i,ρ x))=(ps.map λ(p:Nat×bh)=>(p.1,ρ p.2))from rfl,Zp ps ba,this];rfl
 ·rename_i s x f ho;simp only[ho,ba];rw[bE,ahH h];rfl
 ·rename_i s x f ho;split at h
  ·rename_i fs l hu hx;split at h
   ·rename_i fd Gq;simp only[ho,ba,hx,den,Instr.field,bE,dI hu,cK,Gq,asAgg,du,Qr h]
   ·cases h
  ·cases h
 ·rename_i t x ix ho;simp only[ho,ba];rw[bE,ahG h];rfl
 ·rename_i t x ix ho;split at h
  ·rename_i n el l k j hu hx iM;cases hb:cD j n with
   |false=>rw[hb]at h;simp at h
   |true=>
    rw[hb]at h;simp only[cond_true]at h;have hj:j<n:=by rw[iG]at hb;exact hb
    split at h
    ·rename_i z hz;have h1:(0:Int)<=db j/\db j<(n:Int):=by simp only[FG];omega
     simp only[ho,ba,hx,iM,den,Instr.index,asIntOf,bE,du,cK,dI hu];rw[if_pos h1];have:=Qr (ids:=ids) (w:=w) h;simp[bE,gX hz,this]
    ·cases h
  ·rename_i s k j hu hx iM;split at h
   ·rename_i b hb;cases h;have h0:(0:Int)<=db j:=AL j;have h1:(db j).toNat=j:=rfl;simp only[ho,ba,hx,iM,den,Instr.index,asIntOf,bE,du,cK,dI hu,if_pos h0,h1,hb]
   ·cases h
  ·cases h
 ·rename_i x i ho;split at h
  ·rename_i l hx;split at h
   ·rename_i u hu;simp only[aY]at h;subst h;simp[ho,ba,hx,den,Instr.extract,yM,hu]
   ·cases h
  ·cases h
 ·rename_i c ho;split at h
  ·rename_i x t ts hc ha ht;obtain⟨callee,args,QC⟩:=c;simp only at hc ha ht;subst hc;have uM:args=#[x]:=by apply fM;simpa using ha
   have h0:QC[0]?=some t:=by rw[<-Array.getElem?_toList,ht];rfl
   subst uM;simp only[ho,resolve,bE,du,cK,invoke,builtin];rw[show(#[x].map ρ)=#[den ids (e x)] by simp[ba]];rw[ahJ h _ _ h0];rfl
  ·rename_i x y hc ha;obtain⟨callee,args,QC⟩:=c;simp only at hc ha;subst hc;have uM:args=#[x,y]:=by apply fM;simpa using ha
   subst uM;unfold Zl at h;split at h
   ·rename_i k a k2 b hx hy;obtain rfl:=cG h;simp[ho,resolve,invoke,builtin,ba,hx,hy,den,Builtin.min_,Builtin.min2,jT]
   ·cases h
  ·rename_i x y hc ha;obtain⟨callee,args,QC⟩:=c;simp only at hc ha;subst hc;have uM:args=#[x,y]:=by apply fM;simpa using ha
   subst uM;unfold Zm at h;split at h
   ·rename_i k a k2 b hx hy;obtain rfl:=cG h;simp[ho,resolve,invoke,builtin,ba,hx,hy,den,Builtin.max_,Builtin.max2,jT]
   ·cases h
  ·cases h
 ·rename_i t x lo hi ho;simp only[ho,Option.map_none];rw[bE,ahL ba h];rfl
 ·rename_i t x lo hi mx ho;simp only[ho,mz];rw[bE,ahM ba h];rfl
 ·rename_i arr x ho;simp only[ho,ba];rw[bE,ahN h];rfl
 ·cases h
end
end Vx
namespace Vx
open Go Go.RowKit Go.BigFrame Sx
structure BT where
 t:aJ
 fz:Nat×Nat
instance(n:Nat):OfNat BT n:=⟨⟨n,(0,0)⟩⟩
instance:Coe aJ BT:=⟨λt=>⟨t,(0,0)⟩⟩
def yQ:BT->aJ->Bool
 |⟨t,(0,0)⟩,n=>az t n
 |_,_=>false
theorem QD {b:BT} {n:Nat} (h:yQ b n=true):b=⟨n,(0,0)⟩:=by
 unfold yQ at h;split at h
 ·rw[cz h]
 ·cases h
structure VB where
 wr:Bool
 ty:BT
 c:List V
def aD (ids:List Nat) (id:Nat) (b:VB):aj:=⟨id,b.wr,.cells (ai ids b.c).toArray b.ty.t b.ty.fz⟩
def lits (ids:List Nat):List Nat->List VB->List aj
 |i::is,b::bl=>aD ids i b::lits ids is bl
 |_,_=>[]
def uN (P:aL) (bl:List VB) (t:aJ) (x:V):Option V:=match x with
 |.ptr i off=>(match bl[i]?with
  |some b=>tq P t b.c off
  |none=>none)
 |_=>none
def KY (P:aL) (bl:List VB) (t:aJ) (x v:V):Option (List VB):=match x with
 |.ptr i off=>(match bl[i]?with
  |some ⟨true,⟨ty,(0,0)⟩,c⟩=>(match eS P t with
   |some n=>bif qg v&&(mI (jW v)&&az (ck (jW v)) n)then(match KI c off n (jW v)with|some c'=>some (bl.set i ⟨true,⟨ty,(0,0)⟩,c'⟩)|none=>none)else none
   |none=>none)
  |_=>none)
 |_=>none
def lD (z:List V):Nat->List V
 |0=>[]
 |n+1=>z++lD z n
def Gs (P:aL) (e:bh->V) (n:Nat):Op->Option (V×VB)
 |.alloc t=>(match nq P t with|some z=>some (.ptr n 0,⟨true,t,z⟩)|none=>none)
 |.box t x=>bif qg (e x)then some (.ptr n 0,⟨true,t,jW (e x)⟩)else none
 |.buildSlice t len ps=>(match P.underlying t with
  |some (.slice el)=>(match eS P el,nq P el with
   |some (z+1),some zc=>bif az (ck zc) (z+1)&&(bG (len*(z+1)) (2^24)&&!(az len 0&&(az z 5||az z 13)))then(match yP (λi=>some (i*(z+1),z+1)) (lD zc len) (KR e ps)with|some c=>some (.sl n 0 len len,⟨true,el,c⟩)|none=>none)else none
   |_,_=>none)
  |_=>none)
 |_=>none
def bM (n:Nat):List VB->Bool
 |[]=>true
 |b::l=>bo n b.c&&bM n l
section
variable{ids:List Nat} {P:aL} {w w0:ag} {ms:List Nat} {e:bh->V} {ρ:bh->ae} {bl:List VB} {R:List aj}
theorem yR:∀(is:List Nat) (bl:List VB),is.length=bl.length->(lits ids is bl).length=bl.length
 |[],[],_=>rfl
 |i::is,b::bl,h=>by simp[lits,yR is bl (by simpa using h)]
 |[],_::_,h=>by simp at h
 |_::_,[],h=>by simp at h
theorem KZ:∀(is:List Nat) (bl:List VB) {k:Nat} {b:VB},is.length=bl.length->bl[k]?=some b->(lits ids is bl)[k]?=some (aD ids (is.getD k 0) b)
 |[],[],k,b,_,h=>by simp at h
 |i::is,c::bl,k,b,hl,h=>by
  cases k with
  |zero=>simp only[List.getElem?_cons_zero,aY]at h;subst h;simp[lits]
  |succ k=>simpa[lits]using KZ is bl (by simpa using hl) (by simpa using h)
 |[],_::_,_,_,h,_=>by simp at h
 |_::_,[],_,_,h,_=>by simp at h
theorem yS:∀(is:List Nat) (bl:List VB) (k:Nat) (b:VB),is.length=bl.length->(lits ids is bl).set k (aD ids (is.getD k 0) b)=lits ids is (bl.set k b)
 |[],[],k,b,_=>by simp[lits]
 |i::is,c::bl,k,b,hl=>by
  cases k with
  |zero=>simp[lits]
  |succ k=>simpa[lits]using yS is bl k b (by simpa using hl)
 |[],_::_,_,_,h=>by simp at h
 |_::_,[],_,_,h=>by simp at h
theorem fC (is js:List Nat) (bl cl:List VB) (h:is.length=bl.length):lits ids (is++js) (bl++cl)=lits ids is bl++lits ids js cl:=by
 induction is generalizing bl with
 |nil=>cases bl with
  |nil=>simp[lits]
  |cons=>simp at h
 |cons i is ih=>cases bl with
  |nil=>simp at h
  |cons b bl=>simp[lits,ih bl (by simpa using h)]
theorem fD {more:List Nat}:∀(is:List Nat) (bl:List VB),bM ids.length bl=true->lits (ids++more) is bl=lits ids is bl
 |[],_,_=>by simp[lits]
 |_::_,[],_=>by simp[lits]
 |i::is,b::bl,h=>by
  simp only[bM,bu]at h;simp only[lits,aD,jg _ h.1,fD is bl h.2]
theorem fV (hl:ids.length=bl.length) (S:St ms w0 (lits ids ids bl++R) w) {i:Nat} {b:VB} (h:bl[i]?=some b):
 (lits ids ids bl++R)[i]?=some (aD ids (ids.getD i 0) b)/\w.heap[ids.getD i 0]?=some (.cells (ai ids b.c).toArray b.ty.t b.ty.fz):=by
 have h1:=KZ (ids:=ids) ids bl hl h;have h2:(lits ids ids bl++R)[i]?=some (aD ids (ids.getD i 0) b):=by
  rw[iq (by rw[yR ids bl hl];rcases cZ i bl.length with h'|h';exact h';simp[h']at h)];exact h1
 exact⟨h2,S.at_ i _ h2⟩
theorem K1 (hl:ids.length=bl.length) (S:St ms w0 (lits ids ids bl++R) w) {t:aJ} {x v:V} (h:uN P bl t x=some v):(qZ t (den ids x)).run P w=.ok (den ids v) w:=by
 unfold uN at h;split at h
 ·rename_i i off;split at h
  ·rename_i b hb;have aP:=(fV hl S hb).2;unfold tq at h;simp only[qZ,den,ju,bE,du,cK];split at h
   ·rename_i n ha hn;split at h
    ·rename_i c hc;simp only[aY]at h;subst h;obtain⟨g1,g2,g3⟩:=yO (ids:=ids) hc;refine FL (n:=n) aP ?_ ?_ ?_ ?_
     ·unfold rL at ha;split at ha
      ·rename_i d hd;rw[hd];simpa using ha
      ·cases ha
     ·unfold eS at hn;split at hn
      ·rename_i d hd;rw[hd];simpa using hn
      ·cases hn
     ·apply fM;simp[Array.toList_extract,List.extract,g1]
     ·simpa using g2
    ·cases h
   ·rename_i ha;have:=Qi (ids:=ids) h;refine Dj aP ?_ (by simpa using this);unfold rL at ha;split at ha
    ·rename_i d hd;rw[hd];simpa using ha
    ·cases ha
   ·cases h
  ·cases h
 ·cases h
theorem Zs (hl:ids.length=bl.length) (S:St ms w0 (lits ids ids bl++R) w) {t:aJ} {x v:V} {bl':List VB} (h:KY P bl t x v=some bl'):
 ∃w',(J2 t (den ids x) (den ids v)).run P w=.ok () w'/\St ms w0 (lits ids ids bl'++R) w'/\ids.length=bl'.length:=by
 unfold KY at h;split at h
 ·rename_i i off;split at h
  ·rename_i ty c hb;split at h
   ·rename_i n hn;cases hq:qg v&&(mI (jW v)&&az (ck (jW v)) n)with
    |false=>rw[hq]at h;simp at h
    |true=>
     rw[hq]at h;simp only[cond_true]at h;simp only[bu]at hq;obtain⟨q1,q2,q3⟩:=hq;have q3:=cz q3;split at h
     ·rename_i c' yT;simp only[aY]at h;subst h;obtain⟨s1,s2⟩:=Zg (ids:=ids) yT;obtain⟨hi,aP⟩:=fV hl S hb;have hlen:(ai ids (jW v)).length=n:=by rw[kY,q3]
      have bQ:=Kj (P:=P) (off:=off) (v:=den ids v) (vs:=ai ids (jW v)) aP (Qj q1) (by
       unfold eS at hn;split at hn
       ·rename_i d hd;rw[hd];simp[hlen]at hn⊢;exact hn
       ·cases hn) (by simpa[hlen]using s2) (by rw[gm];exact Bc q2)
      have fw:=S.step hi rfl (Ch.setRow w (ids.getD i 0) _) (setRow_heap w (ids.getD i 0) _ (splice (ai ids c).toArray off (ai ids (jW v))) ty (0,0) aP);have rD:splice (ai ids c).toArray off (ai ids (jW v))=(ai ids c').toArray:=by
       apply fM;simp[splice,s1,hlen]
      have je:i<(lits ids ids bl).length:=by rw[yR ids bl hl];rcases cZ i bl.length with h'|h';exact h';simp[h']at hb
      refine⟨w.setRow (ids.getD i 0) (splice (ai ids c).toArray off (ai ids (jW v))),?_,?_,?_⟩
      ·simp only[J2,den,ju,bE,du,cK];exact bQ
      ·have yU:=yS (ids:=ids) ids bl i ⟨true,ty,c'⟩ hl;rw[<-yU,<-List.set_append_left _ _ je];rw[rD]at fw⊢;exact fw
      ·simpa using hl
     ·cases h
   ·cases h
  ·cases h
 ·cases h
theorem Zt (z:List V) (n:Nat):ai ids (lD z n)=(nh n (ai ids z)).flatten:=by
 induction n with
 |zero=>simp[lD,ai]
 |succ n ih=>simp[lD,iV,ih,List.replicate_succ]
theorem QE (z:Array ae) (m:Nat) (hm:z.size=m+1):∀n,((Array.range (n*(m+1))).map (λi=>z[i%z.size]!)).toList=(nh n z.toList).flatten:=by
 intro n;simp only[Array.toList_map,Array.toList_range];induction n with
 |zero=>simp
 |succ n ih=>
  rw[List.replicate_succ',List.flatten_append,<-ih,Nat.succ_mul,List.range_add,rk,lQ];congr 1;simp only[List.flatten_cons,List.flatten_nil,cH];apply vR;intro i;rw[jt];by_cases hi:i<m+1
  ·rw[nV hi];simp only[mz,Function.comp];rw[hm,show(n*(m+1)+i)%(m+1)=i by rw[Nat.mul_comm,Nat.mul_add_mod,Nat.mod_eq_of_lt hi]];simp[getElem!_pos,hm,hi]
  ·rw[jc (by simpa using hi),jc (by simp[hm];omega)];rfl
end
end Vx
