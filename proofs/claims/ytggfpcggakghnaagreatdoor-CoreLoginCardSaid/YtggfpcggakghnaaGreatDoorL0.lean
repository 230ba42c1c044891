/- Part 0 of the proof. -/
import Derived.WalkKit
import Derived.Below
import Derived.BigFrame
import Derived.KernelRfl
import Derived.LoopN
import Derived.Laws.CopyRow
import Derived.Laws.StructEq
import Derived.ChangeKeysEq
import Derived.IntWalk
import Derived.Orders
import Derived.Deep.Upon
import Derived.WideMake
set_option linter.all false
set_option maxRecDepth 100000
set_option maxHeartbeats 4000000
noncomputable section
open Array renaming replicate->A5,getElem?_eq_none->DF,getD->DJ,all_eq_true_iff_forall_mem->HR,getElem?_eq_getElem->HT,toList_setIfInBounds->HU,ext'->eO,getD_eq_getD_getElem?->iY,getElem?_setIfInBounds->pD,getElem?_replicate->yD
open BitVec renaming toNat_ofInt->A7,ofInt->jq
open Bool renaming or_eq_true->A8,and_eq_true->a_,not_eq_true'->lv
open Go renaming ResultVar->HO,Program->aC,TypeId->aD,Addr->aI,Operand->aZ,Value->ab,World->ae,Oper->an,Exit->dN,run_underlying->dg,IntKind->eE,FuncId->eN,heap_alloc_new->mC,sizeOf->nY,MapEntry->uo
open Go.Addr renaming add_lit->hU,add->ug
open Go.Builtin renaming append_->mD,zeroCells->nz
open Go.Code renaming rounds->A6
open Go.Exit renaming inBlock->HN
open Go.Instr renaming slice->DH,storeAt->HM,findNow->My,fill->acw,fieldAt->acx,build->acy,sureAddr->iJ,loadAt->pC,indexAt->sG,sliceAt->sH,sliceBounds->sJ,sliceBound->yG
open Go.IntKind renaming wrap->sE
open Go.Op renaming unary->Us,equal->Ut,intArith->acv
open Go.Oper renaming wp->nv
open Go.Region renaming wanted->gf,binds->pE,ready->pG
open Go.Result renaming andThen_ok->cd,andThen->jb
open Go.Sem renaming run_bind->bj,run_pure->cW
open Go.Src renaming ofSlice->qR
open Go.Value renaming cells->Ur,int->dT
open Go.World renaming cell?->wx
open Int renaming ofNat_eq_natCast->DK,emod_eq_of_lt->HP,ofNat->cU,natCast_nonneg->yI
open List renaming getElem?_set_ne->HL,length_map->HV,length_nil->HW,getElem_append_left->HX,getElem?_set_self->Mt,pairwise_append->Mu,length_range->Mx,count_replicate_self->Uo,getElem_append_right->Up,append_assoc->bN,mem_cons->bY,range->bh,append_nil->cI,map_cons->eQ,mem_append->ez,all_eq_true->fK,cons_append->fb,nil_append->fc,length_append->fi,getElem?_append_left->gI,getElem?_map->iI,getElem?_eq_getElem->iK,getElem?_toArray->iX,take_append_drop->iZ,mem_singleton->i_,getElem?_eq_none->ig,getD->ij,replicate->kO,length_cons->ly,eq_nil_of_length_eq_zero->mE,getElem?_range->mF,map_map->mG,getD_eq_getElem?_getD->n7,sublist_append_right->n8,mem_of_getElem?->nx,mem_map->ny,nodup_cons->pF,map_congr_left->pH,map_append->qT,length_take->uk,ext_getElem?->um,range_succ_eq_map->uu,foldl_cons->uv,any_eq_true->yA,getElem?_append_right->yB,getElem?_of_mem->yC,pairwise_cons->yH
open List.Mem renaming head->A9,tail->Uq
open List.Perm renaming append_right->DG,swap->Mw,cons->ui
open List.Sublist renaming append_left->yE
open List.cons renaming inj->uq
open Nat renaming lt_of_lt_of_le->Ms,mul_le_mul_right->Mv,lt_of_not_le->Mz,and_two_pow_sub_one_eq_mod->acu,beq->ax,eq_of_beq_eq_true->b9,ble->bA,lt_or_ge->cE,blt->cj,le_refl->dE,le_of_ble_eq_true->dz,zero_add->eh,blt_eq->gV,le_trans->iH,add_mul->lU,add_zero->nZ,beq_refl->qS,eq_zero_or_pos->uh,ble_eq_true_of_le->uj,add_assoc->yF
open Option renaming getD_some->Un,map_eq_some_iff->gH,map_some->lx
open Option.some renaming injEq->aS,inj->ck
open Prod.mk renaming injEq->bd
namespace Sx
open Go Go.RowKit Go.BigFrame
structure Ch (ms:List Nat) (w w':ae):Prop where
 os:w'.os=w.os
 tape:w'.tape=w.tape
 output:w'.output=w.output
 size:w.heap.size<=w'.heap.size
 block:∀k,k<w.heap.size->k∉ms->w'.heap[k]?=w.heap[k]?
theorem Ch.refl (ms:List Nat) (w:ae):Ch ms w w:=⟨rfl,rfl,rfl,dE _,λ_ _ _=>rfl⟩
theorem Ch.trans {ms ns:List Nat} {a b c:ae} (h:Ch ms a b) (k:Ch ns b c) (hs:∀x∈ns,x∈ms\/a.heap.size<=x):Ch ms a c:=
 ⟨k.os.trans h.os,k.tape.trans h.tape,k.output.trans h.output,iH h.size k.size,λi hi hm=>
  (k.block i (Ms hi h.size) (λhn=>by rcases hs i hn with h1|h1;exact hm h1;omega)).trans (h.block i hi hm)⟩
theorem Ch.below {w w':ae} (h:Ch [] w w'):Below w.heap.size w w':=⟨h.os,h.tape,h.output,h.size,λk hk=>h.block k hk (by simp)⟩
theorem Ch.drew {ms:List Nat} {w w':ae} (h:Ch ms w w'):Ch ms w {w' with drawn:=w'.drawn+1}:=⟨h.os,h.tape,h.output,h.size,h.block⟩
theorem Ch.alloc (ms:List Nat) (w:ae) (o:Obj):Ch ms w (w.alloc o):=
 ⟨rfl,rfl,rfl,by show w.heap.size<=(w.heap.push o).size;simp,λk hk _=>Below.heap_alloc _ _ _ hk⟩
theorem Ch.setRow (w:ae) (g:Nat) (cs:Array ab):Ch [g] w (w.setRow g cs):=
 ⟨rfl,rfl,rfl,by simp[World.setRow],λk hk hm=>by
  simp only[World.setRow,Array.getElem?_modify];rw[if_neg (by intro e;exact hm (by simp[e]))]⟩
structure ai where
 id:Nat
 wr:Bool
 obj:Obj
structure St (ms:List Nat) (w0:ae) (bs:List ai) (w:ae):Prop where
 ch:Ch ms w0 w
 at_:∀(i:Nat) x,bs[i]?=some x->w.heap[x.id]?=some x.obj
 own:∀(i:Nat) x,bs[i]?=some x->x.wr=true->x.id∈ms\/w0.heap.size<=x.id
 apart:∀(i j:Nat) x y,bs[i]?=some x->bs[j]?=some y->i≠j->x.wr=true->x.id≠y.id
theorem n_ {w:ae} {k:Nat} {x:Obj} (h:w.heap[k]?=some x):k<w.heap.size:=by
 rcases cE k w.heap.size with h1|h1
 ·exact h1
 ·simp[h1]at h
theorem St.nil (ms:List Nat) (w:ae):St ms w [] w:=⟨Ch.refl _ _,by simp,by simp,by simp⟩
theorem St.quiet {ms:List Nat} {w0 w w':ae} {bs:List ai} (h:St ms w0 bs w) (hc:Ch [] w w'):St ms w0 bs w':=
 ⟨h.ch.trans hc (by simp),λi x hx=>(hc.block _ (n_ (h.at_ i x hx)) (by simp)).trans (h.at_ i x hx),h.own,h.apart⟩
theorem St.step {ms:List Nat} {w0 w w':ae} {bs:List ai} (h:St ms w0 bs w) {i:Nat} {x:ai} (hi:bs[i]?=some x) (hx:x.wr=true) (hc:Ch [x.id] w w') {o':Obj} (ho:w'.heap[x.id]?=some o'):
 St ms w0 (bs.set i ⟨x.id,true,o'⟩) w':=by
 have pM:∀(j:Nat) y,(bs.set i ⟨x.id,true,o'⟩)[j]?=some y->(j=i/\y=⟨x.id,true,o'⟩)\/(j≠i/\bs[j]?=some y):=by
  intro j y hy;by_cases hj:i=j
  ·subst hj;rw[Mt (by rcases cE i bs.length with h1|h1;exact h1;simp[h1]at hi)]at hy;exact Or.inl ⟨rfl,by simpa using hy.symm⟩
  ·rw[HL hj]at hy;exact Or.inr ⟨λe=>hj e.symm,hy⟩
 refine⟨h.ch.trans hc (by simpa using h.own i x hi hx),?_,?_,?_⟩
 ·intro j y hy;rcases pM j y hy with⟨rfl,rfl⟩|⟨bZ,hy⟩
  ·exact ho
  ·exact(hc.block _ (n_ (h.at_ j y hy)) (by simpa using(h.apart i j x y hi hy (λe=>bZ e.symm) hx).symm)).trans (h.at_ j y hy)
 ·intro j y hy hw;rcases pM j y hy with⟨rfl,rfl⟩|⟨_,hy⟩
  ·exact h.own _ x hi hx
  ·exact h.own j y hy hw
 ·intro j k y z hy hz bZ hw;rcases pM j y hy with⟨rfl,rfl⟩|⟨h1,hy⟩<;>rcases pM k z hz with⟨rfl,rfl⟩|⟨h2,hz⟩
  ·exact absurd rfl bZ
  ·exact h.apart _ k x z hi hz (λe=>h2 e.symm) hx
  ·exact λe=>h.apart _ j x y hi ‹bs[j]?=some y› (λe=>h1 e.symm) hx e.symm
  ·exact h.apart _ _ _ _ ‹bs[j]?=some y› hz bZ hw
theorem St.new {ms:List Nat} {w0 w w':ae} {bs:List ai} (h:St ms w0 bs w) (hc:Ch [] w w') {b:Nat} {o:Obj} (hb:w.heap.size<=b) (ho:w'.heap[b]?=some o):St ms w0 (⟨b,true,o⟩::bs) w':=by
 have hq:=h.quiet hc;have dh:∀(i:Nat) x,bs[i]?=some x->x.id<b:=λi x hx=>Ms (n_ (h.at_ i x hx)) hb;refine⟨hq.ch,?_,?_,?_⟩
 ·intro i x hx;cases i with
  |zero=>obtain rfl:_=x:=by simpa using hx
         exact ho
  |succ i=>exact hq.at_ i x (by simpa using hx)
 ·intro i x hx hw;cases i with
  |zero=>obtain rfl:_=x:=by simpa using hx
         exact Or.inr (iH h.ch.size hb)
  |succ i=>exact hq.own i x (by simpa using hx) hw
 ·intro i j x y hx hy bZ hw;cases i with
  |zero=>
   obtain rfl:_=x:=by simpa using hx
   cases j with
   |zero=>exact absurd rfl bZ
   |succ j=>have:=dh j y (by simpa using hy);simp;omega
  |succ i=>
   cases j with
   |zero=>obtain rfl:_=y:=by simpa using hy
          have:=dh i x (by simpa using hx);simp;omega
   |succ j=>exact hq.apart i j x y (by simpa using hx) (by simpa using hy) (by omega) hw
theorem St.lt {ms:List Nat} {w0 w:ae} {bs:List ai} (h:St ms w0 bs w) {i:Nat} {x:ai} (hi:bs[i]?=some x):x.id<w.heap.size:=n_ (h.at_ i x hi)
theorem St.pick {ms:List Nat} {w0 w:ae} {bs:List ai} (h:St ms w0 bs w) (is:List Nat) {bs':List ai} (he:is.map (bs[·]?)=bs'.map some) (hn:is.Nodup):St ms w0 bs' w:=by
 have aK:∀(i:Nat) x,bs'[i]?=some x->∃j,is[i]?=some j/\bs[j]?=some x:=by
  intro i x hx;have h1:(bs'.map some)[i]?=some (some x):=by simp[hx]
  rw[<-he]at h1;simp only[iI,gH]at h1;exact h1
 refine⟨h.ch,?_,?_,?_⟩
 ·intro i x hx;obtain⟨j,_,hj⟩:=aK i x hx;exact h.at_ j x hj
 ·intro i x hx;obtain⟨j,_,hj⟩:=aK i x hx;exact h.own j x hj
 ·intro i k x y hx hy bZ;obtain⟨j,wD,hj⟩:=aK i x hx;obtain⟨l,qX,hl⟩:=aK k y hy;refine h.apart j l x y hj hl ?_;intro e;subst e;exact bZ ((List.getElem?_inj (by rcases cE i is.length with h1|h1;exact h1;simp[h1]at wD) hn).1 (wD.trans qX.symm))
def iO (d:TypeDesc):Bool:=match d with|.struct _|.array _ _=>true|_=>false
section
variable{P:aC}
theorem yM {ty:aD} {b:Bool} (h:(P.underlying ty).map iO=some b) (w:ae):(isAgg ty).run P w=.ok b w:=by
 cases hq:P.underlying ty with
 |none=>simp[hq]at h
 |some d=>
  simp[hq]at h;unfold isAgg;rw[bj,dg hq w];cases d<;>simp_all[iO]
theorem cell_of {w:ae} {g:Nat} {cs:Array ab} {t:aD} {fr:Nat×Nat} (h:w.heap[g]?=some (.cells cs t fr)) (o:Nat):w.cell? ⟨g,o,none⟩=cs[o]?:=by
 simp[wx,h]
theorem Bh {w:ae} {g off:Nat} {cs:Array ab} {t ty:aD} {fr:Nat×Nat} {v:ab} (hg:w.heap[g]?=some (.cells cs t fr)) (ha:(P.underlying ty).map iO=some false) (hc:cs[off]?=some v):
 (loadVar ty ⟨g,off,none⟩).run P w=.ok v w:=by
 unfold loadVar;rw[bj,yM ha];simp[load,Sem.run,cell_of hg,hc]
theorem DR {w:ae} {g off n:Nat} {cs vs:Array ab} {t ty:aD} {fr:Nat×Nat} (hg:w.heap[g]?=some (.cells cs t fr)) (ha:(P.underlying ty).map iO=some true) (hn:(P.info? ty).map (·.size)=some n)
 (hc:cs.extract off (off+n)=vs) (hv:vs.size=n):(loadVar ty ⟨g,off,none⟩).run P w=.ok (.agg vs) w:=by
 have hl:(loadCells ⟨g,off,none⟩ vs.toList.length).run P w=.ok vs.toList.toArray w:=
  run_loadCells_list (P:=P) w ⟨g,off,none⟩ vs.toList (λj v hj=>by
   have DS:(⟨g,off,none⟩:aI).add j=⟨g,off+j,none⟩:=by unfold ug;split<;>simp_all
   rw[DS,cell_of hg];have h1:vs[j]?=some v:=by simpa using hj
   rw[<-hc,Array.getElem?_extract]at h1;split at h1
   ·exact h1
   ·exact absurd h1 (by simp))
 cases hq:P.info? ty with
 |none=>simp[hq]at hn
 |some i=>
  have hs:i.size=vs.size:=by simpa[hq,hv]using hn
  simp only[Array.length_toList,Array.toArray_toList]at hl;simp[loadVar,bj,yM ha,nY,typeInfo,hq,hs,hl]
def splice (cs:Array ab) (off:Nat) (vs:List ab):Array ab:=(cs.toList.take off++vs++cs.toList.drop (off+vs.length)).toArray
theorem H4 {w:ae} {g off:Nat} {cs:Array ab} {t ty:aD} {v:ab} {vs:List ab} (hg:w.heap[g]?=some (.cells cs t (0,0))) (hv:v.cells.toList=vs) (hn:(P.info? ty).map (·.size)=some vs.length)
 (hl:off+vs.length<=cs.size) (h1:vs.all (·.oneCell')=true):(storeVar ty ⟨g,off,none⟩ v).run P w=.ok () (w.setRow g (splice cs off vs)):=by
 cases hq:P.info? ty with
 |none=>simp[hq]at hn
 |some i=>
  have hs:i.size=vs.length:=by simpa[hq]using hn
  have hz:v.cells.size=vs.length:=by rw[<-hv];simp
  have:=run_storeCells_at (P:=P) g off t vs 0 cs w hg (by simpa using hl) (by simpa using h1);unfold storeVar;simp[bj,nY,typeInfo,hq,hs,hz,hv,splice]at this⊢;exact this
end
def aQ (P:aC) (f:eN) (args:Array ab) (w:ae) (R:ab->ae->Prop):Prop:=Calls P f args w λe w'=>∃v,e=.returned v/\R v w'
theorem aQ.mono {P:aC} {f:eN} {args:Array ab} {w:ae} {R R':ab->ae->Prop} (h:aQ P f args w R) (hr:∀v w',R v w'->R' v w'):aQ P f args w R':=
 Calls.mono h λe w' ⟨v,he,hv⟩=>⟨v,he,hr _ _ hv⟩
def lk (bs:List ai) (i off:Nat):Option (Nat×ab):=
 match bs[i]?with
 |some ⟨b,_,.cells cs _ _⟩=>match cs[off]?with|some v=>some (b,v)|none=>none
 |_=>none
def wF (bs:List ai) (i off n:Nat):Option (Nat×Array ab):=
 match bs[i]?with
 |some ⟨b,_,.cells cs _ _⟩=>match bA (off+n) cs.size with|true=>some (b,((cs.toList.drop off).take n).toArray)|false=>none
 |_=>none
def wG (bs:List ai) (i off n:Nat):Option Nat:=
 match bs[i]?with
 |some ⟨b,true,.cells cs _ (0,0)⟩=>match bA (off+n) cs.size with|true=>some b|false=>none
 |_=>none
def uz (bs:List ai) (i off:Nat) (vs:List ab):List ai:=
 match bs[i]?with
 |some ⟨b,wr,.cells cs t fr⟩=>bs.set i ⟨b,wr,.cells (splice cs off vs) t fr⟩
 |_=>bs
theorem UD {bs:List ai} {i off b:Nat} {v:ab} (h:lk bs i off=some (b,v)):∃wr cs t fr,bs[i]?=some ⟨b,wr,.cells cs t fr⟩/\cs[off]?=some v:=by
 unfold lk at h;split at h
 ·rename_i b' wr cs t fr hb;split at h
  ·rename_i v' hv;simp only[aS,bd]at h;obtain⟨rfl,rfl⟩:=h;exact⟨wr,cs,t,fr,hb,hv⟩
  ·simp at h
 ·simp at h
theorem H5 {bs:List ai} {i off n b:Nat} {vs:Array ab} (h:wF bs i off n=some (b,vs)):∃wr cs t fr,bs[i]?=some ⟨b,wr,.cells cs t fr⟩/\cs.extract off (off+n)=vs/\vs.size=n:=by
 unfold wF at h;split at h
 ·rename_i b' wr cs t fr hb;split at h
  ·rename_i hle;simp only[aS,bd]at h;obtain⟨rfl,rfl⟩:=h;have:=dz hle;have e:cs.extract off (off+n)=((cs.toList.drop off).take n).toArray:=by
    apply eO;simp[List.extract]
   exact⟨wr,cs,t,fr,hb,e,by simp;omega⟩
  ·simp at h
 ·simp at h
theorem H6 {bs:List ai} {i off n b:Nat} (h:wG bs i off n=some b):∃cs t,bs[i]?=some ⟨b,true,.cells cs t (0,0)⟩/\off+n<=cs.size:=by
 unfold wG at h;split at h
 ·rename_i b' cs t hb;split at h
  ·rename_i hle;simp only[aS]at h;obtain rfl:=h;exact⟨cs,t,hb,dz hle⟩
  ·simp at h
 ·simp at h
structure WL (P:aC) (ops:Array an) (Q:dN->Act->ae->Prop) (l:List an) (a:Act) (w:ae):Prop where
 out:wpList P ops Q l a w
theorem WL.want {P:aC} {ops:Array an} {Q:dN->Act->ae->Prop} {a:Act} {w:ae} {rest:List an} {o:an} (hw:gf o (yielded ops a.tmps)=true)
 (h:∀K:Act->ae->Prop,(∀a w,WL P ops Q rest a w->K a w)->o.wp P a w K Q):WL P ops Q (o::rest) a w:=⟨wpList_want hw λK hK=>h K λa w x=>hK a w x.out⟩
section
variable{P:aC} {ops:Array an} {rest:List an} {o:an} {a:Act} {w w0:ae} {ms:List Nat} {bs:List ai} {Q:dN->Act->ae->Prop}
theorem ak (v:ab) (k:WL P ops Q rest (a.put o.dst v) w) (hw:gf o (yielded ops a.tmps)=true:=by kernel_rfl) (h:(execOp a.eval o).run P w=.ok (.value v) w:=by kernel_rfl):WL P ops Q (o::rest) a w:=
 WL.want hw λK hK=>by unfold nv;rw[h];exact hK _ _ k
theorem uA (k:WL P ops Q rest (a.put o.dst undef) w) (hw:gf o (yielded ops a.tmps)=false:=by kernel_rfl):WL P ops Q (o::rest) a w:=⟨wpList_skip hw k.out⟩
theorem oe (S:St ms w0 bs w) (i:Nat) (v:ab) (b off:Nat) {x:aZ} {ty:aD} (k:WL P ops Q rest (a.put o.dst v) w) (hw:gf o (yielded ops a.tmps)=true:=by kernel_rfl) (ho:o.op=.load ty x:=by rfl) (hx:a.eval x=.pointer (some ⟨b,off,none⟩):=by kernel_rfl)
 (ha:(P.underlying ty).map iO=some false:=by kernel_rfl) (hb:lk bs i off=some (b,v):=by kernel_rfl):WL P ops Q (o::rest) a w:=
 WL.want hw λK hK=>by
  obtain⟨wr,cs,t,fr,hb,hc⟩:=UD hb;unfold nv execOp;simp only[ho,hx,pC,iJ,bj,cW,cd,Bh (S.at_ i _ hb) ha hc];exact hK _ _ k
theorem jI (S:St ms w0 bs w) (i:Nat) (n:Nat) (vs:Array ab) (b off:Nat) {x:aZ} {ty:aD} (k:WL P ops Q rest (a.put o.dst (.agg vs)) w) (hw:gf o (yielded ops a.tmps)=true:=by kernel_rfl) (ho:o.op=.load ty x:=by rfl) (hx:a.eval x=.pointer (some ⟨b,off,none⟩):=by kernel_rfl)
 (ha:(P.underlying ty).map iO=some true:=by kernel_rfl) (hn:(P.info? ty).map (·.size)=some n:=by kernel_rfl) (hb:wF bs i off n=some (b,vs):=by kernel_rfl):WL P ops Q (o::rest) a w:=
 WL.want hw λK hK=>by
  obtain⟨wr,cs,t,fr,hb,hc,hv⟩:=H5 hb;unfold nv execOp;simp only[ho,hx,pC,iJ,bj,cW,cd,DR (S.at_ i _ hb) ha hn hc hv];exact hK _ _ k
theorem store_ (S:St ms w0 bs w) (i:Nat) (v:ab) (b off:Nat) {x y:aZ} {ty:aD} (k:∀w',St ms w0 (uz bs i off v.cells.toList) w'->WL P ops Q rest (a.put o.dst undef) w') (hw:gf o (yielded ops a.tmps)=true:=by kernel_rfl) (ho:o.op=.store ty x y:=by rfl) (hx:a.eval x=.pointer (some ⟨b,off,none⟩):=by kernel_rfl) (hy:a.eval y=v:=by kernel_rfl)
 (hn:(P.info? ty).map (·.size)=some v.cells.toList.length:=by kernel_rfl) (h1:v.cells.toList.all (·.oneCell')=true:=by kernel_rfl) (hb:wG bs i off v.cells.toList.length=some b:=by kernel_rfl):WL P ops Q (o::rest) a w:=
 WL.want hw λK hK=>by
  obtain⟨cs,t,hb,hl⟩:=H6 hb;unfold nv execOp;have aK:=S.at_ i _ hb;simp only[ho,hx,hy,HM,iJ,bj,cW,cd,H4 (P:=P) aK rfl hn hl h1];refine hK _ _ (k _ ?_);have:=S.step hb rfl (Ch.setRow w b _) (setRow_heap w b cs (splice cs off v.cells.toList) t (0,0) aK);simpa[uz,hb]using this
theorem dF {x:aZ} (k:WL P ops Q rest (a.put o.dst (a.eval x)) w) (hw:gf o (yielded ops a.tmps)=true:=by kernel_rfl) (ho:o.op=.move x:=by rfl):WL P ops Q (o::rest) a w:=
 ak _ k hw (by unfold execOp;simp[ho])
theorem fL {x:aZ} (k:WL P ops Q rest (a.put o.dst (a.eval x)) w) (hw:gf o (yielded ops a.tmps)=true:=by kernel_rfl) (ho:o.op=.assign x:=by rfl):WL P ops Q (o::rest) a w:=
 ak _ k hw (by unfold execOp;simp[ho])
theorem nA (v v':ab) (he:v=v') (k:WL P ops Q rest (a.put o.dst v') w) (hw:gf o (yielded ops a.tmps)=true:=by kernel_rfl) (h:(execOp a.eval o).run P w=.ok (.value v) w:=by kernel_rfl):WL P ops Q (o::rest) a w:=by
 subst he;exact ak v k hw h
theorem kA (kd:eE) (e:Int) (he:kd.wrap e=e) (k:WL P ops Q rest (a.put o.dst (.int kd e)) w) (hw:gf o (yielded ops a.tmps)=true:=by kernel_rfl) (h:(execOp a.eval o).run P w=.ok (.value (.int kd (kd.wrap e))) w:=by kernel_rfl):WL P ops Q (o::rest) a w:=
 nA _ _ (by rw[he]) k hw h
theorem UE (t:Nat) (b:Bool) (ht:b=true->WL P ops Q rest (a.put (some t) (.bool true)) w) (hf:b=false->WL P ops Q rest (a.put (some t) (.bool false)) w) (hv:a.tmps[t]?=some (.bool b):=by kernel_rfl):WL P ops Q rest a w:=by
 have hs:a.put (some t) (.bool b)=a:=by
  obtain⟨tmps,ds⟩:=a;have e:tmps.setIfInBounds t (.bool b)=tmps:=by
   apply Array.ext_getElem?;intro i;rw[pD];have MC:tmps[t]?=some (.bool b):=hv;by_cases h:t=i
   ·subst h;rw[if_pos rfl];by_cases h2:t<tmps.size
    ·rw[if_pos h2];exact MC.symm
    ·rw[if_neg h2];rw[DF (by omega)]at MC;exact absurd MC (by simp)
   ·rw[if_neg h]
  simp only[Act.put,e]
 cases b
 ·rw[<-hs];exact hf rfl
 ·rw[<-hs];exact ht rfl
theorem ei (S:St ms w0 bs w) (f:Nat->ab) (obj:Obj) (k:∀b w',St ms w0 (⟨b,true,obj⟩::bs) w'->WL P ops Q rest (a.put o.dst (f b)) w') (hw:gf o (yielded ops a.tmps)=true:=by kernel_rfl) (h:(execOp a.eval o).run P w=.ok (.value (f w.heap.size)) (w.alloc obj):=by kernel_rfl):WL P ops Q (o::rest) a w:=
 WL.want hw λK hK=>by
  unfold nv;rw[h];exact hK _ _ (k _ _ (S.new (Ch.alloc _ _ _) (dE _) (mC w obj)))
theorem fe (f:eN) (args:Array ab) (k:aQ P f args w λv w'=>WL P ops Q rest (a.put o.dst v) w') (hw:gf o (yielded ops a.tmps)=true:=by kernel_rfl) (h:(execOp a.eval o).run P w=.ok (.enter f args) w:=by kernel_rfl):WL P ops Q (o::rest) a w:=
 WL.want hw λK hK=>by
  unfold nv;rw[h];refine Calls.mono k ?_;rintro e w' ⟨v,rfl,hk⟩;exact hK _ _ hk
end
section
variable{P:aC} {a:Act} {w:ae} {Q:dN->Act->ae->Prop}
theorem il {f:eN} {fn:Func} {c:Code} {args:Array ab} {R:ab->ae->Prop} (hf:P.funcs[f]?=some fn) (hb:fn.body=some c)
 (h:c.wp P (bodyPost P fn (λe w'=>∃v,e=.returned v/\R v w')) ⟨args++A5 (fn.ntmps-args.size) undef,[]⟩ w):aQ P f args w R:=by
 exact calls_of_wp hf hb h
theorem aM {x y:Code} (h:x.wp P (Exit.then (y.wp P Q) Q) a w):(Code.seq x y).wp P Q a w:=wp_seq h
theorem aT {id:Nat} {l:List an} (h:WL P l.toArray Q l a w):(Code.region id l.toArray false).wp P Q a w:=wp_region_lit h.out
theorem aR {ops:Array an} (h:Q .normal a w):WL P ops Q [] a w:=⟨h⟩
theorem aL {y:Code} (h:y.wp P Q a w):Exit.then (y.wp P Q) Q .normal a w:=h
theorem UF {K:Act->ae->Prop} (h:Q .ret a w):Exit.then K Q .ret a w:=h
theorem kP {K:Act->ae->Prop} {id:Nat} (h:Q (.exit id) a w):Exit.then K Q (.exit id) a w:=h
theorem kQ {id:Nat} (h:Q .normal a w):HN id Q .normal a w:=h
theorem uB {id:Nat} (h:Q .normal a w):HN id Q (.exit id) a w:=by simpa[HN]using h
theorem DU {c:Code} (n:Nat) (h:c.wp P (Exit.then (A6 P c Q n) Q) a w):(Code.loop c).wp P Q a w:=wp_loop_rounds (n+1) h
theorem uC {c:Code} {n:Nat} (h:c.wp P (Exit.then (A6 P c Q n) Q) a w):Exit.then (A6 P c Q (n+1)) Q .normal a w:=h
theorem fW {fn:Func} {R:ab->ae->Prop} {v:ab} (hd:a.defers=[]) (hr:(results fn a.tmps).run P w=.ok v w) (h:R v w):bodyPost P fn (λe w'=>∃v,e=.returned v/\R v w') .ret a w:=
 ⟨hd,v,hr,v,rfl,h⟩
theorem end_ {fn:Func} {R:ab->ae->Prop} {v:ab} (hd:a.defers=[]) (hr:(results fn a.tmps).run P w=.ok v w) (h:R v w):bodyPost P fn (λe w'=>∃v,e=.returned v/\R v w') .normal a w:=
 ⟨hd,v,hr,v,rfl,h⟩
def wH (tmps:Array ab):HO->Sem ab
 |.tmp t=>pure (tmps.getD t undef)
 |.cell a t=>do loadVar t (<-asAddr (tmps.getD a undef))
def H7 (P:aC) (w:ae) (tmps:Array ab):List HO->List ab->Prop
 |[],[]=>True
 |r::rs,v::vs=>(wH tmps r).run P w=.ok v w/\H7 P w tmps rs vs
 |_,_=>False
theorem UG {tmps:Array ab}:∀{rs:List HO} {vs:List ab},H7 P w tmps rs vs->(rs.mapM (wH tmps)).run P w=.ok vs w
 |[],[],_=>rfl
 |r::rs,v::vs,⟨h,hs⟩=>by
  simp only[List.mapM_cons,bj,h,cd,UG hs];rfl
 |[],_::_,h=>h.elim
 |_::_,[],h=>h.elim
def H8:List ab->ab
 |[v]=>v
 |vs=>.tuple vs.toArray
theorem fu {fn:Func} {tmps:Array ab} (rs:List HO) (vs:List ab) (v:ab) (h:H7 P w tmps rs vs) (hf:fn.results=rs.toArray:=by kernel_rfl) (hv:H8 vs=v:=by kernel_rfl):(results fn tmps).run P w=.ok v w:=by
 subst hv;have h1:results fn tmps=(do let vs <-fn.results.mapM (wH tmps);pure (if h:vs.size=1 then vs[0]else .tuple vs)):=by
  unfold results;congr 2
 rw[h1,hf,List.mapM_toArray];simp only[Sem.run_map,UG h,cd,bind_pure_comp,Functor.map_map];rcases vs with _|⟨v,_|⟨u,vs⟩⟩<;>simp[H8]
theorem iP {tmps:Array ab} {t:Nat} {v:ab} (h:tmps.getD t undef=v:=by kernel_rfl):(wH tmps (.tmp t)).run P w=.ok v w:=by subst h;rfl
theorem lV {ms:List Nat} {w0:ae} {bs:List ai} (S:St ms w0 bs w) (i n b off:Nat) {tmps vs:Array ab} {t ty:Nat} (h:tmps.getD t undef=.pointer (some ⟨b,off,none⟩):=by kernel_rfl)
 (ha:(P.underlying ty).map iO=some true:=by kernel_rfl) (hn:(P.info? ty).map (·.size)=some n:=by kernel_rfl) (hb:wF bs i off n=some (b,vs):=by kernel_rfl):(wH tmps (.cell t ty)).run P w=.ok (.agg vs) w:=by
 obtain⟨wr,cs,t,fr,hb,hc,hv⟩:=H5 hb;simp only[wH,h,bj,asAddr,cW,cd,DR (S.at_ i _ hb) ha hn hc hv]
end
section
variable{P:aC} {a:Act} {w:ae} {Q:dN->Act->ae->Prop}
theorem uD {c:aZ} {x y:Code} (h:x.wp P Q a w) (hc:a.eval c=.bool true:=by kernel_rfl):(Code.cond c x y).wp P Q a w:=wp_cond_true hc h
theorem og {c:aZ} {x y:Code} (h:y.wp P Q a w) (hc:a.eval c=.bool false:=by kernel_rfl):(Code.cond c x y).wp P Q a w:=wp_cond_false hc h
theorem qY {c:aZ} {x y:Code} (b:Bool) (ht:b=true->x.wp P Q a w) (hf:b=false->y.wp P Q a w) (hc:a.eval c=.bool b:=by kernel_rfl):(Code.cond c x y).wp P Q a w:=wp_cond_split hc ht hf
theorem MD {x y:Int} (h:y<=x):decide (x<y)=false:=decide_eq_false (by omega)
theorem neF {x y:Int} (h:x=y):(x !=y)=false:=by simpa using h
theorem yN {x y:Int} (h:decide (x<y)=true):x<y:=of_decide_eq_true h
theorem yO {x y:Int} (h:decide (x<y)=false):y<=x:=by have:=of_decide_eq_false h;omega
theorem UH {x y:Int} (h:decide (x<=y)=true):x<=y:=of_decide_eq_true h
theorem UI {x y:Int} (h:decide (x<=y)=false):y<x:=by have:=of_decide_eq_false h;omega
theorem ME {x y:Int} (h:(x !=y)=true):¬x=y:=by simpa using h
theorem MF {x y:Int} (h:(x !=y)=false):x=y:=by simpa using h
theorem MG {b:Bool} (h:(!b)=true):b=false:=by simpa using h
theorem MH {b:Bool} (h:(!b)=false):b=true:=by simpa using h
end
def Bi (P:aC) (t:aD) (cs:Array ab) (off:Nat):Option ab:=
 match(P.underlying t).map iO,(P.info? t).map (·.size)with
 |some true,some n=>some (.agg (cs.extract off (off+n)))
 |some false,some _=>cs[off]?
 |_,_=>none
theorem H9 {P:aC} {t:aD} {cs:Array ab} {off:Nat} {v:ab} (h:Bi P t cs off=some v) (w:ae):(part t cs off).run P w=.ok v w:=by
 unfold Bi at h;split at h
 ·rename_i n h1 h2;obtain rfl:_=v:=by simpa using h
  cases hq:P.info? t with
  |none=>simp[hq]at h2
  |some i=>
   have hs:i.size=n:=by simpa[hq]using h2
   unfold part;simp[bj,yM h1,nY,typeInfo,hq,hs]
 ·rename_i n h1 h2;unfold part;simp[bj,yM h1,h]
 ·simp at h
def Bj (P:aC) (g:aD->ab->ab->Option Bool) (xs ys:Array ab):List Field->Option Bool
 |[]=>some true
 |f::fs=>
  match decide (f.name≠ "_")with
  |false=>Bj P g xs ys fs
  |true=>match Bi P f.type xs f.offset,Bi P f.type ys f.offset with
   |some a,some b=>match g f.type a b,Bj P g xs ys fs with
    |some r,some q=>some (r&&q)
    |_,_=>none
   |_,_=>none
def DV (P:aC) (g:aD->ab->ab->Option Bool) (e:aD) (c:Nat) (xs ys:Array ab):List Nat->Option Bool
 |[]=>some true
 |i::is=>
  match Bi P e xs (i*c),Bi P e ys (i*c)with
  |some a,some b=>match g e a b,DV P g e c xs ys is with
   |some r,some q=>some (r&&q)
   |_,_=>none
  |_,_=>none
def wI (P:aC):Nat->aD->ab->ab->Option Bool
 |0,_,_,_=>none
 |d+1,t,x,y=>
  match P.underlying t,x,y with
  |some .bool,.bool a,.bool b=>some (a==b)
  |some (.int _),.int k a,.int k' b=>match decide (k=k')with|true=>some (a==b)|false=>none
  |some (.struct _),.agg xs,.agg ys=>match P.stoodInHeld t with|true=>none|false=>Bj P (wI P d) xs ys (P.fieldsOf t).toList
  |some (.array n e),.agg xs,.agg ys=>match P.info? e with|some _=>DV P (wI P d) e (P.cellsOf e) xs ys (bh n)|none=>none
  |_,_,_=>none
section
variable{P:aC}
theorem MI {d:Nat} {g:aD->ab->ab->Option Bool} (hg:∀t x y r,g t x y=some r->∀w,(Op.equalIn d t x y).run P w=.ok r w) (xs ys:Array ab):
 ∀(fs:List Field) (r:Bool),Bj P g xs ys fs=some r->∀w,(Op.eqFields d xs ys fs).run P w=.ok r w
 |[],r,h,w=>by obtain rfl:true=r:=by simpa[Bj]using h
               rfl
 |f::fs,r,h,w=>by
  unfold Bj at h;unfold Op.eqFields;split at h
  ·rename_i hn;have qZ:¬f.name≠ "_" :=of_decide_eq_false hn;rw[if_neg qZ];exact MI hg xs ys fs r h w
  ·rename_i hn;have qZ:f.name≠ "_" :=of_decide_eq_true hn;rw[if_pos qZ];split at h
   ·rename_i a b ha hb;split at h
    ·rename_i r1 q h1 h2;obtain rfl:(r1&&q)=r:=by simpa using h
     simp only[bj,H9 ha,H9 hb,cd,hg _ _ _ _ h1];cases r1
     ·simp
     ·simp[MI hg xs ys fs q h2]
    ·simp at h
   ·simp at h
theorem UJ {d:Nat} {g:aD->ab->ab->Option Bool} (hg:∀t x y r,g t x y=some r->∀w,(Op.equalIn d t x y).run P w=.ok r w) (e c:Nat) (xs ys:Array ab):
 ∀(is:List Nat) (r:Bool),DV P g e c xs ys is=some r->∀w,(Op.eqItems d e c xs ys is).run P w=.ok r w
 |[],r,h,w=>by obtain rfl:true=r:=by simpa[DV]using h
               rfl
 |i::is,r,h,w=>by
  unfold DV at h;unfold Op.eqItems;split at h
  ·rename_i a b ha hb;split at h
   ·rename_i r1 q h1 h2;obtain rfl:(r1&&q)=r:=by simpa using h
    simp only[bj,H9 ha,H9 hb,cd,hg _ _ _ _ h1];cases r1
    ·simp
    ·simp[UJ hg e c xs ys is q h2]
   ·simp at h
  ·simp at h
theorem H_:∀(d:Nat) (t:aD) (x y:ab) (r:Bool),wI P d t x y=some r->∀w,(Op.equalIn d t x y).run P w=.ok r w
 |0,_,_,_,_,h,_=>by simp[wI]at h
 |d+1,t,x,y,r,h,w=>by
  unfold wI at h;split at h
  ·rename_i a b hu;obtain rfl:(a==b)=r:=by simpa using h
   exact run_equalIn_bool' w d t a b hu
  ·rename_i k0 k a k' b hu;split at h
   ·rename_i hk;obtain rfl:k=k':=of_decide_eq_true hk;obtain rfl:(a==b)=r:=by simpa using h
    exact run_equalIn_int w d t k k0 a b hu
   ·simp at h
  ·rename_i fs xs ys hu;split at h
   ·simp at h
   ·rename_i hp;have hf:P.underlying t=some (.struct (P.fieldsOf t)):=by simp[Program.fieldsOf,hu]
    rw[run_equalIn_struct w d t xs ys hf hp];exact MI (H_ d) xs ys _ r h w
  ·rename_i n e xs ys hu;split at h
   ·rename_i i hi;rw[run_equalIn_array w d xs ys hu hi];exact UJ (H_ d) e _ xs ys _ r h w
   ·simp at h
  ·simp at h
variable{ops:Array an} {rest:List an} {o:an} {a:Act} {w:ae} {Q:dN->Act->ae->Prop}
theorem acH {ρ:aZ->ab} {t yt:aD} {x y:aZ} {xs ys:Array ab} {r:Bool} (neg:Bool) (ho:o.op=.binOp (bif neg then .neq else .eql) t x y yt) (hx:ρ x=.agg xs) (hy:ρ y=.agg ys) (hg:P.eqGuardType P.depth t=false) (he:wI P 10000 t (.agg xs) (.agg ys)=some r):
 (execOp ρ o).run P w=.ok (.value (.bool (bif neg then !r else r))) w:=by
 have h:=H_ 10000 t (.agg xs) (.agg ys) r he w;unfold execOp;cases neg<;>simp only[ho,hx,hy,cond_true,cond_false,bj,run_eqGuard_agg _ _ t x y xs ys hg,cd,run_eql_struct,run_neq_struct,h,cW]
end
theorem MJ {a b:Nat} (h:a<=b):(2:Int)^a<=2^b:=by
 have:=Nat.pow_le_pow_right (n:=2) (by omega) h;have h1:((2^a:Nat):Int)=(2:Int)^a:=by simp
 have h2:((2^b:Nat):Int)=(2:Int)^b:=by simp
 omega
theorem acI {a b:Nat} (h:a<=b):(2:Int)^a∣2^b:=by
 obtain⟨c,rfl⟩:=Nat.exists_eq_add_of_le h;exact⟨2^c,Int.pow_add 2 a c⟩
theorem wrap_small (kd:eE) (x:Int) (j:Nat) (h0:0<=x) (h1:x<2^j) (hj:j<kd.bits):kd.wrap x=x:=by
 have h2:((2:Int)^j)<=2^(kd.bits-1):=MJ (by omega);have h3:((2:Int)^(kd.bits-1))<=2^kd.bits:=MJ (by omega);unfold sE;have h4:x%(2^kd.bits:Int)=x:=HP h0 (by omega);simp only[h4];rw[if_neg];simp only[a_,decide_eq_true_eq,not_and];intro _;omega
theorem pN (kd:eE) (n m q:Int) (j:Nat) (hm:m=2^j-1) (hq:q=2^j) (hj:j<kd.bits):bits .and kd n m=n%q:=by
 subst hm hq;have hp:(0:Int)<2^j:=Int.pow_pos (by omega);have hle:(2:Int)^j<=2^kd.bits:=MJ (by omega);unfold bits;simp only[BitVec.toNat_and];have h1:(jq kd.bits ((2:Int)^j-1)).toNat=2^j-1:=by
  simp only[A7];have h2:((2:Int)^kd.bits)=((2^kd.bits:Nat):Int):=by simp
  rw[<-h2,HP (by omega) (by omega)];have:((2:Int)^j)=((2^j:Nat):Int):=by simp
  omega
 have h5:(jq kd.bits n).toNat%2^j=(n%2^j).toNat:=by
  simp only[A7];have h2:((2^kd.bits:Nat):Int)=(2:Int)^kd.bits:=by simp
  rw[h2];have h6:(0:Int)<=n%2^kd.bits:=Int.emod_nonneg _ (by have:(0:Int)<2^kd.bits:=Int.pow_pos (by omega)
                                                             omega)
  have h7:(n%2^kd.bits)%2^j=n%2^j:=Int.emod_emod_of_dvd n (acI (by omega));rw[<-h7];have:((2^j:Nat):Int)=(2:Int)^j:=by simp
  rw[<-this];have:=Int.natCast_emod (n%2^kd.bits).toNat (2^j);rw[Int.toNat_of_nonneg h6]at this;omega
 rw[h1,acu,h5];have h0:=Int.emod_nonneg n (by omega:(2:Int)^j≠0);rw[Int.toNat_of_nonneg h0];exact wrap_small kd _ j h0 (Int.emod_lt_of_pos _ hp) hj
theorem mI {a b:Bool} (h:a=false) (k:b=false):(a||b)=false:=by simp[h,k]
theorem acJ {P:aC} {f:eN} {args:Array ab} {w:ae} {x:ab} (h:aQ P f args w λv w'=>v=x/\Ch [] w w'):Calls P f args w λe w'=>e=.returned x/\Below w.heap.size w w':=by
 refine Calls.mono h ?_;rintro e w' ⟨v,rfl,rfl,hc⟩;exact⟨rfl,hc.below⟩
theorem St.ob {ms:List Nat} {w0 w:ae} {bs:List ai} (S:St ms w0 bs w) (i:Nat) (wr:Bool) (t:aD) {b:Nat} {cs:Array ab} {fr:Nat×Nat} (h:bs[i]?=some ⟨b,wr,.cells cs t fr⟩:=by kernel_rfl):w.heap[b]?=some (.cells cs t fr):=S.at_ i _ h
theorem St.conv {ms:List Nat} {w0 w:ae} {bs bs':List ai} (S:St ms w0 bs w) (h:bs=bs'):St ms w0 bs' w:=h▸S
def Yields (P:aC) (o:an) (ρ:aZ->ab) (w:ae) (R:ab->ae->Prop):Prop:=
 match(execOp ρ o).run P w with
 |.ok (.value v) w'=>R v w'
 |.ok .skip w'=>R undef w'
 |.ok (.enter f args) w'=>aQ P f args w' R
 |_=>False
def uE (y:Nat->ab):aZ->ab
 |.tmp t=>y t
 |.const v=>v
 |.global g=>.pointer (some ⟨g,0,none⟩)
 |.func f=>.func (.func f) #[] #[]
def cw (a:Act):Nat->ab:=λt=>a.tmps.getD t undef
theorem UK (a:Act):uE (cw a)=a.eval:=by funext x;cases x<;>rfl
theorem Yields.wp {P:aC} {o:an} {a:Act} {w:ae} {R:ab->ae->Prop} {K:Act->ae->Prop} {Q:dN->Act->ae->Prop} (h:Yields P o a.eval w R) (hk:∀v w',R v w'->K (a.put o.dst v) w'):o.wp P a w K Q:=by
 unfold Yields at h;unfold nv;generalize (execOp a.eval o).run P w=r at*;cases r with
 |halt x w'=>simp at h
 |ok n w'=>
  cases n<;>simp at h<;>simp only[Oper.upon]
  ·exact hk _ _ h
  ·exact hk _ _ h
  ·refine Calls.mono h ?_;rintro e fj ⟨v,rfl,hv⟩;exact hk _ _ hv
structure Sp where
 k:Nat
 f:List Nat->ab
 bl:List Nat->List (Nat×Obj)
def Sp.holds (s:Sp) (B:Nat) (v:ab) (w:ae):Prop:=∃ids:List Nat,ids.length=s.k/\v=s.f ids/\∀p∈s.bl ids,B<=p.1/\w.heap[p.1]?=some p.2
theorem Sp.holds.DW {s:Sp} {B:Nat} {v:ab} {w w':ae} (h:s.holds B v w) (hc:Ch [] w w'):s.holds B v w':=by
 obtain⟨ids,h1,h2,h3⟩:=h;exact⟨ids,h1,h2,λp hp=>⟨(h3 p hp).1,(hc.block _ (n_ (h3 p hp).2) (by simp)).trans (h3 p hp).2⟩⟩
def j5 (o:an) (j:Nat):Bool:=o.after.any λe=>e.on==j&&pE .any e
def mJ (l:List an) (o:an) (y:Nat->ab):Bool:=
 match o.guard with
 |none=>true
 |some (j,want)=>match(l[j]?).bind (·.dst)with
  |some d=>match y d with
   |.bool b=>b==want
   |_=>false
  |none=>false
theorem UL (l:List an) (o:an) (a:Act):gf o (yielded l.toArray a.tmps)=mJ l o (cw a):=by
 unfold gf mJ;cases hg:o.guard with
 |none=>rfl
 |some p=>
  obtain⟨j,want⟩:=p;simp only[yielded,iX];cases hd:(l[j]?).bind (·.dst)with
  |none=>simp
  |some d=>
   simp only[Option.bind_some,cw,iY];cases ht:a.tmps[d]?with
   |none=>simp[undef]
   |some v=>cases v<;>simp
def uF (l:List an) (i t:Nat):Bool:=l.all λok=>ok.dst !=some t||j5 ok i
def uG (P:aC) (lf l:List an) (sp:Nat->Sp) (y0:Nat->ab) (w:ae) (i:Nat) (o:an):Prop:=
 ∀(y:Nat->ab) (w':ae),Ch [] w w'->(∀t,uF l i t=true->y t=y0 t)->
  (∀j d,j5 o j=true->(l[j]?).bind (·.dst)=some d->(sp j).holds w.heap.size (y d) w')->
  (mJ lf o y=true->Yields P o (uE y) w' λv fj=>Ch [] w' fj/\(sp i).holds w.heap.size v fj)/\(mJ lf o y=false->(sp i).holds w.heap.size undef w')
def pO (P:aC) (lf l:List an) (sp:Nat->Sp) (y0:Nat->ab) (w:ae):Nat->List an->Prop
 |_,[]=>True
 |i,o::rest=>uG P lf l sp y0 w i o/\pO P lf l sp y0 w (i+1) rest
theorem pO.get {P:aC} {lf l:List an} {sp:Nat->Sp} {y0:Nat->ab} {w:ae}:∀{k:Nat} {m:List an},pO P lf l sp y0 w k m->∀(i:Nat) o,m[i]?=some o->uG P lf l sp y0 w (k+i) o
 |_,[],_,i,o,h=>by simp at h
 |k,x::rest,⟨h1,h2⟩,0,o,h=>by obtain rfl:x=o:=by simpa using h
                              exact h1
 |k,x::rest,⟨h1,h2⟩,i+1,o,h=>by
  have:=pO.get h2 i o (by simpa using h)
  rwa [show k+1+i=k+(i+1) by omega]at this
def fM (vs:Nat->ab):Nat->List an->Act->Act
 |_,[],a=>a
 |i,o::rest,a=>fM vs (i+1) rest (a.put o.dst (vs i))
theorem size_put (a:Act) (d:Option Tmp) (v:ab):(a.put d v).tmps.size=a.tmps.size:=by cases d<;>simp[Act.put]
theorem yP (a:Act) (d:Option Tmp) (v:ab):(a.put d v).defers=a.defers:=by cases d<;>rfl
theorem wJ (a:Act) (d:Nat) (v:ab) (t:Nat) (hd:d<a.tmps.size):cw (a.put (some d) v) t=if t=d then v else cw a t:=by
 simp only[cw,Act.put,iY,pD];by_cases h:d=t
 ·subst h;simp[hd]
 ·rw[if_neg h,if_neg (λe=>h e.symm)]
theorem MK {a b:Act} (hs:a.tmps.size=b.tmps.size) (hd:a.defers=b.defers) (h:∀t,cw a t=cw b t):a=b:=by
 obtain⟨x,ds⟩:=a;obtain⟨y,es⟩:=b;simp only at hd hs;subst hd;congr 1;apply Array.ext hs;intro i h1 h2;have:=h i;simpa[cw,h1,h2]using this
def DX:List (Option Nat)->Bool
 |[]=>true
 |x::xs=>!(xs.any (·==x))&&DX xs
def DY (n:Nat) (l:List an):Bool:=l.all (λo=>match o.dst with|some d=>cj d n|none=>false)&&DX (l.map (·.dst))
theorem ML:∀{l:List (Option Nat)},DX l=true->l.Nodup
 |[],_=>List.nodup_nil
 |x::xs,h=>by
  simp only[DX,a_,lv]at h;refine pF.2 ⟨?_,ML h.2⟩;intro hm;have:=h.1;simp only[List.any_eq_false]at this;exact this x hm (by simp)
def nB:Nat->List an->Bool
 |_,[]=>true
 |i,o::rest=>(o.after.all λe=>!pE .any e||cj e.on i)&&nB (i+1) rest
theorem sO:∀{k:Nat} {l:List an},nB k l=true->∀(i:Nat) o,l[i]?=some o->∀e∈o.after,pE .any e=true->e.on<k+i
 |_,[],_,i,o,h,_,_,_=>by simp at h
 |k,x::rest,hh,0,o,h,e,he,hb=>by
  obtain rfl:x=o:=by simpa using h
  simp only[nB,a_,HR]at hh;have:=hh.1 e he;simp only[hb,Bool.not_true,Bool.false_or]at this;simpa[gV]using this
 |k,x::rest,hh,i+1,o,h,e,he,hb=>by
  simp only[nB,a_]at hh;have:=sO hh.2 i o (by simpa using h) e he hb;omega
theorem kR {L:Array Bool} {n i:Nat} (h:L.size=n) (hi:i<n):L[i]?=some true\/L[i]?=some false:=by
 have h1:i<L.size:=by omega
 rw[HT h1];cases L[i]<;>simp
theorem count_set:∀(L:List Bool) (i:Nat),L[i]?=some false->(L.set i true).count false+1=L.count false
 |[],i,h=>by simp at h
 |x::xs,0,h=>by obtain rfl:x=false:=by simpa using h
                simp
 |x::xs,i+1,h=>by
  have:=count_set xs i (by simpa using h);cases x<;>simp[List.set_cons_succ]<;>omega
theorem Ia:∀(L:List Bool) (n m:Nat),L.length=n+m->(∀j,j<n->L[j]?=some true)->L.count false<=m
 |L,0,m,h,_=>by have:=List.count_le_length (a:=false) (l:=L);omega
 |[],n+1,m,h,_=>by simp at h;omega
 |x::xs,n+1,m,h,ht=>by
  obtain rfl:x=true:=by simpa using ht 0 (by omega)
  have:=Ia xs n m (by simp at h;omega) (λj hj=>by simpa using ht (j+1) (by omega));simpa using this
theorem count_tail:∀(L:List Bool) (n m:Nat),L.length=n+m->(∀j,n<=j->j<n+m->L[j]?=some false)->m<=L.count false
 |[],n,m,h,_=>by simp at h;omega
 |x::xs,0,m,h,ht=>by
  obtain rfl:x=false:=by simpa using ht 0 (by omega) (by simp at h;omega)
  have:=count_tail xs 0 (m-1) (by simp at h;omega) (λj h1 h2=>by simpa using ht (j+1) (by omega) (by omega));simp at h⊢;omega
 |x::xs,n+1,m,h,ht=>by
  have:=count_tail xs n m (by simp at h;omega) (λj h1 h2=>by simpa using ht (j+1) (by omega) (by omega));cases x<;>simp<;>omega
theorem MM:∀(L:List Bool) (n m:Nat),L.length=n+m->(∀j,n<=j->j<n+m->L[j]?=some false)->∀i,i<n->L[i]?=some false->m+1<=L.count false
 |[],n,m,h,_,i,hi,_=>by simp at h;omega
 |x::xs,n+1,m,h,ht,i,hi,hx=>by
  have fk:m<=xs.count false:=by
   have:=count_tail xs n m (by simp at h;omega) (λj h1 h2=>by simpa using ht (j+1) (by omega) (by omega));exact this
  cases i with
  |zero=>obtain rfl:x=false:=by simpa using hx
         simp;omega
  |succ i=>
   have:=MM xs n m (by simp at h;omega) (λj h1 h2=>by simpa using ht (j+1) (by omega) (by omega)) i (by omega) (by simpa using hx);cases x<;>simp<;>omega
 |x::xs,0,m,h,ht,i,hi,hx=>by omega
section
variable{P:aC} {l:List an} {sp:Nat->Sp} {a0:Act} {w0:ae} {Q:dN->Act->ae->Prop}
structure MN (l:List an) (n2:Nat) (sp:Nat->Sp) (a0:Act) (w0:ae) (vs:Nat->ab) (listed:Array Bool) (a:Act) (w:ae):Prop where
 ls:listed.size=l.length+n2
 off:∀i,l.length<=i->i<l.length+n2->listed[i]?=some false
 size:a.tmps.size=a0.tmps.size
 defers:a.defers=a0.defers
 ch:Ch [] w0 w
 done:∀(i:Nat) (o:an) (d:Nat),l[i]?=some o->o.dst=some d->listed[i]?=some true->cw a d=vs i/\(sp i).holds w0.heap.size (vs i) w
 rest:∀(t:Nat),(∀(i:Nat) (o:an),l[i]?=some o->o.dst=some t->listed[i]?=some false)->cw a t=cw a0 t
 back:∀(i:Nat) (o:an),l[i]?=some o->listed[i]?=some true->∀j,j5 o j=true->listed[j]?=some true
def Bm (l:List an):List Nat->Bool
 |k::j::rest=>(match l[k]?with|some o=>j5 o j|none=>false)&&Bm l (j::rest)
 |_=>true
def pP (l:List an) (m:Nat) (paths:List (List Nat)):Bool:=
 (paths.all λp=>Bm l p)&&(bh l.length).all λk=>cj k m||(bh k).all λi=>paths.any λp=>p.head?==some k&&p.getLast?==some i&&cj 1 p.length
theorem DZ {l:List an} {listed:Array Bool} (back:∀(i:Nat) (o:an),l[i]?=some o->listed[i]?=some true->∀j,j5 o j=true->listed[j]?=some true):
 ∀(p:List Nat) (k i:Nat),Bm l p=true->p.head?=some k->p.getLast?=some i->1<p.length->(∀o,l[k]?=some o->∀j,j5 o j=true->listed[j]?=some true)->listed[i]?=some true
 |[],_,_,_,h,_,_,_=>by simp at h
 |[x],_,_,_,_,_,h,_=>by simp at h
 |x::y::rest,k,i,hp,hh,hl,_,hk=>by
  obtain rfl:x=k:=by simpa using hh
  simp only[Bm,a_]at hp;cases ho:l[x]?with
  |none=>simp[ho]at hp
  |some o=>
   have hy:=hk o ho y (by simpa[ho]using hp.1);cases rest with
   |nil=>obtain rfl:y=i:=by simpa using hl
         exact hy
   |cons z rest=>exact DZ back (y::z::rest) y i hp.2 rfl (by simpa using hl) (by simp) (λoy hoy j hj=>back y oy hoy hy j hj)
theorem UM (vs:Nat->ab):∀(m:List an) (k:Nat) (a:Act),(∀o∈m,∃d,o.dst=some d/\d<a.tmps.size)->(m.map (·.dst)).Nodup->
 (fM vs k m a).tmps.size=a.tmps.size/\(fM vs k m a).defers=a.defers/\(∀t,(∀o∈m,o.dst≠some t)->cw (fM vs k m a) t=cw a t)/\∀i o d,m[i]?=some o->o.dst=some d->cw (fM vs k m a) d=vs (k+i)
 |[],k,a,_,_=>⟨rfl,rfl,λ_ _=>rfl,λi o d h=>by simp at h⟩
 |x::rest,k,a,hd,hn=>by
  obtain⟨dx,hx,dh⟩:=hd x (by simp);simp only[eQ,pF]at hn;obtain⟨h1,h2,h3,h4⟩:=UM vs rest (k+1) (a.put x.dst (vs k)) (λo ho=>by
   obtain⟨d,e,h⟩:=hd o (by simp[ho]);exact⟨d,e,by rw[size_put];exact h⟩) hn.2
  refine⟨by simp only[fM];rw[h1,size_put],by simp only[fM];rw[h2,yP],?_,?_⟩
  ·intro t ht;simp only[fM];rw[h3 t (λo ho=>ht o (by simp[ho])),hx,wJ _ _ _ _ dh,if_neg];intro e;subst e;exact ht x (by simp) hx
  ·intro i o d hi ho;cases i with
   |zero=>
    obtain rfl:x=o:=by simpa using hi
    simp only[fM];obtain rfl:dx=d:=by rw[hx]at ho;simpa using ho
    rw[h3 dx (λo' jJ e=>hn.1 (by rw[hx,<-e];exact List.mem_map_of_mem (f:=λx=>x.dst) jJ)),hx,wJ _ _ _ _ dh,if_pos rfl];rfl
   |succ i=>
    simp only[fM];rw[h4 i o d (by simpa using hi) ho];congr 1;omega
theorem D0 {o:an} {j:Nat}:j5 o j=true↔∃e∈o.after,e.on=j/\pE .any e=true:=by
 unfold j5;rw[<-Array.any_toList,yA];constructor
 ·rintro⟨e,he,hj⟩;simp only[a_,beq_iff_eq]at hj;exact⟨e,Array.mem_toList_iff.1 he,hj.1,hj.2⟩
 ·rintro⟨e,he,h1,h2⟩;exact⟨e,Array.mem_toList_iff.2 he,by simp[h1,h2]⟩
theorem MO {l:List an} {m:Nat} {paths:List (List Nat)} (h:pP l m paths=true) (k:Nat) (hk:k<l.length) (hm:m<=k) (i:Nat) (hi:i<k):
 ∃p,Bm l p=true/\p.head?=some k/\p.getLast?=some i/\1<p.length:=by
 simp only[pP,a_,fK,List.mem_range,A8,yA]at h;obtain⟨h1,h2⟩:=h;rcases h2 k hk with h3|h3
 ·simp[gV]at h3;omega
 ·obtain⟨p,hp,h4⟩:=h3 i hi;simp only[beq_iff_eq,gV]at h4;exact⟨p,h1 p hp,h4.1.1,h4.1.2,h4.2⟩
theorem kS (m:List an) (listed:Array Bool) (i:Nat):i∈pG .any m.toArray listed↔∃o,m[i]?=some o/\listed.getD i true=false/\∀e∈o.after,pE .any e=true->listed.getD e.on false=true:=by
 simp only[pG,List.mem_filter,List.mem_range,List.size_toArray,iX,a_,lv];constructor
 ·rintro⟨h1,h2,h3⟩;have hi:m[i]?=some m[i]:=by simp
  refine⟨m[i],hi,h2,?_⟩;rw[hi]at h3;simp only[lx,Un,HR,A8,lv]at h3;intro e he hb;rcases h3 e he with h|h
  ·rw[hb]at h;cases h
  ·exact h
 ·rintro⟨o,ho,h2,h3⟩;refine⟨by rcases cE i m.length with h|h;exact h;simp[h]at ho,h2,?_⟩;rw[ho];simp only[lx,Un,HR,A8,lv];intro e he;cases hb:pE .any e with
  |false=>exact Or.inl rfl
  |true=>exact Or.inr (h3 e he hb)
theorem UN (l2:List an) (fN:nB 0 (l++l2)=true) (paths:List (List Nat)) (ht:pP (l++l2) l.length paths=true):
 ∀(r:List an) (k:Nat),l2.drop k=r->∀(listed:Array Bool) (a:Act) (w:ae),listed.size=l.length+l2.length->(∀i,i<l.length+k->listed[i]?=some true)->(∀i,l.length+k<=i->i<l.length+l2.length->listed[i]?=some false)->
  wpList P (l++l2).toArray Q r a w->wpAny P .any (l++l2).toArray Q r.length listed a w:=by
 intro r;induction r with
 |nil=>
  intro k hk listed a w di h1 h2 h;have qX:l2.length<=k:=by simpa using hk
  refine⟨?_,h⟩;refine List.eq_nil_iff_forall_not_mem.2 λi hi=>?_;obtain⟨o,ho,hf,_⟩:=(kS _ listed i).1 hi;have hi:i<(l++l2).length:=by rcases cE i (l++l2).length with h|h;exact h;simp[ig h]at ho
  have:=h1 i (by simp at hi;omega);simp[iY,this]at hf
 |cons o rest ih=>
  intro k hk listed a w di h1 h2 h;have qX:k<l2.length:=by rcases cE k l2.length with h|h;exact h;simp[List.drop_eq_nil_of_le h]at hk
  have hok:l2[k]?=some o:=by rw[<-List.head?_drop,hk];rfl
  have aK:(l++l2)[l.length+k]?=some o:=by rw[yB (by omega)];simpa using hok
  refine⟨λhr=>?_,?_⟩
  ·exfalso;have:l.length+k∈pG .any (l++l2).toArray listed:=(kS _ listed _).2 ⟨o,aK,by simp[iY,h2 (l.length+k) (by omega) (by omega)],λe he hb=>by
    have:=sO fN _ o aK e he hb;simp[iY,h1 e.on (by omega)]⟩
   rw[hr]at this;simp at this
  ·intro i hi;obtain⟨oi,oh,hf,fO⟩:=(kS _ listed i).1 hi;have gw:i<(l++l2).length:=by rcases cE i (l++l2).length with h|h;exact h;simp[ig h]at oh
   have eo:l.length+k<=i:=by
    rcases cE i (l.length+k)with h|h
    ·simp[iY,h1 i h]at hf
    ·exact h
   have heq:i=l.length+k:=by
    rcases cE (l.length+k) i with dh|hle
    ·exfalso;have hb:∀(x:Nat) (o':an),(l++l2)[x]?=some o'->listed[x]?=some true->∀j,j5 o' j=true->listed[j]?=some true:=by
      intro x o' hx pQ j hj;obtain⟨e,he,rfl,hbd⟩:=D0.1 hj;have h3:=sO fN x o' hx e he hbd;refine h1 e.on ?_;rcases cE x (l.length+k)with h|h
      ·omega
      ·have uH:x<(l++l2).length:=by rcases cE x (l++l2).length with h'|h';exact h';simp[ig h']at hx
       have:=h2 x h (by simpa using uH);rw[pQ]at this;simp at this
     obtain⟨p,q1,q2,q3,q4⟩:=MO ht i (by simpa using gw) (by omega) (l.length+k) dh;have:=DZ hb p i (l.length+k) q1 q2 q3 q4 (λo' jJ j hj=>by
      obtain rfl:oi=o':=by rw[oh]at jJ;simpa using jJ
      obtain⟨e,he,rfl,hbd⟩:=D0.1 hj;have h3:=fO e he hbd;have h4:=sO fN i oi oh e he hbd;rcases kR di (show e.on<l.length+l2.length by simp at gw;omega)with hx|hx
      ·exact hx
      ·simp[iY,hx]at h3)
     rw[h2 (l.length+k) (by omega) (by omega)]at this;simp at this
    ·omega
   subst heq;obtain rfl:o=oi:=by rw[aK]at oh;simpa using oh
   have next:∀a' w',wpList P (l++l2).toArray Q rest a' w'->wpAny P .any (l++l2).toArray Q rest.length (listed.setIfInBounds (l.length+k) true) a' w':=by
    intro a' w' h';refine ih (k+1) (by rw[<-List.drop_drop,hk];rfl) _ a' w' (by simpa using di) ?_ ?_ h'
    ·intro j hj;rw[pD];split
     ·rename_i e;subst e;rw[if_pos (by omega)]
     ·exact h1 j (by omega)
    ·intro j hj wK;rw[pD,if_neg (by omega)];exact h2 j (by omega) wK
   unfold wpList at h;unfold wpOp;simp only[iX,aK];split at h
   ·rename_i hw;rw[if_pos hw];exact h.imp (Oper.wp_mono λa' w'=>next a' w') id
   ·rename_i hw;rw[if_neg hw];exact next _ _ h
theorem D4 (l2:List an) (paths:List (List Nat)) (ht:pP (l++l2) l.length paths=true) (jK:DY a0.tmps.size l=true) (fN:nB 0 (l++l2)=true) (hs:pO P (l++l2) l sp (cw a0) w0 0 l)
 (hq:∀(vs:Nat->ab) w',Ch [] w0 w'->(∀i o,l[i]?=some o->(sp i).holds w0.heap.size (vs i) w')->wpList P (l++l2).toArray Q l2 (fM vs 0 l a0) w'):
 ∀(fuel:Nat) (vs:Nat->ab) (listed:Array Bool) (a:Act) (w:ae),MN l l2.length sp a0 w0 vs listed a w->listed.toList.count false=fuel+l2.length->wpAny P .any (l++l2).toArray Q (fuel+l2.length) listed a w:=by
 have inl:∀{i:Nat} {o:an},(l++l2)[i]?=some o->i<l.length->l[i]?=some o:=λh hi=>by rwa [gI hi]at h
 have inr:∀{i:Nat} {o:an},l[i]?=some o->(l++l2)[i]?=some o:=λ{i o} h=>by rwa [gI (by rcases cE i l.length with h'|h';exact h';simp[h']at h)]
 simp only[DY,a_,fK]at jK;have hd:∀o∈l,∃d,o.dst=some d/\d<a0.tmps.size:=by
  intro o ho;have:=jK.1 o ho;cases hx:o.dst with
  |none=>simp[hx]at this
  |some d=>exact⟨d,rfl,by simpa[hx,gV]using this⟩
 have hn:=ML jK.2;have uniq:∀(i j:Nat) o p d,l[i]?=some o->l[j]?=some p->o.dst=some d->p.dst=some d->i=j:=by
  intro i j o p d hi hj ho hp;have gw:i<(l.map (·.dst)).length:=by simp;rcases cE i l.length with h|h;exact h;simp[h]at hi
  refine(List.getElem?_inj gw hn).1 ?_;simp[hi,hj,ho,hp]
 have fin:∀vs listed a w,MN l l2.length sp a0 w0 vs listed a w->(∀i,i<l.length->listed[i]?=some true)->wpAny P .any (l++l2).toArray Q l2.length listed a w:=by
  intro vs listed a w I dA;obtain⟨h1,h2,h3,h4⟩:=UM vs l 0 a0 hd hn;have:a=fM vs 0 l a0:=by
   refine MK (by rw[I.size,h1]) (by rw[I.defers,h2]) ?_;intro t;by_cases ht:∃(i:Nat) (o:an),l[i]?=some o/\o.dst=some t
   ·obtain⟨i,o,hi,ho⟩:=ht;rw[h4 i o t hi ho,eh];exact(I.done i o t hi ho (dA i (by rcases cE i l.length with h|h;exact h;simp[h]at hi))).1
   ·rw[h3 t (λo ho e=>ht (by obtain⟨i,hi⟩:=yC ho;exact⟨i,o,hi,e⟩))];exact I.rest t (λi o hi ho=>absurd ⟨i,o,hi,ho⟩ ht)
  rw[this];refine UN l2 fN paths ht l2 0 rfl listed _ w I.ls (λi hi=>dA i (by omega)) (λi h1 h2=>I.off i (by omega) h2) ?_;exact hq vs w I.ch λi o hi=>by
   obtain⟨d,ho,_⟩:=hd o (nx hi);exact(I.done i o d hi ho (dA i (by rcases cE i l.length with h|h;exact h;simp[h]at hi))).2
 have tl:∀vs listed a w,MN l l2.length sp a0 w0 vs listed a w->∀i,i∈pG .any (l++l2).toArray listed->l.length<=i->∀j,j<l.length->listed[j]?=some true:=by
  intro vs listed a w I i hi eo j hj;obtain⟨oi,oh,hf,fO⟩:=(kS _ listed i).1 hi;have gw:i<(l++l2).length:=by rcases cE i (l++l2).length with h|h;exact h;simp[ig h]at oh
  obtain⟨p,q1,q2,q3,q4⟩:=MO ht i gw eo j (by omega);refine DZ (l:=l++l2) ?_ p i j q1 q2 q3 q4 ?_
  ·intro x o hx pQ k hk;rcases cE x l.length with h|h
   ·exact I.back x o (inl hx h) pQ k hk
   ·have uH:x<(l++l2).length:=by rcases cE x (l++l2).length with h'|h';exact h';simp[ig h']at hx
    have:=I.off x h (by simpa using uH);rw[pQ]at this;simp at this
  ·intro o ho k hk;obtain rfl:oi=o:=by rw[oh]at ho;simpa using ho
   obtain⟨e,he,rfl,hbd⟩:=D0.1 hk;have h3:=fO e he hbd;have h4:=sO fN i oi oh e he hbd;rcases kR I.ls (show e.on<l.length+l2.length by simp at gw;omega)with hx|hx
   ·exact hx
   ·simp[iY,hx]at h3
 intro fuel;induction fuel with
 |zero=>
  intro vs listed a w I hc;have dA:∀i,i<l.length->listed[i]?=some true:=by
   intro i hi;rcases kR I.ls (show i<l.length+l2.length by omega)with hb|hb
   ·exact hb
   ·exfalso;have h4:=MM listed.toList l.length l2.length (by simpa using I.ls) (λj h1 h2=>by simpa using I.off j h1 h2) i hi (by simpa using hb);omega
  rw[eh];exact fin vs listed a w I dA
 |succ fuel ih=>
  intro vs listed a w I hc;by_cases yQ:∀i,i<l.length->listed[i]?=some true
  ·exfalso;have:=Ia listed.toList l.length l2.length (by simpa using I.ls) (λj h1=>by simpa using yQ j h1);omega
  rw[show fuel+1+l2.length=(fuel+l2.length)+1 by omega];refine⟨λhr=>?_,?_⟩
  ·
   exfalso;refine yQ ?_;intro i;induction i using Nat.strongRecOn with
   |_ i MP=>
    intro hi;rcases kR I.ls (show i<l.length+l2.length by omega)with hb|hb
    ·exact hb
    ·exfalso;have:i∈pG .any (l++l2).toArray listed:=(kS _ listed i).2 ⟨l[i],inr (by simp),by simp[iY,hb],λe he MQ=>by
      have dh:=sO fN i l[i] (inr (by simp)) e he MQ;have:=MP e.on (by omega) (by omega);simp[iY,this]⟩
     rw[hr]at this;simp at this
  ·intro i hi;have gw:i<l.length:=by
    rcases cE i l.length with h|h
    ·exact h
    ·exact absurd (tl vs listed a w I i hi h) yQ
   obtain⟨o,lz,h2,h3⟩:=(kS _ listed i).1 hi;have ho:=inl lz gw;have q_:listed[i]?=some false:=by
    rcases kR I.ls (show i<l.length+l2.length by omega)with hb|hb
    ·simp[iY,hb]at h2
    ·exact hb
   obtain⟨d,Bn,MR⟩:=hd o (nx ho);have fO:∀j,j5 o j=true->listed[j]?=some true:=by
    intro j hj;unfold j5 at hj;rw[<-Array.any_toList,yA]at hj;obtain⟨e,he,hj⟩:=hj;simp only[a_,beq_iff_eq]at hj;obtain⟨rfl,hb⟩:=hj;have he:=Array.mem_toList_iff.1 he;have h4:=h3 e he hb;have dh:=sO fN i o lz e he hb;rcases kR I.ls (show e.on<l.length+l2.length by omega)with hb|hb
    ·exact hb
    ·simp[iY,hb]at h4
   have step:=(pO.get hs i o ho) (cw a) w I.ch (λt ht=>by
    refine I.rest t λk ok hk hok=>?_;rw[uF,fK]at ht;have:=ht ok (nx hk);simp only[hok,bne_self_eq_false,Bool.false_or]at this;have qX:k<l.length:=by rcases cE k l.length with h|h;exact h;simp[h]at hk
    rcases kR I.ls (show k<l.length+l2.length by omega)with hb|hb
    ·have:=I.back k ok hk hb i (by simpa using this);rw[q_]at this;simp at this
    ·exact hb)
    (λj dj hj mK=>by
     cases dk:l[j]?with
     |none=>simp[dk]at mK
     |some oj=>
      have:=I.done j oj dj dk (by simpa[dk]using mK) (fO j hj);rw[this.1];exact this.2)
   rw[eh]at step;have next:∀v w',Ch [] w w'->(sp i).holds w0.heap.size v w'->wpAny P .any (l++l2).toArray Q (fuel+l2.length) (listed.setIfInBounds i true) (a.put o.dst v) w':=by
    intro v w' sP hv;refine ih (λj=>if j=i then v else vs j) _ _ _ ?_ ?_
    ·have gl:∀j b,(listed.setIfInBounds i true)[j]?=some b->(j=i/\b=true)\/(j≠i/\listed[j]?=some b):=by
      intro j b hj;rw[pD]at hj;by_cases h:i=j
      ·subst h;have:i<l.length+l2.length:=by omega
       simp[I.ls,this]at hj;exact Or.inl ⟨rfl,hj⟩
      ·rw[if_neg h]at hj;exact Or.inr ⟨λe=>h e.symm,hj⟩
     have yp:∀t,cw (a.put o.dst v) t=if t=d then v else cw a t:=λt=>by rw[Bn];exact wJ _ _ _ _ (by rw[I.size];exact MR)
     refine⟨by simp[I.ls],λj h1 h2=>by
      rw[pD,if_neg (by omega)];exact I.off j h1 h2,by rw[size_put,I.size],by rw[yP,I.defers],I.ch.trans sP (by simp),?_,?_,?_⟩
     ·intro j oj dj hj mK dk;rcases gl j true dk with⟨rfl,_⟩|⟨bZ,dk⟩
      ·obtain rfl:o=oj:=by rw[ho]at hj;simpa using hj
       obtain rfl:d=dj:=by rw[Bn]at mK;simpa using mK
       rw[yp];simp;exact hv
      ·have:=I.done j oj dj hj mK dk;rw[yp,if_neg (λ(e:dj=d)=>bZ (uniq j i oj o d hj ho (e▸mK) Bn)),if_neg bZ];exact⟨this.1,this.2.DW sP⟩
     ·intro t ht;rw[yp,if_neg]
      ·refine I.rest t λk ok hk hok=>?_;have:=ht k ok hk hok;rcases gl k false this with⟨_,h⟩|⟨_,h⟩
       ·cases h
       ·exact h
      ·rintro rfl;have:=ht i o ho Bn;rcases gl i false this with⟨_,h⟩|⟨h,_⟩
       ·cases h
       ·exact h rfl
     ·intro k ok hk kU j hj;have hb:listed[j]?=some true:=by
       rcases gl k true kU with⟨rfl,_⟩|⟨bZ,kU⟩
       ·obtain rfl:o=ok:=by rw[ho]at hk;simpa using hk
        exact fO j hj
       ·exact I.back k ok hk kU j hj
      rw[pD];split
      ·rename_i h;subst h;rw[q_]at hb;simp at hb
      ·exact hb
    ·have h2:listed[i]?=some false:=q_;have acK:=count_set listed.toList i (by simpa using h2);simp only[HU];omega
   unfold wpOp;simp only[iX,lz];rw[UL];cases hw:mJ (l++l2) o (cw a)with
   |true=>
    rw[if_pos rfl];refine Or.inl ?_;have hy:=step.1 hw;rw[UK]at hy;exact Yields.wp hy λv w' ⟨sP,hv⟩=>next v w' sP hv
   |false=>
    rw[if_neg (by simp)];exact next undef w (Ch.refl _ _) (step.2 hw)
theorem acL {id:Nat} (l l2:List an) (sp:Nat->Sp) (paths:List (List Nat)) (hm:P.follows .mixedOrders=true) (ht:pP (l++l2) l.length paths=true) (jK:DY a0.tmps.size l=true) (fN:nB 0 (l++l2)=true) (hs:pO P (l++l2) l sp (cw a0) w0 0 l)
 (hq:∀(vs:Nat->ab) w',Ch [] w0 w'->(∀i o,l[i]?=some o->(sp i).holds w0.heap.size (vs i) w')->wpList P (l++l2).toArray Q l2 (fM vs 0 l a0) w'):(Code.region id (l++l2).toArray true).wp P Q a0 w0:=by
 refine wp_region_any hm ?_;have h:=D4 l2 paths ht jK fN hs hq l.length (λ_=>undef) (A5 (l++l2).toArray.size false) a0 {w0 with drawn:=w0.drawn+1} ?_ ?_
 ·rw[show(l++l2).toArray.size=l.length+l2.length by simp];rw[show(l++l2).toArray.size=l.length+l2.length by simp]at h;exact h
 ·refine⟨by simp,λi h1 h2=>by simp[yD];omega,rfl,rfl,(Ch.refl _ _).drew,?_,λ_ _=>rfl,?_⟩
  ·intro i o d _ _ h;simp[yD]at h
  ·intro i o _ h;simp[yD]at h
 ·simp[Uo]
end
def pS (l:List Sp):Nat->Sp:=λi=>l.getD i ⟨0,λ_=>undef,λ_=>[]⟩
section
variable{B:Nat} {x:ab} {w:ae} {f:List Nat->ab} {bl:List Nat->List (Nat×Obj)}
theorem Sp.dq (h:(⟨0,f,bl⟩:Sp).holds B x w):x=f []/\∀p∈bl [],B<=p.1/\w.heap[p.1]?=some p.2:=by
 obtain⟨ids,h1,h2,h3⟩:=h;obtain rfl:ids=[]:=by simpa using h1
 exact⟨h2,h3⟩
theorem Sp.uI (h:(⟨1,f,bl⟩:Sp).holds B x w):∃b,x=f [b]/\∀p∈bl [b],B<=p.1/\w.heap[p.1]?=some p.2:=by
 obtain⟨ids,h1,h2,h3⟩:=h
 match ids,h1 with
 |[b],_=>exact⟨b,h2,h3⟩
theorem Sp.UO (h:(⟨2,f,bl⟩:Sp).holds B x w):∃b c,x=f [b,c]/\∀p∈bl [b,c],B<=p.1/\w.heap[p.1]?=some p.2:=by
 obtain⟨ids,h1,h2,h3⟩:=h
 match ids,h1 with
 |[b,c],_=>exact⟨b,c,h2,h3⟩
theorem Sp.UP (h:(⟨3,f,bl⟩:Sp).holds B x w):∃b c d,x=f [b,c,d]/\∀p∈bl [b,c,d],B<=p.1/\w.heap[p.1]?=some p.2:=by
 obtain⟨ids,h1,h2,h3⟩:=h
 match ids,h1 with
 |[b,c,d],_=>exact⟨b,c,d,h2,h3⟩
end
theorem St.ro {ms:List Nat} {w0 w w':ae} {bs:List ai} (S:St ms w0 bs w) (hc:Ch [] w w') (ps:List (Nat×Obj)) (h:∀p∈ps,w.heap.size<=p.1/\w'.heap[p.1]?=some p.2):St ms w0 (ps.map (λp=>⟨p.1,false,p.2⟩)++bs) w':=by
 have hq:=S.quiet hc;have pT:∀(i:Nat) x,(ps.map (λp=>(⟨p.1,false,p.2⟩:ai))++bs)[i]?=some x->(∃p∈ps,x=⟨p.1,false,p.2⟩/\i<ps.length)\/(ps.length<=i/\bs[i-ps.length]?=some x):=by
  intro i x hx;rcases cE i ps.length with hi|hi
  ·rw[gI (by simpa using hi)]at hx;simp only[iI,gH]at hx;obtain⟨p,hp,rfl⟩:=hx;exact Or.inl ⟨p,nx hp,rfl,hi⟩
  ·rw[yB (by simpa using hi)]at hx;exact Or.inr ⟨hi,by simpa using hx⟩
 refine⟨hq.ch,?_,?_,?_⟩
 ·intro i x hx;rcases pT i x hx with⟨p,hp,rfl,_⟩|⟨_,hx⟩
  ·exact(h p hp).2
  ·exact hq.at_ _ x hx
 ·intro i x hx hw;rcases pT i x hx with⟨p,hp,rfl,_⟩|⟨_,hx⟩
  ·cases hw
  ·exact hq.own _ x hx hw
 ·intro i j x y hx hy bZ hw;rcases pT i x hx with⟨p,hp,rfl,_⟩|⟨hi,hx⟩
  ·cases hw
  ·rcases pT j y hy with⟨p,hp,rfl,_⟩|⟨hj,hy⟩
   ·have:=S.lt hx;have:=(h p hp).1;simp;omega
   ·exact hq.apart _ _ x y hx hy (by omega) hw
theorem St.loc {ms:List Nat} {w0 w:ae} {bs:List ai} (S:St ms w0 bs w):St [] w (bs.map λx=>⟨x.id,false,x.obj⟩) w:=by
 refine⟨Ch.refl _ _,?_,?_,?_⟩
 ·intro i x hx;simp only[iI,gH]at hx;obtain⟨y,hy,rfl⟩:=hx;exact S.at_ i y hy
 ·intro i x hx hw;simp only[iI,gH]at hx;obtain⟨y,hy,rfl⟩:=hx;cases hw
 ·intro i j x y hx hy bZ hw;simp only[iI,gH]at hx;obtain⟨y,hy,rfl⟩:=hx;cases hw
theorem St.uJ {w0 w:ae} {bs:List ai} (S:St [] w0 bs w) {B:Nat} (hB:B<=w0.heap.size) (i:Nat) {b:Nat} {o:Obj} (hi:bs[i]?=some ⟨b,true,o⟩):B<=b/\w.heap[b]?=some o:=by
 refine⟨?_,S.at_ i _ hi⟩;rcases S.own i _ hi rfl with h|h
 ·simp at h
 ·exact iH hB h
theorem St.UQ {w0 w:ae} {bs:List ai} (S:St [] w0 bs w) {B:Nat} (i:Nat) {b:Nat} {o:Obj} (hB:B<=b) (wr:Bool) (hi:bs[i]?=some ⟨b,wr,o⟩):B<=b/\w.heap[b]?=some o:=⟨hB,S.at_ i _ hi⟩
def rf:List ab->List an->Act->Act
 |v::vs,o::rest,a=>rf vs rest (a.put o.dst v)
 |_,_,a=>a
def yR (vs:Nat->ab):Nat->List ab->Prop
 |_,[]=>True
 |i,v::rest=>vs i=v/\yR vs (i+1) rest
theorem UR {vs:Nat->ab}:∀{l:List an} {dB:List ab} {k:Nat} {a:Act},dB.length=l.length->yR vs k dB->fM vs k l a=rf dB l a
 |[],[],_,_,_,_=>rfl
 |o::rest,v::dB,k,a,h,⟨h1,h2⟩=>by
  simp only[fM,rf,h1];exact UR (by simpa using h) h2
 |[],_::_,_,_,h,_=>by simp at h
 |_::_,[],_,_,h,_=>by simp at h
def jt (env:List (Nat×ab)):aZ->ab:=uE λt=>(env.lookup t).getD undef
def wL (y:Nat->ab):List (Nat×ab)->Prop
 |[]=>True
 |p::rest=>y p.1=p.2/\wL y rest
theorem US {y:Nat->ab}:∀{env:List (Nat×ab)},wL y env->∀t v,env.lookup t=some v->y t=v
 |[],_,t,v,h=>by simp at h
 |(s,u)::rest,⟨h1,h2⟩,t,v,h=>by
  rw[List.lookup_cons]at h;cases dr:t==s with
  |true=>
   simp[dr]at h;have:t=s:=by simpa using dr
   subst this;subst h;exact h1
  |false=>
   simp[dr]at h;exact US h2 t v h
def wM (env:List (Nat×ab)) (o:an):Bool:=o.op.operands.all (λx=>match x with|.tmp t=>(env.lookup t).isSome|_=>true)&&(match o.op with|.select .. =>false|_=>true)
section
variable{P:aC} {o:an} {w w0:ae} {ms:List Nat} {bs:List ai} {R:ab->ae->Prop} {y:Nat->ab}
theorem lA (env:List (Nat×ab)) (hy:wL y env) (h:Yields P o (jt env) w R) (lW:wM env o=true:=by kernel_rfl):Yields P o (uE y) w R:=by
 have:execOp (uE y) o=execOp (jt env) o:=by
  simp only[wM,a_]at lW;refine execOp_congr o ?_ ?_
  ·intro cs b acM;rw[acM]at lW;simp at lW
  ·intro x hx;have h1:=HR.1 lW.1 x hx;cases x with
   |tmp t=>
    simp only at h1;cases hl:env.lookup t with
    |none=>simp[hl]at h1
    |some v=>simp[uE,jt,hl,US hy t v hl]
   |_=>rfl
 unfold Yields at*;rw[this];exact h
theorem acN {A C:Prop} {b:Bool} (hw:b=true) (h:A):(b=true->A)/\(b=false->C):=⟨λ_=>h,λe=>by rw[hw]at e;cases e⟩
end
theorem om {y:Nat->ab}:wL y []:=trivial
theorem lB {y:Nat->ab} {t:Nat} {v:ab} {env:List (Nat×ab)} (h:y t=v) (k:wL y env):wL y ((t,v)::env):=⟨h,k⟩
theorem Bo {vs:Nat->ab} {i:Nat}:yR vs i []:=trivial
theorem dO {vs:Nat->ab} {i:Nat} {v:ab} {rest:List ab} (h:vs i=v) (k:yR vs (i+1) rest):yR vs i (v::rest):=⟨h,k⟩
theorem all_nil {α:Type} {C:α->Prop}:∀p∈([]:List α),C p:=λp hp=>by cases hp
theorem all_cons {α:Type} {C:α->Prop} {x:α} {xs:List α} (h:C x) (k:∀p∈xs,C p):∀p∈x::xs,C p:=λp hp=>by
 rcases bY.1 hp with rfl|hp
 ·exact h
 ·exact k p hp
theorem Sp.oq {s:Sp} {B:Nat} {v:ab} {w:ae} (ids:List Nat) (h3:∀p∈s.bl ids,B<=p.1/\w.heap[p.1]?=some p.2) (h1:ids.length=s.k:=by kernel_rfl) (h2:v=s.f ids:=by kernel_rfl):s.holds B v w:=⟨ids,h1,h2,h3⟩
theorem yS {P:aC} {lf l:List an} {sp:Nat->Sp} {y0:Nat->ab} {w:ae} {i:Nat}:pO P lf l sp y0 w i []:=trivial
theorem step_cons {P:aC} {lf l:List an} {sp:Nat->Sp} {y0:Nat->ab} {w:ae} {i:Nat} {o:an} {rest:List an} (h:uG P lf l sp y0 w i o) (k:pO P lf l sp y0 w (i+1) rest):pO P lf l sp y0 w i (o::rest):=⟨h,k⟩
theorem ot {A C:Prop} (h:A) {b:Bool} (hw:b=true:=by kernel_rfl):(b=true->A)/\(b=false->C):=acN hw h
theorem St.given {w:ae} (ps:List (Nat×Obj)) (h:∀p∈ps,w.heap[p.1]?=some p.2):St [] w (ps.map λp=>⟨p.1,false,p.2⟩) w:=by
 refine⟨Ch.refl _ _,?_,?_,?_⟩
 ·intro i x hx;simp only[iI,gH]at hx;obtain⟨p,hp,rfl⟩:=hx;exact h p (nx hp)
 ·intro i x hx hw;simp only[iI,gH]at hx;obtain⟨p,hp,rfl⟩:=hx;cases hw
 ·intro i j x y hx hy bZ hw;simp only[iI,gH]at hx;obtain⟨p,hp,rfl⟩:=hx;cases hw
theorem yT {P:aC} {a0:Act} {w0:ae} {Q:dN->Act->ae->Prop} {id:Nat} {L:List an} (m:Nat) (sp:List Sp) (paths:List (List Nat))
 (hs:pO P L (L.take m) (pS sp) (cw a0) w0 0 (L.take m))
 (hq:∀(vs:Nat->ab) w',Ch [] w0 w'->(∀i,cj i m=true->(pS sp i).holds w0.heap.size (vs i) w')->∃dB:List ab,dB.length=m/\yR vs 0 dB/\WL P L.toArray Q (L.drop m) (rf dB (L.take m) a0) w')
 (hm:P.follows .mixedOrders=true:=by kernel_rfl) (hl:bA m L.length=true:=by kernel_rfl) (ht:pP L m paths=true:=by kernel_rfl) (jK:DY a0.tmps.size (L.take m)=true:=by kernel_rfl) (fN:nB 0 L=true:=by kernel_rfl):(Code.region id L.toArray true).wp P Q a0 w0:=by
 have pU:(L.take m).length=m:=by have:=dz hl;simp;omega
 have h:=acL (id:=id) (Q:=Q) (P:=P) (a0:=a0) (w0:=w0) (L.take m) (L.drop m) (pS sp) paths hm (by rw[iZ,pU];exact ht) jK (by rw[iZ];exact fN) (by rw[iZ];exact hs) ?_
 ·rwa [iZ]at h
 ·intro vs w' hc dA;rw[iZ];obtain⟨dB,h1,h2,h3⟩:=hq vs w' hc λi hi=>by
   have kB:i<m:=by simpa[gV]using hi
   exact dA i _ (iK (by omega))
  rw[UR (by rw[h1,pU]) h2];exact h3.out
namespace Y
section
variable{P:aC} {o:an} {w w0:ae} {ms:List Nat} {bs:List ai} {R:ab->ae->Prop} {ρ:aZ->ab}
theorem ak (v:ab) (k:R v w) (h:(execOp ρ o).run P w=.ok (.value v) w:=by kernel_rfl):Yields P o ρ w R:=by unfold Yields;rw[h];exact k
theorem nA (v v':ab) (he:v=v') (k:R v' w) (h:(execOp ρ o).run P w=.ok (.value v) w:=by kernel_rfl):Yields P o ρ w R:=by subst he;exact ak v k h
theorem kA (kd:eE) (e:Int) (he:kd.wrap e=e) (k:R (.int kd e) w) (h:(execOp ρ o).run P w=.ok (.value (.int kd (kd.wrap e))) w:=by kernel_rfl):Yields P o ρ w R:=nA _ _ (by rw[he]) k h
theorem dF {x:aZ} (k:R (ρ x) w) (ho:o.op=.move x:=by rfl):Yields P o ρ w R:=ak _ k (by unfold execOp;simp[ho])
theorem fL {x:aZ} (k:R (ρ x) w) (ho:o.op=.assign x:=by rfl):Yields P o ρ w R:=ak _ k (by unfold execOp;simp[ho])
theorem oe (S:St ms w0 bs w) (i:Nat) (v:ab) (b off:Nat) {x:aZ} {ty:aD} (k:R v w) (ho:o.op=.load ty x:=by rfl) (hx:ρ x=.pointer (some ⟨b,off,none⟩):=by kernel_rfl)
 (ha:(P.underlying ty).map iO=some false:=by kernel_rfl) (hb:lk bs i off=some (b,v):=by kernel_rfl):Yields P o ρ w R:=by
 obtain⟨wr,cs,t,fr,hb,hc⟩:=UD hb;unfold Yields execOp;simp only[ho,hx,pC,iJ,bj,cW,cd,Bh (S.at_ i _ hb) ha hc];exact k
theorem jI (S:St ms w0 bs w) (i:Nat) (n:Nat) (vs:Array ab) (b off:Nat) {x:aZ} {ty:aD} (k:R (.agg vs) w) (ho:o.op=.load ty x:=by rfl) (hx:ρ x=.pointer (some ⟨b,off,none⟩):=by kernel_rfl)
 (ha:(P.underlying ty).map iO=some true:=by kernel_rfl) (hn:(P.info? ty).map (·.size)=some n:=by kernel_rfl) (hb:wF bs i off n=some (b,vs):=by kernel_rfl):Yields P o ρ w R:=by
 obtain⟨wr,cs,t,fr,hb,hc,hv⟩:=H5 hb;unfold Yields execOp;simp only[ho,hx,pC,iJ,bj,cW,cd,DR (S.at_ i _ hb) ha hn hc hv];exact k
theorem ei (S:St ms w0 bs w) (f:Nat->ab) (obj:Obj) (k:∀b w',St ms w0 (⟨b,true,obj⟩::bs) w'->R (f b) w') (h:(execOp ρ o).run P w=.ok (.value (f w.heap.size)) (w.alloc obj):=by kernel_rfl):Yields P o ρ w R:=by
 unfold Yields;rw[h];exact k _ _ (S.new (Ch.alloc _ _ _) (dE _) (mC w obj))
theorem fe (f:eN) (args:Array ab) (k:aQ P f args w R) (h:(execOp ρ o).run P w=.ok (.enter f args) w:=by kernel_rfl):Yields P o ρ w R:=by unfold Yields;rw[h];exact k
end
end Y
section
variable{P:aC} {a:Act} {w:ae} {Q:dN->Act->ae->Prop}
theorem MS {p:Nat->Prop} (h:∃n,p n):∃n,p n/\∀m,p m->n<=m:=by
 obtain⟨n,hn⟩:=h;induction n using Nat.strongRecOn with
 |_ n ih=>
  by_cases hm:∃m,m<n/\p m
  ·obtain⟨m,hl,hp⟩:=hm;exact ih m hl hp
  ·refine⟨n,hn,λm hp=>?_⟩;by_cases hl:m<n
   ·exact absurd ⟨m,hl,hp⟩ hm
   ·omega
open Classical in
theorem acO {c:Code} (I:Nat->Act->ae->Prop) (n:Nat) (h:I n a w)
 (round:∀n a w,I n a w->c.wp P (Exit.then (λa' w'=>∃m,m<n/\I m a' w') Q) a w):(Code.loop c).wp P Q a w:=by
 refine wp_loop (λa w=>∃n,I n a w) (λa w=>if h:∃n,I n a w then choose (MS h)else 0) ⟨n,h⟩ ?_;intro a w hI;have hs:=choose_spec (MS hI);refine wp_mono (round _ a w hs.1) ?_;intro e a' w' hh;cases e with
 |normal=>
  obtain⟨m,hm,hi⟩:=hh;refine⟨⟨m,hi⟩,?_⟩;have hx:∃n,I n a' w':=⟨m,hi⟩;have hy:=(choose_spec (MS hx)).2 m hi;simp only[dif_pos hx,dif_pos hI];omega
 |_=>exact hh
end
section
variable{P:aC} {ops:Array an} {Q:dN->Act->ae->Prop} {rest:List an} {a:Act} {w w0:ae} {o:an} {ms:List Nat} {bs:List ai}
theorem St.acP (S:St ms w0 bs w) {b off:Nat} {v:ab} (hc:w0.cell? ⟨b,off,none⟩=some v) (hm:b∉ms):w.cell? ⟨b,off,none⟩=some v:=by
 have hb:b<w0.heap.size:=by
  unfold wx at hc;split at hc
  ·next h=>exact n_ h
  ·exact absurd hc (by simp)
 have:=S.ch.block b hb hm;unfold wx at hc⊢;simpa only[this]using hc
theorem pV (b off i n z c:Nat) (kd:eE) (iv:Int) {t e:aD} {x y:aZ} (h0:0<=iv) (h1:iv<n) (he:i=iv.toNat) (k:WL P ops Q rest (a.put o.dst (.pointer (some ⟨b,off+i*z,none⟩))) w) (hw:gf o (yielded ops a.tmps)=true:=by kernel_rfl)
 (ho:o.op=.indexAddr t x y:=by rfl) (hu:P.underlying t=some (.slice e):=by kernel_rfl) (hz:(P.info? e).map (·.size)=some z:=by kernel_rfl)
 (hx:a.eval x=.slice (some ⟨b,off,none⟩) n c:=by kernel_rfl) (hy:a.eval y=.int kd iv:=by kernel_rfl):WL P ops Q (o::rest) a w:=
 ak (.pointer (some ⟨b,off+i*z,none⟩)) k hw (by
  subst he;have DS:∀q:Nat,(⟨b,off,none⟩:aI).add q=⟨b,off+q,none⟩:=λq=>by
   by_cases hq:q=0
   ·subst hq;rfl
   ·simp[ug,hq]
  cases hq:P.info? e with
  |none=>simp[hq]at hz
  |some inf=>
   have di:inf.size=z:=by simpa[hq]using hz
   unfold execOp;simp only[ho,hx,hy];unfold sG;simp only[bj,dg hu,cd,asIntOf,cW];simp[h0,h1,nY,typeInfo,hq,di,DS])
end
namespace Y
section
variable{P:aC} {w w0:ae} {o:an} {ms:List Nat} {bs:List ai} {R:ab->ae->Prop} {ρ:aZ->ab}
theorem pV (b off i n z c:Nat) (kd:eE) (iv:Int) {t e:aD} {x y:aZ} (h0:0<=iv) (h1:iv<n) (he:i=iv.toNat) (k:R (.pointer (some ⟨b,off+i*z,none⟩)) w)
 (ho:o.op=.indexAddr t x y:=by rfl) (hu:P.underlying t=some (.slice e):=by kernel_rfl) (hz:(P.info? e).map (·.size)=some z:=by kernel_rfl)
 (hx:ρ x=.slice (some ⟨b,off,none⟩) n c:=by kernel_rfl) (hy:ρ y=.int kd iv:=by kernel_rfl):Yields P o ρ w R:=
 Y.ak (.pointer (some ⟨b,off+i*z,none⟩)) k (by
  subst he;have DS:∀q:Nat,(⟨b,off,none⟩:aI).add q=⟨b,off+q,none⟩:=λq=>by
   by_cases hq:q=0
   ·subst hq;rfl
   ·simp[ug,hq]
  cases hq:P.info? e with
  |none=>simp[hq]at hz
  |some inf=>
   have di:inf.size=z:=by simpa[hq]using hz
   unfold execOp;simp only[ho,hx,hy];unfold sG;simp only[bj,dg hu,cd,asIntOf,cW];simp[h0,h1,nY,typeInfo,hq,di,DS])
end
end Y
def yU (x y:ai):Prop:=x.wr=true\/y.wr=true->x.id≠y.id
section
variable{ms:List Nat} {w0 w w':ae} {bs bs':List ai}
theorem St.at' (S:St ms w0 bs w) {x:ai} (h:x∈bs):w.heap[x.id]?=some x.obj:=by
 obtain⟨i,hi⟩:=yC h;exact S.at_ i x hi
theorem St.nC (S:St ms w0 bs w) {x:ai} (h:x∈bs) (hw:x.wr=true):x.id∈ms\/w0.heap.size<=x.id:=by
 obtain⟨i,hi⟩:=yC h;exact S.own i x hi hw
theorem St.pw (S:St ms w0 bs w):bs.Pairwise yU:=by
 rw[List.pairwise_iff_getElem];intro i j hi hj wD hw;have h1:bs[i]?=some bs[i]:=iK hi;have h2:bs[j]?=some bs[j]:=iK hj;rcases hw with hw|hw
 ·exact S.apart i j _ _ h1 h2 (by omega) hw
 ·exact(S.apart j i _ _ h2 h1 (by omega) hw).symm
theorem St.mk' (ch:Ch ms w0 w) (at_:∀x∈bs,w.heap[x.id]?=some x.obj) (own:∀x∈bs,x.wr=true->x.id∈ms\/w0.heap.size<=x.id) (pw:bs.Pairwise yU):St ms w0 bs w:=by
 refine⟨ch,λi x h=>at_ x (nx h),λi x h=>own x (nx h),?_⟩;intro i j x y hx hy bZ hw;rw[List.pairwise_iff_getElem]at pw;have hi:i<bs.length:=by
  rcases cE i bs.length with h|h
  ·exact h
  ·simp[h]at hx
 have hj:j<bs.length:=by
  rcases cE j bs.length with h|h
  ·exact h
  ·simp[h]at hy
 obtain rfl:bs[i]=x:=by simpa[hi]using hx
 obtain rfl:bs[j]=y:=by simpa[hj]using hy
 rcases Nat.lt_or_gt_of_ne bZ with h|h
 ·exact pw i j hi hj h (.inl hw)
 ·exact(pw j i hj hi h (.inr hw)).symm
theorem acQ {x y:ai} (h:yU x y):yU y x:=λhw=>(h hw.symm).symm
theorem St.perm (S:St ms w0 bs w) (h:bs.Perm bs'):St ms w0 bs' w:=
 St.mk' S.ch (λx hx=>S.at' (h.mem_iff.2 hx)) (λx hx=>S.nC (h.mem_iff.2 hx)) ((h.pairwise_iff (λh=>acQ h)).1 S.pw)
theorem St.sub (S:St ms w0 bs w) (h:bs'.Sublist bs):St ms w0 bs' w:=
 St.mk' S.ch (λx hx=>S.at' (h.mem hx)) (λx hx=>S.nC (h.mem hx)) (S.pw.sublist h)
theorem St.ge (S:St ms w0 bs w) {x:ai} (h:x∈bs):x.id<w.heap.size:=n_ (S.at' h)
theorem Ch.mono {es ri:List Nat} (h:Ch es w w') (hs:∀x∈es,x∈ri):Ch ri w w':=⟨h.os,h.tape,h.output,h.size,λk hk hm=>h.block k hk (λhx=>hm (hs k hx))⟩
theorem St.sQ {A bl bl' R:List ai} (S:St ms w0 (A++(bl++R)) w) (hw:∀x∈bl,x.wr=true) (hc:Ch (bl.map ai.id) w w')
 (aK:∀x∈bl',w'.heap[x.id]?=some x.obj) (hid:∀x∈bl',(∃y∈bl,x.id=y.id)\/w.heap.size<=x.id) (hp:bl'.Pairwise yU):St ms w0 (A++(bl'++R)) w':=by
 have UT:=S.pw;rw[Mu,Mu]at UT;obtain⟨pA,⟨pb,pR,pbR⟩,UU⟩:=UT;have rj:∀z,z∈A\/z∈R->z.id∉bl.map ai.id:=by
  intro z hz hm;obtain⟨y,hy,he⟩:=ny.1 hm;rcases hz with hz|hz
  ·exact UU z hz y (by simp[hy]) (.inr (hw y hy)) he.symm
  ·exact pbR y hy z hz (.inl (hw y hy)) he
 have UW:∀z,z∈A\/z∈R->∀x∈bl',z.id≠x.id:=by
  intro z hz x hx e;rcases hid x hx with⟨y,hy,he⟩|h
  ·exact rj z hz (by rw[e,he];exact List.mem_map_of_mem hy)
  ·have:=S.ge (x:=z) (by rcases hz with h|h<;>simp[h]);omega
 refine St.mk' (S.ch.trans hc ?_) ?_ ?_ ?_
 ·intro k hk;obtain⟨y,hy,rfl⟩:=ny.1 hk;exact S.nC (by simp[hy]) (hw y hy)
 ·intro x hx;rcases ez.1 hx with h|h
  ·exact(hc.block _ (S.ge (by simp[h])) (rj x (.inl h))).trans (S.at' (by simp[h]))
  ·rcases ez.1 h with h|h
   ·exact aK x h
   ·exact(hc.block _ (S.ge (by simp[h])) (rj x (.inr h))).trans (S.at' (by simp[h]))
 ·intro x hx UX;rcases ez.1 hx with h|h
  ·exact S.nC (by simp[h]) UX
  ·rcases ez.1 h with h|h
   ·rcases hid x h with⟨y,hy,he⟩|eo
    ·rw[he];exact S.nC (by simp[hy]) (hw y hy)
    ·exact .inr (iH S.ch.size eo)
   ·exact S.nC (by simp[h]) UX
 ·rw[Mu,Mu];refine⟨pA,⟨hp,pR,λx hx z hz _ e=>UW z (.inr hz) x hx e.symm⟩,λz hz x hx=>?_⟩;rcases ez.1 hx with h|h
  ·exact λ_=>UW z (.inl hz) x h
  ·exact UU z hz x (by simp[h])
theorem St.less {A bl R:List ai} (S:St ms w0 (A++(bl++R)) w) (hw:∀x∈bl,x.wr=true) (hc:Ch (bl.map ai.id) w w'):St ms w0 (A++R) w':=by
 have:=S.sQ (bl':=[]) hw hc (by simp) (by simp) List.Pairwise.nil;simpa using this
end
def eI (z:Nat) (T:aD) (olds:List ab) (x:Option aI) (n c:Nat) (bl:List ai):Prop:=
 olds.length=n*z/\n<=c/\((x=none/\n=0/\c=0/\bl=[])\/∃b tail,x=some ⟨b,0,none⟩/\bl=[⟨b,true,.cells (olds++tail).toArray T (0,0)⟩]/\(olds++tail).length=c*z)
theorem wN (z:Nat) (T:aD):eI z T [] none 0 0 []:=⟨by simp,dE _,.inl ⟨rfl,rfl,rfl,rfl⟩⟩
theorem eI.wr {z T olds x n c bl} (h:eI z T olds x n c bl):∀y∈bl,y.wr=true:=by
 rcases h.2.2 with⟨_,_,_,rfl⟩|⟨b,tail,_,rfl,_⟩<;>simp
theorem eI.pw {z T olds x n c bl} (h:eI z T olds x n c bl):bl.Pairwise yU:=by
 rcases h.2.2 with⟨_,_,_,rfl⟩|⟨b,tail,_,rfl,_⟩<;>simp
def rk (z:Nat) (T:aD) (olds:List ab) (n:Nat) (bl:List ai) (B:Nat) (v:ab) (w':ae):Prop:=
 ∃x c bl',v=.slice x n c/\eI z T olds x n c bl'/\∀y∈bl',w'.heap[y.id]?=some y.obj/\((∃u∈bl,y.id=u.id)\/B<=y.id)
theorem rk.DW {z T olds n bl B v} {w w':ae} (h:rk z T olds n bl B v w) (hc:Ch [] w w'):rk z T olds n bl B v w':=by
 obtain⟨x,c,bl',h1,h2,h3⟩:=h;exact⟨x,c,bl',h1,h2,λy hy=>⟨(hc.block _ (n_ (h3 y hy).1) (by simp)).trans (h3 y hy).1,(h3 y hy).2⟩⟩
section
variable{P:aC}
theorem Bp {w:ae} {z T n c m:Nat} {olds news:List ab} {x:Option aI} {bl:List ai} (hr:eI z T olds x n c bl) (aK:∀y∈bl,w.heap[y.id]?=some y.obj)
 {t tx ty:aD} {xv:ab} (bytes:Nat) (hs:Src P z tx xv m news w) (ht:P.underlying t=some (.slice T)) (hi:(P.info? T).map (λi=>(i.zero.map (·.cells.size),i.size,i.bytes))=some (some z,z,bytes))
 (hb:(n+m)*bytes<=140737488355328) (h63:n+m<=maxLen):
 ∃v w',(mD #[t,tx] ty #[.slice x n c,xv]).run P w=.ok v w'/\Ch (bl.map ai.id) w w'/\rk z T (olds++news) (n+m) bl w.heap.size v w':=by
 obtain⟨i,bS,hi⟩:=gH.1 hi;simp only[bd]at hi;obtain⟨hz,di,gW⟩:=hi;obtain⟨z0,kV,mL⟩:=gH.1 hz;obtain⟨hlen,jc,ju⟩:=hr;have ou:=hs.newsLen;have as6:news.length=m*i.size:=by rw[di];exact ou
 have iQ:Src P i.size tx xv m news w:=by rw[di];exact hs
 by_cases mM:n+m<=c
 ·rcases uh m with jL|jL
  ·subst jL;obtain rfl:news=[]:=mE (by simpa using ou);refine⟨_,_,run_append_nothing (P:=P) w t tx ty T i ht bS x n c jc xv iQ,Ch.refl _ _,x,c,bl,rfl,⟨by simpa using hlen,jc,by simpa using ju⟩,λy hy=>⟨aK y hy,.inl ⟨y,hy,rfl⟩⟩⟩
  ·rcases ju with⟨_,rfl,rfl,_⟩|⟨b,tail,rfl,rfl,ov⟩
   ·omega
   ·have rp:=aK _ (i_.2 rfl);have hbd:n*z+news.length<=(olds++tail).length:=by
     rw[ov,ou,<-lU];exact Mv _ mM
    have fw:=run_storeCells_at (P:=P) b (n*z) T news 0 (olds++tail).toArray w rp (by simpa using hbd) hs.one;simp only[nZ]at fw;have bE:(mD #[t,tx] ty #[.slice (some ⟨b,0,none⟩) n c,xv]).run P w=.ok (.slice (some ⟨b,0,none⟩) (n+m) c) (w.setRow b ((olds++tail).take (n*z)++news++(olds++tail).drop (n*z+news.length)).toArray):=by
     rcases iQ.kind with⟨e',hk⟩|hk<;>simp[mD,dg ht,dg hk,nY,typeInfo,bS,iQ.len,mM,hs.cells,hU,di,fw,jb]
    refine⟨_,_,bE,by simpa using Ch.setRow w b _,some ⟨b,0,none⟩,c,[⟨b,true,.cells ((olds++news)++tail.drop news.length).toArray T (0,0)⟩],rfl,⟨by rw[fi,hlen,ou,lU],mM,.inr ⟨b,_,rfl,rfl,?_⟩⟩,?_⟩
    ·simp only[fi,List.length_drop,hlen]at ov hbd⊢;omega
    ·intro y hy;obtain rfl:=i_.1 hy;refine⟨?_,.inl ⟨_,i_.2 rfl,rfl⟩⟩;have:=setRow_heap w b (olds++tail).toArray ((olds++tail).take (n*z)++news++(olds++tail).drop (n*z+news.length)).toArray T (0,0) rp;rw[this];congr 3;rw[<-hlen,List.take_left,List.drop_append,List.drop_eq_nil_of_le (by omega)];simp
 ·have hg:c<n+m:=by omega
  have hold:(Builtin.firstCells i.size n (.slice x n c)).run P w.drew=.ok olds.toArray w.drew:=by
   rcases ju with⟨rfl,rfl,rfl,_⟩|⟨b,tail,rfl,rfl,ov⟩
   ·obtain rfl:olds=[]:=mE (by simpa using hlen);exact run_firstCells_none (P:=P) w.drew i.size 0 0 0
   ·have rp:=aK _ (i_.2 rfl);refine run_firstCells_some (P:=P) w.drew i.size n ⟨b,0,none⟩ n c olds (by rw[hlen,di]) (λj v hj=>?_);rw[hU];have:w.drew.cell? ⟨b,0+j,none⟩=w.cell? ⟨b,j,none⟩:=by simp
    rw[this,cell_of rp];have jM:j<olds.length:=by
     rcases cE j olds.length with h|h
     ·exact h
     ·simp[h]at hj
    simp[gI jM,hj]
  have bE:=run_append_grow_src (P:=P) w t tx ty T i z0 ht bS kV x n c olds hold xv m news iQ hg (by simp only[maxLen]at h63;omega) (by rw[gW];exact growslice_fits hg hb);have eo:=grownCap_ge w (n+m) c T;refine⟨_,_,bE,?_,some ⟨w.heap.size,0,none⟩,grownCap w (n+m) c T,[⟨w.heap.size,true,.cells ((olds++news)++(nz z0.cells (grownCap w (n+m) c T-(n+m))).toList).toArray T (0,0)⟩],rfl,⟨by rw[fi,hlen,ou,lU],eo,.inr ⟨_,_,rfl,rfl,?_⟩⟩,?_⟩
  ·exact((Ch.refl (bl.map ai.id) w).drew).trans (Ch.alloc (bl.map ai.id) w.drew _) (λx hx=>.inl hx)
  ·rw[fi,fi,hlen,ou,Array.length_toList,size_zeroCells,mL,<-lU,<-lU];congr 1;omega
  ·intro y hy;obtain rfl:=i_.1 hy;refine⟨?_,.inr (dE _)⟩;have:=mC w.drew (.cells ((olds++news).toArray++nz z0.cells (grownCap w (n+m) c T-(n+m))) T);refine Eq.trans this ?_;congr 2;apply eO;simp
end
def Bt (n:Nat) (l:List an):Bool:=l.all (λo=>match o.dst with|some d=>cj d n|none=>true)&&DX (l.map (·.dst))
theorem UY (vs:Nat->ab):∀(m:List an) (k:Nat) (a:Act),(∀o∈m,∀d,o.dst=some d->d<a.tmps.size)->(m.map (·.dst)).Nodup->
 (fM vs k m a).tmps.size=a.tmps.size/\(fM vs k m a).defers=a.defers/\(∀t,(∀o∈m,o.dst≠some t)->cw (fM vs k m a) t=cw a t)/\∀i o d,m[i]?=some o->o.dst=some d->cw (fM vs k m a) d=vs (k+i)
 |[],k,a,_,_=>⟨rfl,rfl,λ_ _=>rfl,λi o d h=>by simp at h⟩
 |x::rest,k,a,hd,hn=>by
  simp only[eQ,pF]at hn;obtain⟨h1,h2,h3,h4⟩:=UY vs rest (k+1) (a.put x.dst (vs k)) (λo ho d e=>by
   rw[size_put];exact hd o (by simp[ho]) d e) hn.2
  refine⟨by simp only[fM];rw[h1,size_put],by simp only[fM];rw[h2,yP],?_,?_⟩
  ·intro t ht;simp only[fM];rw[h3 t (λo ho=>ht o (by simp[ho]))];cases hx:x.dst with
   |none=>rfl
   |some dx=>
    rw[wJ _ _ _ _ (hd x (by simp) dx hx),if_neg];intro e;subst e;exact ht x (by simp) hx
  ·intro i o d hi ho;cases i with
   |zero=>
    obtain rfl:x=o:=by simpa using hi
    simp only[fM];rw[h3 d (λo' jJ e=>hn.1 (by rw[ho,<-e];exact List.mem_map_of_mem (f:=λx=>x.dst) jJ)),ho,wJ _ _ _ _ (hd x (by simp) d ho),if_pos rfl];rfl
   |succ i=>
    simp only[fM];rw[h4 i o d (by simpa using hi) ho];congr 1;omega
def preB (pre:List (List Nat)) (i:Nat):Bool:=pre.any λp=>match p.getLast? with|some j=>ax j i|none=>false
def D5 (l:List an) (k0:Nat) (pre:List (List Nat)):Bool:=pre.all λp=>Bm l p&&(match p.head? with|some k=>ax k k0|none=>false)&&cj 1 p.length
def pW (P:aC) (k0:Nat) (pre:List (List Nat)) (es:List Nat) (H:Nat->ab->ae->Prop) (lf l:List an) (y0:Nat->ab) (w:ae) (i:Nat) (o:an):Prop:=
 ∀(y:Nat->ab) (w':ae),(i=k0\/preB pre i=true->Ch [] w w')->Ch es w w'->(∀t,uF l i t=true->y t=y0 t)->
  (∀j d,j5 o j=true->(l[j]?).bind (·.dst)=some d->H j (y d) w')->
  (mJ lf o y=true->Yields P o (uE y) w' λv fj=>(i=k0->Ch es w' fj)/\(i≠k0->Ch [] w' fj)/\H i v fj)/\(mJ lf o y=false->H i undef w')
def ow (P:aC) (k0:Nat) (pre:List (List Nat)) (es:List Nat) (H:Nat->ab->ae->Prop) (lf l:List an) (y0:Nat->ab) (w:ae):Nat->List an->Prop
 |_,[]=>True
 |i,o::rest=>pW P k0 pre es H lf l y0 w i o/\ow P k0 pre es H lf l y0 w (i+1) rest
theorem ow.get {P:aC} {k0:Nat} {pre:List (List Nat)} {es:List Nat} {H:Nat->ab->ae->Prop} {lf l:List an} {y0:Nat->ab} {w:ae}:∀{k:Nat} {m:List an},ow P k0 pre es H lf l y0 w k m->∀(i:Nat) o,m[i]?=some o->pW P k0 pre es H lf l y0 w (k+i) o
 |_,[],_,i,o,h=>by simp at h
 |k,x::rest,⟨h1,h2⟩,0,o,h=>by obtain rfl:x=o:=by simpa using h
                              exact h1
 |k,x::rest,⟨h1,h2⟩,i+1,o,h=>by
  have:=ow.get h2 i o (by simpa using h)
  rwa [show k+1+i=k+(i+1) by omega]at this
structure MT (k0:Nat) (es:List Nat) (H:Nat->ab->ae->Prop) (l:List an) (n2:Nat) (a0:Act) (w0:ae) (vs:Nat->ab) (listed:Array Bool) (a:Act) (w:ae):Prop where
 ls:listed.size=l.length+n2
 off:∀i,l.length<=i->i<l.length+n2->listed[i]?=some false
 size:a.tmps.size=a0.tmps.size
 defers:a.defers=a0.defers
 ch:if listed[k0]?=some true then Ch es w0 w else Ch [] w0 w
 done:∀(i:Nat) (o:an),l[i]?=some o->listed[i]?=some true->(∀d,o.dst=some d->cw a d=vs i)/\H i (vs i) w
 rest:∀(t:Nat),(∀(i:Nat) (o:an),l[i]?=some o->o.dst=some t->listed[i]?=some false)->cw a t=cw a0 t
 back:∀(i:Nat) (o:an),l[i]?=some o->listed[i]?=some true->∀j,j5 o j=true->listed[j]?=some true
section
variable{P:aC} {l:List an} {k0:Nat} {pre:List (List Nat)} {es:List Nat} {H:Nat->ab->ae->Prop} {a0:Act} {w0:ae} {Q:dN->Act->ae->Prop}
theorem acR (fw:∀i v w w',Ch [] w w'->H i v w->H i v w') (acS:D5 l k0 pre=true) (MU:∀i v w w',i≠k0->w0.heap.size<=w.heap.size->Ch es w w'->H i v w->H i v w') (l2:List an) (paths:List (List Nat)) (ht:pP (l++l2) l.length paths=true) (jK:Bt a0.tmps.size l=true) (fN:nB 0 (l++l2)=true) (hs:ow P k0 pre es H (l++l2) l (cw a0) w0 0 l)
 (hq:∀(vs:Nat->ab) w',Ch es w0 w'->(∀i o,l[i]?=some o->H i (vs i) w')->wpList P (l++l2).toArray Q l2 (fM vs 0 l a0) w'):
 ∀(fuel:Nat) (vs:Nat->ab) (listed:Array Bool) (a:Act) (w:ae),MT k0 es H l l2.length a0 w0 vs listed a w->listed.toList.count false=fuel+l2.length->wpAny P .any (l++l2).toArray Q (fuel+l2.length) listed a w:=by
 have inl:∀{i:Nat} {o:an},(l++l2)[i]?=some o->i<l.length->l[i]?=some o:=λh hi=>by rwa [gI hi]at h
 have inr:∀{i:Nat} {o:an},l[i]?=some o->(l++l2)[i]?=some o:=λ{i o} h=>by rwa [gI (by rcases cE i l.length with h'|h';exact h';simp[h']at h)]
 simp only[Bt,a_,fK]at jK;have hd:∀o∈l,∀d,o.dst=some d->d<a0.tmps.size:=by
  intro o ho d hx;have:=jK.1 o ho;simpa[hx,gV]using this
 have hn:=ML jK.2;have uniq:∀(i j:Nat) o p d,l[i]?=some o->l[j]?=some p->o.dst=some d->p.dst=some d->i=j:=by
  intro i j o p d hi hj ho hp;have gw:i<(l.map (·.dst)).length:=by simp;rcases cE i l.length with h|h;exact h;simp[h]at hi
  refine(List.getElem?_inj gw hn).1 ?_;simp[hi,hj,ho,hp]
 have fin:∀vs listed a w,MT k0 es H l l2.length a0 w0 vs listed a w->(∀i,i<l.length->listed[i]?=some true)->wpAny P .any (l++l2).toArray Q l2.length listed a w:=by
  intro vs listed a w I dA;obtain⟨h1,h2,h3,h4⟩:=UY vs l 0 a0 hd hn;have:a=fM vs 0 l a0:=by
   refine MK (by rw[I.size,h1]) (by rw[I.defers,h2]) ?_;intro t;by_cases ht:∃(i:Nat) (o:an),l[i]?=some o/\o.dst=some t
   ·obtain⟨i,o,hi,ho⟩:=ht;rw[h4 i o t hi ho,eh];exact(I.done i o hi (dA i (by rcases cE i l.length with h|h;exact h;simp[h]at hi))).1 t ho
   ·rw[h3 t (λo ho e=>ht (by obtain⟨i,hi⟩:=yC ho;exact⟨i,o,hi,e⟩))];exact I.rest t (λi o hi ho=>absurd ⟨i,o,hi,ho⟩ ht)
  rw[this];refine UN l2 fN paths ht l2 0 rfl listed _ w I.ls (λi hi=>dA i (by omega)) (λi h1 h2=>I.off i (by omega) h2) ?_;exact hq vs w (by have:=I.ch;split at this;exact this;exact this.mono (by simp)) λi o hi=>(I.done i o hi (dA i (by rcases cE i l.length with h|h;exact h;simp[h]at hi))).2
 have tl:∀vs listed a w,MT k0 es H l l2.length a0 w0 vs listed a w->∀i,i∈pG .any (l++l2).toArray listed->l.length<=i->∀j,j<l.length->listed[j]?=some true:=by
  intro vs listed a w I i hi eo j hj;obtain⟨oi,oh,hf,fO⟩:=(kS _ listed i).1 hi;have gw:i<(l++l2).length:=by rcases cE i (l++l2).length with h|h;exact h;simp[ig h]at oh
  obtain⟨p,q1,q2,q3,q4⟩:=MO ht i gw eo j (by omega);refine DZ (l:=l++l2) ?_ p i j q1 q2 q3 q4 ?_
  ·intro x o hx pQ k hk;rcases cE x l.length with h|h
   ·exact I.back x o (inl hx h) pQ k hk
   ·have uH:x<(l++l2).length:=by rcases cE x (l++l2).length with h'|h';exact h';simp[ig h']at hx
    have:=I.off x h (by simpa using uH);rw[pQ]at this;simp at this
  ·intro o ho k hk;obtain rfl:oi=o:=by rw[oh]at ho;simpa using ho
   obtain⟨e,he,rfl,hbd⟩:=D0.1 hk;have h3:=fO e he hbd;have h4:=sO fN i oi oh e he hbd;rcases kR I.ls (show e.on<l.length+l2.length by simp at gw;omega)with hx|hx
   ·exact hx
   ·simp[iY,hx]at h3
 intro fuel;induction fuel with
 |zero=>
  intro vs listed a w I hc;have dA:∀i,i<l.length->listed[i]?=some true:=by
   intro i hi;rcases kR I.ls (show i<l.length+l2.length by omega)with hb|hb
   ·exact hb
   ·exfalso;have h4:=MM listed.toList l.length l2.length (by simpa using I.ls) (λj h1 h2=>by simpa using I.off j h1 h2) i hi (by simpa using hb);omega
  rw[eh];exact fin vs listed a w I dA
 |succ fuel ih=>
  intro vs listed a w I hc;by_cases yQ:∀i,i<l.length->listed[i]?=some true
  ·exfalso;have:=Ia listed.toList l.length l2.length (by simpa using I.ls) (λj h1=>by simpa using yQ j h1);omega
  rw[show fuel+1+l2.length=(fuel+l2.length)+1 by omega];refine⟨λhr=>?_,?_⟩
  ·
   exfalso;refine yQ ?_;intro i;induction i using Nat.strongRecOn with
   |_ i MP=>
    intro hi;rcases kR I.ls (show i<l.length+l2.length by omega)with hb|hb
    ·exact hb
    ·exfalso;have:i∈pG .any (l++l2).toArray listed:=(kS _ listed i).2 ⟨l[i],inr (by simp),by simp[iY,hb],λe he MQ=>by
      have dh:=sO fN i l[i] (inr (by simp)) e he MQ;have:=MP e.on (by omega) (by omega);simp[iY,this]⟩
     rw[hr]at this;simp at this
  ·intro i hi;have gw:i<l.length:=by
    rcases cE i l.length with h|h
    ·exact h
    ·exact absurd (tl vs listed a w I i hi h) yQ
   obtain⟨o,lz,h2,h3⟩:=(kS _ listed i).1 hi;have ho:=inl lz gw;have q_:listed[i]?=some false:=by
    rcases kR I.ls (show i<l.length+l2.length by omega)with hb|hb
    ·simp[iY,hb]at h2
    ·exact hb
   have MR:=hd o (nx ho);have fO:∀j,j5 o j=true->listed[j]?=some true:=by
    intro j hj;unfold j5 at hj;rw[<-Array.any_toList,yA]at hj;obtain⟨e,he,hj⟩:=hj;simp only[a_,beq_iff_eq]at hj;obtain⟨rfl,hb⟩:=hj;have he:=Array.mem_toList_iff.1 he;have h4:=h3 e he hb;have dh:=sO fN i o lz e he hb;rcases kR I.ls (show e.on<l.length+l2.length by omega)with hb|hb
    ·exact hb
    ·simp[iY,hb]at h4
   have MV:i=k0\/preB pre i=true->Ch [] w0 w:=λe=>by
    have hk:¬listed[k0]?=some true:=by
     rcases e with e|e
     ·rw[<-e,q_];simp
     ·intro hl;unfold preB at e;obtain⟨p,hp,he⟩:=yA.1 e;have g1:=fK.1 acS p hp;simp only[a_]at g1;obtain⟨⟨g2,g3⟩,g4⟩:=g1;cases hh:p.head? with
      |none=>rw[hh]at g3;simp at g3
      |some k=>
       rw[hh]at g3;have ek:=b9 g3;cases rq:p.getLast? with
       |none=>rw[rq]at he;simp at he
       |some j=>
        rw[rq]at he;have ej:=b9 he;have:=DZ I.back p k j g2 hh rq (by unfold cj at g4;exact dz g4) (λo ho j hj=>I.back k o ho (by rw[ek];exact hl) j hj);rw[ej,q_]at this;simp at this
    have:=I.ch;rw[if_neg hk]at this;exact this
   have step:=(ow.get hs i o ho) (cw a) w (by rw[eh];exact MV) (by have:=I.ch;split at this;exact this;exact this.mono (by simp)) (λt ht=>by
    refine I.rest t λk ok hk hok=>?_;rw[uF,fK]at ht;have:=ht ok (nx hk);simp only[hok,bne_self_eq_false,Bool.false_or]at this;have qX:k<l.length:=by rcases cE k l.length with h|h;exact h;simp[h]at hk
    rcases kR I.ls (show k<l.length+l2.length by omega)with hb|hb
    ·have:=I.back k ok hk hb i (by simpa using this);rw[q_]at this;simp at this
    ·exact hb)
    (λj dj hj mK=>by
     cases dk:l[j]?with
     |none=>simp[dk]at mK
     |some oj=>
      have:=I.done j oj dk (fO j hj);rw[this.1 dj (by simpa[dk]using mK)];exact this.2)
   have next:∀v w',(i=k0->Ch es w w')->(i≠k0->Ch [] w w')->H i v w'->wpAny P .any (l++l2).toArray Q (fuel+l2.length) (listed.setIfInBounds i true) (a.put o.dst v) w':=by
    intro v w' sP Bu hv;refine ih (λj=>if j=i then v else vs j) _ _ _ ?_ ?_
    ·have gl:∀j b,(listed.setIfInBounds i true)[j]?=some b->(j=i/\b=true)\/(j≠i/\listed[j]?=some b):=by
      intro j b hj;rw[pD]at hj;by_cases h:i=j
      ·subst h;have:i<l.length+l2.length:=by omega
       simp[I.ls,this]at hj;exact Or.inl ⟨rfl,hj⟩
      ·rw[if_neg h]at hj;exact Or.inr ⟨λe=>h e.symm,hj⟩
     have yp:∀t,(o.dst≠some t->cw (a.put o.dst v) t=cw a t)/\(o.dst=some t->cw (a.put o.dst v) t=v):=λt=>by
      cases Bn:o.dst with
      |none=>exact⟨λ_=>rfl,λh=>by cases h⟩
      |some d=>
       have:=wJ a d v t (by rw[I.size];exact MR d Bn);refine⟨λh=>?_,λh=>?_⟩
       ·rw[this,if_neg (λe=>h (by rw[e]))]
       ·rw[this,if_pos (by simpa using h.symm)]
     refine⟨by simp[I.ls],λj h1 h2=>by
      rw[pD,if_neg (by omega)];exact I.off j h1 h2,by rw[size_put,I.size],by rw[yP,I.defers],?_,?_,?_,?_⟩
     ·by_cases fP:i=k0
      ·have hk:(listed.setIfInBounds i true)[k0]?=some true:=by
        rw[<-fP,pD,if_pos rfl,if_pos (by rw[I.ls];omega)]
       rw[if_pos hk];exact((MV (.inl fP)).mono (by simp)).trans (sP fP) (λx hx=>.inl hx)
      ·have hk:(listed.setIfInBounds i true)[k0]?=listed[k0]?:=by
        rw[pD,if_neg fP]
       rw[hk];have h1:=I.ch;split at h1
       ·rename_i h2;rw[if_pos h2];exact h1.trans (Bu fP) (by simp)
       ·rename_i h2;rw[if_neg h2];exact h1.trans (Bu fP) (by simp)
     ·intro j oj hj dk;rcases gl j true dk with⟨rfl,_⟩|⟨bZ,dk⟩
      ·obtain rfl:o=oj:=by rw[ho]at hj;simpa using hj
       simp only[if_true];exact⟨λdj mK=>(yp dj).2 mK,hv⟩
      ·have:=I.done j oj hj dk;simp only[if_neg bZ];refine⟨λdj mK=>?_,?_⟩
       ·rw[(yp dj).1 (λe=>bZ (uniq j i oj o dj hj ho mK e))];exact this.1 dj mK
       ·by_cases fP:i=k0
        ·exact MU _ _ _ _ (λe=>bZ (by rw[fP];exact e)) (by have:=I.ch;split at this;exact this.size;exact this.size) (sP fP) this.2
        ·exact fw _ _ _ _ (Bu fP) this.2
     ·intro t ht;have bZ:o.dst≠some t:=λe=>by
       have:=ht i o ho e;rcases gl i false this with⟨_,h⟩|⟨h,_⟩
       ·cases h
       ·exact h rfl
      rw[(yp t).1 bZ];refine I.rest t λk ok hk hok=>?_;have:=ht k ok hk hok;rcases gl k false this with⟨_,h⟩|⟨_,h⟩
      ·cases h
      ·exact h
     ·intro k ok hk kU j hj;have hb:listed[j]?=some true:=by
       rcases gl k true kU with⟨rfl,_⟩|⟨bZ,kU⟩
       ·obtain rfl:o=ok:=by rw[ho]at hk;simpa using hk
        exact fO j hj
       ·exact I.back k ok hk kU j hj
      rw[pD];split
      ·rename_i h;subst h;rw[q_]at hb;simp at hb
      ·exact hb
    ·have h2:listed[i]?=some false:=q_;have acK:=count_set listed.toList i (by simpa using h2);simp only[HU];omega
   unfold wpOp;simp only[iX,lz];rw[UL];cases hw:mJ (l++l2) o (cw a)with
   |true=>
    rw[if_pos rfl];refine Or.inl ?_;have hy:=step.1 hw;rw[UK]at hy;exact Yields.wp hy λv w' ⟨sP,Bu,hv⟩=>next v w' (by rw[eh]at sP;exact sP) (by rw[eh]at Bu;exact Bu) (by rw[eh]at hv;exact hv)
   |false=>
    rw[if_neg (by simp)];exact next undef w (λ_=>Ch.refl _ _) (λ_=>Ch.refl _ _) (by have:=step.2 hw;rw[eh]at this;exact this)
theorem acT {id:Nat} (l l2:List an) (fw:∀i v w w',Ch [] w w'->H i v w->H i v w') (fO:D5 l k0 pre=true) (MU:∀i v w w',i≠k0->w0.heap.size<=w.heap.size->Ch es w w'->H i v w->H i v w') (paths:List (List Nat)) (hm:P.follows .mixedOrders=true) (ht:pP (l++l2) l.length paths=true) (jK:Bt a0.tmps.size l=true) (fN:nB 0 (l++l2)=true) (hs:ow P k0 pre es H (l++l2) l (cw a0) w0 0 l)
 (hq:∀(vs:Nat->ab) w',Ch es w0 w'->(∀i o,l[i]?=some o->H i (vs i) w')->wpList P (l++l2).toArray Q l2 (fM vs 0 l a0) w'):(Code.region id (l++l2).toArray true).wp P Q a0 w0:=by
 refine wp_region_any hm ?_;have h:=acR fw fO MU l2 paths ht jK fN hs hq l.length (λ_=>undef) (A5 (l++l2).toArray.size false) a0 {w0 with drawn:=w0.drawn+1} ?_ ?_
 ·rw[show(l++l2).toArray.size=l.length+l2.length by simp];rw[show(l++l2).toArray.size=l.length+l2.length by simp]at h;exact h
 ·refine⟨by simp,λi h1 h2=>by simp[yD];omega,rfl,rfl,?_,?_,λ_ _=>rfl,?_⟩
  ·split
   ·exact(Ch.refl _ _).drew
   ·exact(Ch.refl _ _).drew
  ·intro i o _ h;simp[yD]at h
  ·intro i o _ h;simp[yD]at h
 ·simp[Uo]
end
section
variable{ms:List Nat} {w0 w w':ae} {bs:List ai}
theorem UZ {α:Type}:∀{l:List α} {i:Nat} {x:α},l[i]?=some x->l.Perm (x::l.eraseIdx i)
 |[],i,x,h=>by simp at h
 |y::l,0,x,h=>by obtain rfl:y=x:=by simpa using h
                 exact List.Perm.refl _
 |y::l,i+1,x,h=>by
  have:=UZ (l:=l) (i:=i) (x:=x) (by simpa using h);exact(ui y this).trans (Mw _ _ _)
end
section
variable{P:aC} {w w0:ae} {ms:List Nat} {bs:List ai}
theorem iR {ρ:aZ->ab} {o:an} {w':ae} {s x:aZ} {t tx:aD} {sv xv v:ab} (ho:o.op=.call ⟨.builtin .append,#[s,x],#[t,tx]⟩) (hs:ρ s=sv) (hx:ρ x=xv)
 (bE:(mD #[t,tx] o.type #[sv,xv]).run P w=.ok v w'):(execOp ρ o).run P w=.ok (.value v) w':=by
 simp[execOp,ho,resolve,invoke,builtin,hs,hx,bE,jb]
theorem acU (S:St ms w0 bs w) (i m z:Nat) (news:List ab) {b off c:Nat} {tx e':aD} (hk:P.underlying tx=some (.slice e')) (hb:wF bs i off (m*z)=some (b,news.toArray)) (h1:news.all (·.oneCell')=true) (hl:news.length=m*z):
 Src P z tx (.slice (some ⟨b,off,none⟩) m c) m news w:=by
 obtain⟨wr,cs,t,fr,Bv,hc,hv⟩:=H5 hb;refine qR w hk ⟨b,off,none⟩ m c news hl (λj u hj=>?_) (λu hu=>fK.1 h1 u hu);rw[hU,cell_of (S.at_ i _ Bv)];have h2:(cs.extract off (off+m*z))[j]?=some u:=by rw[hc];simpa using hj
 rw[Array.getElem?_extract]at h2;split at h2
 ·exact h2
 ·exact absurd h2 (by simp)
section
variable{ops:Array an} {rest:List an} {o:an} {a:Act} {Q:dN->Act->ae->Prop} {z T n c m bytes:Nat} {olds news tail:List ab} {s x:aZ} {t tx:aD} {xv:ab}
theorem acV {A bl R:List ai} {xs:Option aI} (S:St ms w0 (A++(bl++R)) w) (hr:eI z T olds xs n c bl) (hs:Src P z tx xv m news w) (bytes:Nat) (ho:o.op=.call ⟨.builtin .append,#[s,x],#[t,tx]⟩:=by rfl) (hbd:(n+m)*bytes<=140737488355328) (h63:n+m<=maxLen)
 (k:∀x' c' bl' w',eI z T (olds++news) x' (n+m) c' bl'->St ms w0 (A++(bl'++R)) w'->WL P ops Q rest (a.put o.dst (.slice x' (n+m) c')) w')
 (hw:gf o (yielded ops a.tmps)=true:=by kernel_rfl) (yV:a.eval s=.slice xs n c:=by kernel_rfl) (yW:a.eval x=xv:=by kernel_rfl)
 (ht:P.underlying t=some (.slice T):=by kernel_rfl) (bS:(P.info? T).map (λi=>(i.zero.map (·.cells.size),i.size,i.bytes))=some (some z,z,bytes):=by kernel_rfl):WL P ops Q (o::rest) a w:=
 WL.want hw λK hK=>by
  obtain⟨v,w',bE,hc,x',c',bl',rfl,fl,aK⟩:=Bp (P:=P) (ty:=o.type) hr (λy hy=>S.at' (by simp[hy])) bytes hs ht bS hbd h63;have S2:=S.sQ hr.wr hc (λy hy=>(aK y hy).1) (λy hy=>(aK y hy).2) fl.pw;unfold nv;rw[iR ho yV yW bE];exact hK _ _ (k x' c' bl' w' fl S2)
end
end
def s0 (v:ab):Sp:=⟨0,λ_=>v,λ_=>[]⟩
def uK (l:List an) (o:an) (t:Nat):Option Nat:=o.after.toList.findSome? λe=>bif pE .any e&&(match(l[e.on]?).bind (·.dst)with|some d=>ax d t|none=>false)then some e.on else none
def valOf (l:List an) (sp:Nat->Sp) (a0:Act) (o:an) (t:Nat):ab:=match uK l o t with|some j=>(sp j).f []|none=>cw a0 t
def gK (l:List an) (sp:Nat->Sp) (a0:Act) (o:an):List (Nat×ab):=o.op.operands.toList.filterMap λx=>match x with|.tmp t=>some (t,valOf l sp a0 o t)|_=>none
def yX (l:List an) (sp:Nat->Sp) (i:Nat) (o:an):Bool:=o.guard.isNone&&ax (sp i).k 0&&(sp i).bl [] matches[]&&wM (gK l sp ⟨#[],[]⟩ o) o&&
 o.op.operands.toList.all λx=>match x with|.tmp t=>(match uK l o t with|some j=>ax (sp j).k 0|none=>uF l i t)|_=>true
theorem MW {y:Nat->ab}:∀{env:List (Nat×ab)},(∀p∈env,y p.1=p.2)->wL y env
 |[],_=>trivial
 |p::env,h=>⟨h p (by simp),MW λq hq=>h q (by simp[hq])⟩
theorem Ib {l:List an} {o:an} {t j:Nat} (h:uK l o t=some j):j5 o j=true/\(l[j]?).bind (·.dst)=some t:=by
 obtain⟨e,he,h⟩:=List.exists_of_findSome?_eq_some h;cases hd:(l[e.on]?).bind (·.dst)with
 |none=>simp[hd]at h
 |some d=>
  simp only[hd]at h;cases hb:pE .any e with
  |false=>simp[hb]at h
  |true=>
   cases hc:ax d t with
   |false=>simp[hb,hc]at h
   |true=>
    simp only[hb,hc,Bool.and_self,cond_true,aS]at h;subst h;exact⟨D0.2 ⟨e,Array.mem_toList_iff.1 he,rfl,hb⟩,by rw[hd,b9 hc]⟩
theorem U0 {l:List an} {sp sp':Nat->Sp} {a0 a1:Act} {o:an}:wM (gK l sp a0 o) o=true->wM (gK l sp' a1 o) o=true:=by
 intro h;unfold wM at*;simp only[a_]at*;refine⟨?_,h.2⟩;rw[HR]at*;intro x hx;cases x with
 |tmp t=>
  simp only;have hm:∀(env:List aZ) (g:Nat->ab),Operand.tmp t∈env->((env.filterMap λx=>match x with|.tmp t=>some (t,g t)|_=>none).lookup t).isSome=true:=by
   intro env g;induction env with
   |nil=>intro h;simp at h
   |cons y env ih=>
    intro hm;rcases bY.1 hm with h|h
    ·subst h;simp
    ·cases y with
     |tmp s=>
      simp only[List.filterMap_cons,List.lookup_cons];split
      ·rfl
      ·exact ih h
     |_=>simp only[List.filterMap_cons];exact ih h
  exact hm _ _ (Array.mem_toList_iff.2 hx)
 |_=>rfl
section
variable{P:aC} {lf l:List an} {sp:Nat->Sp} {a0:Act} {w:ae} {i:Nat} {o:an}
theorem MX (hs:yX l sp i o=true) (h:∀w',Ch [] w w'->Yields P o (jt (gK l sp a0 o)) w' λv fj=>Ch [] w' fj/\v=(sp i).f []):uG P lf l sp (cw a0) w i o:=by
 simp only[yX,a_]at hs;obtain⟨⟨⟨⟨hg,hk⟩,hb⟩,lW⟩,dA⟩:=hs;have D6:o.guard=none:=by cases hx:o.guard<;>simp_all
 have yY:(sp i).k=0:=b9 hk;have uL:(sp i).bl []=[]:=by
  revert hb;cases(sp i).bl []<;>simp
 intro y w' hc ru fO;refine⟨λ_=>?_,λhw=>by simp[mJ,D6]at hw⟩;refine lA (gK l sp a0 o) (MW λp hp=>?_) ?_ (U0 lW)
 ·simp only[gK,List.mem_filterMap]at hp;obtain⟨x,hx,hp⟩:=hp;cases x with
  |tmp t=>
   simp only[aS]at hp;subst hp;have h1:=fK.1 dA _ hx;simp only at h1;unfold valOf;cases eY:uK l o t with
   |some j=>
    rw[eY]at h1;obtain⟨he,hd⟩:=Ib eY;obtain⟨ids,h2,h3,_⟩:=fO j t he hd;have h4:(sp j).k=0:=b9 h1;obtain rfl:ids=[]:=mE (by rw[h2,h4]);exact h3
   |none=>
    rw[eY]at h1;exact ru t h1
  |_=>simp at hp
 ·have:=h w' hc;unfold Yields at this⊢;split at this
  ·exact⟨this.1,[],by simp[yY],this.2,by rw[uL];simp⟩
  ·exact⟨this.1,[],by simp[yY],this.2,by rw[uL];simp⟩
  ·exact this.mono λv fj h=>⟨h.1,[],by simp[yY],h.2,by rw[uL];simp⟩
  ·exact this.elim
theorem gL (hs:yX l sp i o=true:=by kernel_rfl) (h:(λw=>(execOp (jt (gK l sp a0 o)) o).run P w)=(λw=>.ok (.value ((sp i).f [])) w):=by kernel_rfl):uG P lf l sp (cw a0) w i o:=
 MX hs λw' _=>by
  have h2:(execOp (jt (gK l sp a0 o)) o).run P w'=.ok (.value ((sp i).f [])) w':=congrFun h w';unfold Yields;rw[h2];exact⟨Ch.refl _ _,rfl⟩
theorem qE_ (v0:ab) (he:v0=(sp i).f []) (hs:yX l sp i o=true:=by kernel_rfl) (h:(λw=>(execOp (jt (gK l sp a0 o)) o).run P w)=(λw=>.ok (.value v0) w):=by kernel_rfl):uG P lf l sp (cw a0) w i o:=by
 subst he;exact gL hs h
theorem qS_ (kd:eE) (e:Int) (he:kd.wrap e=e) (hv:(sp i).f []=.int kd e:=by kernel_rfl) (hs:yX l sp i o=true:=by kernel_rfl) (h:(λw=>(execOp (jt (gK l sp a0 o)) o).run P w)=(λw=>.ok (.value (.int kd (kd.wrap e))) w):=by kernel_rfl):uG P lf l sp (cw a0) w i o:=
 qE_ (.int kd (kd.wrap e)) (by rw[he,hv]) hs h
variable{ms:List Nat} {w0:ae} {bs:List ai}
theorem Ic (S:St ms w0 bs w) (j b off:Nat) {x:aZ} {ty:aD} (ho:o.op=.load ty x:=by rfl) (hs:yX l sp i o=true:=by kernel_rfl) (hx:jt (gK l sp a0 o) x=.pointer (some ⟨b,off,none⟩):=by kernel_rfl)
 (ha:(P.underlying ty).map iO=some false:=by kernel_rfl) (hb:lk bs j off=some (b,(sp i).f []):=by kernel_rfl):uG P lf l sp (cw a0) w i o:=
 MX hs λw' hc=>Y.oe (S.quiet hc) j _ b off ⟨Ch.refl _ _,rfl⟩ ho hx ha hb
theorem D7 (S:St ms w0 bs w) (j b off n:Nat) (vs:Array ab) {x:aZ} {ty:aD} (ho:o.op=.load ty x:=by rfl) (hv:(sp i).f []=.agg vs:=by kernel_rfl) (hs:yX l sp i o=true:=by kernel_rfl) (hx:jt (gK l sp a0 o) x=.pointer (some ⟨b,off,none⟩):=by kernel_rfl)
 (ha:(P.underlying ty).map iO=some true:=by kernel_rfl) (hn:(P.info? ty).map (·.size)=some n:=by kernel_rfl) (hb:wF bs j off n=some (b,vs):=by kernel_rfl):uG P lf l sp (cw a0) w i o:=
 MX hs λw' hc=>Y.jI (S.quiet hc) j n vs b off ⟨Ch.refl _ _,hv.symm⟩ ho hx ha hn hb
end
theorem U1 {vs:Nat->ab}:∀{dB:List ab} {k:Nat},(∀i v,dB[i]?=some v->vs (k+i)=v)->yR vs k dB
 |[],_,_=>trivial
 |v::dB,k,h=>⟨by have:=h 0 v rfl;simpa using this,U1 λi u hu=>by
  have:=h (i+1) u (by simpa using hu)
  rwa [show k+(i+1)=k+1+i by omega]at this⟩
theorem acW {P:aC} {a0:Act} {w0:ae} {Q:dN->Act->ae->Prop} {id:Nat} {L:List an} (m:Nat) (dB:List ab) (paths:List (List Nat))
 (hs:pO P L (L.take m) (pS (dB.map s0)) (cw a0) w0 0 (L.take m))
 (hq:∀w',Ch [] w0 w'->WL P L.toArray Q (L.drop m) (rf dB (L.take m) a0) w')
 (MY:dB.length=m:=by kernel_rfl)
 (hm:P.follows .mixedOrders=true:=by kernel_rfl) (hl:bA m L.length=true:=by kernel_rfl) (ht:pP L m paths=true:=by kernel_rfl) (jK:DY a0.tmps.size (L.take m)=true:=by kernel_rfl) (fN:nB 0 L=true:=by kernel_rfl):(Code.region id L.toArray true).wp P Q a0 w0:=by
 refine yT m (dB.map s0) paths hs (λvs w' hc dA=>⟨dB,MY,U1 λi v hv=>?_,hq w' hc⟩) hm hl ht jK fN;have hi:i<m:=by
  rcases cE i dB.length with h|h
  ·omega
  ·simp[h]at hv
 obtain⟨ids,h1,h2,_⟩:=dA i (by unfold cj;exact uj hi);have h3:pS (dB.map s0) i=s0 v:=by
  unfold pS;rw[n7,iI,hv];rfl
 rw[h3]at h1 h2;obtain rfl:ids=[]:=mE (by simpa[s0]using h1);rw[eh,h2];rfl
end Sx
namespace Sx
open Go Go.RowKit Go.BigFrame
section
variable{P:aC} {ops:Array an} {rest:List an} {o:an} {a:Act} {w:ae} {Q:dN->Act->ae->Prop}
end
section
variable{P:aC} {lf l:List an} {sp:Nat->Sp} {y0:Nat->ab} {w:ae} {i:Nat} {o:an}
end
end Sx
namespace Sx
open Go Go.RowKit Go.BigFrame
def HQ (k0:Nat) (pv:ab->ae->Prop) (sp:Nat->Sp) (B:Nat) (i:Nat) (v:ab) (w:ae):Prop:=match ax i k0 with|true=>pv v w|false=>(sp i).holds B v w
def wO (k0:Nat) (l:List an) (sp:Nat->Sp) (i:Nat) (o:an):Bool:=o.guard.isNone&&wM (gK l sp ⟨#[],[]⟩ o) o&&
 o.op.operands.toList.all λx=>match x with|.tmp t=>(match uK l o t with|some j=>!(ax j k0)&&ax (sp j).k 0|none=>uF l i t)|_=>true
section
variable{P:aC} {lf l:List an} {sp:Nat->Sp} {a0:Act} {w:ae} {i k0:Nat} {pre:List (List Nat)} {o:an} {es:List Nat} {pv:ab->ae->Prop}
theorem MZ {H:Nat->ab->ae->Prop} (hs:wO k0 l sp i o=true) {B:Nat} {y:Nat->ab} {w':ae} (ru:∀t,uF l i t=true->y t=cw a0 t) (fO:∀j d,j5 o j=true->(l[j]?).bind (·.dst)=some d->HQ k0 pv sp B j (y d) w'):
 wL y (gK l sp a0 o)/\wM (gK l sp a0 o) o=true/\o.guard=none:=by
 simp only[wO,a_]at hs;obtain⟨⟨hg,lW⟩,dA⟩:=hs;refine⟨MW λp hp=>?_,U0 lW,by cases hx:o.guard<;>simp_all⟩;simp only[gK,List.mem_filterMap]at hp;obtain⟨x,hx,hp⟩:=hp;cases x with
 |tmp t=>
  simp only[aS]at hp;subst hp;have h1:=fK.1 dA _ hx;simp only at h1;unfold valOf;cases eY:uK l o t with
  |some j=>
   rw[eY]at h1;obtain⟨he,hd⟩:=Ib eY;simp only[a_,lv]at h1;have h2:=fO j t he hd;unfold HQ at h2;rw[h1.1]at h2;obtain⟨ids,h3,h4,_⟩:=h2;have h5:(sp j).k=0:=b9 h1.2;obtain rfl:ids=[]:=mE (by rw[h3,h5]);exact h4
  |none=>
   rw[eY]at h1;exact ru t h1
 |_=>simp at hp
theorem Ie (bZ:ax i k0=false) (hk:(sp i).k=0) (hb:(sp i).bl []=[]) (hs:wO k0 l sp i o=true) (h:∀w',Ch es w w'->Yields P o (jt (gK l sp a0 o)) w' λv fj=>Ch [] w' fj/\v=(sp i).f []):
 pW P k0 pre es (HQ k0 pv sp w.heap.size) lf l (cw a0) w i o:=by
 intro y w' _ hc ru fO;obtain⟨D8,lW,hg⟩:=MZ (H:=λ_ _ _=>True) hs ru fO;have fP:i≠k0:=λe=>by rw[e]at bZ;simp at bZ
 have hH:∀v fj,v=(sp i).f []->HQ k0 pv sp w.heap.size i v fj:=λv fj e=>by
  unfold HQ;rw[bZ];exact⟨[],by simp[hk],e,by rw[hb];simp⟩
 refine⟨λ_=>?_,λhw=>by simp[mJ,hg]at hw⟩;refine lA _ D8 ?_ lW;have:=h w' hc;unfold Yields at this⊢;split at this
 ·exact⟨λe'=>absurd e' fP,λ_=>this.1,hH _ _ this.2⟩
 ·exact⟨λe'=>absurd e' fP,λ_=>this.1,hH _ _ this.2⟩
 ·exact this.mono λv fj h=>⟨λe'=>absurd e' fP,λ_=>h.1,hH _ _ h.2⟩
 ·exact this.elim
def Bw (k0:Nat) (l:List an) (sp:Nat->Sp) (i:Nat) (o:an):Bool:=!(ax i k0)&&ax (sp i).k 0&&(sp i).bl [] matches[]&&wO k0 l sp i o
theorem Ig (h:Bw k0 l sp i o=true):ax i k0=false/\(sp i).k=0/\(sp i).bl []=[]/\wO k0 l sp i o=true:=by
 simp only[Bw,a_,lv]at h;refine⟨h.1.1.1,b9 h.1.1.2,?_,h.2⟩;have:=h.1.2;revert this;cases(sp i).bl []<;>simp
theorem Bx (hs:Bw k0 l sp i o=true:=by kernel_rfl) (h:(λw=>(execOp (jt (gK l sp a0 o)) o).run P w)=(λw=>.ok (.value ((sp i).f [])) w):=by kernel_rfl):pW P k0 pre es (HQ k0 pv sp w.heap.size) lf l (cw a0) w i o:=by
 obtain⟨h1,h2,h3,h4⟩:=Ig hs;refine Ie h1 h2 h3 h4 λw' _=>?_;have h2:(execOp (jt (gK l sp a0 o)) o).run P w'=.ok (.value ((sp i).f [])) w':=congrFun h w';unfold Yields;rw[h2];exact⟨Ch.refl _ _,rfl⟩
theorem eC_ (f:eN) (args:Array ab) (hg:∀w',aQ P f args w' λv fj=>v=(sp i).f []/\Ch [] w' fj) (hs:Bw k0 l sp i o=true:=by kernel_rfl) (h:(λw=>(execOp (jt (gK l sp a0 o)) o).run P w)=(λw=>.ok (.enter f args) w):=by kernel_rfl):pW P k0 pre es (HQ k0 pv sp w.heap.size) lf l (cw a0) w i o:=by
 obtain⟨h1,h2,h3,h4⟩:=Ig hs;refine Ie h1 h2 h3 h4 λw' _=>?_;have h2:(execOp (jt (gK l sp a0 o)) o).run P w'=.ok (.enter f args) w':=congrFun h w';unfold Yields;rw[h2];exact(hg w').mono λv fj h=>⟨h.2,h.1⟩
variable{ms:List Nat} {w0:ae} {bs:List ai}
theorem U2 (S:∀w',Ch es w w'->St ms w0 bs w') (j b off:Nat) {x:aZ} {ty:aD} (ho:o.op=.load ty x:=by rfl) (hs:Bw k0 l sp i o=true:=by kernel_rfl) (hx:jt (gK l sp a0 o) x=.pointer (some ⟨b,off,none⟩):=by kernel_rfl)
 (ha:(P.underlying ty).map iO=some false:=by kernel_rfl) (hb:lk bs j off=some (b,(sp i).f []):=by kernel_rfl):pW P k0 pre es (HQ k0 pv sp w.heap.size) lf l (cw a0) w i o:=by
 obtain⟨h1,h2,h3,h4⟩:=Ig hs;exact Ie h1 h2 h3 h4 λw' hc=>Y.oe (S w' hc) j _ b off ⟨Ch.refl _ _,rfl⟩ ho hx ha hb
theorem D9 (S:∀w',Ch es w w'->St ms w0 bs w') (j b off n:Nat) (vs:Array ab) {x:aZ} {ty:aD} (ho:o.op=.load ty x:=by rfl) (hv:(sp i).f []=.agg vs:=by kernel_rfl) (hs:Bw k0 l sp i o=true:=by kernel_rfl) (hx:jt (gK l sp a0 o) x=.pointer (some ⟨b,off,none⟩):=by kernel_rfl)
 (ha:(P.underlying ty).map iO=some true:=by kernel_rfl) (hn:(P.info? ty).map (·.size)=some n:=by kernel_rfl) (hb:wF bs j off n=some (b,vs):=by kernel_rfl):pW P k0 pre es (HQ k0 pv sp w.heap.size) lf l (cw a0) w i o:=by
 obtain⟨h1,h2,h3,h4⟩:=Ig hs;exact Ie h1 h2 h3 h4 λw' hc=>Y.jI (S w' hc) j n vs b off ⟨Ch.refl _ _,hv.symm⟩ ho hx ha hn hb
theorem acX (he:ax i k0=true) (hs:wO k0 l sp i o=true) (h:∀w',Ch [] w w'->Yields P o (jt (gK l sp a0 o)) w' λv fj=>Ch es w' fj/\pv v fj):
 pW P k0 pre es (HQ k0 pv sp w.heap.size) lf l (cw a0) w i o:=by
 intro y w' Bz _ ru fO;obtain⟨D8,lW,hg⟩:=MZ (H:=λ_ _ _=>True) hs ru fO;have fP:i=k0:=b9 he;refine⟨λ_=>?_,λhw=>by simp[mJ,hg]at hw⟩;refine lA _ D8 ?_ lW;have:=h w' (Bz (.inl fP));have hH:∀v fj,pv v fj->HQ k0 pv sp w.heap.size i v fj:=λv fj e=>by unfold HQ;rw[he];exact e
 unfold Yields at this⊢;split at this
 ·exact⟨λ_=>this.1,λe=>absurd fP e,hH _ _ this.2⟩
 ·exact⟨λ_=>this.1,λe=>absurd fP e,hH _ _ this.2⟩
 ·exact this.mono λv fj e=>⟨λ_=>e.1,λe'=>absurd fP e',hH _ _ e.2⟩
 ·exact this.elim
def U3 (b:Nat) (bs:List ai) (j off:Nat) (vs:List ab) (_:ab) (w:ae):Prop:=∃x,(uz bs j off vs)[j]?=some x/\w.heap[b]?=some x.obj
theorem U4 (S:St ms w0 bs w) (j:Nat) (v:ab) (b off:Nat) {x y:aZ} {ty:aD} (ho:o.op=.store ty x y:=by rfl) (hs:wO k0 l sp i o=true:=by kernel_rfl) (he:ax i k0=true:=by kernel_rfl) (hx:jt (gK l sp a0 o) x=.pointer (some ⟨b,off,none⟩):=by kernel_rfl) (hy:jt (gK l sp a0 o) y=v:=by kernel_rfl)
 (hn:(P.info? ty).map (·.size)=some v.cells.toList.length:=by kernel_rfl) (h1:v.cells.toList.all (·.oneCell')=true:=by kernel_rfl) (hb:wG bs j off v.cells.toList.length=some b:=by kernel_rfl):pW P k0 pre [b] (HQ k0 (U3 b bs j off v.cells.toList) sp w.heap.size) lf l (cw a0) w i o:=by
 refine acX he hs λw' hc=>?_;obtain⟨cs,t,sR,hl⟩:=H6 hb;have aK:=(S.quiet hc).at_ j _ sR;unfold Yields execOp;simp only[ho,hx,hy,HM,iJ,bj,cW,cd,H4 (P:=P) aK rfl hn hl h1];refine⟨Ch.setRow w' b _,⟨b,true,.cells (splice cs off v.cells.toList) t (0,0)⟩,?_,setRow_heap w' b cs _ t (0,0) aK⟩;have hj:j<bs.length:=by
  rcases cE j bs.length with h|h
  ·exact h
  ·simp[h]at sR
 simp only[uz,sR];rw[Mt hj]
theorem St.U5 (S:St ms w0 bs w) (j off n:Nat) {b:Nat} (hb:wG bs j off n=some b):∀w',Ch [b] w w'->St ms w0 (bs.eraseIdx j) w':=by
 intro w' hc;obtain⟨cs,t,sR,_⟩:=H6 hb;have S1:St ms w0 ([]++([⟨b,true,.cells cs t (0,0)⟩]++bs.eraseIdx j)) w:=S.perm (UZ sR);exact S1.less (by simp) (by simpa using hc)
end
theorem M0 {P:aC} {k0:Nat} {pre:List (List Nat)} {es:List Nat} {H:Nat->ab->ae->Prop} {lf l:List an} {y0:Nat->ab} {w:ae} {i:Nat}:ow P k0 pre es H lf l y0 w i []:=trivial
theorem kW {P:aC} {k0:Nat} {pre:List (List Nat)} {es:List Nat} {H:Nat->ab->ae->Prop} {lf l:List an} {y0:Nat->ab} {w:ae} {i:Nat} {o:an} {rest:List an} (h:pW P k0 pre es H lf l y0 w i o) (k:ow P k0 pre es H lf l y0 w (i+1) rest):ow P k0 pre es H lf l y0 w i (o::rest):=⟨h,k⟩
theorem M1 {vs:Nat->ab}:∀{l:List an} {dB:List ab} {k:Nat} {a:Act},dB.length=l.length->(∀i o v,l[i]?=some o->dB[i]?=some v->o.dst=none\/vs (k+i)=v)->fM vs k l a=rf dB l a
 |[],[],_,_,_,_=>rfl
 |o::rest,v::dB,k,a,h,hv=>by
  simp only[fM,rf];have h0:=hv 0 o v rfl rfl;have e:a.put o.dst (vs k)=a.put o.dst v:=by
   rcases h0 with h0|h0
   ·rw[h0];rfl
   ·rw[nZ]at h0;rw[h0]
  rw[e];exact M1 (by simpa using h) λi o' v' h1 h2=>by
   have:=hv (i+1) o' v' (by simpa using h1) (by simpa using h2)
   rwa [show k+(i+1)=k+1+i by omega]at this
 |[],_::_,_,_,h,_=>by simp at h
 |_::_,[],_,_,h,_=>by simp at h
section
variable{P:aC} {a0:Act} {w w0:ae} {Q:dN->Act->ae->Prop} {id:Nat} {L:List an} {ms:List Nat} {bs:List ai}
theorem U6 (m k0:Nat) (pre:List (List Nat)) (es:List Nat) (pv:ab->ae->Prop) (dB:List ab) (paths:List (List Nat)) (sp:Nat->Sp)
 (fO:D5 (L.take m) k0 pre=true) (hpv:∀v w w',Ch [] w w'->pv v w->pv v w') (fQ:∀x∈es,x<w.heap.size)
 (hs:ow P k0 pre es (HQ k0 pv sp w.heap.size) L (L.take m) (cw a0) w 0 (L.take m))
 (hq:∀(vs:Nat->ab) w',Ch es w w'->(∀i,i<m->HQ k0 pv sp w.heap.size i (vs i) w')->WL P L.toArray Q (L.drop m) (fM vs 0 (L.take m) a0) w')
 (hm:P.follows .mixedOrders=true) (hl:bA m L.length=true) (ht:pP L m paths=true) (jK:Bt a0.tmps.size (L.take m)=true) (fN:nB 0 L=true):(Code.region id L.toArray true).wp P Q a0 w:=by
 have pU:(L.take m).length=m:=by have:=dz hl;simp;omega
 have h:=acT (id:=id) (Q:=Q) (P:=P) (k0:=k0) (es:=es) (H:=HQ k0 pv sp w.heap.size) (a0:=a0) (w0:=w) (L.take m) (L.drop m) ?_ fO ?_ paths hm (by rw[iZ,pU];exact ht) jK (by rw[iZ];exact fN) (by rw[iZ];exact hs) ?_
 ·rwa [iZ]at h
 ·intro i v w1 w2 hc hH;unfold HQ at*;split at hH
  ·exact hpv _ _ _ hc hH
  ·exact hH.DW hc
 ·intro i v w1 w2 fP hle hc hH;unfold HQ at*;split at hH
  ·rename_i h;exact absurd (b9 h) fP
  ·obtain⟨ids,h1,h2,h3⟩:=hH;refine⟨ids,h1,h2,λp hp=>⟨(h3 p hp).1,(hc.block _ (n_ (h3 p hp).2) (λhx=>?_)).trans (h3 p hp).2⟩⟩;have:=fQ _ hx;have:=(h3 p hp).1;omega
 ·intro vs w' hc dA;rw[iZ];exact(hq vs w' hc λi hi=>dA i _ (iK (by omega))).out
theorem U7 (S:St ms w0 bs w) (m k0 j b off:Nat) (pre:List (List Nat)) (v:ab) (dB:List ab) (paths:List (List Nat))
 (hs:ow P k0 pre [b] (HQ k0 (U3 b bs j off v.cells.toList) (pS (dB.map s0)) w.heap.size) L (L.take m) (cw a0) w 0 (L.take m))
 (hq:∀w',St ms w0 (uz bs j off v.cells.toList) w'->WL P L.toArray Q (L.drop m) (rf dB (L.take m) a0) w')
 (hb:wG bs j off v.cells.toList.length=some b:=by kernel_rfl) (hk:((L.take m)[k0]?).map (·.dst)=some none:=by kernel_rfl) (MY:dB.length=m:=by kernel_rfl) (fO:D5 (L.take m) k0 pre=true:=by kernel_rfl)
 (hm:P.follows .mixedOrders=true:=by kernel_rfl) (hl:bA m L.length=true:=by kernel_rfl) (ht:pP L m paths=true:=by kernel_rfl) (jK:Bt a0.tmps.size (L.take m)=true:=by kernel_rfl) (fN:nB 0 L=true:=by kernel_rfl):(Code.region id L.toArray true).wp P Q a0 w:=by
 obtain⟨cs,t,sR,hle⟩:=H6 hb;have pU:(L.take m).length=m:=by have:=dz hl;simp;omega
 have hj:j<bs.length:=by
  rcases cE j bs.length with h|h
  ·exact h
  ·simp[h]at sR
 have fw:uz bs j off v.cells.toList=bs.set j ⟨b,true,.cells (splice cs off v.cells.toList) t (0,0)⟩:=by simp only[uz,sR]
 refine U6 m k0 pre [b] _ dB paths _ fO ?_ ?_ hs ?_ hm hl ht jK fN
 ·rintro v' w1 w2 hc ⟨x,h1,h2⟩;exact⟨x,h1,(hc.block _ (n_ h2) (by simp)).trans h2⟩
 ·intro x hx;obtain rfl:=i_.1 hx;exact S.lt sR
 ·intro vs w' hc dA;obtain⟨ok,hok,hdk⟩:=gH.1 hk;have pZ:k0<m:=by
   rcases cE k0 m with h|h
   ·exact h
   ·rw[ig (by omega)]at hok;simp at hok
  have hp:fM vs 0 (L.take m) a0=rf dB (L.take m) a0:=M1 (by omega) λi o u ho hu=>by
   have hi:i<m:=by
    rcases cE i dB.length with h|h
    ·omega
    ·simp[h]at hu
   by_cases fP:i=k0
   ·subst fP;rw[hok]at ho;exact .inl (by rw[<-ck ho];exact hdk)
   ·have hH:=dA i hi;unfold HQ at hH;have bZ:ax i k0=false:=by
     cases hx:ax i k0
     ·rfl
     ·exact absurd (b9 hx) fP
    rw[bZ]at hH;obtain⟨ids,h1,h2,_⟩:=hH;have h3:pS (dB.map s0) i=s0 u:=by
     unfold pS;rw[n7,iI,hu];rfl
    rw[h3]at h1 h2;obtain rfl:ids=[]:=mE (by simpa[s0]using h1);refine .inr ?_;rw[eh,h2];rfl
  rw[hp];refine hq w' ?_;have hH:=dA k0 pZ;unfold HQ at hH;rw[show ax k0 k0=true from qS k0]at hH;obtain⟨x,hx,hxo⟩:=hH;rw[fw,Mt hj]at hx;obtain rfl:=ck hx;rw[fw];exact S.step sR rfl (by simpa using hc) hxo
end
end Sx
namespace Sx
open Go Go.RowKit Go.BigFrame
section
variable{P:aC} {ops:Array an} {rest:List an} {o:an} {a:Act} {w w0:ae} {ms:List Nat} {bs:List ai} {Q:dN->Act->ae->Prop}
end
end Sx
namespace Sx
open Go Go.RowKit Go.BigFrame
section
variable{P:aC} {a:Act} {w:ae} {Q:dN->Act->ae->Prop}
end
section
variable{P:aC} {ops:Array an} {rest:List an} {o:an} {a:Act} {w:ae} {Q:dN->Act->ae->Prop}
end
end Sx
namespace Sx
open Go Go.RowKit Go.BigFrame
section
variable{P:aC} {ops:Array an} {rest:List an} {o:an} {a:Act} {w:ae} {Q:dN->Act->ae->Prop} {z T m n c:Nat} {news:List ab} {s x:aZ} {t tx:aD} {xv:ab}
end
end Sx
namespace Sx.Y
open Go Go.RowKit Go.BigFrame
variable{P:aC} {w:ae} {o:an} {R:ab->ae->Prop} {ρ:aZ->ab}
end Sx.Y
namespace Sx
open Go Go.RowKit Go.BigFrame
section
variable{P:aC} {ops:Array an} {rest:List an} {o:an} {a:Act} {w w0:ae} {ms:List Nat} {bs:List ai} {Q:dN->Act->ae->Prop}
end
end Sx
namespace Sx
open Go Go.RowKit Go.BigFrame
theorem rk.le {z T olds n bl B B' v} {w:ae} (h:rk z T olds n bl B v w) (hb:B'<=B):rk z T olds n bl B' v w:=by
 obtain⟨x,c,bl',h1,h2,h3⟩:=h;exact⟨x,c,bl',h1,h2,λy hy=>⟨(h3 y hy).1,(h3 y hy).2.imp id (λh=>iH hb h)⟩⟩
def sB (m:Nat) (news:List ab) (T:aD):Sp:=⟨1,λids=>.slice (some ⟨ids.getD 0 0,0,none⟩) m m,λids=>[(ids.getD 0 0,.cells news.toArray T (0,0))]⟩
section
variable{P:aC} {lf l:List an} {sp:Nat->Sp} {a0:Act} {w:ae} {i k0:Nat} {pre:List (List Nat)} {o:an} {es:List Nat} {pv:ab->ae->Prop}
theorem eB_ (m:Nat) (news:List ab) (T:aD) (pT:sp i=sB m news T:=by rfl) (bZ:ax i k0=false:=by kernel_rfl) (hs:wO k0 l sp i o=true:=by kernel_rfl)
 (h:(λw=>(execOp (jt (gK l sp a0 o)) o).run P w)=(λw=>.ok (.value (.slice (some ⟨w.heap.size,0,none⟩) m m)) (w.alloc (.cells news.toArray T (0,0)))):=by kernel_rfl):
 pW P k0 pre es (HQ k0 pv sp w.heap.size) lf l (cw a0) w i o:=by
 intro y w' _ hc ru fO;obtain⟨D8,lW,hg⟩:=MZ (H:=λ_ _ _=>True) hs ru fO;have fP:i≠k0:=λe=>by rw[e]at bZ;simp at bZ
 refine⟨λ_=>?_,λhw=>by simp[mJ,hg]at hw⟩;refine lA _ D8 ?_ lW;have h2:(execOp (jt (gK l sp a0 o)) o).run P w'=_:=congrFun h w';unfold Yields;rw[h2];refine⟨λe=>absurd e fP,λ_=>Ch.alloc _ _ _,?_⟩;unfold HQ;rw[bZ,pT];refine⟨[w'.heap.size],rfl,rfl,λp hp=>?_⟩;obtain rfl:=i_.1 hp;exact⟨hc.size,mC w' _⟩
variable{ms:List Nat} {w0:ae}
theorem eA_ {A bl R:List ai} {xs:Option aI} {z n c:Nat} {T T':aD} {olds:List ab} (S:St ms w0 (A++(bl++R)) w) (hr:eI z T olds xs n c bl) (d1 d2 j2 m:Nat) (news:List ab) (bytes:Nat) {t tx e':aD}
 (hbd:(n+m)*bytes<=140737488355328) (h63:n+m<=maxLen) (ho:o.op=.call ⟨.builtin .append,#[.tmp d1,.tmp d2],#[t,tx]⟩:=by rfl) (ou:news.length=m*z:=by rfl) (h1:news.all (·.oneCell')=true:=by kernel_rfl)
 (hg:o.guard.isNone=true:=by kernel_rfl) (he:ax i k0=true:=by kernel_rfl)
 (gx:(match uK l o d1 with|some j=>!(ax j k0)&&ax (sp j).k 0|none=>uF l i d1)=true:=by kernel_rfl) (sS:valOf l sp a0 o d1=.slice xs n c:=by kernel_rfl)
 (yZ:uK l o d2=some j2:=by kernel_rfl) (wK:ax j2 k0=false:=by kernel_rfl) (pT:sp j2=sB m news T':=by rfl)
 (ht:P.underlying t=some (.slice T):=by kernel_rfl) (fH:P.underlying tx=some (.slice e'):=by kernel_rfl) (bS:(P.info? T).map (λi=>(i.zero.map (·.cells.size),i.size,i.bytes))=some (some z,z,bytes):=by kernel_rfl):
 pW P k0 pre (bl.map ai.id) (HQ k0 (rk z T (olds++news) (n+m) bl w.heap.size) sp w.heap.size) lf l (cw a0) w i o:=by
 intro y w' Bz hc ru fO;have fP:i=k0:=b9 he;have D6:o.guard=none:=by cases hx:o.guard<;>simp_all
 have hy1:y d1=.slice xs n c:=by
  unfold valOf at sS;cases eY:uK l o d1 with
  |some j=>
   rw[eY]at sS gx;obtain⟨D_,hd⟩:=Ib eY;simp only[a_,lv]at gx;have h2:=fO j d1 D_ hd;unfold HQ at h2;rw[gx.1]at h2;obtain⟨ids,h3,h4,_⟩:=h2;have h5:(sp j).k=0:=b9 gx.2;obtain rfl:ids=[]:=mE (by rw[h3,h5]);rw[h4];exact sS
  |none=>
   rw[eY]at sS gx;rw[ru d1 gx];exact sS
 obtain⟨b,hy2,hb⟩:∃b,y d2=.slice (some ⟨b,0,none⟩) m m/\w'.heap[b]?=some (.cells news.toArray T' (0,0)):=by
  obtain⟨D_,hd⟩:=Ib yZ;have h2:=fO j2 d2 D_ hd;unfold HQ at h2;rw[wK,pT]at h2;obtain⟨ids,h3,h4,h5⟩:=h2
  match ids,h3 with
  |[b],_=>exact⟨b,h4,(h5 (b,.cells news.toArray T' (0,0)) (i_.2 rfl)).2⟩
 have eY:Src P z tx (.slice (some ⟨b,0,none⟩) m m) m news w':=by
  refine qR w' fH ⟨b,0,none⟩ m m news ou (λj u hj=>?_) (λu hu=>fK.1 h1 u hu);rw[hU,cell_of hb];simpa using hj
 have Sq:=S.quiet (Bz (.inl fP));obtain⟨v,fj,bE,hc2,hR⟩:=Bp (P:=P) (ty:=o.type) (w:=w') hr (λy hy=>Sq.at' (by simp[hy])) bytes eY ht bS hbd h63;refine⟨λ_=>?_,λhw=>by simp[mJ,D6]at hw⟩;unfold Yields;rw[iR (ρ:=uE y) ho (sv:=.slice xs n c) (xv:=.slice (some ⟨b,0,none⟩) m m) hy1 hy2 bE];refine⟨λ_=>hc2,λe=>absurd fP e,?_⟩;unfold HQ;rw[he];exact hR.le hc.size
end
section
variable{P:aC} {a0:Act} {w w0:ae} {Q:dN->Act->ae->Prop} {id:Nat} {L:List an} {ms:List Nat}
theorem acY {A bl R:List ai} {xs:Option aI} {z n c:Nat} {T T':aD} {olds:List ab} (S:St ms w0 (A++(bl++R)) w) (hr:eI z T olds xs n c bl) (m k0 i1 mm:Nat) (news:List ab) (pre:List (List Nat)) (dB:List ab) (paths:List (List Nat))
 (hs:ow P k0 pre (bl.map ai.id) (HQ k0 (rk z T (olds++news) (n+mm) bl w.heap.size) (pS ((dB.map s0).set i1 (sB mm news T'))) w.heap.size) L (L.take m) (cw a0) w 0 (L.take m))
 (hq:∀x' c' bl' u w',eI z T (olds++news) x' (n+mm) c' bl'->St ms w0 (A++(bl'++R)) w'->WL P L.toArray Q (L.drop m) (rf ((dB.set k0 (.slice x' (n+mm) c')).set i1 u) (L.take m) a0) w')
 (hk:cj k0 m=true:=by kernel_rfl) (hi:cj i1 m=true:=by kernel_rfl) (fP:ax i1 k0=false:=by kernel_rfl) (MY:dB.length=m:=by kernel_rfl) (fO:D5 (L.take m) k0 pre=true:=by kernel_rfl)
 (hm:P.follows .mixedOrders=true:=by kernel_rfl) (hl:bA m L.length=true:=by kernel_rfl) (ht:pP L m paths=true:=by kernel_rfl) (jK:Bt a0.tmps.size (L.take m)=true:=by kernel_rfl) (fN:nB 0 L=true:=by kernel_rfl):(Code.region id L.toArray true).wp P Q a0 w:=by
 have pU:(L.take m).length=m:=by have:=dz hl;simp;omega
 have yY:k0<m:=by simpa[gV]using hk
 have kB:i1<m:=by simpa[gV]using hi
 have bZ:i1≠k0:=λe=>by rw[e]at fP;simp at fP
 refine U6 m k0 pre (bl.map ai.id) (rk z T (olds++news) (n+mm) bl w.heap.size) dB paths _ fO (λv w1 w2 hc h=>rk.DW h hc) ?_ hs ?_ hm hl ht jK fN
 ·intro x hx;obtain⟨y,hy,rfl⟩:=ny.1 hx;exact S.ge (by simp[hy])
 ·intro vs w' hc dA;have hK:=dA k0 yY;unfold HQ at hK;rw[show ax k0 k0=true from qS k0]at hK;obtain⟨x',c',bl',hv,fl,aK⟩:=hK;have S2:=S.sQ hr.wr hc (λy hy=>(aK y hy).1) (λy hy=>(aK y hy).2) fl.pw;have hp:fM vs 0 (L.take m) a0=rf ((dB.set k0 (.slice x' (n+mm) c')).set i1 (vs i1)) (L.take m) a0:=M1 (by rw[List.length_set,List.length_set];omega) λi o u ho hu=>by
   have Ih:i<m:=by
    rcases cE i m with h|h
    ·exact h
    ·rw[ig (by simp;omega)]at hu;simp at hu
   refine .inr ?_;rw[eh];by_cases h1:i=i1
   ·subst h1;rw[Mt (by simp;omega)]at hu;exact ck hu
   ·rw[HL (λe=>h1 e.symm)]at hu;by_cases h2:i=k0
    ·subst h2;rw[Mt (by omega)]at hu;rw[hv];exact ck hu
    ·rw[HL (λe=>h2 e.symm)]at hu;have hH:=dA i Ih;unfold HQ at hH;have hb:ax i k0=false:=by
      cases hx:ax i k0
      ·rfl
      ·exact absurd (b9 hx) h2
     rw[hb]at hH;obtain⟨ids,g1,g2,_⟩:=hH;have h3:pS ((dB.map s0).set i1 (sB mm news T')) i=s0 u:=by
      unfold pS;rw[n7,HL (λe=>h1 e.symm),iI,hu];rfl
     rw[h3]at g1 g2;obtain rfl:ids=[]:=mE (by simpa[s0]using g1);rw[g2];rfl
  rw[hp];exact hq x' c' bl' (vs i1) w' fl S2
end
def BA (val:ab) (Q:List ai->Prop) (bl:List ai) (B:Nat) (v:ab) (w:ae):Prop:=
 v=val/\∃bl',Q bl'/\(∀y∈bl',w.heap[y.id]?=some y.obj/\(y.wr=true->(∃u∈bl,y.id=u.id)\/B<=y.id))/\bl'.Pairwise yU
theorem BA.DW {val Q bl B v} {w w':ae} (h:BA val Q bl B v w) (hc:Ch [] w w'):BA val Q bl B v w':=by
 obtain⟨h1,bl',h2,h3,h4⟩:=h;exact⟨h1,bl',h2,λy hy=>⟨(hc.block _ (n_ (h3 y hy).1) (by simp)).trans (h3 y hy).1,(h3 y hy).2⟩,h4⟩
section
variable{P:aC} {lf l:List an} {sp:Nat->Sp} {a0:Act} {w:ae} {i k0:Nat} {pre:List (List Nat)} {o:an} {es:List Nat} {pv:ab->ae->Prop}
variable{ms:List Nat} {w0:ae} {bs:List ai}
end
section
variable{P:aC} {a0:Act} {w w0:ae} {Q:dN->Act->ae->Prop} {id:Nat} {L:List an} {ms:List Nat}
end
def cat (gM:List (List ai)) (R:List ai):List ai:=gM.foldr (·++·) R
theorem acZ (gM:List (List ai)) (R:List ai):cat gM R=gM.flatten++R:=by
 induction gM with
 |nil=>rfl
 |cons a l ih=>simp[cat]at ih⊢;exact ih
def Ii (n:Nat) (is:List Nat):Bool:=is.all (λi=>cj i n)&&Ij is
where Ij:List Nat->Bool
 |[]=>true
 |i::l=>!(l.any (ax i))&&Ij l
theorem U8:∀{l:List Nat},Ii.Ij l=true->l.Nodup
 |[],_=>List.nodup_nil
 |i::l,h=>by
  simp only[Ii.Ij,a_,lv]at h;refine pF.2 ⟨λhm=>?_,U8 h.2⟩;have:l.any (ax i)=true:=yA.2 ⟨i,hm,by simp⟩;rw[this]at h;exact absurd h.1 (by simp)
section
variable{ms:List Nat} {w0 w:ae}
theorem Ea:∀(is l:List Nat),is.Nodup->(∀i∈is,i∈l)->∃r,l.Perm (is++r)
 |[],l,_,_=>⟨l,List.Perm.refl _⟩
 |i::is,l,hn,hm=>by
  have qZ:=pF.1 hn;obtain⟨r,hr⟩:=Ea is (l.erase i) qZ.2 (λj hj=>(List.mem_erase_of_ne (λe=>qZ.1 (by rw[<-e];exact hj))).2 (hm j (by simp[hj])));exact⟨r,(List.perm_cons_erase (hm i (by simp))).trans (by simpa using hr.cons i)⟩
theorem ac0 {α:Type} (gM:List α) (d:α) (is:List Nat) (hn:is.Nodup) (dh:∀i∈is,i<gM.length):∃rest,gM.Perm (is.map (λi=>gM.getD i d)++rest):=by
 have hr:(bh gM.length).map (λi=>gM.getD i d)=gM:=by
  apply List.ext_getElem
  ·simp
  ·intro i h1 h2;simp[n7,h2]
 obtain⟨r,M3⟩:=Ea is (bh gM.length) hn (λi hi=>List.mem_range.2 (dh i hi));refine⟨r.map λi=>gM.getD i d,?_⟩;rw[<-qT];have:=M3.map (λi=>gM.getD i d)
 rwa [hr]at this
theorem St.re {bs bs' R:List ai} (S:St ms w0 bs w) (gM:List (List ai)) (is:List Nat) (h1:bs=cat gM R:=by kernel_rfl) (h2:Ii gM.length is=true:=by kernel_rfl) (h3:cat (is.map λi=>gM.getD i []) R=bs':=by kernel_rfl):St ms w0 bs' w:=by
 subst h1 h3;simp only[Ii,a_]at h2;obtain⟨rest,hp⟩:=ac0 gM [] is (U8 h2.2) (λi hi=>by have:=fK.1 h2.1 i hi;unfold cj at this;exact dz this);rw[acZ]at S⊢;have h4:St ms w0 ((is.map λi=>gM.getD i []).flatten++(rest.flatten++R)) w:=S.perm (by
  rw[<-bN,<-List.flatten_append];exact DG R hp.flatten)
 exact h4.sub (yE (n8 _ _) _)
end
def BB:Obj->Option aD
 |.cells _ t _=>some t
 |_=>none
def sA (obj:Obj):Sp:=⟨1,λids=>.pointer (some ⟨ids.getD 0 0,0,none⟩),λids=>[(ids.getD 0 0,obj)]⟩
inductive VX where
 |v (x:ab)
 |a (obj:Obj)
def VX.sp:VX->Sp
 |.v x=>s0 x
 |.a o=>sA o
def VX.val (id:Nat):VX->ab
 |.v x=>x
 |.a _=>.pointer (some ⟨id,0,none⟩)
def Eb (ids:Nat->Nat):Nat->List VX->List ai
 |_,[]=>[]
 |i,.v _::xs=>Eb ids (i+1) xs
 |i,.a o::xs=>⟨ids i,true,o⟩::Eb ids (i+1) xs
section
variable{ms:List Nat} {w0 w:ae} {bs:List ai}
end
section
variable{P:aC} {lf l:List an} {sp:Nat->Sp} {a0:Act} {w:ae} {i k0:Nat} {pre:List (List Nat)} {o:an} {es:List Nat} {pv:ab->ae->Prop}
variable{ms:List Nat} {w0:ae} {bs:List ai}
end
section
variable{P:aC} {a0:Act} {w w0:ae} {Q:dN->Act->ae->Prop} {id:Nat} {L:List an} {ms:List Nat}
end
theorem ac1 (gM:List (List ai)) (R:List ai):cat gM R=cat gM []++R:=by
 induction gM with
 |nil=>rfl
 |cons a l ih=>show a++cat l R=(a++cat l [])++R;rw[ih,bN]
section
variable{ms:List Nat} {w0 w:ae}
theorem St.split {A B R bs:List ai} (S:St ms w0 bs w) (gM:List (List ai)) (h1:bs=A++cat gM R:=by kernel_rfl) (h2:cat gM []=B:=by kernel_rfl):St ms w0 (A++(B++R)) w:=by
 subst h2;rw[<-ac1,<-h1];exact S
end
section
variable{P:aC} {lf l:List an} {sp:Nat->Sp} {a0:Act} {w:ae} {i k0:Nat} {pre:List (List Nat)} {o:an} {es:List Nat} {pv:ab->ae->Prop}
variable{ms:List Nat} {w0:ae} {bs:List ai}
end
def aq (kd:eE) (n:Nat) (f:Nat->Int):Array ab:=((bh n).map λi=>dT kd (f i)).toArray
def mN (f:Nat->Int) (i:Nat) (v:Int):Nat->Int:=λj=>bif ax j i then v else f j
theorem Ec (kd:eE) (n:Nat) (f:Nat->Int):(aq kd n f).size=n:=by simp[aq]
theorem U9 (kd:eE) {n:Nat} (f:Nat->Int) {i:Nat} (h:i<n):(aq kd n f)[i]?=some (.int kd (f i)):=by simp[aq,h]
theorem U_ (f:Nat->Int) (i:Nat) (v:Int):mN f i v i=v:=by simp[mN]
theorem M4 (f:Nat->Int) {i j:Nat} (v:Int) (h:j≠i):mN f i v j=f j:=by
 have:ax j i=false:=by
  cases hb:ax j i
  ·rfl
  ·exact absurd (b9 hb) h
 simp[mN,this]
theorem ac2 (kd:eE) {n:Nat} (f:Nat->Int) {i:Nat} (h:i<n) (v:Int):splice (aq kd n f) i [.int kd v]=aq kd n (mN f i v):=by
 apply eO;show((aq kd n f).toList.take i++[dT kd v]++(aq kd n f).toList.drop (i+1))=_;simp only[aq];apply List.ext_getElem
 ·simp;omega
 ·intro j h1 h2;simp only[fi,uk,HV,Mx,List.length_drop,ly,HW]at h1 h2;rcases Nat.lt_trichotomy j i with hj|hj|hj
  ·rw[HX (by simp;omega),HX (by simp;omega)];simp[M4 _ _ (Nat.ne_of_lt hj)]
  ·subst hj;rw[HX (by simp;omega),Up (by simp;omega)];simp[U_]
  ·rw[Up (by simp;omega)];simp only[fi,uk,HV,Mx,ly,HW,List.getElem_drop,List.getElem_map,List.getElem_range];rw[M4 _ _ (by omega)];congr 2;omega
theorem ac3 (kd:eE) {n:Nat} {f g:Nat->Int} (h:∀i,i<n->f i=g i):aq kd n f=aq kd n g:=by
 unfold aq;congr 1;apply pH;intro i hi;rw[h i (List.mem_range.1 hi)]
section
variable{ms:List Nat} {w0 w:ae} {bs:List ai}
theorem ckF {kd:eE} {n:Nat} {f:Nat->Int} {i off b:Nat} {t:aD} (ho:off<n) (hb:bs[i]?=some ⟨b,true,.cells (aq kd n f) t (0,0)⟩:=by kernel_rfl):wG bs i off 1=some b:=by
 have h2:bA (off+1) (aq kd n f).size=true:=by rw[Ec];exact uj ho
 unfold wG;rw[hb];simp only[h2]
theorem St.stF {kd:eE} {n:Nat} {f:Nat->Int} {i off b:Nat} {t:aD} {v:Int} (S:St ms w0 (uz bs i off [.int kd v]) w) (ho:off<n) {bs':List ai} (hb:bs[i]?=some ⟨b,true,.cells (aq kd n f) t (0,0)⟩:=by kernel_rfl)
 (h2:bs.set i ⟨b,true,.cells (aq kd n (mN f off v)) t (0,0)⟩=bs':=by kernel_rfl):St ms w0 bs' w:=by
 unfold uz at S;rw[hb]at S;simp only at S;rw[ac2 kd f ho,h2]at S;exact S
end
section
variable{P:aC} {lf l:List an} {sp:Nat->Sp} {a0:Act} {w:ae} {i k0:Nat} {pre:List (List Nat)} {o:an} {es:List Nat} {pv:ab->ae->Prop}
variable{ms:List Nat} {w0:ae} {bs:List ai}
end
end Sx
namespace Sx
open Go Go.RowKit Go.BigFrame
def Wr (bl:List ai):Prop:=∀x∈bl,x.wr=true
theorem Wr.nil:Wr []:=λx h=>by cases h
theorem Wr.cons {b:ai} {l:List ai} (h:b.wr=true) (k:Wr l):Wr (b::l):=λx hx=>by
 rcases bY.1 hx with rfl|hx
 ·exact h
 ·exact k x hx
theorem Wr.app {a b:List ai} (h:Wr a) (k:Wr b):Wr (a++b):=λx hx=>by
 rcases ez.1 hx with hx|hx
 ·exact h x hx
 ·exact k x hx
def Ty (L:List Nat) (bl:List ai):Prop:=∀x∈bl,∃t,BB x.obj=some t/\t∈L
theorem Ty.nil:Ty [] []:=λx h=>by cases h
theorem Ty.cons {b:ai} {l:List ai} {t:Nat} {L:List Nat} (h:BB b.obj=some t) (k:Ty L l):Ty (t::L) (b::l):=λx hx=>by
 rcases bY.1 hx with rfl|hx
 ·exact⟨t,h,by simp⟩
 ·obtain⟨u,h1,h2⟩:=k x hx;exact⟨u,h1,by simp[h2]⟩
theorem Ty.app {a b:List ai} {L M:List Nat} (h:Ty L a) (k:Ty M b):Ty (L++M) (a++b):=λx hx=>by
 rcases ez.1 hx with hx|hx
 ·obtain⟨u,h1,h2⟩:=h x hx;exact⟨u,h1,by simp[h2]⟩
 ·obtain⟨u,h1,h2⟩:=k x hx;exact⟨u,h1,by simp[h2]⟩
def Va (L:List Nat) (ys:List (Option aD)):Bool:=ys.all λy=>match y with|some t=>L.all λu=>!(ax u t)|none=>true
theorem Ty.ne {L:List Nat} {bl:List ai} {ys:List (Option aD)} (h:Ty L bl) (hd:Va L ys=true:=by kernel_rfl):∀x∈bl,∀t∈ys,BB x.obj≠t:=λx hx t ht e=>by
 obtain⟨u,h1,h2⟩:=h x hx;have h3:=fK.1 hd t ht;rw[h1]at e;subst e;simp only at h3;have h4:=fK.1 h3 u h2;simp at h4
theorem eI.ty {z T olds x n c bl} (h:eI z T olds x n c bl):Ty [T] bl:=by
 rcases h.2.2 with⟨_,_,_,rfl⟩|⟨b,tail,_,rfl,_⟩
 ·intro x hx;cases hx
 ·exact Ty.cons rfl Ty.nil
end Sx
namespace Sx
open Go Go.RowKit Go.BigFrame
section
variable{P:aC} {a:Act} {w:ae} {Q:dN->Act->ae->Prop}
theorem Ed {K:Act->ae->Prop} (h:∀a',a'=a->K a' w):Exit.then K Q .normal a w:=h a rfl
theorem Ik {c:Code} (I:Nat->Act->ae->Prop) (n:Nat) (h:∀a',a'=a->I n a' w)
 (hs:∀m a w,I m a w->c.wp P (Exit.then (λa' w'=>∃k,k<m/\I k a' w') Q) a w):(Code.loop c).wp P Q a w:=acO I n (h a rfl) hs
end
end Sx
namespace Sx
open Go
def bP (n:Nat) (f:Nat->Int):List ab:=(bh n).map λi=>dT .u8 (f i)
theorem fY (n:Nat) (f:Nat->Int):(bP n f).length=n:=by simp[bP]
theorem qa {n:Nat} (f:Nat->Int) {j:Nat} (h:j<n):(bP n f)[j]?=some (.int .u8 (f j)):=by simp[bP,h]
theorem Ee {n:Nat} {f:Nat->Int}:∀v∈bP n f,v.oneCell'=true:=λv h=>by
 simp only[bP,ny]at h;obtain⟨j,_,rfl⟩:=h;rfl
theorem wP {n:Nat} {f:Nat->Int} {j:Nat} {v:ab} (h:(bP n f)[j]?=some v):j<n/\v=.int .u8 (f j):=by
 have hj:j<n:=by
  rcases cE j n with h1|h1
  ·exact h1
  ·rw[ig (by rw[fY];exact h1)]at h;cases h
 rw[qa f hj]at h;exact⟨hj,(ck h).symm⟩
def ca (n:Nat) (f g:Nat->Int):Nat->Int:=λj=>bif cj j n then f j else g (j-n)
theorem Il {a b:Nat} (h:a<b):cj a b=true:=by unfold cj;exact uj h
theorem M5 {a b:Nat} (h:¬a<b):cj a b=false:=by
 cases hb:cj a b
 ·rfl
 ·unfold cj at hb;exact absurd (dz hb) h
theorem ac4 {a b:Nat} (h:¬a<=b):bA a b=false:=by
 cases hb:bA a b
 ·rfl
 ·exact absurd (dz hb) h
theorem Im (n m:Nat) (f g:Nat->Int):bP n f++bP m g=bP (n+m) (ca n f g):=by
 apply um;intro j;by_cases h:j<n
 ·rw[gI (by rw[fY];exact h),qa f h,qa _ (by omega)];simp[ca,Il h]
 ·rw[yB (by rw[fY];omega),fY];by_cases h2:j<n+m
  ·rw[qa g (by omega),qa _ h2];simp[ca,M5 h]
  ·rw[ig (by rw[fY];omega),ig (by rw[fY];omega)]
theorem Ef {n:Nat} {f g:Nat->Int} (h:∀i,i<n->f i=g i):bP n f=bP n g:=by
 unfold bP;apply pH;intro i hi;rw[h i (List.mem_range.1 hi)]
def dC (f:Nat->Int) (o m:Nat) (g:Nat->Int):Nat->Int:=λj=>bif bA o j&&cj j (o+m)then g (j-o)else f j
theorem M6 (kd:eE) {n:Nat} (f:Nat->Int) {o m:Nat} (h:o+m<=n) (g:Nat->Int):((aq kd n f).toList.take o++(bh m).map (λi=>dT kd (g i))++(aq kd n f).toList.drop (o+m)).toArray=aq kd n (dC f o m g):=by
 apply eO;simp only[aq];apply List.ext_getElem
 ·simp;omega
 ·intro j h1 h2;simp only[fi,uk,HV,Mx,List.length_drop]at h1 h2;by_cases ha:j<o
  ·rw[HX (by simp;omega),HX (by simp;omega)];simp[dC,ac4 (show¬o<=j by omega)]
  ·by_cases hb:j<o+m
   ·rw[HX (by simp;omega),Up (by simp;omega)];have:min o n=o:=by omega
    simp[dC,uj (show o<=j by omega),Il hb,this]
   ·rw[Up (by simp;omega)];have:min o n=o:=by omega
    simp only[fi,uk,HV,Mx,List.getElem_drop,List.getElem_map,List.getElem_range,this];have e:o+m+(j-(o+m))=j:=by omega
    simp[dC,M5 hb,e]
def bV (w:ae) (b o n:Nat) (f:Nat->Int):Prop:=∀j,j<n->w.cell? ⟨b,o+j,none⟩=some (.int .u8 (f j))
theorem bV.cut {w:ae} {b o n:Nat} {f:Nat->Int} (h:bV w b o n f) {m:Nat} (hm:m<=n):bV w b o m f:=λj hj=>h j (by omega)
theorem bV.drop {w:ae} {b o n:Nat} {f:Nat->Int} (h:bV w b o n f) (k:Nat):bV w b (o+k) (n-k) (λj=>f (k+j)):=λj hj=>by
 rw[yF];exact h (k+j) (by omega)
section
variable{ms:List Nat} {w0 w:ae} {bs:List ai}
theorem St.kX (S:St ms w0 bs w) {b o n:Nat} {f:Nat->Int} (h:bV w0 b o n f) (hm:b∉ms):bV w b o n f:=λj hj=>S.acP (h j hj) hm
theorem St.eA (S:St ms w0 bs w) (i:Nat) {b N:Nat} {wr:Bool} {f:Nat->Int} {t:aD} {fr:Nat×Nat} (hb:bs[i]?=some ⟨b,wr,.cells (aq .u8 N f) t fr⟩:=by kernel_rfl):bV w b 0 N f:=λj hj=>by
 rw[cell_of (S.at_ i _ hb),eh,U9 _ f hj]
end
section
variable{P:aC} {w:ae}
theorem y9 {b o n c:Nat} {f:Nat->Int} {tx e':aD} (h:bV w b o n f) (hk:P.underlying tx=some (.slice e'):=by kernel_rfl):Src P 1 tx (.slice (some ⟨b,o,none⟩) n c) n (bP n f) w:=
 qR w hk _ n c _ (by rw[fY,Nat.mul_one]) (λj u hj=>by
  obtain⟨h1,rfl⟩:=wP hj;rw[hU];exact h j h1) Ee
theorem Io {ρ:aZ->ab} {o:an} {w':ae} {s x:aZ} {t tx:aD} {sv xv v:ab} (ho:o.op=.call ⟨.builtin .copy,#[s,x],#[t,tx]⟩) (hs:ρ s=sv) (hx:ρ x=xv)
 (bE:(Builtin.copy_ #[t,tx] o.type #[sv,xv]).run P w=.ok v w'):(execOp ρ o).run P w=.ok (.value v) w':=by
 simp[execOp,ho,resolve,invoke,builtin,hs,hx,bE,jb]
end
section
variable{P:aC} {ops:Array an} {rest:List an} {o:an} {a:Act} {w w0:ae} {ms:List Nat} {bs:List ai} {Q:dN->Act->ae->Prop}
theorem copy_ (S:St ms w0 bs w) (i:Nat) (b N off n c:Nat) (f:Nat->Int) (sb so m sc:Nat) (g:Nat->Int) {t:aD} {s x:aZ} {tt tx elem:aD} (h8:bV w sb so m g) (hm:m<=n) (hn:off+m<=N)
 (hb:bs[i]?=some ⟨b,true,.cells (aq .u8 N f) t (0,0)⟩) {bs':List ai} (h2:bs.set i ⟨b,true,.cells (aq .u8 N (dC f off m g)) t (0,0)⟩=bs')
 (k:∀w',St ms w0 bs' w'->WL P ops Q rest (a.put o.dst (.int .i64 m)) w')
 (hw:gf o (yielded ops a.tmps)=true:=by kernel_rfl) (ho:o.op=.call ⟨.builtin .copy,#[s,x],#[tt,tx]⟩:=by rfl) (hs:a.eval s=.slice (some ⟨b,off,none⟩) n c:=by kernel_rfl) (hx:a.eval x=.slice (some ⟨sb,so,none⟩) m sc:=by kernel_rfl)
 (hu:P.underlying tt=some (.slice elem):=by kernel_rfl) (hz:(P.info? elem).map (·.size)=some 1:=by kernel_rfl):WL P ops Q (o::rest) a w:=
 WL.want hw λK hK=>by
  have aK:=S.at_ i _ hb;have Eg:Nat.min m n=m:=Nat.min_eq_left hm;have bE:=run_copy_row (P:=P) w tt tx o.type elem b off n c ⟨sb,so,none⟩ m sc (aq .u8 N f) t (bP m g) hu hz aK (by rw[fY,Eg]) (λj v hj=>by
   obtain⟨h1,rfl⟩:=wP hj;rw[hU];exact h8 j h1) (by rw[fY,Ec];exact hn) Ee
  unfold nv;rw[Io ho hs hx bE];rw[fY];have he:(goInt m:ab)=.int .i64 m:=rfl;rw[he];refine hK _ _ (k _ ?_);have hS:=S.step hb rfl (Ch.setRow w b _) (setRow_heap w b (aq .u8 N f) ((aq .u8 N f).toList.take off++bP m g++(aq .u8 N f).toList.drop (off+m)).toArray t (0,0) aK);have e2:((aq .u8 N f).toList.take off++bP m g++(aq .u8 N f).toList.drop (off+m)).toArray=aq .u8 N (dC f off m g):=M6 .u8 f hn g;rw[e2,h2]at hS;rw[e2];exact hS
end
section
variable{P:aC} {ρ:aZ->ab} {o:an} {w:ae}
theorem ac5 {t e:aD} {x lo:aZ} {b off n c k:Nat} {kd:eE} (hk:k<=n) (hc:n<=c) (M7:Nat) (jJ:M7=(if c=k then off else off+k)) (ho:o.op=.slice t x (some lo) none none:=by rfl) (hu:P.underlying t=some (.slice e):=by kernel_rfl) (hs:(P.info? e).map (·.size)=some 1:=by kernel_rfl)
 (hx:ρ x=.slice (some ⟨b,off,none⟩) n c:=by kernel_rfl) (hh:ρ lo=.int kd ((k:Nat):Int):=by kernel_rfl):(execOp ρ o).run P w=.ok (.value (.slice (some ⟨b,M7,none⟩) (n-k) (c-k))) w:=by
 obtain⟨i,kB,di⟩:=gH.1 hs;unfold execOp;simp only[ho,Option.map_none,lx,hx,hh];unfold sH;simp only[bj,dg hu,cd];unfold DH;simp only[bj,dg hu,cd,sJ,yG,asIntOf,cW];have h1:(0:Int)<=(k:Int)/\(k:Int)<=(n:Int):=by omega
 have h3:(⟨b,off,none⟩:aI).add k=⟨b,off+k,none⟩:=hU ..;by_cases Ip:c=k
 ·rw[if_pos Ip]at jJ;simp[h1,nY,typeInfo,kB,di,Ip,jJ]
 ·rw[if_neg Ip]at jJ;simp[h1,nY,typeInfo,kB,di,Ip,jJ,h3]
end
end Sx
namespace Sx
open Go Go.RowKit Go.BigFrame
section
variable{P:aC} {lf l:List an} {sp:Nat->Sp} {a0:Act} {w:ae} {i:Nat} {o:an}
end
section
variable{P:aC} {ops:Array an} {rest:List an} {o:an} {a:Act} {w:ae} {Q:dN->Act->ae->Prop}
theorem ac6 (vk:eE) (n:Nat) (f:Nat->Int) (kd:eE) (iv:Int) {t e:aD} {x y:aZ} (h0:0<=iv) (h1:iv<n) (k:WL P ops Q rest (a.put o.dst (.int vk (f iv.toNat))) w) (hw:gf o (yielded ops a.tmps)=true:=by kernel_rfl)
 (ho:o.op=.index t x y:=by rfl) (hu:P.underlying t=some (.array n e):=by kernel_rfl) (hz:(P.info? e).map (·.size)=some 1:=by kernel_rfl) (ha:(P.underlying e).map iO=some false:=by kernel_rfl)
 (hx:a.eval x=.agg (aq vk n f):=by kernel_rfl) (hy:a.eval y=.int kd iv:=by kernel_rfl):WL P ops Q (o::rest) a w:=
 ak (.int vk (f iv.toNat)) k hw (by
  obtain⟨inf,hq,di⟩:=gH.1 hz;have dh:iv.toNat<n:=by omega
  have pM:(aq vk n f)[iv.toNat]?=some (.int vk (f iv.toNat)):=U9 vk f dh;unfold execOp;simp only[ho,hx,hy];unfold Instr.index;simp only[bj,dg hu,cd,asIntOf,cW];simp[h0,h1,nY,typeInfo,hq,di,part,yM ha,pM])
end
end Sx
namespace Sx
open Go Go.RowKit Go.BigFrame
def bw (n:Nat) (f:Nat->Int) (c:Nat):Array ab:=(bP n f++kO (c-n) (dT .u8 0)).toArray
theorem Iq (k:Nat):(nz #[dT .u8 0] k).toList=kO k (dT .u8 0):=by
 apply List.ext_getElem
 ·simp[nz]
 ·intro i h1 h2;simp[nz,Nat.mod_one]
def eA (T:aD) (n:Nat) (f:Nat->Int) (x:Option aI) (c:Nat) (bl:List ai):Prop:=
 n<=c/\((x=none/\n=0/\c=0/\bl=[])\/∃b,x=some ⟨b,0,none⟩/\bl=[⟨b,true,.cells (bw n f c) T (0,0)⟩])
theorem eA.wr {T n f x c bl} (h:eA T n f x c bl):Wr bl:=by
 rcases h.2 with⟨_,_,_,rfl⟩|⟨b,_,rfl⟩
 ·exact Wr.nil
 ·exact Wr.cons rfl Wr.nil
theorem eA.ty {T n f x c bl} (h:eA T n f x c bl):Ty [T] bl:=by
 rcases h.2 with⟨_,_,_,rfl⟩|⟨b,_,rfl⟩
 ·intro x hx;cases hx
 ·exact Ty.cons rfl Ty.nil
theorem M8 (T:aD):eA T 0 (λ_=>0) none 0 []:=⟨dE _,.inl ⟨rfl,rfl,rfl,rfl⟩⟩
theorem ac7 {n c:Nat} (f:Nat->Int) (h:n<=c):(bw n f c).size=c:=by simp[bw,fY];omega
section
variable{P:aC}
theorem M9 {w:ae} {T n c m:Nat} {f g:Nat->Int} {x:Option aI} {bl:List ai} (hr:eA T n f x c bl) (aK:∀y∈bl,w.heap[y.id]?=some y.obj)
 {t tx ty:aD} {xv:ab} (hs:Src P 1 tx xv m (bP m g) w) (ht:P.underlying t=some (.slice T)) (hi:(P.info? T).map (λi=>(i.zero.map (·.cells),i.size,i.bytes))=some (some #[.int .u8 0],1,1))
 (hb:n+m<=140737488355328):
 ∃v w',(mD #[t,tx] ty #[.slice x n c,xv]).run P w=.ok v w'/\Ch (bl.map ai.id) w w'/\∃x' c' bl',v=.slice x' (n+m) c'/\eA T (n+m) (ca n f g) x' c' bl'/\∀y∈bl',w'.heap[y.id]?=some y.obj/\((∃u∈bl,y.id=u.id)\/w.heap.size<=y.id):=by
 obtain⟨i,bS,hi⟩:=gH.1 hi;simp only[bd]at hi;obtain⟨hz,di,gW⟩:=hi;obtain⟨z0,kV,mL⟩:=gH.1 hz;obtain⟨jc,ju⟩:=hr;have iQ:Src P i.size tx xv m (bP m g) w:=by rw[di];exact hs
 have h63:n+m<=maxLen:=by unfold maxLen;omega
 by_cases mM:n+m<=c
 ·rcases uh m with jL|jL
  ·subst jL;refine⟨_,_,run_append_nothing (P:=P) w t tx ty T i ht bS x n c jc xv iQ,Ch.refl _ _,x,c,bl,rfl,⟨jc,?_⟩,λy hy=>⟨aK y hy,.inl ⟨y,hy,rfl⟩⟩⟩;rcases ju with h|⟨b,rfl,rfl⟩
   ·exact .inl h
   ·refine .inr ⟨b,rfl,?_⟩;have e:bP (n+0) (ca n f g)=bP n f:=Ef λj hj=>by simp[ca,Il (show j<n by omega)]
    show[(⟨b,true,.cells (bw n f c) T (0,0)⟩:ai)]=[⟨b,true,.cells ((bP (n+0) (ca n f g)++kO (c-(n+0)) (dT .u8 0)).toArray) T (0,0)⟩];rw[e];rfl
  ·rcases ju with⟨_,rfl,rfl,_⟩|⟨b,rfl,rfl⟩
   ·omega
   ·have rp:=aK _ (i_.2 rfl);have fw:=run_storeCells_at (P:=P) b n T (bP m g) 0 (bw n f c) w rp (by rw[ac7 f jc,fY];omega) hs.one;simp only[nZ,fY]at fw;have bE:(mD #[t,tx] ty #[.slice (some ⟨b,0,none⟩) n c,xv]).run P w=.ok (.slice (some ⟨b,0,none⟩) (n+m) c) (w.setRow b ((bw n f c).toList.take n++bP m g++(bw n f c).toList.drop (n+m)).toArray):=by
     rcases iQ.kind with⟨e',hk⟩|hk<;>simp[mD,dg ht,dg hk,nY,typeInfo,bS,iQ.len,mM,hs.cells,hU,di,fw,jb]
    refine⟨_,_,bE,by simpa using Ch.setRow w b _,some ⟨b,0,none⟩,c,[⟨b,true,.cells (bw (n+m) (ca n f g) c) T (0,0)⟩],rfl,⟨mM,.inr ⟨b,rfl,rfl⟩⟩,?_⟩;intro y hy;obtain rfl:=i_.1 hy;refine⟨?_,.inl ⟨_,i_.2 rfl,rfl⟩⟩;have:=setRow_heap w b (bw n f c) ((bw n f c).toList.take n++bP m g++(bw n f c).toList.drop (n+m)).toArray T (0,0) rp;rw[this];congr 2;unfold bw;congr 1;show(bP n f++_).take n++_++(bP n f++_).drop (n+m)=_;rw[List.take_left' (fY n f),<-List.drop_drop,List.drop_left' (fY n f),List.drop_replicate,<-Im];congr 2;omega
 ·have hg:c<n+m:=by omega
  have hold:(Builtin.firstCells i.size n (.slice x n c)).run P w.drew=.ok (bP n f).toArray w.drew:=by
   rcases ju with⟨rfl,rfl,rfl,_⟩|⟨b,rfl,rfl⟩
   ·exact run_firstCells_none (P:=P) w.drew i.size 0 0 0
   ·have rp:=aK _ (i_.2 rfl);refine run_firstCells_some (P:=P) w.drew i.size n ⟨b,0,none⟩ n c (bP n f) (by rw[fY,di,Nat.mul_one]) (λj v hj=>?_);obtain⟨jM,rfl⟩:=wP hj;rw[hU];have:w.drew.cell? ⟨b,0+j,none⟩=w.cell? ⟨b,j,none⟩:=by simp
    rw[this,cell_of rp];simp only[bw,iX];rw[gI (by rw[fY];exact jM),qa f jM]
  have bE:=run_append_grow_src (P:=P) w t tx ty T i z0 ht bS kV x n c (bP n f) hold xv m (bP m g) iQ hg (by simp only[maxLen]at h63;omega) (by rw[gW];exact growslice_fits hg (by omega));have eo:=grownCap_ge w (n+m) c T;refine⟨_,_,bE,?_,some ⟨w.heap.size,0,none⟩,grownCap w (n+m) c T,[⟨w.heap.size,true,.cells (bw (n+m) (ca n f g) (grownCap w (n+m) c T)) T (0,0)⟩],rfl,⟨eo,.inr ⟨_,rfl,rfl⟩⟩,?_⟩
  ·exact((Ch.refl (bl.map ai.id) w).drew).trans (Ch.alloc (bl.map ai.id) w.drew _) (λx hx=>.inl hx)
  ·intro y hy;obtain rfl:=i_.1 hy;refine⟨?_,.inr (dE _)⟩;have:=mC w.drew (.cells ((bP n f++bP m g).toArray++nz z0.cells (grownCap w (n+m) c T-(n+m))) T);refine Eq.trans this ?_;congr 2;apply eO;rw[mL,Array.toList_append,Iq];show bP n f++bP m g++_=bP (n+m) (ca n f g)++_;rw[<-Im]
end
section
variable{P:aC} {ops:Array an} {rest:List an} {o:an} {a:Act} {w w0:ae} {ms:List Nat} {Q:dN->Act->ae->Prop}
theorem Vb {A bl R:List ai} {xs:Option aI} {T n c m:Nat} {f g:Nat->Int} {t tx:aD} {s x:aZ} {xv:ab} (S:St ms w0 (A++(bl++R)) w) (hr:eA T n f xs c bl) (hs:Src P 1 tx xv m (bP m g) w) (hbd:n+m<=140737488355328)
 (k:∀x' c' bl' w',eA T (n+m) (ca n f g) x' c' bl'->St ms w0 (A++(bl'++R)) w'->WL P ops Q rest (a.put o.dst (.slice x' (n+m) c')) w')
 (ho:o.op=.call ⟨.builtin .append,#[s,x],#[t,tx]⟩:=by rfl) (hw:gf o (yielded ops a.tmps)=true:=by kernel_rfl) (yV:a.eval s=.slice xs n c:=by kernel_rfl) (yW:a.eval x=xv:=by kernel_rfl)
 (ht:P.underlying t=some (.slice T):=by kernel_rfl) (bS:(P.info? T).map (λi=>(i.zero.map (·.cells),i.size,i.bytes))=some (some #[.int .u8 0],1,1):=by kernel_rfl):WL P ops Q (o::rest) a w:=
 WL.want hw λK hK=>by
  obtain⟨v,w',bE,hc,x',c',bl',rfl,fl,aK⟩:=M9 (P:=P) (ty:=o.type) hr (λy hy=>S.at' (by simp[hy])) hs ht bS hbd;have S2:=S.sQ hr.wr hc (λy hy=>(aK y hy).1) (λy hy=>(aK y hy).2) (by
   rcases fl.2 with⟨_,_,_,rfl⟩|⟨b,_,rfl⟩<;>simp)
  unfold nv;rw[iR ho yV yW bE];exact hK _ _ (k x' c' bl' w' fl S2)
end
end Sx
namespace Sx
open Go Go.RowKit Go.BigFrame
def y_ (f:Nat->Int) (k:Nat):Nat->Int:=λj=>f (k+j)
theorem Eh {T n f x c bl} (h:eA T n f x c bl) (hn:0<n):∃b,n<=c/\x=some ⟨b,0,none⟩/\bl=[⟨b,true,.cells (bw n f c) T (0,0)⟩]:=by
 rcases h.2 with⟨_,h0,_,_⟩|⟨b,h1,h2⟩
 ·omega
 ·exact⟨b,h.1,h1,h2⟩
theorem St.zb {ms:List Nat} {w0 w:ae} {bs:List ai} (S:St ms w0 bs w) (i:Nat) {b n c:Nat} {wr:Bool} {f:Nat->Int} {t:aD} {fr:Nat×Nat} (hb:bs[i]?=some ⟨b,wr,.cells (bw n f c) t fr⟩:=by kernel_rfl):bV w b 0 n f:=λj hj=>by
 rw[cell_of (S.at_ i _ hb),eh];simp only[bw,iX];rw[gI (by rw[fY];exact hj),qa f hj]
end Sx
namespace Sx
open Go
end Sx
namespace Sx
open Go Go.RowKit Go.BigFrame
theorem Ch.ac8 (w:ae) (r:Nat) (o:Obj):Ch [r] w {w with heap:=w.heap.setIfInBounds r o}:=
 ⟨rfl,rfl,rfl,by simp,λk hk hm=>by
  show(w.heap.setIfInBounds r o)[k]?=w.heap[k]?;rw[Array.getElem?_setIfInBounds_ne (λe=>hm (by simp[e]))]⟩
def lX (kd:eE) (l:List (Int×ab)):Obj:=.map ((l.zipIdx.map λx=>(⟨.int kd x.1.1,x.1.2,x.2⟩:uo)).toArray) l.length
theorem Vc (kd:eE) (k:Int):∀(l:List uo) (i:Nat),(∀e∈l,∃j,e.key=.int kd j/\j≠k)->My (.int kd) (.int kd k) l i=some none
 |[],_,_=>rfl
 |e::es,i,h=>by
  obtain⟨j,h1,h2⟩:=h e (A9 _);have:Instr.sameNow (.int kd) (.int kd k) e.key=some false:=by
   rw[h1];simp[Instr.sameNow];exact λh=>h2 h.symm
  simp[My,this,Vc kd k es (i+1) (λx hx=>h x (Uq _ hx))]
theorem ac9 (kd:eE) (l:List (Int×ab)) (k:Int) (v:ab):
 Obj.map (((l.zipIdx.map λx=>(⟨.int kd x.1.1,x.1.2,x.2⟩:uo)).toArray).push ⟨.int kd k,v,l.length⟩) (l.length+1)=lX kd (l++[(k,v)]):=by
 simp[lX,List.zipIdx_append]
theorem ac_ {kd:eE} {l:List (Int×ab)} {k:Int} (h:l.all (λx=>x.1!=k)=true):∀e∈(l.zipIdx.map λx=>(⟨.int kd x.1.1,x.1.2,x.2⟩:uo)),∃j,e.key=.int kd j/\j≠k:=by
 intro e he;obtain⟨x,hx,rfl⟩:=ny.1 he;have hm:=(List.mem_zipIdx hx);have h2:x.1∈l:=by
  obtain⟨_,_,h3⟩:=hm;rw[h3];exact List.getElem_mem _
 exact⟨x.1.1,rfl,by simpa using fK.1 h _ h2⟩
section
variable{P:aC} {ops:Array an} {rest:List an} {o:an} {a:Act} {w w0:ae} {ms:List Nat} {bs:List ai} {Q:dN->Act->ae->Prop}
end
theorem ada (g:Nat->Int):ca 0 (λ_=>0) g=g:=by
 funext j;show(bif cj j 0 then _ else _)=_;rw[show cj j 0=false from by cases j<;>rfl];simp
theorem St.beside {ms:List Nat} {w0 w w1:ae} {bs bl:List ai} (S:St ms w0 bs w) (T:St [] w bl w1) (h:Wr bl):St ms w0 (bl++bs) w1:=by
 have hq:=S.quiet T.ch;refine St.mk' hq.ch (λx hx=>?_) (λx hx hw=>?_) ?_
 ·rcases ez.1 hx with h1|h1
  ·exact T.at' h1
  ·exact hq.at' h1
 ·rcases ez.1 hx with h1|h1
  ·rcases T.nC h1 hw with h2|h2
   ·cases h2
   ·exact .inr (iH S.ch.size h2)
  ·exact hq.nC h1 hw
 ·rw[Mu];refine⟨T.pw,hq.pw,λx hx y hy _ e=>?_⟩;rcases T.nC hx (h x hx)with h2|h2
  ·cases h2
  ·have:=S.ge hy;omega
theorem adb {w w1:ae} (hc:Ch [] w w1) {a:aI} {v:ab} (h:w.cell? a=some v):w1.cell? a=some v:=by
 have hb:a.block<w.heap.size:=by
  unfold wx at h;split at h
  ·next h2=>exact n_ h2
  ·cases h
 have h3:=hc.block _ hb (by simp);unfold wx at h⊢;rw[h3];exact h
def im (w:ae) (a:Option aI) (n c:Nat) (f:Nat->Int):Prop:=n<=c/\(a=none->n=0/\c=0)/\∀x,a=some x->∀j,j<n->w.cell? (x.add j)=some (.int .u8 (f j))
def dD (w:ae) (a:Option aI) (n c:Nat) (f:Nat->Int):Prop:=n<=1000000/\im w a n c f
theorem im.quiet {w w1:ae} {a:Option aI} {n c:Nat} {f:Nat->Int} (h:im w a n c f) (hc:Ch [] w w1):im w1 a n c f:=⟨h.1,h.2.1,λx e j hj=>adb hc (h.2.2 x e j hj)⟩
theorem dD.quiet {w w1:ae} {a:Option aI} {n c:Nat} {f:Nat->Int} (h:dD w a n c f) (hc:Ch [] w w1):dD w1 a n c f:=⟨h.1,h.2.quiet hc⟩
theorem im.cut {w:ae} {a:Option aI} {n c m:Nat} {f:Nat->Int} (h:im w a n c f) (hm:m<=n) (hb:m<=1000000):dD w a m c f:=
 ⟨hb,iH hm h.1,λe=>⟨by have:=h.2.1 e;omega,(h.2.1 e).2⟩,λx e j hj=>h.2.2 x e j (by omega)⟩
theorem Ir {P:aC} {w:ae} {a:Option aI} {n c:Nat} {f:Nat->Int} (h:dD w a n c f) {tx e':aD} (hk:P.underlying tx=some (.slice e'):=by kernel_rfl):Src P 1 tx (.slice a n c) n (bP n f) w:=by
 obtain⟨h1,h2,h3,h4⟩:=h;cases a with
 |none=>
  obtain⟨rfl,rfl⟩:=h3 rfl;exact Src.ofNil _ hk 0
 |some x=>exact qR w hk _ n c _ (by rw[fY,Nat.mul_one]) (λj u hj=>by
  obtain⟨h5,rfl⟩:=wP hj;exact h4 x rfl j h5) Ee
def jd (m n:Nat):Nat:=min n m
theorem Vd (m n:Nat):(if((m:Nat):Int)<((n:Nat):Int)then((m:Nat):Int)else((n:Nat):Int))=((jd m n:Nat):Int):=by unfold jd;split<;>omega
theorem dD.Ve {w:ae} {a:Option aI} {n c:Nat} {f:Nat->Int} (h:dD w a n c f) (hn:0<n):∃x,a=some x:=by
 cases a with
 |none=>have:=(h.2.2.1 rfl).1;omega
 |some x=>exact⟨x,rfl⟩
theorem dD.M_ {w:ae} {b o n c:Nat} {f:Nat->Int} (h:bV w b o n f) (hn:n<=1000000) (hc:n<=c):dD w (some ⟨b,o,none⟩) n c f:=
 ⟨hn,hc,λe=>absurd e (by simp),λx e j hj=>by cases e;rw[hU];exact h j hj⟩
section
variable{P:aC} {ops:Array an} {rest:List an} {o o':an} {a:Act} {w w0:ae} {ms:List Nat} {bs:List ai} {Q:dN->Act->ae->Prop}
theorem sT (b o n off i:Nat) (f:Nat->Int) (h8:bV w b o n f) (hi:i<n) (he:off=o+i) {x:aZ} {ty:aD} (k:WL P ops Q rest (a.put o'.dst (.int .u8 (f i))) w) (hw:gf o' (yielded ops a.tmps)=true:=by kernel_rfl) (ho:o'.op=.load ty x:=by rfl) (hx:a.eval x=.pointer (some ⟨b,off,none⟩):=by kernel_rfl)
 (ha:(P.underlying ty).map iO=some false:=by kernel_rfl):WL P ops Q (o'::rest) a w:=
 ak _ k hw (by
  have:=h8 i hi;rw[<-he]at this;unfold execOp;simp only[ho,hx,pC,iJ,bj,cW,cd];unfold loadVar;rw[bj,yM ha];simp[load,Sem.run,this])
end
section
variable{P:aC}
theorem Vf {w:ae} {T n c m:Nat} {f g:Nat->Int} {x:Option aI} (hx:dD w x n c f)
 {t tx ty:aD} {xv:ab} (hs:Src P 1 tx xv m (bP m g) w) (ht:P.underlying t=some (.slice T)) (hi:(P.info? T).map (λi=>(i.zero.map (·.cells),i.size,i.bytes))=some (some #[.int .u8 0],1,1))
 (hb:n+m<=140737488355328) (hg:c<n+m):
 ∃b c' w',(mD #[t,tx] ty #[.slice x n c,xv]).run P w=.ok (.slice (some ⟨b,0,none⟩) (n+m) c') w'/\n+m<=c'/\Ch [] w w'/\w.heap.size<=b/\w'.heap[b]?=some (.cells (bw (n+m) (ca n f g) c') T (0,0)):=by
 obtain⟨i,bS,hi⟩:=gH.1 hi;simp only[bd]at hi;obtain⟨hz,di,gW⟩:=hi;obtain⟨z0,kV,mL⟩:=gH.1 hz;have iQ:Src P i.size tx xv m (bP m g) w:=by rw[di];exact hs
 have h63:n+m<=maxLen:=by unfold maxLen;omega
 have hold:(Builtin.firstCells i.size n (.slice x n c)).run P w.drew=.ok (bP n f).toArray w.drew:=by
  cases x with
  |none=>
   obtain⟨rfl,rfl⟩:=hx.2.2.1 rfl;exact run_firstCells_none (P:=P) w.drew i.size 0 0 0
  |some a=>
   refine run_firstCells_some (P:=P) w.drew i.size n a n c (bP n f) (by rw[fY,di,Nat.mul_one]) (λj v hj=>?_);obtain⟨jM,rfl⟩:=wP hj;have:=hx.2.2.2 a rfl j jM;simpa using this
 have bE:=run_append_grow_src (P:=P) w t tx ty T i z0 ht bS kV x n c (bP n f) hold xv m (bP m g) iQ hg (by simp only[maxLen]at h63;omega) (by rw[gW];exact growslice_fits hg (by omega));have eo:=grownCap_ge w (n+m) c T;refine⟨w.heap.size,grownCap w (n+m) c T,_,bE,eo,?_,dE _,?_⟩
 ·exact((Ch.refl [] w).drew).trans (Ch.alloc [] w.drew _) (λx hx=>.inl hx)
 ·have:=mC w.drew (.cells ((bP n f++bP m g).toArray++nz z0.cells (grownCap w (n+m) c T-(n+m))) T);refine Eq.trans this ?_;congr 2;apply eO;rw[mL,Array.toList_append,Iq];show bP n f++bP m g++_=bP (n+m) (ca n f g)++_;rw[<-Im]
end
section
variable{P:aC} {o:an} {ρ:aZ->ab} {w w0:ae} {ms:List Nat} {bs:List ai} {R:ab->ae->Prop}
theorem Y.Vg {x0:Option aI} {T n c m:Nat} {f g:Nat->Int} {t tx:aD} {s x:aZ} {xv:ab} (S:St ms w0 bs w) (BC:dD w x0 n c f) (hs:Src P 1 tx xv m (bP m g) w) (hbd:n+m<=140737488355328) (hg:c<n+m)
 (k:∀b c' w',n+m<=c'->St ms w0 (⟨b,true,.cells (bw (n+m) (ca n f g) c') T (0,0)⟩::bs) w'->R (.slice (some ⟨b,0,none⟩) (n+m) c') w')
 (ho:o.op=.call ⟨.builtin .append,#[s,x],#[t,tx]⟩:=by rfl) (yV:ρ s=.slice x0 n c:=by kernel_rfl) (yW:ρ x=xv:=by kernel_rfl)
 (ht:P.underlying t=some (.slice T):=by kernel_rfl) (bS:(P.info? T).map (λi=>(i.zero.map (·.cells),i.size,i.bytes))=some (some #[.int .u8 0],1,1):=by kernel_rfl):Yields P o ρ w R:=by
 obtain⟨b,c',w',bE,hc,bT,hb,aK⟩:=Vf (P:=P) (ty:=o.type) BC hs ht bS hbd hg;unfold Yields;rw[iR ho yV yW bE];exact k b c' w' hc (S.new bT hb aK)
end
section
variable{P:aC} {ops:Array an} {rest:List an} {o:an} {a:Act} {w:ae} {Q:dN->Act->ae->Prop} {ρ:aZ->ab} {R:ab->ae->Prop}
theorem Na (kd Nb:eE) (x y:Int) {t yt:aD} {xo yo:aZ} (h:0<=y) (k:WL P ops Q rest (a.put o.dst (.int kd (kd.wrap (x*2^(min y.toNat kd.bits))))) w) (hw:gf o (yielded ops a.tmps)=true:=by kernel_rfl)
 (ho:o.op=.binOp .shl t xo yo yt:=by rfl) (hx:a.eval xo=.int kd x:=by kernel_rfl) (hy:a.eval yo=.int Nb y:=by kernel_rfl):WL P ops Q (o::rest) a w:=
 ak _ k hw (by
  have hn:¬y<0:=by omega
  unfold execOp;simp[ho,hx,hy,Go.eqGuard,Go.binOp,Op.shift,hn])
theorem Y.Na (kd Nb:eE) (x y:Int) {t yt:aD} {xo yo:aZ} (h:0<=y) (k:R (.int kd (kd.wrap (x*2^(min y.toNat kd.bits)))) w)
 (ho:o.op=.binOp .shl t xo yo yt:=by rfl) (hx:ρ xo=.int kd x:=by kernel_rfl) (hy:ρ yo=.int Nb y:=by kernel_rfl):Yields P o ρ w R:=
 Y.ak _ k (by
  have hn:¬y<0:=by omega
  unfold execOp;simp[ho,hx,hy,Go.eqGuard,Go.binOp,Op.shift,hn])
end
def cZ (l:List Int):Nat->Int:=λj=>l.getD j 0
section
variable{P:aC} {ops:Array an} {rest:List an} {o:an} {a:Act} {w w0:ae} {ms:List Nat} {bs:List ai} {Q:dN->Act->ae->Prop} {ρ:aZ->ab}
theorem ade (neg:Bool) (r:Bool) (xs ys:Array ab) {v:ab} (hv:v=.bool (bif neg then !r else r)) {t yt:aD} {x y:aZ} (ho:o.op=.binOp (bif neg then .neq else .eql) t x y yt:=by rfl) (hx:ρ x=.agg xs:=by kernel_rfl) (hy:ρ y=.agg ys:=by kernel_rfl) (hg:P.eqGuardType P.depth t=false:=by kernel_rfl) (he:wI P 10000 t (.agg xs) (.agg ys)=some r:=by kernel_rfl):
 (execOp ρ o).run P w=.ok (.value v) w:=by
 rw[hv];exact acH neg ho hx hy hg he
theorem Vg {x0:Option aI} {T n c m:Nat} {f g:Nat->Int} {t tx:aD} {s x:aZ} {xv:ab} (S:St ms w0 bs w) (BC:dD w x0 n c f) (hs:Src P 1 tx xv m (bP m g) w) (hbd:n+m<=140737488355328) (hg:c<n+m)
 (k:∀b c' w',n+m<=c'->St ms w0 (⟨b,true,.cells (bw (n+m) (ca n f g) c') T (0,0)⟩::bs) w'->WL P ops Q rest (a.put o.dst (.slice (some ⟨b,0,none⟩) (n+m) c')) w')
 (hw:gf o (yielded ops a.tmps)=true:=by kernel_rfl) (ho:o.op=.call ⟨.builtin .append,#[s,x],#[t,tx]⟩:=by rfl) (yV:a.eval s=.slice x0 n c:=by kernel_rfl) (yW:a.eval x=xv:=by kernel_rfl)
 (ht:P.underlying t=some (.slice T):=by kernel_rfl) (bS:(P.info? T).map (λi=>(i.zero.map (·.cells),i.size,i.bytes))=some (some #[.int .u8 0],1,1):=by kernel_rfl):WL P ops Q (o::rest) a w:=
 WL.want hw λK hK=>by
  obtain⟨b,c',w',bE,hc,bT,hb,aK⟩:=Vf (P:=P) (ty:=o.type) BC hs ht bS hbd hg;unfold nv;rw[iR ho yV yW bE];exact hK _ _ (k b c' w' hc (S.new bT hb aK))
end
theorem St.up {ms:List Nat} {w0 w:ae} {b:Nat} {o:Obj} {B:List ai} {L:List Nat} (S:St ms w0 (⟨b,false,o⟩::B) w) (Nc:w0.heap.size<=b) (hT:Ty L B) (hd:Va L [BB o]=true:=by kernel_rfl):St ms w0 (⟨b,true,o⟩::B) w:=by
 refine St.mk' S.ch (λx hx=>?_) (λx hx hw=>?_) ?_
 ·rcases bY.1 hx with rfl|hx
  ·exact S.at' (x:=⟨b,false,o⟩) (A9 _)
  ·exact S.at' (Uq _ hx)
 ·rcases bY.1 hx with rfl|hx
  ·exact .inr Nc
  ·exact S.nC (Uq _ hx) hw
 ·refine yH.2 ⟨λy hy _ e=>?_,(yH.1 S.pw).2⟩;have h1:=S.at' (x:=⟨b,false,o⟩) (A9 _);have h2:=S.at' (Uq _ hy);simp only at h1 e;rw[e,h2]at h1;exact hT.ne hd y hy _ (A9 _) (congrArg BB (ck h1))
end Sx
namespace Sd
abbrev aw:=Nat->Int
structure Timer where
 n:Int
 most:Int
deriving DecidableEq,Inhabited
structure Tok where
 aE:Int
 af:Int
 offer:Int
 oa:Timer
 la:Timer
 bad:Bool
deriving DecidableEq,Inhabited
structure Label where
 lY:Int
 source:Int
 seq:Int
deriving DecidableEq,Inhabited
structure X4 where
 a:Int
 b:Int
 c:Int
 d:Int
deriving DecidableEq,Inhabited
def X4.get (x:X4) (i:Nat):Int:=match i with|0=>x.a|1=>x.b|2=>x.c|_=>x.d
def X4.map (f:Int->Int) (x:X4):X4:=⟨f x.a,f x.b,f x.c,f x.d⟩
def X4.zip (f:Int->Int->Int) (x y:X4):X4:=⟨f x.a y.a,f x.b y.b,f x.c y.c,f x.d y.d⟩
def X4.zero:X4:=⟨0,0,0,0⟩
structure eu where
 cls:Int
 aV:X4
 now:X4
 bG:Label
deriving DecidableEq,Inhabited
structure Rec where
 kind:Int
 source:Int
 seq:Int
 af:Int
 code:Int
 how:Int
deriving DecidableEq,Inhabited
structure bo where
 kind:Int
 seq:Int
 role:Int
 aV:Int
 af:Int
 mode:Int
 cls:Int
 now:Bool
 x:X4
deriving DecidableEq,Inhabited
structure aF where
 kind:Int
 seq:Int:=0
 role:Int:=0
 c_:Int:=0
 af:Int:=0
 code:Int:=0
 au:aw:=λ_=>0
deriving Inhabited
structure mO where
 valid:Bool
 x:X4
 Is:Bool
deriving DecidableEq,Inhabited
structure gi where
 any:Bool
 high:Int
 seen:Int
deriving DecidableEq,Inhabited
structure Ask where
 source:Int
 bD:Int
 fZ:Timer
deriving DecidableEq,Inhabited
structure dG where
 many:Int
 gy:Bool
 au:aw
deriving Inhabited
structure gz where
 on:Bool
 eB:Timer
 role:Int
 key:aw
 seen:gi
deriving Inhabited
structure Act where
 mode:Int
 cls:Int
 out:X4
 fm:Label
 as7:Label
deriving DecidableEq,Inhabited
structure aJ where
 i:Nat->Int
 k:Nat->Nat×aw
namespace aJ
def order (p:aJ) (k:Nat):Int:=p.i k
def BD (p:aJ) (s:Nat):Int:=p.i (9+s)
def table (p:aJ) (m r:Nat):Int:=p.i (14+4*m+r)
def graph (p:aJ) (m:Nat):Int:=p.i (34+m)
def start (p:aJ):Int:=p.i 39
def safe (p:aJ):Int:=p.i 40
def lost (p:aJ):Int:=p.i 41
def b_ (p:aJ):Int:=p.i 42
def dP (p:aJ):Int:=p.i 43
def offer (p:aJ):Int:=p.i 44
def ask (p:aJ):Int:=p.i 45
def sU (p:aJ):Int:=p.i 46
def beyond (p:aJ):Int:=p.i 47
def queue (p:aJ):Int:=p.i 48
def eS (p:aJ):Int:=p.i 49
def most (p:aJ) (c:Nat):Int:=p.i (50+c)
def BE (p:aJ):Int:=p.i 54
def af (p:aJ):Int:=p.i 55
end aJ
end Sd
namespace Sd
def sat (n most:Int):Int:=if n<most then n+1 else most
def sV (n low high:Int):Int:=if n<low then low else if high<n then high else n
def qb (now aV bG:Int):Int:=
 if bG<1 then now
 else if now<=aV then(if aV-now<=bG then aV else now+bG)
 else(if now-aV<=bG then aV else now-bG)
def has (set i:Int):Bool:=decide (0<=set)&&decide (0<=i)&&decide (i<=62)&&decide (set/2^i.toNat%2=1)
namespace Timer
def zero:Timer:=⟨0,0⟩
def start (most:Int):Timer:=⟨0,max most 0⟩
def step (t:Timer):Timer:={t with n:=sat t.n t.most}
def due (t:Timer):Bool:=decide (t.most<=t.n)
end Timer
def placeOf (p:aJ) (s:Int):Int:=
 if p.i 0=s then 0 else if p.i 1=s then 1 else if p.i 2=s then 2 else if p.i 3=s then 3 else if p.i 4=s then 4 else-1
def bD (p:aJ) (s:Int):Int:=placeOf p s
def ff (p:aJ) (a b:Int):Bool:=decide (placeOf p a≠-1)&&decide (placeOf p b≠-1)&&decide (placeOf p a<placeOf p b)
def below (n bound:Int):Bool:=decide (0<=n)&&decide (n<bound)
def eJ (p:aJ) (source role:Int):Bool:=below source 5&&below role 4&&has (p.BD source.toNat) role
def may (p:aJ) (mode role cls:Int):Bool:=below mode 5&&below role 4&&below cls 4&&has (p.table mode.toNat role.toNat) cls
def goes (p:aJ) (from_ aV:Int):Bool:=below from_ 5&&below aV 5&&has (p.graph from_.toNat) aV
namespace Tok
def pass (t:Tok) (aV af:Int):Tok:=⟨aV,af,-1,.zero,.zero,t.bad⟩
def new (p:aJ):Tok:=⟨4,p.af,-1,.zero,.zero,false⟩
def c9 (t:Tok) (aV:Int):Tok×Int:=
 if aV<0\/5<=aV then(t,1)else if aV=t.aE then(t,25)else if 65535<=t.af then(t,24)
 else(t.pass aV (t.af+1),0)
def jv (t:Tok):Tok:=t.pass 4 (if t.aE≠4 then sat t.af 65535 else t.af)
def gX (t:Tok):Tok:={t with offer:=-1,oa:=.zero}
def make (p:aJ) (t:Tok) (from_ aV:Int) (there:Bool):Tok×Int:=
 if from_≠t.aE then(t,20)else if 65535<=t.af then(t,24)else if aV=from_ then(t,25)
 else if aV<1\/3<aV\/there=false then(t,2)else if 0<=t.offer then(t,28)
 else({t with offer:=aV,oa:=.start p.offer},0)
def accept (t:Tok) (from_ af:Int):Tok×Int:=
 if t.offer<0\/t.offer≠from_ then(t,28)else if af≠t.af then(t,21)else t.c9 from_
def fg (t:Tok) (from_:Int):Tok×Int:=
 if t.offer<0\/t.offer≠from_ then(t,28)else(t.gX,0)
def drop (t:Tok) (source:Int):Tok×Bool:=
 if t.offer<0\/t.offer≠source then(t,false)else(t.gX,true)
def tick (t:Tok):Tok×Int:=
 if t.offer<0 then(t,-1)
 else if t.oa.step.due then(({t with oa:=t.oa.step}:Tok).gX,t.offer)
 else({t with oa:=t.oa.step},-1)
end Tok
namespace Q
def waits (l:List Ask) (s:Int):Bool:=l.any λa=>decide (a.source=s)
def insert (l:List Ask) (a:Ask):List Ask:=(l.takeWhile λx=>decide (x.bD<=a.bD))++a::(l.dropWhile λx=>decide (x.bD<=a.bD))
def push (most:Int) (l:List Ask) (a:Ask):List Ask×Int:=
 if waits l a.source then(l,27)else if most<=l.length then(l,3)else(insert l a,0)
def drop (l:List Ask) (s:Int):List Ask:=l.filter λa=>decide (a.source≠s)
def zd (l:List Ask):List Ask:=l.map λa=>{a with fZ:=a.fZ.step}
def gone (l:List Ask):List Ask:=(zd l).filter λa=>a.fZ.due
def kept (l:List Ask):List Ask:=(zd l).filter λa=>!a.fZ.due
end Q
def fI (p:aJ) (t:Tok) (most:Int) (q:List Ask) (from_:Int) (now:Bool):Tok×Int×Int×List Ask:=
 if t.bad then(t,0,29,q)else if from_=t.aE then(t,0,25,q)else if 65535<=t.af then(t,0,24,q)
 else if t.aE=4\/(now=true/\ff p from_ t.aE=true)then
  (if(t.c9 from_).2≠0 then(t,0,(t.c9 from_).2,q)else((t.c9 from_).1,3,0,Q.drop q from_))
 else if now then(t,0,26,q)
 else(t,0,(Q.push most q ⟨from_,bD p from_,.start p.ask⟩).2,(Q.push most q ⟨from_,bD p from_,.start p.ask⟩).1)
def eT (t:Tok) (q:List Ask):Tok×Int×List Ask:=
 match q with
 |[]=>(t,2,q)
 |a::_=>if(t.c9 a.source).2≠0 then(t,(t.c9 a.source).2,q)else((t.c9 a.source).1,0,Q.drop q a.source)
def cQ (t:Tok) (q:List Ask) (from_:Int):Tok×Int×List Ask:=
 if from_≠t.aE then(t,20,q)else if 65535<=t.af then(t,24,q)else eT t q
def fR (p:aJ) (t:Tok) (q:List Ask) (there:Bool):Tok×Int×List Ask:=
 if t.aE=4\/there=true then({t with la:=.zero},0,q)
 else
  let la:=(if t.la.most=0 then Timer.start p.dP else t.la).step
  let t1:Tok:={t with la:=la}
  if la.due=false then(t1,0,q)
  else if 65535<=t.af then(t1.jv,6,q)
  else if(eT t1 q).2.1≠0 then((t1.c9 4).1,5,(eT t1 q).2.2)
  else((eT t1 q).1,5,(eT t1 q).2.2)
namespace eu
def set (p:aJ) (pt:eu) (cls:Int) (x:X4) (bG:Label):eu:=
 {pt with cls:=cls,bG:=bG,aV:=if cls<0\/4<=cls then .zero else x.map λn=>sV n (-(p.most cls.toNat)) (p.most cls.toNat)}
def hold (pt:eu) (bG:Label):eu:={pt with aV:=.zero,bG:=bG}
def step (p:aJ) (pt:eu):eu:=
 let now:=X4.zip (λa b=>qb a b p.BE) pt.now pt.aV
 {pt with now:=now,bG:=if now=pt.now then pt.bG else{pt.bG with lY:=4}}
end eu
def rj (most:Int) (x:X4):Bool:=
 (decide (x.a< -most)||decide (most<x.a))||(decide (x.b< -most)||decide (most<x.b))||(decide (x.c< -most)||decide (most<x.c))||(decide (x.d< -most)||decide (most<x.d))
def fh (p:aJ) (run:Int) (s:mO):Int×Bool:=
 if s.valid=false\/rj p.beyond s.x=false then(0,false)
 else(sat (max run 0) p.sU,decide (p.sU<=sat (max run 0) p.sU))
def lZ (p:aJ) (t:Tok) (source role mode:Int) (m:bo):Int:=
 if m.kind≠10/\m.kind≠11 then 1 else if source≠t.aE then 20 else if m.af≠t.af then 21
 else if may p mode role (if m.kind=10 then 0 else m.cls)=false then 22
 else if m.kind=10/\goes p mode m.mode=false then 23 else 0
end Sd
namespace Sd
def l5 (k:Int):bo:=⟨k,0,0,0,0,0,0,false,.zero⟩
structure aN where
 take:Nat->aw->Option bo
 au:Nat×aw->Int->Int->aw
 right:Nat×aw->Int->Int->aw->aw->Bool
 key:Nat×aw->Int->Int->aw->aw
 opens:aw->Int->Nat->aw->Bool
 next:aw->Rec->aw
 fh:gi->Int->gi
structure az where
 cO:Bool×Timer
 aj:Nat->gz
def gz.zero:gz:=⟨false,.zero,0,λ_=>0,⟨false,0,0⟩⟩
namespace az
def new:az:=⟨(false,.zero),λ_=>.zero⟩
def dt (t:az) (s:Int):Bool:=decide (1<=s)&&decide (s<=3)&&(t.aj (s.toNat-1)).on
def on (t:az) (s:Int):Bool:=if s=4 then true else if s=0 then t.cO.1 else t.dt s
def role (t:az) (s:Int):Int:=if t.dt s then(t.aj (s.toNat-1)).role else 0
def many (t:az):Int:=(if(t.aj 0).on then 1 else 0)+(if(t.aj 1).on then 1 else 0)+(if(t.aj 2).on then 1 else 0)
def dW (t:az) (i:Nat) (s:gz):az:={t with aj:=λj=>if j=i then s else t.aj j}
def dU (p:aJ) (t:az) (s r:Int) (key:aw):az×Int:=
 if s<1\/3<s\/r<0\/4<=r then(t,1)
 else if t.dt s=false/\p.eS<=t.many then(t,19)
 else(t.dW (s.toNat-1) ⟨true,.start p.b_,r,key,⟨false,0,0⟩⟩,0)
def take (C:aN) (p:aJ) (t:az) (s:Int) (n:Nat) (f:aw):az×Except Int bo:=
 if t.dt s=false then(t,.error 16)else
 if n<8\/C.opens (t.aj (s.toNat-1)).key s n f=false then(t,.error 14)else
  match C.take (n-8) f with
  |none=>(t,.error 13)
  |some m=>
   if m.kind=1\/m.kind=2 then(t,.error 13)
   else if C.fh (t.aj (s.toNat-1)).seen m.seq=(t.aj (s.toNat-1)).seen then(t,.error 15)
   else(t.dW (s.toNat-1) {(t.aj (s.toNat-1))with seen:=C.fh (t.aj (s.toNat-1)).seen m.seq,on:=true,eB:=.start p.b_},.ok m)
def end_ (t:az) (s:Int):az:=if t.dt s then t.dW (s.toNat-1) .zero else t
def kY (p:aJ) (t:az):az:={t with cO:=(true,.start p.b_)}
def adf (t:az):Bool:=t.cO.1&&t.cO.2.step.due
def It (t:az) (i:Nat):Bool:=(t.aj i).on&&(t.aj i).eB.step.due
def tick (t:az):az:=
 {cO:=if t.cO.1 then(if t.cO.2.step.due then(false,.zero)else(true,t.cO.2.step))else t.cO,aj:=λi=>if(t.aj i).on then(if(t.aj i).eB.step.due then gz.zero else{(t.aj i)with eB:=(t.aj i).eB.step})else t.aj i}
def ended (t:az):List Int:=
 (if t.adf then[0]else[])++(if t.It 0 then[1]else[])++(if t.It 1 then[2]else[])++(if t.It 2 then[3]else[])
end az
structure Core where
 p:aJ
 t:Tok
 q:List Ask
 doors:Nat->dG
 ag:az
 samples:Int
 beyond:Int
 mode:Int
 fm:Label
 pt:eu
 head:aw
structure aa where
 c:Core
 bz:List (Int×aF)
 br:List Rec
def sW:Label:=⟨2,4,0⟩
def linked (s:Int):Bool:=decide (1<=s)&&decide (s<=3)
def dG.zero:dG:=⟨0,false,λ_=>0⟩
def Core.new (p:aJ):Core:=
 ⟨p,.new p,[],λ_=>.zero,.new,0,0,p.start,sW,⟨1,.zero,.zero,sW⟩,λ_=>0⟩
def Core.act (c:Core):Act:=⟨c.mode,c.pt.cls,c.pt.now,c.fm,c.pt.bG⟩
namespace aa
variable(C:aN)
def tell (s:aa) (l:Int) (r:aF):aa:={s with bz:=s.bz++[(l,r)]}
def dI (s:aa) (l:Int) (r:aF):aa:=if linked l&&s.c.ag.on l then s.tell l r else s
def record (s:aa) (kind source seq code how:Int):aa:=
 let r:Rec:=⟨kind,source,seq,s.c.t.af,code,how⟩
 {s with br:=s.br++[r],c:={s.c with head:=C.next s.c.head r}}
def refuse (s:aa) (l n code:Int):aa:=(s.tell l {kind:=132,seq:=n,code:=code}).record C 7 l n code 0
def gY (s:aa) (l code:Int):aa:=s.record C 1 l 0 code 0
def done (s:aa) (l n:Int):aa:=s.tell l {kind:=131,seq:=n}
def goes (s:aa) (t:Tok) (how n:Int):aa:=
 let a:=s.c.t.aE
 let s1:aa:={s with c:={s.c with t:=t,q:=Q.drop s.c.q t.aE}}
 let s2:=s1.dI a {kind:=134,c_:=t.aE,af:=t.af}
 let s3:=s2.dI t.aE {kind:=133,af:=t.af}
 s3.record C 8 t.aE n 0 how
def gone (s:aa) (l c_ code:Int):aa:=s.dI l {kind:=136,c_:=c_,code:=code}
def leave (s:aa) (source:Int):aa:=
 let s1:aa:={s with c:={s.c with q:=Q.drop s.c.q source}}
 if(s1.c.t.drop source).2=false then s1
 else(({s1 with c:={s1.c with t:=(s1.c.t.drop source).1}}:aa).gone (s1.c.t.drop source).1.aE source 16).record C 12 source 0 16 0
def d_ (s:aa) (mode:Int) (bG:Label):aa:={s with c:={s.c with mode:=mode,fm:=bG,pt:=s.c.pt.hold bG}}
def jw (s:aa) (l:Int) (n:Nat) (f:aw):aa:=
 match C.take n f with
 |none=>s.gY C l 13
 |some m=>
  if eJ s.c.p l m.role=false then s.refuse C l 0 18
  else
   let d:=s.c.doors (l.toNat-1)
   if 4294967295<=d.many then s.refuse C l 0 24
   else
    let x:=C.au (s.c.p.k 3) l (d.many+1)
    let s1:aa:={s with c:={s.c with doors:=λj=>if j=l.toNat-1 then⟨d.many+1,true,x⟩else s.c.doors j}}
    (s1.tell l {kind:=129,au:=x}).record C 2 l 0 0 0
def prove (s:aa) (l:Int) (n:Nat) (f:aw):aa:=
 if n≠10 then s.gY C l 13
 else match C.take 2 f with
 |none=>s.gY C l 13
 |some m=>
  let d:=s.c.doors (l.toNat-1)
  if d.gy=false then s.refuse C l 0 17
  else
   let s1:aa:={s with c:={s.c with doors:=λj=>if j=l.toNat-1 then⟨d.many,false,λ_=>0⟩else s.c.doors j}}
   if C.right (s.c.p.k (l.toNat-1)) l m.role d.au (λj=>f (2+j))=false then s1.gY C l 14
   else if eJ s.c.p l m.role=false then s1.refuse C l 0 18
   else
    let(ag,e):=az.dU s.c.p s.c.ag l m.role (C.key (s.c.p.k (l.toNat-1)) l m.role d.au)
    if e≠0 then s1.refuse C l 0 e
    else
     let s2:aa:={s1 with c:={s1.c with ag:=ag}}
     (s2.tell l {kind:=130,role:=m.role,c_:=s.c.t.aE,af:=s.c.t.af}).record C 3 l 0 0 0
def dQ (s:aa) (t:Tok):aa:={s with c:={s.c with t:=t}}
def zf (s:aa) (l:Int) (m:bo):aa:=
 ((({s with c:={s.c with ag:=s.c.ag.end_ l}}:aa).leave C l).record C 4 l m.seq 0 0).done l m.seq
def ask (s:aa) (l:Int) (m:bo):aa:=
 let(t,how,e,q):=fI s.c.p s.c.t s.c.p.queue s.c.q l m.now
 if e≠0 then s.refuse C l m.seq e
 else
  let s1:aa:={s with c:={s.c with q:=q}}
  (if 0<how then s1.goes C t how m.seq else(s1.dQ t).record C 10 l m.seq 0 0).done l m.seq
def offer (s:aa) (l:Int) (m:bo):aa:=
 let(t,e):=Tok.make s.c.p s.c.t l m.aV (s.c.ag.on m.aV)
 if e≠0 then s.refuse C l m.seq e
 else((((s.dQ t).dI m.aV {kind:=135,c_:=l,af:=t.af}).record C 9 l m.seq 0 m.aV)).done l m.seq
def accept (s:aa) (l:Int) (m:bo):aa:=
 let(t,e):=s.c.t.accept l m.af
 if e≠0 then s.refuse C l m.seq e else(s.goes C t 1 m.seq).done l m.seq
def fg (s:aa) (l:Int) (m:bo):aa:=
 let(t,e):=s.c.t.fg l
 if e≠0 then s.refuse C l m.seq e
 else((((s.dQ t).gone t.aE l 0).record C 11 l m.seq 0 0)).done l m.seq
def release (s:aa) (l:Int) (m:bo):aa:=
 let(t,e,q):=cQ s.c.t s.c.q l
 if e≠0 then s.refuse C l m.seq e else(({s with c:={s.c with q:=q}}:aa).goes C t 2 m.seq).done l m.seq
def command (s:aa) (l:Int) (m:bo):aa:=
 let e:=lZ s.c.p s.c.t l (s.c.ag.role l) s.c.mode m
 if e≠0 then s.refuse C l m.seq e
 else
  let bG:Label:=⟨1,l,m.seq⟩
  let s1:aa:=if m.kind=10 then{s with c:={s.c with mode:=m.mode,fm:=bG}}
   else{s with c:={s.c with pt:=s.c.pt.set s.c.p m.cls m.x bG}}
  (s1.record C 6 l m.seq 0 0).done l m.seq
def jN (s:aa) (l:Int) (m:bo):aa:=
 if m.kind=3 then s.done l m.seq else if m.kind=4 then s.zf C l m else if m.kind=5 then s.ask C l m
 else if m.kind=6 then s.offer C l m else if m.kind=7 then s.accept C l m else if m.kind=8 then s.fg C l m
 else if m.kind=9 then s.release C l m else if m.kind=10\/m.kind=11 then s.command C l m else s
def item (s:aa) (l code:Int) (n:Nat) (f:aw):aa:=
 if code≠0 then s.gY C l code
 else if 0<n/\f 0=1 then s.jw C l n f
 else if 0<n/\f 0=2 then s.prove C l n f
 else
  match s.c.ag.take C s.c.p l n f with
  |(_,.error e)=>s.gY C l e
  |(ag,.ok m)=>({s with c:={s.c with ag:=ag}}:aa).jN C l m
def kY (s:aa) (x:mO):aa:=
 if x.valid=false then{s with c:={s.c with beyond:=0}}
 else
  let n:=sat s.c.samples 4294967295
  let r:=fh s.c.p s.c.beyond x
  let s1:aa:={s with c:={s.c with samples:=n,ag:=s.c.ag.kY s.c.p,beyond:=r.1}}
  if s.c.t.aE=0/\x.Is=true then
   let(t,e,q):=cQ s.c.t s.c.q 0
   if e≠0 then s1.record C 7 0 n e 0 else({s1 with c:={s1.c with q:=q}}:aa).goes C t 2 n
  else if s.c.t.aE=0 then
   let e:=lZ s.c.p s.c.t 0 0 s.c.mode {l5 11 with af:=s.c.t.af,cls:=1}
   if e≠0 then s1.record C 7 0 n e 0
   else({s1 with c:={s1.c with pt:=s1.c.pt.set s.c.p 1 x.x ⟨1,0,n⟩}}:aa).record C 6 0 n 0 0
  else if r.2 then
   let(t,e):=s.c.t.c9 0
   if e≠0 then s1.record C 7 0 n e 0 else s1.goes C t 4 n
  else s1
def wQ (s:aa) (bad:Bool):aa:=
 let s1:=s.dQ {s.c.t with bad:=bad}
 if bad=false then s1
 else
  let t:=s1.c.t.jv
  let s2:=if s1.c.t.aE≠4 then s1.goes C t 6 0 else s1.dQ t
  let s3:=s2.c.q.foldl (λ(s:aa) (a:Ask)=>({s with c:={s.c with q:=Q.drop s.c.q a.source}}:aa).gone a.source 4 29) s2
  s3.d_ s3.c.p.safe sW
def dP (s:aa):aa:=
 let(t,how,q):=fR s.c.p s.c.t s.c.q (s.c.ag.on s.c.t.aE)
 if how<=0 then s.dQ t
 else
  let s1:=({s with c:={s.c with q:=q}}:aa).goes C t how 0
  if how=5 then s1.d_ s1.c.p.lost ⟨3,4,0⟩else s1.d_ s1.c.p.safe sW
def tick (s:aa):aa:=
 let adg:=s.c.ag.ended
 let s0:aa:={s with c:={s.c with ag:=s.c.ag.tick}}
 let s1:=adg.foldl (λ(s:aa) (x:Int)=>let s:=s.record C 5 x 0 0 0;if linked x then s.leave C x else s) s0
 let(t,Nd):=s1.c.t.tick
 let s2:=s1.dQ t
 let s3:=if 0<=Nd then(s2.gone t.aE Nd 30).record C 12 Nd 0 30 0 else s2
 let late:=Q.gone s3.c.q
 let s4:aa:={s3 with c:={s3.c with q:=Q.kept s3.c.q}}
 let s5:=late.foldl (λ(s:aa) (a:Ask)=>(s.gone a.source a.source 30).record C 12 a.source 0 30 0) s4
 let s6:=s5.dP C
 {s6 with c:={s6.c with pt:=s6.c.pt.step s6.c.p}}
end aa
structure eF (p:aJ):Prop where
 o0:p.i 0=0
 o4:p.i 4=4
 perm:(p.i 1=1/\p.i 2=2/\p.i 3=3)\/(p.i 1=1/\p.i 2=3/\p.i 3=2)\/(p.i 1=2/\p.i 2=1/\p.i 3=3)\/
  (p.i 1=2/\p.i 2=3/\p.i 3=1)\/(p.i 1=3/\p.i 2=1/\p.i 3=2)\/(p.i 1=3/\p.i 2=2/\p.i 3=1)
 start:0<=p.start/\p.start<=4
 safe:0<=p.safe/\p.safe<=4
 lost:0<=p.lost/\p.lost<=4
 b_:1<=p.b_/\p.b_<=1000
 dP:1<=p.dP/\p.dP<=1000
 offer:1<=p.offer/\p.offer<=1000
 ask:1<=p.ask/\p.ask<=1000
 sU:1<=p.sU/\p.sU<=1000
 beyond:0<=p.beyond/\p.beyond<=1000
 queue:1<=p.queue/\p.queue<=3
 eS:1<=p.eS/\p.eS<=3
 most:∀c,c<4->0<=p.most c/\p.most c<=1000
 BE:1<=p.BE/\p.BE<=1000
 af:0<=p.af/\p.af<=65535
theorem Vh {p:aJ} (h:eF p) (s:Int) (h0:0<=s) (h4:s<=4):0<=placeOf p s/\placeOf p s<=4:=by
 have e:s=0\/s=1\/s=2\/s=3\/s=4:=by omega
 have:=h.o0;have:=h.o4
 rcases e with rfl|rfl|rfl|rfl|rfl<;>rcases h.perm with⟨a,b,c⟩|⟨a,b,c⟩|⟨a,b,c⟩|⟨a,b,c⟩|⟨a,b,c⟩|⟨a,b,c⟩<;>simp[placeOf, *]
theorem Vi {p:aJ} (h:eF p) {s t:Int} (hs:0<=s/\s<=4) (ht:0<=t/\t<=4) (e:placeOf p s=placeOf p t):s=t:=by
 have es:s=0\/s=1\/s=2\/s=3\/s=4:=by omega
 have et:t=0\/t=1\/t=2\/t=3\/t=4:=by omega
 have:=h.o0;have:=h.o4
 rcases es with rfl|rfl|rfl|rfl|rfl<;>rcases et with rfl|rfl|rfl|rfl|rfl<;>first|rfl|(rcases h.perm with⟨a,b,c⟩|⟨a,b,c⟩|⟨a,b,c⟩|⟨a,b,c⟩|⟨a,b,c⟩|⟨a,b,c⟩<;>simp[placeOf, *]at e)
theorem adh {p:aJ} (h:eF p) {s t:Int} (hs:0<=s/\s<=4) (ht:0<=t/\t<=4):ff p s t=decide (bD p s<bD p t):=by
 have a:=Vh h s hs.1 hs.2;have b:=Vh h t ht.1 ht.2;unfold ff bD;have a':placeOf p s≠-1:=by omega
 have b':placeOf p t≠-1:=by omega
 simp[a',b']
theorem adi {p:aJ} (h:eF p) {s:Int} (hs:0<=s/\s<=3):bD p s<bD p 4:=by
 have es:s=0\/s=1\/s=2\/s=3:=by omega
 have:=h.o0;have:=h.o4
 unfold bD;rcases es with rfl|rfl|rfl|rfl<;>rcases h.perm with⟨a,b,c⟩|⟨a,b,c⟩|⟨a,b,c⟩|⟨a,b,c⟩|⟨a,b,c⟩|⟨a,b,c⟩<;>simp[placeOf, *]
structure ox (p:aJ) (t:az) (aE:Int) (q:List Ask):Prop where
 each:∀a∈q,a.bD=bD p a.source/\1<=a.source/\a.source<=3/\t.on a.source=true/\a.source≠aE/\a.fZ.most=p.ask/\0<=a.fZ.n/\a.fZ.n<p.ask
 sorted:q.Pairwise λa b=>a.bD<b.bD
 len:(q.length:Int)<=p.queue
structure lC (p:aJ) (ag:az) (t:Tok):Prop where
 aE:0<=t.aE/\t.aE<=4
 af:p.af<=t.af/\t.af<=65535
 offer:t.offer=-1\/(1<=t.offer/\t.offer<=3/\t.offer≠t.aE/\ag.on t.offer=true/\t.oa.most=p.offer/\0<=t.oa.n/\t.oa.n<p.offer)
 lost:(t.la.most=0/\t.la.n=0)\/(t.la.most=p.dP/\0<=t.la.n/\t.la.n<p.dP)
structure BF (p:aJ) (t:az):Prop where
 cO:t.cO.1=true->t.cO.2.most=p.b_/\0<=t.cO.2.n/\t.cO.2.n<p.b_
 aj:∀i,i<3->(t.aj i).on=true->(t.aj i).eB.most=p.b_/\0<=(t.aj i).eB.n/\(t.aj i).eB.n<p.b_/\0<=(t.aj i).role/\(t.aj i).role<=3/\0<=(t.aj i).seen.high/\(t.aj i).seen.high<=4294967295
structure Inv (c:Core):Prop where
 p:eF c.p
 tok:lC c.p c.ag c.t
 q:ox c.p c.ag c.t.aE c.q
 ag:BF c.p c.ag
 samples:0<=c.samples/\c.samples<=4294967295
 mode:0<=c.mode/\c.mode<=4
 doors:∀i,i<3->0<=(c.doors i).many
theorem adj {n m:Int} (h:0<=n) (hm:0<=m) (hn:n<=m):0<=sat n m/\sat n m<=m:=by unfold sat;split<;>omega
theorem Inv.new {p:aJ} (h:eF p):Inv (Core.new p) where
 p:=h
 tok:=⟨by simp[Core.new,Tok.new],by simp[Core.new,Tok.new];exact h.af.2,.inl rfl,.inl ⟨rfl,rfl⟩⟩
 q:=⟨by simp[Core.new],by simp[Core.new],by simp[Core.new];have:=h.queue;omega⟩
 ag:=⟨by simp[Core.new,az.new],by simp[Core.new,az.new,gz.zero]⟩
 samples:=by simp[Core.new]
 mode:=h.start
 doors:=by simp[Core.new,dG.zero]
end Sd
namespace Vx
open Go Sx
inductive V where
 |int (k:eE) (n:Int)
 |bool (b:Bool)
 |ptr (i off:Nat)
 |sl (i off len cap:Nat)
 |fS (i off len cap:Nat) (x:Option aI)
 |fn (f:eN) (fs cs:List V)
 |lD (t:aD) (v:V)
 |agg (l:List V)
 |ao (l:List V)
 |bH (k:eE) (n:Nat) (f:Nat->Int)
 |arr (k:eE) (n:Nat) (f:Nat->Int)
 |dS (p:Sd.aJ) (ka:Nat->Option aI) (kn kc:Nat->Nat)
 |rest (l:List ab)
 |eU (z n:Nat) (g:Nat->List ab)
 |pe (i o j z k:Nat)
 |raw (v:ab)
def qc (p:Sd.aJ) (ka:Nat->Option aI) (kn kc:Nat->Nat):List ab:=(bh 56).map λo=>bif bA 5 o&&bA o 8 then .slice (ka (o-5)) (kn (o-5)) (kc (o-5))else .int .i64 (p.i o)
mutual
def cz (n:Nat):V->Bool
 |.ptr i _=>cj i n
 |.sl i _ _ _=>cj i n
 |.fS i _ _ _ _=>cj i n
 |.pe i _ _ _ _=>cj i n
 |.fn _ a b=>ba n a&&ba n b
 |.lD _ v=>cz n v
 |.agg l=>ba n l
 |.ao l=>ba n l
 |_=>true
def ba (n:Nat):List V->Bool
 |[]=>true
 |v::l=>cz n v&&ba n l
end
def cl (v:V) (d:ab):List ab:=match v with
 |.bH k n f=>(bh n).map λj=>dT k (f j)
 |.arr k n f=>(bh n).map λj=>dT k (f j)
 |.dS p ka kn kc=>qc p ka kn kc
 |.rest l=>l
 |.eU z n g=>(bh n).flatMap g
 |_=>[d]
mutual
def den (ids:List Nat):V->ab
 |.int k n=>.int k n
 |.bool b=>.bool b
 |.ptr i off=>.pointer (some ⟨ids.getD i 0,off,none⟩)
 |.sl i off n c=>.slice (some ⟨ids.getD i 0,off,none⟩) n c
 |.fS i off n c x=>.slice (bif ax n 0 then x else some ⟨ids.getD i 0,off,none⟩) n c
 |.fn f a b=>.func (.func f) (aA ids a).toArray (aA ids b).toArray
 |.lD t v=>.iface t (den ids v)
 |.agg l=>.agg (ah ids l).toArray
 |.ao l=>.tuple (aA ids l).toArray
 |.bH _ _ _=>undef
 |.arr _ _ _=>undef
 |.dS _ _ _ _=>undef
 |.rest _=>undef
 |.eU _ _ _=>undef
 |.pe i o j z k=>.pointer (some ⟨ids.getD i 0,o+(j*z+k),none⟩)
 |.raw v=>v
def aA (ids:List Nat):List V->List ab
 |[]=>[]
 |v::l=>den ids v::aA ids l
def ah (ids:List Nat):List V->List ab
 |[]=>[]
 |v::l=>cl v (den ids v)++ah ids l
end
theorem wR (ids:List Nat) (l:List V):aA ids l=l.map (den ids):=by
 induction l with
 |nil=>simp[aA]
 |cons v l ih=>simp[aA,ih]
theorem BG {ids more:List Nat} {i:Nat} (h:cj i ids.length=true):(ids++more).getD i 0=ids.getD i 0:=by
 rw[gV]at h;simp[ij,gI h]
mutual
theorem fy {ids more:List Nat}:∀(v:V),cz ids.length v=true->den (ids++more) v=den ids v
 |.int _ _,_=>by simp[den]
 |.bool _,_=>by simp[den]
 |.ptr i _,h=>by simp only[cz]at h;simp only[den,BG h]
 |.sl i _ _ _,h=>by simp only[cz]at h;simp only[den,BG h]
 |.fS i _ _ _ _,h=>by simp only[cz]at h;simp only[den,BG h]
 |.fn _ a b,h=>by simp only[cz,a_]at h;simp only[den,mP a h.1,mP b h.2]
 |.lD _ v,h=>by simp only[cz]at h;simp only[den,fy v h]
 |.agg l,h=>by simp only[cz]at h;simp only[den,jO l h]
 |.ao l,h=>by simp only[cz]at h;simp only[den,mP l h]
 |.bH _ _ _,_=>by simp[den]
 |.arr _ _ _,_=>by simp[den]
 |.dS _ _ _ _,_=>by simp[den]
 |.rest _,_=>by simp[den]
 |.eU _ _ _,_=>by simp[den]
 |.pe i _ _ _ _,h=>by simp only[cz]at h;simp only[den,BG h]
 |.raw _,_=>by simp[den]
theorem mP {ids more:List Nat}:∀(l:List V),ba ids.length l=true->aA (ids++more) l=aA ids l
 |[],_=>by simp[aA]
 |v::l,h=>by simp only[ba,a_]at h;simp only[aA,fy v h.1,mP l h.2]
theorem jO {ids more:List Nat}:∀(l:List V),ba ids.length l=true->ah (ids++more) l=ah ids l
 |[],_=>by simp[ah]
 |v::l,h=>by
  simp only[ba,a_]at h;simp only[ah,fy v h.1,jO l h.2]
end
def fA:V:=.raw undef
noncomputable def nth (l:List V):Nat->V:=@List.rec V (λ_=>Nat->V) (λ_=>fA) (λv _ ih n=>@Nat.rec (λ_=>V) v (λm _=>ih m) n) l
noncomputable def lE (l:List V) (n:Nat) (x:V):List V:=@List.rec V (λ_=>Nat->List V) (λ_=>[]) (λv l ih n=>@Nat.rec (λ_=>List V) (x::l) (λm _=>v::ih m) n) l n
theorem jx (n:Nat):nth [] n=fA:=rfl
theorem jy (v:V) (l:List V):nth (v::l) 0=v:=rfl
theorem je (v:V) (l:List V) (n:Nat):nth (v::l) (n+1)=nth l n:=rfl
theorem wS (n:Nat) (x:V):lE [] n x=[]:=rfl
theorem wT (v:V) (l:List V) (x:V):lE (v::l) 0 x=x::l:=rfl
theorem wU (v:V) (l:List V) (n:Nat) (x:V):lE (v::l) (n+1) x=v::lE l n x:=rfl
def put (fr:List V) (d:Option Tmp) (v:V):List V:=match d with|some t=>lE fr t v|none=>fr
def zg:ab->V
 |.int k n=>.int k n
 |.bool b=>.bool b
 |v=>.raw v
def BH:ab->V
 |.int k n=>.int k n
 |.bool b=>.bool b
 |.agg cs=>.agg (cs.toList.map zg)
 |v=>.raw v
def Nf (p:Sd.aJ) (ka:Nat->Option aI) (kn kc:Nat->Nat) (o:Nat):V:=
 bif bA 5 o&&bA o 8 then .raw (.slice (ka (o-5)) (kn (o-5)) (kc (o-5)))else .int .i64 (p.i o)
def l6:List V->Nat->Option V
 |[],_=>none
 |v::l,o=>match v with
  |.bH k n f=>bif bA n o then l6 l (o-n)else some (.int k (f o))
  |.arr k n f=>bif bA n o then l6 l (o-n)else some (.int k (f o))
  |.dS p ka kn kc=>bif bA 56 o then l6 l (o-56)else some (Nf p ka kn kc o)
  |.rest _=>none
  |.eU _ _ _=>none
  |v=>match o with|0=>some v|o+1=>l6 l o
def takeN:List V->Nat->Option (List V×List V)
 |l,0=>some ([],l)
 |[],_+1=>none
 |v::l,n+1=>match v with
  |.bH k m f=>bif bA m (n+1)then(match takeN l (n+1-m)with|some (a,b)=>some (v::a,b)|none=>none)
   else some ([.bH k (n+1) f],.bH k (m-(n+1)) (λj=>f (n+1+j))::l)
  |.arr k m f=>bif bA m (n+1)then(match takeN l (n+1-m)with|some (a,b)=>some (v::a,b)|none=>none)
   else some ([.arr k (n+1) f],.arr k (m-(n+1)) (λj=>f (n+1+j))::l)
  |.dS .. =>bif bA 56 (n+1)then(match takeN l (n+1-56)with|some (a,b)=>some (v::a,b)|none=>none)else none
  |.rest _=>none
  |.eU _ _ _=>none
  |_=>match takeN l n with|some (a,b)=>some (v::a,b)|none=>none
def wV (l:List V) (off n:Nat):Option (List V):=match takeN l off with
 |some (_,r)=>(match takeN r n with|some (a,_)=>some a|none=>none)
 |none=>none
def Iu (l:List V) (off n:Nat) (vs:List V):Option (List V):=match takeN l off with
 |some (a,r)=>(match takeN r n with|some (_,b)=>some (a++(vs++b))|none=>none)
 |none=>none
def Iv:V->Nat
 |.bH _ n _=>n
 |.arr _ n _=>n
 |.dS .. =>56
 |.rest l=>l.length
 |.eU z n g=>((bh n).flatMap g).length
 |_=>1
def bW:List V->Nat
 |[]=>0
 |v::l=>Iv v+bW l
def Iw:V->Bool
 |.agg _=>false
 |.ao _=>false
 |.rest l=>l.all (·.oneCell')
 |.eU z n g=>((bh n).flatMap g).all (·.oneCell')
 |.raw v=>v.oneCell'
 |_=>true
def lF:List V->Bool
 |[]=>true
 |v::l=>Iw v&&lF l
def jf:V->List V
 |.agg l=>l
 |v=>[v]
def oz:V->Bool
 |.bH .. =>false
 |.arr .. =>false
 |.dS .. =>false
 |.rest _=>false
 |.eU _ _ _=>false
 |.raw v=>v.oneCell'
 |_=>true
section
variable{ids:List Nat}
theorem Ix (l:List ab):ah ids (l.map zg)=l:=by
 induction l with
 |nil=>simp[ah]
 |cons v l ih=>cases v<;>simp[ah,cl,zg,den,ih]
theorem adk (v:ab):den ids (BH v)=v:=by
 cases v<;>simp[BH,den,Ix]
theorem zh (fr:List V) (t:Nat):den ids (nth fr t)=(aA ids fr).toArray.getD t undef:=by
 induction fr generalizing t with
 |nil=>simp[jx,jy,je,aA,fA,den]
 |cons v l ih=>
  cases t with
  |zero=>simp[jx,jy,je,aA]
  |succ t=>rw[je,ih];simp[aA,DJ]
theorem adl (fr:List V) (t:Nat) (x:V):(aA ids (lE fr t x)).toArray=(aA ids fr).toArray.setIfInBounds t (den ids x):=by
 apply eO;simp only[HU];induction fr generalizing t with
 |nil=>simp[wS,wT,wU,aA]
 |cons v l ih=>cases t<;>simp[wS,wT,wU,aA,ih]
theorem adm (p:Sd.aJ) (ka:Nat->Option aI) (kn kc:Nat->Nat) {o:Nat} (h:o<56):(qc p ka kn kc)[o]?=some (den ids (Nf p ka kn kc o)):=by
 unfold qc Nf;rw[iI,mF h];simp only[lx];cases bA 5 o&&bA o 8<;>simp[den]
theorem Ei (p:Sd.aJ) (ka:Nat->Option aI) (kn kc:Nat->Nat):(qc p ka kn kc).length=56:=by simp[qc]
theorem Ng {l:List V} {o:Nat} {v:V} (h:l6 l o=some v):(ah ids l)[o]?=some (den ids v):=by
 induction l generalizing o with
 |nil=>simp[l6]at h
 |cons a l ih=>
  cases a
  case bH k n f=>
   simp only[l6]at h;simp only[ah,cl];cases hb:bA n o with
   |true=>
    rw[hb]at h;have:=dz hb;rw[yB (by simpa using this)];simpa using ih h
   |false=>
    rw[hb]at h;have:o<n:=Mz λe=>by rw[uj e]at hb;cases hb
    rw[gI (by simpa using this)];simp only[cond_false,aS]at h;subst h;simp[mF this,den]
  case arr k n f=>
   simp only[l6]at h;simp only[ah,cl];cases hb:bA n o with
   |true=>
    rw[hb]at h;have:=dz hb;rw[yB (by simpa using this)];simpa using ih h
   |false=>
    rw[hb]at h;have:o<n:=Mz λe=>by rw[uj e]at hb;cases hb
    rw[gI (by simpa using this)];simp only[cond_false,aS]at h;subst h;simp[mF this,den]
  case dS p ka kn kc=>
   simp only[l6]at h;simp only[ah,cl];cases hb:bA 56 o with
   |true=>
    rw[hb]at h;have:=dz hb;rw[yB (by rw[Ei];exact this),Ei];simpa using ih h
   |false=>
    rw[hb]at h;have:o<56:=Mz λe=>by rw[uj e]at hb;cases hb
    rw[gI (by rw[Ei];exact this)];simp only[cond_false,aS]at h;subst h;exact adm _ _ _ _ this
  case rest=>simp[l6]at h
  case eU=>simp[l6]at h
  all_goals
   cases o with
   |zero=>simp only[l6,aS]at h;subst h;simp[ah,cl]
   |succ o=>simp only[l6]at h;simpa[ah,cl]using ih h
theorem Vj (k:eE) {m n:Nat} (f:Nat->Int) (h:n<=m):((bh m).map λj=>dT k (f j))=((bh n).map λj=>dT k (f j))++((bh (m-n)).map λj=>dT k (f (n+j))):=by
 obtain⟨d,rfl⟩:=Nat.exists_eq_add_of_le h;rw[List.range_add,qT,mG,Nat.add_sub_cancel_left];rfl
theorem Ej {l a b:List V} {n:Nat} (h:takeN l n=some (a,b)):ah ids l=ah ids a++ah ids b/\(ah ids a).length=n:=by
 induction l generalizing n a b with
 |nil=>
  cases n with
  |zero=>simp only[takeN,aS,bd]at h;obtain⟨rfl,rfl⟩:=h;simp[ah]
  |succ n=>simp[takeN]at h
 |cons v l ih=>
  cases n with
  |zero=>simp only[takeN,aS,bd]at h;obtain⟨rfl,rfl⟩:=h;simp[ah]
  |succ n=>
   cases v
   case bH k m f=>
    simp only[takeN]at h;cases hb:bA m (n+1)with
    |true=>
     have hm:=dz hb;rw[hb]at h;simp only[cond_true]at h;split at h
     ·rename_i x y hx;simp only[aS,bd]at h;obtain⟨rfl,rfl⟩:=h;obtain⟨i1,i2⟩:=ih hx;simp[ah,cl,i1,i2];omega
     ·cases h
    |false=>
     have hm:n+1<m:=Mz λe=>by rw[uj e]at hb;cases hb
     rw[hb]at h;simp only[cond_false,aS,bd]at h;obtain⟨rfl,rfl⟩:=h;simp only[ah,cl];rw[Vj k f (n:=n+1) (by omega)];simp
   case arr k m f=>
    simp only[takeN]at h;cases hb:bA m (n+1)with
    |true=>
     have hm:=dz hb;rw[hb]at h;simp only[cond_true]at h;split at h
     ·rename_i x y hx;simp only[aS,bd]at h;obtain⟨rfl,rfl⟩:=h;obtain⟨i1,i2⟩:=ih hx;simp[ah,cl,i1,i2];omega
     ·cases h
    |false=>
     have hm:n+1<m:=Mz λe=>by rw[uj e]at hb;cases hb
     rw[hb]at h;simp only[cond_false,aS,bd]at h;obtain⟨rfl,rfl⟩:=h;simp only[ah,cl];rw[Vj k f (n:=n+1) (by omega)];simp
   case dS p ka kn kc=>
    simp only[takeN]at h;cases hb:bA 56 (n+1)with
    |true=>
     have hm:=dz hb;rw[hb]at h;simp only[cond_true]at h;split at h
     ·rename_i x y hx;simp only[aS,bd]at h;obtain⟨rfl,rfl⟩:=h;obtain⟨i1,i2⟩:=ih hx;simp[ah,cl,i1,i2,Ei];omega
     ·cases h
    |false=>rw[hb]at h;simp at h
   case rest=>simp[takeN]at h
   case eU=>simp[takeN]at h
   all_goals
    simp only[takeN]at h;split at h
    ·rename_i x y hx;simp only[aS,bd]at h;obtain⟨rfl,rfl⟩:=h;obtain⟨i1,i2⟩:=ih hx;simp[ah,cl,i1,i2]
    ·cases h
theorem wW {l c:List V} {off n:Nat} (h:wV l off n=some c):((ah ids l).drop off).take n=ah ids c/\(ah ids c).length=n/\off+n<=(ah ids l).length:=by
 unfold wV at h;split at h
 ·rename_i a r ha;split at h
  ·rename_i b s hb;simp only[aS]at h;subst h;obtain⟨a1,a2⟩:=Ej (ids:=ids) ha;obtain⟨b1,b2⟩:=Ej (ids:=ids) hb;refine⟨?_,b2,?_⟩
   ·rw[a1,<-a2,List.drop_left,b1,<-b2,List.take_left]
   ·rw[a1,b1];simp;omega
  ·cases h
 ·cases h
theorem iq (a b:List V):ah ids (a++b)=ah ids a++ah ids b:=by
 induction a with
 |nil=>simp[ah]
 |cons v l ih=>simp[ah,ih]
theorem Vk {l c vs:List V} {off n:Nat} (h:Iu l off n vs=some c):ah ids c=(ah ids l).take off++ah ids vs++(ah ids l).drop (off+n)/\off+n<=(ah ids l).length:=by
 unfold Iu at h;split at h
 ·rename_i a r ha;split at h
  ·rename_i b s hb;simp only[aS]at h;subst h;obtain⟨a1,a2⟩:=Ej (ids:=ids) ha;obtain⟨b1,b2⟩:=Ej (ids:=ids) hb;refine⟨?_,?_⟩
   ·rw[iq,iq,a1,b1];have e:off+n=(ah ids a++ah ids b).length:=by simp[a2,b2]
    have e2:ah ids a++(ah ids b++ah ids s)=(ah ids a++ah ids b)++ah ids s:=by simp
    rw[e,e2,List.drop_left,<-e2,<-a2,List.take_left,bN]
   ·rw[a1,b1];simp;omega
  ·cases h
 ·cases h
theorem j6 (l:List V):(ah ids l).length=bW l:=by
 induction l with
 |nil=>simp[ah,bW]
 |cons v l ih=>cases v<;>simp[ah,cl,bW,Iv,ih,Ei]<;>omega
theorem adn {p:Sd.aJ} {ka:Nat->Option aI} {kn kc:Nat->Nat} {v:ab} (h:v∈qc p ka kn kc):v.oneCell'=true:=by
 unfold qc at h;rw[ny]at h;obtain⟨o,_,rfl⟩:=h;cases bA 5 o&&bA o 8<;>rfl
theorem zi {l:List V} (h:lF l=true):∀v∈ah ids l,v.oneCell'=true:=by
 induction l with
 |nil=>simp[ah]
 |cons a l ih=>
  simp only[lF,a_]at h;intro v hv;simp only[ah,ez]at hv;rcases hv with hv|hv
  ·unfold cl at hv;cases a
   case bH k n f=>simp at hv;obtain⟨_,_,rfl⟩:=hv;rfl
   case arr k n f=>simp at hv;obtain⟨_,_,rfl⟩:=hv;rfl
   case dS=>exact adn hv
   case rest l'=>exact(fK.1 (by simpa[Iw]using h.1)) v hv
   case eU z n g=>
    have h1:((bh n).flatMap g).all (·.oneCell')=true:=h.1;exact fK.1 h1 v hv
   all_goals (obtain rfl:v=_:=by simpa using hv);first|rfl|(simp[Iw]at h;done)|(have:=h.1;simpa[Iw,den]using this)
  ·exact ih h.2 v hv
theorem Nh {v:V} (h:oz v=true):(den ids v).cells.toList=ah ids (jf v):=by
 cases v
 case agg l=>simp[den,Ur,jf]
 case raw v=>cases v<;>simp_all[den,Ur,jf,ah,cl,oz,Value.oneCell']
 case bH=>simp[oz]at h
 case arr=>simp[oz]at h
 case dS=>simp[oz]at h
 case rest=>simp[oz]at h
 case eU=>simp[oz]at h
 all_goals simp[den,Ur,jf,ah,cl]
end
def Ni (c:Bool) (a b:V):V:=match a,b with
 |.bool x,.bool y=>.bool (cond c x y)
 |.int k x,.int k' y=>(match decEq k k' with|isTrue _=>.int k (cond c x y)|isFalse _=>(match c with|true=>a|false=>b))
 |a,b=>match c with|true=>a|false=>b
def dX (P:aC) (t:aD):Option Nat:=match P.info? t with|some i=>some i.size|none=>none
def Ek (k:eE):List V->Bool
 |[]=>true
 |.int k' (.ofNat 0)::l=>(match decEq k' k with|isTrue _=>Ek k l|isFalse _=>false)
 |_=>false
def Nj (z:List V):List V:=match z with
 |.int k (.ofNat 0)::l=>bif bA 63 l.length&&Ek k l then[.arr k (l.length+1) λ_=>0]else z
 |_=>z
theorem Vl {k:eE} (ids:List Nat):∀{l:List V},Ek k l=true->ah ids l=(bh l.length).map λ_=>dT k 0
 |[],_=>rfl
 |v::l,h=>by
  unfold Ek at h;split at h
  ·rename_i heq;cases heq
  ·rename_i k' l' heq;obtain⟨rfl,rfl⟩:=uq heq;split at h
   ·rename_i hk _;subst hk;rw[ly,uu,eQ,mG];simp only[ah,cl,den,Vl ids h];rfl
   ·cases h
  ·cases h
theorem Nk (ids:List Nat) (z:List V):ah ids (Nj z)=ah ids z:=by
 unfold Nj;split
 ·rename_i k l;cases hq:bA 63 l.length&&Ek k l with
  |false=>rfl
  |true=>
   simp only[a_]at hq;simp only[cond_true,ah,cl,den,Vl ids hq.2,cI];rw[uu,eQ,mG];rfl
 ·rfl
def l7 (P:aC) (t:aD):Option (List V):=match P.info? t with
 |some i=>(match i.zero with|some v=>some (Nj (jf (BH v)))|none=>none)
 |none=>none
def qe (P:aC) (t:aD):Option Bool:=match P.underlying t with|some d=>some (iO d)|none=>none
def Nl (op:BinOp) (x y:V):Option V:=match x,y with
 |.int k a,.int k' b=>(match op with
  |.shl=>(match b with|.ofNat n=>some (.int k (k.wrap (a*2^(min n k.bits))))|_=>none)
  |.shr=>(match b with|.ofNat n=>some (.int k (a.fdiv (2^(min n k.bits))))|_=>none)
  |op=>(match decEq k k' with
   |isFalse _=>none
   |isTrue _=>(match op with
    |.add=>some (.int k (k.wrap (a+b)))
    |.sub=>some (.int k (k.wrap (a-b)))
    |.mul=>some (.int k (k.wrap (a*b)))
    |.and=>some (.int k (bits .and k a b))
    |.or=>some (.int k (bits .or k a b))
    |.xor=>some (.int k (bits .xor k a b))
    |.rem=>(match b with|.ofNat (n+1)=>some (.int k (Int.tmod a (.ofNat (n+1))))|_=>none)
    |.quo=>(match b with|.ofNat (n+1)=>some (.int k (k.wrap (Int.tdiv a (.ofNat (n+1)))))|_=>none)
    |.eql=>some (.bool (a==b))
    |.neq=>some (.bool (a !=b))
    |.lss=>some (.bool (decide (a<b)))
    |.leq=>some (.bool (decide (a<=b)))
    |.gtr=>some (.bool (decide (a>b)))
    |.geq=>some (.bool (decide (a>=b)))
    |_=>none)))
 |_,_=>none
def Nm (op:UnOp) (x:V):Option V:=match op,x with
 |.not,.bool b=>some (.bool (!b))
 |.neg,.int k n=>some (.int k (k.wrap (0-n)))
 |.xor,.int k n=>some (.int k (bits .xor k (bif k.signed then-1 else k.max) n))
 |_,_=>none
section
variable{ids:List Nat} {P:aC} {w:ae}
theorem ado (c:Bool) (a b:V):den ids (Ni c a b)=if c then den ids a else den ids b:=by
 unfold Ni;split
 ·cases c<;>simp[den]
 ·split
  ·rename_i hk _;cases c<;>simp[den,hk]
  ·cases c<;>rfl
 ·cases c<;>rfl
theorem adp (op:BinOp) (t:aD) (x y:aZ) (k k':eE) (a b:Int):(eqGuard op t x y (.int k a) (.int k' b)).run P w=.ok () w:=by
 unfold eqGuard;cases op<;>rfl
theorem adq {op:BinOp} {x y v:V} (h:Nl op x y=some v) (t:aD) (xo yo:aZ):
 ((do eqGuard op t xo yo (den ids x) (den ids y);binOp op t (den ids x) (den ids y)):Sem ab).run P w=.ok (den ids v) w:=by
 unfold Nl at h;split at h
 ·rename_i k a k' b;simp only[den,bj,adp,cd];split at h
  ·split at h
   ·rename_i n;simp only[aS]at h;subst h;have h0:¬(cU n<0):=by have:=yI n;simp only[DK];omega
    simp only[binOp,Op.shift,den,if_neg h0];rfl
   ·cases h
  ·split at h
   ·rename_i n;simp only[aS]at h;subst h;have h0:¬(cU n<0):=by have:=yI n;simp only[DK];omega
    simp only[binOp,Op.shift,den,if_neg h0];rfl
   ·cases h
  ·rename_i adr ads;split at h
   ·cases h
   ·rename_i hk _;subst hk;cases op<;>simp only[aS]at h<;>first
     |(subst h;simp[binOp,acv,Op.intCmp,Op.intBits,Op.intDiv,den,bits];done)
     |(subst h;simp[binOp,acv,Op.intCmp,Op.intBits,Op.intDiv,den,bits];rfl)
     |(split at h<;>first
       |(simp only[aS]at h
         subst h;rename_i n;have h1:¬((cU (n+1))=0):=by simp only[DK];omega
         simp only[binOp,Op.intDiv,den,if_neg h1,ne_eq,not_true_eq_false,if_false,ite_false];rfl)
       |cases h)
     |cases h
     |(exact absurd rfl adr)
     |(exact absurd rfl ads)
 ·cases h
theorem adt {op:UnOp} {x v:V} (h:Nm op x=some v):(Us op (den ids x)).run P w=.ok (den ids v) w:=by
 unfold Nm at h;split at h
 ·simp only[aS]at h;subst h;simp[Us,den]
 ·simp only[aS]at h;subst h;simp[Us,acv,den]
 ·simp only[aS]at h;subst h;rename_i k n;cases hk:k.signed<;>simp[Us,Op.intBits,bits,den,hk]
 ·cases h
end
def wY (pl:Nat->Option (Nat×Nat)):List V->List (Nat×V)->Option (List V)
 |c,[]=>some c
 |c,(i,v)::l=>match pl i with
  |some (off,n)=>bif oz v&&ax (bW (jf v)) n then(match Iu c off n (jf v)with|some c'=>wY pl c' l|none=>none)else none
  |none=>none
def placesOf (P:aC) (fs:Array Field) (i:Nat):Option (Nat×Nat):=match fs[i]?with
 |some f=>(match dX P f.type with|some n=>some (f.offset,n)|none=>none)
 |none=>none
def rv (P:aC) (t:aD) (l:List V) (off:Nat):Option V:=match qe P t,dX P t with
 |some true,some n=>(match wV l off n with|some c=>some (.agg c)|none=>none)
 |some false,_=>l6 l off
 |_,_=>none
def Iy (e:aZ->V) (ps:Array (Nat×aZ)):List (Nat×V):=ps.toList.map λp=>(p.1,e p.2)
def Vm (P:aC) (fs:Array Field):Bool:=fs.toList.all λf=>match dX P f.type with|some _=>true|none=>false
section
variable{ids:List Nat} {P:aC} {w:ae}
theorem adu (off:Nat):∀(vs:List ab) (cs:Array ab) (k:Nat),off+k+vs.length<=cs.size->
 ((vs.zipIdx k).foldl (λ(cs:Array ab) (x:ab×Nat)=>cs.setIfInBounds (off+x.2) x.1) cs).toList=cs.toList.take (off+k)++vs++cs.toList.drop (off+k+vs.length):=by
 intro vs;induction vs with
 |nil=>intro cs k h;simp
 |cons v l ih=>
  intro cs k h;simp only[ly]at h;simp only[List.zipIdx_cons,uv];rw[ih _ _ (by simp;omega)];simp only[HU];have h1:off+k<cs.toList.length:=by simp;omega
  rw[show off+(k+1)=off+k+1 by omega];rw[List.take_set,List.drop_set,if_pos (by omega),List.take_succ_eq_append_getElem h1,List.set_append_right _ _ (by simp;omega)];simp only[uk,ly];rw[show off+k-min (off+k) cs.toList.length=0 by omega];simp only[List.set_cons_zero,bN,fb,fc];rw[show off+k+1+l.length=off+k+(l.length+1) by omega]
theorem Nn {pl:Nat->Option (Nat×Nat)} {place:Nat->Option (Nat×Nat)} (hp:∀i x,pl i=some x->place i=some x):∀(l:List (Nat×V)) (c c':List V),wY pl c l=some c'->
 acw place (ah ids c).toArray (l.map λp=>(p.1,den ids p.2))=some (ah ids c').toArray:=by
 intro l;induction l with
 |nil=>intro c c' h;simp only[wY,aS]at h;subst h;simp[acw]
 |cons a l ih=>
  intro c c' h;obtain⟨i,v⟩:=a;simp only[wY]at h;split at h
  ·rename_i off n hpl;cases hb:oz v&&ax (bW (jf v)) n with
   |false=>rw[hb]at h;simp at h
   |true=>
    rw[hb]at h;simp only[cond_true]at h;simp only[a_]at hb;have di:bW (jf v)=n:=b9 hb.2;split at h
    ·rename_i c1 Iz;obtain⟨s1,s2⟩:=Vk (ids:=ids) Iz;have Vn:=Nh (ids:=ids) hb.1;have hlen:(den ids v).cells.size=n:=by rw[<-Array.length_toList,Vn,j6,di]
     simp only[eQ,acw,hp i _ hpl];have MV:((decide ((den ids v).cells.size≠n))||decide (off+(den ids v).cells.size>(ah ids c).toArray.size))=false:=by
      simp[hlen];omega
     rw[if_neg (by simp only[ne_eq,A8,decide_eq_true_eq];simp[hlen];omega)];have key:(den ids v).cells.zipIdx.foldl (λ(cs:Array ab) (x:ab×Nat)=>cs.setIfInBounds (off+x.2) x.1) (ah ids c).toArray=(ah ids c1).toArray:=by
      apply eO;rw[<-Array.foldl_toList,Array.toList_zipIdx,adu off _ _ 0 (by simp[hlen];omega)];rw[Vn,s1];simp[j6,di]
     rw[key];exact ih _ _ h
    ·cases h
  ·cases h
theorem IA {t:aD} {i:TypeInfo} (h:P.info? t=some i):(typeInfo t).run P w=.ok i w:=by simp[typeInfo,h]
theorem gj {t:aD} {n:Nat} (h:dX P t=some n):(nY t).run P w=.ok n w:=by
 unfold dX at h;split at h
 ·rename_i i hi;simp only[aS]at h;simp[nY,bj,IA hi,h]
 ·cases h
theorem zj {t:aD} {z:List V} (h:l7 P t=some z):∃v,(zeroValue t).run P w=.ok v w/\v.cells.toList=ah ids z:=by
 unfold l7 at h;split at h
 ·rename_i i hi;split at h
  ·rename_i v hv;simp only[aS]at h;subst h;refine⟨v,by simp[zeroValue,bj,IA hi,hv],?_⟩;rw[Nk];cases v<;>simp[Ur,BH,jf,ah,cl,den,Ix]
  ·cases h
 ·cases h
theorem Vo {t:aD} {b:Bool} (h:qe P t=some b):(isAgg t).run P w=.ok b w:=by
 unfold qe at h;split at h
 ·rename_i d hd;simp only[aS]at h;exact yM (by rw[hd];simp[h]) w
 ·cases h
theorem No {t:aD} {l:List V} {off:Nat} {v:V} (h:rv P t l off=some v):(part t (ah ids l).toArray off).run P w=.ok (den ids v) w:=by
 unfold rv at h;split at h
 ·rename_i n ha hn;split at h
  ·rename_i c hc;simp only[aS]at h;subst h;obtain⟨g1,g2,g3⟩:=wW (ids:=ids) hc;simp only[part,bj,Vo ha,cd,if_pos,gj hn,cW];simp only[den];congr 2;apply eO;simp[Array.toList_extract,List.extract,g1]
  ·cases h
 ·rename_i ha;have:=Ng (ids:=ids) h;simp only[part,bj,Vo ha,cd,Bool.false_eq_true,if_false];simp[this]
 ·cases h
theorem adv {fs:List Field} (h:∀f∈fs,∃n,dX P f.type=some n):(fs.mapM λ(f:Field)=>(do pure (f.offset,<-nY f.type):Sem (Nat×Nat))).run P w=.ok (fs.map λf=>(f.offset,(dX P f.type).getD 0)) w:=by
 induction fs with
 |nil=>rfl
 |cons f l ih=>
  obtain⟨n,hn⟩:=h f (by simp);have:=ih (λf hf=>h f (by simp[hf]));simp only[List.mapM_cons,bj,gj hn,cd,cW,this,eQ,hn,Un]
end
def BI (P:aC) (t:aD) (x y:V):Option Bool:=match P.underlying t,x,y with
 |some .bool,.bool a,.bool b=>some (a==b)
 |some (.pointer _),.ptr _ _,.raw (.pointer none)=>some false
 |some (.pointer _),.raw (.pointer none),.ptr _ _=>some false
 |some (.pointer _),.raw (.pointer none),.raw (.pointer none)=>some true
 |some (.pointer _),.raw (.pointer (some _)),.raw (.pointer none)=>some false
 |some (.slice _),.sl _ _ _ _,.raw (.slice none _ _)=>some false
 |some (.slice _),.raw (.slice (some _) _ _),.raw (.slice none _ _)=>some false
 |some (.slice _),.raw (.slice none _ _),.raw (.slice none _ _)=>some true
 |_,.agg a,.agg b=>bif(ba 0 a&&ba 0 b)&&!(P.eqGuardType P.depth t)then wI P 10000 t (.agg (ah [] a).toArray) (.agg (ah [] b).toArray)else none
 |_,_,_=>none
def El (P:aC) (op:BinOp) (t:aD) (x y:V):Option V:=match Nl op x y with
 |some v=>some v
 |none=>match op with
  |.eql=>(match BI P t x y with|some r=>some (.bool r)|none=>none)
  |.neq=>(match BI P t x y with|some r=>some (.bool (!r))|none=>none)
  |_=>none
def IB (v:V):Option V:=match v with
 |.ptr i o=>some (.ptr i o)
 |.fn f a b=>some (.fn f a b)
 |.pe i o j z k=>some (.pe i o j z k)
 |.raw (.pointer (some a))=>some (.raw (.pointer (some a)))
 |_=>none
def Np (P:aC) (t:aD) (x ix:V):Option V:=match P.underlying t,x,ix with
 |some (.array n el),.ptr i off,.int _ (.ofNat j)=>bif cj j n then(match dX P el with|some z=>some (.ptr i (off+j*z))|none=>none)else none
 |some (.slice el),.sl i off n _,.int _ (.ofNat j)=>bif cj j n then(match dX P el with|some z=>some (.ptr i (off+j*z))|none=>none)else none
 |_,_,_=>none
def Nq (P:aC) (s:aD) (x:V) (f:Nat):Option V:=match P.underlying s,x with
 |some (.struct fs),.ptr i off=>(match fs[f]?with
  |some fd=>(match dX P fd.type with|some (_+1)=>some (.ptr i (off+fd.offset))|_=>none)
  |none=>none)
 |some (.struct fs),.pe i o j z k=>(match fs[f]?with
  |some fd=>(match dX P fd.type with|some (_+1)=>some (.pe i o j z (k+fd.offset))|_=>none)
  |none=>none)
 |_,_=>none
def Nr (P:aC) (t:aD) (ps:List (Nat×V)):Option V:=match P.underlying t,l7 P t with
 |some (.struct fs),some z=>bif Vm P fs then(match wY (placesOf P fs) z ps with|some c=>some (.agg c)|none=>none)else none
 |some (.array _ el),some z=>(match dX P el with|some n=>(match wY (λi=>some (i*n,n)) z ps with|some c=>some (.agg c)|none=>none)|none=>none)
 |_,_=>none
def Ns (P:aC) (t:aD) (x:V):Option V:=match P.underlying t,x with
 |some (.slice _),.sl _ _ n _=>some (.int .i64 (n:Int))
 |some (.slice _),.fS _ _ n _ _=>some (.int .i64 (n:Int))
 |some (.slice _),.raw (.slice _ n _)=>some (.int .i64 (n:Int))
 |some (.array n _),_=>some (.int .i64 (n:Int))
 |_,_=>none
def uM (x:V) (y:Nat):Option Nat:=match x with
 |.int _ (.ofNat i)=>bif bA i y then some i else none
 |_=>none
def oA (e:aZ->V) (o:Option aZ) (y d:Nat):Option Nat:=match o with
 |some x=>uM (e x) y
 |none=>some d
def Nt (P:aC) (e:aZ->V) (t:aD) (x:V) (lo hi:Option aZ):Option V:=match P.underlying t,x with
 |some (.slice el),.sl i off n c=>(match oA e hi c n,dX P el with
  |some h,some z=>(match oA e lo h 0 with
   |some l=>some (.sl i (bif ax c l then off else off+l*z) (h-l) (c-l))
   |none=>none)
  |_,_=>none)
 |some (.pointer arr),.ptr i off=>(match P.underlying arr with
  |some (.array n el)=>(match oA e hi n n,dX P el with
   |some h,some z=>(match oA e lo h 0 with
    |some l=>some (.sl i (bif ax n l then off else off+l*z) (h-l) (n-l))
    |none=>none)
   |_,_=>none)
  |_=>none)
 |some (.array n el),.ptr i off=>(match oA e hi n n,dX P el with
  |some h,some z=>(match oA e lo h 0 with
   |some l=>some (.sl i (bif ax n l then off else off+l*z) (h-l) (n-l))
   |none=>none)
  |_,_=>none)
 |_,_=>none
def Nu (P:aC) (e:aZ->V) (t:aD) (x:V) (lo:Option aZ) (hi mx:aZ):Option V:=match P.underlying t,x with
 |some (.pointer arr),.ptr i off=>(match P.underlying arr with
  |some (.array n el)=>(match uM (e mx) n,dX P el with
   |some m,some z=>(match uM (e hi) m with
    |some h=>(match oA e lo h 0 with
     |some l=>some (.sl i (bif ax m l then off else off+l*z) (h-l) (m-l))
     |none=>none)
    |none=>none)
   |_,_=>none)
  |_=>none)
 |some (.array n el),.ptr i off=>(match uM (e mx) n,dX P el with
  |some m,some z=>(match uM (e hi) m with
   |some h=>(match oA e lo h 0 with
    |some l=>some (.sl i (bif ax m l then off else off+l*z) (h-l) (m-l))
    |none=>none)
   |none=>none)
  |_,_=>none)
 |_,_=>none
def Vp (x y:V):Option V:=match x,y with
 |.int k a,.int _ b=>some (.int k (if b<a then b else a))
 |_,_=>none
def Vq (x y:V):Option V:=match x,y with
 |.int k a,.int _ b=>some (.int k (if b>a then b else a))
 |_,_=>none
def Nv (P:aC) (arr:aD) (x:V):Option V:=match P.underlying arr,x with
 |some (.array n _),.sl i off len c=>bif bA n len then some (.ptr i off)else none
 |_,_=>none
def IC:BinOp->aZ->Bool
 |.rem,.const (.int .i64 (.ofNat 3))=>true
 |_,_=>false
def Em (P:aC) (e:aZ->V):Op->Option V
 |.move x=>some (e x)
 |.assign x=>some (e x)
 |.pick c a b=>(match e c with|.bool c=>some (Ni c (e a) (e b))|_=>none)
 |.nilCheck x=>IB (e x)
 |.binOp op t x y _=>bif IC op y then none else El P op t (e x) (e y)
 |.unOp op _ x=>Nm op (e x)
 |.convert s d x=>(match P.underlying s,P.underlying d,e x with|some _,some (.int k),.int _ n=>some (.int k (k.wrap n))|_,_,_=>none)
 |.makeFunc (.func f) a b=>some (.fn f (a.toList.map e) (b.toList.map e))
 |.makeInterface t x=>(match P.underlying t with|some (.interface _)=>none|some _=>some (.lD t (e x))|none=>none)
 |.build t ps=>Nr P t (Iy e ps)
 |.fieldAddr s x f=>Nq P s (e x) f
 |.field s x f=>(match P.underlying s,e x with
  |some (.struct fs),.agg l=>(match fs[f]?with|some fd=>rv P fd.type l fd.offset|none=>none)
  |_,_=>none)
 |.indexAddr t x ix=>Np P t (e x) (e ix)
 |.index t x ix=>(match P.underlying t,e x,e ix with
  |some (.array n el),.agg l,.int _ (.ofNat j)=>bif cj j n then(match dX P el with|some z=>rv P el l (j*z)|none=>none)else none
  |some .string,.raw (.string s),.int _ (.ofNat j)=>(match s[j]?with|some b=>some (.int .u8 b.toNat)|none=>none)
  |_,_,_=>none)
 |.extract x i=>(match e x with|.ao l=>(match l[i]?with|some v=>some v|none=>none)|_=>none)
 |.call c=>(match c.callee,c.args.toList,c.argTypes.toList with
  |.builtin .len,[x],t::_=>Ns P t (e x)
  |.builtin .min,[x,y],_=>Vp (e x) (e y)
  |.builtin .max,[x,y],_=>Vq (e x) (e y)
  |_,_,_=>none)
 |.slice t x lo hi none=>Nt P e t (e x) lo hi
 |.slice t x lo (some hi) (some mx)=>Nu P e t (e x) lo hi mx
 |.sliceToArrayPointer arr x=>Nv P arr (e x)
 |_=>none
section
variable{ids:List Nat} {P:aC} {w:ae} {e:aZ->V} {ρ:aZ->ab}
theorem Vr {t:aD} {x y:V} {r:Bool} (h:BI P t x y=some r) (xo yo:aZ) (op:BinOp) (jz:op=.eql\/op=.neq):
 (eqGuard op t xo yo (den ids x) (den ids y)).run P w=.ok () w/\(Ut t (den ids x) (den ids y)).run P w=.ok r w:=by
 have g0:∀(a b:ab),(∀x,a≠.agg x)->(a≠.nilIface)->(eqGuard op t xo yo a b).run P w=.ok () w:=by
  intro a b h1 h2;unfold eqGuard;rcases jz with rfl|rfl<;>(cases a<;>first|rfl|(exact absurd rfl h2)|(exact absurd rfl (h1 _)))
 unfold BI at h;split at h
 case h_9=>
  rename_i a b;cases hb:(ba 0 a&&ba 0 b)&&!(P.eqGuardType P.depth t)with
  |false=>rw[hb]at h;simp at h
  |true=>
   rw[hb]at h;simp only[cond_true]at h;simp only[a_,lv]at hb;have ha:ah ids a=ah [] a:=by have:=jO (ids:=[]) (more:=ids) a hb.1.1;simpa using this
   have uL:ah ids b=ah [] b:=by have:=jO (ids:=[]) (more:=ids) b hb.1.2;simpa using this
   refine⟨?_,?_⟩
   ·simp only[den];unfold eqGuard;rcases jz with rfl|rfl<;>simp[hb.2]
   ·have:=H_ 10000 t _ _ r h w;simp only[den,ha,uL];exact this
 all_goals first
  |(rename_i hu
    simp only[aS]at h;subst h;refine⟨g0 _ _ (by intro x;simp[den]) (by simp[den]),?_⟩;simp only[den];unfold Ut Op.maxDepth Op.equalIn;simp[bj,dg hu]
    done)
  |cases h
theorem Vs {t:aD} {x y:V} {r:Bool} (h:BI P t x y=some r):(∃b,den ids x=.bool b)\/(∃b,den ids x=.pointer b/\∃c,den ids y=.pointer c)\/(∃b n c,den ids x=.slice b n c)\/(∃b,den ids x=.agg b):=by
 unfold BI at h;split at h<;>first|(exact .inl ⟨_,by simp only[den];rfl⟩)|(exact .inr (.inl ⟨_,by simp only[den];rfl,_,by simp only[den];rfl⟩))|(exact .inr (.inr (.inl ⟨_,_,_,by simp only[den];rfl⟩)))|(exact .inr (.inr (.inr ⟨_,by simp only[den];rfl⟩)))|cases h
theorem Nw {op:BinOp} {t:aD} {x y v:V} (h:El P op t x y=some v) (xo yo:aZ):
 ((do eqGuard op t xo yo (den ids x) (den ids y);binOp op t (den ids x) (den ids y)):Sem ab).run P w=.ok (den ids v) w:=by
 unfold El at h;split at h
 ·rename_i v' hv;simp only[aS]at h;subst h;exact adq hv t xo yo
 ·split at h
  ·split at h
   ·rename_i r hr;simp only[aS]at h;subst h;obtain⟨h1,h2⟩:=Vr (ids:=ids) (w:=w) hr xo yo .eql (.inl rfl);simp only[bj,h1,cd];have h3:binOp .eql t (den ids x) (den ids y)=(do pure (.bool (<-Ut t (den ids x) (den ids y)))):=by
     rcases Vs (ids:=ids) hr with⟨b,hb⟩|⟨b,hb,c,hc⟩|⟨b,n,c,hb⟩|⟨b,hb⟩
     ·rw[hb];rfl
     ·rw[hb,hc];rfl
     ·rw[hb];rfl
     ·rw[hb];rfl
    rw[h3];simp[bj,h2,den]
   ·cases h
  ·split at h
   ·rename_i r hr;simp only[aS]at h;subst h;obtain⟨h1,h2⟩:=Vr (ids:=ids) (w:=w) hr xo yo .neq (.inr rfl);simp only[bj,h1,cd];have h3:binOp .neq t (den ids x) (den ids y)=(do pure (.bool (!(<-Ut t (den ids x) (den ids y))))):=by
     rcases Vs (ids:=ids) hr with⟨b,hb⟩|⟨b,hb,c,hc⟩|⟨b,n,c,hb⟩|⟨b,hb⟩
     ·rw[hb];rfl
     ·rw[hb,hc];rfl
     ·rw[hb];rfl
     ·rw[hb];rfl
    rw[h3];simp[bj,h2,den]
   ·cases h
  ·cases h
theorem adw {x v:V} (h:IB x=some v):v=x/\(∀(f:ab->Sem Next) (g:Sem Next),(match den ids x with
 |.pointer none|.nilIface|.nilFunc=>g
 |x=>f x)=f (den ids x)):=by
 unfold IB at h;split at h<;>first|(simp only[aS]at h;subst h;exact⟨rfl,λf g=>by simp[den]⟩)|cases h
theorem ry (b off k:Nat):(⟨b,off,none⟩:aI).add k=⟨b,off+k,none⟩:=by unfold ug;split<;>simp_all
theorem adx {t:aD} {x ix v:V} (h:Np P t x ix=some v):(sG t (den ids x) (den ids ix)).run P w=.ok (den ids v) w:=by
 unfold Np at h;split at h
 ·rename_i n el i off k j hu;cases hb:cj j n with
  |false=>rw[hb]at h;simp at h
  |true=>
   rw[hb]at h;simp only[cond_true]at h;have hj:j<n:=by rw[gV]at hb;exact hb
   split at h
   ·rename_i z hz;simp only[aS]at h;subst h;have h1:(0:Int)<=cU j/\cU j<(n:Int):=by simp only[DK];omega
    simp only[sG,den,asIntOf,iJ,bj,cW,cd,dg hu];rw[if_pos h1];simp[bj,gj hz,ry]
   ·cases h
 ·rename_i el i off n c k j hu;cases hb:cj j n with
  |false=>rw[hb]at h;simp at h
  |true=>
   rw[hb]at h;simp only[cond_true]at h;have hj:j<n:=by rw[gV]at hb;exact hb
   split at h
   ·rename_i z hz;simp only[aS]at h;subst h;have h1:(0:Int)<=cU j/\cU j<(n:Int):=by simp only[DK];omega
    simp only[sG,den,asIntOf,bj,cW,cd,dg hu];rw[if_pos h1];simp[bj,gj hz,ry]
   ·cases h
 ·cases h
theorem ady {s:aD} {x v:V} {f:Nat} (h:Nq P s x f=some v):(acx s (den ids x) f).run P w=.ok (den ids v) w:=by
 unfold Nq at h;split at h
 ·rename_i fs i off hu;split at h
  ·rename_i fd En;split at h
   ·rename_i n hn;simp only[aS]at h;subst h;simp[acx,iJ,den,bj,dg hu,En,fieldPlace,gj hn,ry]
   ·cases h
  ·cases h
 ·rename_i fs i j z k hu;split at h
  ·rename_i fd En;split at h
   ·rename_i n hn;simp only[aS]at h;subst h;simp[acx,iJ,den,bj,dg hu,En,fieldPlace,gj hn,ry,yF]
   ·cases h
  ·cases h
 ·cases h
theorem adz {t:aD} {ps:List (Nat×V)} {v:V} (h:Nr P t ps=some v):(acy t (ps.map λp=>(p.1,den ids p.2)).toArray).run P w=.ok (den ids v) w:=by
 unfold Nr at h;split at h
 ·rename_i fs z hu hz;cases hk:Vm P fs with
  |false=>rw[hk]at h;simp at h
  |true=>
   rw[hk]at h;simp only[cond_true]at h;split at h
   ·rename_i c hc;simp only[aS]at h;subst h;obtain⟨v0,z1,z2⟩:=zj (P:=P) (w:=w) (ids:=ids) hz;have hm:=adv (P:=P) (w:=w) (fs:=fs.toList) (λf hf=>by
     have:=(fK.1 hk) f hf;split at this
     ·rename_i n hn;exact⟨n,hn⟩
     ·cases this)
    have rA:(fs.mapM λ(f:Field)=>(do pure (f.offset,<-nY f.type):Sem (Nat×Nat))).run P w=.ok (fs.toList.map λf=>(f.offset,(dX P f.type).getD 0)).toArray w:=by
     have e:fs=fs.toList.toArray:=by simp
     rw[e,List.mapM_toArray];simp only[Sem.run_map,hm,cd]
    have hf:=Nn (ids:=ids) (place:=λi=>((fs.toList.map λf=>(f.offset,(dX P f.type).getD 0)).toArray)[i]?) (λi x hx=>by
     unfold placesOf at hx;split at hx
     ·rename_i f hf;split at hx
      ·rename_i n hn;simp only[aS]at hx;subst hx;simp[hf,hn]
      ·cases hx
     ·cases hx) ps z c hc
    have zk:v0.cells=(ah ids z).toArray:=by apply eO;simpa using z2
    simp only[acy,bj,z1,cd,dg hu,rA,zk];simp only[den];rw[hf];rfl
   ·cases h
 ·rename_i n el z hu hz;split at h
  ·rename_i m hm;split at h
   ·rename_i c hc;simp only[aS]at h;subst h;obtain⟨v0,z1,z2⟩:=zj (P:=P) (w:=w) (ids:=ids) hz;have hf:=Nn (ids:=ids) (place:=λi=>some (i*m,m)) (λi x hx=>hx) ps z c hc;have zk:v0.cells=(ah ids z).toArray:=by apply eO;simpa using z2
    simp only[acy,bj,z1,cd,dg hu,gj hm,zk];simp only[den];rw[hf];rfl
   ·cases h
  ·cases h
 ·cases h
end
section
variable{ids:List Nat} {P:aC} {w:ae} {e:aZ->V} {ρ:aZ->ab}
theorem adA {t:aD} {x v:V} (h:Ns P t x=some v) (ty:aD) (ts:Array aD) (ht:ts[0]?=some t):(Builtin.len_ ts ty #[den ids x]).run P w=.ok (den ids v) w:=by
 unfold Ns at h;split at h<;>first
  |(rename_i hu
    simp only[aS]at h;subst h;simp[Builtin.len_,ht,bj,dg hu,den,goInt]
    done)
  |cases h
theorem Vt (ps:Array (Nat×aZ)) (aW:∀x,ρ x=den ids (e x)):(ps.map λ(p:Nat×aZ)=>(p.1,ρ p.2))=((Iy e ps).map λp=>(p.1,den ids p.2)).toArray:=by
 apply eO;simp[Iy,aW]
theorem adB (l:List aZ) (aW:∀x,ρ x=den ids (e x)):aA ids (l.map e)=l.map ρ:=by
 rw[wR,mG];apply pH;intro x _;exact(aW x).symm
theorem BJ {x:V} {y i:Nat} (code:BoundsCode) (h:uM x y=some i):(yG (den ids x) y code).run P w=.ok i w/\i<=y:=by
 unfold uM at h;split at h
 ·rename_i k j;cases hb:bA j y with
  |false=>rw[hb]at h;cases h
  |true=>
   rw[hb]at h;obtain rfl:j=i:=by simpa using h
   have hle:=dz hb;refine⟨?_,hle⟩;have h2:(0:Int)<=cU j/\cU j<=(y:Int):=⟨yI j,Int.ofNat_le.2 hle⟩;simp only[yG,den,asIntOf,bj,cW,cd,if_pos h2];rfl
 ·cases h
theorem Nx (aW:∀x,ρ x=den ids (e x)) {lo hi:Option aZ} {len cap h l:Nat} (b:Bool) (h1:oA e hi cap len=some h) (h2:oA e lo h 0=some l):
 (sJ b len cap (lo.map ρ) (hi.map ρ) none).run P w=.ok (l,h,cap) w:=by
 unfold oA at h1 h2;cases hi with
 |none=>
  obtain rfl:len=h:=by simpa using h1
  cases lo with
  |none=>
   obtain rfl:0=l:=by simpa using h2
   simp[sJ,jb]
  |some x=>
   have:=BJ (P:=P) (ids:=ids) (w:=w) .sliceB h2;simp[sJ,jb,aW,this.1]
 |some y=>
  have a1:=λc=>(BJ (P:=P) (ids:=ids) (w:=w) c h1).1;cases lo with
  |none=>
   obtain rfl:0=l:=by simpa using h2
   simp[sJ,jb,aW,a1]
  |some x=>
   have:=BJ (P:=P) (ids:=ids) (w:=w) .sliceB h2;simp[sJ,jb,aW,this.1,a1]
theorem adC (aW:∀x,ρ x=den ids (e x)) {t:aD} {x:aZ} {lo hi:Option aZ} {v:V} (h:Nt P e t (e x) lo hi=some v):(sH t (ρ x) (lo.map ρ) (hi.map ρ) none).run P w=.ok (den ids v) w:=by
 unfold Nt at h;have fin:∀(c l off z i:Nat),(if c=l then(⟨ids.getD i 0,off,none⟩:aI)else ug ⟨ids.getD i 0,off,none⟩ (l*z))=⟨ids.getD i 0,bif ax c l then off else off+l*z,none⟩:=by
  intro c l off z i;by_cases hc:c=l
  ·subst hc;simp
  ·have:ax c l=false:=by
    cases hb:ax c l with
    |true=>exact absurd (b9 hb) hc
    |false=>rfl
   rw[if_neg hc,this,hU];rfl
 split at h
 ·rename_i el i off n c hu hx;split at h
  ·rename_i hh z h1 hz;split at h
   ·rename_i l h2;obtain rfl:=ck h;have hb:=Nx (P:=P) (w:=w) aW true h1 h2;have hs:=gj (P:=P) (w:=w) hz;have:=fin c l off z i;simp only[den,<-this];have run:(sH t (ρ x) (lo.map ρ) (hi.map ρ) none).run P w=.ok (.slice (if c=l then some ⟨ids.getD i 0,off,none⟩else some (ug ⟨ids.getD i 0,off,none⟩ (l*z))) (hh-l) (c-l)) w:=by
     simp[sH,DH,dg hu,aW,hx,den,hb,hs,jb]
    rw[run];by_cases hc:c=l
    ·rw[if_pos hc,if_pos hc]
    ·rw[if_neg hc,if_neg hc]
   ·cases h
  ·cases h
 ·rename_i arr i off hu hx;split at h
  ·rename_i n el Ny;split at h
   ·rename_i hh z h1 hz;split at h
    ·rename_i l h2;obtain rfl:=ck h;have hb:=Nx (P:=P) (w:=w) aW false h1 h2;have hs:=gj (P:=P) (w:=w) hz;have:=fin n l off z i;simp only[den,<-this];simp[sH,DH,dg hu,dg Ny,asAddr,aW,hx,den,hb,hs,jb]
    ·cases h
   ·cases h
  ·cases h
 ·rename_i n el i off hu hx;split at h
  ·rename_i hh z h1 hz;split at h
   ·rename_i l h2;obtain rfl:=ck h;have hb:=Nx (P:=P) (w:=w) aW false h1 h2;have hs:=gj (P:=P) (w:=w) hz;have:=fin n l off z i;simp only[den,<-this];simp[sH,iJ,dg hu,aW,hx,den,hb,hs,jb]
   ·cases h
  ·cases h
 ·cases h
theorem Vu (aW:∀x,ρ x=den ids (e x)) {lo:Option aZ} {hi mx:aZ} {len cap m h l:Nat} (b:Bool) (h0:uM (e mx) cap=some m) (h1:uM (e hi) m=some h) (h2:oA e lo h 0=some l):
 (sJ b len cap (lo.map ρ) (some (ρ hi)) (some (ρ mx))).run P w=.ok (l,h,m) w:=by
 have a0:=λc=>(BJ (P:=P) (ids:=ids) (w:=w) c h0).1;have a1:=λc=>(BJ (P:=P) (ids:=ids) (w:=w) c h1).1;unfold oA at h2;cases lo with
 |none=>
  obtain rfl:0=l:=by simpa using h2
  simp[sJ,jb,aW,a0,a1]
 |some x=>
  have:=λc=>(BJ (P:=P) (ids:=ids) (w:=w) c h2).1;simp[sJ,jb,aW,a0,a1,this]
theorem adD (aW:∀x,ρ x=den ids (e x)) {t:aD} {x:aZ} {lo:Option aZ} {hi mx:aZ} {v:V} (h:Nu P e t (e x) lo hi mx=some v):(sH t (ρ x) (lo.map ρ) (some (ρ hi)) (some (ρ mx))).run P w=.ok (den ids v) w:=by
 unfold Nu at h;have fin:∀(c l off z i:Nat),(if c=l then(⟨ids.getD i 0,off,none⟩:aI)else ug ⟨ids.getD i 0,off,none⟩ (l*z))=⟨ids.getD i 0,bif ax c l then off else off+l*z,none⟩:=by
  intro c l off z i;by_cases hc:c=l
  ·subst hc;simp
  ·have:ax c l=false:=by
    cases hb:ax c l with
    |true=>exact absurd (b9 hb) hc
    |false=>rfl
   rw[if_neg hc,this,hU];rfl
 split at h
 ·rename_i arr i off hu hx;split at h
  ·rename_i n el Ny;split at h
   ·rename_i m z h0 hz;split at h
    ·rename_i hh h1;split at h
     ·rename_i l h2;obtain rfl:=ck h;have hb:=Vu (P:=P) (w:=w) (len:=n) aW false h0 h1 h2;have hs:=gj (P:=P) (w:=w) hz;have:=fin m l off z i;simp only[den,<-this];simp[sH,DH,dg hu,dg Ny,asAddr,aW,hx,den,hs,jb]at hb⊢;simp[hb,hs]
     ·cases h
    ·cases h
   ·cases h
  ·cases h
 ·rename_i n el i off hu hx;split at h
  ·rename_i m z h0 hz;split at h
   ·rename_i hh h1;split at h
    ·rename_i l h2;obtain rfl:=ck h;have hb:=Vu (P:=P) (w:=w) (len:=n) aW false h0 h1 h2;have hs:=gj (P:=P) (w:=w) hz;have:=fin m l off z i;simp only[den,<-this];simp[sH,iJ,dg hu,aW,hx,den,hs,jb]at hb⊢;simp[hb,hs]
    ·cases h
   ·cases h
  ·cases h
 ·cases h
theorem adE {arr:aD} {x v:V} (h:Nv P arr x=some v):(Instr.arrayAt arr (den ids x)).run P w=.ok (den ids v) w:=by
 unfold Nv at h;split at h
 ·rename_i n el i off len c hu;cases hq:bA n len with
  |false=>rw[hq]at h;cases h
  |true=>
   rw[hq]at h;obtain rfl:=ck h;have hle:=dz hq;simp[Instr.arrayAt,dg hu,den,jb,Nat.not_lt.2 hle]
 ·cases h
theorem Vv (aW:∀x,ρ x=den ids (e x)) (o:an) (v:V) (h:Em P e o.op=some v):(execOp ρ o).run P w=.ok (.value (den ids v)) w:=by
 unfold execOp;unfold Em at h;split at h
 ·rename_i x ho;simp only[aS]at h;subst h;simp[ho,aW]
 ·rename_i x ho;simp only[aS]at h;subst h;simp[ho,aW]
 ·rename_i c a b ho;split at h
  ·rename_i cb hc;simp only[aS]at h;subst h;simp only[ho,aW,hc,den,asBool,bj,cW,cd,ado]
  ·cases h
 ·rename_i x ho;obtain⟨rfl,hk⟩:=adw (ids:=ids) h;simp only[ho,aW];unfold IB at h;split at h<;>first|(simp_all[den];done)|cases h
 ·rename_i op t x y yt ho;cases hr:IC op y with
  |true=>rw[hr]at h;cases h
  |false=>
   rw[hr]at h;simp only[cond_false]at h;simp only[ho,aW];rw[bj,Nw h];rfl
 ·rename_i op t x ho;simp only[ho,aW];rw[bj,adt h];rfl
 ·rename_i s d x ho;split at h
  ·rename_i d' k n hs hd hx;simp only[aS]at h;subst h;simp[ho,aW,hx,den,convert,bj,dg hs,dg hd,Conv.intToInt]
  ·cases h
 ·rename_i f a b ho;simp only[aS]at h;subst h;simp only[ho,Instr.makeFunc,den,adB _ aW,bj,cW,cd];rw[show a.map ρ=(a.toList.map ρ).toArray from by apply eO;simp,show b.map ρ=(b.toList.map ρ).toArray from by apply eO;simp]
 ·rename_i t x ho;split at h
  ·cases h
  ·rename_i d hd hu;simp only[aS]at h;subst h;simp only[ho,aW,Instr.makeInterface,bj,dg hu,cd];cases d<;>first|(simp[den];done)|(exact absurd rfl (hd _))
  ·cases h
 ·rename_i t ps ho;try simp only[ho]
  rw[bj];have:=adz (ids:=ids) (w:=w) h;rw[show(ps.map λ(x:Nat×aZ)=>match x with|(i,x)=>(i,ρ x))=(ps.map λ(p:Nat×aZ)=>(p.1,ρ p.2))from rfl,Vt ps aW,this];rfl
 ·rename_i s x f ho;simp only[ho,aW];rw[bj,ady h];rfl
 ·rename_i s x f ho;split at h
  ·rename_i fs l hu hx;split at h
   ·rename_i fd En;simp only[ho,aW,hx,den,Instr.field,bj,dg hu,cd,En,asAgg,cW,No h]
   ·cases h
  ·cases h
 ·rename_i t x ix ho;simp only[ho,aW];rw[bj,adx h];rfl
 ·rename_i t x ix ho;split at h
  ·rename_i n el l k j hu hx gZ;cases hb:cj j n with
   |false=>rw[hb]at h;simp at h
   |true=>
    rw[hb]at h;simp only[cond_true]at h;have hj:j<n:=by rw[gV]at hb;exact hb
    split at h
    ·rename_i z hz;have h1:(0:Int)<=cU j/\cU j<(n:Int):=by simp only[DK];omega
     simp only[ho,aW,hx,gZ,den,Instr.index,asIntOf,bj,cW,cd,dg hu];rw[if_pos h1];have:=No (ids:=ids) (w:=w) h;simp[bj,gj hz,this]
    ·cases h
  ·rename_i s k j hu hx gZ;split at h
   ·rename_i b hb;cases h;have h0:(0:Int)<=cU j:=yI j;have h1:(cU j).toNat=j:=rfl;simp only[ho,aW,hx,gZ,den,Instr.index,asIntOf,bj,cW,cd,dg hu,if_pos h0,h1,hb]
   ·cases h
  ·cases h
 ·rename_i x i ho;split at h
  ·rename_i l hx;split at h
   ·rename_i u hu;simp only[aS]at h;subst h;simp[ho,aW,hx,den,Instr.extract,wR,hu]
   ·cases h
  ·cases h
 ·rename_i c ho;split at h
  ·rename_i x t ts hc ha ht;obtain⟨callee,args,Nz⟩:=c;simp only at hc ha ht;subst hc;have sY:args=#[x]:=by apply eO;simpa using ha
   have h0:Nz[0]?=some t:=by rw[<-Array.getElem?_toList,ht];rfl
   subst sY;simp only[ho,resolve,bj,cW,cd,invoke,builtin];rw[show(#[x].map ρ)=#[den ids (e x)] by simp[aW]];rw[adA h _ _ h0];rfl
  ·rename_i x y hc ha;obtain⟨callee,args,Nz⟩:=c;simp only at hc ha;subst hc;have sY:args=#[x,y]:=by apply eO;simpa using ha
   subst sY;unfold Vp at h;split at h
   ·rename_i k a k2 b hx hy;obtain rfl:=ck h;simp[ho,resolve,invoke,builtin,aW,hx,hy,den,Builtin.min_,Builtin.min2,jb]
   ·cases h
  ·rename_i x y hc ha;obtain⟨callee,args,Nz⟩:=c;simp only at hc ha;subst hc;have sY:args=#[x,y]:=by apply eO;simpa using ha
   subst sY;unfold Vq at h;split at h
   ·rename_i k a k2 b hx hy;obtain rfl:=ck h;simp[ho,resolve,invoke,builtin,aW,hx,hy,den,Builtin.max_,Builtin.max2,jb]
   ·cases h
  ·cases h
 ·rename_i t x lo hi ho;simp only[ho,Option.map_none];rw[bj,adC aW h];rfl
 ·rename_i t x lo hi mx ho;simp only[ho,lx];rw[bj,adD aW h];rfl
 ·rename_i arr x ho;simp only[ho,aW];rw[bj,adE h];rfl
 ·cases h
end
end Vx
namespace Vx
open Go Go.RowKit Go.BigFrame Sx
structure BT where
 t:aD
 fz:Nat×Nat
instance(n:Nat):OfNat BT n:=⟨⟨n,(0,0)⟩⟩
instance:Coe aD BT:=⟨λt=>⟨t,(0,0)⟩⟩
def wZ:BT->aD->Bool
 |⟨t,(0,0)⟩,n=>ax t n
 |_,_=>false
theorem NA {b:BT} {n:Nat} (h:wZ b n=true):b=⟨n,(0,0)⟩:=by
 unfold wZ at h;split at h
 ·rw[b9 h]
 ·cases h
structure VB where
 wr:Bool
 ty:BT
 c:List V
def ay (ids:List Nat) (id:Nat) (b:VB):ai:=⟨id,b.wr,.cells (ah ids b.c).toArray b.ty.t b.ty.fz⟩
def lits (ids:List Nat):List Nat->List VB->List ai
 |i::is,b::bl=>ay ids i b::lits ids is bl
 |_,_=>[]
def sZ (P:aC) (bl:List VB) (t:aD) (x:V):Option V:=match x with
 |.ptr i off=>(match bl[i]?with
  |some b=>rv P t b.c off
  |none=>none)
 |_=>none
def ID (P:aC) (bl:List VB) (t:aD) (x v:V):Option (List VB):=match x with
 |.ptr i off=>(match bl[i]?with
  |some ⟨true,⟨ty,(0,0)⟩,c⟩=>(match dX P t with
   |some n=>bif oz v&&(lF (jf v)&&ax (bW (jf v)) n)then(match Iu c off n (jf v)with|some c'=>some (bl.set i ⟨true,⟨ty,(0,0)⟩,c'⟩)|none=>none)else none
   |none=>none)
  |_=>none)
 |_=>none
def kC (z:List V):Nat->List V
 |0=>[]
 |n+1=>z++kC z n
def Eo (P:aC) (e:aZ->V) (n:Nat):Op->Option (V×VB)
 |.alloc t=>(match l7 P t with|some z=>some (.ptr n 0,⟨true,t,z⟩)|none=>none)
 |.box t x=>bif oz (e x)then some (.ptr n 0,⟨true,t,jf (e x)⟩)else none
 |.buildSlice t len ps=>(match P.underlying t with
  |some (.slice el)=>(match dX P el,l7 P el with
   |some (z+1),some zc=>bif ax (bW zc) (z+1)&&(bA (len*(z+1)) (2^24)&&!(ax len 0&&(ax z 5||ax z 13)))then(match wY (λi=>some (i*(z+1),z+1)) (kC zc len) (Iy e ps)with|some c=>some (.sl n 0 len len,⟨true,el,c⟩)|none=>none)else none
   |_,_=>none)
  |_=>none)
 |_=>none
def bI (n:Nat):List VB->Bool
 |[]=>true
 |b::l=>ba n b.c&&bI n l
section
variable{ids:List Nat} {P:aC} {w w0:ae} {ms:List Nat} {e:aZ->V} {ρ:aZ->ab} {bl:List VB} {R:List ai}
theorem w5:∀(is:List Nat) (bl:List VB),is.length=bl.length->(lits ids is bl).length=bl.length
 |[],[],_=>rfl
 |i::is,b::bl,h=>by simp[lits,w5 is bl (by simpa using h)]
 |[],_::_,h=>by simp at h
 |_::_,[],h=>by simp at h
theorem BK:∀(is:List Nat) (bl:List VB) {k:Nat} {b:VB},is.length=bl.length->bl[k]?=some b->(lits ids is bl)[k]?=some (ay ids (is.getD k 0) b)
 |[],[],k,b,_,h=>by simp at h
 |i::is,c::bl,k,b,hl,h=>by
  cases k with
  |zero=>simp only[List.getElem?_cons_zero,aS]at h;subst h;simp[lits]
  |succ k=>simpa[lits]using BK is bl (by simpa using hl) (by simpa using h)
 |[],_::_,_,_,h,_=>by simp at h
 |_::_,[],_,_,h,_=>by simp at h
theorem uN:∀(is:List Nat) (bl:List VB) (k:Nat) (b:VB),is.length=bl.length->(lits ids is bl).set k (ay ids (is.getD k 0) b)=lits ids is (bl.set k b)
 |[],[],k,b,_=>by simp[lits]
 |i::is,c::bl,k,b,hl=>by
  cases k with
  |zero=>simp[lits]
  |succ k=>simpa[lits]using uN is bl k b (by simpa using hl)
 |[],_::_,_,_,h=>by simp at h
 |_::_,[],_,_,h=>by simp at h
theorem eZ (is js:List Nat) (bl cl:List VB) (h:is.length=bl.length):lits ids (is++js) (bl++cl)=lits ids is bl++lits ids js cl:=by
 induction is generalizing bl with
 |nil=>cases bl with
  |nil=>simp[lits]
  |cons=>simp at h
 |cons i is ih=>cases bl with
  |nil=>simp at h
  |cons b bl=>simp[lits,ih bl (by simpa using h)]
theorem e_ {more:List Nat}:∀(is:List Nat) (bl:List VB),bI ids.length bl=true->lits (ids++more) is bl=lits ids is bl
 |[],_,_=>by simp[lits]
 |_::_,[],_=>by simp[lits]
 |i::is,b::bl,h=>by
  simp only[bI,a_]at h;simp only[lits,ay,jO _ h.1,e_ is bl h.2]
theorem fp (hl:ids.length=bl.length) (S:St ms w0 (lits ids ids bl++R) w) {i:Nat} {b:VB} (h:bl[i]?=some b):
 (lits ids ids bl++R)[i]?=some (ay ids (ids.getD i 0) b)/\w.heap[ids.getD i 0]?=some (.cells (ah ids b.c).toArray b.ty.t b.ty.fz):=by
 have h1:=BK (ids:=ids) ids bl hl h;have h2:(lits ids ids bl++R)[i]?=some (ay ids (ids.getD i 0) b):=by
  rw[gI (by rw[w5 ids bl hl];rcases cE i bl.length with h'|h';exact h';simp[h']at h)];exact h1
 exact⟨h2,S.at_ i _ h2⟩
theorem IE (hl:ids.length=bl.length) (S:St ms w0 (lits ids ids bl++R) w) {t:aD} {x v:V} (h:sZ P bl t x=some v):(pC t (den ids x)).run P w=.ok (den ids v) w:=by
 unfold sZ at h;split at h
 ·rename_i i off;split at h
  ·rename_i b hb;have aK:=(fp hl S hb).2;unfold rv at h;simp only[pC,den,iJ,bj,cW,cd];split at h
   ·rename_i n ha hn;split at h
    ·rename_i c hc;simp only[aS]at h;subst h;obtain⟨g1,g2,g3⟩:=wW (ids:=ids) hc;refine DR (n:=n) aK ?_ ?_ ?_ ?_
     ·unfold qe at ha;split at ha
      ·rename_i d hd;rw[hd];simpa using ha
      ·cases ha
     ·unfold dX at hn;split at hn
      ·rename_i d hd;rw[hd];simpa using hn
      ·cases hn
     ·apply eO;simp[Array.toList_extract,List.extract,g1]
     ·simpa using g2
    ·cases h
   ·rename_i ha;have:=Ng (ids:=ids) h;refine Bh aK ?_ (by simpa using this);unfold qe at ha;split at ha
    ·rename_i d hd;rw[hd];simpa using ha
    ·cases ha
   ·cases h
  ·cases h
 ·cases h
theorem Vw (hl:ids.length=bl.length) (S:St ms w0 (lits ids ids bl++R) w) {t:aD} {x v:V} {bl':List VB} (h:ID P bl t x v=some bl'):
 ∃w',(HM t (den ids x) (den ids v)).run P w=.ok () w'/\St ms w0 (lits ids ids bl'++R) w'/\ids.length=bl'.length:=by
 unfold ID at h;split at h
 ·rename_i i off;split at h
  ·rename_i ty c hb;split at h
   ·rename_i n hn;cases hq:oz v&&(lF (jf v)&&ax (bW (jf v)) n)with
    |false=>rw[hq]at h;simp at h
    |true=>
     rw[hq]at h;simp only[cond_true]at h;simp only[a_]at hq;obtain⟨q1,q2,q3⟩:=hq;have q3:=b9 q3;split at h
     ·rename_i c' w6;simp only[aS]at h;subst h;obtain⟨s1,s2⟩:=Vk (ids:=ids) w6;obtain⟨hi,aK⟩:=fp hl S hb;have hlen:(ah ids (jf v)).length=n:=by rw[j6,q3]
      have bE:=H4 (P:=P) (off:=off) (v:=den ids v) (vs:=ah ids (jf v)) aK (Nh q1) (by
       unfold dX at hn;split at hn
       ·rename_i d hd;rw[hd];simp[hlen]at hn⊢;exact hn
       ·cases hn) (by simpa[hlen]using s2) (by rw[fK];exact zi q2)
      have fw:=S.step hi rfl (Ch.setRow w (ids.getD i 0) _) (setRow_heap w (ids.getD i 0) _ (splice (ah ids c).toArray off (ah ids (jf v))) ty (0,0) aK);have pT:splice (ah ids c).toArray off (ah ids (jf v))=(ah ids c').toArray:=by
       apply eO;simp[splice,s1,hlen]
      have kB:i<(lits ids ids bl).length:=by rw[w5 ids bl hl];rcases cE i bl.length with h'|h';exact h';simp[h']at hb
      refine⟨w.setRow (ids.getD i 0) (splice (ah ids c).toArray off (ah ids (jf v))),?_,?_,?_⟩
      ·simp only[HM,den,iJ,bj,cW,cd];exact bE
      ·have s7:=uN (ids:=ids) ids bl i ⟨true,ty,c'⟩ hl;rw[<-s7,<-List.set_append_left _ _ kB];rw[pT]at fw⊢;exact fw
      ·simpa using hl
     ·cases h
   ·cases h
  ·cases h
 ·cases h
theorem Vy (z:List V) (n:Nat):ah ids (kC z n)=(kO n (ah ids z)).flatten:=by
 induction n with
 |zero=>simp[kC,ah]
 |succ n ih=>simp[kC,iq,ih,List.replicate_succ]
theorem NB (z:Array ab) (m:Nat) (hm:z.size=m+1):∀n,((Array.range (n*(m+1))).map (λi=>z[i%z.size]!)).toList=(kO n z.toList).flatten:=by
 intro n;simp only[Array.toList_map,Array.toList_range];induction n with
 |zero=>simp
 |succ n ih=>
  rw[List.replicate_succ',List.flatten_append,<-ih,Nat.succ_mul,List.range_add,qT,mG];congr 1;simp only[List.flatten_cons,List.flatten_nil,cI];apply um;intro i;rw[iI];by_cases hi:i<m+1
  ·rw[mF hi];simp only[lx,Function.comp];rw[hm,show(n*(m+1)+i)%(m+1)=i by rw[Nat.mul_comm,Nat.mul_add_mod,Nat.mod_eq_of_lt hi]];simp[getElem!_pos,hm,hi]
  ·rw[ig (by simpa using hi),ig (by simp[hm];omega)];rfl
end
end Vx
