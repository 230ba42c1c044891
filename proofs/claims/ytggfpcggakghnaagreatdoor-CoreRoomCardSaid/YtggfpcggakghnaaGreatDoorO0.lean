/- Part 0 of the proof. -/
import Derived.WalkKit
import Derived.Below
import Derived.BigFrame
import Derived.KernelRfl
import Derived.LoopN
import Derived.Laws.CopyRow
import Derived.Laws.StructEq
import Derived.ChangeKeysEq
import Derived.IntWalk
import Derived.Orders
import Derived.Deep.Upon
import Derived.WideMake
set_option linter.all false
set_option maxRecDepth 100000
set_option maxHeartbeats 4000000
noncomputable section
open Array renaming replicate->Ca,getElem?_eq_none->Es,getD->Ew,all_eq_true_iff_forall_mem->IH,getElem?_eq_getElem->II,toList_setIfInBounds->IJ,ext'->fe,getD_eq_getD_getElem?->ju,getElem?_setIfInBounds->qx,getElem?_replicate->zN
open BitVec renaming toNat_ofInt->IG,ofInt->n8
open Bool renaming or_eq_true->Cc,and_eq_true->bg,not_eq_true'->lN
open Go renaming ResultVar->IE,Program->aF,TypeId->aG,Addr->aO,Value->ab,World->ae,Oper->ao,Operand->ba,Exit->dR,run_underlying->dt,IntKind->eS,FuncId->fc,heap_alloc_new->mX,sizeOf->oP,MapEntry->va
open Go.Addr renaming add_lit->iE,add->u5
open Go.Builtin renaming append_->mY,zeroCells->n9
open Go.Code renaming rounds->Cb
open Go.Exit renaming inBlock->ID
open Go.Instr renaming slice->Ev,storeAt->IC,findNow->NF,build->ad0,fill->adY,fieldAt->adZ,sureAddr->i_,loadAt->qu,indexAt->tA,sliceAt->tD,sliceBounds->tF,sliceBound->zQ
open Go.IntKind renaming wrap->xw
open Go.Op renaming unary->V1,equal->V2,intArith->adX
open Go.Oper renaming wp->n7
open Go.Region renaming wanted->gu,ready->qA,binds->qy
open Go.Result renaming andThen_ok->cz,andThen->jw
open Go.Sem renaming run_bind->bx,run_pure->dg
open Go.Src renaming ofSlice->rU
open Go.Value renaming cells->V0,int->eg
open Go.World renaming cell?->xu
open Int renaming emod_eq_of_lt->IF,ofNat->cJ,ofNat_eq_natCast->xy,natCast_nonneg->zT
open List renaming length_map->Eu,getElem?_set_ne->IB,length_range->IK,length_nil->IL,getElem_append_left->IM,getElem?_set_self->NA,pairwise_append->NB,count_replicate_self->VW,getElem_append_right->VY,append_assoc->bR,range->bd,append_nil->cQ,mem_cons->ca,map_cons->eH,mem_append->eJ,all_eq_true->fR,nil_append->fl,length_append->fq,cons_append->ft,getElem?_append_left->gV,getElem?_eq_none->iK,getElem?_map->iZ,mem_singleton->ig,getD->ij,getElem?_eq_getElem->jb,getElem?_toArray->jt,take_append_drop->jv,length_cons->kN,replicate->lP,getElem?_range->m9,eq_nil_of_length_eq_zero->mZ,mem_map->mn,map_map->mr,mem_of_getElem?->oQ,getD_eq_getElem?_getD->oS,sublist_append_right->oT,map_append->qB,map_congr_left->qD,nodup_cons->qz,length_take->u9,ext_getElem?->u_,range_succ_eq_map->vd,foldl_cons->ve,any_eq_true->zK,getElem?_append_right->zL,getElem?_of_mem->zM,pairwise_cons->zR
open List.Mem renaming head->Cd,tail->VZ
open List.Perm renaming append_right->Et,swap->ND,cons->u7
open List.Sublist renaming append_left->zO
open List.cons renaming inj->vb
open Nat renaming mul_le_mul_right->NC,lt_of_not_le->NG,lt_of_lt_of_le->Nz,and_two_pow_sub_one_eq_mod->adW,beq->aq,ble->bu,lt_or_ge->cN,eq_of_beq_eq_true->ck,blt->cu,le_refl->dE,le_of_ble_eq_true->du,zero_add->eD,le_trans->iY,blt_eq->ie,add_mul->mq,add_zero->oR,beq_refl->rV,ble_eq_true_of_le->tB,eq_zero_or_pos->u6,add_assoc->zP
open Option renaming getD_some->VV,map_eq_some_iff->gU,map_some->lO
open Option.some renaming injEq->aV,inj->cA
open Prod.mk renaming injEq->bw
namespace Sx
open Go Go.RowKit Go.BigFrame
structure Ch (ms:List Nat) (w w':ae):Prop where
 os:w'.os=w.os
 tape:w'.tape=w.tape
 output:w'.output=w.output
 size:w.heap.size<=w'.heap.size
 block:∀k,k<w.heap.size->k∉ms->w'.heap[k]?=w.heap[k]?
theorem Ch.refl (ms:List Nat) (w:ae):Ch ms w w:=⟨rfl,rfl,rfl,dE _,λ_ _ _=>rfl⟩
theorem Ch.trans {ms ns:List Nat} {a b c:ae} (h:Ch ms a b) (k:Ch ns b c) (hs:∀x∈ns,x∈ms\/a.heap.size<=x):Ch ms a c:=
 ⟨k.os.trans h.os,k.tape.trans h.tape,k.output.trans h.output,iY h.size k.size,λi hi hm=>
  (k.block i (Nz hi h.size) (λhn=>by rcases hs i hn with h1|h1;exact hm h1;omega)).trans (h.block i hi hm)⟩
theorem Ch.below {w w':ae} (h:Ch [] w w'):Below w.heap.size w w':=⟨h.os,h.tape,h.output,h.size,λk hk=>h.block k hk (by simp)⟩
theorem Ch.drew {ms:List Nat} {w w':ae} (h:Ch ms w w'):Ch ms w {w' with drawn:=w'.drawn+1}:=⟨h.os,h.tape,h.output,h.size,h.block⟩
theorem Ch.alloc (ms:List Nat) (w:ae) (o:Obj):Ch ms w (w.alloc o):=
 ⟨rfl,rfl,rfl,by show w.heap.size<=(w.heap.push o).size;simp,λk hk _=>Below.heap_alloc _ _ _ hk⟩
theorem Ch.setRow (w:ae) (g:Nat) (cs:Array ab):Ch [g] w (w.setRow g cs):=
 ⟨rfl,rfl,rfl,by simp[World.setRow],λk hk hm=>by
  simp only[World.setRow,Array.getElem?_modify];rw[if_neg (by intro e;exact hm (by simp[e]))]⟩
structure ai where
 id:Nat
 wr:Bool
 obj:Obj
structure St (ms:List Nat) (w0:ae) (bs:List ai) (w:ae):Prop where
 ch:Ch ms w0 w
 at_:∀(i:Nat) x,bs[i]?=some x->w.heap[x.id]?=some x.obj
 own:∀(i:Nat) x,bs[i]?=some x->x.wr=true->x.id∈ms\/w0.heap.size<=x.id
 apart:∀(i j:Nat) x y,bs[i]?=some x->bs[j]?=some y->i≠j->x.wr=true->x.id≠y.id
theorem oW {w:ae} {k:Nat} {x:Obj} (h:w.heap[k]?=some x):k<w.heap.size:=by
 rcases cN k w.heap.size with h1|h1
 ·exact h1
 ·simp[h1]at h
theorem St.nil (ms:List Nat) (w:ae):St ms w [] w:=⟨Ch.refl _ _,by simp,by simp,by simp⟩
theorem St.quiet {ms:List Nat} {w0 w w':ae} {bs:List ai} (h:St ms w0 bs w) (hc:Ch [] w w'):St ms w0 bs w':=
 ⟨h.ch.trans hc (by simp),λi x hx=>(hc.block _ (oW (h.at_ i x hx)) (by simp)).trans (h.at_ i x hx),h.own,h.apart⟩
theorem St.step {ms:List Nat} {w0 w w':ae} {bs:List ai} (h:St ms w0 bs w) {i:Nat} {x:ai} (hi:bs[i]?=some x) (hx:x.wr=true) (hc:Ch [x.id] w w') {o':Obj} (ho:w'.heap[x.id]?=some o'):
 St ms w0 (bs.set i ⟨x.id,true,o'⟩) w':=by
 have qH:∀(j:Nat) y,(bs.set i ⟨x.id,true,o'⟩)[j]?=some y->(j=i/\y=⟨x.id,true,o'⟩)\/(j≠i/\bs[j]?=some y):=by
  intro j y hy;by_cases hj:i=j
  ·subst hj;rw[NA (by rcases cN i bs.length with h1|h1;exact h1;simp[h1]at hi)]at hy;exact Or.inl ⟨rfl,by simpa using hy.symm⟩
  ·rw[IB hj]at hy;exact Or.inr ⟨λe=>hj e.symm,hy⟩
 refine⟨h.ch.trans hc (by simpa using h.own i x hi hx),?_,?_,?_⟩
 ·intro j y hy;rcases qH j y hy with⟨rfl,rfl⟩|⟨cw,hy⟩
  ·exact ho
  ·exact(hc.block _ (oW (h.at_ j y hy)) (by simpa using(h.apart i j x y hi hy (λe=>cw e.symm) hx).symm)).trans (h.at_ j y hy)
 ·intro j y hy hw;rcases qH j y hy with⟨rfl,rfl⟩|⟨_,hy⟩
  ·exact h.own _ x hi hx
  ·exact h.own j y hy hw
 ·intro j k y z hy hz cw hw;rcases qH j y hy with⟨rfl,rfl⟩|⟨h1,hy⟩<;>rcases qH k z hz with⟨rfl,rfl⟩|⟨h2,hz⟩
  ·exact absurd rfl cw
  ·exact h.apart _ k x z hi hz (λe=>h2 e.symm) hx
  ·exact λe=>h.apart _ j x y hi ‹bs[j]?=some y› (λe=>h1 e.symm) hx e.symm
  ·exact h.apart _ _ _ _ ‹bs[j]?=some y› hz cw hw
theorem St.new {ms:List Nat} {w0 w w':ae} {bs:List ai} (h:St ms w0 bs w) (hc:Ch [] w w') {b:Nat} {o:Obj} (hb:w.heap.size<=b) (ho:w'.heap[b]?=some o):St ms w0 (⟨b,true,o⟩::bs) w':=by
 have hq:=h.quiet hc;have dv:∀(i:Nat) x,bs[i]?=some x->x.id<b:=λi x hx=>Nz (oW (h.at_ i x hx)) hb;refine⟨hq.ch,?_,?_,?_⟩
 ·intro i x hx;cases i with
  |zero=>obtain rfl:_=x:=by simpa using hx
         exact ho
  |succ i=>exact hq.at_ i x (by simpa using hx)
 ·intro i x hx hw;cases i with
  |zero=>obtain rfl:_=x:=by simpa using hx
         exact Or.inr (iY h.ch.size hb)
  |succ i=>exact hq.own i x (by simpa using hx) hw
 ·intro i j x y hx hy cw hw;cases i with
  |zero=>
   obtain rfl:_=x:=by simpa using hx
   cases j with
   |zero=>exact absurd rfl cw
   |succ j=>have:=dv j y (by simpa using hy);simp;omega
  |succ i=>
   cases j with
   |zero=>obtain rfl:_=y:=by simpa using hy
          have:=dv i x (by simpa using hx);simp;omega
   |succ j=>exact hq.apart i j x y (by simpa using hx) (by simpa using hy) (by omega) hw
theorem St.lt {ms:List Nat} {w0 w:ae} {bs:List ai} (h:St ms w0 bs w) {i:Nat} {x:ai} (hi:bs[i]?=some x):x.id<w.heap.size:=oW (h.at_ i x hi)
theorem St.pick {ms:List Nat} {w0 w:ae} {bs:List ai} (h:St ms w0 bs w) (is:List Nat) {bs':List ai} (he:is.map (bs[·]?)=bs'.map some) (hn:is.Nodup):St ms w0 bs' w:=by
 have aM:∀(i:Nat) x,bs'[i]?=some x->∃j,is[i]?=some j/\bs[j]?=some x:=by
  intro i x hx;have h1:(bs'.map some)[i]?=some (some x):=by simp[hx]
  rw[<-he]at h1;simp only[iZ,gU]at h1;exact h1
 refine⟨h.ch,?_,?_,?_⟩
 ·intro i x hx;obtain⟨j,_,hj⟩:=aM i x hx;exact h.at_ j x hj
 ·intro i x hx;obtain⟨j,_,hj⟩:=aM i x hx;exact h.own j x hj
 ·intro i k x y hx hy cw;obtain⟨j,xC,hj⟩:=aM i x hx;obtain⟨l,xD,hl⟩:=aM k y hy;refine h.apart j l x y hj hl ?_;intro e;subst e;exact cw ((List.getElem?_inj (by rcases cN i is.length with h1|h1;exact h1;simp[h1]at xC) hn).1 (xC.trans xD.symm))
def je (d:TypeDesc):Bool:=match d with|.struct _|.array _ _=>true|_=>false
section
variable{P:aF}
theorem zZ {ty:aG} {b:Bool} (h:(P.underlying ty).map je=some b) (w:ae):(isAgg ty).run P w=.ok b w:=by
 cases hq:P.underlying ty with
 |none=>simp[hq]at h
 |some d=>
  simp[hq]at h;unfold isAgg;rw[bx,dt hq w];cases d<;>simp_all[je]
theorem cell_of {w:ae} {g:Nat} {cs:Array ab} {t:aG} {fr:Nat×Nat} (h:w.heap[g]?=some (.cells cs t fr)) (o:Nat):w.cell? ⟨g,o,none⟩=cs[o]?:=by
 simp[xu,h]
theorem Cm {w:ae} {g off:Nat} {cs:Array ab} {t ty:aG} {fr:Nat×Nat} {v:ab} (hg:w.heap[g]?=some (.cells cs t fr)) (ha:(P.underlying ty).map je=some false) (hc:cs[off]?=some v):
 (loadVar ty ⟨g,off,none⟩).run P w=.ok v w:=by
 unfold loadVar;rw[bx,zZ ha];simp[load,Sem.run,cell_of hg,hc]
theorem EC {w:ae} {g off n:Nat} {cs vs:Array ab} {t ty:aG} {fr:Nat×Nat} (hg:w.heap[g]?=some (.cells cs t fr)) (ha:(P.underlying ty).map je=some true) (hn:(P.info? ty).map (·.size)=some n)
 (hc:cs.extract off (off+n)=vs) (hv:vs.size=n):(loadVar ty ⟨g,off,none⟩).run P w=.ok (.agg vs) w:=by
 have hl:(loadCells ⟨g,off,none⟩ vs.toList.length).run P w=.ok vs.toList.toArray w:=
  run_loadCells_list (P:=P) w ⟨g,off,none⟩ vs.toList (λj v hj=>by
   have ED:(⟨g,off,none⟩:aO).add j=⟨g,off+j,none⟩:=by unfold u5;split<;>simp_all
   rw[ED,cell_of hg];have h1:vs[j]?=some v:=by simpa using hj
   rw[<-hc,Array.getElem?_extract]at h1;split at h1
   ·exact h1
   ·exact absurd h1 (by simp))
 cases hq:P.info? ty with
 |none=>simp[hq]at hn
 |some i=>
  have hs:i.size=vs.size:=by simpa[hq,hv]using hn
  simp only[Array.length_toList,Array.toArray_toList]at hl;simp[loadVar,bx,zZ ha,oP,typeInfo,hq,hs,hl]
def splice (cs:Array ab) (off:Nat) (vs:List ab):Array ab:=(cs.toList.take off++vs++cs.toList.drop (off+vs.length)).toArray
theorem IU {w:ae} {g off:Nat} {cs:Array ab} {t ty:aG} {v:ab} {vs:List ab} (hg:w.heap[g]?=some (.cells cs t (0,0))) (hv:v.cells.toList=vs) (hn:(P.info? ty).map (·.size)=some vs.length)
 (hl:off+vs.length<=cs.size) (h1:vs.all (·.oneCell')=true):(storeVar ty ⟨g,off,none⟩ v).run P w=.ok () (w.setRow g (splice cs off vs)):=by
 cases hq:P.info? ty with
 |none=>simp[hq]at hn
 |some i=>
  have hs:i.size=vs.length:=by simpa[hq]using hn
  have hz:v.cells.size=vs.length:=by rw[<-hv];simp
  have:=run_storeCells_at (P:=P) g off t vs 0 cs w hg (by simpa using hl) (by simpa using h1);unfold storeVar;simp[bx,oP,typeInfo,hq,hs,hz,hv,splice]at this⊢;exact this
end
def aS (P:aF) (f:fc) (args:Array ab) (w:ae) (R:ab->ae->Prop):Prop:=Calls P f args w λe w'=>∃v,e=.returned v/\R v w'
theorem aS.mono {P:aF} {f:fc} {args:Array ab} {w:ae} {R R':ab->ae->Prop} (h:aS P f args w R) (hr:∀v w',R v w'->R' v w'):aS P f args w R':=
 Calls.mono h λe w' ⟨v,he,hv⟩=>⟨v,he,hr _ _ hv⟩
def lk (bs:List ai) (i off:Nat):Option (Nat×ab):=
 match bs[i]?with
 |some ⟨b,_,.cells cs _ _⟩=>match cs[off]?with|some v=>some (b,v)|none=>none
 |_=>none
def xE (bs:List ai) (i off n:Nat):Option (Nat×Array ab):=
 match bs[i]?with
 |some ⟨b,_,.cells cs _ _⟩=>match bu (off+n) cs.size with|true=>some (b,((cs.toList.drop off).take n).toArray)|false=>none
 |_=>none
def xF (bs:List ai) (i off n:Nat):Option Nat:=
 match bs[i]?with
 |some ⟨b,true,.cells cs _ (0,0)⟩=>match bu (off+n) cs.size with|true=>some b|false=>none
 |_=>none
def vh (bs:List ai) (i off:Nat) (vs:List ab):List ai:=
 match bs[i]?with
 |some ⟨b,wr,.cells cs t fr⟩=>bs.set i ⟨b,wr,.cells (splice cs off vs) t fr⟩
 |_=>bs
theorem Wc {bs:List ai} {i off b:Nat} {v:ab} (h:lk bs i off=some (b,v)):∃wr cs t fr,bs[i]?=some ⟨b,wr,.cells cs t fr⟩/\cs[off]?=some v:=by
 unfold lk at h;split at h
 ·rename_i b' wr cs t fr hb;split at h
  ·rename_i v' hv;simp only[aV,bw]at h;obtain⟨rfl,rfl⟩:=h;exact⟨wr,cs,t,fr,hb,hv⟩
  ·simp at h
 ·simp at h
theorem IV {bs:List ai} {i off n b:Nat} {vs:Array ab} (h:xE bs i off n=some (b,vs)):∃wr cs t fr,bs[i]?=some ⟨b,wr,.cells cs t fr⟩/\cs.extract off (off+n)=vs/\vs.size=n:=by
 unfold xE at h;split at h
 ·rename_i b' wr cs t fr hb;split at h
  ·rename_i hle;simp only[aV,bw]at h;obtain⟨rfl,rfl⟩:=h;have:=du hle;have e:cs.extract off (off+n)=((cs.toList.drop off).take n).toArray:=by
    apply fe;simp[List.extract]
   exact⟨wr,cs,t,fr,hb,e,by simp;omega⟩
  ·simp at h
 ·simp at h
theorem IW {bs:List ai} {i off n b:Nat} (h:xF bs i off n=some b):∃cs t,bs[i]?=some ⟨b,true,.cells cs t (0,0)⟩/\off+n<=cs.size:=by
 unfold xF at h;split at h
 ·rename_i b' cs t hb;split at h
  ·rename_i hle;simp only[aV]at h;obtain rfl:=h;exact⟨cs,t,hb,du hle⟩
  ·simp at h
 ·simp at h
structure WL (P:aF) (ops:Array ao) (Q:dR->Act->ae->Prop) (l:List ao) (a:Act) (w:ae):Prop where
 out:wpList P ops Q l a w
theorem WL.want {P:aF} {ops:Array ao} {Q:dR->Act->ae->Prop} {a:Act} {w:ae} {rest:List ao} {o:ao} (hw:gu o (yielded ops a.tmps)=true)
 (h:∀K:Act->ae->Prop,(∀a w,WL P ops Q rest a w->K a w)->o.wp P a w K Q):WL P ops Q (o::rest) a w:=⟨wpList_want hw λK hK=>h K λa w x=>hK a w x.out⟩
section
variable{P:aF} {ops:Array ao} {rest:List ao} {o:ao} {a:Act} {w w0:ae} {ms:List Nat} {bs:List ai} {Q:dR->Act->ae->Prop}
theorem ak (v:ab) (k:WL P ops Q rest (a.put o.dst v) w) (hw:gu o (yielded ops a.tmps)=true:=by kernel_rfl) (h:(execOp a.eval o).run P w=.ok (.value v) w:=by kernel_rfl):WL P ops Q (o::rest) a w:=
 WL.want hw λK hK=>by unfold n7;rw[h];exact hK _ _ k
theorem vi (k:WL P ops Q rest (a.put o.dst undef) w) (hw:gu o (yielded ops a.tmps)=false:=by kernel_rfl):WL P ops Q (o::rest) a w:=⟨wpList_skip hw k.out⟩
theorem oX (S:St ms w0 bs w) (i:Nat) (v:ab) (b off:Nat) {x:ba} {ty:aG} (k:WL P ops Q rest (a.put o.dst v) w) (hw:gu o (yielded ops a.tmps)=true:=by kernel_rfl) (ho:o.op=.load ty x:=by rfl) (hx:a.eval x=.pointer (some ⟨b,off,none⟩):=by kernel_rfl)
 (ha:(P.underlying ty).map je=some false:=by kernel_rfl) (hb:lk bs i off=some (b,v):=by kernel_rfl):WL P ops Q (o::rest) a w:=
 WL.want hw λK hK=>by
  obtain⟨wr,cs,t,fr,hb,hc⟩:=Wc hb;unfold n7 execOp;simp only[ho,hx,qu,i_,bx,dg,cz,Cm (S.at_ i _ hb) ha hc];exact hK _ _ k
theorem jY (S:St ms w0 bs w) (i:Nat) (n:Nat) (vs:Array ab) (b off:Nat) {x:ba} {ty:aG} (k:WL P ops Q rest (a.put o.dst (.agg vs)) w) (hw:gu o (yielded ops a.tmps)=true:=by kernel_rfl) (ho:o.op=.load ty x:=by rfl) (hx:a.eval x=.pointer (some ⟨b,off,none⟩):=by kernel_rfl)
 (ha:(P.underlying ty).map je=some true:=by kernel_rfl) (hn:(P.info? ty).map (·.size)=some n:=by kernel_rfl) (hb:xE bs i off n=some (b,vs):=by kernel_rfl):WL P ops Q (o::rest) a w:=
 WL.want hw λK hK=>by
  obtain⟨wr,cs,t,fr,hb,hc,hv⟩:=IV hb;unfold n7 execOp;simp only[ho,hx,qu,i_,bx,dg,cz,EC (S.at_ i _ hb) ha hn hc hv];exact hK _ _ k
theorem store_ (S:St ms w0 bs w) (i:Nat) (v:ab) (b off:Nat) {x y:ba} {ty:aG} (k:∀w',St ms w0 (vh bs i off v.cells.toList) w'->WL P ops Q rest (a.put o.dst undef) w') (hw:gu o (yielded ops a.tmps)=true:=by kernel_rfl) (ho:o.op=.store ty x y:=by rfl) (hx:a.eval x=.pointer (some ⟨b,off,none⟩):=by kernel_rfl) (hy:a.eval y=v:=by kernel_rfl)
 (hn:(P.info? ty).map (·.size)=some v.cells.toList.length:=by kernel_rfl) (h1:v.cells.toList.all (·.oneCell')=true:=by kernel_rfl) (hb:xF bs i off v.cells.toList.length=some b:=by kernel_rfl):WL P ops Q (o::rest) a w:=
 WL.want hw λK hK=>by
  obtain⟨cs,t,hb,hl⟩:=IW hb;unfold n7 execOp;have aM:=S.at_ i _ hb;simp only[ho,hx,hy,IC,i_,bx,dg,cz,IU (P:=P) aM rfl hn hl h1];refine hK _ _ (k _ ?_);have:=S.step hb rfl (Ch.setRow w b _) (setRow_heap w b cs (splice cs off v.cells.toList) t (0,0) aM);simpa[vh,hb]using this
theorem dJ {x:ba} (k:WL P ops Q rest (a.put o.dst (a.eval x)) w) (hw:gu o (yielded ops a.tmps)=true:=by kernel_rfl) (ho:o.op=.move x:=by rfl):WL P ops Q (o::rest) a w:=
 ak _ k hw (by unfold execOp;simp[ho])
theorem fS {x:ba} (k:WL P ops Q rest (a.put o.dst (a.eval x)) w) (hw:gu o (yielded ops a.tmps)=true:=by kernel_rfl) (ho:o.op=.assign x:=by rfl):WL P ops Q (o::rest) a w:=
 ak _ k hw (by unfold execOp;simp[ho])
theorem n_ (v v':ab) (he:v=v') (k:WL P ops Q rest (a.put o.dst v') w) (hw:gu o (yielded ops a.tmps)=true:=by kernel_rfl) (h:(execOp a.eval o).run P w=.ok (.value v) w:=by kernel_rfl):WL P ops Q (o::rest) a w:=by
 subst he;exact ak v k hw h
theorem kO (kd:eS) (e:Int) (he:kd.wrap e=e) (k:WL P ops Q rest (a.put o.dst (.int kd e)) w) (hw:gu o (yielded ops a.tmps)=true:=by kernel_rfl) (h:(execOp a.eval o).run P w=.ok (.value (.int kd (kd.wrap e))) w:=by kernel_rfl):WL P ops Q (o::rest) a w:=
 n_ _ _ (by rw[he]) k hw h
theorem Wd (t:Nat) (b:Bool) (ht:b=true->WL P ops Q rest (a.put (some t) (.bool true)) w) (hf:b=false->WL P ops Q rest (a.put (some t) (.bool false)) w) (hv:a.tmps[t]?=some (.bool b):=by kernel_rfl):WL P ops Q rest a w:=by
 have hs:a.put (some t) (.bool b)=a:=by
  obtain⟨tmps,ds⟩:=a;have e:tmps.setIfInBounds t (.bool b)=tmps:=by
   apply Array.ext_getElem?;intro i;rw[qx];have NJ:tmps[t]?=some (.bool b):=hv;by_cases h:t=i
   ·subst h;rw[if_pos rfl];by_cases h2:t<tmps.size
    ·rw[if_pos h2];exact NJ.symm
    ·rw[if_neg h2];rw[Es (by omega)]at NJ;exact absurd NJ (by simp)
   ·rw[if_neg h]
  simp only[Act.put,e]
 cases b
 ·rw[<-hs];exact hf rfl
 ·rw[<-hs];exact ht rfl
theorem eE (S:St ms w0 bs w) (f:Nat->ab) (obj:Obj) (k:∀b w',St ms w0 (⟨b,true,obj⟩::bs) w'->WL P ops Q rest (a.put o.dst (f b)) w') (hw:gu o (yielded ops a.tmps)=true:=by kernel_rfl) (h:(execOp a.eval o).run P w=.ok (.value (f w.heap.size)) (w.alloc obj):=by kernel_rfl):WL P ops Q (o::rest) a w:=
 WL.want hw λK hK=>by
  unfold n7;rw[h];exact hK _ _ (k _ _ (S.new (Ch.alloc _ _ _) (dE _) (mX w obj)))
theorem fu (f:fc) (args:Array ab) (k:aS P f args w λv w'=>WL P ops Q rest (a.put o.dst v) w') (hw:gu o (yielded ops a.tmps)=true:=by kernel_rfl) (h:(execOp a.eval o).run P w=.ok (.enter f args) w:=by kernel_rfl):WL P ops Q (o::rest) a w:=
 WL.want hw λK hK=>by
  unfold n7;rw[h];refine Calls.mono k ?_;rintro e w' ⟨v,rfl,hk⟩;exact hK _ _ hk
end
section
variable{P:aF} {a:Act} {w:ae} {Q:dR->Act->ae->Prop}
theorem iL {f:fc} {fn:Func} {c:Code} {args:Array ab} {R:ab->ae->Prop} (hf:P.funcs[f]?=some fn) (hb:fn.body=some c)
 (h:c.wp P (bodyPost P fn (λe w'=>∃v,e=.returned v/\R v w')) ⟨args++Ca (fn.ntmps-args.size) undef,[]⟩ w):aS P f args w R:=by
 exact calls_of_wp hf hb h
theorem aQ {x y:Code} (h:x.wp P (Exit.then (y.wp P Q) Q) a w):(Code.seq x y).wp P Q a w:=wp_seq h
theorem aX {id:Nat} {l:List ao} (h:WL P l.toArray Q l a w):(Code.region id l.toArray false).wp P Q a w:=wp_region_lit h.out
theorem aT {ops:Array ao} (h:Q .normal a w):WL P ops Q [] a w:=⟨h⟩
theorem aP {y:Code} (h:y.wp P Q a w):Exit.then (y.wp P Q) Q .normal a w:=h
theorem We {K:Act->ae->Prop} (h:Q .ret a w):Exit.then K Q .ret a w:=h
theorem ln {K:Act->ae->Prop} {id:Nat} (h:Q (.exit id) a w):Exit.then K Q (.exit id) a w:=h
theorem lq {id:Nat} (h:Q .normal a w):ID id Q .normal a w:=h
theorem vj {id:Nat} (h:Q .normal a w):ID id Q (.exit id) a w:=by simpa[ID]using h
theorem EE {c:Code} (n:Nat) (h:c.wp P (Exit.then (Cb P c Q n) Q) a w):(Code.loop c).wp P Q a w:=wp_loop_rounds (n+1) h
theorem vl {c:Code} {n:Nat} (h:c.wp P (Exit.then (Cb P c Q n) Q) a w):Exit.then (Cb P c Q (n+1)) Q .normal a w:=h
theorem gf {fn:Func} {R:ab->ae->Prop} {v:ab} (hd:a.defers=[]) (hr:(results fn a.tmps).run P w=.ok v w) (h:R v w):bodyPost P fn (λe w'=>∃v,e=.returned v/\R v w') .ret a w:=
 ⟨hd,v,hr,v,rfl,h⟩
theorem end_ {fn:Func} {R:ab->ae->Prop} {v:ab} (hd:a.defers=[]) (hr:(results fn a.tmps).run P w=.ok v w) (h:R v w):bodyPost P fn (λe w'=>∃v,e=.returned v/\R v w') .normal a w:=
 ⟨hd,v,hr,v,rfl,h⟩
def xG (tmps:Array ab):IE->Sem ab
 |.tmp t=>pure (tmps.getD t undef)
 |.cell a t=>do loadVar t (<-asAddr (tmps.getD a undef))
def IX (P:aF) (w:ae) (tmps:Array ab):List IE->List ab->Prop
 |[],[]=>True
 |r::rs,v::vs=>(xG tmps r).run P w=.ok v w/\IX P w tmps rs vs
 |_,_=>False
theorem Wf {tmps:Array ab}:∀{rs:List IE} {vs:List ab},IX P w tmps rs vs->(rs.mapM (xG tmps)).run P w=.ok vs w
 |[],[],_=>rfl
 |r::rs,v::vs,⟨h,hs⟩=>by
  simp only[List.mapM_cons,bx,h,cz,Wf hs];rfl
 |[],_::_,h=>h.elim
 |_::_,[],h=>h.elim
def IY:List ab->ab
 |[v]=>v
 |vs=>.tuple vs.toArray
theorem fF {fn:Func} {tmps:Array ab} (rs:List IE) (vs:List ab) (v:ab) (h:IX P w tmps rs vs) (hf:fn.results=rs.toArray:=by kernel_rfl) (hv:IY vs=v:=by kernel_rfl):(results fn tmps).run P w=.ok v w:=by
 subst hv;have h1:results fn tmps=(do let vs <-fn.results.mapM (xG tmps);pure (if h:vs.size=1 then vs[0]else .tuple vs)):=by
  unfold results;congr 2
 rw[h1,hf,List.mapM_toArray];simp only[Sem.run_map,Wf h,cz,bind_pure_comp,Functor.map_map];rcases vs with _|⟨v,_|⟨u,vs⟩⟩<;>simp[IY]
theorem jf {tmps:Array ab} {t:Nat} {v:ab} (h:tmps.getD t undef=v:=by kernel_rfl):(xG tmps (.tmp t)).run P w=.ok v w:=by subst h;rfl
theorem mu {ms:List Nat} {w0:ae} {bs:List ai} (S:St ms w0 bs w) (i n b off:Nat) {tmps vs:Array ab} {t ty:Nat} (h:tmps.getD t undef=.pointer (some ⟨b,off,none⟩):=by kernel_rfl)
 (ha:(P.underlying ty).map je=some true:=by kernel_rfl) (hn:(P.info? ty).map (·.size)=some n:=by kernel_rfl) (hb:xE bs i off n=some (b,vs):=by kernel_rfl):(xG tmps (.cell t ty)).run P w=.ok (.agg vs) w:=by
 obtain⟨wr,cs,t,fr,hb,hc,hv⟩:=IV hb;simp only[xG,h,bx,asAddr,dg,cz,EC (S.at_ i _ hb) ha hn hc hv]
end
section
variable{P:aF} {a:Act} {w:ae} {Q:dR->Act->ae->Prop}
theorem vm {c:ba} {x y:Code} (h:x.wp P Q a w) (hc:a.eval c=.bool true:=by kernel_rfl):(Code.cond c x y).wp P Q a w:=wp_cond_true hc h
theorem oY {c:ba} {x y:Code} (h:y.wp P Q a w) (hc:a.eval c=.bool false:=by kernel_rfl):(Code.cond c x y).wp P Q a w:=wp_cond_false hc h
theorem rZ {c:ba} {x y:Code} (b:Bool) (ht:b=true->x.wp P Q a w) (hf:b=false->y.wp P Q a w) (hc:a.eval c=.bool b:=by kernel_rfl):(Code.cond c x y).wp P Q a w:=wp_cond_split hc ht hf
theorem NK {x y:Int} (h:y<=x):decide (x<y)=false:=decide_eq_false (by omega)
theorem neF {x y:Int} (h:x=y):(x !=y)=false:=by simpa using h
theorem z6 {x y:Int} (h:decide (x<y)=true):x<y:=of_decide_eq_true h
theorem z7 {x y:Int} (h:decide (x<y)=false):y<=x:=by have:=of_decide_eq_false h;omega
theorem Wg {x y:Int} (h:decide (x<=y)=true):x<=y:=of_decide_eq_true h
theorem Wh {x y:Int} (h:decide (x<=y)=false):y<x:=by have:=of_decide_eq_false h;omega
theorem NL {x y:Int} (h:(x !=y)=true):¬x=y:=by simpa using h
theorem NM {x y:Int} (h:(x !=y)=false):x=y:=by simpa using h
theorem NN {b:Bool} (h:(!b)=true):b=false:=by simpa using h
theorem NO {b:Bool} (h:(!b)=false):b=true:=by simpa using h
end
def Cn (P:aF) (t:aG) (cs:Array ab) (off:Nat):Option ab:=
 match(P.underlying t).map je,(P.info? t).map (·.size)with
 |some true,some n=>some (.agg (cs.extract off (off+n)))
 |some false,some _=>cs[off]?
 |_,_=>none
theorem IZ {P:aF} {t:aG} {cs:Array ab} {off:Nat} {v:ab} (h:Cn P t cs off=some v) (w:ae):(part t cs off).run P w=.ok v w:=by
 unfold Cn at h;split at h
 ·rename_i n h1 h2;obtain rfl:_=v:=by simpa using h
  cases hq:P.info? t with
  |none=>simp[hq]at h2
  |some i=>
   have hs:i.size=n:=by simpa[hq]using h2
   unfold part;simp[bx,zZ h1,oP,typeInfo,hq,hs]
 ·rename_i n h1 h2;unfold part;simp[bx,zZ h1,h]
 ·simp at h
def Co (P:aF) (g:aG->ab->ab->Option Bool) (xs ys:Array ab):List Field->Option Bool
 |[]=>some true
 |f::fs=>
  match decide (f.name≠ "_")with
  |false=>Co P g xs ys fs
  |true=>match Cn P f.type xs f.offset,Cn P f.type ys f.offset with
   |some a,some b=>match g f.type a b,Co P g xs ys fs with
    |some r,some q=>some (r&&q)
    |_,_=>none
   |_,_=>none
def EF (P:aF) (g:aG->ab->ab->Option Bool) (e:aG) (c:Nat) (xs ys:Array ab):List Nat->Option Bool
 |[]=>some true
 |i::is=>
  match Cn P e xs (i*c),Cn P e ys (i*c)with
  |some a,some b=>match g e a b,EF P g e c xs ys is with
   |some r,some q=>some (r&&q)
   |_,_=>none
  |_,_=>none
def xH (P:aF):Nat->aG->ab->ab->Option Bool
 |0,_,_,_=>none
 |d+1,t,x,y=>
  match P.underlying t,x,y with
  |some .bool,.bool a,.bool b=>some (a==b)
  |some (.int _),.int k a,.int k' b=>match decide (k=k')with|true=>some (a==b)|false=>none
  |some (.struct _),.agg xs,.agg ys=>match P.stoodInHeld t with|true=>none|false=>Co P (xH P d) xs ys (P.fieldsOf t).toList
  |some (.array n e),.agg xs,.agg ys=>match P.info? e with|some _=>EF P (xH P d) e (P.cellsOf e) xs ys (bd n)|none=>none
  |_,_,_=>none
section
variable{P:aF}
theorem NP {d:Nat} {g:aG->ab->ab->Option Bool} (hg:∀t x y r,g t x y=some r->∀w,(Op.equalIn d t x y).run P w=.ok r w) (xs ys:Array ab):
 ∀(fs:List Field) (r:Bool),Co P g xs ys fs=some r->∀w,(Op.eqFields d xs ys fs).run P w=.ok r w
 |[],r,h,w=>by obtain rfl:true=r:=by simpa[Co]using h
               rfl
 |f::fs,r,h,w=>by
  unfold Co at h;unfold Op.eqFields;split at h
  ·rename_i hn;have r_:¬f.name≠ "_" :=of_decide_eq_false hn;rw[if_neg r_];exact NP hg xs ys fs r h w
  ·rename_i hn;have r_:f.name≠ "_" :=of_decide_eq_true hn;rw[if_pos r_];split at h
   ·rename_i a b ha hb;split at h
    ·rename_i r1 q h1 h2;obtain rfl:(r1&&q)=r:=by simpa using h
     simp only[bx,IZ ha,IZ hb,cz,hg _ _ _ _ h1];cases r1
     ·simp
     ·simp[NP hg xs ys fs q h2]
    ·simp at h
   ·simp at h
theorem Wi {d:Nat} {g:aG->ab->ab->Option Bool} (hg:∀t x y r,g t x y=some r->∀w,(Op.equalIn d t x y).run P w=.ok r w) (e c:Nat) (xs ys:Array ab):
 ∀(is:List Nat) (r:Bool),EF P g e c xs ys is=some r->∀w,(Op.eqItems d e c xs ys is).run P w=.ok r w
 |[],r,h,w=>by obtain rfl:true=r:=by simpa[EF]using h
               rfl
 |i::is,r,h,w=>by
  unfold EF at h;unfold Op.eqItems;split at h
  ·rename_i a b ha hb;split at h
   ·rename_i r1 q h1 h2;obtain rfl:(r1&&q)=r:=by simpa using h
    simp only[bx,IZ ha,IZ hb,cz,hg _ _ _ _ h1];cases r1
    ·simp
    ·simp[Wi hg e c xs ys is q h2]
   ·simp at h
  ·simp at h
theorem I0:∀(d:Nat) (t:aG) (x y:ab) (r:Bool),xH P d t x y=some r->∀w,(Op.equalIn d t x y).run P w=.ok r w
 |0,_,_,_,_,h,_=>by simp[xH]at h
 |d+1,t,x,y,r,h,w=>by
  unfold xH at h;split at h
  ·rename_i a b hu;obtain rfl:(a==b)=r:=by simpa using h
   exact run_equalIn_bool' w d t a b hu
  ·rename_i k0 k a k' b hu;split at h
   ·rename_i hk;obtain rfl:k=k':=of_decide_eq_true hk;obtain rfl:(a==b)=r:=by simpa using h
    exact run_equalIn_int w d t k k0 a b hu
   ·simp at h
  ·rename_i fs xs ys hu;split at h
   ·simp at h
   ·rename_i hp;have hf:P.underlying t=some (.struct (P.fieldsOf t)):=by simp[Program.fieldsOf,hu]
    rw[run_equalIn_struct w d t xs ys hf hp];exact NP (I0 d) xs ys _ r h w
  ·rename_i n e xs ys hu;split at h
   ·rename_i i hi;rw[run_equalIn_array w d xs ys hu hi];exact Wi (I0 d) e _ xs ys _ r h w
   ·simp at h
  ·simp at h
variable{ops:Array ao} {rest:List ao} {o:ao} {a:Act} {w:ae} {Q:dR->Act->ae->Prop}
theorem ad_ {ρ:ba->ab} {t yt:aG} {x y:ba} {xs ys:Array ab} {r:Bool} (neg:Bool) (ho:o.op=.binOp (bif neg then .neq else .eql) t x y yt) (hx:ρ x=.agg xs) (hy:ρ y=.agg ys) (hg:P.eqGuardType P.depth t=false) (he:xH P 10000 t (.agg xs) (.agg ys)=some r):
 (execOp ρ o).run P w=.ok (.value (.bool (bif neg then !r else r))) w:=by
 have h:=I0 10000 t (.agg xs) (.agg ys) r he w;unfold execOp;cases neg<;>simp only[ho,hx,hy,cond_true,cond_false,bx,run_eqGuard_agg _ _ t x y xs ys hg,cz,run_eql_struct,run_neq_struct,h,dg]
end
theorem NQ {a b:Nat} (h:a<=b):(2:Int)^a<=2^b:=by
 have:=Nat.pow_le_pow_right (n:=2) (by omega) h;have h1:((2^a:Nat):Int)=(2:Int)^a:=by simp
 have h2:((2^b:Nat):Int)=(2:Int)^b:=by simp
 omega
theorem aea {a b:Nat} (h:a<=b):(2:Int)^a∣2^b:=by
 obtain⟨c,rfl⟩:=Nat.exists_eq_add_of_le h;exact⟨2^c,Int.pow_add 2 a c⟩
theorem wrap_small (kd:eS) (x:Int) (j:Nat) (h0:0<=x) (h1:x<2^j) (hj:j<kd.bits):kd.wrap x=x:=by
 have h2:((2:Int)^j)<=2^(kd.bits-1):=NQ (by omega);have h3:((2:Int)^(kd.bits-1))<=2^kd.bits:=NQ (by omega);unfold xw;have h4:x%(2^kd.bits:Int)=x:=IF h0 (by omega);simp only[h4];rw[if_neg];simp only[bg,decide_eq_true_eq,not_and];intro _;omega
theorem qI (kd:eS) (n m q:Int) (j:Nat) (hm:m=2^j-1) (hq:q=2^j) (hj:j<kd.bits):bits .and kd n m=n%q:=by
 subst hm hq;have hp:(0:Int)<2^j:=Int.pow_pos (by omega);have hle:(2:Int)^j<=2^kd.bits:=NQ (by omega);unfold bits;simp only[BitVec.toNat_and];have h1:(n8 kd.bits ((2:Int)^j-1)).toNat=2^j-1:=by
  simp only[IG];have h2:((2:Int)^kd.bits)=((2^kd.bits:Nat):Int):=by simp
  rw[<-h2,IF (by omega) (by omega)];have:((2:Int)^j)=((2^j:Nat):Int):=by simp
  omega
 have h5:(n8 kd.bits n).toNat%2^j=(n%2^j).toNat:=by
  simp only[IG];have h2:((2^kd.bits:Nat):Int)=(2:Int)^kd.bits:=by simp
  rw[h2];have h6:(0:Int)<=n%2^kd.bits:=Int.emod_nonneg _ (by have:(0:Int)<2^kd.bits:=Int.pow_pos (by omega)
                                                             omega)
  have h7:(n%2^kd.bits)%2^j=n%2^j:=Int.emod_emod_of_dvd n (aea (by omega));rw[<-h7];have:((2^j:Nat):Int)=(2:Int)^j:=by simp
  rw[<-this];have:=Int.natCast_emod (n%2^kd.bits).toNat (2^j);rw[Int.toNat_of_nonneg h6]at this;omega
 rw[h1,adW,h5];have h0:=Int.emod_nonneg n (by omega:(2:Int)^j≠0);rw[Int.toNat_of_nonneg h0];exact wrap_small kd _ j h0 (Int.emod_lt_of_pos _ hp) hj
theorem xI {a b:Bool} (h:a=false) (k:b=false):(a||b)=false:=by simp[h,k]
theorem aeb {P:aF} {f:fc} {args:Array ab} {w:ae} {x:ab} (h:aS P f args w λv w'=>v=x/\Ch [] w w'):Calls P f args w λe w'=>e=.returned x/\Below w.heap.size w w':=by
 refine Calls.mono h ?_;rintro e w' ⟨v,rfl,rfl,hc⟩;exact⟨rfl,hc.below⟩
theorem St.ob {ms:List Nat} {w0 w:ae} {bs:List ai} (S:St ms w0 bs w) (i:Nat) (wr:Bool) (t:aG) {b:Nat} {cs:Array ab} {fr:Nat×Nat} (h:bs[i]?=some ⟨b,wr,.cells cs t fr⟩:=by kernel_rfl):w.heap[b]?=some (.cells cs t fr):=S.at_ i _ h
theorem St.conv {ms:List Nat} {w0 w:ae} {bs bs':List ai} (S:St ms w0 bs w) (h:bs=bs'):St ms w0 bs' w:=h▸S
def Yields (P:aF) (o:ao) (ρ:ba->ab) (w:ae) (R:ab->ae->Prop):Prop:=
 match(execOp ρ o).run P w with
 |.ok (.value v) w'=>R v w'
 |.ok .skip w'=>R undef w'
 |.ok (.enter f args) w'=>aS P f args w' R
 |_=>False
def vn (y:Nat->ab):ba->ab
 |.tmp t=>y t
 |.const v=>v
 |.global g=>.pointer (some ⟨g,0,none⟩)
 |.func f=>.func (.func f) #[] #[]
def cG (a:Act):Nat->ab:=λt=>a.tmps.getD t undef
theorem Wj (a:Act):vn (cG a)=a.eval:=by funext x;cases x<;>rfl
theorem Yields.wp {P:aF} {o:ao} {a:Act} {w:ae} {R:ab->ae->Prop} {K:Act->ae->Prop} {Q:dR->Act->ae->Prop} (h:Yields P o a.eval w R) (hk:∀v w',R v w'->K (a.put o.dst v) w'):o.wp P a w K Q:=by
 unfold Yields at h;unfold n7;generalize (execOp a.eval o).run P w=r at*;cases r with
 |halt x w'=>simp at h
 |ok n w'=>
  cases n<;>simp at h<;>simp only[Oper.upon]
  ·exact hk _ _ h
  ·exact hk _ _ h
  ·refine Calls.mono h ?_;rintro e fC ⟨v,rfl,hv⟩;exact hk _ _ hv
structure Sp where
 k:Nat
 f:List Nat->ab
 bl:List Nat->List (Nat×Obj)
def Sp.holds (s:Sp) (B:Nat) (v:ab) (w:ae):Prop:=∃ids:List Nat,ids.length=s.k/\v=s.f ids/\∀p∈s.bl ids,B<=p.1/\w.heap[p.1]?=some p.2
theorem Sp.holds.EG {s:Sp} {B:Nat} {v:ab} {w w':ae} (h:s.holds B v w) (hc:Ch [] w w'):s.holds B v w':=by
 obtain⟨ids,h1,h2,h3⟩:=h;exact⟨ids,h1,h2,λp hp=>⟨(h3 p hp).1,(hc.block _ (oW (h3 p hp).2) (by simp)).trans (h3 p hp).2⟩⟩
def kp (o:ao) (j:Nat):Bool:=o.after.any λe=>e.on==j&&qy .any e
def m_ (l:List ao) (o:ao) (y:Nat->ab):Bool:=
 match o.guard with
 |none=>true
 |some (j,want)=>match(l[j]?).bind (·.dst)with
  |some d=>match y d with
   |.bool b=>b==want
   |_=>false
  |none=>false
theorem Wk (l:List ao) (o:ao) (a:Act):gu o (yielded l.toArray a.tmps)=m_ l o (cG a):=by
 unfold gu m_;cases hg:o.guard with
 |none=>rfl
 |some p=>
  obtain⟨j,want⟩:=p;simp only[yielded,jt];cases hd:(l[j]?).bind (·.dst)with
  |none=>simp
  |some d=>
   simp only[Option.bind_some,cG,ju];cases ht:a.tmps[d]?with
   |none=>simp[undef]
   |some v=>cases v<;>simp
def vo (l:List ao) (i t:Nat):Bool:=l.all λok=>ok.dst !=some t||kp ok i
def vt (P:aF) (lf l:List ao) (sp:Nat->Sp) (y0:Nat->ab) (w:ae) (i:Nat) (o:ao):Prop:=
 ∀(y:Nat->ab) (w':ae),Ch [] w w'->(∀t,vo l i t=true->y t=y0 t)->
  (∀j d,kp o j=true->(l[j]?).bind (·.dst)=some d->(sp j).holds w.heap.size (y d) w')->
  (m_ lf o y=true->Yields P o (vn y) w' λv fC=>Ch [] w' fC/\(sp i).holds w.heap.size v fC)/\(m_ lf o y=false->(sp i).holds w.heap.size undef w')
def qJ (P:aF) (lf l:List ao) (sp:Nat->Sp) (y0:Nat->ab) (w:ae):Nat->List ao->Prop
 |_,[]=>True
 |i,o::rest=>vt P lf l sp y0 w i o/\qJ P lf l sp y0 w (i+1) rest
theorem qJ.get {P:aF} {lf l:List ao} {sp:Nat->Sp} {y0:Nat->ab} {w:ae}:∀{k:Nat} {m:List ao},qJ P lf l sp y0 w k m->∀(i:Nat) o,m[i]?=some o->vt P lf l sp y0 w (k+i) o
 |_,[],_,i,o,h=>by simp at h
 |k,x::rest,⟨h1,h2⟩,0,o,h=>by obtain rfl:x=o:=by simpa using h
                              exact h1
 |k,x::rest,⟨h1,h2⟩,i+1,o,h=>by
  have:=qJ.get h2 i o (by simpa using h)
  rwa [show k+1+i=k+(i+1) by omega]at this
def fT (vs:Nat->ab):Nat->List ao->Act->Act
 |_,[],a=>a
 |i,o::rest,a=>fT vs (i+1) rest (a.put o.dst (vs i))
theorem size_put (a:Act) (d:Option Tmp) (v:ab):(a.put d v).tmps.size=a.tmps.size:=by cases d<;>simp[Act.put]
theorem z_ (a:Act) (d:Option Tmp) (v:ab):(a.put d v).defers=a.defers:=by cases d<;>rfl
theorem xJ (a:Act) (d:Nat) (v:ab) (t:Nat) (hd:d<a.tmps.size):cG (a.put (some d) v) t=if t=d then v else cG a t:=by
 simp only[cG,Act.put,ju,qx];by_cases h:d=t
 ·subst h;simp[hd]
 ·rw[if_neg h,if_neg (λe=>h e.symm)]
theorem NR {a b:Act} (hs:a.tmps.size=b.tmps.size) (hd:a.defers=b.defers) (h:∀t,cG a t=cG b t):a=b:=by
 obtain⟨x,ds⟩:=a;obtain⟨y,es⟩:=b;simp only at hd hs;subst hd;congr 1;apply Array.ext hs;intro i h1 h2;have:=h i;simpa[cG,h1,h2]using this
def EH:List (Option Nat)->Bool
 |[]=>true
 |x::xs=>!(xs.any (·==x))&&EH xs
def EI (n:Nat) (l:List ao):Bool:=l.all (λo=>match o.dst with|some d=>cu d n|none=>false)&&EH (l.map (·.dst))
theorem NS:∀{l:List (Option Nat)},EH l=true->l.Nodup
 |[],_=>List.nodup_nil
 |x::xs,h=>by
  simp only[EH,bg,lN]at h;refine qz.2 ⟨?_,NS h.2⟩;intro hm;have:=h.1;simp only[List.any_eq_false]at this;exact this x hm (by simp)
def oc:Nat->List ao->Bool
 |_,[]=>true
 |i,o::rest=>(o.after.all λe=>!qy .any e||cu e.on i)&&oc (i+1) rest
theorem tL:∀{k:Nat} {l:List ao},oc k l=true->∀(i:Nat) o,l[i]?=some o->∀e∈o.after,qy .any e=true->e.on<k+i
 |_,[],_,i,o,h,_,_,_=>by simp at h
 |k,x::rest,hh,0,o,h,e,he,hb=>by
  obtain rfl:x=o:=by simpa using h
  simp only[oc,bg,IH]at hh;have:=hh.1 e he;simp only[hb,Bool.not_true,Bool.false_or]at this;simpa[ie]using this
 |k,x::rest,hh,i+1,o,h,e,he,hb=>by
  simp only[oc,bg]at hh;have:=tL hh.2 i o (by simpa using h) e he hb;omega
theorem lr {L:Array Bool} {n i:Nat} (h:L.size=n) (hi:i<n):L[i]?=some true\/L[i]?=some false:=by
 have h1:i<L.size:=by omega
 rw[II h1];cases L[i]<;>simp
theorem count_set:∀(L:List Bool) (i:Nat),L[i]?=some false->(L.set i true).count false+1=L.count false
 |[],i,h=>by simp at h
 |x::xs,0,h=>by obtain rfl:x=false:=by simpa using h
                simp
 |x::xs,i+1,h=>by
  have:=count_set xs i (by simpa using h);cases x<;>simp[List.set_cons_succ]<;>omega
theorem I1:∀(L:List Bool) (n m:Nat),L.length=n+m->(∀j,j<n->L[j]?=some true)->L.count false<=m
 |L,0,m,h,_=>by have:=List.count_le_length (a:=false) (l:=L);omega
 |[],n+1,m,h,_=>by simp at h;omega
 |x::xs,n+1,m,h,ht=>by
  obtain rfl:x=true:=by simpa using ht 0 (by omega)
  have:=I1 xs n m (by simp at h;omega) (λj hj=>by simpa using ht (j+1) (by omega));simpa using this
theorem count_tail:∀(L:List Bool) (n m:Nat),L.length=n+m->(∀j,n<=j->j<n+m->L[j]?=some false)->m<=L.count false
 |[],n,m,h,_=>by simp at h;omega
 |x::xs,0,m,h,ht=>by
  obtain rfl:x=false:=by simpa using ht 0 (by omega) (by simp at h;omega)
  have:=count_tail xs 0 (m-1) (by simp at h;omega) (λj h1 h2=>by simpa using ht (j+1) (by omega) (by omega));simp at h⊢;omega
 |x::xs,n+1,m,h,ht=>by
  have:=count_tail xs n m (by simp at h;omega) (λj h1 h2=>by simpa using ht (j+1) (by omega) (by omega));cases x<;>simp<;>omega
theorem NT:∀(L:List Bool) (n m:Nat),L.length=n+m->(∀j,n<=j->j<n+m->L[j]?=some false)->∀i,i<n->L[i]?=some false->m+1<=L.count false
 |[],n,m,h,_,i,hi,_=>by simp at h;omega
 |x::xs,n+1,m,h,ht,i,hi,hx=>by
  have fN:m<=xs.count false:=by
   have:=count_tail xs n m (by simp at h;omega) (λj h1 h2=>by simpa using ht (j+1) (by omega) (by omega));exact this
  cases i with
  |zero=>obtain rfl:x=false:=by simpa using hx
         simp;omega
  |succ i=>
   have:=NT xs n m (by simp at h;omega) (λj h1 h2=>by simpa using ht (j+1) (by omega) (by omega)) i (by omega) (by simpa using hx);cases x<;>simp<;>omega
 |x::xs,0,m,h,ht,i,hi,hx=>by omega
section
variable{P:aF} {l:List ao} {sp:Nat->Sp} {a0:Act} {w0:ae} {Q:dR->Act->ae->Prop}
structure NU (l:List ao) (n2:Nat) (sp:Nat->Sp) (a0:Act) (w0:ae) (vs:Nat->ab) (listed:Array Bool) (a:Act) (w:ae):Prop where
 ls:listed.size=l.length+n2
 off:∀i,l.length<=i->i<l.length+n2->listed[i]?=some false
 size:a.tmps.size=a0.tmps.size
 defers:a.defers=a0.defers
 ch:Ch [] w0 w
 done:∀(i:Nat) (o:ao) (d:Nat),l[i]?=some o->o.dst=some d->listed[i]?=some true->cG a d=vs i/\(sp i).holds w0.heap.size (vs i) w
 rest:∀(t:Nat),(∀(i:Nat) (o:ao),l[i]?=some o->o.dst=some t->listed[i]?=some false)->cG a t=cG a0 t
 back:∀(i:Nat) (o:ao),l[i]?=some o->listed[i]?=some true->∀j,kp o j=true->listed[j]?=some true
def Cp (l:List ao):List Nat->Bool
 |k::j::rest=>(match l[k]?with|some o=>kp o j|none=>false)&&Cp l (j::rest)
 |_=>true
def qK (l:List ao) (m:Nat) (paths:List (List Nat)):Bool:=
 (paths.all λp=>Cp l p)&&(bd l.length).all λk=>cu k m||(bd k).all λi=>paths.any λp=>p.head?==some k&&p.getLast?==some i&&cu 1 p.length
theorem EJ {l:List ao} {listed:Array Bool} (back:∀(i:Nat) (o:ao),l[i]?=some o->listed[i]?=some true->∀j,kp o j=true->listed[j]?=some true):
 ∀(p:List Nat) (k i:Nat),Cp l p=true->p.head?=some k->p.getLast?=some i->1<p.length->(∀o,l[k]?=some o->∀j,kp o j=true->listed[j]?=some true)->listed[i]?=some true
 |[],_,_,_,h,_,_,_=>by simp at h
 |[x],_,_,_,_,_,h,_=>by simp at h
 |x::y::rest,k,i,hp,hh,hl,_,hk=>by
  obtain rfl:x=k:=by simpa using hh
  simp only[Cp,bg]at hp;cases ho:l[x]?with
  |none=>simp[ho]at hp
  |some o=>
   have hy:=hk o ho y (by simpa[ho]using hp.1);cases rest with
   |nil=>obtain rfl:y=i:=by simpa using hl
         exact hy
   |cons z rest=>exact EJ back (y::z::rest) y i hp.2 rfl (by simpa using hl) (by simp) (λoy hoy j hj=>back y oy hoy hy j hj)
theorem Wl (vs:Nat->ab):∀(m:List ao) (k:Nat) (a:Act),(∀o∈m,∃d,o.dst=some d/\d<a.tmps.size)->(m.map (·.dst)).Nodup->
 (fT vs k m a).tmps.size=a.tmps.size/\(fT vs k m a).defers=a.defers/\(∀t,(∀o∈m,o.dst≠some t)->cG (fT vs k m a) t=cG a t)/\∀i o d,m[i]?=some o->o.dst=some d->cG (fT vs k m a) d=vs (k+i)
 |[],k,a,_,_=>⟨rfl,rfl,λ_ _=>rfl,λi o d h=>by simp at h⟩
 |x::rest,k,a,hd,hn=>by
  obtain⟨dx,hx,dv⟩:=hd x (by simp);simp only[eH,qz]at hn;obtain⟨h1,h2,h3,h4⟩:=Wl vs rest (k+1) (a.put x.dst (vs k)) (λo ho=>by
   obtain⟨d,e,h⟩:=hd o (by simp[ho]);exact⟨d,e,by rw[size_put];exact h⟩) hn.2
  refine⟨by simp only[fT];rw[h1,size_put],by simp only[fT];rw[h2,z_],?_,?_⟩
  ·intro t ht;simp only[fT];rw[h3 t (λo ho=>ht o (by simp[ho])),hx,xJ _ _ _ _ dv,if_neg];intro e;subst e;exact ht x (by simp) hx
  ·intro i o d hi ho;cases i with
   |zero=>
    obtain rfl:x=o:=by simpa using hi
    simp only[fT];obtain rfl:dx=d:=by rw[hx]at ho;simpa using ho
    rw[h3 dx (λo' jZ e=>hn.1 (by rw[hx,<-e];exact List.mem_map_of_mem (f:=λx=>x.dst) jZ)),hx,xJ _ _ _ _ dv,if_pos rfl];rfl
   |succ i=>
    simp only[fT];rw[h4 i o d (by simpa using hi) ho];congr 1;omega
theorem EK {o:ao} {j:Nat}:kp o j=true↔∃e∈o.after,e.on=j/\qy .any e=true:=by
 unfold kp;rw[<-Array.any_toList,zK];constructor
 ·rintro⟨e,he,hj⟩;simp only[bg,beq_iff_eq]at hj;exact⟨e,Array.mem_toList_iff.1 he,hj.1,hj.2⟩
 ·rintro⟨e,he,h1,h2⟩;exact⟨e,Array.mem_toList_iff.2 he,by simp[h1,h2]⟩
theorem NV {l:List ao} {m:Nat} {paths:List (List Nat)} (h:qK l m paths=true) (k:Nat) (hk:k<l.length) (hm:m<=k) (i:Nat) (hi:i<k):
 ∃p,Cp l p=true/\p.head?=some k/\p.getLast?=some i/\1<p.length:=by
 simp only[qK,bg,fR,List.mem_range,Cc,zK]at h;obtain⟨h1,h2⟩:=h;rcases h2 k hk with h3|h3
 ·simp[ie]at h3;omega
 ·obtain⟨p,hp,h4⟩:=h3 i hi;simp only[beq_iff_eq,ie]at h4;exact⟨p,h1 p hp,h4.1.1,h4.1.2,h4.2⟩
theorem lu (m:List ao) (listed:Array Bool) (i:Nat):i∈qA .any m.toArray listed↔∃o,m[i]?=some o/\listed.getD i true=false/\∀e∈o.after,qy .any e=true->listed.getD e.on false=true:=by
 simp only[qA,List.mem_filter,List.mem_range,List.size_toArray,jt,bg,lN];constructor
 ·rintro⟨h1,h2,h3⟩;have hi:m[i]?=some m[i]:=by simp
  refine⟨m[i],hi,h2,?_⟩;rw[hi]at h3;simp only[lO,VV,IH,Cc,lN]at h3;intro e he hb;rcases h3 e he with h|h
  ·rw[hb]at h;cases h
  ·exact h
 ·rintro⟨o,ho,h2,h3⟩;refine⟨by rcases cN i m.length with h|h;exact h;simp[h]at ho,h2,?_⟩;rw[ho];simp only[lO,VV,IH,Cc,lN];intro e he;cases hb:qy .any e with
  |false=>exact Or.inl rfl
  |true=>exact Or.inr (h3 e he hb)
theorem Wm (l2:List ao) (fU:oc 0 (l++l2)=true) (paths:List (List Nat)) (ht:qK (l++l2) l.length paths=true):
 ∀(r:List ao) (k:Nat),l2.drop k=r->∀(listed:Array Bool) (a:Act) (w:ae),listed.size=l.length+l2.length->(∀i,i<l.length+k->listed[i]?=some true)->(∀i,l.length+k<=i->i<l.length+l2.length->listed[i]?=some false)->
  wpList P (l++l2).toArray Q r a w->wpAny P .any (l++l2).toArray Q r.length listed a w:=by
 intro r;induction r with
 |nil=>
  intro k hk listed a w dw h1 h2 h;have xD:l2.length<=k:=by simpa using hk
  refine⟨?_,h⟩;refine List.eq_nil_iff_forall_not_mem.2 λi hi=>?_;obtain⟨o,ho,hf,_⟩:=(lu _ listed i).1 hi;have hi:i<(l++l2).length:=by rcases cN i (l++l2).length with h|h;exact h;simp[iK h]at ho
  have:=h1 i (by simp at hi;omega);simp[ju,this]at hf
 |cons o rest ih=>
  intro k hk listed a w dw h1 h2 h;have xD:k<l2.length:=by rcases cN k l2.length with h|h;exact h;simp[List.drop_eq_nil_of_le h]at hk
  have hok:l2[k]?=some o:=by rw[<-List.head?_drop,hk];rfl
  have aM:(l++l2)[l.length+k]?=some o:=by rw[zL (by omega)];simpa using hok
  refine⟨λhr=>?_,?_⟩
  ·exfalso;have:l.length+k∈qA .any (l++l2).toArray listed:=(lu _ listed _).2 ⟨o,aM,by simp[ju,h2 (l.length+k) (by omega) (by omega)],λe he hb=>by
    have:=tL fU _ o aM e he hb;simp[ju,h1 e.on (by omega)]⟩
   rw[hr]at this;simp at this
  ·intro i hi;obtain⟨oi,oZ,hf,fV⟩:=(lu _ listed i).1 hi;have il:i<(l++l2).length:=by rcases cN i (l++l2).length with h|h;exact h;simp[iK h]at oZ
   have dY:l.length+k<=i:=by
    rcases cN i (l.length+k)with h|h
    ·simp[ju,h1 i h]at hf
    ·exact h
   have heq:i=l.length+k:=by
    rcases cN (l.length+k) i with dv|hle
    ·exfalso;have hb:∀(x:Nat) (o':ao),(l++l2)[x]?=some o'->listed[x]?=some true->∀j,kp o' j=true->listed[j]?=some true:=by
      intro x o' hx qM j hj;obtain⟨e,he,rfl,hbd⟩:=EK.1 hj;have h3:=tL fU x o' hx e he hbd;refine h1 e.on ?_;rcases cN x (l.length+k)with h|h
      ·omega
      ·have vu:x<(l++l2).length:=by rcases cN x (l++l2).length with h'|h';exact h';simp[iK h']at hx
       have:=h2 x h (by simpa using vu);rw[qM]at this;simp at this
     obtain⟨p,q1,q2,q3,q4⟩:=NV ht i (by simpa using il) (by omega) (l.length+k) dv;have:=EJ hb p i (l.length+k) q1 q2 q3 q4 (λo' jZ j hj=>by
      obtain rfl:oi=o':=by rw[oZ]at jZ;simpa using jZ
      obtain⟨e,he,rfl,hbd⟩:=EK.1 hj;have h3:=fV e he hbd;have h4:=tL fU i oi oZ e he hbd;rcases lr dw (show e.on<l.length+l2.length by simp at il;omega)with hx|hx
      ·exact hx
      ·simp[ju,hx]at h3)
     rw[h2 (l.length+k) (by omega) (by omega)]at this;simp at this
    ·omega
   subst heq;obtain rfl:o=oi:=by rw[aM]at oZ;simpa using oZ
   have next:∀a' w',wpList P (l++l2).toArray Q rest a' w'->wpAny P .any (l++l2).toArray Q rest.length (listed.setIfInBounds (l.length+k) true) a' w':=by
    intro a' w' h';refine ih (k+1) (by rw[<-List.drop_drop,hk];rfl) _ a' w' (by simpa using dw) ?_ ?_ h'
    ·intro j hj;rw[qx];split
     ·rename_i e;subst e;rw[if_pos (by omega)]
     ·exact h1 j (by omega)
    ·intro j hj xK;rw[qx,if_neg (by omega)];exact h2 j (by omega) xK
   unfold wpList at h;unfold wpOp;simp only[jt,aM];split at h
   ·rename_i hw;rw[if_pos hw];exact h.imp (Oper.wp_mono λa' w'=>next a' w') id
   ·rename_i hw;rw[if_neg hw];exact next _ _ h
theorem EL (l2:List ao) (paths:List (List Nat)) (ht:qK (l++l2) l.length paths=true) (j1:EI a0.tmps.size l=true) (fU:oc 0 (l++l2)=true) (hs:qJ P (l++l2) l sp (cG a0) w0 0 l)
 (hq:∀(vs:Nat->ab) w',Ch [] w0 w'->(∀i o,l[i]?=some o->(sp i).holds w0.heap.size (vs i) w')->wpList P (l++l2).toArray Q l2 (fT vs 0 l a0) w'):
 ∀(fuel:Nat) (vs:Nat->ab) (listed:Array Bool) (a:Act) (w:ae),NU l l2.length sp a0 w0 vs listed a w->listed.toList.count false=fuel+l2.length->wpAny P .any (l++l2).toArray Q (fuel+l2.length) listed a w:=by
 have inl:∀{i:Nat} {o:ao},(l++l2)[i]?=some o->i<l.length->l[i]?=some o:=λh hi=>by rwa [gV hi]at h
 have inr:∀{i:Nat} {o:ao},l[i]?=some o->(l++l2)[i]?=some o:=λ{i o} h=>by rwa [gV (by rcases cN i l.length with h'|h';exact h';simp[h']at h)]
 simp only[EI,bg,fR]at j1;have hd:∀o∈l,∃d,o.dst=some d/\d<a0.tmps.size:=by
  intro o ho;have:=j1.1 o ho;cases hx:o.dst with
  |none=>simp[hx]at this
  |some d=>exact⟨d,rfl,by simpa[hx,ie]using this⟩
 have hn:=NS j1.2;have uniq:∀(i j:Nat) o p d,l[i]?=some o->l[j]?=some p->o.dst=some d->p.dst=some d->i=j:=by
  intro i j o p d hi hj ho hp;have il:i<(l.map (·.dst)).length:=by simp;rcases cN i l.length with h|h;exact h;simp[h]at hi
  refine(List.getElem?_inj il hn).1 ?_;simp[hi,hj,ho,hp]
 have fin:∀vs listed a w,NU l l2.length sp a0 w0 vs listed a w->(∀i,i<l.length->listed[i]?=some true)->wpAny P .any (l++l2).toArray Q l2.length listed a w:=by
  intro vs listed a w I dF;obtain⟨h1,h2,h3,h4⟩:=Wl vs l 0 a0 hd hn;have:a=fT vs 0 l a0:=by
   refine NR (by rw[I.size,h1]) (by rw[I.defers,h2]) ?_;intro t;by_cases ht:∃(i:Nat) (o:ao),l[i]?=some o/\o.dst=some t
   ·obtain⟨i,o,hi,ho⟩:=ht;rw[h4 i o t hi ho,eD];exact(I.done i o t hi ho (dF i (by rcases cN i l.length with h|h;exact h;simp[h]at hi))).1
   ·rw[h3 t (λo ho e=>ht (by obtain⟨i,hi⟩:=zM ho;exact⟨i,o,hi,e⟩))];exact I.rest t (λi o hi ho=>absurd ⟨i,o,hi,ho⟩ ht)
  rw[this];refine Wm l2 fU paths ht l2 0 rfl listed _ w I.ls (λi hi=>dF i (by omega)) (λi h1 h2=>I.off i (by omega) h2) ?_;exact hq vs w I.ch λi o hi=>by
   obtain⟨d,ho,_⟩:=hd o (oQ hi);exact(I.done i o d hi ho (dF i (by rcases cN i l.length with h|h;exact h;simp[h]at hi))).2
 have tl:∀vs listed a w,NU l l2.length sp a0 w0 vs listed a w->∀i,i∈qA .any (l++l2).toArray listed->l.length<=i->∀j,j<l.length->listed[j]?=some true:=by
  intro vs listed a w I i hi dY j hj;obtain⟨oi,oZ,hf,fV⟩:=(lu _ listed i).1 hi;have il:i<(l++l2).length:=by rcases cN i (l++l2).length with h|h;exact h;simp[iK h]at oZ
  obtain⟨p,q1,q2,q3,q4⟩:=NV ht i il dY j (by omega);refine EJ (l:=l++l2) ?_ p i j q1 q2 q3 q4 ?_
  ·intro x o hx qM k hk;rcases cN x l.length with h|h
   ·exact I.back x o (inl hx h) qM k hk
   ·have vu:x<(l++l2).length:=by rcases cN x (l++l2).length with h'|h';exact h';simp[iK h']at hx
    have:=I.off x h (by simpa using vu);rw[qM]at this;simp at this
  ·intro o ho k hk;obtain rfl:oi=o:=by rw[oZ]at ho;simpa using ho
   obtain⟨e,he,rfl,hbd⟩:=EK.1 hk;have h3:=fV e he hbd;have h4:=tL fU i oi oZ e he hbd;rcases lr I.ls (show e.on<l.length+l2.length by simp at il;omega)with hx|hx
   ·exact hx
   ·simp[ju,hx]at h3
 intro fuel;induction fuel with
 |zero=>
  intro vs listed a w I hc;have dF:∀i,i<l.length->listed[i]?=some true:=by
   intro i hi;rcases lr I.ls (show i<l.length+l2.length by omega)with hb|hb
   ·exact hb
   ·exfalso;have h4:=NT listed.toList l.length l2.length (by simpa using I.ls) (λj h1 h2=>by simpa using I.off j h1 h2) i hi (by simpa using hb);omega
  rw[eD];exact fin vs listed a w I dF
 |succ fuel ih=>
  intro vs listed a w I hc;by_cases Aa:∀i,i<l.length->listed[i]?=some true
  ·exfalso;have:=I1 listed.toList l.length l2.length (by simpa using I.ls) (λj h1=>by simpa using Aa j h1);omega
  rw[show fuel+1+l2.length=(fuel+l2.length)+1 by omega];refine⟨λhr=>?_,?_⟩
  ·
   exfalso;refine Aa ?_;intro i;induction i using Nat.strongRecOn with
   |_ i NW=>
    intro hi;rcases lr I.ls (show i<l.length+l2.length by omega)with hb|hb
    ·exact hb
    ·exfalso;have:i∈qA .any (l++l2).toArray listed:=(lu _ listed i).2 ⟨l[i],inr (by simp),by simp[ju,hb],λe he NX=>by
      have dv:=tL fU i l[i] (inr (by simp)) e he NX;have:=NW e.on (by omega) (by omega);simp[ju,this]⟩
     rw[hr]at this;simp at this
  ·intro i hi;have il:i<l.length:=by
    rcases cN i l.length with h|h
    ·exact h
    ·exact absurd (tl vs listed a w I i hi h) Aa
   obtain⟨o,lQ,h2,h3⟩:=(lu _ listed i).1 hi;have ho:=inl lQ il;have se:listed[i]?=some false:=by
    rcases lr I.ls (show i<l.length+l2.length by omega)with hb|hb
    ·simp[ju,hb]at h2
    ·exact hb
   obtain⟨d,Cq,NY⟩:=hd o (oQ ho);have fV:∀j,kp o j=true->listed[j]?=some true:=by
    intro j hj;unfold kp at hj;rw[<-Array.any_toList,zK]at hj;obtain⟨e,he,hj⟩:=hj;simp only[bg,beq_iff_eq]at hj;obtain⟨rfl,hb⟩:=hj;have he:=Array.mem_toList_iff.1 he;have h4:=h3 e he hb;have dv:=tL fU i o lQ e he hb;rcases lr I.ls (show e.on<l.length+l2.length by omega)with hb|hb
    ·exact hb
    ·simp[ju,hb]at h4
   have step:=(qJ.get hs i o ho) (cG a) w I.ch (λt ht=>by
    refine I.rest t λk ok hk hok=>?_;rw[vo,fR]at ht;have:=ht ok (oQ hk);simp only[hok,bne_self_eq_false,Bool.false_or]at this;have xD:k<l.length:=by rcases cN k l.length with h|h;exact h;simp[h]at hk
    rcases lr I.ls (show k<l.length+l2.length by omega)with hb|hb
    ·have:=I.back k ok hk hb i (by simpa using this);rw[se]at this;simp at this
    ·exact hb)
    (λj dj hj na=>by
     cases dZ:l[j]?with
     |none=>simp[dZ]at na
     |some oj=>
      have:=I.done j oj dj dZ (by simpa[dZ]using na) (fV j hj);rw[this.1];exact this.2)
   rw[eD]at step;have next:∀v w',Ch [] w w'->(sp i).holds w0.heap.size v w'->wpAny P .any (l++l2).toArray Q (fuel+l2.length) (listed.setIfInBounds i true) (a.put o.dst v) w':=by
    intro v w' tM hv;refine ih (λj=>if j=i then v else vs j) _ _ _ ?_ ?_
    ·have gl:∀j b,(listed.setIfInBounds i true)[j]?=some b->(j=i/\b=true)\/(j≠i/\listed[j]?=some b):=by
      intro j b hj;rw[qx]at hj;by_cases h:i=j
      ·subst h;have:i<l.length+l2.length:=by omega
       simp[I.ls,this]at hj;exact Or.inl ⟨rfl,hj⟩
      ·rw[if_neg h]at hj;exact Or.inr ⟨λe=>h e.symm,hj⟩
     have yp:∀t,cG (a.put o.dst v) t=if t=d then v else cG a t:=λt=>by rw[Cq];exact xJ _ _ _ _ (by rw[I.size];exact NY)
     refine⟨by simp[I.ls],λj h1 h2=>by
      rw[qx,if_neg (by omega)];exact I.off j h1 h2,by rw[size_put,I.size],by rw[z_,I.defers],I.ch.trans tM (by simp),?_,?_,?_⟩
     ·intro j oj dj hj na dZ;rcases gl j true dZ with⟨rfl,_⟩|⟨cw,dZ⟩
      ·obtain rfl:o=oj:=by rw[ho]at hj;simpa using hj
       obtain rfl:d=dj:=by rw[Cq]at na;simpa using na
       rw[yp];simp;exact hv
      ·have:=I.done j oj dj hj na dZ;rw[yp,if_neg (λ(e:dj=d)=>cw (uniq j i oj o d hj ho (e▸na) Cq)),if_neg cw];exact⟨this.1,this.2.EG tM⟩
     ·intro t ht;rw[yp,if_neg]
      ·refine I.rest t λk ok hk hok=>?_;have:=ht k ok hk hok;rcases gl k false this with⟨_,h⟩|⟨_,h⟩
       ·cases h
       ·exact h
      ·rintro rfl;have:=ht i o ho Cq;rcases gl i false this with⟨_,h⟩|⟨h,_⟩
       ·cases h
       ·exact h rfl
     ·intro k ok hk lv j hj;have hb:listed[j]?=some true:=by
       rcases gl k true lv with⟨rfl,_⟩|⟨cw,lv⟩
       ·obtain rfl:o=ok:=by rw[ho]at hk;simpa using hk
        exact fV j hj
       ·exact I.back k ok hk lv j hj
      rw[qx];split
      ·rename_i h;subst h;rw[se]at hb;simp at hb
      ·exact hb
    ·have h2:listed[i]?=some false:=se;have aec:=count_set listed.toList i (by simpa using h2);simp only[IJ];omega
   unfold wpOp;simp only[jt,lQ];rw[Wk];cases hw:m_ (l++l2) o (cG a)with
   |true=>
    rw[if_pos rfl];refine Or.inl ?_;have hy:=step.1 hw;rw[Wj]at hy;exact Yields.wp hy λv w' ⟨tM,hv⟩=>next v w' tM hv
   |false=>
    rw[if_neg (by simp)];exact next undef w (Ch.refl _ _) (step.2 hw)
theorem aed {id:Nat} (l l2:List ao) (sp:Nat->Sp) (paths:List (List Nat)) (hm:P.follows .mixedOrders=true) (ht:qK (l++l2) l.length paths=true) (j1:EI a0.tmps.size l=true) (fU:oc 0 (l++l2)=true) (hs:qJ P (l++l2) l sp (cG a0) w0 0 l)
 (hq:∀(vs:Nat->ab) w',Ch [] w0 w'->(∀i o,l[i]?=some o->(sp i).holds w0.heap.size (vs i) w')->wpList P (l++l2).toArray Q l2 (fT vs 0 l a0) w'):(Code.region id (l++l2).toArray true).wp P Q a0 w0:=by
 refine wp_region_any hm ?_;have h:=EL l2 paths ht j1 fU hs hq l.length (λ_=>undef) (Ca (l++l2).toArray.size false) a0 {w0 with drawn:=w0.drawn+1} ?_ ?_
 ·rw[show(l++l2).toArray.size=l.length+l2.length by simp];rw[show(l++l2).toArray.size=l.length+l2.length by simp]at h;exact h
 ·refine⟨by simp,λi h1 h2=>by simp[zN];omega,rfl,rfl,(Ch.refl _ _).drew,?_,λ_ _=>rfl,?_⟩
  ·intro i o d _ _ h;simp[zN]at h
  ·intro i o _ h;simp[zN]at h
 ·simp[VW]
end
def qN (l:List Sp):Nat->Sp:=λi=>l.getD i ⟨0,λ_=>undef,λ_=>[]⟩
section
variable{B:Nat} {x:ab} {w:ae} {f:List Nat->ab} {bl:List Nat->List (Nat×Obj)}
theorem Sp.dA (h:(⟨0,f,bl⟩:Sp).holds B x w):x=f []/\∀p∈bl [],B<=p.1/\w.heap[p.1]?=some p.2:=by
 obtain⟨ids,h1,h2,h3⟩:=h;obtain rfl:ids=[]:=by simpa using h1
 exact⟨h2,h3⟩
theorem Sp.vw (h:(⟨1,f,bl⟩:Sp).holds B x w):∃b,x=f [b]/\∀p∈bl [b],B<=p.1/\w.heap[p.1]?=some p.2:=by
 obtain⟨ids,h1,h2,h3⟩:=h
 match ids,h1 with
 |[b],_=>exact⟨b,h2,h3⟩
theorem Sp.Wo (h:(⟨2,f,bl⟩:Sp).holds B x w):∃b c,x=f [b,c]/\∀p∈bl [b,c],B<=p.1/\w.heap[p.1]?=some p.2:=by
 obtain⟨ids,h1,h2,h3⟩:=h
 match ids,h1 with
 |[b,c],_=>exact⟨b,c,h2,h3⟩
theorem Sp.Wp (h:(⟨3,f,bl⟩:Sp).holds B x w):∃b c d,x=f [b,c,d]/\∀p∈bl [b,c,d],B<=p.1/\w.heap[p.1]?=some p.2:=by
 obtain⟨ids,h1,h2,h3⟩:=h
 match ids,h1 with
 |[b,c,d],_=>exact⟨b,c,d,h2,h3⟩
end
theorem St.ro {ms:List Nat} {w0 w w':ae} {bs:List ai} (S:St ms w0 bs w) (hc:Ch [] w w') (ps:List (Nat×Obj)) (h:∀p∈ps,w.heap.size<=p.1/\w'.heap[p.1]?=some p.2):St ms w0 (ps.map (λp=>⟨p.1,false,p.2⟩)++bs) w':=by
 have hq:=S.quiet hc;have qO:∀(i:Nat) x,(ps.map (λp=>(⟨p.1,false,p.2⟩:ai))++bs)[i]?=some x->(∃p∈ps,x=⟨p.1,false,p.2⟩/\i<ps.length)\/(ps.length<=i/\bs[i-ps.length]?=some x):=by
  intro i x hx;rcases cN i ps.length with hi|hi
  ·rw[gV (by simpa using hi)]at hx;simp only[iZ,gU]at hx;obtain⟨p,hp,rfl⟩:=hx;exact Or.inl ⟨p,oQ hp,rfl,hi⟩
  ·rw[zL (by simpa using hi)]at hx;exact Or.inr ⟨hi,by simpa using hx⟩
 refine⟨hq.ch,?_,?_,?_⟩
 ·intro i x hx;rcases qO i x hx with⟨p,hp,rfl,_⟩|⟨_,hx⟩
  ·exact(h p hp).2
  ·exact hq.at_ _ x hx
 ·intro i x hx hw;rcases qO i x hx with⟨p,hp,rfl,_⟩|⟨_,hx⟩
  ·cases hw
  ·exact hq.own _ x hx hw
 ·intro i j x y hx hy cw hw;rcases qO i x hx with⟨p,hp,rfl,_⟩|⟨hi,hx⟩
  ·cases hw
  ·rcases qO j y hy with⟨p,hp,rfl,_⟩|⟨hj,hy⟩
   ·have:=S.lt hx;have:=(h p hp).1;simp;omega
   ·exact hq.apart _ _ x y hx hy (by omega) hw
theorem St.loc {ms:List Nat} {w0 w:ae} {bs:List ai} (S:St ms w0 bs w):St [] w (bs.map λx=>⟨x.id,false,x.obj⟩) w:=by
 refine⟨Ch.refl _ _,?_,?_,?_⟩
 ·intro i x hx;simp only[iZ,gU]at hx;obtain⟨y,hy,rfl⟩:=hx;exact S.at_ i y hy
 ·intro i x hx hw;simp only[iZ,gU]at hx;obtain⟨y,hy,rfl⟩:=hx;cases hw
 ·intro i j x y hx hy cw hw;simp only[iZ,gU]at hx;obtain⟨y,hy,rfl⟩:=hx;cases hw
theorem St.vx {w0 w:ae} {bs:List ai} (S:St [] w0 bs w) {B:Nat} (hB:B<=w0.heap.size) (i:Nat) {b:Nat} {o:Obj} (hi:bs[i]?=some ⟨b,true,o⟩):B<=b/\w.heap[b]?=some o:=by
 refine⟨?_,S.at_ i _ hi⟩;rcases S.own i _ hi rfl with h|h
 ·simp at h
 ·exact iY hB h
theorem St.Wq {w0 w:ae} {bs:List ai} (S:St [] w0 bs w) {B:Nat} (i:Nat) {b:Nat} {o:Obj} (hB:B<=b) (wr:Bool) (hi:bs[i]?=some ⟨b,wr,o⟩):B<=b/\w.heap[b]?=some o:=⟨hB,S.at_ i _ hi⟩
def sf:List ab->List ao->Act->Act
 |v::vs,o::rest,a=>sf vs rest (a.put o.dst v)
 |_,_,a=>a
def Ab (vs:Nat->ab):Nat->List ab->Prop
 |_,[]=>True
 |i,v::rest=>vs i=v/\Ab vs (i+1) rest
theorem Ws {vs:Nat->ab}:∀{l:List ao} {dG:List ab} {k:Nat} {a:Act},dG.length=l.length->Ab vs k dG->fT vs k l a=sf dG l a
 |[],[],_,_,_,_=>rfl
 |o::rest,v::dG,k,a,h,⟨h1,h2⟩=>by
  simp only[fT,sf,h1];exact Ws (by simpa using h) h2
 |[],_::_,_,_,h,_=>by simp at h
 |_::_,[],_,_,h,_=>by simp at h
def jJ (env:List (Nat×ab)):ba->ab:=vn λt=>(env.lookup t).getD undef
def xL (y:Nat->ab):List (Nat×ab)->Prop
 |[]=>True
 |p::rest=>y p.1=p.2/\xL y rest
theorem Wt {y:Nat->ab}:∀{env:List (Nat×ab)},xL y env->∀t v,env.lookup t=some v->y t=v
 |[],_,t,v,h=>by simp at h
 |(s,u)::rest,⟨h1,h2⟩,t,v,h=>by
  rw[List.lookup_cons]at h;cases dO:t==s with
  |true=>
   simp[dO]at h;have:t=s:=by simpa using dO
   subst this;subst h;exact h1
  |false=>
   simp[dO]at h;exact Wt h2 t v h
def xM (env:List (Nat×ab)) (o:ao):Bool:=o.op.operands.all (λx=>match x with|.tmp t=>(env.lookup t).isSome|_=>true)&&(match o.op with|.select .. =>false|_=>true)
section
variable{P:aF} {o:ao} {w w0:ae} {ms:List Nat} {bs:List ai} {R:ab->ae->Prop} {y:Nat->ab}
theorem lR (env:List (Nat×ab)) (hy:xL y env) (h:Yields P o (jJ env) w R) (mw:xM env o=true:=by kernel_rfl):Yields P o (vn y) w R:=by
 have:execOp (vn y) o=execOp (jJ env) o:=by
  simp only[xM,bg]at mw;refine execOp_congr o ?_ ?_
  ·intro cs b aee;rw[aee]at mw;simp at mw
  ·intro x hx;have h1:=IH.1 mw.1 x hx;cases x with
   |tmp t=>
    simp only at h1;cases hl:env.lookup t with
    |none=>simp[hl]at h1
    |some v=>simp[vn,jJ,hl,Wt hy t v hl]
   |_=>rfl
 unfold Yields at*;rw[this];exact h
theorem aef {A C:Prop} {b:Bool} (hw:b=true) (h:A):(b=true->A)/\(b=false->C):=⟨λ_=>h,λe=>by rw[hw]at e;cases e⟩
end
theorem o8 {y:Nat->ab}:xL y []:=trivial
theorem lS {y:Nat->ab} {t:Nat} {v:ab} {env:List (Nat×ab)} (h:y t=v) (k:xL y env):xL y ((t,v)::env):=⟨h,k⟩
theorem Cr {vs:Nat->ab} {i:Nat}:Ab vs i []:=trivial
theorem dS {vs:Nat->ab} {i:Nat} {v:ab} {rest:List ab} (h:vs i=v) (k:Ab vs (i+1) rest):Ab vs i (v::rest):=⟨h,k⟩
theorem all_nil {α:Type} {C:α->Prop}:∀p∈([]:List α),C p:=λp hp=>by cases hp
theorem all_cons {α:Type} {C:α->Prop} {x:α} {xs:List α} (h:C x) (k:∀p∈xs,C p):∀p∈x::xs,C p:=λp hp=>by
 rcases ca.1 hp with rfl|hp
 ·exact h
 ·exact k p hp
theorem Sp.o9 {s:Sp} {B:Nat} {v:ab} {w:ae} (ids:List Nat) (h3:∀p∈s.bl ids,B<=p.1/\w.heap[p.1]?=some p.2) (h1:ids.length=s.k:=by kernel_rfl) (h2:v=s.f ids:=by kernel_rfl):s.holds B v w:=⟨ids,h1,h2,h3⟩
theorem Ac {P:aF} {lf l:List ao} {sp:Nat->Sp} {y0:Nat->ab} {w:ae} {i:Nat}:qJ P lf l sp y0 w i []:=trivial
theorem step_cons {P:aF} {lf l:List ao} {sp:Nat->Sp} {y0:Nat->ab} {w:ae} {i:Nat} {o:ao} {rest:List ao} (h:vt P lf l sp y0 w i o) (k:qJ P lf l sp y0 w (i+1) rest):qJ P lf l sp y0 w i (o::rest):=⟨h,k⟩
theorem o_ {A C:Prop} (h:A) {b:Bool} (hw:b=true:=by kernel_rfl):(b=true->A)/\(b=false->C):=aef hw h
theorem St.given {w:ae} (ps:List (Nat×Obj)) (h:∀p∈ps,w.heap[p.1]?=some p.2):St [] w (ps.map λp=>⟨p.1,false,p.2⟩) w:=by
 refine⟨Ch.refl _ _,?_,?_,?_⟩
 ·intro i x hx;simp only[iZ,gU]at hx;obtain⟨p,hp,rfl⟩:=hx;exact h p (oQ hp)
 ·intro i x hx hw;simp only[iZ,gU]at hx;obtain⟨p,hp,rfl⟩:=hx;cases hw
 ·intro i j x y hx hy cw hw;simp only[iZ,gU]at hx;obtain⟨p,hp,rfl⟩:=hx;cases hw
theorem Ad {P:aF} {a0:Act} {w0:ae} {Q:dR->Act->ae->Prop} {id:Nat} {L:List ao} (m:Nat) (sp:List Sp) (paths:List (List Nat))
 (hs:qJ P L (L.take m) (qN sp) (cG a0) w0 0 (L.take m))
 (hq:∀(vs:Nat->ab) w',Ch [] w0 w'->(∀i,cu i m=true->(qN sp i).holds w0.heap.size (vs i) w')->∃dG:List ab,dG.length=m/\Ab vs 0 dG/\WL P L.toArray Q (L.drop m) (sf dG (L.take m) a0) w')
 (hm:P.follows .mixedOrders=true:=by kernel_rfl) (hl:bu m L.length=true:=by kernel_rfl) (ht:qK L m paths=true:=by kernel_rfl) (j1:EI a0.tmps.size (L.take m)=true:=by kernel_rfl) (fU:oc 0 L=true:=by kernel_rfl):(Code.region id L.toArray true).wp P Q a0 w0:=by
 have qP:(L.take m).length=m:=by have:=du hl;simp;omega
 have h:=aed (id:=id) (Q:=Q) (P:=P) (a0:=a0) (w0:=w0) (L.take m) (L.drop m) (qN sp) paths hm (by rw[jv,qP];exact ht) j1 (by rw[jv];exact fU) (by rw[jv];exact hs) ?_
 ·rwa [jv]at h
 ·intro vs w' hc dF;rw[jv];obtain⟨dG,h1,h2,h3⟩:=hq vs w' hc λi hi=>by
   have iM:i<m:=by simpa[ie]using hi
   exact dF i _ (jb (by omega))
  rw[Ws (by rw[h1,qP]) h2];exact h3.out
namespace Y
section
variable{P:aF} {o:ao} {w w0:ae} {ms:List Nat} {bs:List ai} {R:ab->ae->Prop} {ρ:ba->ab}
theorem ak (v:ab) (k:R v w) (h:(execOp ρ o).run P w=.ok (.value v) w:=by kernel_rfl):Yields P o ρ w R:=by unfold Yields;rw[h];exact k
theorem n_ (v v':ab) (he:v=v') (k:R v' w) (h:(execOp ρ o).run P w=.ok (.value v) w:=by kernel_rfl):Yields P o ρ w R:=by subst he;exact ak v k h
theorem kO (kd:eS) (e:Int) (he:kd.wrap e=e) (k:R (.int kd e) w) (h:(execOp ρ o).run P w=.ok (.value (.int kd (kd.wrap e))) w:=by kernel_rfl):Yields P o ρ w R:=n_ _ _ (by rw[he]) k h
theorem dJ {x:ba} (k:R (ρ x) w) (ho:o.op=.move x:=by rfl):Yields P o ρ w R:=ak _ k (by unfold execOp;simp[ho])
theorem fS {x:ba} (k:R (ρ x) w) (ho:o.op=.assign x:=by rfl):Yields P o ρ w R:=ak _ k (by unfold execOp;simp[ho])
theorem oX (S:St ms w0 bs w) (i:Nat) (v:ab) (b off:Nat) {x:ba} {ty:aG} (k:R v w) (ho:o.op=.load ty x:=by rfl) (hx:ρ x=.pointer (some ⟨b,off,none⟩):=by kernel_rfl)
 (ha:(P.underlying ty).map je=some false:=by kernel_rfl) (hb:lk bs i off=some (b,v):=by kernel_rfl):Yields P o ρ w R:=by
 obtain⟨wr,cs,t,fr,hb,hc⟩:=Wc hb;unfold Yields execOp;simp only[ho,hx,qu,i_,bx,dg,cz,Cm (S.at_ i _ hb) ha hc];exact k
theorem jY (S:St ms w0 bs w) (i:Nat) (n:Nat) (vs:Array ab) (b off:Nat) {x:ba} {ty:aG} (k:R (.agg vs) w) (ho:o.op=.load ty x:=by rfl) (hx:ρ x=.pointer (some ⟨b,off,none⟩):=by kernel_rfl)
 (ha:(P.underlying ty).map je=some true:=by kernel_rfl) (hn:(P.info? ty).map (·.size)=some n:=by kernel_rfl) (hb:xE bs i off n=some (b,vs):=by kernel_rfl):Yields P o ρ w R:=by
 obtain⟨wr,cs,t,fr,hb,hc,hv⟩:=IV hb;unfold Yields execOp;simp only[ho,hx,qu,i_,bx,dg,cz,EC (S.at_ i _ hb) ha hn hc hv];exact k
theorem eE (S:St ms w0 bs w) (f:Nat->ab) (obj:Obj) (k:∀b w',St ms w0 (⟨b,true,obj⟩::bs) w'->R (f b) w') (h:(execOp ρ o).run P w=.ok (.value (f w.heap.size)) (w.alloc obj):=by kernel_rfl):Yields P o ρ w R:=by
 unfold Yields;rw[h];exact k _ _ (S.new (Ch.alloc _ _ _) (dE _) (mX w obj))
theorem fu (f:fc) (args:Array ab) (k:aS P f args w R) (h:(execOp ρ o).run P w=.ok (.enter f args) w:=by kernel_rfl):Yields P o ρ w R:=by unfold Yields;rw[h];exact k
end
end Y
section
variable{P:aF} {a:Act} {w:ae} {Q:dR->Act->ae->Prop}
theorem NZ {p:Nat->Prop} (h:∃n,p n):∃n,p n/\∀m,p m->n<=m:=by
 obtain⟨n,hn⟩:=h;induction n using Nat.strongRecOn with
 |_ n ih=>
  by_cases hm:∃m,m<n/\p m
  ·obtain⟨m,hl,hp⟩:=hm;exact ih m hl hp
  ·refine⟨n,hn,λm hp=>?_⟩;by_cases hl:m<n
   ·exact absurd ⟨m,hl,hp⟩ hm
   ·omega
open Classical in
theorem aeg {c:Code} (I:Nat->Act->ae->Prop) (n:Nat) (h:I n a w)
 (round:∀n a w,I n a w->c.wp P (Exit.then (λa' w'=>∃m,m<n/\I m a' w') Q) a w):(Code.loop c).wp P Q a w:=by
 refine wp_loop (λa w=>∃n,I n a w) (λa w=>if h:∃n,I n a w then choose (NZ h)else 0) ⟨n,h⟩ ?_;intro a w hI;have hs:=choose_spec (NZ hI);refine wp_mono (round _ a w hs.1) ?_;intro e a' w' hh;cases e with
 |normal=>
  obtain⟨m,hm,hi⟩:=hh;refine⟨⟨m,hi⟩,?_⟩;have hx:∃n,I n a' w':=⟨m,hi⟩;have hy:=(choose_spec (NZ hx)).2 m hi;simp only[dif_pos hx,dif_pos hI];omega
 |_=>exact hh
end
section
variable{P:aF} {ops:Array ao} {Q:dR->Act->ae->Prop} {rest:List ao} {a:Act} {w w0:ae} {o:ao} {ms:List Nat} {bs:List ai}
theorem St.aeh (S:St ms w0 bs w) {b off:Nat} {v:ab} (hc:w0.cell? ⟨b,off,none⟩=some v) (hm:b∉ms):w.cell? ⟨b,off,none⟩=some v:=by
 have hb:b<w0.heap.size:=by
  unfold xu at hc;split at hc
  ·next h=>exact oW h
  ·exact absurd hc (by simp)
 have:=S.ch.block b hb hm;unfold xu at hc⊢;simpa only[this]using hc
theorem qQ (b off i n z c:Nat) (kd:eS) (iv:Int) {t e:aG} {x y:ba} (h0:0<=iv) (h1:iv<n) (he:i=iv.toNat) (k:WL P ops Q rest (a.put o.dst (.pointer (some ⟨b,off+i*z,none⟩))) w) (hw:gu o (yielded ops a.tmps)=true:=by kernel_rfl)
 (ho:o.op=.indexAddr t x y:=by rfl) (hu:P.underlying t=some (.slice e):=by kernel_rfl) (hz:(P.info? e).map (·.size)=some z:=by kernel_rfl)
 (hx:a.eval x=.slice (some ⟨b,off,none⟩) n c:=by kernel_rfl) (hy:a.eval y=.int kd iv:=by kernel_rfl):WL P ops Q (o::rest) a w:=
 ak (.pointer (some ⟨b,off+i*z,none⟩)) k hw (by
  subst he;have ED:∀q:Nat,(⟨b,off,none⟩:aO).add q=⟨b,off+q,none⟩:=λq=>by
   by_cases hq:q=0
   ·subst hq;rfl
   ·simp[u5,hq]
  cases hq:P.info? e with
  |none=>simp[hq]at hz
  |some inf=>
   have dw:inf.size=z:=by simpa[hq]using hz
   unfold execOp;simp only[ho,hx,hy];unfold tA;simp only[bx,dt hu,cz,asIntOf,dg];simp[h0,h1,oP,typeInfo,hq,dw,ED])
end
namespace Y
section
variable{P:aF} {w w0:ae} {o:ao} {ms:List Nat} {bs:List ai} {R:ab->ae->Prop} {ρ:ba->ab}
theorem qQ (b off i n z c:Nat) (kd:eS) (iv:Int) {t e:aG} {x y:ba} (h0:0<=iv) (h1:iv<n) (he:i=iv.toNat) (k:R (.pointer (some ⟨b,off+i*z,none⟩)) w)
 (ho:o.op=.indexAddr t x y:=by rfl) (hu:P.underlying t=some (.slice e):=by kernel_rfl) (hz:(P.info? e).map (·.size)=some z:=by kernel_rfl)
 (hx:ρ x=.slice (some ⟨b,off,none⟩) n c:=by kernel_rfl) (hy:ρ y=.int kd iv:=by kernel_rfl):Yields P o ρ w R:=
 Y.ak (.pointer (some ⟨b,off+i*z,none⟩)) k (by
  subst he;have ED:∀q:Nat,(⟨b,off,none⟩:aO).add q=⟨b,off+q,none⟩:=λq=>by
   by_cases hq:q=0
   ·subst hq;rfl
   ·simp[u5,hq]
  cases hq:P.info? e with
  |none=>simp[hq]at hz
  |some inf=>
   have dw:inf.size=z:=by simpa[hq]using hz
   unfold execOp;simp only[ho,hx,hy];unfold tA;simp only[bx,dt hu,cz,asIntOf,dg];simp[h0,h1,oP,typeInfo,hq,dw,ED])
end
end Y
def Ae (x y:ai):Prop:=x.wr=true\/y.wr=true->x.id≠y.id
section
variable{ms:List Nat} {w0 w w':ae} {bs bs':List ai}
theorem St.at' (S:St ms w0 bs w) {x:ai} (h:x∈bs):w.heap[x.id]?=some x.obj:=by
 obtain⟨i,hi⟩:=zM h;exact S.at_ i x hi
theorem St.oe (S:St ms w0 bs w) {x:ai} (h:x∈bs) (hw:x.wr=true):x.id∈ms\/w0.heap.size<=x.id:=by
 obtain⟨i,hi⟩:=zM h;exact S.own i x hi hw
theorem St.pw (S:St ms w0 bs w):bs.Pairwise Ae:=by
 rw[List.pairwise_iff_getElem];intro i j hi hj xC hw;have h1:bs[i]?=some bs[i]:=jb hi;have h2:bs[j]?=some bs[j]:=jb hj;rcases hw with hw|hw
 ·exact S.apart i j _ _ h1 h2 (by omega) hw
 ·exact(S.apart j i _ _ h2 h1 (by omega) hw).symm
theorem St.mk' (ch:Ch ms w0 w) (at_:∀x∈bs,w.heap[x.id]?=some x.obj) (own:∀x∈bs,x.wr=true->x.id∈ms\/w0.heap.size<=x.id) (pw:bs.Pairwise Ae):St ms w0 bs w:=by
 refine⟨ch,λi x h=>at_ x (oQ h),λi x h=>own x (oQ h),?_⟩;intro i j x y hx hy cw hw;rw[List.pairwise_iff_getElem]at pw;have hi:i<bs.length:=by
  rcases cN i bs.length with h|h
  ·exact h
  ·simp[h]at hx
 have hj:j<bs.length:=by
  rcases cN j bs.length with h|h
  ·exact h
  ·simp[h]at hy
 obtain rfl:bs[i]=x:=by simpa[hi]using hx
 obtain rfl:bs[j]=y:=by simpa[hj]using hy
 rcases Nat.lt_or_gt_of_ne cw with h|h
 ·exact pw i j hi hj h (.inl hw)
 ·exact(pw j i hj hi h (.inr hw)).symm
theorem aei {x y:ai} (h:Ae x y):Ae y x:=λhw=>(h hw.symm).symm
theorem St.perm (S:St ms w0 bs w) (h:bs.Perm bs'):St ms w0 bs' w:=
 St.mk' S.ch (λx hx=>S.at' (h.mem_iff.2 hx)) (λx hx=>S.oe (h.mem_iff.2 hx)) ((h.pairwise_iff (λh=>aei h)).1 S.pw)
theorem St.sub (S:St ms w0 bs w) (h:bs'.Sublist bs):St ms w0 bs' w:=
 St.mk' S.ch (λx hx=>S.at' (h.mem hx)) (λx hx=>S.oe (h.mem hx)) (S.pw.sublist h)
theorem St.ge (S:St ms w0 bs w) {x:ai} (h:x∈bs):x.id<w.heap.size:=oW (S.at' h)
theorem Ch.mono {es sh:List Nat} (h:Ch es w w') (hs:∀x∈es,x∈sh):Ch sh w w':=⟨h.os,h.tape,h.output,h.size,λk hk hm=>h.block k hk (λhx=>hm (hs k hx))⟩
theorem St.tN {A bl bl' R:List ai} (S:St ms w0 (A++(bl++R)) w) (hw:∀x∈bl,x.wr=true) (hc:Ch (bl.map ai.id) w w')
 (aM:∀x∈bl',w'.heap[x.id]?=some x.obj) (hid:∀x∈bl',(∃y∈bl,x.id=y.id)\/w.heap.size<=x.id) (hp:bl'.Pairwise Ae):St ms w0 (A++(bl'++R)) w':=by
 have Wu:=S.pw;rw[NB,NB]at Wu;obtain⟨pA,⟨pb,pR,pbR⟩,Wv⟩:=Wu;have nf:∀z,z∈A\/z∈R->z.id∉bl.map ai.id:=by
  intro z hz hm;obtain⟨y,hy,he⟩:=mn.1 hm;rcases hz with hz|hz
  ·exact Wv z hz y (by simp[hy]) (.inr (hw y hy)) he.symm
  ·exact pbR y hy z hz (.inl (hw y hy)) he
 have Ww:∀z,z∈A\/z∈R->∀x∈bl',z.id≠x.id:=by
  intro z hz x hx e;rcases hid x hx with⟨y,hy,he⟩|h
  ·exact nf z hz (by rw[e,he];exact List.mem_map_of_mem hy)
  ·have:=S.ge (x:=z) (by rcases hz with h|h<;>simp[h]);omega
 refine St.mk' (S.ch.trans hc ?_) ?_ ?_ ?_
 ·intro k hk;obtain⟨y,hy,rfl⟩:=mn.1 hk;exact S.oe (by simp[hy]) (hw y hy)
 ·intro x hx;rcases eJ.1 hx with h|h
  ·exact(hc.block _ (S.ge (by simp[h])) (nf x (.inl h))).trans (S.at' (by simp[h]))
  ·rcases eJ.1 h with h|h
   ·exact aM x h
   ·exact(hc.block _ (S.ge (by simp[h])) (nf x (.inr h))).trans (S.at' (by simp[h]))
 ·intro x hx Wx;rcases eJ.1 hx with h|h
  ·exact S.oe (by simp[h]) Wx
  ·rcases eJ.1 h with h|h
   ·rcases hid x h with⟨y,hy,he⟩|dY
    ·rw[he];exact S.oe (by simp[hy]) (hw y hy)
    ·exact .inr (iY S.ch.size dY)
   ·exact S.oe (by simp[h]) Wx
 ·rw[NB,NB];refine⟨pA,⟨hp,pR,λx hx z hz _ e=>Ww z (.inr hz) x hx e.symm⟩,λz hz x hx=>?_⟩;rcases eJ.1 hx with h|h
  ·exact λ_=>Ww z (.inl hz) x h
  ·exact Wv z hz x (by simp[h])
theorem St.less {A bl R:List ai} (S:St ms w0 (A++(bl++R)) w) (hw:∀x∈bl,x.wr=true) (hc:Ch (bl.map ai.id) w w'):St ms w0 (A++R) w':=by
 have:=S.tN (bl':=[]) hw hc (by simp) (by simp) List.Pairwise.nil;simpa using this
end
def eW (z:Nat) (T:aG) (olds:List ab) (x:Option aO) (n c:Nat) (bl:List ai):Prop:=
 olds.length=n*z/\n<=c/\((x=none/\n=0/\c=0/\bl=[])\/∃b tail,x=some ⟨b,0,none⟩/\bl=[⟨b,true,.cells (olds++tail).toArray T (0,0)⟩]/\(olds++tail).length=c*z)
theorem xN (z:Nat) (T:aG):eW z T [] none 0 0 []:=⟨by simp,dE _,.inl ⟨rfl,rfl,rfl,rfl⟩⟩
theorem eW.wr {z T olds x n c bl} (h:eW z T olds x n c bl):∀y∈bl,y.wr=true:=by
 rcases h.2.2 with⟨_,_,_,rfl⟩|⟨b,tail,_,rfl,_⟩<;>simp
theorem eW.pw {z T olds x n c bl} (h:eW z T olds x n c bl):bl.Pairwise Ae:=by
 rcases h.2.2 with⟨_,_,_,rfl⟩|⟨b,tail,_,rfl,_⟩<;>simp
def si (z:Nat) (T:aG) (olds:List ab) (n:Nat) (bl:List ai) (B:Nat) (v:ab) (w':ae):Prop:=
 ∃x c bl',v=.slice x n c/\eW z T olds x n c bl'/\∀y∈bl',w'.heap[y.id]?=some y.obj/\((∃u∈bl,y.id=u.id)\/B<=y.id)
theorem si.EG {z T olds n bl B v} {w w':ae} (h:si z T olds n bl B v w) (hc:Ch [] w w'):si z T olds n bl B v w':=by
 obtain⟨x,c,bl',h1,h2,h3⟩:=h;exact⟨x,c,bl',h1,h2,λy hy=>⟨(hc.block _ (oW (h3 y hy).1) (by simp)).trans (h3 y hy).1,(h3 y hy).2⟩⟩
section
variable{P:aF}
theorem Cs {w:ae} {z T n c m:Nat} {olds news:List ab} {x:Option aO} {bl:List ai} (hr:eW z T olds x n c bl) (aM:∀y∈bl,w.heap[y.id]?=some y.obj)
 {t tx ty:aG} {xv:ab} (bytes:Nat) (hs:Src P z tx xv m news w) (ht:P.underlying t=some (.slice T)) (hi:(P.info? T).map (λi=>(i.zero.map (·.cells.size),i.size,i.bytes))=some (some z,z,bytes))
 (hb:(n+m)*bytes<=140737488355328) (h63:n+m<=maxLen):
 ∃v w',(mY #[t,tx] ty #[.slice x n c,xv]).run P w=.ok v w'/\Ch (bl.map ai.id) w w'/\si z T (olds++news) (n+m) bl w.heap.size v w':=by
 obtain⟨i,bZ,hi⟩:=gU.1 hi;simp only[bw]at hi;obtain⟨hz,dw,im⟩:=hi;obtain⟨z0,lx,ng⟩:=gU.1 hz;obtain⟨hlen,jx,jK⟩:=hr;have pa:=hs.newsLen;have avv:news.length=m*i.size:=by rw[dw];exact pa
 have jg:Src P i.size tx xv m news w:=by rw[dw];exact hs
 by_cases nh:n+m<=c
 ·rcases u6 m with kP|kP
  ·subst kP;obtain rfl:news=[]:=mZ (by simpa using pa);refine⟨_,_,run_append_nothing (P:=P) w t tx ty T i ht bZ x n c jx xv jg,Ch.refl _ _,x,c,bl,rfl,⟨by simpa using hlen,jx,by simpa using jK⟩,λy hy=>⟨aM y hy,.inl ⟨y,hy,rfl⟩⟩⟩
  ·rcases jK with⟨_,rfl,rfl,_⟩|⟨b,tail,rfl,rfl,pd⟩
   ·omega
   ·have sj:=aM _ (ig.2 rfl);have hbd:n*z+news.length<=(olds++tail).length:=by
     rw[pd,pa,<-mq];exact NC _ nh
    have fG:=run_storeCells_at (P:=P) b (n*z) T news 0 (olds++tail).toArray w sj (by simpa using hbd) hs.one;simp only[oR]at fG;have bG:(mY #[t,tx] ty #[.slice (some ⟨b,0,none⟩) n c,xv]).run P w=.ok (.slice (some ⟨b,0,none⟩) (n+m) c) (w.setRow b ((olds++tail).take (n*z)++news++(olds++tail).drop (n*z+news.length)).toArray):=by
     rcases jg.kind with⟨e',hk⟩|hk<;>simp[mY,dt ht,dt hk,oP,typeInfo,bZ,jg.len,nh,hs.cells,iE,dw,fG,jw]
    refine⟨_,_,bG,by simpa using Ch.setRow w b _,some ⟨b,0,none⟩,c,[⟨b,true,.cells ((olds++news)++tail.drop news.length).toArray T (0,0)⟩],rfl,⟨by rw[fq,hlen,pa,mq],nh,.inr ⟨b,_,rfl,rfl,?_⟩⟩,?_⟩
    ·simp only[fq,List.length_drop,hlen]at pd hbd⊢;omega
    ·intro y hy;obtain rfl:=ig.1 hy;refine⟨?_,.inl ⟨_,ig.2 rfl,rfl⟩⟩;have:=setRow_heap w b (olds++tail).toArray ((olds++tail).take (n*z)++news++(olds++tail).drop (n*z+news.length)).toArray T (0,0) sj;rw[this];congr 3;rw[<-hlen,List.take_left,List.drop_append,List.drop_eq_nil_of_le (by omega)];simp
 ·have hg:c<n+m:=by omega
  have hold:(Builtin.firstCells i.size n (.slice x n c)).run P w.drew=.ok olds.toArray w.drew:=by
   rcases jK with⟨rfl,rfl,rfl,_⟩|⟨b,tail,rfl,rfl,pd⟩
   ·obtain rfl:olds=[]:=mZ (by simpa using hlen);exact run_firstCells_none (P:=P) w.drew i.size 0 0 0
   ·have sj:=aM _ (ig.2 rfl);refine run_firstCells_some (P:=P) w.drew i.size n ⟨b,0,none⟩ n c olds (by rw[hlen,dw]) (λj v hj=>?_);rw[iE];have:w.drew.cell? ⟨b,0+j,none⟩=w.cell? ⟨b,j,none⟩:=by simp
    rw[this,cell_of sj];have j3:j<olds.length:=by
     rcases cN j olds.length with h|h
     ·exact h
     ·simp[h]at hj
    simp[gV j3,hj]
  have bG:=run_append_grow_src (P:=P) w t tx ty T i z0 ht bZ lx x n c olds hold xv m news jg hg (by simp only[maxLen]at h63;omega) (by rw[im];exact growslice_fits hg hb);have dY:=grownCap_ge w (n+m) c T;refine⟨_,_,bG,?_,some ⟨w.heap.size,0,none⟩,grownCap w (n+m) c T,[⟨w.heap.size,true,.cells ((olds++news)++(n9 z0.cells (grownCap w (n+m) c T-(n+m))).toList).toArray T (0,0)⟩],rfl,⟨by rw[fq,hlen,pa,mq],dY,.inr ⟨_,_,rfl,rfl,?_⟩⟩,?_⟩
  ·exact((Ch.refl (bl.map ai.id) w).drew).trans (Ch.alloc (bl.map ai.id) w.drew _) (λx hx=>.inl hx)
  ·rw[fq,fq,hlen,pa,Array.length_toList,size_zeroCells,ng,<-mq,<-mq];congr 1;omega
  ·intro y hy;obtain rfl:=ig.1 hy;refine⟨?_,.inr (dE _)⟩;have:=mX w.drew (.cells ((olds++news).toArray++n9 z0.cells (grownCap w (n+m) c T-(n+m))) T);refine Eq.trans this ?_;congr 2;apply fe;simp
end
def Ct (n:Nat) (l:List ao):Bool:=l.all (λo=>match o.dst with|some d=>cu d n|none=>true)&&EH (l.map (·.dst))
theorem Wy (vs:Nat->ab):∀(m:List ao) (k:Nat) (a:Act),(∀o∈m,∀d,o.dst=some d->d<a.tmps.size)->(m.map (·.dst)).Nodup->
 (fT vs k m a).tmps.size=a.tmps.size/\(fT vs k m a).defers=a.defers/\(∀t,(∀o∈m,o.dst≠some t)->cG (fT vs k m a) t=cG a t)/\∀i o d,m[i]?=some o->o.dst=some d->cG (fT vs k m a) d=vs (k+i)
 |[],k,a,_,_=>⟨rfl,rfl,λ_ _=>rfl,λi o d h=>by simp at h⟩
 |x::rest,k,a,hd,hn=>by
  simp only[eH,qz]at hn;obtain⟨h1,h2,h3,h4⟩:=Wy vs rest (k+1) (a.put x.dst (vs k)) (λo ho d e=>by
   rw[size_put];exact hd o (by simp[ho]) d e) hn.2
  refine⟨by simp only[fT];rw[h1,size_put],by simp only[fT];rw[h2,z_],?_,?_⟩
  ·intro t ht;simp only[fT];rw[h3 t (λo ho=>ht o (by simp[ho]))];cases hx:x.dst with
   |none=>rfl
   |some dx=>
    rw[xJ _ _ _ _ (hd x (by simp) dx hx),if_neg];intro e;subst e;exact ht x (by simp) hx
  ·intro i o d hi ho;cases i with
   |zero=>
    obtain rfl:x=o:=by simpa using hi
    simp only[fT];rw[h3 d (λo' jZ e=>hn.1 (by rw[ho,<-e];exact List.mem_map_of_mem (f:=λx=>x.dst) jZ)),ho,xJ _ _ _ _ (hd x (by simp) d ho),if_pos rfl];rfl
   |succ i=>
    simp only[fT];rw[h4 i o d (by simpa using hi) ho];congr 1;omega
def preB (pre:List (List Nat)) (i:Nat):Bool:=pre.any λp=>match p.getLast? with|some j=>aq j i|none=>false
def EM (l:List ao) (k0:Nat) (pre:List (List Nat)):Bool:=pre.all λp=>Cp l p&&(match p.head? with|some k=>aq k k0|none=>false)&&cu 1 p.length
def qR (P:aF) (k0:Nat) (pre:List (List Nat)) (es:List Nat) (H:Nat->ab->ae->Prop) (lf l:List ao) (y0:Nat->ab) (w:ae) (i:Nat) (o:ao):Prop:=
 ∀(y:Nat->ab) (w':ae),(i=k0\/preB pre i=true->Ch [] w w')->Ch es w w'->(∀t,vo l i t=true->y t=y0 t)->
  (∀j d,kp o j=true->(l[j]?).bind (·.dst)=some d->H j (y d) w')->
  (m_ lf o y=true->Yields P o (vn y) w' λv fC=>(i=k0->Ch es w' fC)/\(i≠k0->Ch [] w' fC)/\H i v fC)/\(m_ lf o y=false->H i undef w')
def pg (P:aF) (k0:Nat) (pre:List (List Nat)) (es:List Nat) (H:Nat->ab->ae->Prop) (lf l:List ao) (y0:Nat->ab) (w:ae):Nat->List ao->Prop
 |_,[]=>True
 |i,o::rest=>qR P k0 pre es H lf l y0 w i o/\pg P k0 pre es H lf l y0 w (i+1) rest
theorem pg.get {P:aF} {k0:Nat} {pre:List (List Nat)} {es:List Nat} {H:Nat->ab->ae->Prop} {lf l:List ao} {y0:Nat->ab} {w:ae}:∀{k:Nat} {m:List ao},pg P k0 pre es H lf l y0 w k m->∀(i:Nat) o,m[i]?=some o->qR P k0 pre es H lf l y0 w (k+i) o
 |_,[],_,i,o,h=>by simp at h
 |k,x::rest,⟨h1,h2⟩,0,o,h=>by obtain rfl:x=o:=by simpa using h
                              exact h1
 |k,x::rest,⟨h1,h2⟩,i+1,o,h=>by
  have:=pg.get h2 i o (by simpa using h)
  rwa [show k+1+i=k+(i+1) by omega]at this
structure N0 (k0:Nat) (es:List Nat) (H:Nat->ab->ae->Prop) (l:List ao) (n2:Nat) (a0:Act) (w0:ae) (vs:Nat->ab) (listed:Array Bool) (a:Act) (w:ae):Prop where
 ls:listed.size=l.length+n2
 off:∀i,l.length<=i->i<l.length+n2->listed[i]?=some false
 size:a.tmps.size=a0.tmps.size
 defers:a.defers=a0.defers
 ch:if listed[k0]?=some true then Ch es w0 w else Ch [] w0 w
 done:∀(i:Nat) (o:ao),l[i]?=some o->listed[i]?=some true->(∀d,o.dst=some d->cG a d=vs i)/\H i (vs i) w
 rest:∀(t:Nat),(∀(i:Nat) (o:ao),l[i]?=some o->o.dst=some t->listed[i]?=some false)->cG a t=cG a0 t
 back:∀(i:Nat) (o:ao),l[i]?=some o->listed[i]?=some true->∀j,kp o j=true->listed[j]?=some true
section
variable{P:aF} {l:List ao} {k0:Nat} {pre:List (List Nat)} {es:List Nat} {H:Nat->ab->ae->Prop} {a0:Act} {w0:ae} {Q:dR->Act->ae->Prop}
theorem aej (fG:∀i v w w',Ch [] w w'->H i v w->H i v w') (aek:EM l k0 pre=true) (N1:∀i v w w',i≠k0->w0.heap.size<=w.heap.size->Ch es w w'->H i v w->H i v w') (l2:List ao) (paths:List (List Nat)) (ht:qK (l++l2) l.length paths=true) (j1:Ct a0.tmps.size l=true) (fU:oc 0 (l++l2)=true) (hs:pg P k0 pre es H (l++l2) l (cG a0) w0 0 l)
 (hq:∀(vs:Nat->ab) w',Ch es w0 w'->(∀i o,l[i]?=some o->H i (vs i) w')->wpList P (l++l2).toArray Q l2 (fT vs 0 l a0) w'):
 ∀(fuel:Nat) (vs:Nat->ab) (listed:Array Bool) (a:Act) (w:ae),N0 k0 es H l l2.length a0 w0 vs listed a w->listed.toList.count false=fuel+l2.length->wpAny P .any (l++l2).toArray Q (fuel+l2.length) listed a w:=by
 have inl:∀{i:Nat} {o:ao},(l++l2)[i]?=some o->i<l.length->l[i]?=some o:=λh hi=>by rwa [gV hi]at h
 have inr:∀{i:Nat} {o:ao},l[i]?=some o->(l++l2)[i]?=some o:=λ{i o} h=>by rwa [gV (by rcases cN i l.length with h'|h';exact h';simp[h']at h)]
 simp only[Ct,bg,fR]at j1;have hd:∀o∈l,∀d,o.dst=some d->d<a0.tmps.size:=by
  intro o ho d hx;have:=j1.1 o ho;simpa[hx,ie]using this
 have hn:=NS j1.2;have uniq:∀(i j:Nat) o p d,l[i]?=some o->l[j]?=some p->o.dst=some d->p.dst=some d->i=j:=by
  intro i j o p d hi hj ho hp;have il:i<(l.map (·.dst)).length:=by simp;rcases cN i l.length with h|h;exact h;simp[h]at hi
  refine(List.getElem?_inj il hn).1 ?_;simp[hi,hj,ho,hp]
 have fin:∀vs listed a w,N0 k0 es H l l2.length a0 w0 vs listed a w->(∀i,i<l.length->listed[i]?=some true)->wpAny P .any (l++l2).toArray Q l2.length listed a w:=by
  intro vs listed a w I dF;obtain⟨h1,h2,h3,h4⟩:=Wy vs l 0 a0 hd hn;have:a=fT vs 0 l a0:=by
   refine NR (by rw[I.size,h1]) (by rw[I.defers,h2]) ?_;intro t;by_cases ht:∃(i:Nat) (o:ao),l[i]?=some o/\o.dst=some t
   ·obtain⟨i,o,hi,ho⟩:=ht;rw[h4 i o t hi ho,eD];exact(I.done i o hi (dF i (by rcases cN i l.length with h|h;exact h;simp[h]at hi))).1 t ho
   ·rw[h3 t (λo ho e=>ht (by obtain⟨i,hi⟩:=zM ho;exact⟨i,o,hi,e⟩))];exact I.rest t (λi o hi ho=>absurd ⟨i,o,hi,ho⟩ ht)
  rw[this];refine Wm l2 fU paths ht l2 0 rfl listed _ w I.ls (λi hi=>dF i (by omega)) (λi h1 h2=>I.off i (by omega) h2) ?_;exact hq vs w (by have:=I.ch;split at this;exact this;exact this.mono (by simp)) λi o hi=>(I.done i o hi (dF i (by rcases cN i l.length with h|h;exact h;simp[h]at hi))).2
 have tl:∀vs listed a w,N0 k0 es H l l2.length a0 w0 vs listed a w->∀i,i∈qA .any (l++l2).toArray listed->l.length<=i->∀j,j<l.length->listed[j]?=some true:=by
  intro vs listed a w I i hi dY j hj;obtain⟨oi,oZ,hf,fV⟩:=(lu _ listed i).1 hi;have il:i<(l++l2).length:=by rcases cN i (l++l2).length with h|h;exact h;simp[iK h]at oZ
  obtain⟨p,q1,q2,q3,q4⟩:=NV ht i il dY j (by omega);refine EJ (l:=l++l2) ?_ p i j q1 q2 q3 q4 ?_
  ·intro x o hx qM k hk;rcases cN x l.length with h|h
   ·exact I.back x o (inl hx h) qM k hk
   ·have vu:x<(l++l2).length:=by rcases cN x (l++l2).length with h'|h';exact h';simp[iK h']at hx
    have:=I.off x h (by simpa using vu);rw[qM]at this;simp at this
  ·intro o ho k hk;obtain rfl:oi=o:=by rw[oZ]at ho;simpa using ho
   obtain⟨e,he,rfl,hbd⟩:=EK.1 hk;have h3:=fV e he hbd;have h4:=tL fU i oi oZ e he hbd;rcases lr I.ls (show e.on<l.length+l2.length by simp at il;omega)with hx|hx
   ·exact hx
   ·simp[ju,hx]at h3
 intro fuel;induction fuel with
 |zero=>
  intro vs listed a w I hc;have dF:∀i,i<l.length->listed[i]?=some true:=by
   intro i hi;rcases lr I.ls (show i<l.length+l2.length by omega)with hb|hb
   ·exact hb
   ·exfalso;have h4:=NT listed.toList l.length l2.length (by simpa using I.ls) (λj h1 h2=>by simpa using I.off j h1 h2) i hi (by simpa using hb);omega
  rw[eD];exact fin vs listed a w I dF
 |succ fuel ih=>
  intro vs listed a w I hc;by_cases Aa:∀i,i<l.length->listed[i]?=some true
  ·exfalso;have:=I1 listed.toList l.length l2.length (by simpa using I.ls) (λj h1=>by simpa using Aa j h1);omega
  rw[show fuel+1+l2.length=(fuel+l2.length)+1 by omega];refine⟨λhr=>?_,?_⟩
  ·
   exfalso;refine Aa ?_;intro i;induction i using Nat.strongRecOn with
   |_ i NW=>
    intro hi;rcases lr I.ls (show i<l.length+l2.length by omega)with hb|hb
    ·exact hb
    ·exfalso;have:i∈qA .any (l++l2).toArray listed:=(lu _ listed i).2 ⟨l[i],inr (by simp),by simp[ju,hb],λe he NX=>by
      have dv:=tL fU i l[i] (inr (by simp)) e he NX;have:=NW e.on (by omega) (by omega);simp[ju,this]⟩
     rw[hr]at this;simp at this
  ·intro i hi;have il:i<l.length:=by
    rcases cN i l.length with h|h
    ·exact h
    ·exact absurd (tl vs listed a w I i hi h) Aa
   obtain⟨o,lQ,h2,h3⟩:=(lu _ listed i).1 hi;have ho:=inl lQ il;have se:listed[i]?=some false:=by
    rcases lr I.ls (show i<l.length+l2.length by omega)with hb|hb
    ·simp[ju,hb]at h2
    ·exact hb
   have NY:=hd o (oQ ho);have fV:∀j,kp o j=true->listed[j]?=some true:=by
    intro j hj;unfold kp at hj;rw[<-Array.any_toList,zK]at hj;obtain⟨e,he,hj⟩:=hj;simp only[bg,beq_iff_eq]at hj;obtain⟨rfl,hb⟩:=hj;have he:=Array.mem_toList_iff.1 he;have h4:=h3 e he hb;have dv:=tL fU i o lQ e he hb;rcases lr I.ls (show e.on<l.length+l2.length by omega)with hb|hb
    ·exact hb
    ·simp[ju,hb]at h4
   have N2:i=k0\/preB pre i=true->Ch [] w0 w:=λe=>by
    have hk:¬listed[k0]?=some true:=by
     rcases e with e|e
     ·rw[<-e,se];simp
     ·intro hl;unfold preB at e;obtain⟨p,hp,he⟩:=zK.1 e;have g1:=fR.1 aek p hp;simp only[bg]at g1;obtain⟨⟨g2,g3⟩,g4⟩:=g1;cases hh:p.head? with
      |none=>rw[hh]at g3;simp at g3
      |some k=>
       rw[hh]at g3;have ek:=ck g3;cases su:p.getLast? with
       |none=>rw[su]at he;simp at he
       |some j=>
        rw[su]at he;have ej:=ck he;have:=EJ I.back p k j g2 hh su (by unfold cu at g4;exact du g4) (λo ho j hj=>I.back k o ho (by rw[ek];exact hl) j hj);rw[ej,se]at this;simp at this
    have:=I.ch;rw[if_neg hk]at this;exact this
   have step:=(pg.get hs i o ho) (cG a) w (by rw[eD];exact N2) (by have:=I.ch;split at this;exact this;exact this.mono (by simp)) (λt ht=>by
    refine I.rest t λk ok hk hok=>?_;rw[vo,fR]at ht;have:=ht ok (oQ hk);simp only[hok,bne_self_eq_false,Bool.false_or]at this;have xD:k<l.length:=by rcases cN k l.length with h|h;exact h;simp[h]at hk
    rcases lr I.ls (show k<l.length+l2.length by omega)with hb|hb
    ·have:=I.back k ok hk hb i (by simpa using this);rw[se]at this;simp at this
    ·exact hb)
    (λj dj hj na=>by
     cases dZ:l[j]?with
     |none=>simp[dZ]at na
     |some oj=>
      have:=I.done j oj dZ (fV j hj);rw[this.1 dj (by simpa[dZ]using na)];exact this.2)
   have next:∀v w',(i=k0->Ch es w w')->(i≠k0->Ch [] w w')->H i v w'->wpAny P .any (l++l2).toArray Q (fuel+l2.length) (listed.setIfInBounds i true) (a.put o.dst v) w':=by
    intro v w' tM Cu hv;refine ih (λj=>if j=i then v else vs j) _ _ _ ?_ ?_
    ·have gl:∀j b,(listed.setIfInBounds i true)[j]?=some b->(j=i/\b=true)\/(j≠i/\listed[j]?=some b):=by
      intro j b hj;rw[qx]at hj;by_cases h:i=j
      ·subst h;have:i<l.length+l2.length:=by omega
       simp[I.ls,this]at hj;exact Or.inl ⟨rfl,hj⟩
      ·rw[if_neg h]at hj;exact Or.inr ⟨λe=>h e.symm,hj⟩
     have yp:∀t,(o.dst≠some t->cG (a.put o.dst v) t=cG a t)/\(o.dst=some t->cG (a.put o.dst v) t=v):=λt=>by
      cases Cq:o.dst with
      |none=>exact⟨λ_=>rfl,λh=>by cases h⟩
      |some d=>
       have:=xJ a d v t (by rw[I.size];exact NY d Cq);refine⟨λh=>?_,λh=>?_⟩
       ·rw[this,if_neg (λe=>h (by rw[e]))]
       ·rw[this,if_pos (by simpa using h.symm)]
     refine⟨by simp[I.ls],λj h1 h2=>by
      rw[qx,if_neg (by omega)];exact I.off j h1 h2,by rw[size_put,I.size],by rw[z_,I.defers],?_,?_,?_,?_⟩
     ·by_cases fW:i=k0
      ·have hk:(listed.setIfInBounds i true)[k0]?=some true:=by
        rw[<-fW,qx,if_pos rfl,if_pos (by rw[I.ls];omega)]
       rw[if_pos hk];exact((N2 (.inl fW)).mono (by simp)).trans (tM fW) (λx hx=>.inl hx)
      ·have hk:(listed.setIfInBounds i true)[k0]?=listed[k0]?:=by
        rw[qx,if_neg fW]
       rw[hk];have h1:=I.ch;split at h1
       ·rename_i h2;rw[if_pos h2];exact h1.trans (Cu fW) (by simp)
       ·rename_i h2;rw[if_neg h2];exact h1.trans (Cu fW) (by simp)
     ·intro j oj hj dZ;rcases gl j true dZ with⟨rfl,_⟩|⟨cw,dZ⟩
      ·obtain rfl:o=oj:=by rw[ho]at hj;simpa using hj
       simp only[if_true];exact⟨λdj na=>(yp dj).2 na,hv⟩
      ·have:=I.done j oj hj dZ;simp only[if_neg cw];refine⟨λdj na=>?_,?_⟩
       ·rw[(yp dj).1 (λe=>cw (uniq j i oj o dj hj ho na e))];exact this.1 dj na
       ·by_cases fW:i=k0
        ·exact N1 _ _ _ _ (λe=>cw (by rw[fW];exact e)) (by have:=I.ch;split at this;exact this.size;exact this.size) (tM fW) this.2
        ·exact fG _ _ _ _ (Cu fW) this.2
     ·intro t ht;have cw:o.dst≠some t:=λe=>by
       have:=ht i o ho e;rcases gl i false this with⟨_,h⟩|⟨h,_⟩
       ·cases h
       ·exact h rfl
      rw[(yp t).1 cw];refine I.rest t λk ok hk hok=>?_;have:=ht k ok hk hok;rcases gl k false this with⟨_,h⟩|⟨_,h⟩
      ·cases h
      ·exact h
     ·intro k ok hk lv j hj;have hb:listed[j]?=some true:=by
       rcases gl k true lv with⟨rfl,_⟩|⟨cw,lv⟩
       ·obtain rfl:o=ok:=by rw[ho]at hk;simpa using hk
        exact fV j hj
       ·exact I.back k ok hk lv j hj
      rw[qx];split
      ·rename_i h;subst h;rw[se]at hb;simp at hb
      ·exact hb
    ·have h2:listed[i]?=some false:=se;have aec:=count_set listed.toList i (by simpa using h2);simp only[IJ];omega
   unfold wpOp;simp only[jt,lQ];rw[Wk];cases hw:m_ (l++l2) o (cG a)with
   |true=>
    rw[if_pos rfl];refine Or.inl ?_;have hy:=step.1 hw;rw[Wj]at hy;exact Yields.wp hy λv w' ⟨tM,Cu,hv⟩=>next v w' (by rw[eD]at tM;exact tM) (by rw[eD]at Cu;exact Cu) (by rw[eD]at hv;exact hv)
   |false=>
    rw[if_neg (by simp)];exact next undef w (λ_=>Ch.refl _ _) (λ_=>Ch.refl _ _) (by have:=step.2 hw;rw[eD]at this;exact this)
theorem ael {id:Nat} (l l2:List ao) (fG:∀i v w w',Ch [] w w'->H i v w->H i v w') (fV:EM l k0 pre=true) (N1:∀i v w w',i≠k0->w0.heap.size<=w.heap.size->Ch es w w'->H i v w->H i v w') (paths:List (List Nat)) (hm:P.follows .mixedOrders=true) (ht:qK (l++l2) l.length paths=true) (j1:Ct a0.tmps.size l=true) (fU:oc 0 (l++l2)=true) (hs:pg P k0 pre es H (l++l2) l (cG a0) w0 0 l)
 (hq:∀(vs:Nat->ab) w',Ch es w0 w'->(∀i o,l[i]?=some o->H i (vs i) w')->wpList P (l++l2).toArray Q l2 (fT vs 0 l a0) w'):(Code.region id (l++l2).toArray true).wp P Q a0 w0:=by
 refine wp_region_any hm ?_;have h:=aej fG fV N1 l2 paths ht j1 fU hs hq l.length (λ_=>undef) (Ca (l++l2).toArray.size false) a0 {w0 with drawn:=w0.drawn+1} ?_ ?_
 ·rw[show(l++l2).toArray.size=l.length+l2.length by simp];rw[show(l++l2).toArray.size=l.length+l2.length by simp]at h;exact h
 ·refine⟨by simp,λi h1 h2=>by simp[zN];omega,rfl,rfl,?_,?_,λ_ _=>rfl,?_⟩
  ·split
   ·exact(Ch.refl _ _).drew
   ·exact(Ch.refl _ _).drew
  ·intro i o _ h;simp[zN]at h
  ·intro i o _ h;simp[zN]at h
 ·simp[VW]
end
section
variable{ms:List Nat} {w0 w w':ae} {bs:List ai}
theorem Wz {α:Type}:∀{l:List α} {i:Nat} {x:α},l[i]?=some x->l.Perm (x::l.eraseIdx i)
 |[],i,x,h=>by simp at h
 |y::l,0,x,h=>by obtain rfl:y=x:=by simpa using h
                 exact List.Perm.refl _
 |y::l,i+1,x,h=>by
  have:=Wz (l:=l) (i:=i) (x:=x) (by simpa using h);exact(u7 y this).trans (ND _ _ _)
end
section
variable{P:aF} {w w0:ae} {ms:List Nat} {bs:List ai}
theorem jL {ρ:ba->ab} {o:ao} {w':ae} {s x:ba} {t tx:aG} {sv xv v:ab} (ho:o.op=.call ⟨.builtin .append,#[s,x],#[t,tx]⟩) (hs:ρ s=sv) (hx:ρ x=xv)
 (bG:(mY #[t,tx] o.type #[sv,xv]).run P w=.ok v w'):(execOp ρ o).run P w=.ok (.value v) w':=by
 simp[execOp,ho,resolve,invoke,builtin,hs,hx,bG,jw]
theorem aem (S:St ms w0 bs w) (i m z:Nat) (news:List ab) {b off c:Nat} {tx e':aG} (hk:P.underlying tx=some (.slice e')) (hb:xE bs i off (m*z)=some (b,news.toArray)) (h1:news.all (·.oneCell')=true) (hl:news.length=m*z):
 Src P z tx (.slice (some ⟨b,off,none⟩) m c) m news w:=by
 obtain⟨wr,cs,t,fr,N3,hc,hv⟩:=IV hb;refine rU w hk ⟨b,off,none⟩ m c news hl (λj u hj=>?_) (λu hu=>fR.1 h1 u hu);rw[iE,cell_of (S.at_ i _ N3)];have h2:(cs.extract off (off+m*z))[j]?=some u:=by rw[hc];simpa using hj
 rw[Array.getElem?_extract]at h2;split at h2
 ·exact h2
 ·exact absurd h2 (by simp)
section
variable{ops:Array ao} {rest:List ao} {o:ao} {a:Act} {Q:dR->Act->ae->Prop} {z T n c m bytes:Nat} {olds news tail:List ab} {s x:ba} {t tx:aG} {xv:ab}
theorem aen {A bl R:List ai} {xs:Option aO} (S:St ms w0 (A++(bl++R)) w) (hr:eW z T olds xs n c bl) (hs:Src P z tx xv m news w) (bytes:Nat) (ho:o.op=.call ⟨.builtin .append,#[s,x],#[t,tx]⟩:=by rfl) (hbd:(n+m)*bytes<=140737488355328) (h63:n+m<=maxLen)
 (k:∀x' c' bl' w',eW z T (olds++news) x' (n+m) c' bl'->St ms w0 (A++(bl'++R)) w'->WL P ops Q rest (a.put o.dst (.slice x' (n+m) c')) w')
 (hw:gu o (yielded ops a.tmps)=true:=by kernel_rfl) (Af:a.eval s=.slice xs n c:=by kernel_rfl) (Ag:a.eval x=xv:=by kernel_rfl)
 (ht:P.underlying t=some (.slice T):=by kernel_rfl) (bZ:(P.info? T).map (λi=>(i.zero.map (·.cells.size),i.size,i.bytes))=some (some z,z,bytes):=by kernel_rfl):WL P ops Q (o::rest) a w:=
 WL.want hw λK hK=>by
  obtain⟨v,w',bG,hc,x',c',bl',rfl,fD,aM⟩:=Cs (P:=P) (ty:=o.type) hr (λy hy=>S.at' (by simp[hy])) bytes hs ht bZ hbd h63;have S2:=S.tN hr.wr hc (λy hy=>(aM y hy).1) (λy hy=>(aM y hy).2) fD.pw;unfold n7;rw[jL ho Af Ag bG];exact hK _ _ (k x' c' bl' w' fD S2)
end
end
def s0 (v:ab):Sp:=⟨0,λ_=>v,λ_=>[]⟩
def vy (l:List ao) (o:ao) (t:Nat):Option Nat:=o.after.toList.findSome? λe=>bif qy .any e&&(match(l[e.on]?).bind (·.dst)with|some d=>aq d t|none=>false)then some e.on else none
def valOf (l:List ao) (sp:Nat->Sp) (a0:Act) (o:ao) (t:Nat):ab:=match vy l o t with|some j=>(sp j).f []|none=>cG a0 t
def gW (l:List ao) (sp:Nat->Sp) (a0:Act) (o:ao):List (Nat×ab):=o.op.operands.toList.filterMap λx=>match x with|.tmp t=>some (t,valOf l sp a0 o t)|_=>none
def Ah (l:List ao) (sp:Nat->Sp) (i:Nat) (o:ao):Bool:=o.guard.isNone&&aq (sp i).k 0&&(sp i).bl [] matches[]&&xM (gW l sp ⟨#[],[]⟩ o) o&&
 o.op.operands.toList.all λx=>match x with|.tmp t=>(match vy l o t with|some j=>aq (sp j).k 0|none=>vo l i t)|_=>true
theorem N5 {y:Nat->ab}:∀{env:List (Nat×ab)},(∀p∈env,y p.1=p.2)->xL y env
 |[],_=>trivial
 |p::env,h=>⟨h p (by simp),N5 λq hq=>h q (by simp[hq])⟩
theorem I2 {l:List ao} {o:ao} {t j:Nat} (h:vy l o t=some j):kp o j=true/\(l[j]?).bind (·.dst)=some t:=by
 obtain⟨e,he,h⟩:=List.exists_of_findSome?_eq_some h;cases hd:(l[e.on]?).bind (·.dst)with
 |none=>simp[hd]at h
 |some d=>
  simp only[hd]at h;cases hb:qy .any e with
  |false=>simp[hb]at h
  |true=>
   cases hc:aq d t with
   |false=>simp[hb,hc]at h
   |true=>
    simp only[hb,hc,Bool.and_self,cond_true,aV]at h;subst h;exact⟨EK.2 ⟨e,Array.mem_toList_iff.1 he,rfl,hb⟩,by rw[hd,ck hc]⟩
theorem WA {l:List ao} {sp sp':Nat->Sp} {a0 a1:Act} {o:ao}:xM (gW l sp a0 o) o=true->xM (gW l sp' a1 o) o=true:=by
 intro h;unfold xM at*;simp only[bg]at*;refine⟨?_,h.2⟩;rw[IH]at*;intro x hx;cases x with
 |tmp t=>
  simp only;have hm:∀(env:List ba) (g:Nat->ab),Operand.tmp t∈env->((env.filterMap λx=>match x with|.tmp t=>some (t,g t)|_=>none).lookup t).isSome=true:=by
   intro env g;induction env with
   |nil=>intro h;simp at h
   |cons y env ih=>
    intro hm;rcases ca.1 hm with h|h
    ·subst h;simp
    ·cases y with
     |tmp s=>
      simp only[List.filterMap_cons,List.lookup_cons];split
      ·rfl
      ·exact ih h
     |_=>simp only[List.filterMap_cons];exact ih h
  exact hm _ _ (Array.mem_toList_iff.2 hx)
 |_=>rfl
section
variable{P:aF} {lf l:List ao} {sp:Nat->Sp} {a0:Act} {w:ae} {i:Nat} {o:ao}
theorem N6 (hs:Ah l sp i o=true) (h:∀w',Ch [] w w'->Yields P o (jJ (gW l sp a0 o)) w' λv fC=>Ch [] w' fC/\v=(sp i).f []):vt P lf l sp (cG a0) w i o:=by
 simp only[Ah,bg]at hs;obtain⟨⟨⟨⟨hg,hk⟩,hb⟩,mw⟩,dF⟩:=hs;have EN:o.guard=none:=by cases hx:o.guard<;>simp_all
 have EO:(sp i).k=0:=ck hk;have vz:(sp i).bl []=[]:=by
  revert hb;cases(sp i).bl []<;>simp
 intro y w' hc sw fV;refine⟨λ_=>?_,λhw=>by simp[m_,EN]at hw⟩;refine lR (gW l sp a0 o) (N5 λp hp=>?_) ?_ (WA mw)
 ·simp only[gW,List.mem_filterMap]at hp;obtain⟨x,hx,hp⟩:=hp;cases x with
  |tmp t=>
   simp only[aV]at hp;subst hp;have h1:=fR.1 dF _ hx;simp only at h1;unfold valOf;cases fH:vy l o t with
   |some j=>
    rw[fH]at h1;obtain⟨he,hd⟩:=I2 fH;obtain⟨ids,h2,h3,_⟩:=fV j t he hd;have h4:(sp j).k=0:=ck h1;obtain rfl:ids=[]:=mZ (by rw[h2,h4]);exact h3
   |none=>
    rw[fH]at h1;exact sw t h1
  |_=>simp at hp
 ·have:=h w' hc;unfold Yields at this⊢;split at this
  ·exact⟨this.1,[],by simp[EO],this.2,by rw[vz];simp⟩
  ·exact⟨this.1,[],by simp[EO],this.2,by rw[vz];simp⟩
  ·exact this.mono λv fC h=>⟨h.1,[],by simp[EO],h.2,by rw[vz];simp⟩
  ·exact this.elim
theorem gX (hs:Ah l sp i o=true:=by kernel_rfl) (h:(λw=>(execOp (jJ (gW l sp a0 o)) o).run P w)=(λw=>.ok (.value ((sp i).f [])) w):=by kernel_rfl):vt P lf l sp (cG a0) w i o:=
 N6 hs λw' _=>by
  have h2:(execOp (jJ (gW l sp a0 o)) o).run P w'=.ok (.value ((sp i).f [])) w':=congrFun h w';unfold Yields;rw[h2];exact⟨Ch.refl _ _,rfl⟩
theorem qE_ (v0:ab) (he:v0=(sp i).f []) (hs:Ah l sp i o=true:=by kernel_rfl) (h:(λw=>(execOp (jJ (gW l sp a0 o)) o).run P w)=(λw=>.ok (.value v0) w):=by kernel_rfl):vt P lf l sp (cG a0) w i o:=by
 subst he;exact gX hs h
theorem qS_ (kd:eS) (e:Int) (he:kd.wrap e=e) (hv:(sp i).f []=.int kd e:=by kernel_rfl) (hs:Ah l sp i o=true:=by kernel_rfl) (h:(λw=>(execOp (jJ (gW l sp a0 o)) o).run P w)=(λw=>.ok (.value (.int kd (kd.wrap e))) w):=by kernel_rfl):vt P lf l sp (cG a0) w i o:=
 qE_ (.int kd (kd.wrap e)) (by rw[he,hv]) hs h
variable{ms:List Nat} {w0:ae} {bs:List ai}
theorem I3 (S:St ms w0 bs w) (j b off:Nat) {x:ba} {ty:aG} (ho:o.op=.load ty x:=by rfl) (hs:Ah l sp i o=true:=by kernel_rfl) (hx:jJ (gW l sp a0 o) x=.pointer (some ⟨b,off,none⟩):=by kernel_rfl)
 (ha:(P.underlying ty).map je=some false:=by kernel_rfl) (hb:lk bs j off=some (b,(sp i).f []):=by kernel_rfl):vt P lf l sp (cG a0) w i o:=
 N6 hs λw' hc=>Y.oX (S.quiet hc) j _ b off ⟨Ch.refl _ _,rfl⟩ ho hx ha hb
theorem EP (S:St ms w0 bs w) (j b off n:Nat) (vs:Array ab) {x:ba} {ty:aG} (ho:o.op=.load ty x:=by rfl) (hv:(sp i).f []=.agg vs:=by kernel_rfl) (hs:Ah l sp i o=true:=by kernel_rfl) (hx:jJ (gW l sp a0 o) x=.pointer (some ⟨b,off,none⟩):=by kernel_rfl)
 (ha:(P.underlying ty).map je=some true:=by kernel_rfl) (hn:(P.info? ty).map (·.size)=some n:=by kernel_rfl) (hb:xE bs j off n=some (b,vs):=by kernel_rfl):vt P lf l sp (cG a0) w i o:=
 N6 hs λw' hc=>Y.jY (S.quiet hc) j n vs b off ⟨Ch.refl _ _,hv.symm⟩ ho hx ha hn hb
end
theorem WB {vs:Nat->ab}:∀{dG:List ab} {k:Nat},(∀i v,dG[i]?=some v->vs (k+i)=v)->Ab vs k dG
 |[],_,_=>trivial
 |v::dG,k,h=>⟨by have:=h 0 v rfl;simpa using this,WB λi u hu=>by
  have:=h (i+1) u (by simpa using hu)
  rwa [show k+(i+1)=k+1+i by omega]at this⟩
theorem aeo {P:aF} {a0:Act} {w0:ae} {Q:dR->Act->ae->Prop} {id:Nat} {L:List ao} (m:Nat) (dG:List ab) (paths:List (List Nat))
 (hs:qJ P L (L.take m) (qN (dG.map s0)) (cG a0) w0 0 (L.take m))
 (hq:∀w',Ch [] w0 w'->WL P L.toArray Q (L.drop m) (sf dG (L.take m) a0) w')
 (N7:dG.length=m:=by kernel_rfl)
 (hm:P.follows .mixedOrders=true:=by kernel_rfl) (hl:bu m L.length=true:=by kernel_rfl) (ht:qK L m paths=true:=by kernel_rfl) (j1:EI a0.tmps.size (L.take m)=true:=by kernel_rfl) (fU:oc 0 L=true:=by kernel_rfl):(Code.region id L.toArray true).wp P Q a0 w0:=by
 refine Ad m (dG.map s0) paths hs (λvs w' hc dF=>⟨dG,N7,WB λi v hv=>?_,hq w' hc⟩) hm hl ht j1 fU;have hi:i<m:=by
  rcases cN i dG.length with h|h
  ·omega
  ·simp[h]at hv
 obtain⟨ids,h1,h2,_⟩:=dF i (by unfold cu;exact tB hi);have h3:qN (dG.map s0) i=s0 v:=by
  unfold qN;rw[oS,iZ,hv];rfl
 rw[h3]at h1 h2;obtain rfl:ids=[]:=mZ (by simpa[s0]using h1);rw[eD,h2];rfl
end Sx
namespace Sx
open Go Go.RowKit Go.BigFrame
section
variable{P:aF} {ops:Array ao} {rest:List ao} {o:ao} {a:Act} {w:ae} {Q:dR->Act->ae->Prop}
end
section
variable{P:aF} {lf l:List ao} {sp:Nat->Sp} {y0:Nat->ab} {w:ae} {i:Nat} {o:ao}
end
end Sx
namespace Sx
open Go Go.RowKit Go.BigFrame
def HQ (k0:Nat) (pv:ab->ae->Prop) (sp:Nat->Sp) (B:Nat) (i:Nat) (v:ab) (w:ae):Prop:=match aq i k0 with|true=>pv v w|false=>(sp i).holds B v w
def xO (k0:Nat) (l:List ao) (sp:Nat->Sp) (i:Nat) (o:ao):Bool:=o.guard.isNone&&xM (gW l sp ⟨#[],[]⟩ o) o&&
 o.op.operands.toList.all λx=>match x with|.tmp t=>(match vy l o t with|some j=>!(aq j k0)&&aq (sp j).k 0|none=>vo l i t)|_=>true
section
variable{P:aF} {lf l:List ao} {sp:Nat->Sp} {a0:Act} {w:ae} {i k0:Nat} {pre:List (List Nat)} {o:ao} {es:List Nat} {pv:ab->ae->Prop}
theorem N9 {H:Nat->ab->ae->Prop} (hs:xO k0 l sp i o=true) {B:Nat} {y:Nat->ab} {w':ae} (sw:∀t,vo l i t=true->y t=cG a0 t) (fV:∀j d,kp o j=true->(l[j]?).bind (·.dst)=some d->HQ k0 pv sp B j (y d) w'):
 xL y (gW l sp a0 o)/\xM (gW l sp a0 o) o=true/\o.guard=none:=by
 simp only[xO,bg]at hs;obtain⟨⟨hg,mw⟩,dF⟩:=hs;refine⟨N5 λp hp=>?_,WA mw,by cases hx:o.guard<;>simp_all⟩;simp only[gW,List.mem_filterMap]at hp;obtain⟨x,hx,hp⟩:=hp;cases x with
 |tmp t=>
  simp only[aV]at hp;subst hp;have h1:=fR.1 dF _ hx;simp only at h1;unfold valOf;cases fH:vy l o t with
  |some j=>
   rw[fH]at h1;obtain⟨he,hd⟩:=I2 fH;simp only[bg,lN]at h1;have h2:=fV j t he hd;unfold HQ at h2;rw[h1.1]at h2;obtain⟨ids,h3,h4,_⟩:=h2;have h5:(sp j).k=0:=ck h1.2;obtain rfl:ids=[]:=mZ (by rw[h3,h5]);exact h4
  |none=>
   rw[fH]at h1;exact sw t h1
 |_=>simp at hp
theorem I4 (cw:aq i k0=false) (hk:(sp i).k=0) (hb:(sp i).bl []=[]) (hs:xO k0 l sp i o=true) (h:∀w',Ch es w w'->Yields P o (jJ (gW l sp a0 o)) w' λv fC=>Ch [] w' fC/\v=(sp i).f []):
 qR P k0 pre es (HQ k0 pv sp w.heap.size) lf l (cG a0) w i o:=by
 intro y w' _ hc sw fV;obtain⟨ER,mw,hg⟩:=N9 (H:=λ_ _ _=>True) hs sw fV;have fW:i≠k0:=λe=>by rw[e]at cw;simp at cw
 have hH:∀v fC,v=(sp i).f []->HQ k0 pv sp w.heap.size i v fC:=λv fC e=>by
  unfold HQ;rw[cw];exact⟨[],by simp[hk],e,by rw[hb];simp⟩
 refine⟨λ_=>?_,λhw=>by simp[m_,hg]at hw⟩;refine lR _ ER ?_ mw;have:=h w' hc;unfold Yields at this⊢;split at this
 ·exact⟨λe'=>absurd e' fW,λ_=>this.1,hH _ _ this.2⟩
 ·exact⟨λe'=>absurd e' fW,λ_=>this.1,hH _ _ this.2⟩
 ·exact this.mono λv fC h=>⟨λe'=>absurd e' fW,λ_=>h.1,hH _ _ h.2⟩
 ·exact this.elim
def Cv (k0:Nat) (l:List ao) (sp:Nat->Sp) (i:Nat) (o:ao):Bool:=!(aq i k0)&&aq (sp i).k 0&&(sp i).bl [] matches[]&&xO k0 l sp i o
theorem I5 (h:Cv k0 l sp i o=true):aq i k0=false/\(sp i).k=0/\(sp i).bl []=[]/\xO k0 l sp i o=true:=by
 simp only[Cv,bg,lN]at h;refine⟨h.1.1.1,ck h.1.1.2,?_,h.2⟩;have:=h.1.2;revert this;cases(sp i).bl []<;>simp
theorem Cw (hs:Cv k0 l sp i o=true:=by kernel_rfl) (h:(λw=>(execOp (jJ (gW l sp a0 o)) o).run P w)=(λw=>.ok (.value ((sp i).f [])) w):=by kernel_rfl):qR P k0 pre es (HQ k0 pv sp w.heap.size) lf l (cG a0) w i o:=by
 obtain⟨h1,h2,h3,h4⟩:=I5 hs;refine I4 h1 h2 h3 h4 λw' _=>?_;have h2:(execOp (jJ (gW l sp a0 o)) o).run P w'=.ok (.value ((sp i).f [])) w':=congrFun h w';unfold Yields;rw[h2];exact⟨Ch.refl _ _,rfl⟩
theorem eC_ (f:fc) (args:Array ab) (hg:∀w',aS P f args w' λv fC=>v=(sp i).f []/\Ch [] w' fC) (hs:Cv k0 l sp i o=true:=by kernel_rfl) (h:(λw=>(execOp (jJ (gW l sp a0 o)) o).run P w)=(λw=>.ok (.enter f args) w):=by kernel_rfl):qR P k0 pre es (HQ k0 pv sp w.heap.size) lf l (cG a0) w i o:=by
 obtain⟨h1,h2,h3,h4⟩:=I5 hs;refine I4 h1 h2 h3 h4 λw' _=>?_;have h2:(execOp (jJ (gW l sp a0 o)) o).run P w'=.ok (.enter f args) w':=congrFun h w';unfold Yields;rw[h2];exact(hg w').mono λv fC h=>⟨h.2,h.1⟩
variable{ms:List Nat} {w0:ae} {bs:List ai}
theorem WC (S:∀w',Ch es w w'->St ms w0 bs w') (j b off:Nat) {x:ba} {ty:aG} (ho:o.op=.load ty x:=by rfl) (hs:Cv k0 l sp i o=true:=by kernel_rfl) (hx:jJ (gW l sp a0 o) x=.pointer (some ⟨b,off,none⟩):=by kernel_rfl)
 (ha:(P.underlying ty).map je=some false:=by kernel_rfl) (hb:lk bs j off=some (b,(sp i).f []):=by kernel_rfl):qR P k0 pre es (HQ k0 pv sp w.heap.size) lf l (cG a0) w i o:=by
 obtain⟨h1,h2,h3,h4⟩:=I5 hs;exact I4 h1 h2 h3 h4 λw' hc=>Y.oX (S w' hc) j _ b off ⟨Ch.refl _ _,rfl⟩ ho hx ha hb
theorem ES (S:∀w',Ch es w w'->St ms w0 bs w') (j b off n:Nat) (vs:Array ab) {x:ba} {ty:aG} (ho:o.op=.load ty x:=by rfl) (hv:(sp i).f []=.agg vs:=by kernel_rfl) (hs:Cv k0 l sp i o=true:=by kernel_rfl) (hx:jJ (gW l sp a0 o) x=.pointer (some ⟨b,off,none⟩):=by kernel_rfl)
 (ha:(P.underlying ty).map je=some true:=by kernel_rfl) (hn:(P.info? ty).map (·.size)=some n:=by kernel_rfl) (hb:xE bs j off n=some (b,vs):=by kernel_rfl):qR P k0 pre es (HQ k0 pv sp w.heap.size) lf l (cG a0) w i o:=by
 obtain⟨h1,h2,h3,h4⟩:=I5 hs;exact I4 h1 h2 h3 h4 λw' hc=>Y.jY (S w' hc) j n vs b off ⟨Ch.refl _ _,hv.symm⟩ ho hx ha hn hb
theorem aep (he:aq i k0=true) (hs:xO k0 l sp i o=true) (h:∀w',Ch [] w w'->Yields P o (jJ (gW l sp a0 o)) w' λv fC=>Ch es w' fC/\pv v fC):
 qR P k0 pre es (HQ k0 pv sp w.heap.size) lf l (cG a0) w i o:=by
 intro y w' Cx _ sw fV;obtain⟨ER,mw,hg⟩:=N9 (H:=λ_ _ _=>True) hs sw fV;have fW:i=k0:=ck he;refine⟨λ_=>?_,λhw=>by simp[m_,hg]at hw⟩;refine lR _ ER ?_ mw;have:=h w' (Cx (.inl fW));have hH:∀v fC,pv v fC->HQ k0 pv sp w.heap.size i v fC:=λv fC e=>by unfold HQ;rw[he];exact e
 unfold Yields at this⊢;split at this
 ·exact⟨λ_=>this.1,λe=>absurd fW e,hH _ _ this.2⟩
 ·exact⟨λ_=>this.1,λe=>absurd fW e,hH _ _ this.2⟩
 ·exact this.mono λv fC e=>⟨λ_=>e.1,λe'=>absurd fW e',hH _ _ e.2⟩
 ·exact this.elim
def WD (b:Nat) (bs:List ai) (j off:Nat) (vs:List ab) (_:ab) (w:ae):Prop:=∃x,(vh bs j off vs)[j]?=some x/\w.heap[b]?=some x.obj
theorem WE (S:St ms w0 bs w) (j:Nat) (v:ab) (b off:Nat) {x y:ba} {ty:aG} (ho:o.op=.store ty x y:=by rfl) (hs:xO k0 l sp i o=true:=by kernel_rfl) (he:aq i k0=true:=by kernel_rfl) (hx:jJ (gW l sp a0 o) x=.pointer (some ⟨b,off,none⟩):=by kernel_rfl) (hy:jJ (gW l sp a0 o) y=v:=by kernel_rfl)
 (hn:(P.info? ty).map (·.size)=some v.cells.toList.length:=by kernel_rfl) (h1:v.cells.toList.all (·.oneCell')=true:=by kernel_rfl) (hb:xF bs j off v.cells.toList.length=some b:=by kernel_rfl):qR P k0 pre [b] (HQ k0 (WD b bs j off v.cells.toList) sp w.heap.size) lf l (cG a0) w i o:=by
 refine aep he hs λw' hc=>?_;obtain⟨cs,t,tO,hl⟩:=IW hb;have aM:=(S.quiet hc).at_ j _ tO;unfold Yields execOp;simp only[ho,hx,hy,IC,i_,bx,dg,cz,IU (P:=P) aM rfl hn hl h1];refine⟨Ch.setRow w' b _,⟨b,true,.cells (splice cs off v.cells.toList) t (0,0)⟩,?_,setRow_heap w' b cs _ t (0,0) aM⟩;have hj:j<bs.length:=by
  rcases cN j bs.length with h|h
  ·exact h
  ·simp[h]at tO
 simp only[vh,tO];rw[NA hj]
theorem St.WG (S:St ms w0 bs w) (j off n:Nat) {b:Nat} (hb:xF bs j off n=some b):∀w',Ch [b] w w'->St ms w0 (bs.eraseIdx j) w':=by
 intro w' hc;obtain⟨cs,t,tO,_⟩:=IW hb;have S1:St ms w0 ([]++([⟨b,true,.cells cs t (0,0)⟩]++bs.eraseIdx j)) w:=S.perm (Wz tO);exact S1.less (by simp) (by simpa using hc)
end
theorem N_ {P:aF} {k0:Nat} {pre:List (List Nat)} {es:List Nat} {H:Nat->ab->ae->Prop} {lf l:List ao} {y0:Nat->ab} {w:ae} {i:Nat}:pg P k0 pre es H lf l y0 w i []:=trivial
theorem ly {P:aF} {k0:Nat} {pre:List (List Nat)} {es:List Nat} {H:Nat->ab->ae->Prop} {lf l:List ao} {y0:Nat->ab} {w:ae} {i:Nat} {o:ao} {rest:List ao} (h:qR P k0 pre es H lf l y0 w i o) (k:pg P k0 pre es H lf l y0 w (i+1) rest):pg P k0 pre es H lf l y0 w i (o::rest):=⟨h,k⟩
theorem Oa {vs:Nat->ab}:∀{l:List ao} {dG:List ab} {k:Nat} {a:Act},dG.length=l.length->(∀i o v,l[i]?=some o->dG[i]?=some v->o.dst=none\/vs (k+i)=v)->fT vs k l a=sf dG l a
 |[],[],_,_,_,_=>rfl
 |o::rest,v::dG,k,a,h,hv=>by
  simp only[fT,sf];have h0:=hv 0 o v rfl rfl;have e:a.put o.dst (vs k)=a.put o.dst v:=by
   rcases h0 with h0|h0
   ·rw[h0];rfl
   ·rw[oR]at h0;rw[h0]
  rw[e];exact Oa (by simpa using h) λi o' v' h1 h2=>by
   have:=hv (i+1) o' v' (by simpa using h1) (by simpa using h2)
   rwa [show k+(i+1)=k+1+i by omega]at this
 |[],_::_,_,_,h,_=>by simp at h
 |_::_,[],_,_,h,_=>by simp at h
section
variable{P:aF} {a0:Act} {w w0:ae} {Q:dR->Act->ae->Prop} {id:Nat} {L:List ao} {ms:List Nat} {bs:List ai}
theorem WH (m k0:Nat) (pre:List (List Nat)) (es:List Nat) (pv:ab->ae->Prop) (dG:List ab) (paths:List (List Nat)) (sp:Nat->Sp)
 (fV:EM (L.take m) k0 pre=true) (hpv:∀v w w',Ch [] w w'->pv v w->pv v w') (gw:∀x∈es,x<w.heap.size)
 (hs:pg P k0 pre es (HQ k0 pv sp w.heap.size) L (L.take m) (cG a0) w 0 (L.take m))
 (hq:∀(vs:Nat->ab) w',Ch es w w'->(∀i,i<m->HQ k0 pv sp w.heap.size i (vs i) w')->WL P L.toArray Q (L.drop m) (fT vs 0 (L.take m) a0) w')
 (hm:P.follows .mixedOrders=true) (hl:bu m L.length=true) (ht:qK L m paths=true) (j1:Ct a0.tmps.size (L.take m)=true) (fU:oc 0 L=true):(Code.region id L.toArray true).wp P Q a0 w:=by
 have qP:(L.take m).length=m:=by have:=du hl;simp;omega
 have h:=ael (id:=id) (Q:=Q) (P:=P) (k0:=k0) (es:=es) (H:=HQ k0 pv sp w.heap.size) (a0:=a0) (w0:=w) (L.take m) (L.drop m) ?_ fV ?_ paths hm (by rw[jv,qP];exact ht) j1 (by rw[jv];exact fU) (by rw[jv];exact hs) ?_
 ·rwa [jv]at h
 ·intro i v w1 w2 hc hH;unfold HQ at*;split at hH
  ·exact hpv _ _ _ hc hH
  ·exact hH.EG hc
 ·intro i v w1 w2 fW hle hc hH;unfold HQ at*;split at hH
  ·rename_i h;exact absurd (ck h) fW
  ·obtain⟨ids,h1,h2,h3⟩:=hH;refine⟨ids,h1,h2,λp hp=>⟨(h3 p hp).1,(hc.block _ (oW (h3 p hp).2) (λhx=>?_)).trans (h3 p hp).2⟩⟩;have:=gw _ hx;have:=(h3 p hp).1;omega
 ·intro vs w' hc dF;rw[jv];exact(hq vs w' hc λi hi=>dF i _ (jb (by omega))).out
theorem WI (S:St ms w0 bs w) (m k0 j b off:Nat) (pre:List (List Nat)) (v:ab) (dG:List ab) (paths:List (List Nat))
 (hs:pg P k0 pre [b] (HQ k0 (WD b bs j off v.cells.toList) (qN (dG.map s0)) w.heap.size) L (L.take m) (cG a0) w 0 (L.take m))
 (hq:∀w',St ms w0 (vh bs j off v.cells.toList) w'->WL P L.toArray Q (L.drop m) (sf dG (L.take m) a0) w')
 (hb:xF bs j off v.cells.toList.length=some b:=by kernel_rfl) (hk:((L.take m)[k0]?).map (·.dst)=some none:=by kernel_rfl) (N7:dG.length=m:=by kernel_rfl) (fV:EM (L.take m) k0 pre=true:=by kernel_rfl)
 (hm:P.follows .mixedOrders=true:=by kernel_rfl) (hl:bu m L.length=true:=by kernel_rfl) (ht:qK L m paths=true:=by kernel_rfl) (j1:Ct a0.tmps.size (L.take m)=true:=by kernel_rfl) (fU:oc 0 L=true:=by kernel_rfl):(Code.region id L.toArray true).wp P Q a0 w:=by
 obtain⟨cs,t,tO,hle⟩:=IW hb;have qP:(L.take m).length=m:=by have:=du hl;simp;omega
 have hj:j<bs.length:=by
  rcases cN j bs.length with h|h
  ·exact h
  ·simp[h]at tO
 have fG:vh bs j off v.cells.toList=bs.set j ⟨b,true,.cells (splice cs off v.cells.toList) t (0,0)⟩:=by simp only[vh,tO]
 refine WH m k0 pre [b] _ dG paths _ fV ?_ ?_ hs ?_ hm hl ht j1 fU
 ·rintro v' w1 w2 hc ⟨x,h1,h2⟩;exact⟨x,h1,(hc.block _ (oW h2) (by simp)).trans h2⟩
 ·intro x hx;obtain rfl:=ig.1 hx;exact S.lt tO
 ·intro vs w' hc dF;obtain⟨ok,hok,hdk⟩:=gU.1 hk;have qS:k0<m:=by
   rcases cN k0 m with h|h
   ·exact h
   ·rw[iK (by omega)]at hok;simp at hok
  have hp:fT vs 0 (L.take m) a0=sf dG (L.take m) a0:=Oa (by omega) λi o u ho hu=>by
   have hi:i<m:=by
    rcases cN i dG.length with h|h
    ·omega
    ·simp[h]at hu
   by_cases fW:i=k0
   ·subst fW;rw[hok]at ho;exact .inl (by rw[<-cA ho];exact hdk)
   ·have hH:=dF i hi;unfold HQ at hH;have cw:aq i k0=false:=by
     cases hx:aq i k0
     ·rfl
     ·exact absurd (ck hx) fW
    rw[cw]at hH;obtain⟨ids,h1,h2,_⟩:=hH;have h3:qN (dG.map s0) i=s0 u:=by
     unfold qN;rw[oS,iZ,hu];rfl
    rw[h3]at h1 h2;obtain rfl:ids=[]:=mZ (by simpa[s0]using h1);refine .inr ?_;rw[eD,h2];rfl
  rw[hp];refine hq w' ?_;have hH:=dF k0 qS;unfold HQ at hH;rw[show aq k0 k0=true from rV k0]at hH;obtain⟨x,hx,hxo⟩:=hH;rw[fG,NA hj]at hx;obtain rfl:=cA hx;rw[fG];exact S.step tO rfl (by simpa using hc) hxo
end
end Sx
namespace Sx
open Go Go.RowKit Go.BigFrame
section
variable{P:aF} {ops:Array ao} {rest:List ao} {o:ao} {a:Act} {w w0:ae} {ms:List Nat} {bs:List ai} {Q:dR->Act->ae->Prop}
end
end Sx
namespace Sx
open Go Go.RowKit Go.BigFrame
section
variable{P:aF} {a:Act} {w:ae} {Q:dR->Act->ae->Prop}
end
section
variable{P:aF} {ops:Array ao} {rest:List ao} {o:ao} {a:Act} {w:ae} {Q:dR->Act->ae->Prop}
end
end Sx
namespace Sx
open Go Go.RowKit Go.BigFrame
section
variable{P:aF} {ops:Array ao} {rest:List ao} {o:ao} {a:Act} {w:ae} {Q:dR->Act->ae->Prop} {z T m n c:Nat} {news:List ab} {s x:ba} {t tx:aG} {xv:ab}
end
end Sx
namespace Sx.Y
open Go Go.RowKit Go.BigFrame
variable{P:aF} {w:ae} {o:ao} {R:ab->ae->Prop} {ρ:ba->ab}
end Sx.Y
namespace Sx
open Go Go.RowKit Go.BigFrame
section
variable{P:aF} {ops:Array ao} {rest:List ao} {o:ao} {a:Act} {w w0:ae} {ms:List Nat} {bs:List ai} {Q:dR->Act->ae->Prop}
end
end Sx
namespace Sx
open Go Go.RowKit Go.BigFrame
theorem si.le {z T olds n bl B B' v} {w:ae} (h:si z T olds n bl B v w) (hb:B'<=B):si z T olds n bl B' v w:=by
 obtain⟨x,c,bl',h1,h2,h3⟩:=h;exact⟨x,c,bl',h1,h2,λy hy=>⟨(h3 y hy).1,(h3 y hy).2.imp id (λh=>iY hb h)⟩⟩
def sB (m:Nat) (news:List ab) (T:aG):Sp:=⟨1,λids=>.slice (some ⟨ids.getD 0 0,0,none⟩) m m,λids=>[(ids.getD 0 0,.cells news.toArray T (0,0))]⟩
section
variable{P:aF} {lf l:List ao} {sp:Nat->Sp} {a0:Act} {w:ae} {i k0:Nat} {pre:List (List Nat)} {o:ao} {es:List Nat} {pv:ab->ae->Prop}
theorem eB_ (m:Nat) (news:List ab) (T:aG) (qO:sp i=sB m news T:=by rfl) (cw:aq i k0=false:=by kernel_rfl) (hs:xO k0 l sp i o=true:=by kernel_rfl)
 (h:(λw=>(execOp (jJ (gW l sp a0 o)) o).run P w)=(λw=>.ok (.value (.slice (some ⟨w.heap.size,0,none⟩) m m)) (w.alloc (.cells news.toArray T (0,0)))):=by kernel_rfl):
 qR P k0 pre es (HQ k0 pv sp w.heap.size) lf l (cG a0) w i o:=by
 intro y w' _ hc sw fV;obtain⟨ER,mw,hg⟩:=N9 (H:=λ_ _ _=>True) hs sw fV;have fW:i≠k0:=λe=>by rw[e]at cw;simp at cw
 refine⟨λ_=>?_,λhw=>by simp[m_,hg]at hw⟩;refine lR _ ER ?_ mw;have h2:(execOp (jJ (gW l sp a0 o)) o).run P w'=_:=congrFun h w';unfold Yields;rw[h2];refine⟨λe=>absurd e fW,λ_=>Ch.alloc _ _ _,?_⟩;unfold HQ;rw[cw,qO];refine⟨[w'.heap.size],rfl,rfl,λp hp=>?_⟩;obtain rfl:=ig.1 hp;exact⟨hc.size,mX w' _⟩
variable{ms:List Nat} {w0:ae}
theorem eA_ {A bl R:List ai} {xs:Option aO} {z n c:Nat} {T T':aG} {olds:List ab} (S:St ms w0 (A++(bl++R)) w) (hr:eW z T olds xs n c bl) (d1 d2 j2 m:Nat) (news:List ab) (bytes:Nat) {t tx e':aG}
 (hbd:(n+m)*bytes<=140737488355328) (h63:n+m<=maxLen) (ho:o.op=.call ⟨.builtin .append,#[.tmp d1,.tmp d2],#[t,tx]⟩:=by rfl) (pa:news.length=m*z:=by rfl) (h1:news.all (·.oneCell')=true:=by kernel_rfl)
 (hg:o.guard.isNone=true:=by kernel_rfl) (he:aq i k0=true:=by kernel_rfl)
 (gY:(match vy l o d1 with|some j=>!(aq j k0)&&aq (sp j).k 0|none=>vo l i d1)=true:=by kernel_rfl) (tP:valOf l sp a0 o d1=.slice xs n c:=by kernel_rfl)
 (xP:vy l o d2=some j2:=by kernel_rfl) (xK:aq j2 k0=false:=by kernel_rfl) (qO:sp j2=sB m news T':=by rfl)
 (ht:P.underlying t=some (.slice T):=by kernel_rfl) (gh:P.underlying tx=some (.slice e'):=by kernel_rfl) (bZ:(P.info? T).map (λi=>(i.zero.map (·.cells.size),i.size,i.bytes))=some (some z,z,bytes):=by kernel_rfl):
 qR P k0 pre (bl.map ai.id) (HQ k0 (si z T (olds++news) (n+m) bl w.heap.size) sp w.heap.size) lf l (cG a0) w i o:=by
 intro y w' Cx hc sw fV;have fW:i=k0:=ck he;have EN:o.guard=none:=by cases hx:o.guard<;>simp_all
 have hy1:y d1=.slice xs n c:=by
  unfold valOf at tP;cases fH:vy l o d1 with
  |some j=>
   rw[fH]at tP gY;obtain⟨ET,hd⟩:=I2 fH;simp only[bg,lN]at gY;have h2:=fV j d1 ET hd;unfold HQ at h2;rw[gY.1]at h2;obtain⟨ids,h3,h4,_⟩:=h2;have h5:(sp j).k=0:=ck gY.2;obtain rfl:ids=[]:=mZ (by rw[h3,h5]);rw[h4];exact tP
  |none=>
   rw[fH]at tP gY;rw[sw d1 gY];exact tP
 obtain⟨b,hy2,hb⟩:∃b,y d2=.slice (some ⟨b,0,none⟩) m m/\w'.heap[b]?=some (.cells news.toArray T' (0,0)):=by
  obtain⟨ET,hd⟩:=I2 xP;have h2:=fV j2 d2 ET hd;unfold HQ at h2;rw[xK,qO]at h2;obtain⟨ids,h3,h4,h5⟩:=h2
  match ids,h3 with
  |[b],_=>exact⟨b,h4,(h5 (b,.cells news.toArray T' (0,0)) (ig.2 rfl)).2⟩
 have fH:Src P z tx (.slice (some ⟨b,0,none⟩) m m) m news w':=by
  refine rU w' gh ⟨b,0,none⟩ m m news pa (λj u hj=>?_) (λu hu=>fR.1 h1 u hu);rw[iE,cell_of hb];simpa using hj
 have Sq:=S.quiet (Cx (.inl fW));obtain⟨v,fC,bG,hc2,hR⟩:=Cs (P:=P) (ty:=o.type) (w:=w') hr (λy hy=>Sq.at' (by simp[hy])) bytes fH ht bZ hbd h63;refine⟨λ_=>?_,λhw=>by simp[m_,EN]at hw⟩;unfold Yields;rw[jL (ρ:=vn y) ho (sv:=.slice xs n c) (xv:=.slice (some ⟨b,0,none⟩) m m) hy1 hy2 bG];refine⟨λ_=>hc2,λe=>absurd fW e,?_⟩;unfold HQ;rw[he];exact hR.le hc.size
end
section
variable{P:aF} {a0:Act} {w w0:ae} {Q:dR->Act->ae->Prop} {id:Nat} {L:List ao} {ms:List Nat}
theorem aeq {A bl R:List ai} {xs:Option aO} {z n c:Nat} {T T':aG} {olds:List ab} (S:St ms w0 (A++(bl++R)) w) (hr:eW z T olds xs n c bl) (m k0 i1 mm:Nat) (news:List ab) (pre:List (List Nat)) (dG:List ab) (paths:List (List Nat))
 (hs:pg P k0 pre (bl.map ai.id) (HQ k0 (si z T (olds++news) (n+mm) bl w.heap.size) (qN ((dG.map s0).set i1 (sB mm news T'))) w.heap.size) L (L.take m) (cG a0) w 0 (L.take m))
 (hq:∀x' c' bl' u w',eW z T (olds++news) x' (n+mm) c' bl'->St ms w0 (A++(bl'++R)) w'->WL P L.toArray Q (L.drop m) (sf ((dG.set k0 (.slice x' (n+mm) c')).set i1 u) (L.take m) a0) w')
 (hk:cu k0 m=true:=by kernel_rfl) (hi:cu i1 m=true:=by kernel_rfl) (fW:aq i1 k0=false:=by kernel_rfl) (N7:dG.length=m:=by kernel_rfl) (fV:EM (L.take m) k0 pre=true:=by kernel_rfl)
 (hm:P.follows .mixedOrders=true:=by kernel_rfl) (hl:bu m L.length=true:=by kernel_rfl) (ht:qK L m paths=true:=by kernel_rfl) (j1:Ct a0.tmps.size (L.take m)=true:=by kernel_rfl) (fU:oc 0 L=true:=by kernel_rfl):(Code.region id L.toArray true).wp P Q a0 w:=by
 have qP:(L.take m).length=m:=by have:=du hl;simp;omega
 have EO:k0<m:=by simpa[ie]using hk
 have iM:i1<m:=by simpa[ie]using hi
 have cw:i1≠k0:=λe=>by rw[e]at fW;simp at fW
 refine WH m k0 pre (bl.map ai.id) (si z T (olds++news) (n+mm) bl w.heap.size) dG paths _ fV (λv w1 w2 hc h=>si.EG h hc) ?_ hs ?_ hm hl ht j1 fU
 ·intro x hx;obtain⟨y,hy,rfl⟩:=mn.1 hx;exact S.ge (by simp[hy])
 ·intro vs w' hc dF;have hK:=dF k0 EO;unfold HQ at hK;rw[show aq k0 k0=true from rV k0]at hK;obtain⟨x',c',bl',hv,fD,aM⟩:=hK;have S2:=S.tN hr.wr hc (λy hy=>(aM y hy).1) (λy hy=>(aM y hy).2) fD.pw;have hp:fT vs 0 (L.take m) a0=sf ((dG.set k0 (.slice x' (n+mm) c')).set i1 (vs i1)) (L.take m) a0:=Oa (by rw[List.length_set,List.length_set];omega) λi o u ho hu=>by
   have I6:i<m:=by
    rcases cN i m with h|h
    ·exact h
    ·rw[iK (by simp;omega)]at hu;simp at hu
   refine .inr ?_;rw[eD];by_cases h1:i=i1
   ·subst h1;rw[NA (by simp;omega)]at hu;exact cA hu
   ·rw[IB (λe=>h1 e.symm)]at hu;by_cases h2:i=k0
    ·subst h2;rw[NA (by omega)]at hu;rw[hv];exact cA hu
    ·rw[IB (λe=>h2 e.symm)]at hu;have hH:=dF i I6;unfold HQ at hH;have hb:aq i k0=false:=by
      cases hx:aq i k0
      ·rfl
      ·exact absurd (ck hx) h2
     rw[hb]at hH;obtain⟨ids,g1,g2,_⟩:=hH;have h3:qN ((dG.map s0).set i1 (sB mm news T')) i=s0 u:=by
      unfold qN;rw[oS,IB (λe=>h1 e.symm),iZ,hu];rfl
     rw[h3]at g1 g2;obtain rfl:ids=[]:=mZ (by simpa[s0]using g1);rw[g2];rfl
  rw[hp];exact hq x' c' bl' (vs i1) w' fD S2
end
def Cy (val:ab) (Q:List ai->Prop) (bl:List ai) (B:Nat) (v:ab) (w:ae):Prop:=
 v=val/\∃bl',Q bl'/\(∀y∈bl',w.heap[y.id]?=some y.obj/\(y.wr=true->(∃u∈bl,y.id=u.id)\/B<=y.id))/\bl'.Pairwise Ae
theorem Cy.EG {val Q bl B v} {w w':ae} (h:Cy val Q bl B v w) (hc:Ch [] w w'):Cy val Q bl B v w':=by
 obtain⟨h1,bl',h2,h3,h4⟩:=h;exact⟨h1,bl',h2,λy hy=>⟨(hc.block _ (oW (h3 y hy).1) (by simp)).trans (h3 y hy).1,(h3 y hy).2⟩,h4⟩
section
variable{P:aF} {lf l:List ao} {sp:Nat->Sp} {a0:Act} {w:ae} {i k0:Nat} {pre:List (List Nat)} {o:ao} {es:List Nat} {pv:ab->ae->Prop}
variable{ms:List Nat} {w0:ae} {bs:List ai}
end
section
variable{P:aF} {a0:Act} {w w0:ae} {Q:dR->Act->ae->Prop} {id:Nat} {L:List ao} {ms:List Nat}
end
def cat (gZ:List (List ai)) (R:List ai):List ai:=gZ.foldr (·++·) R
theorem aer (gZ:List (List ai)) (R:List ai):cat gZ R=gZ.flatten++R:=by
 induction gZ with
 |nil=>rfl
 |cons a l ih=>simp[cat]at ih⊢;exact ih
def I7 (n:Nat) (is:List Nat):Bool:=is.all (λi=>cu i n)&&I8 is
where I8:List Nat->Bool
 |[]=>true
 |i::l=>!(l.any (aq i))&&I8 l
theorem WJ:∀{l:List Nat},I7.I8 l=true->l.Nodup
 |[],_=>List.nodup_nil
 |i::l,h=>by
  simp only[I7.I8,bg,lN]at h;refine qz.2 ⟨λhm=>?_,WJ h.2⟩;have:l.any (aq i)=true:=zK.2 ⟨i,hm,by simp⟩;rw[this]at h;exact absurd h.1 (by simp)
section
variable{ms:List Nat} {w0 w:ae}
theorem EU:∀(is l:List Nat),is.Nodup->(∀i∈is,i∈l)->∃r,l.Perm (is++r)
 |[],l,_,_=>⟨l,List.Perm.refl _⟩
 |i::is,l,hn,hm=>by
  have r_:=qz.1 hn;obtain⟨r,hr⟩:=EU is (l.erase i) r_.2 (λj hj=>(List.mem_erase_of_ne (λe=>r_.1 (by rw[<-e];exact hj))).2 (hm j (by simp[hj])));exact⟨r,(List.perm_cons_erase (hm i (by simp))).trans (by simpa using hr.cons i)⟩
theorem aes {α:Type} (gZ:List α) (d:α) (is:List Nat) (hn:is.Nodup) (dv:∀i∈is,i<gZ.length):∃rest,gZ.Perm (is.map (λi=>gZ.getD i d)++rest):=by
 have hr:(bd gZ.length).map (λi=>gZ.getD i d)=gZ:=by
  apply List.ext_getElem
  ·simp
  ·intro i h1 h2;simp[oS,h2]
 obtain⟨r,Ob⟩:=EU is (bd gZ.length) hn (λi hi=>List.mem_range.2 (dv i hi));refine⟨r.map λi=>gZ.getD i d,?_⟩;rw[<-qB];have:=Ob.map (λi=>gZ.getD i d)
 rwa [hr]at this
theorem St.re {bs bs' R:List ai} (S:St ms w0 bs w) (gZ:List (List ai)) (is:List Nat) (h1:bs=cat gZ R:=by kernel_rfl) (h2:I7 gZ.length is=true:=by kernel_rfl) (h3:cat (is.map λi=>gZ.getD i []) R=bs':=by kernel_rfl):St ms w0 bs' w:=by
 subst h1 h3;simp only[I7,bg]at h2;obtain⟨rest,hp⟩:=aes gZ [] is (WJ h2.2) (λi hi=>by have:=fR.1 h2.1 i hi;unfold cu at this;exact du this);rw[aer]at S⊢;have h4:St ms w0 ((is.map λi=>gZ.getD i []).flatten++(rest.flatten++R)) w:=S.perm (by
  rw[<-bR,<-List.flatten_append];exact Et R hp.flatten)
 exact h4.sub (zO (oT _ _) _)
end
def Cz:Obj->Option aG
 |.cells _ t _=>some t
 |_=>none
def sA (obj:Obj):Sp:=⟨1,λids=>.pointer (some ⟨ids.getD 0 0,0,none⟩),λids=>[(ids.getD 0 0,obj)]⟩
inductive VX where
 |v (x:ab)
 |a (obj:Obj)
def VX.sp:VX->Sp
 |.v x=>s0 x
 |.a o=>sA o
def VX.val (id:Nat):VX->ab
 |.v x=>x
 |.a _=>.pointer (some ⟨id,0,none⟩)
def EV (ids:Nat->Nat):Nat->List VX->List ai
 |_,[]=>[]
 |i,.v _::xs=>EV ids (i+1) xs
 |i,.a o::xs=>⟨ids i,true,o⟩::EV ids (i+1) xs
section
variable{ms:List Nat} {w0 w:ae} {bs:List ai}
end
section
variable{P:aF} {lf l:List ao} {sp:Nat->Sp} {a0:Act} {w:ae} {i k0:Nat} {pre:List (List Nat)} {o:ao} {es:List Nat} {pv:ab->ae->Prop}
variable{ms:List Nat} {w0:ae} {bs:List ai}
end
section
variable{P:aF} {a0:Act} {w w0:ae} {Q:dR->Act->ae->Prop} {id:Nat} {L:List ao} {ms:List Nat}
end
theorem aet (gZ:List (List ai)) (R:List ai):cat gZ R=cat gZ []++R:=by
 induction gZ with
 |nil=>rfl
 |cons a l ih=>show a++cat l R=(a++cat l [])++R;rw[ih,bR]
section
variable{ms:List Nat} {w0 w:ae}
theorem St.split {A B R bs:List ai} (S:St ms w0 bs w) (gZ:List (List ai)) (h1:bs=A++cat gZ R:=by kernel_rfl) (h2:cat gZ []=B:=by kernel_rfl):St ms w0 (A++(B++R)) w:=by
 subst h2;rw[<-aet,<-h1];exact S
end
section
variable{P:aF} {lf l:List ao} {sp:Nat->Sp} {a0:Act} {w:ae} {i k0:Nat} {pre:List (List Nat)} {o:ao} {es:List Nat} {pv:ab->ae->Prop}
variable{ms:List Nat} {w0:ae} {bs:List ai}
end
def au (kd:eS) (n:Nat) (f:Nat->Int):Array ab:=((bd n).map λi=>eg kd (f i)).toArray
def ni (f:Nat->Int) (i:Nat) (v:Int):Nat->Int:=λj=>bif aq j i then v else f j
theorem EW (kd:eS) (n:Nat) (f:Nat->Int):(au kd n f).size=n:=by simp[au]
theorem WK (kd:eS) {n:Nat} (f:Nat->Int) {i:Nat} (h:i<n):(au kd n f)[i]?=some (.int kd (f i)):=by simp[au,h]
theorem WM (f:Nat->Int) (i:Nat) (v:Int):ni f i v i=v:=by simp[ni]
theorem Oc (f:Nat->Int) {i j:Nat} (v:Int) (h:j≠i):ni f i v j=f j:=by
 have:aq j i=false:=by
  cases hb:aq j i
  ·rfl
  ·exact absurd (ck hb) h
 simp[ni,this]
theorem aeu (kd:eS) {n:Nat} (f:Nat->Int) {i:Nat} (h:i<n) (v:Int):splice (au kd n f) i [.int kd v]=au kd n (ni f i v):=by
 apply fe;show((au kd n f).toList.take i++[eg kd v]++(au kd n f).toList.drop (i+1))=_;simp only[au];apply List.ext_getElem
 ·simp;omega
 ·intro j h1 h2;simp only[fq,u9,Eu,IK,List.length_drop,kN,IL]at h1 h2;rcases Nat.lt_trichotomy j i with hj|hj|hj
  ·rw[IM (by simp;omega),IM (by simp;omega)];simp[Oc _ _ (Nat.ne_of_lt hj)]
  ·subst hj;rw[IM (by simp;omega),VY (by simp;omega)];simp[WM]
  ·rw[VY (by simp;omega)];simp only[fq,u9,Eu,IK,kN,IL,List.getElem_drop,List.getElem_map,List.getElem_range];rw[Oc _ _ (by omega)];congr 2;omega
theorem aev (kd:eS) {n:Nat} {f g:Nat->Int} (h:∀i,i<n->f i=g i):au kd n f=au kd n g:=by
 unfold au;congr 1;apply qD;intro i hi;rw[h i (List.mem_range.1 hi)]
section
variable{ms:List Nat} {w0 w:ae} {bs:List ai}
theorem ckF {kd:eS} {n:Nat} {f:Nat->Int} {i off b:Nat} {t:aG} (ho:off<n) (hb:bs[i]?=some ⟨b,true,.cells (au kd n f) t (0,0)⟩:=by kernel_rfl):xF bs i off 1=some b:=by
 have h2:bu (off+1) (au kd n f).size=true:=by rw[EW];exact tB ho
 unfold xF;rw[hb];simp only[h2]
theorem St.stF {kd:eS} {n:Nat} {f:Nat->Int} {i off b:Nat} {t:aG} {v:Int} (S:St ms w0 (vh bs i off [.int kd v]) w) (ho:off<n) {bs':List ai} (hb:bs[i]?=some ⟨b,true,.cells (au kd n f) t (0,0)⟩:=by kernel_rfl)
 (h2:bs.set i ⟨b,true,.cells (au kd n (ni f off v)) t (0,0)⟩=bs':=by kernel_rfl):St ms w0 bs' w:=by
 unfold vh at S;rw[hb]at S;simp only at S;rw[aeu kd f ho,h2]at S;exact S
end
section
variable{P:aF} {lf l:List ao} {sp:Nat->Sp} {a0:Act} {w:ae} {i k0:Nat} {pre:List (List Nat)} {o:ao} {es:List Nat} {pv:ab->ae->Prop}
variable{ms:List Nat} {w0:ae} {bs:List ai}
end
end Sx
namespace Sx
open Go Go.RowKit Go.BigFrame
def Wr (bl:List ai):Prop:=∀x∈bl,x.wr=true
theorem Wr.nil:Wr []:=λx h=>by cases h
theorem Wr.cons {b:ai} {l:List ai} (h:b.wr=true) (k:Wr l):Wr (b::l):=λx hx=>by
 rcases ca.1 hx with rfl|hx
 ·exact h
 ·exact k x hx
theorem Wr.app {a b:List ai} (h:Wr a) (k:Wr b):Wr (a++b):=λx hx=>by
 rcases eJ.1 hx with hx|hx
 ·exact h x hx
 ·exact k x hx
def Ty (L:List Nat) (bl:List ai):Prop:=∀x∈bl,∃t,Cz x.obj=some t/\t∈L
theorem Ty.nil:Ty [] []:=λx h=>by cases h
theorem Ty.cons {b:ai} {l:List ai} {t:Nat} {L:List Nat} (h:Cz b.obj=some t) (k:Ty L l):Ty (t::L) (b::l):=λx hx=>by
 rcases ca.1 hx with rfl|hx
 ·exact⟨t,h,by simp⟩
 ·obtain⟨u,h1,h2⟩:=k x hx;exact⟨u,h1,by simp[h2]⟩
theorem Ty.app {a b:List ai} {L M:List Nat} (h:Ty L a) (k:Ty M b):Ty (L++M) (a++b):=λx hx=>by
 rcases eJ.1 hx with hx|hx
 ·obtain⟨u,h1,h2⟩:=h x hx;exact⟨u,h1,by simp[h2]⟩
 ·obtain⟨u,h1,h2⟩:=k x hx;exact⟨u,h1,by simp[h2]⟩
def WN (L:List Nat) (ys:List (Option aG)):Bool:=ys.all λy=>match y with|some t=>L.all λu=>!(aq u t)|none=>true
theorem Ty.ne {L:List Nat} {bl:List ai} {ys:List (Option aG)} (h:Ty L bl) (hd:WN L ys=true:=by kernel_rfl):∀x∈bl,∀t∈ys,Cz x.obj≠t:=λx hx t ht e=>by
 obtain⟨u,h1,h2⟩:=h x hx;have h3:=fR.1 hd t ht;rw[h1]at e;subst e;simp only at h3;have h4:=fR.1 h3 u h2;simp at h4
theorem eW.ty {z T olds x n c bl} (h:eW z T olds x n c bl):Ty [T] bl:=by
 rcases h.2.2 with⟨_,_,_,rfl⟩|⟨b,tail,_,rfl,_⟩
 ·intro x hx;cases hx
 ·exact Ty.cons rfl Ty.nil
end Sx
namespace Sx
open Go Go.RowKit Go.BigFrame
section
variable{P:aF} {a:Act} {w:ae} {Q:dR->Act->ae->Prop}
theorem EX {K:Act->ae->Prop} (h:∀a',a'=a->K a' w):Exit.then K Q .normal a w:=h a rfl
theorem I9 {c:Code} (I:Nat->Act->ae->Prop) (n:Nat) (h:∀a',a'=a->I n a' w)
 (hs:∀m a w,I m a w->c.wp P (Exit.then (λa' w'=>∃k,k<m/\I k a' w') Q) a w):(Code.loop c).wp P Q a w:=aeg I n (h a rfl) hs
end
end Sx
namespace Sx
open Go
def bV (n:Nat) (f:Nat->Int):List ab:=(bd n).map λi=>eg .u8 (f i)
theorem gi (n:Nat) (f:Nat->Int):(bV n f).length=n:=by simp[bV]
theorem qT {n:Nat} (f:Nat->Int) {j:Nat} (h:j<n):(bV n f)[j]?=some (.int .u8 (f j)):=by simp[bV,h]
theorem EY {n:Nat} {f:Nat->Int}:∀v∈bV n f,v.oneCell'=true:=λv h=>by
 simp only[bV,mn]at h;obtain⟨j,_,rfl⟩:=h;rfl
theorem xQ {n:Nat} {f:Nat->Int} {j:Nat} {v:ab} (h:(bV n f)[j]?=some v):j<n/\v=.int .u8 (f j):=by
 have hj:j<n:=by
  rcases cN j n with h1|h1
  ·exact h1
  ·rw[iK (by rw[gi];exact h1)]at h;cases h
 rw[qT f hj]at h;exact⟨hj,(cA h).symm⟩
def cj (n:Nat) (f g:Nat->Int):Nat->Int:=λj=>bif cu j n then f j else g (j-n)
theorem EZ {a b:Nat} (h:a<b):cu a b=true:=by unfold cu;exact tB h
theorem I_ {a b:Nat} (h:¬a<b):cu a b=false:=by
 cases hb:cu a b
 ·rfl
 ·unfold cu at hb;exact absurd (du hb) h
theorem aew {a b:Nat} (h:¬a<=b):bu a b=false:=by
 cases hb:bu a b
 ·rfl
 ·exact absurd (du hb) h
theorem Ja (n m:Nat) (f g:Nat->Int):bV n f++bV m g=bV (n+m) (cj n f g):=by
 apply u_;intro j;by_cases h:j<n
 ·rw[gV (by rw[gi];exact h),qT f h,qT _ (by omega)];simp[cj,EZ h]
 ·rw[zL (by rw[gi];omega),gi];by_cases h2:j<n+m
  ·rw[qT g (by omega),qT _ h2];simp[cj,I_ h]
  ·rw[iK (by rw[gi];omega),iK (by rw[gi];omega)]
theorem E0 {n:Nat} {f g:Nat->Int} (h:∀i,i<n->f i=g i):bV n f=bV n g:=by
 unfold bV;apply qD;intro i hi;rw[h i (List.mem_range.1 hi)]
def dp (f:Nat->Int) (o m:Nat) (g:Nat->Int):Nat->Int:=λj=>bif bu o j&&cu j (o+m)then g (j-o)else f j
theorem Od (kd:eS) {n:Nat} (f:Nat->Int) {o m:Nat} (h:o+m<=n) (g:Nat->Int):((au kd n f).toList.take o++(bd m).map (λi=>eg kd (g i))++(au kd n f).toList.drop (o+m)).toArray=au kd n (dp f o m g):=by
 apply fe;simp only[au];apply List.ext_getElem
 ·simp;omega
 ·intro j h1 h2;simp only[fq,u9,Eu,IK,List.length_drop]at h1 h2;by_cases ha:j<o
  ·rw[IM (by simp;omega),IM (by simp;omega)];simp[dp,aew (show¬o<=j by omega)]
  ·by_cases hb:j<o+m
   ·rw[IM (by simp;omega),VY (by simp;omega)];have:min o n=o:=by omega
    simp[dp,tB (show o<=j by omega),EZ hb,this]
   ·rw[VY (by simp;omega)];have:min o n=o:=by omega
    simp only[fq,u9,Eu,IK,List.getElem_drop,List.getElem_map,List.getElem_range,this];have e:o+m+(j-(o+m))=j:=by omega
    simp[dp,I_ hb,e]
def cd (w:ae) (b o n:Nat) (f:Nat->Int):Prop:=∀j,j<n->w.cell? ⟨b,o+j,none⟩=some (.int .u8 (f j))
theorem cd.cut {w:ae} {b o n:Nat} {f:Nat->Int} (h:cd w b o n f) {m:Nat} (hm:m<=n):cd w b o m f:=λj hj=>h j (by omega)
theorem cd.drop {w:ae} {b o n:Nat} {f:Nat->Int} (h:cd w b o n f) (k:Nat):cd w b (o+k) (n-k) (λj=>f (k+j)):=λj hj=>by
 rw[zP];exact h (k+j) (by omega)
section
variable{ms:List Nat} {w0 w:ae} {bs:List ai}
theorem St.lz (S:St ms w0 bs w) {b o n:Nat} {f:Nat->Int} (h:cd w0 b o n f) (hm:b∉ms):cd w b o n f:=λj hj=>S.aeh (h j hj) hm
theorem St.eK (S:St ms w0 bs w) (i:Nat) {b N:Nat} {wr:Bool} {f:Nat->Int} {t:aG} {fr:Nat×Nat} (hb:bs[i]?=some ⟨b,wr,.cells (au .u8 N f) t fr⟩:=by kernel_rfl):cd w b 0 N f:=λj hj=>by
 rw[cell_of (S.at_ i _ hb),eD,WK _ f hj]
end
section
variable{P:aF} {w:ae}
theorem Ai {b o n c:Nat} {f:Nat->Int} {tx e':aG} (h:cd w b o n f) (hk:P.underlying tx=some (.slice e'):=by kernel_rfl):Src P 1 tx (.slice (some ⟨b,o,none⟩) n c) n (bV n f) w:=
 rU w hk _ n c _ (by rw[gi,Nat.mul_one]) (λj u hj=>by
  obtain⟨h1,rfl⟩:=xQ hj;rw[iE];exact h j h1) EY
theorem Jb {ρ:ba->ab} {o:ao} {w':ae} {s x:ba} {t tx:aG} {sv xv v:ab} (ho:o.op=.call ⟨.builtin .copy,#[s,x],#[t,tx]⟩) (hs:ρ s=sv) (hx:ρ x=xv)
 (bG:(Builtin.copy_ #[t,tx] o.type #[sv,xv]).run P w=.ok v w'):(execOp ρ o).run P w=.ok (.value v) w':=by
 simp[execOp,ho,resolve,invoke,builtin,hs,hx,bG,jw]
end
section
variable{P:aF} {ops:Array ao} {rest:List ao} {o:ao} {a:Act} {w w0:ae} {ms:List Nat} {bs:List ai} {Q:dR->Act->ae->Prop}
theorem copy_ (S:St ms w0 bs w) (i:Nat) (b N off n c:Nat) (f:Nat->Int) (sb so m sc:Nat) (g:Nat->Int) {t:aG} {s x:ba} {tt tx elem:aG} (h8:cd w sb so m g) (hm:m<=n) (hn:off+m<=N)
 (hb:bs[i]?=some ⟨b,true,.cells (au .u8 N f) t (0,0)⟩) {bs':List ai} (h2:bs.set i ⟨b,true,.cells (au .u8 N (dp f off m g)) t (0,0)⟩=bs')
 (k:∀w',St ms w0 bs' w'->WL P ops Q rest (a.put o.dst (.int .i64 m)) w')
 (hw:gu o (yielded ops a.tmps)=true:=by kernel_rfl) (ho:o.op=.call ⟨.builtin .copy,#[s,x],#[tt,tx]⟩:=by rfl) (hs:a.eval s=.slice (some ⟨b,off,none⟩) n c:=by kernel_rfl) (hx:a.eval x=.slice (some ⟨sb,so,none⟩) m sc:=by kernel_rfl)
 (hu:P.underlying tt=some (.slice elem):=by kernel_rfl) (hz:(P.info? elem).map (·.size)=some 1:=by kernel_rfl):WL P ops Q (o::rest) a w:=
 WL.want hw λK hK=>by
  have aM:=S.at_ i _ hb;have E1:Nat.min m n=m:=Nat.min_eq_left hm;have bG:=run_copy_row (P:=P) w tt tx o.type elem b off n c ⟨sb,so,none⟩ m sc (au .u8 N f) t (bV m g) hu hz aM (by rw[gi,E1]) (λj v hj=>by
   obtain⟨h1,rfl⟩:=xQ hj;rw[iE];exact h8 j h1) (by rw[gi,EW];exact hn) EY
  unfold n7;rw[Jb ho hs hx bG];rw[gi];have he:(goInt m:ab)=.int .i64 m:=rfl;rw[he];refine hK _ _ (k _ ?_);have hS:=S.step hb rfl (Ch.setRow w b _) (setRow_heap w b (au .u8 N f) ((au .u8 N f).toList.take off++bV m g++(au .u8 N f).toList.drop (off+m)).toArray t (0,0) aM);have e2:((au .u8 N f).toList.take off++bV m g++(au .u8 N f).toList.drop (off+m)).toArray=au .u8 N (dp f off m g):=Od .u8 f hn g;rw[e2,h2]at hS;rw[e2];exact hS
end
section
variable{P:aF} {ρ:ba->ab} {o:ao} {w:ae}
theorem aex {t e:aG} {x lo:ba} {b off n c k:Nat} {kd:eS} (hk:k<=n) (hc:n<=c) (Oe:Nat) (jZ:Oe=(if c=k then off else off+k)) (ho:o.op=.slice t x (some lo) none none:=by rfl) (hu:P.underlying t=some (.slice e):=by kernel_rfl) (hs:(P.info? e).map (·.size)=some 1:=by kernel_rfl)
 (hx:ρ x=.slice (some ⟨b,off,none⟩) n c:=by kernel_rfl) (hh:ρ lo=.int kd ((k:Nat):Int):=by kernel_rfl):(execOp ρ o).run P w=.ok (.value (.slice (some ⟨b,Oe,none⟩) (n-k) (c-k))) w:=by
 obtain⟨i,iM,dw⟩:=gU.1 hs;unfold execOp;simp only[ho,Option.map_none,lO,hx,hh];unfold tD;simp only[bx,dt hu,cz];unfold Ev;simp only[bx,dt hu,cz,tF,zQ,asIntOf,dg];have h1:(0:Int)<=(k:Int)/\(k:Int)<=(n:Int):=by omega
 have h3:(⟨b,off,none⟩:aO).add k=⟨b,off+k,none⟩:=iE ..;by_cases Jc:c=k
 ·rw[if_pos Jc]at jZ;simp[h1,oP,typeInfo,iM,dw,Jc,jZ]
 ·rw[if_neg Jc]at jZ;simp[h1,oP,typeInfo,iM,dw,Jc,jZ,h3]
end
end Sx
namespace Sx
open Go Go.RowKit Go.BigFrame
section
variable{P:aF} {lf l:List ao} {sp:Nat->Sp} {a0:Act} {w:ae} {i:Nat} {o:ao}
end
section
variable{P:aF} {ops:Array ao} {rest:List ao} {o:ao} {a:Act} {w:ae} {Q:dR->Act->ae->Prop}
theorem aey (vk:eS) (n:Nat) (f:Nat->Int) (kd:eS) (iv:Int) {t e:aG} {x y:ba} (h0:0<=iv) (h1:iv<n) (k:WL P ops Q rest (a.put o.dst (.int vk (f iv.toNat))) w) (hw:gu o (yielded ops a.tmps)=true:=by kernel_rfl)
 (ho:o.op=.index t x y:=by rfl) (hu:P.underlying t=some (.array n e):=by kernel_rfl) (hz:(P.info? e).map (·.size)=some 1:=by kernel_rfl) (ha:(P.underlying e).map je=some false:=by kernel_rfl)
 (hx:a.eval x=.agg (au vk n f):=by kernel_rfl) (hy:a.eval y=.int kd iv:=by kernel_rfl):WL P ops Q (o::rest) a w:=
 ak (.int vk (f iv.toNat)) k hw (by
  obtain⟨inf,hq,dw⟩:=gU.1 hz;have dv:iv.toNat<n:=by omega
  have qH:(au vk n f)[iv.toNat]?=some (.int vk (f iv.toNat)):=WK vk f dv;unfold execOp;simp only[ho,hx,hy];unfold Instr.index;simp only[bx,dt hu,cz,asIntOf,dg];simp[h0,h1,oP,typeInfo,hq,dw,part,zZ ha,qH])
end
end Sx
namespace Sx
open Go Go.RowKit Go.BigFrame
def bD (n:Nat) (f:Nat->Int) (c:Nat):Array ab:=(bV n f++lP (c-n) (eg .u8 0)).toArray
theorem Jd (k:Nat):(n9 #[eg .u8 0] k).toList=lP k (eg .u8 0):=by
 apply List.ext_getElem
 ·simp[n9]
 ·intro i h1 h2;simp[n9,Nat.mod_one]
def eK (T:aG) (n:Nat) (f:Nat->Int) (x:Option aO) (c:Nat) (bl:List ai):Prop:=
 n<=c/\((x=none/\n=0/\c=0/\bl=[])\/∃b,x=some ⟨b,0,none⟩/\bl=[⟨b,true,.cells (bD n f c) T (0,0)⟩])
theorem eK.wr {T n f x c bl} (h:eK T n f x c bl):Wr bl:=by
 rcases h.2 with⟨_,_,_,rfl⟩|⟨b,_,rfl⟩
 ·exact Wr.nil
 ·exact Wr.cons rfl Wr.nil
theorem eK.ty {T n f x c bl} (h:eK T n f x c bl):Ty [T] bl:=by
 rcases h.2 with⟨_,_,_,rfl⟩|⟨b,_,rfl⟩
 ·intro x hx;cases hx
 ·exact Ty.cons rfl Ty.nil
theorem Of (T:aG):eK T 0 (λ_=>0) none 0 []:=⟨dE _,.inl ⟨rfl,rfl,rfl,rfl⟩⟩
theorem aez {n c:Nat} (f:Nat->Int) (h:n<=c):(bD n f c).size=c:=by simp[bD,gi];omega
section
variable{P:aF}
theorem Og {w:ae} {T n c m:Nat} {f g:Nat->Int} {x:Option aO} {bl:List ai} (hr:eK T n f x c bl) (aM:∀y∈bl,w.heap[y.id]?=some y.obj)
 {t tx ty:aG} {xv:ab} (hs:Src P 1 tx xv m (bV m g) w) (ht:P.underlying t=some (.slice T)) (hi:(P.info? T).map (λi=>(i.zero.map (·.cells),i.size,i.bytes))=some (some #[.int .u8 0],1,1))
 (hb:n+m<=140737488355328):
 ∃v w',(mY #[t,tx] ty #[.slice x n c,xv]).run P w=.ok v w'/\Ch (bl.map ai.id) w w'/\∃x' c' bl',v=.slice x' (n+m) c'/\eK T (n+m) (cj n f g) x' c' bl'/\∀y∈bl',w'.heap[y.id]?=some y.obj/\((∃u∈bl,y.id=u.id)\/w.heap.size<=y.id):=by
 obtain⟨i,bZ,hi⟩:=gU.1 hi;simp only[bw]at hi;obtain⟨hz,dw,im⟩:=hi;obtain⟨z0,lx,ng⟩:=gU.1 hz;obtain⟨jx,jK⟩:=hr;have jg:Src P i.size tx xv m (bV m g) w:=by rw[dw];exact hs
 have h63:n+m<=maxLen:=by unfold maxLen;omega
 by_cases nh:n+m<=c
 ·rcases u6 m with kP|kP
  ·subst kP;refine⟨_,_,run_append_nothing (P:=P) w t tx ty T i ht bZ x n c jx xv jg,Ch.refl _ _,x,c,bl,rfl,⟨jx,?_⟩,λy hy=>⟨aM y hy,.inl ⟨y,hy,rfl⟩⟩⟩;rcases jK with h|⟨b,rfl,rfl⟩
   ·exact .inl h
   ·refine .inr ⟨b,rfl,?_⟩;have e:bV (n+0) (cj n f g)=bV n f:=E0 λj hj=>by simp[cj,EZ (show j<n by omega)]
    show[(⟨b,true,.cells (bD n f c) T (0,0)⟩:ai)]=[⟨b,true,.cells ((bV (n+0) (cj n f g)++lP (c-(n+0)) (eg .u8 0)).toArray) T (0,0)⟩];rw[e];rfl
  ·rcases jK with⟨_,rfl,rfl,_⟩|⟨b,rfl,rfl⟩
   ·omega
   ·have sj:=aM _ (ig.2 rfl);have fG:=run_storeCells_at (P:=P) b n T (bV m g) 0 (bD n f c) w sj (by rw[aez f jx,gi];omega) hs.one;simp only[oR,gi]at fG;have bG:(mY #[t,tx] ty #[.slice (some ⟨b,0,none⟩) n c,xv]).run P w=.ok (.slice (some ⟨b,0,none⟩) (n+m) c) (w.setRow b ((bD n f c).toList.take n++bV m g++(bD n f c).toList.drop (n+m)).toArray):=by
     rcases jg.kind with⟨e',hk⟩|hk<;>simp[mY,dt ht,dt hk,oP,typeInfo,bZ,jg.len,nh,hs.cells,iE,dw,fG,jw]
    refine⟨_,_,bG,by simpa using Ch.setRow w b _,some ⟨b,0,none⟩,c,[⟨b,true,.cells (bD (n+m) (cj n f g) c) T (0,0)⟩],rfl,⟨nh,.inr ⟨b,rfl,rfl⟩⟩,?_⟩;intro y hy;obtain rfl:=ig.1 hy;refine⟨?_,.inl ⟨_,ig.2 rfl,rfl⟩⟩;have:=setRow_heap w b (bD n f c) ((bD n f c).toList.take n++bV m g++(bD n f c).toList.drop (n+m)).toArray T (0,0) sj;rw[this];congr 2;unfold bD;congr 1;show(bV n f++_).take n++_++(bV n f++_).drop (n+m)=_;rw[List.take_left' (gi n f),<-List.drop_drop,List.drop_left' (gi n f),List.drop_replicate,<-Ja];congr 2;omega
 ·have hg:c<n+m:=by omega
  have hold:(Builtin.firstCells i.size n (.slice x n c)).run P w.drew=.ok (bV n f).toArray w.drew:=by
   rcases jK with⟨rfl,rfl,rfl,_⟩|⟨b,rfl,rfl⟩
   ·exact run_firstCells_none (P:=P) w.drew i.size 0 0 0
   ·have sj:=aM _ (ig.2 rfl);refine run_firstCells_some (P:=P) w.drew i.size n ⟨b,0,none⟩ n c (bV n f) (by rw[gi,dw,Nat.mul_one]) (λj v hj=>?_);obtain⟨j3,rfl⟩:=xQ hj;rw[iE];have:w.drew.cell? ⟨b,0+j,none⟩=w.cell? ⟨b,j,none⟩:=by simp
    rw[this,cell_of sj];simp only[bD,jt];rw[gV (by rw[gi];exact j3),qT f j3]
  have bG:=run_append_grow_src (P:=P) w t tx ty T i z0 ht bZ lx x n c (bV n f) hold xv m (bV m g) jg hg (by simp only[maxLen]at h63;omega) (by rw[im];exact growslice_fits hg (by omega));have dY:=grownCap_ge w (n+m) c T;refine⟨_,_,bG,?_,some ⟨w.heap.size,0,none⟩,grownCap w (n+m) c T,[⟨w.heap.size,true,.cells (bD (n+m) (cj n f g) (grownCap w (n+m) c T)) T (0,0)⟩],rfl,⟨dY,.inr ⟨_,rfl,rfl⟩⟩,?_⟩
  ·exact((Ch.refl (bl.map ai.id) w).drew).trans (Ch.alloc (bl.map ai.id) w.drew _) (λx hx=>.inl hx)
  ·intro y hy;obtain rfl:=ig.1 hy;refine⟨?_,.inr (dE _)⟩;have:=mX w.drew (.cells ((bV n f++bV m g).toArray++n9 z0.cells (grownCap w (n+m) c T-(n+m))) T);refine Eq.trans this ?_;congr 2;apply fe;rw[ng,Array.toList_append,Jd];show bV n f++bV m g++_=bV (n+m) (cj n f g)++_;rw[<-Ja]
end
section
variable{P:aF} {ops:Array ao} {rest:List ao} {o:ao} {a:Act} {w w0:ae} {ms:List Nat} {Q:dR->Act->ae->Prop}
theorem WO {A bl R:List ai} {xs:Option aO} {T n c m:Nat} {f g:Nat->Int} {t tx:aG} {s x:ba} {xv:ab} (S:St ms w0 (A++(bl++R)) w) (hr:eK T n f xs c bl) (hs:Src P 1 tx xv m (bV m g) w) (hbd:n+m<=140737488355328)
 (k:∀x' c' bl' w',eK T (n+m) (cj n f g) x' c' bl'->St ms w0 (A++(bl'++R)) w'->WL P ops Q rest (a.put o.dst (.slice x' (n+m) c')) w')
 (ho:o.op=.call ⟨.builtin .append,#[s,x],#[t,tx]⟩:=by rfl) (hw:gu o (yielded ops a.tmps)=true:=by kernel_rfl) (Af:a.eval s=.slice xs n c:=by kernel_rfl) (Ag:a.eval x=xv:=by kernel_rfl)
 (ht:P.underlying t=some (.slice T):=by kernel_rfl) (bZ:(P.info? T).map (λi=>(i.zero.map (·.cells),i.size,i.bytes))=some (some #[.int .u8 0],1,1):=by kernel_rfl):WL P ops Q (o::rest) a w:=
 WL.want hw λK hK=>by
  obtain⟨v,w',bG,hc,x',c',bl',rfl,fD,aM⟩:=Og (P:=P) (ty:=o.type) hr (λy hy=>S.at' (by simp[hy])) hs ht bZ hbd;have S2:=S.tN hr.wr hc (λy hy=>(aM y hy).1) (λy hy=>(aM y hy).2) (by
   rcases fD.2 with⟨_,_,_,rfl⟩|⟨b,_,rfl⟩<;>simp)
  unfold n7;rw[jL ho Af Ag bG];exact hK _ _ (k x' c' bl' w' fD S2)
end
end Sx
namespace Sx
open Go Go.RowKit Go.BigFrame
def Aj (f:Nat->Int) (k:Nat):Nat->Int:=λj=>f (k+j)
theorem E2 {T n f x c bl} (h:eK T n f x c bl) (hn:0<n):∃b,n<=c/\x=some ⟨b,0,none⟩/\bl=[⟨b,true,.cells (bD n f c) T (0,0)⟩]:=by
 rcases h.2 with⟨_,h0,_,_⟩|⟨b,h1,h2⟩
 ·omega
 ·exact⟨b,h.1,h1,h2⟩
theorem St.Ak {ms:List Nat} {w0 w:ae} {bs:List ai} (S:St ms w0 bs w) (i:Nat) {b n c:Nat} {wr:Bool} {f:Nat->Int} {t:aG} {fr:Nat×Nat} (hb:bs[i]?=some ⟨b,wr,.cells (bD n f c) t fr⟩:=by kernel_rfl):cd w b 0 n f:=λj hj=>by
 rw[cell_of (S.at_ i _ hb),eD];simp only[bD,jt];rw[gV (by rw[gi];exact hj),qT f hj]
end Sx
namespace Sx
open Go
end Sx
namespace Sx
open Go Go.RowKit Go.BigFrame
theorem Ch.aeA (w:ae) (r:Nat) (o:Obj):Ch [r] w {w with heap:=w.heap.setIfInBounds r o}:=
 ⟨rfl,rfl,rfl,by simp,λk hk hm=>by
  show(w.heap.setIfInBounds r o)[k]?=w.heap[k]?;rw[Array.getElem?_setIfInBounds_ne (λe=>hm (by simp[e]))]⟩
def my (kd:eS) (l:List (Int×ab)):Obj:=.map ((l.zipIdx.map λx=>(⟨.int kd x.1.1,x.1.2,x.2⟩:va)).toArray) l.length
theorem WQ (kd:eS) (k:Int):∀(l:List va) (i:Nat),(∀e∈l,∃j,e.key=.int kd j/\j≠k)->NF (.int kd) (.int kd k) l i=some none
 |[],_,_=>rfl
 |e::es,i,h=>by
  obtain⟨j,h1,h2⟩:=h e (Cd _);have:Instr.sameNow (.int kd) (.int kd k) e.key=some false:=by
   rw[h1];simp[Instr.sameNow];exact λh=>h2 h.symm
  simp[NF,this,WQ kd k es (i+1) (λx hx=>h x (VZ _ hx))]
theorem aeB (kd:eS) (l:List (Int×ab)) (k:Int) (v:ab):
 Obj.map (((l.zipIdx.map λx=>(⟨.int kd x.1.1,x.1.2,x.2⟩:va)).toArray).push ⟨.int kd k,v,l.length⟩) (l.length+1)=my kd (l++[(k,v)]):=by
 simp[my,List.zipIdx_append]
theorem aeC {kd:eS} {l:List (Int×ab)} {k:Int} (h:l.all (λx=>x.1!=k)=true):∀e∈(l.zipIdx.map λx=>(⟨.int kd x.1.1,x.1.2,x.2⟩:va)),∃j,e.key=.int kd j/\j≠k:=by
 intro e he;obtain⟨x,hx,rfl⟩:=mn.1 he;have hm:=(List.mem_zipIdx hx);have h2:x.1∈l:=by
  obtain⟨_,_,h3⟩:=hm;rw[h3];exact List.getElem_mem _
 exact⟨x.1.1,rfl,by simpa using fR.1 h _ h2⟩
section
variable{P:aF} {ops:Array ao} {rest:List ao} {o:ao} {a:Act} {w w0:ae} {ms:List Nat} {bs:List ai} {Q:dR->Act->ae->Prop}
end
theorem aeD (g:Nat->Int):cj 0 (λ_=>0) g=g:=by
 funext j;show(bif cu j 0 then _ else _)=_;rw[show cu j 0=false from by cases j<;>rfl];simp
theorem St.beside {ms:List Nat} {w0 w w1:ae} {bs bl:List ai} (S:St ms w0 bs w) (T:St [] w bl w1) (h:Wr bl):St ms w0 (bl++bs) w1:=by
 have hq:=S.quiet T.ch;refine St.mk' hq.ch (λx hx=>?_) (λx hx hw=>?_) ?_
 ·rcases eJ.1 hx with h1|h1
  ·exact T.at' h1
  ·exact hq.at' h1
 ·rcases eJ.1 hx with h1|h1
  ·rcases T.oe h1 hw with h2|h2
   ·cases h2
   ·exact .inr (iY S.ch.size h2)
  ·exact hq.oe h1 hw
 ·rw[NB];refine⟨T.pw,hq.pw,λx hx y hy _ e=>?_⟩;rcases T.oe hx (h x hx)with h2|h2
  ·cases h2
  ·have:=S.ge hy;omega
theorem aeE {w w1:ae} (hc:Ch [] w w1) {a:aO} {v:ab} (h:w.cell? a=some v):w1.cell? a=some v:=by
 have hb:a.block<w.heap.size:=by
  unfold xu at h;split at h
  ·next h2=>exact oW h2
  ·cases h
 have h3:=hc.block _ hb (by simp);unfold xu at h⊢;rw[h3];exact h
def kq (w:ae) (a:Option aO) (n c:Nat) (f:Nat->Int):Prop:=n<=c/\(a=none->n=0/\c=0)/\∀x,a=some x->∀j,j<n->w.cell? (x.add j)=some (.int .u8 (f j))
def dL (w:ae) (a:Option aO) (n c:Nat) (f:Nat->Int):Prop:=n<=1000000/\kq w a n c f
theorem kq.quiet {w w1:ae} {a:Option aO} {n c:Nat} {f:Nat->Int} (h:kq w a n c f) (hc:Ch [] w w1):kq w1 a n c f:=⟨h.1,h.2.1,λx e j hj=>aeE hc (h.2.2 x e j hj)⟩
theorem dL.quiet {w w1:ae} {a:Option aO} {n c:Nat} {f:Nat->Int} (h:dL w a n c f) (hc:Ch [] w w1):dL w1 a n c f:=⟨h.1,h.2.quiet hc⟩
theorem kq.cut {w:ae} {a:Option aO} {n c m:Nat} {f:Nat->Int} (h:kq w a n c f) (hm:m<=n) (hb:m<=1000000):dL w a m c f:=
 ⟨hb,iY hm h.1,λe=>⟨by have:=h.2.1 e;omega,(h.2.1 e).2⟩,λx e j hj=>h.2.2 x e j (by omega)⟩
theorem Oh {P:aF} {w:ae} {a:Option aO} {n c:Nat} {f:Nat->Int} (h:dL w a n c f) {tx e':aG} (hk:P.underlying tx=some (.slice e'):=by kernel_rfl):Src P 1 tx (.slice a n c) n (bV n f) w:=by
 obtain⟨h1,h2,h3,h4⟩:=h;cases a with
 |none=>
  obtain⟨rfl,rfl⟩:=h3 rfl;exact Src.ofNil _ hk 0
 |some x=>exact rU w hk _ n c _ (by rw[gi,Nat.mul_one]) (λj u hj=>by
  obtain⟨h5,rfl⟩:=xQ hj;exact h4 x rfl j h5) EY
def ph (m n:Nat):Nat:=min n m
theorem aeF (m n:Nat):(if((m:Nat):Int)<((n:Nat):Int)then((m:Nat):Int)else((n:Nat):Int))=((ph m n:Nat):Int):=by unfold ph;split<;>omega
theorem dL.WR {w:ae} {a:Option aO} {n c:Nat} {f:Nat->Int} (h:dL w a n c f) (hn:0<n):∃x,a=some x:=by
 cases a with
 |none=>have:=(h.2.2.1 rfl).1;omega
 |some x=>exact⟨x,rfl⟩
theorem dL.Oi {w:ae} {b o n c:Nat} {f:Nat->Int} (h:cd w b o n f) (hn:n<=1000000) (hc:n<=c):dL w (some ⟨b,o,none⟩) n c f:=
 ⟨hn,hc,λe=>absurd e (by simp),λx e j hj=>by cases e;rw[iE];exact h j hj⟩
section
variable{P:aF} {ops:Array ao} {rest:List ao} {o o':ao} {a:Act} {w w0:ae} {ms:List Nat} {bs:List ai} {Q:dR->Act->ae->Prop}
theorem tQ (b o n off i:Nat) (f:Nat->Int) (h8:cd w b o n f) (hi:i<n) (he:off=o+i) {x:ba} {ty:aG} (k:WL P ops Q rest (a.put o'.dst (.int .u8 (f i))) w) (hw:gu o' (yielded ops a.tmps)=true:=by kernel_rfl) (ho:o'.op=.load ty x:=by rfl) (hx:a.eval x=.pointer (some ⟨b,off,none⟩):=by kernel_rfl)
 (ha:(P.underlying ty).map je=some false:=by kernel_rfl):WL P ops Q (o'::rest) a w:=
 ak _ k hw (by
  have:=h8 i hi;rw[<-he]at this;unfold execOp;simp only[ho,hx,qu,i_,bx,dg,cz];unfold loadVar;rw[bx,zZ ha];simp[load,Sem.run,this])
end
section
variable{P:aF}
theorem WS {w:ae} {T n c m:Nat} {f g:Nat->Int} {x:Option aO} (hx:dL w x n c f)
 {t tx ty:aG} {xv:ab} (hs:Src P 1 tx xv m (bV m g) w) (ht:P.underlying t=some (.slice T)) (hi:(P.info? T).map (λi=>(i.zero.map (·.cells),i.size,i.bytes))=some (some #[.int .u8 0],1,1))
 (hb:n+m<=140737488355328) (hg:c<n+m):
 ∃b c' w',(mY #[t,tx] ty #[.slice x n c,xv]).run P w=.ok (.slice (some ⟨b,0,none⟩) (n+m) c') w'/\n+m<=c'/\Ch [] w w'/\w.heap.size<=b/\w'.heap[b]?=some (.cells (bD (n+m) (cj n f g) c') T (0,0)):=by
 obtain⟨i,bZ,hi⟩:=gU.1 hi;simp only[bw]at hi;obtain⟨hz,dw,im⟩:=hi;obtain⟨z0,lx,ng⟩:=gU.1 hz;have jg:Src P i.size tx xv m (bV m g) w:=by rw[dw];exact hs
 have h63:n+m<=maxLen:=by unfold maxLen;omega
 have hold:(Builtin.firstCells i.size n (.slice x n c)).run P w.drew=.ok (bV n f).toArray w.drew:=by
  cases x with
  |none=>
   obtain⟨rfl,rfl⟩:=hx.2.2.1 rfl;exact run_firstCells_none (P:=P) w.drew i.size 0 0 0
  |some a=>
   refine run_firstCells_some (P:=P) w.drew i.size n a n c (bV n f) (by rw[gi,dw,Nat.mul_one]) (λj v hj=>?_);obtain⟨j3,rfl⟩:=xQ hj;have:=hx.2.2.2 a rfl j j3;simpa using this
 have bG:=run_append_grow_src (P:=P) w t tx ty T i z0 ht bZ lx x n c (bV n f) hold xv m (bV m g) jg hg (by simp only[maxLen]at h63;omega) (by rw[im];exact growslice_fits hg (by omega));have dY:=grownCap_ge w (n+m) c T;refine⟨w.heap.size,grownCap w (n+m) c T,_,bG,dY,?_,dE _,?_⟩
 ·exact((Ch.refl [] w).drew).trans (Ch.alloc [] w.drew _) (λx hx=>.inl hx)
 ·have:=mX w.drew (.cells ((bV n f++bV m g).toArray++n9 z0.cells (grownCap w (n+m) c T-(n+m))) T);refine Eq.trans this ?_;congr 2;apply fe;rw[ng,Array.toList_append,Jd];show bV n f++bV m g++_=bV (n+m) (cj n f g)++_;rw[<-Ja]
end
section
variable{P:aF} {o:ao} {ρ:ba->ab} {w w0:ae} {ms:List Nat} {bs:List ai} {R:ab->ae->Prop}
theorem Y.WT {x0:Option aO} {T n c m:Nat} {f g:Nat->Int} {t tx:aG} {s x:ba} {xv:ab} (S:St ms w0 bs w) (CA:dL w x0 n c f) (hs:Src P 1 tx xv m (bV m g) w) (hbd:n+m<=140737488355328) (hg:c<n+m)
 (k:∀b c' w',n+m<=c'->St ms w0 (⟨b,true,.cells (bD (n+m) (cj n f g) c') T (0,0)⟩::bs) w'->R (.slice (some ⟨b,0,none⟩) (n+m) c') w')
 (ho:o.op=.call ⟨.builtin .append,#[s,x],#[t,tx]⟩:=by rfl) (Af:ρ s=.slice x0 n c:=by kernel_rfl) (Ag:ρ x=xv:=by kernel_rfl)
 (ht:P.underlying t=some (.slice T):=by kernel_rfl) (bZ:(P.info? T).map (λi=>(i.zero.map (·.cells),i.size,i.bytes))=some (some #[.int .u8 0],1,1):=by kernel_rfl):Yields P o ρ w R:=by
 obtain⟨b,c',w',bG,hc,cn,hb,aM⟩:=WS (P:=P) (ty:=o.type) CA hs ht bZ hbd hg;unfold Yields;rw[jL ho Af Ag bG];exact k b c' w' hc (S.new cn hb aM)
end
section
variable{P:aF} {ops:Array ao} {rest:List ao} {o:ao} {a:Act} {w:ae} {Q:dR->Act->ae->Prop} {ρ:ba->ab} {R:ab->ae->Prop}
theorem Oj (kd Ol:eS) (x y:Int) {t yt:aG} {xo yo:ba} (h:0<=y) (k:WL P ops Q rest (a.put o.dst (.int kd (kd.wrap (x*2^(min y.toNat kd.bits))))) w) (hw:gu o (yielded ops a.tmps)=true:=by kernel_rfl)
 (ho:o.op=.binOp .shl t xo yo yt:=by rfl) (hx:a.eval xo=.int kd x:=by kernel_rfl) (hy:a.eval yo=.int Ol y:=by kernel_rfl):WL P ops Q (o::rest) a w:=
 ak _ k hw (by
  have hn:¬y<0:=by omega
  unfold execOp;simp[ho,hx,hy,Go.eqGuard,Go.binOp,Op.shift,hn])
theorem Y.Oj (kd Ol:eS) (x y:Int) {t yt:aG} {xo yo:ba} (h:0<=y) (k:R (.int kd (kd.wrap (x*2^(min y.toNat kd.bits)))) w)
 (ho:o.op=.binOp .shl t xo yo yt:=by rfl) (hx:ρ xo=.int kd x:=by kernel_rfl) (hy:ρ yo=.int Ol y:=by kernel_rfl):Yields P o ρ w R:=
 Y.ak _ k (by
  have hn:¬y<0:=by omega
  unfold execOp;simp[ho,hx,hy,Go.eqGuard,Go.binOp,Op.shift,hn])
end
def da (l:List Int):Nat->Int:=λj=>l.getD j 0
section
variable{P:aF} {ops:Array ao} {rest:List ao} {o:ao} {a:Act} {w w0:ae} {ms:List Nat} {bs:List ai} {Q:dR->Act->ae->Prop} {ρ:ba->ab}
theorem aeG (neg:Bool) (r:Bool) (xs ys:Array ab) {v:ab} (hv:v=.bool (bif neg then !r else r)) {t yt:aG} {x y:ba} (ho:o.op=.binOp (bif neg then .neq else .eql) t x y yt:=by rfl) (hx:ρ x=.agg xs:=by kernel_rfl) (hy:ρ y=.agg ys:=by kernel_rfl) (hg:P.eqGuardType P.depth t=false:=by kernel_rfl) (he:xH P 10000 t (.agg xs) (.agg ys)=some r:=by kernel_rfl):
 (execOp ρ o).run P w=.ok (.value v) w:=by
 rw[hv];exact ad_ neg ho hx hy hg he
theorem WT {x0:Option aO} {T n c m:Nat} {f g:Nat->Int} {t tx:aG} {s x:ba} {xv:ab} (S:St ms w0 bs w) (CA:dL w x0 n c f) (hs:Src P 1 tx xv m (bV m g) w) (hbd:n+m<=140737488355328) (hg:c<n+m)
 (k:∀b c' w',n+m<=c'->St ms w0 (⟨b,true,.cells (bD (n+m) (cj n f g) c') T (0,0)⟩::bs) w'->WL P ops Q rest (a.put o.dst (.slice (some ⟨b,0,none⟩) (n+m) c')) w')
 (hw:gu o (yielded ops a.tmps)=true:=by kernel_rfl) (ho:o.op=.call ⟨.builtin .append,#[s,x],#[t,tx]⟩:=by rfl) (Af:a.eval s=.slice x0 n c:=by kernel_rfl) (Ag:a.eval x=xv:=by kernel_rfl)
 (ht:P.underlying t=some (.slice T):=by kernel_rfl) (bZ:(P.info? T).map (λi=>(i.zero.map (·.cells),i.size,i.bytes))=some (some #[.int .u8 0],1,1):=by kernel_rfl):WL P ops Q (o::rest) a w:=
 WL.want hw λK hK=>by
  obtain⟨b,c',w',bG,hc,cn,hb,aM⟩:=WS (P:=P) (ty:=o.type) CA hs ht bZ hbd hg;unfold n7;rw[jL ho Af Ag bG];exact hK _ _ (k b c' w' hc (S.new cn hb aM))
end
theorem St.up {ms:List Nat} {w0 w:ae} {b:Nat} {o:Obj} {B:List ai} {L:List Nat} (S:St ms w0 (⟨b,false,o⟩::B) w) (Om:w0.heap.size<=b) (hT:Ty L B) (hd:WN L [Cz o]=true:=by kernel_rfl):St ms w0 (⟨b,true,o⟩::B) w:=by
 refine St.mk' S.ch (λx hx=>?_) (λx hx hw=>?_) ?_
 ·rcases ca.1 hx with rfl|hx
  ·exact S.at' (x:=⟨b,false,o⟩) (Cd _)
  ·exact S.at' (VZ _ hx)
 ·rcases ca.1 hx with rfl|hx
  ·exact .inr Om
  ·exact S.oe (VZ _ hx) hw
 ·refine zR.2 ⟨λy hy _ e=>?_,(zR.1 S.pw).2⟩;have h1:=S.at' (x:=⟨b,false,o⟩) (Cd _);have h2:=S.at' (VZ _ hy);simp only at h1 e;rw[e,h2]at h1;exact hT.ne hd y hy _ (Cd _) (congrArg Cz (cA h1))
end Sx
namespace Sd
abbrev av:=Nat->Int
structure Timer where
 n:Int
 most:Int
deriving DecidableEq,Inhabited
structure Tok where
 ay:Int
 af:Int
 offer:Int
 oa:Timer
 la:Timer
 bad:Bool
deriving DecidableEq,Inhabited
structure Label where
 mz:Int
 source:Int
 seq:Int
deriving DecidableEq,Inhabited
structure X4 where
 a:Int
 b:Int
 c:Int
 d:Int
deriving DecidableEq,Inhabited
def X4.get (x:X4) (i:Nat):Int:=match i with|0=>x.a|1=>x.b|2=>x.c|_=>x.d
def X4.map (f:Int->Int) (x:X4):X4:=⟨f x.a,f x.b,f x.c,f x.d⟩
def X4.zip (f:Int->Int->Int) (x y:X4):X4:=⟨f x.a y.a,f x.b y.b,f x.c y.c,f x.d y.d⟩
def X4.zero:X4:=⟨0,0,0,0⟩
structure eF where
 cls:Int
 aU:X4
 now:X4
 bI:Label
deriving DecidableEq,Inhabited
structure Rec where
 kind:Int
 source:Int
 seq:Int
 af:Int
 code:Int
 how:Int
deriving DecidableEq,Inhabited
structure aY where
 kind:Int
 seq:Int
 role:Int
 aU:Int
 af:Int
 mode:Int
 cls:Int
 now:Bool
 x:X4
deriving DecidableEq,Inhabited
structure aE where
 kind:Int
 seq:Int:=0
 role:Int:=0
 dh:Int:=0
 af:Int:=0
 code:Int:=0
 aw:av:=λ_=>0
deriving Inhabited
structure g9 where
 valid:Bool
 x:X4
 Al:Bool
deriving DecidableEq,Inhabited
structure gx where
 any:Bool
 high:Int
 seen:Int
deriving DecidableEq,Inhabited
structure Ask where
 source:Int
 bC:Int
 gj:Timer
deriving DecidableEq,Inhabited
structure dT where
 many:Int
 g_:Bool
 aw:av
deriving Inhabited
structure gy where
 on:Bool
 eL:Timer
 role:Int
 key:av
 seen:gx
deriving Inhabited
structure Act where
 mode:Int
 cls:Int
 out:X4
 ff:Label
 avw:Label
deriving DecidableEq,Inhabited
structure aN where
 i:Nat->Int
 k:Nat->Nat×av
namespace aN
def order (p:aN) (k:Nat):Int:=p.i k
def Am (p:aN) (s:Nat):Int:=p.i (9+s)
def table (p:aN) (m r:Nat):Int:=p.i (14+4*m+r)
def graph (p:aN) (m:Nat):Int:=p.i (34+m)
def start (p:aN):Int:=p.i 39
def safe (p:aN):Int:=p.i 40
def lost (p:aN):Int:=p.i 41
def bW (p:aN):Int:=p.i 42
def dU (p:aN):Int:=p.i 43
def offer (p:aN):Int:=p.i 44
def ask (p:aN):Int:=p.i 45
def pj (p:aN):Int:=p.i 46
def beyond (p:aN):Int:=p.i 47
def queue (p:aN):Int:=p.i 48
def d_ (p:aN):Int:=p.i 49
def most (p:aN) (c:Nat):Int:=p.i (50+c)
def CB (p:aN):Int:=p.i 54
def af (p:aN):Int:=p.i 55
end aN
end Sd
namespace Sd
def sat (n most:Int):Int:=if n<most then n+1 else most
def tR (n low high:Int):Int:=if n<low then low else if high<n then high else n
def qU (now aU bI:Int):Int:=
 if bI<1 then now
 else if now<=aU then(if aU-now<=bI then aU else now+bI)
 else(if now-aU<=bI then aU else now-bI)
def has (set i:Int):Bool:=decide (0<=set)&&decide (0<=i)&&decide (i<=62)&&decide (set/2^i.toNat%2=1)
namespace Timer
def zero:Timer:=⟨0,0⟩
def start (most:Int):Timer:=⟨0,max most 0⟩
def step (t:Timer):Timer:={t with n:=sat t.n t.most}
def due (t:Timer):Bool:=decide (t.most<=t.n)
end Timer
def placeOf (p:aN) (s:Int):Int:=
 if p.i 0=s then 0 else if p.i 1=s then 1 else if p.i 2=s then 2 else if p.i 3=s then 3 else if p.i 4=s then 4 else-1
def bC (p:aN) (s:Int):Int:=placeOf p s
def fw (p:aN) (a b:Int):Bool:=decide (placeOf p a≠-1)&&decide (placeOf p b≠-1)&&decide (placeOf p a<placeOf p b)
def below (n bound:Int):Bool:=decide (0<=n)&&decide (n<bound)
def iq (p:aN) (source role:Int):Bool:=below source 5&&below role 4&&has (p.Am source.toNat) role
def may (p:aN) (mode role cls:Int):Bool:=below mode 5&&below role 4&&below cls 4&&has (p.table mode.toNat role.toNat) cls
def goes (p:aN) (from_ aU:Int):Bool:=below from_ 5&&below aU 5&&has (p.graph from_.toNat) aU
namespace Tok
def pass (t:Tok) (aU af:Int):Tok:=⟨aU,af,-1,.zero,.zero,t.bad⟩
def new (p:aN):Tok:=⟨4,p.af,-1,.zero,.zero,false⟩
def cY (t:Tok) (aU:Int):Tok×Int:=
 if aU<0\/5<=aU then(t,1)else if aU=t.ay then(t,25)else if 65535<=t.af then(t,24)
 else(t.pass aU (t.af+1),0)
def fY (t:Tok):Tok:=t.pass 4 (if t.ay≠4 then sat t.af 65535 else t.af)
def ir (t:Tok):Tok:={t with offer:=-1,oa:=.zero}
def make (p:aN) (t:Tok) (from_ aU:Int) (there:Bool):Tok×Int:=
 if from_≠t.ay then(t,20)else if 65535<=t.af then(t,24)else if aU=from_ then(t,25)
 else if aU<1\/3<aU\/there=false then(t,2)else if 0<=t.offer then(t,28)
 else({t with offer:=aU,oa:=.start p.offer},0)
def accept (t:Tok) (from_ af:Int):Tok×Int:=
 if t.offer<0\/t.offer≠from_ then(t,28)else if af≠t.af then(t,21)else t.cY from_
def fy (t:Tok) (from_:Int):Tok×Int:=
 if t.offer<0\/t.offer≠from_ then(t,28)else(t.ir,0)
def drop (t:Tok) (source:Int):Tok×Bool:=
 if t.offer<0\/t.offer≠source then(t,false)else(t.ir,true)
def tick (t:Tok):Tok×Int:=
 if t.offer<0 then(t,-1)
 else if t.oa.step.due then(({t with oa:=t.oa.step}:Tok).ir,t.offer)
 else({t with oa:=t.oa.step},-1)
end Tok
namespace Q
def waits (l:List Ask) (s:Int):Bool:=l.any λa=>decide (a.source=s)
def insert (l:List Ask) (a:Ask):List Ask:=(l.takeWhile λx=>decide (x.bC<=a.bC))++a::(l.dropWhile λx=>decide (x.bC<=a.bC))
def push (most:Int) (l:List Ask) (a:Ask):List Ask×Int:=
 if waits l a.source then(l,27)else if most<=l.length then(l,3)else(insert l a,0)
def drop (l:List Ask) (s:Int):List Ask:=l.filter λa=>decide (a.source≠s)
def An (l:List Ask):List Ask:=l.map λa=>{a with gj:=a.gj.step}
def gone (l:List Ask):List Ask:=(An l).filter λa=>a.gj.due
def kept (l:List Ask):List Ask:=(An l).filter λa=>!a.gj.due
end Q
def eY (p:aN) (t:Tok) (most:Int) (q:List Ask) (from_:Int) (now:Bool):Tok×Int×Int×List Ask:=
 if t.bad then(t,0,29,q)else if from_=t.ay then(t,0,25,q)else if 65535<=t.af then(t,0,24,q)
 else if t.ay=4\/(now=true/\fw p from_ t.ay=true)then
  (if(t.cY from_).2≠0 then(t,0,(t.cY from_).2,q)else((t.cY from_).1,3,0,Q.drop q from_))
 else if now then(t,0,26,q)
 else(t,0,(Q.push most q ⟨from_,bC p from_,.start p.ask⟩).2,(Q.push most q ⟨from_,bC p from_,.start p.ask⟩).1)
def fg (t:Tok) (q:List Ask):Tok×Int×List Ask:=
 match q with
 |[]=>(t,2,q)
 |a::_=>if(t.cY a.source).2≠0 then(t,(t.cY a.source).2,q)else((t.cY a.source).1,0,Q.drop q a.source)
def cZ (t:Tok) (q:List Ask) (from_:Int):Tok×Int×List Ask:=
 if from_≠t.ay then(t,20,q)else if 65535<=t.af then(t,24,q)else fg t q
def fZ (p:aN) (t:Tok) (q:List Ask) (there:Bool):Tok×Int×List Ask:=
 if t.ay=4\/there=true then({t with la:=.zero},0,q)
 else
  let la:=(if t.la.most=0 then Timer.start p.dU else t.la).step
  let t1:Tok:={t with la:=la}
  if la.due=false then(t1,0,q)
  else if 65535<=t.af then(t1.fY,6,q)
  else if(fg t1 q).2.1≠0 then((t1.cY 4).1,5,(fg t1 q).2.2)
  else((fg t1 q).1,5,(fg t1 q).2.2)
namespace eF
def set (p:aN) (pt:eF) (cls:Int) (x:X4) (bI:Label):eF:=
 {pt with cls:=cls,bI:=bI,aU:=if cls<0\/4<=cls then .zero else x.map λn=>tR n (-(p.most cls.toNat)) (p.most cls.toNat)}
def hold (pt:eF) (bI:Label):eF:={pt with aU:=.zero,bI:=bI}
def step (p:aN) (pt:eF):eF:=
 let now:=X4.zip (λa b=>qU a b p.CB) pt.now pt.aU
 {pt with now:=now,bI:=if now=pt.now then pt.bI else{pt.bI with mz:=4}}
end eF
def nf (most:Int) (x:X4):Bool:=
 (decide (x.a< -most)||decide (most<x.a))||(decide (x.b< -most)||decide (most<x.b))||(decide (x.c< -most)||decide (most<x.c))||(decide (x.d< -most)||decide (most<x.d))
def eh (p:aN) (run:Int) (s:g9):Int×Bool:=
 if s.valid=false\/nf p.beyond s.x=false then(0,false)
 else(sat (max run 0) p.pj,decide (p.pj<=sat (max run 0) p.pj))
def lT (p:aN) (t:Tok) (source role mode:Int) (m:aY):Int:=
 if m.kind≠10/\m.kind≠11 then 1 else if source≠t.ay then 20 else if m.af≠t.af then 21
 else if may p mode role (if m.kind=10 then 0 else m.cls)=false then 22
 else if m.kind=10/\goes p mode m.mode=false then 23 else 0
end Sd
namespace Sd
def eT (k:Int):aY:=⟨k,0,0,0,0,0,0,false,.zero⟩
structure aL where
 take:Nat->av->Option aY
 aw:Nat×av->Int->Int->av
 right:Nat×av->Int->Int->av->av->Bool
 key:Nat×av->Int->Int->av->av
 opens:av->Int->Nat->av->Bool
 next:av->Rec->av
 eh:gx->Int->gx
structure aA where
 c9:Bool×Timer
 aj:Nat->gy
def gy.zero:gy:=⟨false,.zero,0,λ_=>0,⟨false,0,0⟩⟩
namespace aA
def new:aA:=⟨(false,.zero),λ_=>.zero⟩
def de (t:aA) (s:Int):Bool:=decide (1<=s)&&decide (s<=3)&&(t.aj (s.toNat-1)).on
def on (t:aA) (s:Int):Bool:=if s=4 then true else if s=0 then t.c9.1 else t.de s
def role (t:aA) (s:Int):Int:=if t.de s then(t.aj (s.toNat-1)).role else 0
def many (t:aA):Int:=(if(t.aj 0).on then 1 else 0)+(if(t.aj 1).on then 1 else 0)+(if(t.aj 2).on then 1 else 0)
def ei (t:aA) (i:Nat) (s:gy):aA:={t with aj:=λj=>if j=i then s else t.aj j}
def dV (p:aN) (t:aA) (s r:Int) (key:av):aA×Int:=
 if s<1\/3<s\/r<0\/4<=r then(t,1)
 else if t.de s=false/\p.d_<=t.many then(t,19)
 else(t.ei (s.toNat-1) ⟨true,.start p.bW,r,key,⟨false,0,0⟩⟩,0)
def take (C:aL) (p:aN) (t:aA) (s:Int) (n:Nat) (f:av):aA×Except Int aY:=
 if t.de s=false then(t,.error 16)else
 if n<8\/C.opens (t.aj (s.toNat-1)).key s n f=false then(t,.error 14)else
  match C.take (n-8) f with
  |none=>(t,.error 13)
  |some m=>
   if m.kind=1\/m.kind=2 then(t,.error 13)
   else if C.eh (t.aj (s.toNat-1)).seen m.seq=(t.aj (s.toNat-1)).seen then(t,.error 15)
   else(t.ei (s.toNat-1) {(t.aj (s.toNat-1))with seen:=C.eh (t.aj (s.toNat-1)).seen m.seq,on:=true,eL:=.start p.bW},.ok m)
def end_ (t:aA) (s:Int):aA:=if t.de s then t.ei (s.toNat-1) .zero else t
def fO (p:aN) (t:aA):aA:={t with c9:=(true,.start p.bW)}
def aeH (t:aA):Bool:=t.c9.1&&t.c9.2.step.due
def Je (t:aA) (i:Nat):Bool:=(t.aj i).on&&(t.aj i).eL.step.due
def tick (t:aA):aA:=
 {c9:=if t.c9.1 then(if t.c9.2.step.due then(false,.zero)else(true,t.c9.2.step))else t.c9,aj:=λi=>if(t.aj i).on then(if(t.aj i).eL.step.due then gy.zero else{(t.aj i)with eL:=(t.aj i).eL.step})else t.aj i}
def ended (t:aA):List Int:=
 (if t.aeH then[0]else[])++(if t.Je 0 then[1]else[])++(if t.Je 1 then[2]else[])++(if t.Je 2 then[3]else[])
end aA
structure Core where
 p:aN
 t:Tok
 q:List Ask
 doors:Nat->dT
 ag:aA
 samples:Int
 beyond:Int
 mode:Int
 ff:Label
 pt:eF
 head:av
structure aa where
 c:Core
 bh:List (Int×aE)
 bA:List Rec
def nj:Label:=⟨2,4,0⟩
def linked (s:Int):Bool:=decide (1<=s)&&decide (s<=3)
def dT.zero:dT:=⟨0,false,λ_=>0⟩
def Core.new (p:aN):Core:=
 ⟨p,.new p,[],λ_=>.zero,.new,0,0,p.start,nj,⟨1,.zero,.zero,nj⟩,λ_=>0⟩
def Core.act (c:Core):Act:=⟨c.mode,c.pt.cls,c.pt.now,c.ff,c.pt.bI⟩
namespace aa
variable(C:aL)
def tell (s:aa) (l:Int) (r:aE):aa:={s with bh:=s.bh++[(l,r)]}
def dH (s:aa) (l:Int) (r:aE):aa:=if linked l&&s.c.ag.on l then s.tell l r else s
def record (s:aa) (kind source seq code how:Int):aa:=
 let r:Rec:=⟨kind,source,seq,s.c.t.af,code,how⟩
 {s with bA:=s.bA++[r],c:={s.c with head:=C.next s.c.head r}}
def refuse (s:aa) (l n code:Int):aa:=(s.tell l {kind:=132,seq:=n,code:=code}).record C 7 l n code 0
def iF (s:aa) (l code:Int):aa:=s.record C 1 l 0 code 0
def done (s:aa) (l n:Int):aa:=s.tell l {kind:=131,seq:=n}
def goes (s:aa) (t:Tok) (how n:Int):aa:=
 let a:=s.c.t.ay
 let s1:aa:={s with c:={s.c with t:=t,q:=Q.drop s.c.q t.ay}}
 let s2:=s1.dH a {kind:=134,dh:=t.ay,af:=t.af}
 let s3:=s2.dH t.ay {kind:=133,af:=t.af}
 s3.record C 8 t.ay n 0 how
def gone (s:aa) (l dh code:Int):aa:=s.dH l {kind:=136,dh:=dh,code:=code}
def leave (s:aa) (source:Int):aa:=
 let s1:aa:={s with c:={s.c with q:=Q.drop s.c.q source}}
 if(s1.c.t.drop source).2=false then s1
 else(({s1 with c:={s1.c with t:=(s1.c.t.drop source).1}}:aa).gone (s1.c.t.drop source).1.ay source 16).record C 12 source 0 16 0
def dW (s:aa) (mode:Int) (bI:Label):aa:={s with c:={s.c with mode:=mode,ff:=bI,pt:=s.c.pt.hold bI}}
def kQ (s:aa) (l:Int) (n:Nat) (f:av):aa:=
 match C.take n f with
 |none=>s.iF C l 13
 |some m=>
  if iq s.c.p l m.role=false then s.refuse C l 0 18
  else
   let d:=s.c.doors (l.toNat-1)
   if 4294967295<=d.many then s.refuse C l 0 24
   else
    let x:=C.aw (s.c.p.k 3) l (d.many+1)
    let s1:aa:={s with c:={s.c with doors:=λj=>if j=l.toNat-1 then⟨d.many+1,true,x⟩else s.c.doors j}}
    (s1.tell l {kind:=129,aw:=x}).record C 2 l 0 0 0
def prove (s:aa) (l:Int) (n:Nat) (f:av):aa:=
 if n≠10 then s.iF C l 13
 else match C.take 2 f with
 |none=>s.iF C l 13
 |some m=>
  let d:=s.c.doors (l.toNat-1)
  if d.g_=false then s.refuse C l 0 17
  else
   let s1:aa:={s with c:={s.c with doors:=λj=>if j=l.toNat-1 then⟨d.many,false,λ_=>0⟩else s.c.doors j}}
   if C.right (s.c.p.k (l.toNat-1)) l m.role d.aw (λj=>f (2+j))=false then s1.iF C l 14
   else if iq s.c.p l m.role=false then s1.refuse C l 0 18
   else
    let(ag,e):=aA.dV s.c.p s.c.ag l m.role (C.key (s.c.p.k (l.toNat-1)) l m.role d.aw)
    if e≠0 then s1.refuse C l 0 e
    else
     let s2:aa:={s1 with c:={s1.c with ag:=ag}}
     (s2.tell l {kind:=130,role:=m.role,dh:=s.c.t.ay,af:=s.c.t.af}).record C 3 l 0 0 0
def dX (s:aa) (t:Tok):aa:={s with c:={s.c with t:=t}}
def Ao (s:aa) (l:Int) (m:aY):aa:=
 ((({s with c:={s.c with ag:=s.c.ag.end_ l}}:aa).leave C l).record C 4 l m.seq 0 0).done l m.seq
def ask (s:aa) (l:Int) (m:aY):aa:=
 let(t,how,e,q):=eY s.c.p s.c.t s.c.p.queue s.c.q l m.now
 if e≠0 then s.refuse C l m.seq e
 else
  let s1:aa:={s with c:={s.c with q:=q}}
  (if 0<how then s1.goes C t how m.seq else(s1.dX t).record C 10 l m.seq 0 0).done l m.seq
def offer (s:aa) (l:Int) (m:aY):aa:=
 let(t,e):=Tok.make s.c.p s.c.t l m.aU (s.c.ag.on m.aU)
 if e≠0 then s.refuse C l m.seq e
 else((((s.dX t).dH m.aU {kind:=135,dh:=l,af:=t.af}).record C 9 l m.seq 0 m.aU)).done l m.seq
def accept (s:aa) (l:Int) (m:aY):aa:=
 let(t,e):=s.c.t.accept l m.af
 if e≠0 then s.refuse C l m.seq e else(s.goes C t 1 m.seq).done l m.seq
def fy (s:aa) (l:Int) (m:aY):aa:=
 let(t,e):=s.c.t.fy l
 if e≠0 then s.refuse C l m.seq e
 else((((s.dX t).gone t.ay l 0).record C 11 l m.seq 0 0)).done l m.seq
def release (s:aa) (l:Int) (m:aY):aa:=
 let(t,e,q):=cZ s.c.t s.c.q l
 if e≠0 then s.refuse C l m.seq e else(({s with c:={s.c with q:=q}}:aa).goes C t 2 m.seq).done l m.seq
def command (s:aa) (l:Int) (m:aY):aa:=
 let e:=lT s.c.p s.c.t l (s.c.ag.role l) s.c.mode m
 if e≠0 then s.refuse C l m.seq e
 else
  let bI:Label:=⟨1,l,m.seq⟩
  let s1:aa:=if m.kind=10 then{s with c:={s.c with mode:=m.mode,ff:=bI}}
   else{s with c:={s.c with pt:=s.c.pt.set s.c.p m.cls m.x bI}}
  (s1.record C 6 l m.seq 0 0).done l m.seq
def jh (s:aa) (l:Int) (m:aY):aa:=
 if m.kind=3 then s.done l m.seq else if m.kind=4 then s.Ao C l m else if m.kind=5 then s.ask C l m
 else if m.kind=6 then s.offer C l m else if m.kind=7 then s.accept C l m else if m.kind=8 then s.fy C l m
 else if m.kind=9 then s.release C l m else if m.kind=10\/m.kind=11 then s.command C l m else s
def item (s:aa) (l code:Int) (n:Nat) (f:av):aa:=
 if code≠0 then s.iF C l code
 else if 0<n/\f 0=1 then s.kQ C l n f
 else if 0<n/\f 0=2 then s.prove C l n f
 else
  match s.c.ag.take C s.c.p l n f with
  |(_,.error e)=>s.iF C l e
  |(ag,.ok m)=>({s with c:={s.c with ag:=ag}}:aa).jh C l m
def fO (s:aa) (x:g9):aa:=
 if x.valid=false then{s with c:={s.c with beyond:=0}}
 else
  let n:=sat s.c.samples 4294967295
  let r:=eh s.c.p s.c.beyond x
  let s1:aa:={s with c:={s.c with samples:=n,ag:=s.c.ag.fO s.c.p,beyond:=r.1}}
  if s.c.t.ay=0/\x.Al=true then
   let(t,e,q):=cZ s.c.t s.c.q 0
   if e≠0 then s1.record C 7 0 n e 0 else({s1 with c:={s1.c with q:=q}}:aa).goes C t 2 n
  else if s.c.t.ay=0 then
   let e:=lT s.c.p s.c.t 0 0 s.c.mode {eT 11 with af:=s.c.t.af,cls:=1}
   if e≠0 then s1.record C 7 0 n e 0
   else({s1 with c:={s1.c with pt:=s1.c.pt.set s.c.p 1 x.x ⟨1,0,n⟩}}:aa).record C 6 0 n 0 0
  else if r.2 then
   let(t,e):=s.c.t.cY 0
   if e≠0 then s1.record C 7 0 n e 0 else s1.goes C t 4 n
  else s1
def qV (s:aa) (bad:Bool):aa:=
 let s1:=s.dX {s.c.t with bad:=bad}
 if bad=false then s1
 else
  let t:=s1.c.t.fY
  let s2:=if s1.c.t.ay≠4 then s1.goes C t 6 0 else s1.dX t
  let s3:=s2.c.q.foldl (λ(s:aa) (a:Ask)=>({s with c:={s.c with q:=Q.drop s.c.q a.source}}:aa).gone a.source 4 29) s2
  s3.dW s3.c.p.safe nj
def dU (s:aa):aa:=
 let(t,how,q):=fZ s.c.p s.c.t s.c.q (s.c.ag.on s.c.t.ay)
 if how<=0 then s.dX t
 else
  let s1:=({s with c:={s.c with q:=q}}:aa).goes C t how 0
  if how=5 then s1.dW s1.c.p.lost ⟨3,4,0⟩else s1.dW s1.c.p.safe nj
def tick (s:aa):aa:=
 let aeI:=s.c.ag.ended
 let s0:aa:={s with c:={s.c with ag:=s.c.ag.tick}}
 let s1:=aeI.foldl (λ(s:aa) (x:Int)=>let s:=s.record C 5 x 0 0 0;if linked x then s.leave C x else s) s0
 let(t,On):=s1.c.t.tick
 let s2:=s1.dX t
 let s3:=if 0<=On then(s2.gone t.ay On 30).record C 12 On 0 30 0 else s2
 let late:=Q.gone s3.c.q
 let s4:aa:={s3 with c:={s3.c with q:=Q.kept s3.c.q}}
 let s5:=late.foldl (λ(s:aa) (a:Ask)=>(s.gone a.source a.source 30).record C 12 a.source 0 30 0) s4
 let s6:=s5.dU C
 {s6 with c:={s6.c with pt:=s6.c.pt.step s6.c.p}}
end aa
structure eO (p:aN):Prop where
 o0:p.i 0=0
 o4:p.i 4=4
 perm:(p.i 1=1/\p.i 2=2/\p.i 3=3)\/(p.i 1=1/\p.i 2=3/\p.i 3=2)\/(p.i 1=2/\p.i 2=1/\p.i 3=3)\/
  (p.i 1=2/\p.i 2=3/\p.i 3=1)\/(p.i 1=3/\p.i 2=1/\p.i 3=2)\/(p.i 1=3/\p.i 2=2/\p.i 3=1)
 start:0<=p.start/\p.start<=4
 safe:0<=p.safe/\p.safe<=4
 lost:0<=p.lost/\p.lost<=4
 bW:1<=p.bW/\p.bW<=1000
 dU:1<=p.dU/\p.dU<=1000
 offer:1<=p.offer/\p.offer<=1000
 ask:1<=p.ask/\p.ask<=1000
 pj:1<=p.pj/\p.pj<=1000
 beyond:0<=p.beyond/\p.beyond<=1000
 queue:1<=p.queue/\p.queue<=3
 d_:1<=p.d_/\p.d_<=3
 most:∀c,c<4->0<=p.most c/\p.most c<=1000
 CB:1<=p.CB/\p.CB<=1000
 af:0<=p.af/\p.af<=65535
theorem WU {p:aN} (h:eO p) (s:Int) (h0:0<=s) (h4:s<=4):0<=placeOf p s/\placeOf p s<=4:=by
 have e:s=0\/s=1\/s=2\/s=3\/s=4:=by omega
 have:=h.o0;have:=h.o4
 rcases e with rfl|rfl|rfl|rfl|rfl<;>rcases h.perm with⟨a,b,c⟩|⟨a,b,c⟩|⟨a,b,c⟩|⟨a,b,c⟩|⟨a,b,c⟩|⟨a,b,c⟩<;>simp[placeOf, *]
theorem WV {p:aN} (h:eO p) {s t:Int} (hs:0<=s/\s<=4) (ht:0<=t/\t<=4) (e:placeOf p s=placeOf p t):s=t:=by
 have es:s=0\/s=1\/s=2\/s=3\/s=4:=by omega
 have et:t=0\/t=1\/t=2\/t=3\/t=4:=by omega
 have:=h.o0;have:=h.o4
 rcases es with rfl|rfl|rfl|rfl|rfl<;>rcases et with rfl|rfl|rfl|rfl|rfl<;>first|rfl|(rcases h.perm with⟨a,b,c⟩|⟨a,b,c⟩|⟨a,b,c⟩|⟨a,b,c⟩|⟨a,b,c⟩|⟨a,b,c⟩<;>simp[placeOf, *]at e)
theorem aeJ {p:aN} (h:eO p) {s t:Int} (hs:0<=s/\s<=4) (ht:0<=t/\t<=4):fw p s t=decide (bC p s<bC p t):=by
 have a:=WU h s hs.1 hs.2;have b:=WU h t ht.1 ht.2;unfold fw bC;have a':placeOf p s≠-1:=by omega
 have b':placeOf p t≠-1:=by omega
 simp[a',b']
theorem aeK {p:aN} (h:eO p) {s:Int} (hs:0<=s/\s<=3):bC p s<bC p 4:=by
 have es:s=0\/s=1\/s=2\/s=3:=by omega
 have:=h.o0;have:=h.o4
 unfold bC;rcases es with rfl|rfl|rfl|rfl<;>rcases h.perm with⟨a,b,c⟩|⟨a,b,c⟩|⟨a,b,c⟩|⟨a,b,c⟩|⟨a,b,c⟩|⟨a,b,c⟩<;>simp[placeOf, *]
structure pk (p:aN) (t:aA) (ay:Int) (q:List Ask):Prop where
 each:∀a∈q,a.bC=bC p a.source/\1<=a.source/\a.source<=3/\t.on a.source=true/\a.source≠ay/\a.gj.most=p.ask/\0<=a.gj.n/\a.gj.n<p.ask
 sorted:q.Pairwise λa b=>a.bC<b.bC
 len:(q.length:Int)<=p.queue
structure lU (p:aN) (ag:aA) (t:Tok):Prop where
 ay:0<=t.ay/\t.ay<=4
 af:p.af<=t.af/\t.af<=65535
 offer:t.offer=-1\/(1<=t.offer/\t.offer<=3/\t.offer≠t.ay/\ag.on t.offer=true/\t.oa.most=p.offer/\0<=t.oa.n/\t.oa.n<p.offer)
 lost:(t.la.most=0/\t.la.n=0)\/(t.la.most=p.dU/\0<=t.la.n/\t.la.n<p.dU)
structure CD (p:aN) (t:aA):Prop where
 c9:t.c9.1=true->t.c9.2.most=p.bW/\0<=t.c9.2.n/\t.c9.2.n<p.bW
 aj:∀i,i<3->(t.aj i).on=true->(t.aj i).eL.most=p.bW/\0<=(t.aj i).eL.n/\(t.aj i).eL.n<p.bW/\0<=(t.aj i).role/\(t.aj i).role<=3/\0<=(t.aj i).seen.high/\(t.aj i).seen.high<=4294967295
structure Inv (c:Core):Prop where
 p:eO c.p
 tok:lU c.p c.ag c.t
 q:pk c.p c.ag c.t.ay c.q
 ag:CD c.p c.ag
 samples:0<=c.samples/\c.samples<=4294967295
 mode:0<=c.mode/\c.mode<=4
 doors:∀i,i<3->0<=(c.doors i).many
theorem aeL {n m:Int} (h:0<=n) (hm:0<=m) (hn:n<=m):0<=sat n m/\sat n m<=m:=by unfold sat;split<;>omega
theorem Inv.new {p:aN} (h:eO p):Inv (Core.new p) where
 p:=h
 tok:=⟨by simp[Core.new,Tok.new],by simp[Core.new,Tok.new];exact h.af.2,.inl rfl,.inl ⟨rfl,rfl⟩⟩
 q:=⟨by simp[Core.new],by simp[Core.new],by simp[Core.new];have:=h.queue;omega⟩
 ag:=⟨by simp[Core.new,aA.new],by simp[Core.new,aA.new,gy.zero]⟩
 samples:=by simp[Core.new]
 mode:=h.start
 doors:=by simp[Core.new,dT.zero]
end Sd
namespace Vx
open Go Sx
inductive V where
 |int (k:eS) (n:Int)
 |bool (b:Bool)
 |ptr (i off:Nat)
 |sl (i off len cap:Nat)
 |f_ (i off len cap:Nat) (x:Option aO)
 |fn (f:fc) (fs cs:List V)
 |lV (t:aG) (v:V)
 |agg (l:List V)
 |an (l:List V)
 |bJ (k:eS) (n:Nat) (f:Nat->Int)
 |arr (k:eS) (n:Nat) (f:Nat->Int)
 |eo (p:Sd.aN) (ka:Nat->Option aO) (kn kc:Nat->Nat)
 |rest (l:List ab)
 |fh (z n:Nat) (g:Nat->List ab)
 |pe (i o j z k:Nat)
 |raw (v:ab)
def qW (p:Sd.aN) (ka:Nat->Option aO) (kn kc:Nat->Nat):List ab:=(bd 56).map λo=>bif bu 5 o&&bu o 8 then .slice (ka (o-5)) (kn (o-5)) (kc (o-5))else .int .i64 (p.i o)
mutual
def cK (n:Nat):V->Bool
 |.ptr i _=>cu i n
 |.sl i _ _ _=>cu i n
 |.f_ i _ _ _ _=>cu i n
 |.pe i _ _ _ _=>cu i n
 |.fn _ a b=>bj n a&&bj n b
 |.lV _ v=>cK n v
 |.agg l=>bj n l
 |.an l=>bj n l
 |_=>true
def bj (n:Nat):List V->Bool
 |[]=>true
 |v::l=>cK n v&&bj n l
end
def cl (v:V) (d:ab):List ab:=match v with
 |.bJ k n f=>(bd n).map λj=>eg k (f j)
 |.arr k n f=>(bd n).map λj=>eg k (f j)
 |.eo p ka kn kc=>qW p ka kn kc
 |.rest l=>l
 |.fh z n g=>(bd n).flatMap g
 |_=>[d]
mutual
def den (ids:List Nat):V->ab
 |.int k n=>.int k n
 |.bool b=>.bool b
 |.ptr i off=>.pointer (some ⟨ids.getD i 0,off,none⟩)
 |.sl i off n c=>.slice (some ⟨ids.getD i 0,off,none⟩) n c
 |.f_ i off n c x=>.slice (bif aq n 0 then x else some ⟨ids.getD i 0,off,none⟩) n c
 |.fn f a b=>.func (.func f) (aD ids a).toArray (aD ids b).toArray
 |.lV t v=>.iface t (den ids v)
 |.agg l=>.agg (ah ids l).toArray
 |.an l=>.tuple (aD ids l).toArray
 |.bJ _ _ _=>undef
 |.arr _ _ _=>undef
 |.eo _ _ _ _=>undef
 |.rest _=>undef
 |.fh _ _ _=>undef
 |.pe i o j z k=>.pointer (some ⟨ids.getD i 0,o+(j*z+k),none⟩)
 |.raw v=>v
def aD (ids:List Nat):List V->List ab
 |[]=>[]
 |v::l=>den ids v::aD ids l
def ah (ids:List Nat):List V->List ab
 |[]=>[]
 |v::l=>cl v (den ids v)++ah ids l
end
theorem xR (ids:List Nat) (l:List V):aD ids l=l.map (den ids):=by
 induction l with
 |nil=>simp[aD]
 |cons v l ih=>simp[aD,ih]
theorem CE {ids more:List Nat} {i:Nat} (h:cu i ids.length=true):(ids++more).getD i 0=ids.getD i 0:=by
 rw[ie]at h;simp[ij,gV h]
mutual
theorem fI {ids more:List Nat}:∀(v:V),cK ids.length v=true->den (ids++more) v=den ids v
 |.int _ _,_=>by simp[den]
 |.bool _,_=>by simp[den]
 |.ptr i _,h=>by simp only[cK]at h;simp only[den,CE h]
 |.sl i _ _ _,h=>by simp only[cK]at h;simp only[den,CE h]
 |.f_ i _ _ _ _,h=>by simp only[cK]at h;simp only[den,CE h]
 |.fn _ a b,h=>by simp only[cK,bg]at h;simp only[den,nk a h.1,nk b h.2]
 |.lV _ v,h=>by simp only[cK]at h;simp only[den,fI v h]
 |.agg l,h=>by simp only[cK]at h;simp only[den,j4 l h]
 |.an l,h=>by simp only[cK]at h;simp only[den,nk l h]
 |.bJ _ _ _,_=>by simp[den]
 |.arr _ _ _,_=>by simp[den]
 |.eo _ _ _ _,_=>by simp[den]
 |.rest _,_=>by simp[den]
 |.fh _ _ _,_=>by simp[den]
 |.pe i _ _ _ _,h=>by simp only[cK]at h;simp only[den,CE h]
 |.raw _,_=>by simp[den]
theorem nk {ids more:List Nat}:∀(l:List V),bj ids.length l=true->aD (ids++more) l=aD ids l
 |[],_=>by simp[aD]
 |v::l,h=>by simp only[bj,bg]at h;simp only[aD,fI v h.1,nk l h.2]
theorem j4 {ids more:List Nat}:∀(l:List V),bj ids.length l=true->ah (ids++more) l=ah ids l
 |[],_=>by simp[ah]
 |v::l,h=>by
  simp only[bj,bg]at h;simp only[ah,fI v h.1,j4 l h.2]
end
def fJ:V:=.raw undef
noncomputable def nth (l:List V):Nat->V:=@List.rec V (λ_=>Nat->V) (λ_=>fJ) (λv _ ih n=>@Nat.rec (λ_=>V) v (λm _=>ih m) n) l
noncomputable def lW (l:List V) (n:Nat) (x:V):List V:=@List.rec V (λ_=>Nat->List V) (λ_=>[]) (λv l ih n=>@Nat.rec (λ_=>List V) (x::l) (λm _=>v::ih m) n) l n
theorem jM (n:Nat):nth [] n=fJ:=rfl
theorem jN (v:V) (l:List V):nth (v::l) 0=v:=rfl
theorem jy (v:V) (l:List V) (n:Nat):nth (v::l) (n+1)=nth l n:=rfl
theorem xS (n:Nat) (x:V):lW [] n x=[]:=rfl
theorem xT (v:V) (l:List V) (x:V):lW (v::l) 0 x=x::l:=rfl
theorem xU (v:V) (l:List V) (n:Nat) (x:V):lW (v::l) (n+1) x=v::lW l n x:=rfl
def put (fr:List V) (d:Option Tmp) (v:V):List V:=match d with|some t=>lW fr t v|none=>fr
def Ap:ab->V
 |.int k n=>.int k n
 |.bool b=>.bool b
 |v=>.raw v
def CF:ab->V
 |.int k n=>.int k n
 |.bool b=>.bool b
 |.agg cs=>.agg (cs.toList.map Ap)
 |v=>.raw v
def Oo (p:Sd.aN) (ka:Nat->Option aO) (kn kc:Nat->Nat) (o:Nat):V:=
 bif bu 5 o&&bu o 8 then .raw (.slice (ka (o-5)) (kn (o-5)) (kc (o-5)))else .int .i64 (p.i o)
def mA:List V->Nat->Option V
 |[],_=>none
 |v::l,o=>match v with
  |.bJ k n f=>bif bu n o then mA l (o-n)else some (.int k (f o))
  |.arr k n f=>bif bu n o then mA l (o-n)else some (.int k (f o))
  |.eo p ka kn kc=>bif bu 56 o then mA l (o-56)else some (Oo p ka kn kc o)
  |.rest _=>none
  |.fh _ _ _=>none
  |v=>match o with|0=>some v|o+1=>mA l o
def takeN:List V->Nat->Option (List V×List V)
 |l,0=>some ([],l)
 |[],_+1=>none
 |v::l,n+1=>match v with
  |.bJ k m f=>bif bu m (n+1)then(match takeN l (n+1-m)with|some (a,b)=>some (v::a,b)|none=>none)
   else some ([.bJ k (n+1) f],.bJ k (m-(n+1)) (λj=>f (n+1+j))::l)
  |.arr k m f=>bif bu m (n+1)then(match takeN l (n+1-m)with|some (a,b)=>some (v::a,b)|none=>none)
   else some ([.arr k (n+1) f],.arr k (m-(n+1)) (λj=>f (n+1+j))::l)
  |.eo .. =>bif bu 56 (n+1)then(match takeN l (n+1-56)with|some (a,b)=>some (v::a,b)|none=>none)else none
  |.rest _=>none
  |.fh _ _ _=>none
  |_=>match takeN l n with|some (a,b)=>some (v::a,b)|none=>none
def xV (l:List V) (off n:Nat):Option (List V):=match takeN l off with
 |some (_,r)=>(match takeN r n with|some (a,_)=>some a|none=>none)
 |none=>none
def Jf (l:List V) (off n:Nat) (vs:List V):Option (List V):=match takeN l off with
 |some (a,r)=>(match takeN r n with|some (_,b)=>some (a++(vs++b))|none=>none)
 |none=>none
def Jg:V->Nat
 |.bJ _ n _=>n
 |.arr _ n _=>n
 |.eo .. =>56
 |.rest l=>l.length
 |.fh z n g=>((bd n).flatMap g).length
 |_=>1
def bY:List V->Nat
 |[]=>0
 |v::l=>Jg v+bY l
def Jh:V->Bool
 |.agg _=>false
 |.an _=>false
 |.rest l=>l.all (·.oneCell')
 |.fh z n g=>((bd n).flatMap g).all (·.oneCell')
 |.raw v=>v.oneCell'
 |_=>true
def lX:List V->Bool
 |[]=>true
 |v::l=>Jh v&&lX l
def jz:V->List V
 |.agg l=>l
 |v=>[v]
def pr:V->Bool
 |.bJ .. =>false
 |.arr .. =>false
 |.eo .. =>false
 |.rest _=>false
 |.fh _ _ _=>false
 |.raw v=>v.oneCell'
 |_=>true
section
variable{ids:List Nat}
theorem Ji (l:List ab):ah ids (l.map Ap)=l:=by
 induction l with
 |nil=>simp[ah]
 |cons v l ih=>cases v<;>simp[ah,cl,Ap,den,ih]
theorem aeM (v:ab):den ids (CF v)=v:=by
 cases v<;>simp[CF,den,Ji]
theorem Aq (fr:List V) (t:Nat):den ids (nth fr t)=(aD ids fr).toArray.getD t undef:=by
 induction fr generalizing t with
 |nil=>simp[jM,jN,jy,aD,fJ,den]
 |cons v l ih=>
  cases t with
  |zero=>simp[jM,jN,jy,aD]
  |succ t=>rw[jy,ih];simp[aD,Ew]
theorem aeN (fr:List V) (t:Nat) (x:V):(aD ids (lW fr t x)).toArray=(aD ids fr).toArray.setIfInBounds t (den ids x):=by
 apply fe;simp only[IJ];induction fr generalizing t with
 |nil=>simp[xS,xT,xU,aD]
 |cons v l ih=>cases t<;>simp[xS,xT,xU,aD,ih]
theorem aeO (p:Sd.aN) (ka:Nat->Option aO) (kn kc:Nat->Nat) {o:Nat} (h:o<56):(qW p ka kn kc)[o]?=some (den ids (Oo p ka kn kc o)):=by
 unfold qW Oo;rw[iZ,m9 h];simp only[lO];cases bu 5 o&&bu o 8<;>simp[den]
theorem E3 (p:Sd.aN) (ka:Nat->Option aO) (kn kc:Nat->Nat):(qW p ka kn kc).length=56:=by simp[qW]
theorem Oq {l:List V} {o:Nat} {v:V} (h:mA l o=some v):(ah ids l)[o]?=some (den ids v):=by
 induction l generalizing o with
 |nil=>simp[mA]at h
 |cons a l ih=>
  cases a
  case bJ k n f=>
   simp only[mA]at h;simp only[ah,cl];cases hb:bu n o with
   |true=>
    rw[hb]at h;have:=du hb;rw[zL (by simpa using this)];simpa using ih h
   |false=>
    rw[hb]at h;have:o<n:=NG λe=>by rw[tB e]at hb;cases hb
    rw[gV (by simpa using this)];simp only[cond_false,aV]at h;subst h;simp[m9 this,den]
  case arr k n f=>
   simp only[mA]at h;simp only[ah,cl];cases hb:bu n o with
   |true=>
    rw[hb]at h;have:=du hb;rw[zL (by simpa using this)];simpa using ih h
   |false=>
    rw[hb]at h;have:o<n:=NG λe=>by rw[tB e]at hb;cases hb
    rw[gV (by simpa using this)];simp only[cond_false,aV]at h;subst h;simp[m9 this,den]
  case eo p ka kn kc=>
   simp only[mA]at h;simp only[ah,cl];cases hb:bu 56 o with
   |true=>
    rw[hb]at h;have:=du hb;rw[zL (by rw[E3];exact this),E3];simpa using ih h
   |false=>
    rw[hb]at h;have:o<56:=NG λe=>by rw[tB e]at hb;cases hb
    rw[gV (by rw[E3];exact this)];simp only[cond_false,aV]at h;subst h;exact aeO _ _ _ _ this
  case rest=>simp[mA]at h
  case fh=>simp[mA]at h
  all_goals
   cases o with
   |zero=>simp only[mA,aV]at h;subst h;simp[ah,cl]
   |succ o=>simp only[mA]at h;simpa[ah,cl]using ih h
theorem WW (k:eS) {m n:Nat} (f:Nat->Int) (h:n<=m):((bd m).map λj=>eg k (f j))=((bd n).map λj=>eg k (f j))++((bd (m-n)).map λj=>eg k (f (n+j))):=by
 obtain⟨d,rfl⟩:=Nat.exists_eq_add_of_le h;rw[List.range_add,qB,mr,Nat.add_sub_cancel_left];rfl
theorem E4 {l a b:List V} {n:Nat} (h:takeN l n=some (a,b)):ah ids l=ah ids a++ah ids b/\(ah ids a).length=n:=by
 induction l generalizing n a b with
 |nil=>
  cases n with
  |zero=>simp only[takeN,aV,bw]at h;obtain⟨rfl,rfl⟩:=h;simp[ah]
  |succ n=>simp[takeN]at h
 |cons v l ih=>
  cases n with
  |zero=>simp only[takeN,aV,bw]at h;obtain⟨rfl,rfl⟩:=h;simp[ah]
  |succ n=>
   cases v
   case bJ k m f=>
    simp only[takeN]at h;cases hb:bu m (n+1)with
    |true=>
     have hm:=du hb;rw[hb]at h;simp only[cond_true]at h;split at h
     ·rename_i x y hx;simp only[aV,bw]at h;obtain⟨rfl,rfl⟩:=h;obtain⟨i1,i2⟩:=ih hx;simp[ah,cl,i1,i2];omega
     ·cases h
    |false=>
     have hm:n+1<m:=NG λe=>by rw[tB e]at hb;cases hb
     rw[hb]at h;simp only[cond_false,aV,bw]at h;obtain⟨rfl,rfl⟩:=h;simp only[ah,cl];rw[WW k f (n:=n+1) (by omega)];simp
   case arr k m f=>
    simp only[takeN]at h;cases hb:bu m (n+1)with
    |true=>
     have hm:=du hb;rw[hb]at h;simp only[cond_true]at h;split at h
     ·rename_i x y hx;simp only[aV,bw]at h;obtain⟨rfl,rfl⟩:=h;obtain⟨i1,i2⟩:=ih hx;simp[ah,cl,i1,i2];omega
     ·cases h
    |false=>
     have hm:n+1<m:=NG λe=>by rw[tB e]at hb;cases hb
     rw[hb]at h;simp only[cond_false,aV,bw]at h;obtain⟨rfl,rfl⟩:=h;simp only[ah,cl];rw[WW k f (n:=n+1) (by omega)];simp
   case eo p ka kn kc=>
    simp only[takeN]at h;cases hb:bu 56 (n+1)with
    |true=>
     have hm:=du hb;rw[hb]at h;simp only[cond_true]at h;split at h
     ·rename_i x y hx;simp only[aV,bw]at h;obtain⟨rfl,rfl⟩:=h;obtain⟨i1,i2⟩:=ih hx;simp[ah,cl,i1,i2,E3];omega
     ·cases h
    |false=>rw[hb]at h;simp at h
   case rest=>simp[takeN]at h
   case fh=>simp[takeN]at h
   all_goals
    simp only[takeN]at h;split at h
    ·rename_i x y hx;simp only[aV,bw]at h;obtain⟨rfl,rfl⟩:=h;obtain⟨i1,i2⟩:=ih hx;simp[ah,cl,i1,i2]
    ·cases h
theorem xW {l c:List V} {off n:Nat} (h:xV l off n=some c):((ah ids l).drop off).take n=ah ids c/\(ah ids c).length=n/\off+n<=(ah ids l).length:=by
 unfold xV at h;split at h
 ·rename_i a r ha;split at h
  ·rename_i b s hb;simp only[aV]at h;subst h;obtain⟨a1,a2⟩:=E4 (ids:=ids) ha;obtain⟨b1,b2⟩:=E4 (ids:=ids) hb;refine⟨?_,b2,?_⟩
   ·rw[a1,<-a2,List.drop_left,b1,<-b2,List.take_left]
   ·rw[a1,b1];simp;omega
  ·cases h
 ·cases h
theorem iG (a b:List V):ah ids (a++b)=ah ids a++ah ids b:=by
 induction a with
 |nil=>simp[ah]
 |cons v l ih=>simp[ah,ih]
theorem WX {l c vs:List V} {off n:Nat} (h:Jf l off n vs=some c):ah ids c=(ah ids l).take off++ah ids vs++(ah ids l).drop (off+n)/\off+n<=(ah ids l).length:=by
 unfold Jf at h;split at h
 ·rename_i a r ha;split at h
  ·rename_i b s hb;simp only[aV]at h;subst h;obtain⟨a1,a2⟩:=E4 (ids:=ids) ha;obtain⟨b1,b2⟩:=E4 (ids:=ids) hb;refine⟨?_,?_⟩
   ·rw[iG,iG,a1,b1];have e:off+n=(ah ids a++ah ids b).length:=by simp[a2,b2]
    have e2:ah ids a++(ah ids b++ah ids s)=(ah ids a++ah ids b)++ah ids s:=by simp
    rw[e,e2,List.drop_left,<-e2,<-a2,List.take_left,bR]
   ·rw[a1,b1];simp;omega
  ·cases h
 ·cases h
theorem kr (l:List V):(ah ids l).length=bY l:=by
 induction l with
 |nil=>simp[ah,bY]
 |cons v l ih=>cases v<;>simp[ah,cl,bY,Jg,ih,E3]<;>omega
theorem aeP {p:Sd.aN} {ka:Nat->Option aO} {kn kc:Nat->Nat} {v:ab} (h:v∈qW p ka kn kc):v.oneCell'=true:=by
 unfold qW at h;rw[mn]at h;obtain⟨o,_,rfl⟩:=h;cases bu 5 o&&bu o 8<;>rfl
theorem Ar {l:List V} (h:lX l=true):∀v∈ah ids l,v.oneCell'=true:=by
 induction l with
 |nil=>simp[ah]
 |cons a l ih=>
  simp only[lX,bg]at h;intro v hv;simp only[ah,eJ]at hv;rcases hv with hv|hv
  ·unfold cl at hv;cases a
   case bJ k n f=>simp at hv;obtain⟨_,_,rfl⟩:=hv;rfl
   case arr k n f=>simp at hv;obtain⟨_,_,rfl⟩:=hv;rfl
   case eo=>exact aeP hv
   case rest l'=>exact(fR.1 (by simpa[Jh]using h.1)) v hv
   case fh z n g=>
    have h1:((bd n).flatMap g).all (·.oneCell')=true:=h.1;exact fR.1 h1 v hv
   all_goals (obtain rfl:v=_:=by simpa using hv);first|rfl|(simp[Jh]at h;done)|(have:=h.1;simpa[Jh,den]using this)
  ·exact ih h.2 v hv
theorem Ot {v:V} (h:pr v=true):(den ids v).cells.toList=ah ids (jz v):=by
 cases v
 case agg l=>simp[den,V0,jz]
 case raw v=>cases v<;>simp_all[den,V0,jz,ah,cl,pr,Value.oneCell']
 case bJ=>simp[pr]at h
 case arr=>simp[pr]at h
 case eo=>simp[pr]at h
 case rest=>simp[pr]at h
 case fh=>simp[pr]at h
 all_goals simp[den,V0,jz,ah,cl]
end
def Ou (c:Bool) (a b:V):V:=match a,b with
 |.bool x,.bool y=>.bool (cond c x y)
 |.int k x,.int k' y=>(match decEq k k' with|isTrue _=>.int k (cond c x y)|isFalse _=>(match c with|true=>a|false=>b))
 |a,b=>match c with|true=>a|false=>b
def eu (P:aF) (t:aG):Option Nat:=match P.info? t with|some i=>some i.size|none=>none
def E5 (k:eS):List V->Bool
 |[]=>true
 |.int k' (.ofNat 0)::l=>(match decEq k' k with|isTrue _=>E5 k l|isFalse _=>false)
 |_=>false
def Ov (z:List V):List V:=match z with
 |.int k (.ofNat 0)::l=>bif bu 63 l.length&&E5 k l then[.arr k (l.length+1) λ_=>0]else z
 |_=>z
theorem WY {k:eS} (ids:List Nat):∀{l:List V},E5 k l=true->ah ids l=(bd l.length).map λ_=>eg k 0
 |[],_=>rfl
 |v::l,h=>by
  unfold E5 at h;split at h
  ·rename_i heq;cases heq
  ·rename_i k' l' heq;obtain⟨rfl,rfl⟩:=vb heq;split at h
   ·rename_i hk _;subst hk;rw[kN,vd,eH,mr];simp only[ah,cl,den,WY ids h];rfl
   ·cases h
  ·cases h
theorem Ow (ids:List Nat) (z:List V):ah ids (Ov z)=ah ids z:=by
 unfold Ov;split
 ·rename_i k l;cases hq:bu 63 l.length&&E5 k l with
  |false=>rfl
  |true=>
   simp only[bg]at hq;simp only[cond_true,ah,cl,den,WY ids hq.2,cQ];rw[vd,eH,mr];rfl
 ·rfl
def mB (P:aF) (t:aG):Option (List V):=match P.info? t with
 |some i=>(match i.zero with|some v=>some (Ov (jz (CF v)))|none=>none)
 |none=>none
def qX (P:aF) (t:aG):Option Bool:=match P.underlying t with|some d=>some (je d)|none=>none
def Ox (op:BinOp) (x y:V):Option V:=match x,y with
 |.int k a,.int k' b=>(match op with
  |.shl=>(match b with|.ofNat n=>some (.int k (k.wrap (a*2^(min n k.bits))))|_=>none)
  |.shr=>(match b with|.ofNat n=>some (.int k (a.fdiv (2^(min n k.bits))))|_=>none)
  |op=>(match decEq k k' with
   |isFalse _=>none
   |isTrue _=>(match op with
    |.add=>some (.int k (k.wrap (a+b)))
    |.sub=>some (.int k (k.wrap (a-b)))
    |.mul=>some (.int k (k.wrap (a*b)))
    |.and=>some (.int k (bits .and k a b))
    |.or=>some (.int k (bits .or k a b))
    |.xor=>some (.int k (bits .xor k a b))
    |.rem=>(match b with|.ofNat (n+1)=>some (.int k (Int.tmod a (.ofNat (n+1))))|_=>none)
    |.quo=>(match b with|.ofNat (n+1)=>some (.int k (k.wrap (Int.tdiv a (.ofNat (n+1)))))|_=>none)
    |.eql=>some (.bool (a==b))
    |.neq=>some (.bool (a !=b))
    |.lss=>some (.bool (decide (a<b)))
    |.leq=>some (.bool (decide (a<=b)))
    |.gtr=>some (.bool (decide (a>b)))
    |.geq=>some (.bool (decide (a>=b)))
    |_=>none)))
 |_,_=>none
def Oy (op:UnOp) (x:V):Option V:=match op,x with
 |.not,.bool b=>some (.bool (!b))
 |.neg,.int k n=>some (.int k (k.wrap (0-n)))
 |.xor,.int k n=>some (.int k (bits .xor k (bif k.signed then-1 else k.max) n))
 |_,_=>none
section
variable{ids:List Nat} {P:aF} {w:ae}
theorem aeQ (c:Bool) (a b:V):den ids (Ou c a b)=if c then den ids a else den ids b:=by
 unfold Ou;split
 ·cases c<;>simp[den]
 ·split
  ·rename_i hk _;cases c<;>simp[den,hk]
  ·cases c<;>rfl
 ·cases c<;>rfl
theorem aeR (op:BinOp) (t:aG) (x y:ba) (k k':eS) (a b:Int):(eqGuard op t x y (.int k a) (.int k' b)).run P w=.ok () w:=by
 unfold eqGuard;cases op<;>rfl
theorem aeS {op:BinOp} {x y v:V} (h:Ox op x y=some v) (t:aG) (xo yo:ba):
 ((do eqGuard op t xo yo (den ids x) (den ids y);binOp op t (den ids x) (den ids y)):Sem ab).run P w=.ok (den ids v) w:=by
 unfold Ox at h;split at h
 ·rename_i k a k' b;simp only[den,bx,aeR,cz];split at h
  ·split at h
   ·rename_i n;simp only[aV]at h;subst h;have h0:¬(cJ n<0):=by have:=zT n;simp only[xy];omega
    simp only[binOp,Op.shift,den,if_neg h0];rfl
   ·cases h
  ·split at h
   ·rename_i n;simp only[aV]at h;subst h;have h0:¬(cJ n<0):=by have:=zT n;simp only[xy];omega
    simp only[binOp,Op.shift,den,if_neg h0];rfl
   ·cases h
  ·rename_i aeT aeU;split at h
   ·cases h
   ·rename_i hk _;subst hk;cases op<;>simp only[aV]at h<;>first
     |(subst h;simp[binOp,adX,Op.intCmp,Op.intBits,Op.intDiv,den,bits];done)
     |(subst h;simp[binOp,adX,Op.intCmp,Op.intBits,Op.intDiv,den,bits];rfl)
     |(split at h<;>first
       |(simp only[aV]at h
         subst h;rename_i n;have h1:¬((cJ (n+1))=0):=by simp only[xy];omega
         simp only[binOp,Op.intDiv,den,if_neg h1,ne_eq,not_true_eq_false,if_false,ite_false];rfl)
       |cases h)
     |cases h
     |(exact absurd rfl aeT)
     |(exact absurd rfl aeU)
 ·cases h
theorem aeV {op:UnOp} {x v:V} (h:Oy op x=some v):(V1 op (den ids x)).run P w=.ok (den ids v) w:=by
 unfold Oy at h;split at h
 ·simp only[aV]at h;subst h;simp[V1,den]
 ·simp only[aV]at h;subst h;simp[V1,adX,den]
 ·simp only[aV]at h;subst h;rename_i k n;cases hk:k.signed<;>simp[V1,Op.intBits,bits,den,hk]
 ·cases h
end
def xX (pl:Nat->Option (Nat×Nat)):List V->List (Nat×V)->Option (List V)
 |c,[]=>some c
 |c,(i,v)::l=>match pl i with
  |some (off,n)=>bif pr v&&aq (bY (jz v)) n then(match Jf c off n (jz v)with|some c'=>xX pl c' l|none=>none)else none
  |none=>none
def placesOf (P:aF) (fs:Array Field) (i:Nat):Option (Nat×Nat):=match fs[i]?with
 |some f=>(match eu P f.type with|some n=>some (f.offset,n)|none=>none)
 |none=>none
def sD (P:aF) (t:aG) (l:List V) (off:Nat):Option V:=match qX P t,eu P t with
 |some true,some n=>(match xV l off n with|some c=>some (.agg c)|none=>none)
 |some false,_=>mA l off
 |_,_=>none
def Jj (e:ba->V) (ps:Array (Nat×ba)):List (Nat×V):=ps.toList.map λp=>(p.1,e p.2)
def WZ (P:aF) (fs:Array Field):Bool:=fs.toList.all λf=>match eu P f.type with|some _=>true|none=>false
section
variable{ids:List Nat} {P:aF} {w:ae}
theorem aeW (off:Nat):∀(vs:List ab) (cs:Array ab) (k:Nat),off+k+vs.length<=cs.size->
 ((vs.zipIdx k).foldl (λ(cs:Array ab) (x:ab×Nat)=>cs.setIfInBounds (off+x.2) x.1) cs).toList=cs.toList.take (off+k)++vs++cs.toList.drop (off+k+vs.length):=by
 intro vs;induction vs with
 |nil=>intro cs k h;simp
 |cons v l ih=>
  intro cs k h;simp only[kN]at h;simp only[List.zipIdx_cons,ve];rw[ih _ _ (by simp;omega)];simp only[IJ];have h1:off+k<cs.toList.length:=by simp;omega
  rw[show off+(k+1)=off+k+1 by omega];rw[List.take_set,List.drop_set,if_pos (by omega),List.take_succ_eq_append_getElem h1,List.set_append_right _ _ (by simp;omega)];simp only[u9,kN];rw[show off+k-min (off+k) cs.toList.length=0 by omega];simp only[List.set_cons_zero,bR,ft,fl];rw[show off+k+1+l.length=off+k+(l.length+1) by omega]
theorem Oz {pl:Nat->Option (Nat×Nat)} {place:Nat->Option (Nat×Nat)} (hp:∀i x,pl i=some x->place i=some x):∀(l:List (Nat×V)) (c c':List V),xX pl c l=some c'->
 adY place (ah ids c).toArray (l.map λp=>(p.1,den ids p.2))=some (ah ids c').toArray:=by
 intro l;induction l with
 |nil=>intro c c' h;simp only[xX,aV]at h;subst h;simp[adY]
 |cons a l ih=>
  intro c c' h;obtain⟨i,v⟩:=a;simp only[xX]at h;split at h
  ·rename_i off n hpl;cases hb:pr v&&aq (bY (jz v)) n with
   |false=>rw[hb]at h;simp at h
   |true=>
    rw[hb]at h;simp only[cond_true]at h;simp only[bg]at hb;have dw:bY (jz v)=n:=ck hb.2;split at h
    ·rename_i c1 Jk;obtain⟨s1,s2⟩:=WX (ids:=ids) Jk;have W0:=Ot (ids:=ids) hb.1;have hlen:(den ids v).cells.size=n:=by rw[<-Array.length_toList,W0,kr,dw]
     simp only[eH,adY,hp i _ hpl];have N2:((decide ((den ids v).cells.size≠n))||decide (off+(den ids v).cells.size>(ah ids c).toArray.size))=false:=by
      simp[hlen];omega
     rw[if_neg (by simp only[ne_eq,Cc,decide_eq_true_eq];simp[hlen];omega)];have key:(den ids v).cells.zipIdx.foldl (λ(cs:Array ab) (x:ab×Nat)=>cs.setIfInBounds (off+x.2) x.1) (ah ids c).toArray=(ah ids c1).toArray:=by
      apply fe;rw[<-Array.foldl_toList,Array.toList_zipIdx,aeW off _ _ 0 (by simp[hlen];omega)];rw[W0,s1];simp[kr,dw]
     rw[key];exact ih _ _ h
    ·cases h
  ·cases h
theorem Jl {t:aG} {i:TypeInfo} (h:P.info? t=some i):(typeInfo t).run P w=.ok i w:=by simp[typeInfo,h]
theorem gz {t:aG} {n:Nat} (h:eu P t=some n):(oP t).run P w=.ok n w:=by
 unfold eu at h;split at h
 ·rename_i i hi;simp only[aV]at h;simp[oP,bx,Jl hi,h]
 ·cases h
theorem As {t:aG} {z:List V} (h:mB P t=some z):∃v,(zeroValue t).run P w=.ok v w/\v.cells.toList=ah ids z:=by
 unfold mB at h;split at h
 ·rename_i i hi;split at h
  ·rename_i v hv;simp only[aV]at h;subst h;refine⟨v,by simp[zeroValue,bx,Jl hi,hv],?_⟩;rw[Ow];cases v<;>simp[V0,CF,jz,ah,cl,den,Ji]
  ·cases h
 ·cases h
theorem W3 {t:aG} {b:Bool} (h:qX P t=some b):(isAgg t).run P w=.ok b w:=by
 unfold qX at h;split at h
 ·rename_i d hd;simp only[aV]at h;exact zZ (by rw[hd];simp[h]) w
 ·cases h
theorem OA {t:aG} {l:List V} {off:Nat} {v:V} (h:sD P t l off=some v):(part t (ah ids l).toArray off).run P w=.ok (den ids v) w:=by
 unfold sD at h;split at h
 ·rename_i n ha hn;split at h
  ·rename_i c hc;simp only[aV]at h;subst h;obtain⟨g1,g2,g3⟩:=xW (ids:=ids) hc;simp only[part,bx,W3 ha,cz,if_pos,gz hn,dg];simp only[den];congr 2;apply fe;simp[Array.toList_extract,List.extract,g1]
  ·cases h
 ·rename_i ha;have:=Oq (ids:=ids) h;simp only[part,bx,W3 ha,cz,Bool.false_eq_true,if_false];simp[this]
 ·cases h
theorem aeX {fs:List Field} (h:∀f∈fs,∃n,eu P f.type=some n):(fs.mapM λ(f:Field)=>(do pure (f.offset,<-oP f.type):Sem (Nat×Nat))).run P w=.ok (fs.map λf=>(f.offset,(eu P f.type).getD 0)) w:=by
 induction fs with
 |nil=>rfl
 |cons f l ih=>
  obtain⟨n,hn⟩:=h f (by simp);have:=ih (λf hf=>h f (by simp[hf]));simp only[List.mapM_cons,bx,gz hn,cz,dg,this,eH,hn,VV]
end
def CH (P:aF) (t:aG) (x y:V):Option Bool:=match P.underlying t,x,y with
 |some .bool,.bool a,.bool b=>some (a==b)
 |some (.pointer _),.ptr _ _,.raw (.pointer none)=>some false
 |some (.pointer _),.raw (.pointer none),.ptr _ _=>some false
 |some (.pointer _),.raw (.pointer none),.raw (.pointer none)=>some true
 |some (.pointer _),.raw (.pointer (some _)),.raw (.pointer none)=>some false
 |some (.slice _),.sl _ _ _ _,.raw (.slice none _ _)=>some false
 |some (.slice _),.raw (.slice (some _) _ _),.raw (.slice none _ _)=>some false
 |some (.slice _),.raw (.slice none _ _),.raw (.slice none _ _)=>some true
 |_,.agg a,.agg b=>bif(bj 0 a&&bj 0 b)&&!(P.eqGuardType P.depth t)then xH P 10000 t (.agg (ah [] a).toArray) (.agg (ah [] b).toArray)else none
 |_,_,_=>none
def E6 (P:aF) (op:BinOp) (t:aG) (x y:V):Option V:=match Ox op x y with
 |some v=>some v
 |none=>match op with
  |.eql=>(match CH P t x y with|some r=>some (.bool r)|none=>none)
  |.neq=>(match CH P t x y with|some r=>some (.bool (!r))|none=>none)
  |_=>none
def Jm (v:V):Option V:=match v with
 |.ptr i o=>some (.ptr i o)
 |.fn f a b=>some (.fn f a b)
 |.pe i o j z k=>some (.pe i o j z k)
 |.raw (.pointer (some a))=>some (.raw (.pointer (some a)))
 |_=>none
def OB (P:aF) (t:aG) (x ix:V):Option V:=match P.underlying t,x,ix with
 |some (.array n el),.ptr i off,.int _ (.ofNat j)=>bif cu j n then(match eu P el with|some z=>some (.ptr i (off+j*z))|none=>none)else none
 |some (.slice el),.sl i off n _,.int _ (.ofNat j)=>bif cu j n then(match eu P el with|some z=>some (.ptr i (off+j*z))|none=>none)else none
 |_,_,_=>none
def OC (P:aF) (s:aG) (x:V) (f:Nat):Option V:=match P.underlying s,x with
 |some (.struct fs),.ptr i off=>(match fs[f]?with
  |some fd=>(match eu P fd.type with|some (_+1)=>some (.ptr i (off+fd.offset))|_=>none)
  |none=>none)
 |some (.struct fs),.pe i o j z k=>(match fs[f]?with
  |some fd=>(match eu P fd.type with|some (_+1)=>some (.pe i o j z (k+fd.offset))|_=>none)
  |none=>none)
 |_,_=>none
def OD (P:aF) (t:aG) (ps:List (Nat×V)):Option V:=match P.underlying t,mB P t with
 |some (.struct fs),some z=>bif WZ P fs then(match xX (placesOf P fs) z ps with|some c=>some (.agg c)|none=>none)else none
 |some (.array _ el),some z=>(match eu P el with|some n=>(match xX (λi=>some (i*n,n)) z ps with|some c=>some (.agg c)|none=>none)|none=>none)
 |_,_=>none
def OE (P:aF) (t:aG) (x:V):Option V:=match P.underlying t,x with
 |some (.slice _),.sl _ _ n _=>some (.int .i64 (n:Int))
 |some (.slice _),.f_ _ _ n _ _=>some (.int .i64 (n:Int))
 |some (.slice _),.raw (.slice _ n _)=>some (.int .i64 (n:Int))
 |some (.array n _),_=>some (.int .i64 (n:Int))
 |_,_=>none
def vA (x:V) (y:Nat):Option Nat:=match x with
 |.int _ (.ofNat i)=>bif bu i y then some i else none
 |_=>none
def py (e:ba->V) (o:Option ba) (y d:Nat):Option Nat:=match o with
 |some x=>vA (e x) y
 |none=>some d
def OF (P:aF) (e:ba->V) (t:aG) (x:V) (lo hi:Option ba):Option V:=match P.underlying t,x with
 |some (.slice el),.sl i off n c=>(match py e hi c n,eu P el with
  |some h,some z=>(match py e lo h 0 with
   |some l=>some (.sl i (bif aq c l then off else off+l*z) (h-l) (c-l))
   |none=>none)
  |_,_=>none)
 |some (.pointer arr),.ptr i off=>(match P.underlying arr with
  |some (.array n el)=>(match py e hi n n,eu P el with
   |some h,some z=>(match py e lo h 0 with
    |some l=>some (.sl i (bif aq n l then off else off+l*z) (h-l) (n-l))
    |none=>none)
   |_,_=>none)
  |_=>none)
 |some (.array n el),.ptr i off=>(match py e hi n n,eu P el with
  |some h,some z=>(match py e lo h 0 with
   |some l=>some (.sl i (bif aq n l then off else off+l*z) (h-l) (n-l))
   |none=>none)
  |_,_=>none)
 |_,_=>none
def OG (P:aF) (e:ba->V) (t:aG) (x:V) (lo:Option ba) (hi mx:ba):Option V:=match P.underlying t,x with
 |some (.pointer arr),.ptr i off=>(match P.underlying arr with
  |some (.array n el)=>(match vA (e mx) n,eu P el with
   |some m,some z=>(match vA (e hi) m with
    |some h=>(match py e lo h 0 with
     |some l=>some (.sl i (bif aq m l then off else off+l*z) (h-l) (m-l))
     |none=>none)
    |none=>none)
   |_,_=>none)
  |_=>none)
 |some (.array n el),.ptr i off=>(match vA (e mx) n,eu P el with
  |some m,some z=>(match vA (e hi) m with
   |some h=>(match py e lo h 0 with
    |some l=>some (.sl i (bif aq m l then off else off+l*z) (h-l) (m-l))
    |none=>none)
   |none=>none)
  |_,_=>none)
 |_,_=>none
def W4 (x y:V):Option V:=match x,y with
 |.int k a,.int _ b=>some (.int k (if b<a then b else a))
 |_,_=>none
def W5 (x y:V):Option V:=match x,y with
 |.int k a,.int _ b=>some (.int k (if b>a then b else a))
 |_,_=>none
def OH (P:aF) (arr:aG) (x:V):Option V:=match P.underlying arr,x with
 |some (.array n _),.sl i off len c=>bif bu n len then some (.ptr i off)else none
 |_,_=>none
def Jn:BinOp->ba->Bool
 |.rem,.const (.int .i64 (.ofNat 3))=>true
 |_,_=>false
def E7 (P:aF) (e:ba->V):Op->Option V
 |.move x=>some (e x)
 |.assign x=>some (e x)
 |.pick c a b=>(match e c with|.bool c=>some (Ou c (e a) (e b))|_=>none)
 |.nilCheck x=>Jm (e x)
 |.binOp op t x y _=>bif Jn op y then none else E6 P op t (e x) (e y)
 |.unOp op _ x=>Oy op (e x)
 |.convert s d x=>(match P.underlying s,P.underlying d,e x with|some _,some (.int k),.int _ n=>some (.int k (k.wrap n))|_,_,_=>none)
 |.makeFunc (.func f) a b=>some (.fn f (a.toList.map e) (b.toList.map e))
 |.makeInterface t x=>(match P.underlying t with|some (.interface _)=>none|some _=>some (.lV t (e x))|none=>none)
 |.build t ps=>OD P t (Jj e ps)
 |.fieldAddr s x f=>OC P s (e x) f
 |.field s x f=>(match P.underlying s,e x with
  |some (.struct fs),.agg l=>(match fs[f]?with|some fd=>sD P fd.type l fd.offset|none=>none)
  |_,_=>none)
 |.indexAddr t x ix=>OB P t (e x) (e ix)
 |.index t x ix=>(match P.underlying t,e x,e ix with
  |some (.array n el),.agg l,.int _ (.ofNat j)=>bif cu j n then(match eu P el with|some z=>sD P el l (j*z)|none=>none)else none
  |some .string,.raw (.string s),.int _ (.ofNat j)=>(match s[j]?with|some b=>some (.int .u8 b.toNat)|none=>none)
  |_,_,_=>none)
 |.extract x i=>(match e x with|.an l=>(match l[i]?with|some v=>some v|none=>none)|_=>none)
 |.call c=>(match c.callee,c.args.toList,c.argTypes.toList with
  |.builtin .len,[x],t::_=>OE P t (e x)
  |.builtin .min,[x,y],_=>W4 (e x) (e y)
  |.builtin .max,[x,y],_=>W5 (e x) (e y)
  |_,_,_=>none)
 |.slice t x lo hi none=>OF P e t (e x) lo hi
 |.slice t x lo (some hi) (some mx)=>OG P e t (e x) lo hi mx
 |.sliceToArrayPointer arr x=>OH P arr (e x)
 |_=>none
section
variable{ids:List Nat} {P:aF} {w:ae} {e:ba->V} {ρ:ba->ab}
theorem W6 {t:aG} {x y:V} {r:Bool} (h:CH P t x y=some r) (xo yo:ba) (op:BinOp) (iH:op=.eql\/op=.neq):
 (eqGuard op t xo yo (den ids x) (den ids y)).run P w=.ok () w/\(V2 t (den ids x) (den ids y)).run P w=.ok r w:=by
 have g0:∀(a b:ab),(∀x,a≠.agg x)->(a≠.nilIface)->(eqGuard op t xo yo a b).run P w=.ok () w:=by
  intro a b h1 h2;unfold eqGuard;rcases iH with rfl|rfl<;>(cases a<;>first|rfl|(exact absurd rfl h2)|(exact absurd rfl (h1 _)))
 unfold CH at h;split at h
 case h_9=>
  rename_i a b;cases hb:(bj 0 a&&bj 0 b)&&!(P.eqGuardType P.depth t)with
  |false=>rw[hb]at h;simp at h
  |true=>
   rw[hb]at h;simp only[cond_true]at h;simp only[bg,lN]at hb;have ha:ah ids a=ah [] a:=by have:=j4 (ids:=[]) (more:=ids) a hb.1.1;simpa using this
   have vz:ah ids b=ah [] b:=by have:=j4 (ids:=[]) (more:=ids) b hb.1.2;simpa using this
   refine⟨?_,?_⟩
   ·simp only[den];unfold eqGuard;rcases iH with rfl|rfl<;>simp[hb.2]
   ·have:=I0 10000 t _ _ r h w;simp only[den,ha,vz];exact this
 all_goals first
  |(rename_i hu
    simp only[aV]at h;subst h;refine⟨g0 _ _ (by intro x;simp[den]) (by simp[den]),?_⟩;simp only[den];unfold V2 Op.maxDepth Op.equalIn;simp[bx,dt hu]
    done)
  |cases h
theorem W7 {t:aG} {x y:V} {r:Bool} (h:CH P t x y=some r):(∃b,den ids x=.bool b)\/(∃b,den ids x=.pointer b/\∃c,den ids y=.pointer c)\/(∃b n c,den ids x=.slice b n c)\/(∃b,den ids x=.agg b):=by
 unfold CH at h;split at h<;>first|(exact .inl ⟨_,by simp only[den];rfl⟩)|(exact .inr (.inl ⟨_,by simp only[den];rfl,_,by simp only[den];rfl⟩))|(exact .inr (.inr (.inl ⟨_,_,_,by simp only[den];rfl⟩)))|(exact .inr (.inr (.inr ⟨_,by simp only[den];rfl⟩)))|cases h
theorem OI {op:BinOp} {t:aG} {x y v:V} (h:E6 P op t x y=some v) (xo yo:ba):
 ((do eqGuard op t xo yo (den ids x) (den ids y);binOp op t (den ids x) (den ids y)):Sem ab).run P w=.ok (den ids v) w:=by
 unfold E6 at h;split at h
 ·rename_i v' hv;simp only[aV]at h;subst h;exact aeS hv t xo yo
 ·split at h
  ·split at h
   ·rename_i r hr;simp only[aV]at h;subst h;obtain⟨h1,h2⟩:=W6 (ids:=ids) (w:=w) hr xo yo .eql (.inl rfl);simp only[bx,h1,cz];have h3:binOp .eql t (den ids x) (den ids y)=(do pure (.bool (<-V2 t (den ids x) (den ids y)))):=by
     rcases W7 (ids:=ids) hr with⟨b,hb⟩|⟨b,hb,c,hc⟩|⟨b,n,c,hb⟩|⟨b,hb⟩
     ·rw[hb];rfl
     ·rw[hb,hc];rfl
     ·rw[hb];rfl
     ·rw[hb];rfl
    rw[h3];simp[bx,h2,den]
   ·cases h
  ·split at h
   ·rename_i r hr;simp only[aV]at h;subst h;obtain⟨h1,h2⟩:=W6 (ids:=ids) (w:=w) hr xo yo .neq (.inr rfl);simp only[bx,h1,cz];have h3:binOp .neq t (den ids x) (den ids y)=(do pure (.bool (!(<-V2 t (den ids x) (den ids y))))):=by
     rcases W7 (ids:=ids) hr with⟨b,hb⟩|⟨b,hb,c,hc⟩|⟨b,n,c,hb⟩|⟨b,hb⟩
     ·rw[hb];rfl
     ·rw[hb,hc];rfl
     ·rw[hb];rfl
     ·rw[hb];rfl
    rw[h3];simp[bx,h2,den]
   ·cases h
  ·cases h
theorem aeY {x v:V} (h:Jm x=some v):v=x/\(∀(f:ab->Sem Next) (g:Sem Next),(match den ids x with
 |.pointer none|.nilIface|.nilFunc=>g
 |x=>f x)=f (den ids x)):=by
 unfold Jm at h;split at h<;>first|(simp only[aV]at h;subst h;exact⟨rfl,λf g=>by simp[den]⟩)|cases h
theorem sE (b off k:Nat):(⟨b,off,none⟩:aO).add k=⟨b,off+k,none⟩:=by unfold u5;split<;>simp_all
theorem aeZ {t:aG} {x ix v:V} (h:OB P t x ix=some v):(tA t (den ids x) (den ids ix)).run P w=.ok (den ids v) w:=by
 unfold OB at h;split at h
 ·rename_i n el i off k j hu;cases hb:cu j n with
  |false=>rw[hb]at h;simp at h
  |true=>
   rw[hb]at h;simp only[cond_true]at h;have hj:j<n:=by rw[ie]at hb;exact hb
   split at h
   ·rename_i z hz;simp only[aV]at h;subst h;have h1:(0:Int)<=cJ j/\cJ j<(n:Int):=by simp only[xy];omega
    simp only[tA,den,asIntOf,i_,bx,dg,cz,dt hu];rw[if_pos h1];simp[bx,gz hz,sE]
   ·cases h
 ·rename_i el i off n c k j hu;cases hb:cu j n with
  |false=>rw[hb]at h;simp at h
  |true=>
   rw[hb]at h;simp only[cond_true]at h;have hj:j<n:=by rw[ie]at hb;exact hb
   split at h
   ·rename_i z hz;simp only[aV]at h;subst h;have h1:(0:Int)<=cJ j/\cJ j<(n:Int):=by simp only[xy];omega
    simp only[tA,den,asIntOf,bx,dg,cz,dt hu];rw[if_pos h1];simp[bx,gz hz,sE]
   ·cases h
 ·cases h
theorem ae0 {s:aG} {x v:V} {f:Nat} (h:OC P s x f=some v):(adZ s (den ids x) f).run P w=.ok (den ids v) w:=by
 unfold OC at h;split at h
 ·rename_i fs i off hu;split at h
  ·rename_i fd E8;split at h
   ·rename_i n hn;simp only[aV]at h;subst h;simp[adZ,i_,den,bx,dt hu,E8,fieldPlace,gz hn,sE]
   ·cases h
  ·cases h
 ·rename_i fs i j z k hu;split at h
  ·rename_i fd E8;split at h
   ·rename_i n hn;simp only[aV]at h;subst h;simp[adZ,i_,den,bx,dt hu,E8,fieldPlace,gz hn,sE,zP]
   ·cases h
  ·cases h
 ·cases h
theorem ae1 {t:aG} {ps:List (Nat×V)} {v:V} (h:OD P t ps=some v):(ad0 t (ps.map λp=>(p.1,den ids p.2)).toArray).run P w=.ok (den ids v) w:=by
 unfold OD at h;split at h
 ·rename_i fs z hu hz;cases hk:WZ P fs with
  |false=>rw[hk]at h;simp at h
  |true=>
   rw[hk]at h;simp only[cond_true]at h;split at h
   ·rename_i c hc;simp only[aV]at h;subst h;obtain⟨v0,z1,z2⟩:=As (P:=P) (w:=w) (ids:=ids) hz;have hm:=aeX (P:=P) (w:=w) (fs:=fs.toList) (λf hf=>by
     have:=(fR.1 hk) f hf;split at this
     ·rename_i n hn;exact⟨n,hn⟩
     ·cases this)
    have vB:(fs.mapM λ(f:Field)=>(do pure (f.offset,<-oP f.type):Sem (Nat×Nat))).run P w=.ok (fs.toList.map λf=>(f.offset,(eu P f.type).getD 0)).toArray w:=by
     have e:fs=fs.toList.toArray:=by simp
     rw[e,List.mapM_toArray];simp only[Sem.run_map,hm,cz]
    have hf:=Oz (ids:=ids) (place:=λi=>((fs.toList.map λf=>(f.offset,(eu P f.type).getD 0)).toArray)[i]?) (λi x hx=>by
     unfold placesOf at hx;split at hx
     ·rename_i f hf;split at hx
      ·rename_i n hn;simp only[aV]at hx;subst hx;simp[hf,hn]
      ·cases hx
     ·cases hx) ps z c hc
    have At:v0.cells=(ah ids z).toArray:=by apply fe;simpa using z2
    simp only[ad0,bx,z1,cz,dt hu,vB,At];simp only[den];rw[hf];rfl
   ·cases h
 ·rename_i n el z hu hz;split at h
  ·rename_i m hm;split at h
   ·rename_i c hc;simp only[aV]at h;subst h;obtain⟨v0,z1,z2⟩:=As (P:=P) (w:=w) (ids:=ids) hz;have hf:=Oz (ids:=ids) (place:=λi=>some (i*m,m)) (λi x hx=>hx) ps z c hc;have At:v0.cells=(ah ids z).toArray:=by apply fe;simpa using z2
    simp only[ad0,bx,z1,cz,dt hu,gz hm,At];simp only[den];rw[hf];rfl
   ·cases h
  ·cases h
 ·cases h
end
section
variable{ids:List Nat} {P:aF} {w:ae} {e:ba->V} {ρ:ba->ab}
theorem ae2 {t:aG} {x v:V} (h:OE P t x=some v) (ty:aG) (ts:Array aG) (ht:ts[0]?=some t):(Builtin.len_ ts ty #[den ids x]).run P w=.ok (den ids v) w:=by
 unfold OE at h;split at h<;>first
  |(rename_i hu
    simp only[aV]at h;subst h;simp[Builtin.len_,ht,bx,dt hu,den,goInt]
    done)
  |cases h
theorem W8 (ps:Array (Nat×ba)) (a9:∀x,ρ x=den ids (e x)):(ps.map λ(p:Nat×ba)=>(p.1,ρ p.2))=((Jj e ps).map λp=>(p.1,den ids p.2)).toArray:=by
 apply fe;simp[Jj,a9]
theorem ae3 (l:List ba) (a9:∀x,ρ x=den ids (e x)):aD ids (l.map e)=l.map ρ:=by
 rw[xR,mr];apply qD;intro x _;exact(a9 x).symm
theorem CI {x:V} {y i:Nat} (code:BoundsCode) (h:vA x y=some i):(zQ (den ids x) y code).run P w=.ok i w/\i<=y:=by
 unfold vA at h;split at h
 ·rename_i k j;cases hb:bu j y with
  |false=>rw[hb]at h;cases h
  |true=>
   rw[hb]at h;obtain rfl:j=i:=by simpa using h
   have hle:=du hb;refine⟨?_,hle⟩;have h2:(0:Int)<=cJ j/\cJ j<=(y:Int):=⟨zT j,Int.ofNat_le.2 hle⟩;simp only[zQ,den,asIntOf,bx,dg,cz,if_pos h2];rfl
 ·cases h
theorem OJ (a9:∀x,ρ x=den ids (e x)) {lo hi:Option ba} {len cap h l:Nat} (b:Bool) (h1:py e hi cap len=some h) (h2:py e lo h 0=some l):
 (tF b len cap (lo.map ρ) (hi.map ρ) none).run P w=.ok (l,h,cap) w:=by
 unfold py at h1 h2;cases hi with
 |none=>
  obtain rfl:len=h:=by simpa using h1
  cases lo with
  |none=>
   obtain rfl:0=l:=by simpa using h2
   simp[tF,jw]
  |some x=>
   have:=CI (P:=P) (ids:=ids) (w:=w) .sliceB h2;simp[tF,jw,a9,this.1]
 |some y=>
  have a1:=λc=>(CI (P:=P) (ids:=ids) (w:=w) c h1).1;cases lo with
  |none=>
   obtain rfl:0=l:=by simpa using h2
   simp[tF,jw,a9,a1]
  |some x=>
   have:=CI (P:=P) (ids:=ids) (w:=w) .sliceB h2;simp[tF,jw,a9,this.1,a1]
theorem ae4 (a9:∀x,ρ x=den ids (e x)) {t:aG} {x:ba} {lo hi:Option ba} {v:V} (h:OF P e t (e x) lo hi=some v):(tD t (ρ x) (lo.map ρ) (hi.map ρ) none).run P w=.ok (den ids v) w:=by
 unfold OF at h;have fin:∀(c l off z i:Nat),(if c=l then(⟨ids.getD i 0,off,none⟩:aO)else u5 ⟨ids.getD i 0,off,none⟩ (l*z))=⟨ids.getD i 0,bif aq c l then off else off+l*z,none⟩:=by
  intro c l off z i;by_cases hc:c=l
  ·subst hc;simp
  ·have:aq c l=false:=by
    cases hb:aq c l with
    |true=>exact absurd (ck hb) hc
    |false=>rfl
   rw[if_neg hc,this,iE];rfl
 split at h
 ·rename_i el i off n c hu hx;split at h
  ·rename_i hh z h1 hz;split at h
   ·rename_i l h2;obtain rfl:=cA h;have hb:=OJ (P:=P) (w:=w) a9 true h1 h2;have hs:=gz (P:=P) (w:=w) hz;have:=fin c l off z i;simp only[den,<-this];have run:(tD t (ρ x) (lo.map ρ) (hi.map ρ) none).run P w=.ok (.slice (if c=l then some ⟨ids.getD i 0,off,none⟩else some (u5 ⟨ids.getD i 0,off,none⟩ (l*z))) (hh-l) (c-l)) w:=by
     simp[tD,Ev,dt hu,a9,hx,den,hb,hs,jw]
    rw[run];by_cases hc:c=l
    ·rw[if_pos hc,if_pos hc]
    ·rw[if_neg hc,if_neg hc]
   ·cases h
  ·cases h
 ·rename_i arr i off hu hx;split at h
  ·rename_i n el OK;split at h
   ·rename_i hh z h1 hz;split at h
    ·rename_i l h2;obtain rfl:=cA h;have hb:=OJ (P:=P) (w:=w) a9 false h1 h2;have hs:=gz (P:=P) (w:=w) hz;have:=fin n l off z i;simp only[den,<-this];simp[tD,Ev,dt hu,dt OK,asAddr,a9,hx,den,hb,hs,jw]
    ·cases h
   ·cases h
  ·cases h
 ·rename_i n el i off hu hx;split at h
  ·rename_i hh z h1 hz;split at h
   ·rename_i l h2;obtain rfl:=cA h;have hb:=OJ (P:=P) (w:=w) a9 false h1 h2;have hs:=gz (P:=P) (w:=w) hz;have:=fin n l off z i;simp only[den,<-this];simp[tD,i_,dt hu,a9,hx,den,hb,hs,jw]
   ·cases h
  ·cases h
 ·cases h
theorem W9 (a9:∀x,ρ x=den ids (e x)) {lo:Option ba} {hi mx:ba} {len cap m h l:Nat} (b:Bool) (h0:vA (e mx) cap=some m) (h1:vA (e hi) m=some h) (h2:py e lo h 0=some l):
 (tF b len cap (lo.map ρ) (some (ρ hi)) (some (ρ mx))).run P w=.ok (l,h,m) w:=by
 have a0:=λc=>(CI (P:=P) (ids:=ids) (w:=w) c h0).1;have a1:=λc=>(CI (P:=P) (ids:=ids) (w:=w) c h1).1;unfold py at h2;cases lo with
 |none=>
  obtain rfl:0=l:=by simpa using h2
  simp[tF,jw,a9,a0,a1]
 |some x=>
  have:=λc=>(CI (P:=P) (ids:=ids) (w:=w) c h2).1;simp[tF,jw,a9,a0,a1,this]
theorem ae5 (a9:∀x,ρ x=den ids (e x)) {t:aG} {x:ba} {lo:Option ba} {hi mx:ba} {v:V} (h:OG P e t (e x) lo hi mx=some v):(tD t (ρ x) (lo.map ρ) (some (ρ hi)) (some (ρ mx))).run P w=.ok (den ids v) w:=by
 unfold OG at h;have fin:∀(c l off z i:Nat),(if c=l then(⟨ids.getD i 0,off,none⟩:aO)else u5 ⟨ids.getD i 0,off,none⟩ (l*z))=⟨ids.getD i 0,bif aq c l then off else off+l*z,none⟩:=by
  intro c l off z i;by_cases hc:c=l
  ·subst hc;simp
  ·have:aq c l=false:=by
    cases hb:aq c l with
    |true=>exact absurd (ck hb) hc
    |false=>rfl
   rw[if_neg hc,this,iE];rfl
 split at h
 ·rename_i arr i off hu hx;split at h
  ·rename_i n el OK;split at h
   ·rename_i m z h0 hz;split at h
    ·rename_i hh h1;split at h
     ·rename_i l h2;obtain rfl:=cA h;have hb:=W9 (P:=P) (w:=w) (len:=n) a9 false h0 h1 h2;have hs:=gz (P:=P) (w:=w) hz;have:=fin m l off z i;simp only[den,<-this];simp[tD,Ev,dt hu,dt OK,asAddr,a9,hx,den,hs,jw]at hb⊢;simp[hb,hs]
     ·cases h
    ·cases h
   ·cases h
  ·cases h
 ·rename_i n el i off hu hx;split at h
  ·rename_i m z h0 hz;split at h
   ·rename_i hh h1;split at h
    ·rename_i l h2;obtain rfl:=cA h;have hb:=W9 (P:=P) (w:=w) (len:=n) a9 false h0 h1 h2;have hs:=gz (P:=P) (w:=w) hz;have:=fin m l off z i;simp only[den,<-this];simp[tD,i_,dt hu,a9,hx,den,hs,jw]at hb⊢;simp[hb,hs]
    ·cases h
   ·cases h
  ·cases h
 ·cases h
theorem ae6 {arr:aG} {x v:V} (h:OH P arr x=some v):(Instr.arrayAt arr (den ids x)).run P w=.ok (den ids v) w:=by
 unfold OH at h;split at h
 ·rename_i n el i off len c hu;cases hq:bu n len with
  |false=>rw[hq]at h;cases h
  |true=>
   rw[hq]at h;obtain rfl:=cA h;have hle:=du hq;simp[Instr.arrayAt,dt hu,den,jw,Nat.not_lt.2 hle]
 ·cases h
theorem W_ (a9:∀x,ρ x=den ids (e x)) (o:ao) (v:V) (h:E7 P e o.op=some v):(execOp ρ o).run P w=.ok (.value (den ids v)) w:=by
 unfold execOp;unfold E7 at h;split at h
 ·rename_i x ho;simp only[aV]at h;subst h;simp[ho,a9]
 ·rename_i x ho;simp only[aV]at h;subst h;simp[ho,a9]
 ·rename_i c a b ho;split at h
  ·rename_i cb hc;simp only[aV]at h;subst h;simp only[ho,a9,hc,den,asBool,bx,dg,cz,aeQ]
  ·cases h
 ·rename_i x ho;obtain⟨rfl,hk⟩:=aeY (ids:=ids) h;simp only[ho,a9];unfold Jm at h;split at h<;>first|(simp_all[den];done)|cases h
 ·rename_i op t x y yt ho;cases hr:Jn op y with
  |true=>rw[hr]at h;cases h
  |false=>
   rw[hr]at h;simp only[cond_false]at h;simp only[ho,a9];rw[bx,OI h];rfl
 ·rename_i op t x ho;simp only[ho,a9];rw[bx,aeV h];rfl
 ·rename_i s d x ho;split at h
  ·rename_i d' k n hs hd hx;simp only[aV]at h;subst h;simp[ho,a9,hx,den,convert,bx,dt hs,dt hd,Conv.intToInt]
  ·cases h
 ·rename_i f a b ho;simp only[aV]at h;subst h;simp only[ho,Instr.makeFunc,den,ae3 _ a9,bx,dg,cz];rw[show a.map ρ=(a.toList.map ρ).toArray from by apply fe;simp,show b.map ρ=(b.toList.map ρ).toArray from by apply fe;simp]
 ·rename_i t x ho;split at h
  ·cases h
  ·rename_i d hd hu;simp only[aV]at h;subst h;simp only[ho,a9,Instr.makeInterface,bx,dt hu,cz];cases d<;>first|(simp[den];done)|(exact absurd rfl (hd _))
  ·cases h
 ·rename_i t ps ho;try simp only[ho]
  rw[bx];have:=ae1 (ids:=ids) (w:=w) h;rw[show(ps.map λ(x:Nat×ba)=>match x with|(i,x)=>(i,ρ x))=(ps.map λ(p:Nat×ba)=>(p.1,ρ p.2))from rfl,W8 ps a9,this];rfl
 ·rename_i s x f ho;simp only[ho,a9];rw[bx,ae0 h];rfl
 ·rename_i s x f ho;split at h
  ·rename_i fs l hu hx;split at h
   ·rename_i fd E8;simp only[ho,a9,hx,den,Instr.field,bx,dt hu,cz,E8,asAgg,dg,OA h]
   ·cases h
  ·cases h
 ·rename_i t x ix ho;simp only[ho,a9];rw[bx,aeZ h];rfl
 ·rename_i t x ix ho;split at h
  ·rename_i n el l k j hu hx iu;cases hb:cu j n with
   |false=>rw[hb]at h;simp at h
   |true=>
    rw[hb]at h;simp only[cond_true]at h;have hj:j<n:=by rw[ie]at hb;exact hb
    split at h
    ·rename_i z hz;have h1:(0:Int)<=cJ j/\cJ j<(n:Int):=by simp only[xy];omega
     simp only[ho,a9,hx,iu,den,Instr.index,asIntOf,bx,dg,cz,dt hu];rw[if_pos h1];have:=OA (ids:=ids) (w:=w) h;simp[bx,gz hz,this]
    ·cases h
  ·rename_i s k j hu hx iu;split at h
   ·rename_i b hb;cases h;have h0:(0:Int)<=cJ j:=zT j;have h1:(cJ j).toNat=j:=rfl;simp only[ho,a9,hx,iu,den,Instr.index,asIntOf,bx,dg,cz,dt hu,if_pos h0,h1,hb]
   ·cases h
  ·cases h
 ·rename_i x i ho;split at h
  ·rename_i l hx;split at h
   ·rename_i u hu;simp only[aV]at h;subst h;simp[ho,a9,hx,den,Instr.extract,xR,hu]
   ·cases h
  ·cases h
 ·rename_i c ho;split at h
  ·rename_i x t ts hc ha ht;obtain⟨callee,args,OL⟩:=c;simp only at hc ha ht;subst hc;have tS:args=#[x]:=by apply fe;simpa using ha
   have h0:OL[0]?=some t:=by rw[<-Array.getElem?_toList,ht];rfl
   subst tS;simp only[ho,resolve,bx,dg,cz,invoke,builtin];rw[show(#[x].map ρ)=#[den ids (e x)] by simp[a9]];rw[ae2 h _ _ h0];rfl
  ·rename_i x y hc ha;obtain⟨callee,args,OL⟩:=c;simp only at hc ha;subst hc;have tS:args=#[x,y]:=by apply fe;simpa using ha
   subst tS;unfold W4 at h;split at h
   ·rename_i k a k2 b hx hy;obtain rfl:=cA h;simp[ho,resolve,invoke,builtin,a9,hx,hy,den,Builtin.min_,Builtin.min2,jw]
   ·cases h
  ·rename_i x y hc ha;obtain⟨callee,args,OL⟩:=c;simp only at hc ha;subst hc;have tS:args=#[x,y]:=by apply fe;simpa using ha
   subst tS;unfold W5 at h;split at h
   ·rename_i k a k2 b hx hy;obtain rfl:=cA h;simp[ho,resolve,invoke,builtin,a9,hx,hy,den,Builtin.max_,Builtin.max2,jw]
   ·cases h
  ·cases h
 ·rename_i t x lo hi ho;simp only[ho,Option.map_none];rw[bx,ae4 a9 h];rfl
 ·rename_i t x lo hi mx ho;simp only[ho,lO];rw[bx,ae5 a9 h];rfl
 ·rename_i arr x ho;simp only[ho,a9];rw[bx,ae6 h];rfl
 ·cases h
end
end Vx
namespace Vx
open Go Go.RowKit Go.BigFrame Sx
structure BT where
 t:aG
 fz:Nat×Nat
instance(n:Nat):OfNat BT n:=⟨⟨n,(0,0)⟩⟩
instance:Coe aG BT:=⟨λt=>⟨t,(0,0)⟩⟩
def xY:BT->aG->Bool
 |⟨t,(0,0)⟩,n=>aq t n
 |_,_=>false
theorem OM {b:BT} {n:Nat} (h:xY b n=true):b=⟨n,(0,0)⟩:=by
 unfold xY at h;split at h
 ·rw[ck h]
 ·cases h
structure VB where
 wr:Bool
 ty:BT
 c:List V
def az (ids:List Nat) (id:Nat) (b:VB):ai:=⟨id,b.wr,.cells (ah ids b.c).toArray b.ty.t b.ty.fz⟩
def lits (ids:List Nat):List Nat->List VB->List ai
 |i::is,b::bl=>az ids i b::lits ids is bl
 |_,_=>[]
def tT (P:aF) (bl:List VB) (t:aG) (x:V):Option V:=match x with
 |.ptr i off=>(match bl[i]?with
  |some b=>sD P t b.c off
  |none=>none)
 |_=>none
def Jo (P:aF) (bl:List VB) (t:aG) (x v:V):Option (List VB):=match x with
 |.ptr i off=>(match bl[i]?with
  |some ⟨true,⟨ty,(0,0)⟩,c⟩=>(match eu P t with
   |some n=>bif pr v&&(lX (jz v)&&aq (bY (jz v)) n)then(match Jf c off n (jz v)with|some c'=>some (bl.set i ⟨true,⟨ty,(0,0)⟩,c'⟩)|none=>none)else none
   |none=>none)
  |_=>none)
 |_=>none
def kR (z:List V):Nat->List V
 |0=>[]
 |n+1=>z++kR z n
def E9 (P:aF) (e:ba->V) (n:Nat):Op->Option (V×VB)
 |.alloc t=>(match mB P t with|some z=>some (.ptr n 0,⟨true,t,z⟩)|none=>none)
 |.box t x=>bif pr (e x)then some (.ptr n 0,⟨true,t,jz (e x)⟩)else none
 |.buildSlice t len ps=>(match P.underlying t with
  |some (.slice el)=>(match eu P el,mB P el with
   |some (z+1),some zc=>bif aq (bY zc) (z+1)&&(bu (len*(z+1)) (2^24)&&!(aq len 0&&(aq z 5||aq z 13)))then(match xX (λi=>some (i*(z+1),z+1)) (kR zc len) (Jj e ps)with|some c=>some (.sl n 0 len len,⟨true,el,c⟩)|none=>none)else none
   |_,_=>none)
  |_=>none)
 |_=>none
def bM (n:Nat):List VB->Bool
 |[]=>true
 |b::l=>bj n b.c&&bM n l
section
variable{ids:List Nat} {P:aF} {w w0:ae} {ms:List Nat} {e:ba->V} {ρ:ba->ab} {bl:List VB} {R:List ai}
theorem xZ:∀(is:List Nat) (bl:List VB),is.length=bl.length->(lits ids is bl).length=bl.length
 |[],[],_=>rfl
 |i::is,b::bl,h=>by simp[lits,xZ is bl (by simpa using h)]
 |[],_::_,h=>by simp at h
 |_::_,[],h=>by simp at h
theorem Jp:∀(is:List Nat) (bl:List VB) {k:Nat} {b:VB},is.length=bl.length->bl[k]?=some b->(lits ids is bl)[k]?=some (az ids (is.getD k 0) b)
 |[],[],k,b,_,h=>by simp at h
 |i::is,c::bl,k,b,hl,h=>by
  cases k with
  |zero=>simp only[List.getElem?_cons_zero,aV]at h;subst h;simp[lits]
  |succ k=>simpa[lits]using Jp is bl (by simpa using hl) (by simpa using h)
 |[],_::_,_,_,h,_=>by simp at h
 |_::_,[],_,_,h,_=>by simp at h
theorem x_:∀(is:List Nat) (bl:List VB) (k:Nat) (b:VB),is.length=bl.length->(lits ids is bl).set k (az ids (is.getD k 0) b)=lits ids is (bl.set k b)
 |[],[],k,b,_=>by simp[lits]
 |i::is,c::bl,k,b,hl=>by
  cases k with
  |zero=>simp[lits]
  |succ k=>simpa[lits]using x_ is bl k b (by simpa using hl)
 |[],_::_,_,_,h=>by simp at h
 |_::_,[],_,_,h=>by simp at h
theorem eZ (is js:List Nat) (bl cl:List VB) (h:is.length=bl.length):lits ids (is++js) (bl++cl)=lits ids is bl++lits ids js cl:=by
 induction is generalizing bl with
 |nil=>cases bl with
  |nil=>simp[lits]
  |cons=>simp at h
 |cons i is ih=>cases bl with
  |nil=>simp at h
  |cons b bl=>simp[lits,ih bl (by simpa using h)]
theorem e_ {more:List Nat}:∀(is:List Nat) (bl:List VB),bM ids.length bl=true->lits (ids++more) is bl=lits ids is bl
 |[],_,_=>by simp[lits]
 |_::_,[],_=>by simp[lits]
 |i::is,b::bl,h=>by
  simp only[bM,bg]at h;simp only[lits,az,j4 _ h.1,e_ is bl h.2]
theorem fE (hl:ids.length=bl.length) (S:St ms w0 (lits ids ids bl++R) w) {i:Nat} {b:VB} (h:bl[i]?=some b):
 (lits ids ids bl++R)[i]?=some (az ids (ids.getD i 0) b)/\w.heap[ids.getD i 0]?=some (.cells (ah ids b.c).toArray b.ty.t b.ty.fz):=by
 have h1:=Jp (ids:=ids) ids bl hl h;have h2:(lits ids ids bl++R)[i]?=some (az ids (ids.getD i 0) b):=by
  rw[gV (by rw[xZ ids bl hl];rcases cN i bl.length with h'|h';exact h';simp[h']at h)];exact h1
 exact⟨h2,S.at_ i _ h2⟩
theorem Jq (hl:ids.length=bl.length) (S:St ms w0 (lits ids ids bl++R) w) {t:aG} {x v:V} (h:tT P bl t x=some v):(qu t (den ids x)).run P w=.ok (den ids v) w:=by
 unfold tT at h;split at h
 ·rename_i i off;split at h
  ·rename_i b hb;have aM:=(fE hl S hb).2;unfold sD at h;simp only[qu,den,i_,bx,dg,cz];split at h
   ·rename_i n ha hn;split at h
    ·rename_i c hc;simp only[aV]at h;subst h;obtain⟨g1,g2,g3⟩:=xW (ids:=ids) hc;refine EC (n:=n) aM ?_ ?_ ?_ ?_
     ·unfold qX at ha;split at ha
      ·rename_i d hd;rw[hd];simpa using ha
      ·cases ha
     ·unfold eu at hn;split at hn
      ·rename_i d hd;rw[hd];simpa using hn
      ·cases hn
     ·apply fe;simp[Array.toList_extract,List.extract,g1]
     ·simpa using g2
    ·cases h
   ·rename_i ha;have:=Oq (ids:=ids) h;refine Cm aM ?_ (by simpa using this);unfold qX at ha;split at ha
    ·rename_i d hd;rw[hd];simpa using ha
    ·cases ha
   ·cases h
  ·cases h
 ·cases h
theorem Xa (hl:ids.length=bl.length) (S:St ms w0 (lits ids ids bl++R) w) {t:aG} {x v:V} {bl':List VB} (h:Jo P bl t x v=some bl'):
 ∃w',(IC t (den ids x) (den ids v)).run P w=.ok () w'/\St ms w0 (lits ids ids bl'++R) w'/\ids.length=bl'.length:=by
 unfold Jo at h;split at h
 ·rename_i i off;split at h
  ·rename_i ty c hb;split at h
   ·rename_i n hn;cases hq:pr v&&(lX (jz v)&&aq (bY (jz v)) n)with
    |false=>rw[hq]at h;simp at h
    |true=>
     rw[hq]at h;simp only[cond_true]at h;simp only[bg]at hq;obtain⟨q1,q2,q3⟩:=hq;have q3:=ck q3;split at h
     ·rename_i c' yb;simp only[aV]at h;subst h;obtain⟨s1,s2⟩:=WX (ids:=ids) yb;obtain⟨hi,aM⟩:=fE hl S hb;have hlen:(ah ids (jz v)).length=n:=by rw[kr,q3]
      have bG:=IU (P:=P) (off:=off) (v:=den ids v) (vs:=ah ids (jz v)) aM (Ot q1) (by
       unfold eu at hn;split at hn
       ·rename_i d hd;rw[hd];simp[hlen]at hn⊢;exact hn
       ·cases hn) (by simpa[hlen]using s2) (by rw[fR];exact Ar q2)
      have fG:=S.step hi rfl (Ch.setRow w (ids.getD i 0) _) (setRow_heap w (ids.getD i 0) _ (splice (ah ids c).toArray off (ah ids (jz v))) ty (0,0) aM);have qO:splice (ah ids c).toArray off (ah ids (jz v))=(ah ids c').toArray:=by
       apply fe;simp[splice,s1,hlen]
      have iM:i<(lits ids ids bl).length:=by rw[xZ ids bl hl];rcases cN i bl.length with h'|h';exact h';simp[h']at hb
      refine⟨w.setRow (ids.getD i 0) (splice (ah ids c).toArray off (ah ids (jz v))),?_,?_,?_⟩
      ·simp only[IC,den,i_,bx,dg,cz];exact bG
      ·have yc:=x_ (ids:=ids) ids bl i ⟨true,ty,c'⟩ hl;rw[<-yc,<-List.set_append_left _ _ iM];rw[qO]at fG⊢;exact fG
      ·simpa using hl
     ·cases h
   ·cases h
  ·cases h
 ·cases h
theorem Xb (z:List V) (n:Nat):ah ids (kR z n)=(lP n (ah ids z)).flatten:=by
 induction n with
 |zero=>simp[kR,ah]
 |succ n ih=>simp[kR,iG,ih,List.replicate_succ]
theorem ON (z:Array ab) (m:Nat) (hm:z.size=m+1):∀n,((Array.range (n*(m+1))).map (λi=>z[i%z.size]!)).toList=(lP n z.toList).flatten:=by
 intro n;simp only[Array.toList_map,Array.toList_range];induction n with
 |zero=>simp
 |succ n ih=>
  rw[List.replicate_succ',List.flatten_append,<-ih,Nat.succ_mul,List.range_add,qB,mr];congr 1;simp only[List.flatten_cons,List.flatten_nil,cQ];apply u_;intro i;rw[iZ];by_cases hi:i<m+1
  ·rw[m9 hi];simp only[lO,Function.comp];rw[hm,show(n*(m+1)+i)%(m+1)=i by rw[Nat.mul_comm,Nat.mul_add_mod,Nat.mod_eq_of_lt hi]];simp[getElem!_pos,hm,hi]
  ·rw[iK (by simpa using hi),iK (by simp[hm];omega)];rfl
end
end Vx
