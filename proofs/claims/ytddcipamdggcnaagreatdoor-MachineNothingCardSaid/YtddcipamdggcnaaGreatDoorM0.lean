/- Part 0 of the proof. -/
import Derived.WalkKit
import Derived.Below
import Derived.BigFrame
import Derived.KernelRfl
import Derived.LoopN
import Derived.Laws.CopyRow
import Derived.Laws.StructEq
import Derived.ChangeKeysEq
import Derived.IntWalk
import Derived.Orders
import Derived.Deep.Upon
import Derived.WideMake
set_option linter.all false
set_option maxRecDepth 100000
set_option maxHeartbeats 4000000
noncomputable section
theorem oM{p:Prop}(h:p:=by omega):p:=h
theorem kR{p:Prop}(h:p:=by kernel_rfl):p:=h
theorem dC{p:Prop}(h:p:=by decide):p:=h
theorem sP{p:Prop}(h:p:=by simp):p:=h
theorem rF{p:Prop}(h:p:=by rfl):p:=h
open Array renaming getElem?_replicate->Ba,getD->DC,toList_append->Gt,getElem?_eq_none->Kq,all_eq_true_iff_forall_mem->Kv,getElem?_eq_getElem->Kw,toList_setIfInBounds->Kx,toList_map->YB,ext'->fD,getD_eq_getD_getElem?->jG,getElem?_setIfInBounds->su,length_toList->wF,replicate->zm
open BitVec renaming toNat_ofInt->Ku,ofInt->pP
open Bool renaming or_eq_true->Dz,true->af,false->ag,and_eq_true->bD,not_eq_true'->n7
open Go renaming ResultVar->Ks,Program->aG,Addr->aI,TypeId->aM,Value->ai,World->aj,Oper->aw,Operand->bg,Exit->dE,run_underlying->dw,Code->eH,IntKind->fH,FuncId->fl,heap_alloc_new->n6,sizeOf->pN,MapEntry->wH
open Go.Addr renaming add_lit->iK,add->qJ
open Go.Builtin renaming append_->nh,zeroCells->qM
open Go.Code renaming rounds->af7
open Go.Exit renaming inBlock->Kr
open Go.Instr renaming storeAt->Gq,findNow->PN,fill->aga,fieldAt->agb,build->agc,sureAddr->iY,sliceBound->oP,loadAt->pO,sliceAt->qO,sliceBounds->qP,indexAt->tT,slice->zx
open Go.IntKind renaming wrap->zo
open Go.Op renaming unary->Yy,equal->Yz,intArith->af_
open Go.Oper renaming wp->qK
open Go.Region renaming wanted->gk,ready->sD,binds->sw
open Go.Result renaming andThen_ok->ct,andThen->je
open Go.Sem renaming run_bind->bz,run_pure->cZ
open Go.Src renaming ofSlice->qN
open Go.Value renaming cells->Yx,int->fI
open Go.World renaming cell?->zl
open Int renaming natCast_nonneg->Bg,ofNat_eq_natCast->KB,emod_eq_of_lt->Kt,ofNat->dG
open List renaming any_eq_true->A9,mem_filter->A_,pairwise_cons->Be,foldl_cons->Bh,getElem?_of_mem->DA,length_map->Gs,getElem_append_left->KA,getElem?_set_ne->Ko,pairwise_append->Ky,length_nil->Kz,getElem?_set_self->PK,length_range->PM,count_replicate_self->Yu,getElem_append_right->Yv,append_assoc->bW,range->bo,mem_cons->cF,append_nil->cT,mem_append->eI,length_append->fL,nil_append->fQ,cons_append->fm,all_eq_true->gQ,map_cons->gb,getD->gd,getElem?_append_left->gm,take_append_drop->jH,getElem?_map->jW,getElem?_toArray->jX,getElem?_eq_getElem->jY,mem_singleton->jZ,length_cons->jf,getElem?_eq_none->ju,sublist_append_right->kG,map_map->l5,eq_nil_of_length_eq_zero->lz,mem_map->n8,replicate->n_,map_congr_left->ni,getElem?_range->pQ,mem_of_getElem?->sE,nodup_cons->tS,getD_eq_getElem?_getD->tV,map_append->tX,range_succ_eq_map->tZ,getElem?_append_right->vg,length_take->zr,ext_getElem?->zv
open List.Mem renaming head->DB,tail->Yw
open List.Perm renaming swap->Bb,append_right->Bc,cons->vh,refl->zq
open List.Sublist renaming append_left->mD
open List.cons renaming inj->wI
open Nat renaming lt_of_lt_of_le->PJ,mul_le_mul_right->PL,lt_of_not_le->PO,beq->aA,and_two_pow_sub_one_eq_mod->af8,add_sub_cancel_left->af9,ble->bZ,lt_or_ge->c9,le_refl->cY,eq_of_beq_eq_true->ck,zero_add->dS,blt->db,le_of_ble_eq_true->eO,le_trans->ia,blt_eq->jt,add_zero->lA,add_mul->n9,eq_zero_or_pos->tU,beq_refl->tW,add_assoc->tY,ble_eq_true_of_le->wG
open Option renaming getD_some->Yt,some->aa,none->ae,map_eq_some_iff->iX,map_some->oO
open Option.some renaming injEq->aW,inj->cG
open Prod.mk renaming injEq->bC
namespace Sx
open Go Go.RowKit Go.BigFrame
structure Ch (ms:List Nat) (w w':aj):Prop where
 os:w'.os=w.os
 tape:w'.tape=w.tape
 output:w'.output=w.output
 size:w.heap.size<=w'.heap.size
 block:∀k,k<w.heap.size->k∉ms->w'.heap[k]?=w.heap[k]?
def Ch.refl (ms:List Nat) (w:aj):Ch ms w w:=⟨rfl,rfl,rfl,cY _,λ_ _ _=>rfl⟩
def Ch.trans {ms ns:List Nat} {a b c:aj} (h:Ch ms a b) (k:Ch ns b c) (hs:∀x∈ns,x∈ms\/a.heap.size<=x):Ch ms a c:=
 ⟨k.os.trans h.os,k.tape.trans h.tape,k.output.trans h.output,ia h.size k.size,λi hi hm=>
  (k.block i (PJ hi h.size) (λhn=>by rcases hs i hn with h1|h1;exact hm h1;omega)).trans (h.block i hi hm)⟩
def Ch.below {w w':aj} (h:Ch [] w w'):Below w.heap.size w w':=⟨h.os,h.tape,h.output,h.size,λk hk=>h.block k hk sP⟩
def Ch.drew {ms:List Nat} {w w':aj} (h:Ch ms w w'):Ch ms w {w' with drawn:=w'.drawn+1}:=⟨h.os,h.tape,h.output,h.size,h.block⟩
def Ch.alloc (ms:List Nat) (w:aj) (o:Obj):Ch ms w (w.alloc o):=
 ⟨rfl,rfl,rfl,by show w.heap.size<=(w.heap.push o).size;simp,λk hk _=>Below.heap_alloc _ _ _ hk⟩
def Ch.setRow (w:aj) (g:Nat) (cs:Array ai):Ch [g] w (w.setRow g cs):=
 ⟨rfl,rfl,rfl,by simp[World.setRow],λk hk hm=>by
  simp only[World.setRow,Array.getElem?_modify];rw[if_neg (by intro e;exact hm (by simp[e]))]⟩
structure ao where
 id:Nat
 wr:Bool
 obj:Obj
structure St (ms:List Nat) (w0:aj) (bs:List ao) (w:aj):Prop where
 ch:Ch ms w0 w
 at_:∀(i:Nat) x,bs[i]?=aa x->w.heap[x.id]?=aa x.obj
 own:∀(i:Nat) x,bs[i]?=aa x->x.wr=af->x.id∈ms\/w0.heap.size<=x.id
 apart:∀(i j:Nat) x y,bs[i]?=aa x->bs[j]?=aa y->i≠j->x.wr=af->x.id≠y.id
def oe {w:aj} {k:Nat} {x:Obj} (h:w.heap[k]?=aa x):k<w.heap.size:=by
 rcases c9 k w.heap.size with h1|h1
 ·exact h1
 ·simp[h1]at h
def St.nil (ms:List Nat) (w:aj):St ms w [] w:=⟨Ch.refl _ _,sP,sP,sP⟩
def St.quiet {ms:List Nat} {w0 w w':aj} {bs:List ao} (h:St ms w0 bs w) (hc:Ch [] w w'):St ms w0 bs w':=
 ⟨h.ch.trans hc sP,λi x hx=>(hc.block _ (oe (h.at_ i x hx)) sP).trans (h.at_ i x hx),h.own,h.apart⟩
def St.step {ms:List Nat} {w0 w w':aj} {bs:List ao} (h:St ms w0 bs w) {i:Nat} {x:ao} (hi:bs[i]?=aa x) (hx:x.wr=af) (hc:Ch [x.id] w w') {o':Obj} (ho:w'.heap[x.id]?=aa o'):
 St ms w0 (bs.set i ⟨x.id,af,o'⟩) w':=by
 have t_:∀(j:Nat) y,(bs.set i ⟨x.id,af,o'⟩)[j]?=aa y->(j=i/\y=⟨x.id,af,o'⟩)\/(j≠i/\bs[j]?=aa y):=by
  intro j y hy;by_cases hj:i=j
  ·subst hj;rw[PK (by rcases c9 i bs.length with h1|h1;exact h1;simp[h1]at hi)]at hy;exact Or.inl ⟨rfl,by simpa using hy.symm⟩
  ·rw[Ko hj]at hy;exact Or.inr ⟨λe=>hj e.symm,hy⟩
 refine⟨h.ch.trans hc (by simpa using h.own i x hi hx),?_,?_,?_⟩
 ·intro j y hy;rcases t_ j y hy with⟨rfl,rfl⟩|⟨cL,hy⟩
  ·exact ho
  ·exact(hc.block _ (oe (h.at_ j y hy)) (by simpa using(h.apart i j x y hi hy (λe=>cL e.symm) hx).symm)).trans (h.at_ j y hy)
 ·intro j y hy hw;rcases t_ j y hy with⟨rfl,rfl⟩|⟨_,hy⟩
  ·exact h.own _ x hi hx
  ·exact h.own j y hy hw
 ·intro j k y z hy hz cL hw;rcases t_ j y hy with⟨rfl,rfl⟩|⟨h1,hy⟩<;>rcases t_ k z hz with⟨rfl,rfl⟩|⟨h2,hz⟩
  ·exact absurd rfl cL
  ·exact h.apart _ k x z hi hz (λe=>h2 e.symm) hx
  ·exact λe=>h.apart _ j x y hi ‹bs[j]?=aa y› (λe=>h1 e.symm) hx e.symm
  ·exact h.apart _ _ _ _ ‹bs[j]?=aa y› hz cL hw
def St.new {ms:List Nat} {w0 w w':aj} {bs:List ao} (h:St ms w0 bs w) (hc:Ch [] w w') {b:Nat} {o:Obj} (hb:w.heap.size<=b) (ho:w'.heap[b]?=aa o):St ms w0 (⟨b,af,o⟩::bs) w':=by
 have hq:=h.quiet hc;have cH:∀(i:Nat) x,bs[i]?=aa x->x.id<b:=λi x hx=>PJ (oe (h.at_ i x hx)) hb;refine⟨hq.ch,?_,?_,?_⟩
 ·intro i x hx;cases i with
  |zero=>obtain rfl:_=x:=by simpa using hx
         exact ho
  |succ i=>exact hq.at_ i x (by simpa using hx)
 ·intro i x hx hw;cases i with
  |zero=>obtain rfl:_=x:=by simpa using hx
         exact Or.inr (ia h.ch.size hb)
  |succ i=>exact hq.own i x (by simpa using hx) hw
 ·intro i j x y hx hy cL hw;cases i with
  |zero=>
   obtain rfl:_=x:=by simpa using hx
   cases j with
   |zero=>exact absurd rfl cL
   |succ j=>have:=cH j y (by simpa using hy);simp;omega
  |succ i=>
   cases j with
   |zero=>obtain rfl:_=y:=by simpa using hy
          have:=cH i x (by simpa using hx);simp;omega
   |succ j=>exact hq.apart i j x y (by simpa using hx) (by simpa using hy) oM hw
def St.lt {ms:List Nat} {w0 w:aj} {bs:List ao} (h:St ms w0 bs w) {i:Nat} {x:ao} (hi:bs[i]?=aa x):x.id<w.heap.size:=oe (h.at_ i x hi)
def St.pick {ms:List Nat} {w0 w:aj} {bs:List ao} (h:St ms w0 bs w) (is:List Nat) {bs':List ao} (he:is.map (bs[·]?)=bs'.map aa) (hn:is.Nodup):St ms w0 bs' w:=by
 have aS:∀(i:Nat) x,bs'[i]?=aa x->∃j,is[i]?=aa j/\bs[j]?=aa x:=by
  intro i x hx;have h1:(bs'.map aa)[i]?=aa (aa x):=by simp[hx]
  rw[<-he]at h1;simp only[jW,iX]at h1;exact h1
 refine⟨h.ch,?_,?_,?_⟩
 ·intro i x hx;obtain⟨j,_,hj⟩:=aS i x hx;exact h.at_ j x hj
 ·intro i x hx;obtain⟨j,_,hj⟩:=aS i x hx;exact h.own j x hj
 ·intro i k x y hx hy cL;obtain⟨j,ua,hj⟩:=aS i x hx;obtain⟨l,zz,hl⟩:=aS k y hy;refine h.apart j l x y hj hl ?_;intro e;subst e;exact cL ((List.getElem?_inj (by rcases c9 i is.length with h1|h1;exact h1;simp[h1]at ua) hn).1 (ua.trans zz.symm))
def jI (d:TypeDesc):Bool:=match d with|.struct _|.array _ _=>af|_=>ag
section
variable{P:aG}
def Bn {ty:aM} {b:Bool} (h:(P.underlying ty).map jI=aa b) (w:aj):(isAgg ty).run P w=.ok b w:=by
 cases hq:P.underlying ty with
 |none=>simp[hq]at h
 |some d=>
  simp[hq]at h;unfold isAgg;rw[bz,dw hq w];cases d<;>simp_all[jI]
def cell_of {w:aj} {g:Nat} {cs:Array ai} {t:aM} {fr:Nat×Nat} (h:w.heap[g]?=aa (.cells cs t fr)) (o:Nat):w.cell? ⟨g,o,ae⟩=cs[o]?:=by
 simp[zl,h]
def Bo {w:aj} {g off:Nat} {cs:Array ai} {t ty:aM} {fr:Nat×Nat} {v:ai} (hg:w.heap[g]?=aa (.cells cs t fr)) (ha:(P.underlying ty).map jI=aa ag) (hc:cs[off]?=aa v):
 (loadVar ty ⟨g,off,ae⟩).run P w=.ok v w:=by
 unfold loadVar;rw[bz,Bn ha];simp[load,Sem.run,cell_of hg,hc]
def Bp {w:aj} {g off n:Nat} {cs vs:Array ai} {t ty:aM} {fr:Nat×Nat} (hg:w.heap[g]?=aa (.cells cs t fr)) (ha:(P.underlying ty).map jI=aa af) (hn:(P.info? ty).map (·.size)=aa n)
 (hc:cs.extract off (off+n)=vs) (hv:vs.size=n):(loadVar ty ⟨g,off,ae⟩).run P w=.ok (.agg vs) w:=by
 have hl:(loadCells ⟨g,off,ae⟩ vs.toList.length).run P w=.ok vs.toList.toArray w:=
  run_loadCells_list (P:=P) w ⟨g,off,ae⟩ vs.toList (λj v hj=>by
   have Bt:(⟨g,off,ae⟩:aI).add j=⟨g,off+j,ae⟩:=by unfold qJ;split<;>simp_all
   rw[Bt,cell_of hg];have h1:vs[j]?=aa v:=by simpa using hj
   rw[<-hc,Array.getElem?_extract]at h1;split at h1
   ·exact h1
   ·exact absurd h1 sP)
 cases hq:P.info? ty with
 |none=>simp[hq]at hn
 |some i=>
  have hs:i.size=vs.size:=by simpa[hq,hv]using hn
  simp only[wF,Array.toArray_toList]at hl;simp[loadVar,bz,Bn ha,pN,typeInfo,hq,hs,hl]
def splice (cs:Array ai) (off:Nat) (vs:List ai):Array ai:=(cs.toList.take off++vs++cs.toList.drop (off+vs.length)).toArray
def Gv {w:aj} {g off:Nat} {cs:Array ai} {t ty:aM} {v:ai} {vs:List ai} (hg:w.heap[g]?=aa (.cells cs t (0,0))) (hv:v.cells.toList=vs) (hn:(P.info? ty).map (·.size)=aa vs.length)
 (hl:off+vs.length<=cs.size) (h1:vs.all (·.oneCell')=af):(storeVar ty ⟨g,off,ae⟩ v).run P w=.ok () (w.setRow g (splice cs off vs)):=by
 cases hq:P.info? ty with
 |none=>simp[hq]at hn
 |some i=>
  have hs:i.size=vs.length:=by simpa[hq]using hn
  have hz:v.cells.size=vs.length:=by rw[<-hv];simp
  have:=run_storeCells_at (P:=P) g off t vs 0 cs w hg (by simpa using hl) (by simpa using h1);unfold storeVar;simp[bz,pN,typeInfo,hq,hs,hz,hv,splice]at this⊢;exact this
end
def aX (P:aG) (f:fl) (args:Array ai) (w:aj) (R:ai->aj->Prop):Prop:=Calls P f args w λe w'=>∃v,e=.returned v/\R v w'
def aX.mono {P:aG} {f:fl} {args:Array ai} {w:aj} {R R':ai->aj->Prop} (h:aX P f args w R) (hr:∀v w',R v w'->R' v w'):aX P f args w R':=
 Calls.mono h λe w' ⟨v,he,hv⟩=>⟨v,he,hr _ _ hv⟩
def lk (bs:List ao) (i off:Nat):Option (Nat×ai):=
 match bs[i]?with
 |some ⟨b,_,.cells cs _ _⟩=>match cs[off]?with|some v=>aa (b,v)|none=>ae
 |_=>ae
def zA (bs:List ao) (i off n:Nat):Option (Nat×Array ai):=
 match bs[i]?with
 |some ⟨b,_,.cells cs _ _⟩=>match bZ (off+n) cs.size with|true=>aa (b,((cs.toList.drop off).take n).toArray)|false=>ae
 |_=>ae
def zB (bs:List ao) (i off n:Nat):Option Nat:=
 match bs[i]?with
 |some ⟨b,af,.cells cs _ (0,0)⟩=>match bZ (off+n) cs.size with|true=>aa b|false=>ae
 |_=>ae
def wO (bs:List ao) (i off:Nat) (vs:List ai):List ao:=
 match bs[i]?with
 |some ⟨b,wr,.cells cs t fr⟩=>bs.set i ⟨b,wr,.cells (splice cs off vs) t fr⟩
 |_=>bs
def YM {bs:List ao} {i off b:Nat} {v:ai} (h:lk bs i off=aa (b,v)):∃wr cs t fr,bs[i]?=aa ⟨b,wr,.cells cs t fr⟩/\cs[off]?=aa v:=by
 unfold lk at h;split at h
 ·rename_i b' wr cs t fr hb;split at h
  ·rename_i v' hv;simp only[aW,bC]at h;obtain⟨rfl,rfl⟩:=h;exact⟨wr,cs,t,fr,hb,hv⟩
  ·simp at h
 ·simp at h
def KO {bs:List ao} {i off n b:Nat} {vs:Array ai} (h:zA bs i off n=aa (b,vs)):∃wr cs t fr,bs[i]?=aa ⟨b,wr,.cells cs t fr⟩/\cs.extract off (off+n)=vs/\vs.size=n:=by
 unfold zA at h;split at h
 ·rename_i b' wr cs t fr hb;split at h
  ·rename_i hle;simp only[aW,bC]at h;obtain⟨rfl,rfl⟩:=h;have:=eO hle;have e:cs.extract off (off+n)=((cs.toList.drop off).take n).toArray:=by
    apply fD;simp[List.extract]
   exact⟨wr,cs,t,fr,hb,e,by simp;omega⟩
  ·simp at h
 ·simp at h
def KR {bs:List ao} {i off n b:Nat} (h:zB bs i off n=aa b):∃cs t,bs[i]?=aa ⟨b,af,.cells cs t (0,0)⟩/\off+n<=cs.size:=by
 unfold zB at h;split at h
 ·rename_i b' cs t hb;split at h
  ·rename_i hle;simp only[aW]at h;obtain rfl:=h;exact⟨cs,t,hb,eO hle⟩
  ·simp at h
 ·simp at h
structure WL (P:aG) (ops:Array aw) (Q:dE->Act->aj->Prop) (l:List aw) (a:Act) (w:aj):Prop where
 out:wpList P ops Q l a w
def WL.want {P:aG} {ops:Array aw} {Q:dE->Act->aj->Prop} {a:Act} {w:aj} {rest:List aw} {o:aw} (hw:gk o (yielded ops a.tmps)=af)
 (h:∀K:Act->aj->Prop,(∀a w,WL P ops Q rest a w->K a w)->o.wp P a w K Q):WL P ops Q (o::rest) a w:=⟨wpList_want hw λK hK=>h K λa w x=>hK a w x.out⟩
section
variable{P:aG} {ops:Array aw} {rest:List aw} {o:aw} {a:Act} {w w0:aj} {ms:List Nat} {bs:List ao} {Q:dE->Act->aj->Prop}
def av (v:ai) (k:WL P ops Q rest (a.put o.dst v) w) (hw:gk o (yielded ops a.tmps)=af:=by kernel_rfl) (h:(execOp a.eval o).run P w=.ok (.value v) w:=by kernel_rfl):WL P ops Q (o::rest) a w:=
 WL.want hw λK hK=>by unfold qK;rw[h];exact hK _ _ k
def ub (k:WL P ops Q rest (a.put o.dst undef) w) (hw:gk o (yielded ops a.tmps)=ag:=by kernel_rfl):WL P ops Q (o::rest) a w:=⟨wpList_skip hw k.out⟩
def mF (S:St ms w0 bs w) (i:Nat) (v:ai) (b off:Nat) {x:bg} {ty:aM} (k:WL P ops Q rest (a.put o.dst v) w) (hw:gk o (yielded ops a.tmps)=af:=by kernel_rfl) (ho:o.op=.load ty x:=by rfl) (hx:a.eval x=.pointer (aa ⟨b,off,ae⟩):=by kernel_rfl)
 (ha:(P.underlying ty).map jI=aa ag:=by kernel_rfl) (hb:lk bs i off=aa (b,v):=by kernel_rfl):WL P ops Q (o::rest) a w:=
 WL.want hw λK hK=>by
  obtain⟨wr,cs,t,fr,hb,hc⟩:=YM hb;unfold qK execOp;simp only[ho,hx,pO,iY,bz,cZ,ct,Bo (S.at_ i _ hb) ha hc];exact hK _ _ k
def kS (S:St ms w0 bs w) (i:Nat) (n:Nat) (vs:Array ai) (b off:Nat) {x:bg} {ty:aM} (k:WL P ops Q rest (a.put o.dst (.agg vs)) w) (hw:gk o (yielded ops a.tmps)=af:=by kernel_rfl) (ho:o.op=.load ty x:=by rfl) (hx:a.eval x=.pointer (aa ⟨b,off,ae⟩):=by kernel_rfl)
 (ha:(P.underlying ty).map jI=aa af:=by kernel_rfl) (hn:(P.info? ty).map (·.size)=aa n:=by kernel_rfl) (hb:zA bs i off n=aa (b,vs):=by kernel_rfl):WL P ops Q (o::rest) a w:=
 WL.want hw λK hK=>by
  obtain⟨wr,cs,t,fr,hb,hc,hv⟩:=KO hb;unfold qK execOp;simp only[ho,hx,pO,iY,bz,cZ,ct,Bp (S.at_ i _ hb) ha hn hc hv];exact hK _ _ k
def store_ (S:St ms w0 bs w) (i:Nat) (v:ai) (b off:Nat) {x y:bg} {ty:aM} (k:∀w',St ms w0 (wO bs i off v.cells.toList) w'->WL P ops Q rest (a.put o.dst undef) w') (hw:gk o (yielded ops a.tmps)=af:=by kernel_rfl) (ho:o.op=.store ty x y:=by rfl) (hx:a.eval x=.pointer (aa ⟨b,off,ae⟩):=by kernel_rfl) (hy:a.eval y=v:=by kernel_rfl)
 (hn:(P.info? ty).map (·.size)=aa v.cells.toList.length:=by kernel_rfl) (h1:v.cells.toList.all (·.oneCell')=af:=by kernel_rfl) (hb:zB bs i off v.cells.toList.length=aa b:=by kernel_rfl):WL P ops Q (o::rest) a w:=
 WL.want hw λK hK=>by
  obtain⟨cs,t,hb,hl⟩:=KR hb;unfold qK execOp;have aS:=S.at_ i _ hb;simp only[ho,hx,hy,Gq,iY,bz,cZ,ct,Gv (P:=P) aS rfl hn hl h1];refine hK _ _ (k _ ?_);have:=S.step hb rfl (Ch.setRow w b _) (setRow_heap w b cs (splice cs off v.cells.toList) t (0,0) aS);simpa[wO,hb]using this
def dh {x:bg} (k:WL P ops Q rest (a.put o.dst (a.eval x)) w) (hw:gk o (yielded ops a.tmps)=af:=by kernel_rfl) (ho:o.op=.move x:=by rfl):WL P ops Q (o::rest) a w:=
 av _ k hw (by unfold execOp;simp[ho])
def fp {x:bg} (k:WL P ops Q rest (a.put o.dst (a.eval x)) w) (hw:gk o (yielded ops a.tmps)=af:=by kernel_rfl) (ho:o.op=.assign x:=by rfl):WL P ops Q (o::rest) a w:=
 av _ k hw (by unfold execOp;simp[ho])
def nj (v v':ai) (he:v=v') (k:WL P ops Q rest (a.put o.dst v') w) (hw:gk o (yielded ops a.tmps)=af:=by kernel_rfl) (h:(execOp a.eval o).run P w=.ok (.value v) w:=by kernel_rfl):WL P ops Q (o::rest) a w:=by
 subst he;exact av v k hw h
def l6 (kd:fH) (e:Int) (he:kd.wrap e=e) (k:WL P ops Q rest (a.put o.dst (.int kd e)) w) (hw:gk o (yielded ops a.tmps)=af:=by kernel_rfl) (h:(execOp a.eval o).run P w=.ok (.value (.int kd (kd.wrap e))) w:=by kernel_rfl):WL P ops Q (o::rest) a w:=
 nj _ _ (by rw[he]) k hw h
def PW (t:Nat) (b:Bool) (ht:b=af->WL P ops Q rest (a.put (aa t) (.bool af)) w) (hf:b=ag->WL P ops Q rest (a.put (aa t) (.bool ag)) w) (hv:a.tmps[t]?=aa (.bool b):=by kernel_rfl):WL P ops Q rest a w:=by
 have hs:a.put (aa t) (.bool b)=a:=by
  obtain⟨tmps,ds⟩:=a;have e:tmps.setIfInBounds t (.bool b)=tmps:=by
   apply Array.ext_getElem?;intro i;rw[su];have PX:tmps[t]?=aa (.bool b):=hv;by_cases h:t=i
   ·subst h;rw[if_pos rfl];by_cases h2:t<tmps.size
    ·rw[if_pos h2];exact PX.symm
    ·rw[if_neg h2];rw[Kq oM]at PX;exact absurd PX sP
   ·rw[if_neg h]
  simp only[Act.put,e]
 cases b
 ·rw[<-hs];exact hf rfl
 ·rw[<-hs];exact ht rfl
def YN (t:Nat) (b c:Bool) (hb:b=c) (h:WL P ops Q rest (a.put (aa t) (.bool c)) w) (hv:a.tmps[t]?=aa (.bool b):=by kernel_rfl):WL P ops Q rest a w:=by
 subst hb;exact PW t b (λe=>by subst e;exact h) (λe=>by subst e;exact h) hv
def fc (S:St ms w0 bs w) (f:Nat->ai) (obj:Obj) (k:∀b w',St ms w0 (⟨b,af,obj⟩::bs) w'->WL P ops Q rest (a.put o.dst (f b)) w') (hw:gk o (yielded ops a.tmps)=af:=by kernel_rfl) (h:(execOp a.eval o).run P w=.ok (.value (f w.heap.size)) (w.alloc obj):=by kernel_rfl):WL P ops Q (o::rest) a w:=
 WL.want hw λK hK=>by
  unfold qK;rw[h];exact hK _ _ (k _ _ (S.new (Ch.alloc _ _ _) (cY _) (n6 w obj)))
def fY (f:fl) (args:Array ai) (k:aX P f args w λv w'=>WL P ops Q rest (a.put o.dst v) w') (hw:gk o (yielded ops a.tmps)=af:=by kernel_rfl) (h:(execOp a.eval o).run P w=.ok (.enter f args) w:=by kernel_rfl):WL P ops Q (o::rest) a w:=
 WL.want hw λK hK=>by
  unfold qK;rw[h];refine Calls.mono k ?_;rintro e w' ⟨v,rfl,hk⟩;exact hK _ _ hk
end
section
variable{P:aG} {a:Act} {w:aj} {Q:dE->Act->aj->Prop}
def iZ {f:fl} {fn:Func} {c:eH} {args:Array ai} {R:ai->aj->Prop} (hf:P.funcs[f]?=aa fn) (hb:fn.body=aa c)
 (h:c.wp P (bodyPost P fn (λe w'=>∃v,e=.returned v/\R v w')) ⟨args++zm (fn.ntmps-args.size) undef,[]⟩ w):aX P f args w R:=by
 exact calls_of_wp hf hb h
def aR {x y:eH} (h:x.wp P (Exit.then (y.wp P Q) Q) a w):(Code.seq x y).wp P Q a w:=wp_seq h
def aZ {id:Nat} {l:List aw} (h:WL P l.toArray Q l a w):(Code.region id l.toArray ag).wp P Q a w:=wp_region_lit h.out
def aT {ops:Array aw} (h:Q .normal a w):WL P ops Q [] a w:=⟨h⟩
def aQ {y:eH} (h:y.wp P Q a w):Exit.then (y.wp P Q) Q .normal a w:=h
def YO {K:Act->aj->Prop} (h:Q .ret a w):Exit.then K Q .ret a w:=h
def mG {K:Act->aj->Prop} {id:Nat} (h:Q (.exit id) a w):Exit.then K Q (.exit id) a w:=h
def mH {id:Nat} (h:Q .normal a w):Kr id Q .normal a w:=h
def wP {id:Nat} (h:Q .normal a w):Kr id Q (.exit id) a w:=by simpa[Kr]using h
def Gw {c:eH} (n:Nat) (h:c.wp P (Exit.then (af7 P c Q n) Q) a w):(Code.loop c).wp P Q a w:=wp_loop_rounds (n+1) h
def wQ {c:eH} {n:Nat} (h:c.wp P (Exit.then (af7 P c Q n) Q) a w):Exit.then (af7 P c Q (n+1)) Q .normal a w:=h
def gD {fn:Func} {R:ai->aj->Prop} {v:ai} (hd:a.defers=[]) (hr:(results fn a.tmps).run P w=.ok v w) (h:R v w):bodyPost P fn (λe w'=>∃v,e=.returned v/\R v w') .ret a w:=
 ⟨hd,v,hr,v,rfl,h⟩
def end_ {fn:Func} {R:ai->aj->Prop} {v:ai} (hd:a.defers=[]) (hr:(results fn a.tmps).run P w=.ok v w) (h:R v w):bodyPost P fn (λe w'=>∃v,e=.returned v/\R v w') .normal a w:=
 ⟨hd,v,hr,v,rfl,h⟩
def vo (tmps:Array ai):Ks->Sem ai
 |.tmp t=>pure (tmps.getD t undef)
 |.cell a t=>do loadVar t (<-asAddr (tmps.getD a undef))
def KU (P:aG) (w:aj) (tmps:Array ai):List Ks->List ai->Prop
 |[],[]=>True
 |r::rs,v::vs=>(vo tmps r).run P w=.ok v w/\KU P w tmps rs vs
 |_,_=>False
def YP {tmps:Array ai}:∀{rs:List Ks} {vs:List ai},KU P w tmps rs vs->(rs.mapM (vo tmps)).run P w=.ok vs w
 |[],[],_=>rfl
 |r::rs,v::vs,⟨h,hs⟩=>by
  simp only[List.mapM_cons,bz,h,ct,YP hs];rfl
 |[],_::_,h=>h.elim
 |_::_,[],h=>h.elim
def KV:List ai->ai
 |[v]=>v
 |vs=>.tuple vs.toArray
def fR {fn:Func} {tmps:Array ai} (rs:List Ks) (vs:List ai) (v:ai) (h:KU P w tmps rs vs) (hf:fn.results=rs.toArray:=by kernel_rfl) (hv:KV vs=v:=by kernel_rfl):(results fn tmps).run P w=.ok v w:=by
 subst hv;have h1:results fn tmps=(do let vs <-fn.results.mapM (vo tmps);pure (if h:vs.size=1 then vs[0]else .tuple vs)):=by
  unfold results;congr 2
 rw[h1,hf,List.mapM_toArray];simp only[Sem.run_map,YP h,ct,bind_pure_comp,Functor.map_map];rcases vs with _|⟨v,_|⟨u,vs⟩⟩<;>simp[KV]
def jw {tmps:Array ai} {t:Nat} {v:ai} (h:tmps.getD t undef=v:=by kernel_rfl):(vo tmps (.tmp t)).run P w=.ok v w:=by subst h;rfl
def og {ms:List Nat} {w0:aj} {bs:List ao} (S:St ms w0 bs w) (i n b off:Nat) {tmps vs:Array ai} {t ty:Nat} (h:tmps.getD t undef=.pointer (aa ⟨b,off,ae⟩):=by kernel_rfl)
 (ha:(P.underlying ty).map jI=aa af:=by kernel_rfl) (hn:(P.info? ty).map (·.size)=aa n:=by kernel_rfl) (hb:zA bs i off n=aa (b,vs):=by kernel_rfl):(vo tmps (.cell t ty)).run P w=.ok (.agg vs) w:=by
 obtain⟨wr,cs,t,fr,hb,hc,hv⟩:=KO hb;simp only[vo,h,bz,asAddr,cZ,ct,Bp (S.at_ i _ hb) ha hn hc hv]
end
section
variable{P:aG} {a:Act} {w:aj} {Q:dE->Act->aj->Prop}
def wR {c:bg} {x y:eH} (h:x.wp P Q a w) (hc:a.eval c=.bool af:=by kernel_rfl):(Code.cond c x y).wp P Q a w:=wp_cond_true hc h
def qT {c:bg} {x y:eH} (h:y.wp P Q a w) (hc:a.eval c=.bool ag:=by kernel_rfl):(Code.cond c x y).wp P Q a w:=wp_cond_false hc h
def pT {c:bg} {x y:eH} (b:Bool) (ht:b=af->x.wp P Q a w) (hf:b=ag->y.wp P Q a w) (hc:a.eval c=.bool b:=by kernel_rfl):(Code.cond c x y).wp P Q a w:=wp_cond_split hc ht hf
def PY {x y:Int} (h:y<=x):decide (x<y)=ag:=decide_eq_false oM
def neF {x y:Int} (h:x=y):(x !=y)=ag:=by simpa using h
def Bu {x y:Int} (h:decide (x<y)=af):x<y:=of_decide_eq_true h
def Bv {x y:Int} (h:decide (x<y)=ag):y<=x:=by have:=of_decide_eq_false h;omega
def YQ {x y:Int} (h:decide (x<=y)=af):x<=y:=of_decide_eq_true h
def YR {x y:Int} (h:decide (x<=y)=ag):y<x:=by have:=of_decide_eq_false h;omega
def PZ {x y:Int} (h:(x !=y)=af):¬x=y:=by simpa using h
def P1 {x y:Int} (h:(x !=y)=ag):x=y:=by simpa using h
def P2 {b:Bool} (h:(!b)=af):b=ag:=by simpa using h
def P3 {b:Bool} (h:(!b)=ag):b=af:=by simpa using h
end
def DJ (P:aG) (t:aM) (cs:Array ai) (off:Nat):Option ai:=
 match(P.underlying t).map jI,(P.info? t).map (·.size)with
 |some af,aa n=>aa (.agg (cs.extract off (off+n)))
 |some ag,aa _=>cs[off]?
 |_,_=>ae
def KW {P:aG} {t:aM} {cs:Array ai} {off:Nat} {v:ai} (h:DJ P t cs off=aa v) (w:aj):(part t cs off).run P w=.ok v w:=by
 unfold DJ at h;split at h
 ·rename_i n h1 h2;obtain rfl:_=v:=by simpa using h
  cases hq:P.info? t with
  |none=>simp[hq]at h2
  |some i=>
   have hs:i.size=n:=by simpa[hq]using h2
   unfold part;simp[bz,Bn h1,pN,typeInfo,hq,hs]
 ·rename_i n h1 h2;unfold part;simp[bz,Bn h1,h]
 ·simp at h
def DK (P:aG) (g:aM->ai->ai->Option Bool) (xs ys:Array ai):List Field->Option Bool
 |[]=>aa af
 |f::fs=>
  match decide (f.name≠ "_")with
  |false=>DK P g xs ys fs
  |true=>match DJ P f.type xs f.offset,DJ P f.type ys f.offset with
   |some a,aa b=>match g f.type a b,DK P g xs ys fs with
    |some r,aa q=>aa (r&&q)
    |_,_=>ae
   |_,_=>ae
def Gx (P:aG) (g:aM->ai->ai->Option Bool) (e:aM) (c:Nat) (xs ys:Array ai):List Nat->Option Bool
 |[]=>aa af
 |i::is=>
  match DJ P e xs (i*c),DJ P e ys (i*c)with
  |some a,aa b=>match g e a b,Gx P g e c xs ys is with
   |some r,aa q=>aa (r&&q)
   |_,_=>ae
  |_,_=>ae
def zC (P:aG):Nat->aM->ai->ai->Option Bool
 |0,_,_,_=>ae
 |d+1,t,x,y=>
  match P.underlying t,x,y with
  |some .bool,.bool a,.bool b=>aa (a==b)
  |some (.int _),.int k a,.int k' b=>match decide (k=k')with|true=>aa (a==b)|false=>ae
  |some (.struct _),.agg xs,.agg ys=>match P.stoodInHeld t with|true=>ae|false=>DK P (zC P d) xs ys (P.fieldsOf t).toList
  |some (.array n e),.agg xs,.agg ys=>match P.info? e with|some _=>Gx P (zC P d) e (P.cellsOf e) xs ys (bo n)|none=>ae
  |_,_,_=>ae
section
variable{P:aG}
def P4 {d:Nat} {g:aM->ai->ai->Option Bool} (hg:∀t x y r,g t x y=aa r->∀w,(Op.equalIn d t x y).run P w=.ok r w) (xs ys:Array ai):
 ∀(fs:List Field) (r:Bool),DK P g xs ys fs=aa r->∀w,(Op.eqFields d xs ys fs).run P w=.ok r w
 |[],r,h,w=>by obtain rfl:af=r:=by simpa[DK]using h
               rfl
 |f::fs,r,h,w=>by
  unfold DK at h;unfold Op.eqFields;split at h
  ·rename_i hn;have qU:¬f.name≠ "_" :=of_decide_eq_false hn;rw[if_neg qU];exact P4 hg xs ys fs r h w
  ·rename_i hn;have qU:f.name≠ "_" :=of_decide_eq_true hn;rw[if_pos qU];split at h
   ·rename_i a b ha hb;split at h
    ·rename_i r1 q h1 h2;obtain rfl:(r1&&q)=r:=by simpa using h
     simp only[bz,KW ha,KW hb,ct,hg _ _ _ _ h1];cases r1
     ·simp
     ·simp[P4 hg xs ys fs q h2]
    ·simp at h
   ·simp at h
def YS {d:Nat} {g:aM->ai->ai->Option Bool} (hg:∀t x y r,g t x y=aa r->∀w,(Op.equalIn d t x y).run P w=.ok r w) (e c:Nat) (xs ys:Array ai):
 ∀(is:List Nat) (r:Bool),Gx P g e c xs ys is=aa r->∀w,(Op.eqItems d e c xs ys is).run P w=.ok r w
 |[],r,h,w=>by obtain rfl:af=r:=by simpa[Gx]using h
               rfl
 |i::is,r,h,w=>by
  unfold Gx at h;unfold Op.eqItems;split at h
  ·rename_i a b ha hb;split at h
   ·rename_i r1 q h1 h2;obtain rfl:(r1&&q)=r:=by simpa using h
    simp only[bz,KW ha,KW hb,ct,hg _ _ _ _ h1];cases r1
    ·simp
    ·simp[YS hg e c xs ys is q h2]
   ·simp at h
  ·simp at h
def KX:∀(d:Nat) (t:aM) (x y:ai) (r:Bool),zC P d t x y=aa r->∀w,(Op.equalIn d t x y).run P w=.ok r w
 |0,_,_,_,_,h,_=>by simp[zC]at h
 |d+1,t,x,y,r,h,w=>by
  unfold zC at h;split at h
  ·rename_i a b hu;obtain rfl:(a==b)=r:=by simpa using h
   exact run_equalIn_bool' w d t a b hu
  ·rename_i k0 k a k' b hu;split at h
   ·rename_i hk;obtain rfl:k=k':=of_decide_eq_true hk;obtain rfl:(a==b)=r:=by simpa using h
    exact run_equalIn_int w d t k k0 a b hu
   ·simp at h
  ·rename_i fs xs ys hu;split at h
   ·simp at h
   ·rename_i hp;have hf:P.underlying t=aa (.struct (P.fieldsOf t)):=by simp[Program.fieldsOf,hu]
    rw[run_equalIn_struct w d t xs ys hf hp];exact P4 (KX d) xs ys _ r h w
  ·rename_i n e xs ys hu;split at h
   ·rename_i i hi;rw[run_equalIn_array w d xs ys hu hi];exact YS (KX d) e _ xs ys _ r h w
   ·simp at h
  ·simp at h
variable{ops:Array aw} {rest:List aw} {o:aw} {a:Act} {w:aj} {Q:dE->Act->aj->Prop}
def agp {ρ:bg->ai} {t yt:aM} {x y:bg} {xs ys:Array ai} {r:Bool} (neg:Bool) (ho:o.op=.binOp (bif neg then .neq else .eql) t x y yt) (hx:ρ x=.agg xs) (hy:ρ y=.agg ys) (hg:P.eqGuardType P.depth t=ag) (he:zC P 10000 t (.agg xs) (.agg ys)=aa r):
 (execOp ρ o).run P w=.ok (.value (.bool (bif neg then !r else r))) w:=by
 have h:=KX 10000 t (.agg xs) (.agg ys) r he w;unfold execOp;cases neg<;>simp only[ho,hx,hy,cond_true,cond_false,bz,run_eqGuard_agg _ _ t x y xs ys hg,ct,run_eql_struct,run_neq_struct,h,cZ]
end
def P5 {a b:Nat} (h:a<=b):(2:Int)^a<=2^b:=by
 have:=Nat.pow_le_pow_right (n:=2) oM h;have h1:((2^a:Nat):Int)=(2:Int)^a:=sP;have h2:((2^b:Nat):Int)=(2:Int)^b:=sP;omega
def agq {a b:Nat} (h:a<=b):(2:Int)^a∣2^b:=by
 obtain⟨c,rfl⟩:=Nat.exists_eq_add_of_le h;exact⟨2^c,Int.pow_add 2 a c⟩
def wrap_small (kd:fH) (x:Int) (j:Nat) (h0:0<=x) (h1:x<2^j) (hj:j<kd.bits):kd.wrap x=x:=by
 have h2:((2:Int)^j)<=2^(kd.bits-1):=P5 oM;have h3:((2:Int)^(kd.bits-1))<=2^kd.bits:=P5 oM;unfold zo;have h4:x%(2^kd.bits:Int)=x:=Kt h0 oM;simp only[h4];rw[if_neg];simp only[bD,decide_eq_true_eq,not_and];intro _;omega
def sG (kd:fH) (n m q:Int) (j:Nat) (hm:m=2^j-1) (hq:q=2^j) (hj:j<kd.bits):bits .and kd n m=n%q:=by
 subst hm hq;have hp:(0:Int)<2^j:=Int.pow_pos oM;have hle:(2:Int)^j<=2^kd.bits:=P5 oM;unfold bits;simp only[BitVec.toNat_and];have h1:(pP kd.bits ((2:Int)^j-1)).toNat=2^j-1:=by
  simp only[Ku];have h2:((2:Int)^kd.bits)=((2^kd.bits:Nat):Int):=sP;rw[<-h2,Kt oM oM];have:((2:Int)^j)=((2^j:Nat):Int):=sP;omega
 have h5:(pP kd.bits n).toNat%2^j=(n%2^j).toNat:=by
  simp only[Ku];have h2:((2^kd.bits:Nat):Int)=(2:Int)^kd.bits:=sP;rw[h2];have h6:(0:Int)<=n%2^kd.bits:=Int.emod_nonneg _ (by have:(0:Int)<2^kd.bits:=Int.pow_pos oM
                                                                                                                             omega)
  have h7:(n%2^kd.bits)%2^j=n%2^j:=Int.emod_emod_of_dvd n (agq oM);rw[<-h7];have:((2^j:Nat):Int)=(2:Int)^j:=sP;rw[<-this];have:=Int.natCast_emod (n%2^kd.bits).toNat (2^j);rw[Int.toNat_of_nonneg h6]at this;omega
 rw[h1,af8,h5];have h0:=Int.emod_nonneg n (by omega:(2:Int)^j≠0);rw[Int.toNat_of_nonneg h0];exact wrap_small kd _ j h0 (Int.emod_lt_of_pos _ hp) hj
def DL {a b:Bool} (h:a=ag) (k:b=ag):(a||b)=ag:=by simp[h,k]
def agr {P:aG} {f:fl} {args:Array ai} {w:aj} {x:ai} (h:aX P f args w λv w'=>v=x/\Ch [] w w'):Calls P f args w λe w'=>e=.returned x/\Below w.heap.size w w':=by
 refine Calls.mono h ?_;rintro e w' ⟨v,rfl,rfl,hc⟩;exact⟨rfl,hc.below⟩
def St.ob {ms:List Nat} {w0 w:aj} {bs:List ao} (S:St ms w0 bs w) (i:Nat) (wr:Bool) (t:aM) {b:Nat} {cs:Array ai} {fr:Nat×Nat} (h:bs[i]?=aa ⟨b,wr,.cells cs t fr⟩:=by kernel_rfl):w.heap[b]?=aa (.cells cs t fr):=S.at_ i _ h
def St.conv {ms:List Nat} {w0 w:aj} {bs bs':List ao} (S:St ms w0 bs w) (h:bs=bs'):St ms w0 bs' w:=h▸S
def Yields (P:aG) (o:aw) (ρ:bg->ai) (w:aj) (R:ai->aj->Prop):Prop:=
 match(execOp ρ o).run P w with
 |.ok (.value v) w'=>R v w'
 |.ok .skip w'=>R undef w'
 |.ok (.enter f args) w'=>aX P f args w' R
 |_=>False
def wS (y:Nat->ai):bg->ai
 |.tmp t=>y t
 |.const v=>v
 |.global g=>.pointer (aa ⟨g,0,ae⟩)
 |.func f=>.func (.func f) #[] #[]
def cW (a:Act):Nat->ai:=λt=>a.tmps.getD t undef
def YT (a:Act):wS (cW a)=a.eval:=by funext x;cases x<;>rfl
def Yields.wp {P:aG} {o:aw} {a:Act} {w:aj} {R:ai->aj->Prop} {K:Act->aj->Prop} {Q:dE->Act->aj->Prop} (h:Yields P o a.eval w R) (hk:∀v w',R v w'->K (a.put o.dst v) w'):o.wp P a w K Q:=by
 unfold Yields at h;unfold qK;generalize (execOp a.eval o).run P w=r at*;cases r with
 |halt x w'=>simp at h
 |ok n w'=>
  cases n<;>simp at h<;>simp only[Oper.upon]
  ·exact hk _ _ h
  ·exact hk _ _ h
  ·refine Calls.mono h ?_;rintro e gn ⟨v,rfl,hv⟩;exact hk _ _ hv
structure Sp where
 k:Nat
 f:List Nat->ai
 bl:List Nat->List (Nat×Obj)
def Sp.holds (s:Sp) (B:Nat) (v:ai) (w:aj):Prop:=∃ids:List Nat,ids.length=s.k/\v=s.f ids/\∀p∈s.bl ids,B<=p.1/\w.heap[p.1]?=aa p.2
def Sp.holds.Gy {s:Sp} {B:Nat} {v:ai} {w w':aj} (h:s.holds B v w) (hc:Ch [] w w'):s.holds B v w':=by
 obtain⟨ids,h1,h2,h3⟩:=h;exact⟨ids,h1,h2,λp hp=>⟨(h3 p hp).1,(hc.block _ (oe (h3 p hp).2) sP).trans (h3 p hp).2⟩⟩
def lB (o:aw) (j:Nat):Bool:=o.after.any λe=>e.on==j&&sw .any e
def oT (l:List aw) (o:aw) (y:Nat->ai):Bool:=
 match o.guard with
 |none=>af
 |some (j,want)=>match(l[j]?).bind (·.dst)with
  |some d=>match y d with
   |.bool b=>b==want
   |_=>ag
  |none=>ag
def YU (l:List aw) (o:aw) (a:Act):gk o (yielded l.toArray a.tmps)=oT l o (cW a):=by
 unfold gk oT;cases hg:o.guard with
 |none=>rfl
 |some p=>
  obtain⟨j,want⟩:=p;simp only[yielded,jX];cases hd:(l[j]?).bind (·.dst)with
  |none=>simp
  |some d=>
   simp only[Option.bind_some,cW,jG];cases ht:a.tmps[d]?with
   |none=>simp[undef]
   |some v=>cases v<;>simp
def wT (l:List aw) (i t:Nat):Bool:=l.all λok=>ok.dst !=aa t||lB ok i
def wU (P:aG) (lf l:List aw) (sp:Nat->Sp) (y0:Nat->ai) (w:aj) (i:Nat) (o:aw):Prop:=
 ∀(y:Nat->ai) (w':aj),Ch [] w w'->(∀t,wT l i t=af->y t=y0 t)->
  (∀j d,lB o j=af->(l[j]?).bind (·.dst)=aa d->(sp j).holds w.heap.size (y d) w')->
  (oT lf o y=af->Yields P o (wS y) w' λv gn=>Ch [] w' gn/\(sp i).holds w.heap.size v gn)/\(oT lf o y=ag->(sp i).holds w.heap.size undef w')
def sH (P:aG) (lf l:List aw) (sp:Nat->Sp) (y0:Nat->ai) (w:aj):Nat->List aw->Prop
 |_,[]=>True
 |i,o::rest=>wU P lf l sp y0 w i o/\sH P lf l sp y0 w (i+1) rest
def sH.get {P:aG} {lf l:List aw} {sp:Nat->Sp} {y0:Nat->ai} {w:aj}:∀{k:Nat} {m:List aw},sH P lf l sp y0 w k m->∀(i:Nat) o,m[i]?=aa o->wU P lf l sp y0 w (k+i) o
 |_,[],_,i,o,h=>by simp at h
 |k,x::rest,⟨h1,h2⟩,0,o,h=>by obtain rfl:x=o:=by simpa using h
                              exact h1
 |k,x::rest,⟨h1,h2⟩,i+1,o,h=>by
  have:=sH.get h2 i o (by simpa using h)
  rwa [show k+1+i=k+(i+1) by omega]at this
def gT (vs:Nat->ai):Nat->List aw->Act->Act
 |_,[],a=>a
 |i,o::rest,a=>gT vs (i+1) rest (a.put o.dst (vs i))
def size_put (a:Act) (d:Option Tmp) (v:ai):(a.put d v).tmps.size=a.tmps.size:=by cases d<;>simp[Act.put]
def Bw (a:Act) (d:Option Tmp) (v:ai):(a.put d v).defers=a.defers:=by cases d<;>rfl
def zE (a:Act) (d:Nat) (v:ai) (t:Nat) (hd:d<a.tmps.size):cW (a.put (aa d) v) t=if t=d then v else cW a t:=by
 simp only[cW,Act.put,jG,su];by_cases h:d=t
 ·subst h;simp[hd]
 ·rw[if_neg h,if_neg (λe=>h e.symm)]
def P6 {a b:Act} (hs:a.tmps.size=b.tmps.size) (hd:a.defers=b.defers) (h:∀t,cW a t=cW b t):a=b:=by
 obtain⟨x,ds⟩:=a;obtain⟨y,es⟩:=b;simp only at hd hs;subst hd;congr 1;apply Array.ext hs;intro i h1 h2;have:=h i;simpa[cW,h1,h2]using this
def Gz:List (Option Nat)->Bool
 |[]=>af
 |x::xs=>!(xs.any (·==x))&&Gz xs
def GA (n:Nat) (l:List aw):Bool:=l.all (λo=>match o.dst with|some d=>db d n|none=>ag)&&Gz (l.map (·.dst))
def P7:∀{l:List (Option Nat)},Gz l=af->l.Nodup
 |[],_=>List.nodup_nil
 |x::xs,h=>by
  simp only[Gz,bD,n7]at h;refine tS.2 ⟨?_,P7 h.2⟩;intro hm;have:=h.1;simp only[List.any_eq_false]at this;exact this x hm sP
def pU:Nat->List aw->Bool
 |_,[]=>af
 |i,o::rest=>(o.after.all λe=>!sw .any e||db e.on i)&&pU (i+1) rest
def vt:∀{k:Nat} {l:List aw},pU k l=af->∀(i:Nat) o,l[i]?=aa o->∀e∈o.after,sw .any e=af->e.on<k+i
 |_,[],_,i,o,h,_,_,_=>by simp at h
 |k,x::rest,hh,0,o,h,e,he,hb=>by
  obtain rfl:x=o:=by simpa using h
  simp only[pU,bD,Kv]at hh;have:=hh.1 e he;simp only[hb,Bool.not_true,Bool.false_or]at this;simpa[jt]using this
 |k,x::rest,hh,i+1,o,h,e,he,hb=>by
  simp only[pU,bD]at hh;have:=vt hh.2 i o (by simpa using h) e he hb;omega
def mI {L:Array Bool} {n i:Nat} (h:L.size=n) (hi:i<n):L[i]?=aa af\/L[i]?=aa ag:=by
 have h1:i<L.size:=oM;rw[Kw h1];cases L[i]<;>simp
def count_set:∀(L:List Bool) (i:Nat),L[i]?=aa ag->(L.set i af).count ag+1=L.count ag
 |[],i,h=>by simp at h
 |x::xs,0,h=>by obtain rfl:x=ag:=by simpa using h
                simp
 |x::xs,i+1,h=>by
  have:=count_set xs i (by simpa using h);cases x<;>simp[List.set_cons_succ]<;>omega
def KY:∀(L:List Bool) (n m:Nat),L.length=n+m->(∀j,j<n->L[j]?=aa af)->L.count ag<=m
 |L,0,m,h,_=>by have:=List.count_le_length (a:=ag) (l:=L);omega
 |[],n+1,m,h,_=>by simp at h;omega
 |x::xs,n+1,m,h,ht=>by
  obtain rfl:x=af:=by simpa using ht 0 oM
  have:=KY xs n m (by simp at h;omega) (λj hj=>by simpa using ht (j+1) oM);simpa using this
def count_tail:∀(L:List Bool) (n m:Nat),L.length=n+m->(∀j,n<=j->j<n+m->L[j]?=aa ag)->m<=L.count ag
 |[],n,m,h,_=>by simp at h;omega
 |x::xs,0,m,h,ht=>by
  obtain rfl:x=ag:=by simpa using ht 0 oM (by simp at h;omega)
  have:=count_tail xs 0 (m-1) (by simp at h;omega) (λj h1 h2=>by simpa using ht (j+1) oM oM);simp at h⊢;omega
 |x::xs,n+1,m,h,ht=>by
  have:=count_tail xs n m (by simp at h;omega) (λj h1 h2=>by simpa using ht (j+1) oM oM);cases x<;>simp<;>omega
def P8:∀(L:List Bool) (n m:Nat),L.length=n+m->(∀j,n<=j->j<n+m->L[j]?=aa ag)->∀i,i<n->L[i]?=aa ag->m+1<=L.count ag
 |[],n,m,h,_,i,hi,_=>by simp at h;omega
 |x::xs,n+1,m,h,ht,i,hi,hx=>by
  have fS:m<=xs.count ag:=by
   have:=count_tail xs n m (by simp at h;omega) (λj h1 h2=>by simpa using ht (j+1) oM oM);exact this
  cases i with
  |zero=>obtain rfl:x=ag:=by simpa using hx
         simp;omega
  |succ i=>
   have:=P8 xs n m (by simp at h;omega) (λj h1 h2=>by simpa using ht (j+1) oM oM) i oM (by simpa using hx);cases x<;>simp<;>omega
 |x::xs,0,m,h,ht,i,hi,hx=>oM
section
variable{P:aG} {l:List aw} {sp:Nat->Sp} {a0:Act} {w0:aj} {Q:dE->Act->aj->Prop}
structure P9 (l:List aw) (n2:Nat) (sp:Nat->Sp) (a0:Act) (w0:aj) (vs:Nat->ai) (listed:Array Bool) (a:Act) (w:aj):Prop where
 ls:listed.size=l.length+n2
 off:∀i,l.length<=i->i<l.length+n2->listed[i]?=aa ag
 size:a.tmps.size=a0.tmps.size
 defers:a.defers=a0.defers
 ch:Ch [] w0 w
 done:∀(i:Nat) (o:aw) (d:Nat),l[i]?=aa o->o.dst=aa d->listed[i]?=aa af->cW a d=vs i/\(sp i).holds w0.heap.size (vs i) w
 rest:∀(t:Nat),(∀(i:Nat) (o:aw),l[i]?=aa o->o.dst=aa t->listed[i]?=aa ag)->cW a t=cW a0 t
 back:∀(i:Nat) (o:aw),l[i]?=aa o->listed[i]?=aa af->∀j,lB o j=af->listed[j]?=aa af
def DM (l:List aw):List Nat->Bool
 |k::j::rest=>(match l[k]?with|some o=>lB o j|none=>ag)&&DM l (j::rest)
 |_=>af
def sJ (l:List aw) (m:Nat) (paths:List (List Nat)):Bool:=
 (paths.all λp=>DM l p)&&(bo l.length).all λk=>db k m||(bo k).all λi=>paths.any λp=>p.head?==aa k&&p.getLast?==aa i&&db 1 p.length
def GB {l:List aw} {listed:Array Bool} (back:∀(i:Nat) (o:aw),l[i]?=aa o->listed[i]?=aa af->∀j,lB o j=af->listed[j]?=aa af):
 ∀(p:List Nat) (k i:Nat),DM l p=af->p.head?=aa k->p.getLast?=aa i->1<p.length->(∀o,l[k]?=aa o->∀j,lB o j=af->listed[j]?=aa af)->listed[i]?=aa af
 |[],_,_,_,h,_,_,_=>by simp at h
 |[x],_,_,_,_,_,h,_=>by simp at h
 |x::y::rest,k,i,hp,hh,hl,_,hk=>by
  obtain rfl:x=k:=by simpa using hh
  simp only[DM,bD]at hp;cases ho:l[x]?with
  |none=>simp[ho]at hp
  |some o=>
   have hy:=hk o ho y (by simpa[ho]using hp.1);cases rest with
   |nil=>obtain rfl:y=i:=by simpa using hl
         exact hy
   |cons z rest=>exact GB back (y::z::rest) y i hp.2 rfl (by simpa using hl) sP (λoy hoy j hj=>back y oy hoy hy j hj)
def YV (vs:Nat->ai):∀(m:List aw) (k:Nat) (a:Act),(∀o∈m,∃d,o.dst=aa d/\d<a.tmps.size)->(m.map (·.dst)).Nodup->
 (gT vs k m a).tmps.size=a.tmps.size/\(gT vs k m a).defers=a.defers/\(∀t,(∀o∈m,o.dst≠aa t)->cW (gT vs k m a) t=cW a t)/\∀i o d,m[i]?=aa o->o.dst=aa d->cW (gT vs k m a) d=vs (k+i)
 |[],k,a,_,_=>⟨rfl,rfl,λ_ _=>rfl,λi o d h=>by simp at h⟩
 |x::rest,k,a,hd,hn=>by
  obtain⟨dx,hx,cH⟩:=hd x sP;simp only[gb,tS]at hn;obtain⟨h1,h2,h3,h4⟩:=YV vs rest (k+1) (a.put x.dst (vs k)) (λo ho=>by
   obtain⟨d,e,h⟩:=hd o (by simp[ho]);exact⟨d,e,by rw[size_put];exact h⟩) hn.2
  refine⟨by simp only[gT];rw[h1,size_put],by simp only[gT];rw[h2,Bw],?_,?_⟩
  ·intro t ht;simp only[gT];rw[h3 t (λo ho=>ht o (by simp[ho])),hx,zE _ _ _ _ cH,if_neg];intro e;subst e;exact ht x sP hx
  ·intro i o d hi ho;cases i with
   |zero=>
    obtain rfl:x=o:=by simpa using hi
    simp only[gT];obtain rfl:dx=d:=by rw[hx]at ho;simpa using ho
    rw[h3 dx (λo' kU e=>hn.1 (by rw[hx,<-e];exact List.mem_map_of_mem (f:=λx=>x.dst) kU)),hx,zE _ _ _ _ cH,if_pos rfl];rfl
   |succ i=>
    simp only[gT];rw[h4 i o d (by simpa using hi) ho];congr 1;omega
def GC {o:aw} {j:Nat}:lB o j=af↔∃e∈o.after,e.on=j/\sw .any e=af:=by
 unfold lB;rw[<-Array.any_toList,A9];constructor
 ·rintro⟨e,he,hj⟩;simp only[bD,beq_iff_eq]at hj;exact⟨e,Array.mem_toList_iff.1 he,hj.1,hj.2⟩
 ·rintro⟨e,he,h1,h2⟩;exact⟨e,Array.mem_toList_iff.2 he,by simp[h1,h2]⟩
def P_ {l:List aw} {m:Nat} {paths:List (List Nat)} (h:sJ l m paths=af) (k:Nat) (hk:k<l.length) (hm:m<=k) (i:Nat) (hi:i<k):
 ∃p,DM l p=af/\p.head?=aa k/\p.getLast?=aa i/\1<p.length:=by
 simp only[sJ,bD,gQ,List.mem_range,Dz,A9]at h;obtain⟨h1,h2⟩:=h;rcases h2 k hk with h3|h3
 ·simp[jt]at h3;omega
 ·obtain⟨p,hp,h4⟩:=h3 i hi;simp only[beq_iff_eq,jt]at h4;exact⟨p,h1 p hp,h4.1.1,h4.1.2,h4.2⟩
def mJ (m:List aw) (listed:Array Bool) (i:Nat):i∈sD .any m.toArray listed↔∃o,m[i]?=aa o/\listed.getD i af=ag/\∀e∈o.after,sw .any e=af->listed.getD e.on ag=af:=by
 simp only[sD,A_,List.mem_range,List.size_toArray,jX,bD,n7];constructor
 ·rintro⟨h1,h2,h3⟩;have hi:m[i]?=aa m[i]:=sP;refine⟨m[i],hi,h2,?_⟩;rw[hi]at h3;simp only[oO,Yt,Kv,Dz,n7]at h3;intro e he hb;rcases h3 e he with h|h
  ·rw[hb]at h;cases h
  ·exact h
 ·rintro⟨o,ho,h2,h3⟩;refine⟨by rcases c9 i m.length with h|h;exact h;simp[h]at ho,h2,?_⟩;rw[ho];simp only[oO,Yt,Kv,Dz,n7];intro e he;cases hb:sw .any e with
  |false=>exact Or.inl rfl
  |true=>exact Or.inr (h3 e he hb)
def YW (l2:List aw) (gU:pU 0 (l++l2)=af) (paths:List (List Nat)) (ht:sJ (l++l2) l.length paths=af):
 ∀(r:List aw) (k:Nat),l2.drop k=r->∀(listed:Array Bool) (a:Act) (w:aj),listed.size=l.length+l2.length->(∀i,i<l.length+k->listed[i]?=aa af)->(∀i,l.length+k<=i->i<l.length+l2.length->listed[i]?=aa ag)->
  wpList P (l++l2).toArray Q r a w->wpAny P .any (l++l2).toArray Q r.length listed a w:=by
 intro r;induction r with
 |nil=>
  intro k hk listed a w dc h1 h2 h;have zz:l2.length<=k:=by simpa using hk
  refine⟨?_,h⟩;refine List.eq_nil_iff_forall_not_mem.2 λi hi=>?_;obtain⟨o,ho,hf,_⟩:=(mJ _ listed i).1 hi;have hi:i<(l++l2).length:=by rcases c9 i (l++l2).length with h|h;exact h;simp[ju h]at ho
  have:=h1 i (by simp at hi;omega);simp[jG,this]at hf
 |cons o rest ih=>
  intro k hk listed a w dc h1 h2 h;have zz:k<l2.length:=by rcases c9 k l2.length with h|h;exact h;simp[List.drop_eq_nil_of_le h]at hk
  have hok:l2[k]?=aa o:=by rw[<-List.head?_drop,hk];rfl
  have aS:(l++l2)[l.length+k]?=aa o:=by rw[vg oM];simpa using hok
  refine⟨λhr=>?_,?_⟩
  ·exfalso;have:l.length+k∈sD .any (l++l2).toArray listed:=(mJ _ listed _).2 ⟨o,aS,by simp[jG,h2 (l.length+k) oM oM],λe he hb=>by
    have:=vt gU _ o aS e he hb;simp[jG,h1 e.on oM]⟩
   rw[hr]at this;simp at this
  ·intro i hi;obtain⟨oi,qV,hf,gV⟩:=(mJ _ listed i).1 hi;have jg:i<(l++l2).length:=by rcases c9 i (l++l2).length with h|h;exact h;simp[ju h]at qV
   have fh:l.length+k<=i:=by
    rcases c9 i (l.length+k)with h|h
    ·simp[jG,h1 i h]at hf
    ·exact h
   have heq:i=l.length+k:=by
    rcases c9 (l.length+k) i with cH|hle
    ·exfalso;have hb:∀(x:Nat) (o':aw),(l++l2)[x]?=aa o'->listed[x]?=aa af->∀j,lB o' j=af->listed[j]?=aa af:=by
      intro x o' hx sL j hj;obtain⟨e,he,rfl,hbd⟩:=GC.1 hj;have h3:=vt gU x o' hx e he hbd;refine h1 e.on ?_;rcases c9 x (l.length+k)with h|h
      ·omega
      ·have wV:x<(l++l2).length:=by rcases c9 x (l++l2).length with h'|h';exact h';simp[ju h']at hx
       have:=h2 x h (by simpa using wV);rw[sL]at this;simp at this
     obtain⟨p,q1,q2,q3,q4⟩:=P_ ht i (by simpa using jg) oM (l.length+k) cH;have:=GB hb p i (l.length+k) q1 q2 q3 q4 (λo' kU j hj=>by
      obtain rfl:oi=o':=by rw[qV]at kU;simpa using kU
      obtain⟨e,he,rfl,hbd⟩:=GC.1 hj;have h3:=gV e he hbd;have h4:=vt gU i oi qV e he hbd;rcases mI dc (show e.on<l.length+l2.length by simp at jg;omega)with hx|hx
      ·exact hx
      ·simp[jG,hx]at h3)
     rw[h2 (l.length+k) oM oM]at this;simp at this
    ·omega
   subst heq;obtain rfl:o=oi:=by rw[aS]at qV;simpa using qV
   have next:∀a' w',wpList P (l++l2).toArray Q rest a' w'->wpAny P .any (l++l2).toArray Q rest.length (listed.setIfInBounds (l.length+k) af) a' w':=by
    intro a' w' h';refine ih (k+1) (by rw[<-List.drop_drop,hk];rfl) _ a' w' (by simpa using dc) ?_ ?_ h'
    ·intro j hj;rw[su];split
     ·rename_i e;subst e;rw[if_pos oM]
     ·exact h1 j oM
    ·intro j hj zF;rw[su,if_neg oM];exact h2 j oM zF
   unfold wpList at h;unfold wpOp;simp only[jX,aS];split at h
   ·rename_i hw;rw[if_pos hw];exact h.imp (Oper.wp_mono λa' w'=>next a' w') id
   ·rename_i hw;rw[if_neg hw];exact next _ _ h
def GD (l2:List aw) (paths:List (List Nat)) (ht:sJ (l++l2) l.length paths=af) (kV:GA a0.tmps.size l=af) (gU:pU 0 (l++l2)=af) (hs:sH P (l++l2) l sp (cW a0) w0 0 l)
 (hq:∀(vs:Nat->ai) w',Ch [] w0 w'->(∀i o,l[i]?=aa o->(sp i).holds w0.heap.size (vs i) w')->wpList P (l++l2).toArray Q l2 (gT vs 0 l a0) w'):
 ∀(fuel:Nat) (vs:Nat->ai) (listed:Array Bool) (a:Act) (w:aj),P9 l l2.length sp a0 w0 vs listed a w->listed.toList.count ag=fuel+l2.length->wpAny P .any (l++l2).toArray Q (fuel+l2.length) listed a w:=by
 have inl:∀{i:Nat} {o:aw},(l++l2)[i]?=aa o->i<l.length->l[i]?=aa o:=λh hi=>by rwa [gm hi]at h
 have inr:∀{i:Nat} {o:aw},l[i]?=aa o->(l++l2)[i]?=aa o:=λ{i o} h=>by rwa [gm (by rcases c9 i l.length with h'|h';exact h';simp[h']at h)]
 simp only[GA,bD,gQ]at kV;have hd:∀o∈l,∃d,o.dst=aa d/\d<a0.tmps.size:=by
  intro o ho;have:=kV.1 o ho;cases hx:o.dst with
  |none=>simp[hx]at this
  |some d=>exact⟨d,rfl,by simpa[hx,jt]using this⟩
 have hn:=P7 kV.2;have uniq:∀(i j:Nat) o p d,l[i]?=aa o->l[j]?=aa p->o.dst=aa d->p.dst=aa d->i=j:=by
  intro i j o p d hi hj ho hp;have jg:i<(l.map (·.dst)).length:=by simp;rcases c9 i l.length with h|h;exact h;simp[h]at hi
  refine(List.getElem?_inj jg hn).1 ?_;simp[hi,hj,ho,hp]
 have fin:∀vs listed a w,P9 l l2.length sp a0 w0 vs listed a w->(∀i,i<l.length->listed[i]?=aa af)->wpAny P .any (l++l2).toArray Q l2.length listed a w:=by
  intro vs listed a w I dI;obtain⟨h1,h2,h3,h4⟩:=YV vs l 0 a0 hd hn;have:a=gT vs 0 l a0:=by
   refine P6 (by rw[I.size,h1]) (by rw[I.defers,h2]) ?_;intro t;by_cases ht:∃(i:Nat) (o:aw),l[i]?=aa o/\o.dst=aa t
   ·obtain⟨i,o,hi,ho⟩:=ht;rw[h4 i o t hi ho,dS];exact(I.done i o t hi ho (dI i (by rcases c9 i l.length with h|h;exact h;simp[h]at hi))).1
   ·rw[h3 t (λo ho e=>ht (by obtain⟨i,hi⟩:=DA ho;exact⟨i,o,hi,e⟩))];exact I.rest t (λi o hi ho=>absurd ⟨i,o,hi,ho⟩ ht)
  rw[this];refine YW l2 gU paths ht l2 0 rfl listed _ w I.ls (λi hi=>dI i oM) (λi h1 h2=>I.off i oM h2) ?_;exact hq vs w I.ch λi o hi=>by
   obtain⟨d,ho,_⟩:=hd o (sE hi);exact(I.done i o d hi ho (dI i (by rcases c9 i l.length with h|h;exact h;simp[h]at hi))).2
 have tl:∀vs listed a w,P9 l l2.length sp a0 w0 vs listed a w->∀i,i∈sD .any (l++l2).toArray listed->l.length<=i->∀j,j<l.length->listed[j]?=aa af:=by
  intro vs listed a w I i hi fh j hj;obtain⟨oi,qV,hf,gV⟩:=(mJ _ listed i).1 hi;have jg:i<(l++l2).length:=by rcases c9 i (l++l2).length with h|h;exact h;simp[ju h]at qV
  obtain⟨p,q1,q2,q3,q4⟩:=P_ ht i jg fh j oM;refine GB (l:=l++l2) ?_ p i j q1 q2 q3 q4 ?_
  ·intro x o hx sL k hk;rcases c9 x l.length with h|h
   ·exact I.back x o (inl hx h) sL k hk
   ·have wV:x<(l++l2).length:=by rcases c9 x (l++l2).length with h'|h';exact h';simp[ju h']at hx
    have:=I.off x h (by simpa using wV);rw[sL]at this;simp at this
  ·intro o ho k hk;obtain rfl:oi=o:=by rw[qV]at ho;simpa using ho
   obtain⟨e,he,rfl,hbd⟩:=GC.1 hk;have h3:=gV e he hbd;have h4:=vt gU i oi qV e he hbd;rcases mI I.ls (show e.on<l.length+l2.length by simp at jg;omega)with hx|hx
   ·exact hx
   ·simp[jG,hx]at h3
 intro fuel;induction fuel with
 |zero=>
  intro vs listed a w I hc;have dI:∀i,i<l.length->listed[i]?=aa af:=by
   intro i hi;rcases mI I.ls (show i<l.length+l2.length by omega)with hb|hb
   ·exact hb
   ·exfalso;have h4:=P8 listed.toList l.length l2.length (by simpa using I.ls) (λj h1 h2=>by simpa using I.off j h1 h2) i hi (by simpa using hb);omega
  rw[dS];exact fin vs listed a w I dI
 |succ fuel ih=>
  intro vs listed a w I hc;by_cases Bx:∀i,i<l.length->listed[i]?=aa af
  ·exfalso;have:=KY listed.toList l.length l2.length (by simpa using I.ls) (λj h1=>by simpa using Bx j h1);omega
  rw[show fuel+1+l2.length=(fuel+l2.length)+1 by omega];refine⟨λhr=>?_,?_⟩
  ·
   exfalso;refine Bx ?_;intro i;induction i using Nat.strongRecOn with
   |_ i Qa=>
    intro hi;rcases mI I.ls (show i<l.length+l2.length by omega)with hb|hb
    ·exact hb
    ·exfalso;have:i∈sD .any (l++l2).toArray listed:=(mJ _ listed i).2 ⟨l[i],inr sP,by simp[jG,hb],λe he Qb=>by
      have cH:=vt gU i l[i] (inr sP) e he Qb;have:=Qa e.on oM oM;simp[jG,this]⟩
     rw[hr]at this;simp at this
  ·intro i hi;have jg:i<l.length:=by
    rcases c9 i l.length with h|h
    ·exact h
    ·exact absurd (tl vs listed a w I i hi h) Bx
   obtain⟨o,nk,h2,h3⟩:=(mJ _ listed i).1 hi;have ho:=inl nk jg;have uc:listed[i]?=aa ag:=by
    rcases mI I.ls (show i<l.length+l2.length by omega)with hb|hb
    ·simp[jG,hb]at h2
    ·exact hb
   obtain⟨d,DN,Qc⟩:=hd o (sE ho);have gV:∀j,lB o j=af->listed[j]?=aa af:=by
    intro j hj;unfold lB at hj;rw[<-Array.any_toList,A9]at hj;obtain⟨e,he,hj⟩:=hj;simp only[bD,beq_iff_eq]at hj;obtain⟨rfl,hb⟩:=hj;have he:=Array.mem_toList_iff.1 he;have h4:=h3 e he hb;have cH:=vt gU i o nk e he hb;rcases mI I.ls (show e.on<l.length+l2.length by omega)with hb|hb
    ·exact hb
    ·simp[jG,hb]at h4
   have step:=(sH.get hs i o ho) (cW a) w I.ch (λt ht=>by
    refine I.rest t λk ok hk hok=>?_;rw[wT,gQ]at ht;have:=ht ok (sE hk);simp only[hok,bne_self_eq_false,Bool.false_or]at this;have zz:k<l.length:=by rcases c9 k l.length with h|h;exact h;simp[h]at hk
    rcases mI I.ls (show k<l.length+l2.length by omega)with hb|hb
    ·have:=I.back k ok hk hb i (by simpa using this);rw[uc]at this;simp at this
    ·exact hb)
    (λj dj hj oU=>by
     cases eJ:l[j]?with
     |none=>simp[eJ]at oU
     |some oj=>
      have:=I.done j oj dj eJ (by simpa[eJ]using oU) (gV j hj);rw[this.1];exact this.2)
   rw[dS]at step;have next:∀v w',Ch [] w w'->(sp i).holds w0.heap.size v w'->wpAny P .any (l++l2).toArray Q (fuel+l2.length) (listed.setIfInBounds i af) (a.put o.dst v) w':=by
    intro v w' vu hv;refine ih (λj=>if j=i then v else vs j) _ _ _ ?_ ?_
    ·have gl:∀j b,(listed.setIfInBounds i af)[j]?=aa b->(j=i/\b=af)\/(j≠i/\listed[j]?=aa b):=by
      intro j b hj;rw[su]at hj;by_cases h:i=j
      ·subst h;have:i<l.length+l2.length:=oM;simp[I.ls,this]at hj;exact Or.inl ⟨rfl,hj⟩
      ·rw[if_neg h]at hj;exact Or.inr ⟨λe=>h e.symm,hj⟩
     have yp:∀t,cW (a.put o.dst v) t=if t=d then v else cW a t:=λt=>by rw[DN];exact zE _ _ _ _ (by rw[I.size];exact Qc)
     refine⟨by simp[I.ls],λj h1 h2=>by
      rw[su,if_neg oM];exact I.off j h1 h2,by rw[size_put,I.size],by rw[Bw,I.defers],I.ch.trans vu sP,?_,?_,?_⟩
     ·intro j oj dj hj oU eJ;rcases gl j af eJ with⟨rfl,_⟩|⟨cL,eJ⟩
      ·obtain rfl:o=oj:=by rw[ho]at hj;simpa using hj
       obtain rfl:d=dj:=by rw[DN]at oU;simpa using oU
       rw[yp];simp;exact hv
      ·have:=I.done j oj dj hj oU eJ;rw[yp,if_neg (λ(e:dj=d)=>cL (uniq j i oj o d hj ho (e▸oU) DN)),if_neg cL];exact⟨this.1,this.2.Gy vu⟩
     ·intro t ht;rw[yp,if_neg]
      ·refine I.rest t λk ok hk hok=>?_;have:=ht k ok hk hok;rcases gl k ag this with⟨_,h⟩|⟨_,h⟩
       ·cases h
       ·exact h
      ·rintro rfl;have:=ht i o ho DN;rcases gl i ag this with⟨_,h⟩|⟨h,_⟩
       ·cases h
       ·exact h rfl
     ·intro k ok hk mK j hj;have hb:listed[j]?=aa af:=by
       rcases gl k af mK with⟨rfl,_⟩|⟨cL,mK⟩
       ·obtain rfl:o=ok:=by rw[ho]at hk;simpa using hk
        exact gV j hj
       ·exact I.back k ok hk mK j hj
      rw[su];split
      ·rename_i h;subst h;rw[uc]at hb;simp at hb
      ·exact hb
    ·have h2:listed[i]?=aa ag:=uc;have ags:=count_set listed.toList i (by simpa using h2);simp only[Kx];omega
   unfold wpOp;simp only[jX,nk];rw[YU];cases hw:oT (l++l2) o (cW a)with
   |true=>
    rw[if_pos rfl];refine Or.inl ?_;have hy:=step.1 hw;rw[YT]at hy;exact Yields.wp hy λv w' ⟨vu,hv⟩=>next v w' vu hv
   |false=>
    rw[if_neg sP];exact next undef w (Ch.refl _ _) (step.2 hw)
def agt {id:Nat} (l l2:List aw) (sp:Nat->Sp) (paths:List (List Nat)) (hm:P.follows .mixedOrders=af) (ht:sJ (l++l2) l.length paths=af) (kV:GA a0.tmps.size l=af) (gU:pU 0 (l++l2)=af) (hs:sH P (l++l2) l sp (cW a0) w0 0 l)
 (hq:∀(vs:Nat->ai) w',Ch [] w0 w'->(∀i o,l[i]?=aa o->(sp i).holds w0.heap.size (vs i) w')->wpList P (l++l2).toArray Q l2 (gT vs 0 l a0) w'):(Code.region id (l++l2).toArray af).wp P Q a0 w0:=by
 refine wp_region_any hm ?_;have h:=GD l2 paths ht kV gU hs hq l.length (λ_=>undef) (zm (l++l2).toArray.size ag) a0 {w0 with drawn:=w0.drawn+1} ?_ ?_
 ·rw[show(l++l2).toArray.size=l.length+l2.length by simp];rw[show(l++l2).toArray.size=l.length+l2.length by simp]at h;exact h
 ·refine⟨sP,λi h1 h2=>by simp[Ba];omega,rfl,rfl,(Ch.refl _ _).drew,?_,λ_ _=>rfl,?_⟩
  ·intro i o d _ _ h;simp[Ba]at h
  ·intro i o _ h;simp[Ba]at h
 ·simp[Yu]
end
def sO (l:List Sp):Nat->Sp:=λi=>l.getD i ⟨0,λ_=>undef,λ_=>[]⟩
section
variable{B:Nat} {x:ai} {w:aj} {f:List Nat->ai} {bl:List Nat->List (Nat×Obj)}
def Sp.dT (h:(⟨0,f,bl⟩:Sp).holds B x w):x=f []/\∀p∈bl [],B<=p.1/\w.heap[p.1]?=aa p.2:=by
 obtain⟨ids,h1,h2,h3⟩:=h;obtain rfl:ids=[]:=by simpa using h1
 exact⟨h2,h3⟩
def Sp.wW (h:(⟨1,f,bl⟩:Sp).holds B x w):∃b,x=f [b]/\∀p∈bl [b],B<=p.1/\w.heap[p.1]?=aa p.2:=by
 obtain⟨ids,h1,h2,h3⟩:=h
 match ids,h1 with
 |[b],_=>exact⟨b,h2,h3⟩
def Sp.YX (h:(⟨2,f,bl⟩:Sp).holds B x w):∃b c,x=f [b,c]/\∀p∈bl [b,c],B<=p.1/\w.heap[p.1]?=aa p.2:=by
 obtain⟨ids,h1,h2,h3⟩:=h
 match ids,h1 with
 |[b,c],_=>exact⟨b,c,h2,h3⟩
def Sp.YY (h:(⟨3,f,bl⟩:Sp).holds B x w):∃b c d,x=f [b,c,d]/\∀p∈bl [b,c,d],B<=p.1/\w.heap[p.1]?=aa p.2:=by
 obtain⟨ids,h1,h2,h3⟩:=h
 match ids,h1 with
 |[b,c,d],_=>exact⟨b,c,d,h2,h3⟩
end
def St.ro {ms:List Nat} {w0 w w':aj} {bs:List ao} (S:St ms w0 bs w) (hc:Ch [] w w') (ps:List (Nat×Obj)) (h:∀p∈ps,w.heap.size<=p.1/\w'.heap[p.1]?=aa p.2):St ms w0 (ps.map (λp=>⟨p.1,ag,p.2⟩)++bs) w':=by
 have hq:=S.quiet hc;have mL:∀(i:Nat) x,(ps.map (λp=>(⟨p.1,ag,p.2⟩:ao))++bs)[i]?=aa x->(∃p∈ps,x=⟨p.1,ag,p.2⟩/\i<ps.length)\/(ps.length<=i/\bs[i-ps.length]?=aa x):=by
  intro i x hx;rcases c9 i ps.length with hi|hi
  ·rw[gm (by simpa using hi)]at hx;simp only[jW,iX]at hx;obtain⟨p,hp,rfl⟩:=hx;exact Or.inl ⟨p,sE hp,rfl,hi⟩
  ·rw[vg (by simpa using hi)]at hx;exact Or.inr ⟨hi,by simpa using hx⟩
 refine⟨hq.ch,?_,?_,?_⟩
 ·intro i x hx;rcases mL i x hx with⟨p,hp,rfl,_⟩|⟨_,hx⟩
  ·exact(h p hp).2
  ·exact hq.at_ _ x hx
 ·intro i x hx hw;rcases mL i x hx with⟨p,hp,rfl,_⟩|⟨_,hx⟩
  ·cases hw
  ·exact hq.own _ x hx hw
 ·intro i j x y hx hy cL hw;rcases mL i x hx with⟨p,hp,rfl,_⟩|⟨hi,hx⟩
  ·cases hw
  ·rcases mL j y hy with⟨p,hp,rfl,_⟩|⟨hj,hy⟩
   ·have:=S.lt hx;have:=(h p hp).1;simp;omega
   ·exact hq.apart _ _ x y hx hy oM hw
def St.loc {ms:List Nat} {w0 w:aj} {bs:List ao} (S:St ms w0 bs w):St [] w (bs.map λx=>⟨x.id,ag,x.obj⟩) w:=by
 refine⟨Ch.refl _ _,?_,?_,?_⟩
 ·intro i x hx;simp only[jW,iX]at hx;obtain⟨y,hy,rfl⟩:=hx;exact S.at_ i y hy
 ·intro i x hx hw;simp only[jW,iX]at hx;obtain⟨y,hy,rfl⟩:=hx;cases hw
 ·intro i j x y hx hy cL hw;simp only[jW,iX]at hx;obtain⟨y,hy,rfl⟩:=hx;cases hw
def St.wY {w0 w:aj} {bs:List ao} (S:St [] w0 bs w) {B:Nat} (hB:B<=w0.heap.size) (i:Nat) {b:Nat} {o:Obj} (hi:bs[i]?=aa ⟨b,af,o⟩):B<=b/\w.heap[b]?=aa o:=by
 refine⟨?_,S.at_ i _ hi⟩;rcases S.own i _ hi rfl with h|h
 ·simp at h
 ·exact ia hB h
def St.YZ {w0 w:aj} {bs:List ao} (S:St [] w0 bs w) {B:Nat} (i:Nat) {b:Nat} {o:Obj} (hB:B<=b) (wr:Bool) (hi:bs[i]?=aa ⟨b,wr,o⟩):B<=b/\w.heap[b]?=aa o:=⟨hB,S.at_ i _ hi⟩
def ud:List ai->List aw->Act->Act
 |v::vs,o::rest,a=>ud vs rest (a.put o.dst v)
 |_,_,a=>a
def Bz (vs:Nat->ai):Nat->List ai->Prop
 |_,[]=>True
 |i,v::rest=>vs i=v/\Bz vs (i+1) rest
def Y0 {vs:Nat->ai}:∀{l:List aw} {d_:List ai} {k:Nat} {a:Act},d_.length=l.length->Bz vs k d_->gT vs k l a=ud d_ l a
 |[],[],_,_,_,_=>rfl
 |o::rest,v::d_,k,a,h,⟨h1,h2⟩=>by
  simp only[gT,ud,h1];exact Y0 (by simpa using h) h2
 |[],_::_,_,_,h,_=>by simp at h
 |_::_,[],_,_,h,_=>by simp at h
def kI (env:List (Nat×ai)):bg->ai:=wS λt=>(env.lookup t).getD undef
def zG (y:Nat->ai):List (Nat×ai)->Prop
 |[]=>True
 |p::rest=>y p.1=p.2/\zG y rest
def Y1 {y:Nat->ai}:∀{env:List (Nat×ai)},zG y env->∀t v,env.lookup t=aa v->y t=v
 |[],_,t,v,h=>by simp at h
 |(s,u)::rest,⟨h1,h2⟩,t,v,h=>by
  rw[List.lookup_cons]at h;cases dU:t==s with
  |true=>
   simp[dU]at h;have:t=s:=by simpa using dU
   subst this;subst h;exact h1
  |false=>
   simp[dU]at h;exact Y1 h2 t v h
def zH (env:List (Nat×ai)) (o:aw):Bool:=o.op.operands.all (λx=>match x with|.tmp t=>(env.lookup t).isSome|_=>af)&&(match o.op with|.select .. =>ag|_=>af)
section
variable{P:aG} {o:aw} {w w0:aj} {ms:List Nat} {bs:List ao} {R:ai->aj->Prop} {y:Nat->ai}
def nq (env:List (Nat×ai)) (hy:zG y env) (h:Yields P o (kI env) w R) (oh:zH env o=af:=by kernel_rfl):Yields P o (wS y) w R:=by
 have:execOp (wS y) o=execOp (kI env) o:=by
  simp only[zH,bD]at oh;refine execOp_congr o ?_ ?_
  ·intro cs b agu;rw[agu]at oh;simp at oh
  ·intro x hx;have h1:=Kv.1 oh.1 x hx;cases x with
   |tmp t=>
    simp only at h1;cases hl:env.lookup t with
    |none=>simp[hl]at h1
    |some v=>simp[wS,kI,hl,Y1 hy t v hl]
   |_=>rfl
 unfold Yields at*;rw[this];exact h
def agv {A C:Prop} {b:Bool} (hw:b=af) (h:A):(b=af->A)/\(b=ag->C):=⟨λ_=>h,λe=>by rw[hw]at e;cases e⟩
end
def qW {y:Nat->ai}:zG y []:=trivial
def nr {y:Nat->ai} {t:Nat} {v:ai} {env:List (Nat×ai)} (h:y t=v) (k:zG y env):zG y ((t,v)::env):=⟨h,k⟩
def DO {vs:Nat->ai} {i:Nat}:Bz vs i []:=trivial
def eA {vs:Nat->ai} {i:Nat} {v:ai} {rest:List ai} (h:vs i=v) (k:Bz vs (i+1) rest):Bz vs i (v::rest):=⟨h,k⟩
def all_nil {α:Type} {C:α->Prop}:∀p∈([]:List α),C p:=λp hp=>by cases hp
def all_cons {α:Type} {C:α->Prop} {x:α} {xs:List α} (h:C x) (k:∀p∈xs,C p):∀p∈x::xs,C p:=λp hp=>by
 rcases cF.1 hp with rfl|hp
 ·exact h
 ·exact k p hp
def Sp.qX {s:Sp} {B:Nat} {v:ai} {w:aj} (ids:List Nat) (h3:∀p∈s.bl ids,B<=p.1/\w.heap[p.1]?=aa p.2) (h1:ids.length=s.k:=by kernel_rfl) (h2:v=s.f ids:=by kernel_rfl):s.holds B v w:=⟨ids,h1,h2,h3⟩
def BA {P:aG} {lf l:List aw} {sp:Nat->Sp} {y0:Nat->ai} {w:aj} {i:Nat}:sH P lf l sp y0 w i []:=trivial
def step_cons {P:aG} {lf l:List aw} {sp:Nat->Sp} {y0:Nat->ai} {w:aj} {i:Nat} {o:aw} {rest:List aw} (h:wU P lf l sp y0 w i o) (k:sH P lf l sp y0 w (i+1) rest):sH P lf l sp y0 w i (o::rest):=⟨h,k⟩
def qY {A C:Prop} (h:A) {b:Bool} (hw:b=af:=by kernel_rfl):(b=af->A)/\(b=ag->C):=agv hw h
def St.given {w:aj} (ps:List (Nat×Obj)) (h:∀p∈ps,w.heap[p.1]?=aa p.2):St [] w (ps.map λp=>⟨p.1,ag,p.2⟩) w:=by
 refine⟨Ch.refl _ _,?_,?_,?_⟩
 ·intro i x hx;simp only[jW,iX]at hx;obtain⟨p,hp,rfl⟩:=hx;exact h p (sE hp)
 ·intro i x hx hw;simp only[jW,iX]at hx;obtain⟨p,hp,rfl⟩:=hx;cases hw
 ·intro i j x y hx hy cL hw;simp only[jW,iX]at hx;obtain⟨p,hp,rfl⟩:=hx;cases hw
def BB {P:aG} {a0:Act} {w0:aj} {Q:dE->Act->aj->Prop} {id:Nat} {L:List aw} (m:Nat) (sp:List Sp) (paths:List (List Nat))
 (hs:sH P L (L.take m) (sO sp) (cW a0) w0 0 (L.take m))
 (hq:∀(vs:Nat->ai) w',Ch [] w0 w'->(∀i,db i m=af->(sO sp i).holds w0.heap.size (vs i) w')->∃d_:List ai,d_.length=m/\Bz vs 0 d_/\WL P L.toArray Q (L.drop m) (ud d_ (L.take m) a0) w')
 (hm:P.follows .mixedOrders=af:=by kernel_rfl) (hl:bZ m L.length=af:=by kernel_rfl) (ht:sJ L m paths=af:=by kernel_rfl) (kV:GA a0.tmps.size (L.take m)=af:=by kernel_rfl) (gU:pU 0 L=af:=by kernel_rfl):(Code.region id L.toArray af).wp P Q a0 w0:=by
 have sQ:(L.take m).length=m:=by have:=eO hl;simp;omega
 have h:=agt (id:=id) (Q:=Q) (P:=P) (a0:=a0) (w0:=w0) (L.take m) (L.drop m) (sO sp) paths hm (by rw[jH,sQ];exact ht) kV (by rw[jH];exact gU) (by rw[jH];exact hs) ?_
 ·rwa [jH]at h
 ·intro vs w' hc dI;rw[jH];obtain⟨d_,h1,h2,h3⟩:=hq vs w' hc λi hi=>by
   have l7:i<m:=by simpa[jt]using hi
   exact dI i _ (jY oM)
  rw[Y0 (by rw[h1,sQ]) h2];exact h3.out
namespace Y
section
variable{P:aG} {o:aw} {w w0:aj} {ms:List Nat} {bs:List ao} {R:ai->aj->Prop} {ρ:bg->ai}
def av (v:ai) (k:R v w) (h:(execOp ρ o).run P w=.ok (.value v) w:=by kernel_rfl):Yields P o ρ w R:=by unfold Yields;rw[h];exact k
def nj (v v':ai) (he:v=v') (k:R v' w) (h:(execOp ρ o).run P w=.ok (.value v) w:=by kernel_rfl):Yields P o ρ w R:=by subst he;exact av v k h
def l6 (kd:fH) (e:Int) (he:kd.wrap e=e) (k:R (.int kd e) w) (h:(execOp ρ o).run P w=.ok (.value (.int kd (kd.wrap e))) w:=by kernel_rfl):Yields P o ρ w R:=nj _ _ (by rw[he]) k h
def dh {x:bg} (k:R (ρ x) w) (ho:o.op=.move x:=by rfl):Yields P o ρ w R:=av _ k (by unfold execOp;simp[ho])
def fp {x:bg} (k:R (ρ x) w) (ho:o.op=.assign x:=by rfl):Yields P o ρ w R:=av _ k (by unfold execOp;simp[ho])
def mF (S:St ms w0 bs w) (i:Nat) (v:ai) (b off:Nat) {x:bg} {ty:aM} (k:R v w) (ho:o.op=.load ty x:=by rfl) (hx:ρ x=.pointer (aa ⟨b,off,ae⟩):=by kernel_rfl)
 (ha:(P.underlying ty).map jI=aa ag:=by kernel_rfl) (hb:lk bs i off=aa (b,v):=by kernel_rfl):Yields P o ρ w R:=by
 obtain⟨wr,cs,t,fr,hb,hc⟩:=YM hb;unfold Yields execOp;simp only[ho,hx,pO,iY,bz,cZ,ct,Bo (S.at_ i _ hb) ha hc];exact k
def kS (S:St ms w0 bs w) (i:Nat) (n:Nat) (vs:Array ai) (b off:Nat) {x:bg} {ty:aM} (k:R (.agg vs) w) (ho:o.op=.load ty x:=by rfl) (hx:ρ x=.pointer (aa ⟨b,off,ae⟩):=by kernel_rfl)
 (ha:(P.underlying ty).map jI=aa af:=by kernel_rfl) (hn:(P.info? ty).map (·.size)=aa n:=by kernel_rfl) (hb:zA bs i off n=aa (b,vs):=by kernel_rfl):Yields P o ρ w R:=by
 obtain⟨wr,cs,t,fr,hb,hc,hv⟩:=KO hb;unfold Yields execOp;simp only[ho,hx,pO,iY,bz,cZ,ct,Bp (S.at_ i _ hb) ha hn hc hv];exact k
def fc (S:St ms w0 bs w) (f:Nat->ai) (obj:Obj) (k:∀b w',St ms w0 (⟨b,af,obj⟩::bs) w'->R (f b) w') (h:(execOp ρ o).run P w=.ok (.value (f w.heap.size)) (w.alloc obj):=by kernel_rfl):Yields P o ρ w R:=by
 unfold Yields;rw[h];exact k _ _ (S.new (Ch.alloc _ _ _) (cY _) (n6 w obj))
def fY (f:fl) (args:Array ai) (k:aX P f args w R) (h:(execOp ρ o).run P w=.ok (.enter f args) w:=by kernel_rfl):Yields P o ρ w R:=by unfold Yields;rw[h];exact k
end
end Y
section
variable{P:aG} {a:Act} {w:aj} {Q:dE->Act->aj->Prop}
def Qd {p:Nat->Prop} (h:∃n,p n):∃n,p n/\∀m,p m->n<=m:=by
 obtain⟨n,hn⟩:=h;induction n using Nat.strongRecOn with
 |_ n ih=>
  by_cases hm:∃m,m<n/\p m
  ·obtain⟨m,hl,hp⟩:=hm;exact ih m hl hp
  ·refine⟨n,hn,λm hp=>?_⟩;by_cases hl:m<n
   ·exact absurd ⟨m,hl,hp⟩ hm
   ·omega
open Classical in
def agw {c:eH} (I:Nat->Act->aj->Prop) (n:Nat) (h:I n a w)
 (round:∀n a w,I n a w->c.wp P (Exit.then (λa' w'=>∃m,m<n/\I m a' w') Q) a w):(Code.loop c).wp P Q a w:=by
 refine wp_loop (λa w=>∃n,I n a w) (λa w=>if h:∃n,I n a w then choose (Qd h)else 0) ⟨n,h⟩ ?_;intro a w hI;have hs:=choose_spec (Qd hI);refine wp_mono (round _ a w hs.1) ?_;intro e a' w' hh;cases e with
 |normal=>
  obtain⟨m,hm,hi⟩:=hh;refine⟨⟨m,hi⟩,?_⟩;have hx:∃n,I n a' w':=⟨m,hi⟩;have hy:=(choose_spec (Qd hx)).2 m hi;simp only[dif_pos hx,dif_pos hI];omega
 |_=>exact hh
end
section
variable{P:aG} {ops:Array aw} {Q:dE->Act->aj->Prop} {rest:List aw} {a:Act} {w w0:aj} {o:aw} {ms:List Nat} {bs:List ao}
def St.agx (S:St ms w0 bs w) {b off:Nat} {v:ai} (hc:w0.cell? ⟨b,off,ae⟩=aa v) (hm:b∉ms):w.cell? ⟨b,off,ae⟩=aa v:=by
 have hb:b<w0.heap.size:=by
  unfold zl at hc;split at hc
  ·next h=>exact oe h
  ·exact absurd hc sP
 have:=S.ch.block b hb hm;unfold zl at hc⊢;simpa only[this]using hc
def sR (b off i n z c:Nat) (kd:fH) (iv:Int) {t e:aM} {x y:bg} (h0:0<=iv) (h1:iv<n) (he:i=iv.toNat) (k:WL P ops Q rest (a.put o.dst (.pointer (aa ⟨b,off+i*z,ae⟩))) w) (hw:gk o (yielded ops a.tmps)=af:=by kernel_rfl)
 (ho:o.op=.indexAddr t x y:=by rfl) (hu:P.underlying t=aa (.slice e):=by kernel_rfl) (hz:(P.info? e).map (·.size)=aa z:=by kernel_rfl)
 (hx:a.eval x=.slice (aa ⟨b,off,ae⟩) n c:=by kernel_rfl) (hy:a.eval y=.int kd iv:=by kernel_rfl):WL P ops Q (o::rest) a w:=
 av (.pointer (aa ⟨b,off+i*z,ae⟩)) k hw (by
  subst he;have Bt:∀q:Nat,(⟨b,off,ae⟩:aI).add q=⟨b,off+q,ae⟩:=λq=>by
   by_cases hq:q=0
   ·subst hq;rfl
   ·simp[qJ,hq]
  cases hq:P.info? e with
  |none=>simp[hq]at hz
  |some inf=>
   have dc:inf.size=z:=by simpa[hq]using hz
   unfold execOp;simp only[ho,hx,hy];unfold tT;simp only[bz,dw hu,ct,asIntOf,cZ];simp[h0,h1,pN,typeInfo,hq,dc,Bt])
end
namespace Y
section
variable{P:aG} {w w0:aj} {o:aw} {ms:List Nat} {bs:List ao} {R:ai->aj->Prop} {ρ:bg->ai}
def sR (b off i n z c:Nat) (kd:fH) (iv:Int) {t e:aM} {x y:bg} (h0:0<=iv) (h1:iv<n) (he:i=iv.toNat) (k:R (.pointer (aa ⟨b,off+i*z,ae⟩)) w)
 (ho:o.op=.indexAddr t x y:=by rfl) (hu:P.underlying t=aa (.slice e):=by kernel_rfl) (hz:(P.info? e).map (·.size)=aa z:=by kernel_rfl)
 (hx:ρ x=.slice (aa ⟨b,off,ae⟩) n c:=by kernel_rfl) (hy:ρ y=.int kd iv:=by kernel_rfl):Yields P o ρ w R:=
 Y.av (.pointer (aa ⟨b,off+i*z,ae⟩)) k (by
  subst he;have Bt:∀q:Nat,(⟨b,off,ae⟩:aI).add q=⟨b,off+q,ae⟩:=λq=>by
   by_cases hq:q=0
   ·subst hq;rfl
   ·simp[qJ,hq]
  cases hq:P.info? e with
  |none=>simp[hq]at hz
  |some inf=>
   have dc:inf.size=z:=by simpa[hq]using hz
   unfold execOp;simp only[ho,hx,hy];unfold tT;simp only[bz,dw hu,ct,asIntOf,cZ];simp[h0,h1,pN,typeInfo,hq,dc,Bt])
end
end Y
def BC (x y:ao):Prop:=x.wr=af\/y.wr=af->x.id≠y.id
section
variable{ms:List Nat} {w0 w w':aj} {bs bs':List ao}
def St.at' (S:St ms w0 bs w) {x:ao} (h:x∈bs):w.heap[x.id]?=aa x.obj:=by
 obtain⟨i,hi⟩:=DA h;exact S.at_ i x hi
def St.nu (S:St ms w0 bs w) {x:ao} (h:x∈bs) (hw:x.wr=af):x.id∈ms\/w0.heap.size<=x.id:=by
 obtain⟨i,hi⟩:=DA h;exact S.own i x hi hw
def St.pw (S:St ms w0 bs w):bs.Pairwise BC:=by
 rw[List.pairwise_iff_getElem];intro i j hi hj ua hw;have h1:bs[i]?=aa bs[i]:=jY hi;have h2:bs[j]?=aa bs[j]:=jY hj;rcases hw with hw|hw
 ·exact S.apart i j _ _ h1 h2 oM hw
 ·exact(S.apart j i _ _ h2 h1 oM hw).symm
def St.mk' (ch:Ch ms w0 w) (at_:∀x∈bs,w.heap[x.id]?=aa x.obj) (own:∀x∈bs,x.wr=af->x.id∈ms\/w0.heap.size<=x.id) (pw:bs.Pairwise BC):St ms w0 bs w:=by
 refine⟨ch,λi x h=>at_ x (sE h),λi x h=>own x (sE h),?_⟩;intro i j x y hx hy cL hw;rw[List.pairwise_iff_getElem]at pw;have hi:i<bs.length:=by
  rcases c9 i bs.length with h|h
  ·exact h
  ·simp[h]at hx
 have hj:j<bs.length:=by
  rcases c9 j bs.length with h|h
  ·exact h
  ·simp[h]at hy
 obtain rfl:bs[i]=x:=by simpa[hi]using hx
 obtain rfl:bs[j]=y:=by simpa[hj]using hy
 rcases Nat.lt_or_gt_of_ne cL with h|h
 ·exact pw i j hi hj h (.inl hw)
 ·exact(pw j i hj hi h (.inr hw)).symm
def agy {x y:ao} (h:BC x y):BC y x:=λhw=>(h hw.symm).symm
def St.perm (S:St ms w0 bs w) (h:bs.Perm bs'):St ms w0 bs' w:=
 St.mk' S.ch (λx hx=>S.at' (h.mem_iff.2 hx)) (λx hx=>S.nu (h.mem_iff.2 hx)) ((h.pairwise_iff (λh=>agy h)).1 S.pw)
def St.sub (S:St ms w0 bs w) (h:bs'.Sublist bs):St ms w0 bs' w:=
 St.mk' S.ch (λx hx=>S.at' (h.mem hx)) (λx hx=>S.nu (h.mem hx)) (S.pw.sublist h)
def St.ge (S:St ms w0 bs w) {x:ao} (h:x∈bs):x.id<w.heap.size:=oe (S.at' h)
def Ch.mono {es fq:List Nat} (h:Ch es w w') (hs:∀x∈es,x∈fq):Ch fq w w':=⟨h.os,h.tape,h.output,h.size,λk hk hm=>h.block k hk (λhx=>hm (hs k hx))⟩
def St.vw {A bl bl' R:List ao} (S:St ms w0 (A++(bl++R)) w) (hw:∀x∈bl,x.wr=af) (hc:Ch (bl.map ao.id) w w')
 (aS:∀x∈bl',w'.heap[x.id]?=aa x.obj) (hid:∀x∈bl',(∃y∈bl,x.id=y.id)\/w.heap.size<=x.id) (hp:bl'.Pairwise BC):St ms w0 (A++(bl'++R)) w':=by
 have Y2:=S.pw;rw[Ky,Ky]at Y2;obtain⟨pA,⟨pb,pR,pbR⟩,Y3⟩:=Y2;have ue:∀z,z∈A\/z∈R->z.id∉bl.map ao.id:=by
  intro z hz hm;obtain⟨y,hy,he⟩:=n8.1 hm;rcases hz with hz|hz
  ·exact Y3 z hz y (by simp[hy]) (.inr (hw y hy)) he.symm
  ·exact pbR y hy z hz (.inl (hw y hy)) he
 have Y4:∀z,z∈A\/z∈R->∀x∈bl',z.id≠x.id:=by
  intro z hz x hx e;rcases hid x hx with⟨y,hy,he⟩|h
  ·exact ue z hz (by rw[e,he];exact List.mem_map_of_mem hy)
  ·have:=S.ge (x:=z) (by rcases hz with h|h<;>simp[h]);omega
 refine St.mk' (S.ch.trans hc ?_) ?_ ?_ ?_
 ·intro k hk;obtain⟨y,hy,rfl⟩:=n8.1 hk;exact S.nu (by simp[hy]) (hw y hy)
 ·intro x hx;rcases eI.1 hx with h|h
  ·exact(hc.block _ (S.ge (by simp[h])) (ue x (.inl h))).trans (S.at' (by simp[h]))
  ·rcases eI.1 h with h|h
   ·exact aS x h
   ·exact(hc.block _ (S.ge (by simp[h])) (ue x (.inr h))).trans (S.at' (by simp[h]))
 ·intro x hx Y5;rcases eI.1 hx with h|h
  ·exact S.nu (by simp[h]) Y5
  ·rcases eI.1 h with h|h
   ·rcases hid x h with⟨y,hy,he⟩|fh
    ·rw[he];exact S.nu (by simp[hy]) (hw y hy)
    ·exact .inr (ia S.ch.size fh)
   ·exact S.nu (by simp[h]) Y5
 ·rw[Ky,Ky];refine⟨pA,⟨hp,pR,λx hx z hz _ e=>Y4 z (.inr hz) x hx e.symm⟩,λz hz x hx=>?_⟩;rcases eI.1 hx with h|h
  ·exact λ_=>Y4 z (.inl hz) x h
  ·exact Y3 z hz x (by simp[h])
def St.less {A bl R:List ao} (S:St ms w0 (A++(bl++R)) w) (hw:∀x∈bl,x.wr=af) (hc:Ch (bl.map ao.id) w w'):St ms w0 (A++R) w':=by
 have:=S.vw (bl':=[]) hw hc sP sP List.Pairwise.nil;simpa using this
end
def dD (z:Nat) (T:aM) (olds:List ai) (x:Option aI) (n c:Nat) (bl:List ao):Prop:=
 olds.length=n*z/\n<=c/\((x=ae/\n=0/\c=0/\bl=[])\/∃b tail,x=aa ⟨b,0,ae⟩/\bl=[⟨b,af,.cells (olds++tail).toArray T (0,0)⟩]/\(olds++tail).length=c*z)
def uf (z:Nat) (T:aM):dD z T [] ae 0 0 []:=⟨sP,cY _,.inl ⟨rfl,rfl,rfl,rfl⟩⟩
def dD.wr {z T olds x n c bl} (h:dD z T olds x n c bl):∀y∈bl,y.wr=af:=by
 rcases h.2.2 with⟨_,_,_,rfl⟩|⟨b,tail,_,rfl,_⟩<;>simp
def dD.pw {z T olds x n c bl} (h:dD z T olds x n c bl):bl.Pairwise BC:=by
 rcases h.2.2 with⟨_,_,_,rfl⟩|⟨b,tail,_,rfl,_⟩<;>simp
def ug (z:Nat) (T:aM) (olds:List ai) (n:Nat) (bl:List ao) (B:Nat) (v:ai) (w':aj):Prop:=
 ∃x c bl',v=.slice x n c/\dD z T olds x n c bl'/\∀y∈bl',w'.heap[y.id]?=aa y.obj/\((∃u∈bl,y.id=u.id)\/B<=y.id)
def ug.Gy {z T olds n bl B v} {w w':aj} (h:ug z T olds n bl B v w) (hc:Ch [] w w'):ug z T olds n bl B v w':=by
 obtain⟨x,c,bl',h1,h2,h3⟩:=h;exact⟨x,c,bl',h1,h2,λy hy=>⟨(hc.block _ (oe (h3 y hy).1) sP).trans (h3 y hy).1,(h3 y hy).2⟩⟩
section
variable{P:aG}
def DP {w:aj} {z T n c m:Nat} {olds news:List ai} {x:Option aI} {bl:List ao} (hr:dD z T olds x n c bl) (aS:∀y∈bl,w.heap[y.id]?=aa y.obj)
 {t tx ty:aM} {xv:ai} (bytes:Nat) (hs:Src P z tx xv m news w) (ht:P.underlying t=aa (.slice T)) (hi:(P.info? T).map (λi=>(i.zero.map (·.cells.size),i.size,i.bytes))=aa (aa z,z,bytes))
 (hb:(n+m)*bytes<=140737488355328) (h63:n+m<=maxLen):
 ∃v w',(nh #[t,tx] ty #[.slice x n c,xv]).run P w=.ok v w'/\Ch (bl.map ao.id) w w'/\ug z T (olds++news) (n+m) bl w.heap.size v w':=by
 obtain⟨i,cu,hi⟩:=iX.1 hi;simp only[bC]at hi;obtain⟨hz,dc,j6⟩:=hi;obtain⟨z0,nv,pV⟩:=iX.1 hz;obtain⟨hlen,j7,iL⟩:=hr;have qZ:=hs.newsLen;have axT:news.length=m*i.size:=by rw[dc];exact qZ
 have ie:Src P i.size tx xv m news w:=by rw[dc];exact hs
 by_cases l9:n+m<=c
 ·rcases tU m with j8|j8
  ·subst j8;obtain rfl:news=[]:=lz (by simpa using qZ);refine⟨_,_,run_append_nothing (P:=P) w t tx ty T i ht cu x n c j7 xv ie,Ch.refl _ _,x,c,bl,rfl,⟨by simpa using hlen,j7,by simpa using iL⟩,λy hy=>⟨aS y hy,.inl ⟨y,hy,rfl⟩⟩⟩
  ·rcases iL with⟨_,rfl,rfl,_⟩|⟨b,tail,rfl,rfl,oV⟩
   ·omega
   ·have uh:=aS _ (jZ.2 rfl);have hbd:n*z+news.length<=(olds++tail).length:=by
     rw[oV,qZ,<-n9];exact PL _ l9
    have fE:=run_storeCells_at (P:=P) b (n*z) T news 0 (olds++tail).toArray w uh (by simpa using hbd) hs.one;simp only[lA]at fE;have bT:(nh #[t,tx] ty #[.slice (aa ⟨b,0,ae⟩) n c,xv]).run P w=.ok (.slice (aa ⟨b,0,ae⟩) (n+m) c) (w.setRow b ((olds++tail).take (n*z)++news++(olds++tail).drop (n*z+news.length)).toArray):=by
     rcases ie.kind with⟨e',hk⟩|hk<;>simp[nh,dw ht,dw hk,pN,typeInfo,cu,ie.len,l9,hs.cells,iK,dc,fE,je]
    refine⟨_,_,bT,by simpa using Ch.setRow w b _,aa ⟨b,0,ae⟩,c,[⟨b,af,.cells ((olds++news)++tail.drop news.length).toArray T (0,0)⟩],rfl,⟨by rw[fL,hlen,qZ,n9],l9,.inr ⟨b,_,rfl,rfl,?_⟩⟩,?_⟩
    ·simp only[fL,List.length_drop,hlen]at oV hbd⊢;omega
    ·intro y hy;obtain rfl:=jZ.1 hy;refine⟨?_,.inl ⟨_,jZ.2 rfl,rfl⟩⟩;have:=setRow_heap w b (olds++tail).toArray ((olds++tail).take (n*z)++news++(olds++tail).drop (n*z+news.length)).toArray T (0,0) uh;rw[this];congr 3;rw[<-hlen,List.take_left,List.drop_append,List.drop_eq_nil_of_le oM];simp
 ·have hg:c<n+m:=oM;have hold:(Builtin.firstCells i.size n (.slice x n c)).run P w.drew=.ok olds.toArray w.drew:=by
   rcases iL with⟨rfl,rfl,rfl,_⟩|⟨b,tail,rfl,rfl,oV⟩
   ·obtain rfl:olds=[]:=lz (by simpa using hlen);exact run_firstCells_none (P:=P) w.drew i.size 0 0 0
   ·have uh:=aS _ (jZ.2 rfl);refine run_firstCells_some (P:=P) w.drew i.size n ⟨b,0,ae⟩ n c olds (by rw[hlen,dc]) (λj v hj=>?_);rw[iK];have:w.drew.cell? ⟨b,0+j,ae⟩=w.cell? ⟨b,j,ae⟩:=sP;rw[this,cell_of uh];have mM:j<olds.length:=by
     rcases c9 j olds.length with h|h
     ·exact h
     ·simp[h]at hj
    simp[gm mM,hj]
  have bT:=run_append_grow_src (P:=P) w t tx ty T i z0 ht cu nv x n c olds hold xv m news ie hg (by simp only[maxLen]at h63;omega) (by rw[j6];exact growslice_fits hg hb);have fh:=grownCap_ge w (n+m) c T;refine⟨_,_,bT,?_,aa ⟨w.heap.size,0,ae⟩,grownCap w (n+m) c T,[⟨w.heap.size,af,.cells ((olds++news)++(qM z0.cells (grownCap w (n+m) c T-(n+m))).toList).toArray T (0,0)⟩],rfl,⟨by rw[fL,hlen,qZ,n9],fh,.inr ⟨_,_,rfl,rfl,?_⟩⟩,?_⟩
  ·exact((Ch.refl (bl.map ao.id) w).drew).trans (Ch.alloc (bl.map ao.id) w.drew _) (λx hx=>.inl hx)
  ·rw[fL,fL,hlen,qZ,wF,size_zeroCells,pV,<-n9,<-n9];congr 1;omega
  ·intro y hy;obtain rfl:=jZ.1 hy;refine⟨?_,.inr (cY _)⟩;have:=n6 w.drew (.cells ((olds++news).toArray++qM z0.cells (grownCap w (n+m) c T-(n+m))) T);refine Eq.trans this ?_;congr 2;apply fD;simp
end
def DQ (n:Nat) (l:List aw):Bool:=l.all (λo=>match o.dst with|some d=>db d n|none=>af)&&Gz (l.map (·.dst))
def Y6 (vs:Nat->ai):∀(m:List aw) (k:Nat) (a:Act),(∀o∈m,∀d,o.dst=aa d->d<a.tmps.size)->(m.map (·.dst)).Nodup->
 (gT vs k m a).tmps.size=a.tmps.size/\(gT vs k m a).defers=a.defers/\(∀t,(∀o∈m,o.dst≠aa t)->cW (gT vs k m a) t=cW a t)/\∀i o d,m[i]?=aa o->o.dst=aa d->cW (gT vs k m a) d=vs (k+i)
 |[],k,a,_,_=>⟨rfl,rfl,λ_ _=>rfl,λi o d h=>by simp at h⟩
 |x::rest,k,a,hd,hn=>by
  simp only[gb,tS]at hn;obtain⟨h1,h2,h3,h4⟩:=Y6 vs rest (k+1) (a.put x.dst (vs k)) (λo ho d e=>by
   rw[size_put];exact hd o (by simp[ho]) d e) hn.2
  refine⟨by simp only[gT];rw[h1,size_put],by simp only[gT];rw[h2,Bw],?_,?_⟩
  ·intro t ht;simp only[gT];rw[h3 t (λo ho=>ht o (by simp[ho]))];cases hx:x.dst with
   |none=>rfl
   |some dx=>
    rw[zE _ _ _ _ (hd x sP dx hx),if_neg];intro e;subst e;exact ht x sP hx
  ·intro i o d hi ho;cases i with
   |zero=>
    obtain rfl:x=o:=by simpa using hi
    simp only[gT];rw[h3 d (λo' kU e=>hn.1 (by rw[ho,<-e];exact List.mem_map_of_mem (f:=λx=>x.dst) kU)),ho,zE _ _ _ _ (hd x sP d ho),if_pos rfl];rfl
   |succ i=>
    simp only[gT];rw[h4 i o d (by simpa using hi) ho];congr 1;omega
def preB (pre:List (List Nat)) (i:Nat):Bool:=pre.any λp=>match p.getLast? with|some j=>aA j i|none=>ag
def GF (l:List aw) (k0:Nat) (pre:List (List Nat)):Bool:=pre.all λp=>DM l p&&(match p.head? with|some k=>aA k k0|none=>ag)&&db 1 p.length
def sS (P:aG) (k0:Nat) (pre:List (List Nat)) (es:List Nat) (H:Nat->ai->aj->Prop) (lf l:List aw) (y0:Nat->ai) (w:aj) (i:Nat) (o:aw):Prop:=
 ∀(y:Nat->ai) (w':aj),(i=k0\/preB pre i=af->Ch [] w w')->Ch es w w'->(∀t,wT l i t=af->y t=y0 t)->
  (∀j d,lB o j=af->(l[j]?).bind (·.dst)=aa d->H j (y d) w')->
  (oT lf o y=af->Yields P o (wS y) w' λv gn=>(i=k0->Ch es w' gn)/\(i≠k0->Ch [] w' gn)/\H i v gn)/\(oT lf o y=ag->H i undef w')
def q_ (P:aG) (k0:Nat) (pre:List (List Nat)) (es:List Nat) (H:Nat->ai->aj->Prop) (lf l:List aw) (y0:Nat->ai) (w:aj):Nat->List aw->Prop
 |_,[]=>True
 |i,o::rest=>sS P k0 pre es H lf l y0 w i o/\q_ P k0 pre es H lf l y0 w (i+1) rest
def q_.get {P:aG} {k0:Nat} {pre:List (List Nat)} {es:List Nat} {H:Nat->ai->aj->Prop} {lf l:List aw} {y0:Nat->ai} {w:aj}:∀{k:Nat} {m:List aw},q_ P k0 pre es H lf l y0 w k m->∀(i:Nat) o,m[i]?=aa o->sS P k0 pre es H lf l y0 w (k+i) o
 |_,[],_,i,o,h=>by simp at h
 |k,x::rest,⟨h1,h2⟩,0,o,h=>by obtain rfl:x=o:=by simpa using h
                              exact h1
 |k,x::rest,⟨h1,h2⟩,i+1,o,h=>by
  have:=q_.get h2 i o (by simpa using h)
  rwa [show k+1+i=k+(i+1) by omega]at this
structure Qe (k0:Nat) (es:List Nat) (H:Nat->ai->aj->Prop) (l:List aw) (n2:Nat) (a0:Act) (w0:aj) (vs:Nat->ai) (listed:Array Bool) (a:Act) (w:aj):Prop where
 ls:listed.size=l.length+n2
 off:∀i,l.length<=i->i<l.length+n2->listed[i]?=aa ag
 size:a.tmps.size=a0.tmps.size
 defers:a.defers=a0.defers
 ch:if listed[k0]?=aa af then Ch es w0 w else Ch [] w0 w
 done:∀(i:Nat) (o:aw),l[i]?=aa o->listed[i]?=aa af->(∀d,o.dst=aa d->cW a d=vs i)/\H i (vs i) w
 rest:∀(t:Nat),(∀(i:Nat) (o:aw),l[i]?=aa o->o.dst=aa t->listed[i]?=aa ag)->cW a t=cW a0 t
 back:∀(i:Nat) (o:aw),l[i]?=aa o->listed[i]?=aa af->∀j,lB o j=af->listed[j]?=aa af
section
variable{P:aG} {l:List aw} {k0:Nat} {pre:List (List Nat)} {es:List Nat} {H:Nat->ai->aj->Prop} {a0:Act} {w0:aj} {Q:dE->Act->aj->Prop}
def agz (fE:∀i v w w',Ch [] w w'->H i v w->H i v w') (agA:GF l k0 pre=af) (Qf:∀i v w w',i≠k0->w0.heap.size<=w.heap.size->Ch es w w'->H i v w->H i v w') (l2:List aw) (paths:List (List Nat)) (ht:sJ (l++l2) l.length paths=af) (kV:DQ a0.tmps.size l=af) (gU:pU 0 (l++l2)=af) (hs:q_ P k0 pre es H (l++l2) l (cW a0) w0 0 l)
 (hq:∀(vs:Nat->ai) w',Ch es w0 w'->(∀i o,l[i]?=aa o->H i (vs i) w')->wpList P (l++l2).toArray Q l2 (gT vs 0 l a0) w'):
 ∀(fuel:Nat) (vs:Nat->ai) (listed:Array Bool) (a:Act) (w:aj),Qe k0 es H l l2.length a0 w0 vs listed a w->listed.toList.count ag=fuel+l2.length->wpAny P .any (l++l2).toArray Q (fuel+l2.length) listed a w:=by
 have inl:∀{i:Nat} {o:aw},(l++l2)[i]?=aa o->i<l.length->l[i]?=aa o:=λh hi=>by rwa [gm hi]at h
 have inr:∀{i:Nat} {o:aw},l[i]?=aa o->(l++l2)[i]?=aa o:=λ{i o} h=>by rwa [gm (by rcases c9 i l.length with h'|h';exact h';simp[h']at h)]
 simp only[DQ,bD,gQ]at kV;have hd:∀o∈l,∀d,o.dst=aa d->d<a0.tmps.size:=by
  intro o ho d hx;have:=kV.1 o ho;simpa[hx,jt]using this
 have hn:=P7 kV.2;have uniq:∀(i j:Nat) o p d,l[i]?=aa o->l[j]?=aa p->o.dst=aa d->p.dst=aa d->i=j:=by
  intro i j o p d hi hj ho hp;have jg:i<(l.map (·.dst)).length:=by simp;rcases c9 i l.length with h|h;exact h;simp[h]at hi
  refine(List.getElem?_inj jg hn).1 ?_;simp[hi,hj,ho,hp]
 have fin:∀vs listed a w,Qe k0 es H l l2.length a0 w0 vs listed a w->(∀i,i<l.length->listed[i]?=aa af)->wpAny P .any (l++l2).toArray Q l2.length listed a w:=by
  intro vs listed a w I dI;obtain⟨h1,h2,h3,h4⟩:=Y6 vs l 0 a0 hd hn;have:a=gT vs 0 l a0:=by
   refine P6 (by rw[I.size,h1]) (by rw[I.defers,h2]) ?_;intro t;by_cases ht:∃(i:Nat) (o:aw),l[i]?=aa o/\o.dst=aa t
   ·obtain⟨i,o,hi,ho⟩:=ht;rw[h4 i o t hi ho,dS];exact(I.done i o hi (dI i (by rcases c9 i l.length with h|h;exact h;simp[h]at hi))).1 t ho
   ·rw[h3 t (λo ho e=>ht (by obtain⟨i,hi⟩:=DA ho;exact⟨i,o,hi,e⟩))];exact I.rest t (λi o hi ho=>absurd ⟨i,o,hi,ho⟩ ht)
  rw[this];refine YW l2 gU paths ht l2 0 rfl listed _ w I.ls (λi hi=>dI i oM) (λi h1 h2=>I.off i oM h2) ?_;exact hq vs w (by have:=I.ch;split at this;exact this;exact this.mono sP) λi o hi=>(I.done i o hi (dI i (by rcases c9 i l.length with h|h;exact h;simp[h]at hi))).2
 have tl:∀vs listed a w,Qe k0 es H l l2.length a0 w0 vs listed a w->∀i,i∈sD .any (l++l2).toArray listed->l.length<=i->∀j,j<l.length->listed[j]?=aa af:=by
  intro vs listed a w I i hi fh j hj;obtain⟨oi,qV,hf,gV⟩:=(mJ _ listed i).1 hi;have jg:i<(l++l2).length:=by rcases c9 i (l++l2).length with h|h;exact h;simp[ju h]at qV
  obtain⟨p,q1,q2,q3,q4⟩:=P_ ht i jg fh j oM;refine GB (l:=l++l2) ?_ p i j q1 q2 q3 q4 ?_
  ·intro x o hx sL k hk;rcases c9 x l.length with h|h
   ·exact I.back x o (inl hx h) sL k hk
   ·have wV:x<(l++l2).length:=by rcases c9 x (l++l2).length with h'|h';exact h';simp[ju h']at hx
    have:=I.off x h (by simpa using wV);rw[sL]at this;simp at this
  ·intro o ho k hk;obtain rfl:oi=o:=by rw[qV]at ho;simpa using ho
   obtain⟨e,he,rfl,hbd⟩:=GC.1 hk;have h3:=gV e he hbd;have h4:=vt gU i oi qV e he hbd;rcases mI I.ls (show e.on<l.length+l2.length by simp at jg;omega)with hx|hx
   ·exact hx
   ·simp[jG,hx]at h3
 intro fuel;induction fuel with
 |zero=>
  intro vs listed a w I hc;have dI:∀i,i<l.length->listed[i]?=aa af:=by
   intro i hi;rcases mI I.ls (show i<l.length+l2.length by omega)with hb|hb
   ·exact hb
   ·exfalso;have h4:=P8 listed.toList l.length l2.length (by simpa using I.ls) (λj h1 h2=>by simpa using I.off j h1 h2) i hi (by simpa using hb);omega
  rw[dS];exact fin vs listed a w I dI
 |succ fuel ih=>
  intro vs listed a w I hc;by_cases Bx:∀i,i<l.length->listed[i]?=aa af
  ·exfalso;have:=KY listed.toList l.length l2.length (by simpa using I.ls) (λj h1=>by simpa using Bx j h1);omega
  rw[show fuel+1+l2.length=(fuel+l2.length)+1 by omega];refine⟨λhr=>?_,?_⟩
  ·
   exfalso;refine Bx ?_;intro i;induction i using Nat.strongRecOn with
   |_ i Qa=>
    intro hi;rcases mI I.ls (show i<l.length+l2.length by omega)with hb|hb
    ·exact hb
    ·exfalso;have:i∈sD .any (l++l2).toArray listed:=(mJ _ listed i).2 ⟨l[i],inr sP,by simp[jG,hb],λe he Qb=>by
      have cH:=vt gU i l[i] (inr sP) e he Qb;have:=Qa e.on oM oM;simp[jG,this]⟩
     rw[hr]at this;simp at this
  ·intro i hi;have jg:i<l.length:=by
    rcases c9 i l.length with h|h
    ·exact h
    ·exact absurd (tl vs listed a w I i hi h) Bx
   obtain⟨o,nk,h2,h3⟩:=(mJ _ listed i).1 hi;have ho:=inl nk jg;have uc:listed[i]?=aa ag:=by
    rcases mI I.ls (show i<l.length+l2.length by omega)with hb|hb
    ·simp[jG,hb]at h2
    ·exact hb
   have Qc:=hd o (sE ho);have gV:∀j,lB o j=af->listed[j]?=aa af:=by
    intro j hj;unfold lB at hj;rw[<-Array.any_toList,A9]at hj;obtain⟨e,he,hj⟩:=hj;simp only[bD,beq_iff_eq]at hj;obtain⟨rfl,hb⟩:=hj;have he:=Array.mem_toList_iff.1 he;have h4:=h3 e he hb;have cH:=vt gU i o nk e he hb;rcases mI I.ls (show e.on<l.length+l2.length by omega)with hb|hb
    ·exact hb
    ·simp[jG,hb]at h4
   have Qg:i=k0\/preB pre i=af->Ch [] w0 w:=λe=>by
    have hk:¬listed[k0]?=aa af:=by
     rcases e with e|e
     ·rw[<-e,uc];simp
     ·intro hl;unfold preB at e;obtain⟨p,hp,he⟩:=A9.1 e;have g1:=gQ.1 agA p hp;simp only[bD]at g1;obtain⟨⟨g2,g3⟩,g4⟩:=g1;cases hh:p.head? with
      |none=>rw[hh]at g3;simp at g3
      |some k=>
       rw[hh]at g3;have ek:=ck g3;cases ui:p.getLast? with
       |none=>rw[ui]at he;simp at he
       |some j=>
        rw[ui]at he;have ej:=ck he;have:=GB I.back p k j g2 hh ui (by unfold db at g4;exact eO g4) (λo ho j hj=>I.back k o ho (by rw[ek];exact hl) j hj);rw[ej,uc]at this;simp at this
    have:=I.ch;rw[if_neg hk]at this;exact this
   have step:=(q_.get hs i o ho) (cW a) w (by rw[dS];exact Qg) (by have:=I.ch;split at this;exact this;exact this.mono sP) (λt ht=>by
    refine I.rest t λk ok hk hok=>?_;rw[wT,gQ]at ht;have:=ht ok (sE hk);simp only[hok,bne_self_eq_false,Bool.false_or]at this;have zz:k<l.length:=by rcases c9 k l.length with h|h;exact h;simp[h]at hk
    rcases mI I.ls (show k<l.length+l2.length by omega)with hb|hb
    ·have:=I.back k ok hk hb i (by simpa using this);rw[uc]at this;simp at this
    ·exact hb)
    (λj dj hj oU=>by
     cases eJ:l[j]?with
     |none=>simp[eJ]at oU
     |some oj=>
      have:=I.done j oj eJ (gV j hj);rw[this.1 dj (by simpa[eJ]using oU)];exact this.2)
   have next:∀v w',(i=k0->Ch es w w')->(i≠k0->Ch [] w w')->H i v w'->wpAny P .any (l++l2).toArray Q (fuel+l2.length) (listed.setIfInBounds i af) (a.put o.dst v) w':=by
    intro v w' vu DR hv;refine ih (λj=>if j=i then v else vs j) _ _ _ ?_ ?_
    ·have gl:∀j b,(listed.setIfInBounds i af)[j]?=aa b->(j=i/\b=af)\/(j≠i/\listed[j]?=aa b):=by
      intro j b hj;rw[su]at hj;by_cases h:i=j
      ·subst h;have:i<l.length+l2.length:=oM;simp[I.ls,this]at hj;exact Or.inl ⟨rfl,hj⟩
      ·rw[if_neg h]at hj;exact Or.inr ⟨λe=>h e.symm,hj⟩
     have yp:∀t,(o.dst≠aa t->cW (a.put o.dst v) t=cW a t)/\(o.dst=aa t->cW (a.put o.dst v) t=v):=λt=>by
      cases DN:o.dst with
      |none=>exact⟨λ_=>rfl,λh=>by cases h⟩
      |some d=>
       have:=zE a d v t (by rw[I.size];exact Qc d DN);refine⟨λh=>?_,λh=>?_⟩
       ·rw[this,if_neg (λe=>h (by rw[e]))]
       ·rw[this,if_pos (by simpa using h.symm)]
     refine⟨by simp[I.ls],λj h1 h2=>by
      rw[su,if_neg oM];exact I.off j h1 h2,by rw[size_put,I.size],by rw[Bw,I.defers],?_,?_,?_,?_⟩
     ·by_cases gW:i=k0
      ·have hk:(listed.setIfInBounds i af)[k0]?=aa af:=by
        rw[<-gW,su,if_pos rfl,if_pos (by rw[I.ls];omega)]
       rw[if_pos hk];exact((Qg (.inl gW)).mono sP).trans (vu gW) (λx hx=>.inl hx)
      ·have hk:(listed.setIfInBounds i af)[k0]?=listed[k0]?:=by
        rw[su,if_neg gW]
       rw[hk];have h1:=I.ch;split at h1
       ·rename_i h2;rw[if_pos h2];exact h1.trans (DR gW) sP
       ·rename_i h2;rw[if_neg h2];exact h1.trans (DR gW) sP
     ·intro j oj hj eJ;rcases gl j af eJ with⟨rfl,_⟩|⟨cL,eJ⟩
      ·obtain rfl:o=oj:=by rw[ho]at hj;simpa using hj
       simp only[if_true];exact⟨λdj oU=>(yp dj).2 oU,hv⟩
      ·have:=I.done j oj hj eJ;simp only[if_neg cL];refine⟨λdj oU=>?_,?_⟩
       ·rw[(yp dj).1 (λe=>cL (uniq j i oj o dj hj ho oU e))];exact this.1 dj oU
       ·by_cases gW:i=k0
        ·exact Qf _ _ _ _ (λe=>cL (by rw[gW];exact e)) (by have:=I.ch;split at this;exact this.size;exact this.size) (vu gW) this.2
        ·exact fE _ _ _ _ (DR gW) this.2
     ·intro t ht;have cL:o.dst≠aa t:=λe=>by
       have:=ht i o ho e;rcases gl i ag this with⟨_,h⟩|⟨h,_⟩
       ·cases h
       ·exact h rfl
      rw[(yp t).1 cL];refine I.rest t λk ok hk hok=>?_;have:=ht k ok hk hok;rcases gl k ag this with⟨_,h⟩|⟨_,h⟩
      ·cases h
      ·exact h
     ·intro k ok hk mK j hj;have hb:listed[j]?=aa af:=by
       rcases gl k af mK with⟨rfl,_⟩|⟨cL,mK⟩
       ·obtain rfl:o=ok:=by rw[ho]at hk;simpa using hk
        exact gV j hj
       ·exact I.back k ok hk mK j hj
      rw[su];split
      ·rename_i h;subst h;rw[uc]at hb;simp at hb
      ·exact hb
    ·have h2:listed[i]?=aa ag:=uc;have ags:=count_set listed.toList i (by simpa using h2);simp only[Kx];omega
   unfold wpOp;simp only[jX,nk];rw[YU];cases hw:oT (l++l2) o (cW a)with
   |true=>
    rw[if_pos rfl];refine Or.inl ?_;have hy:=step.1 hw;rw[YT]at hy;exact Yields.wp hy λv w' ⟨vu,DR,hv⟩=>next v w' (by rw[dS]at vu;exact vu) (by rw[dS]at DR;exact DR) (by rw[dS]at hv;exact hv)
   |false=>
    rw[if_neg sP];exact next undef w (λ_=>Ch.refl _ _) (λ_=>Ch.refl _ _) (by have:=step.2 hw;rw[dS]at this;exact this)
def agB {id:Nat} (l l2:List aw) (fE:∀i v w w',Ch [] w w'->H i v w->H i v w') (gV:GF l k0 pre=af) (Qf:∀i v w w',i≠k0->w0.heap.size<=w.heap.size->Ch es w w'->H i v w->H i v w') (paths:List (List Nat)) (hm:P.follows .mixedOrders=af) (ht:sJ (l++l2) l.length paths=af) (kV:DQ a0.tmps.size l=af) (gU:pU 0 (l++l2)=af) (hs:q_ P k0 pre es H (l++l2) l (cW a0) w0 0 l)
 (hq:∀(vs:Nat->ai) w',Ch es w0 w'->(∀i o,l[i]?=aa o->H i (vs i) w')->wpList P (l++l2).toArray Q l2 (gT vs 0 l a0) w'):(Code.region id (l++l2).toArray af).wp P Q a0 w0:=by
 refine wp_region_any hm ?_;have h:=agz fE gV Qf l2 paths ht kV gU hs hq l.length (λ_=>undef) (zm (l++l2).toArray.size ag) a0 {w0 with drawn:=w0.drawn+1} ?_ ?_
 ·rw[show(l++l2).toArray.size=l.length+l2.length by simp];rw[show(l++l2).toArray.size=l.length+l2.length by simp]at h;exact h
 ·refine⟨sP,λi h1 h2=>by simp[Ba];omega,rfl,rfl,?_,?_,λ_ _=>rfl,?_⟩
  ·split
   ·exact(Ch.refl _ _).drew
   ·exact(Ch.refl _ _).drew
  ·intro i o _ h;simp[Ba]at h
  ·intro i o _ h;simp[Ba]at h
 ·simp[Yu]
end
section
variable{ms:List Nat} {w0 w w':aj} {bs:List ao}
def Y7 {α:Type}:∀{l:List α} {i:Nat} {x:α},l[i]?=aa x->l.Perm (x::l.eraseIdx i)
 |[],i,x,h=>by simp at h
 |y::l,0,x,h=>by obtain rfl:y=x:=by simpa using h
                 exact zq _
 |y::l,i+1,x,h=>by
  have:=Y7 (l:=l) (i:=i) (x:=x) (by simpa using h);exact(vh y this).trans (Bb _ _ _)
end
section
variable{P:aG} {w w0:aj} {ms:List Nat} {bs:List ao}
def jJ {ρ:bg->ai} {o:aw} {w':aj} {s x:bg} {t tx:aM} {sv xv v:ai} (ho:o.op=.call ⟨.builtin .append,#[s,x],#[t,tx]⟩) (hs:ρ s=sv) (hx:ρ x=xv)
 (bT:(nh #[t,tx] o.type #[sv,xv]).run P w=.ok v w'):(execOp ρ o).run P w=.ok (.value v) w':=by
 simp[execOp,ho,resolve,invoke,builtin,hs,hx,bT,je]
def agC (S:St ms w0 bs w) (i m z:Nat) (news:List ai) {b off c:Nat} {tx e':aM} (hk:P.underlying tx=aa (.slice e')) (hb:zA bs i off (m*z)=aa (b,news.toArray)) (h1:news.all (·.oneCell')=af) (hl:news.length=m*z):
 Src P z tx (.slice (aa ⟨b,off,ae⟩) m c) m news w:=by
 obtain⟨wr,cs,t,fr,GH,hc,hv⟩:=KO hb;refine qN w hk ⟨b,off,ae⟩ m c news hl (λj u hj=>?_) (λu hu=>gQ.1 h1 u hu);rw[iK,cell_of (S.at_ i _ GH)];have h2:(cs.extract off (off+m*z))[j]?=aa u:=by rw[hc];simpa using hj
 rw[Array.getElem?_extract]at h2;split at h2
 ·exact h2
 ·exact absurd h2 sP
section
variable{ops:Array aw} {rest:List aw} {o:aw} {a:Act} {Q:dE->Act->aj->Prop} {z T n c m bytes:Nat} {olds news tail:List ai} {s x:bg} {t tx:aM} {xv:ai}
def agD {A bl R:List ao} {xs:Option aI} (S:St ms w0 (A++(bl++R)) w) (hr:dD z T olds xs n c bl) (hs:Src P z tx xv m news w) (bytes:Nat) (ho:o.op=.call ⟨.builtin .append,#[s,x],#[t,tx]⟩:=by rfl) (hbd:(n+m)*bytes<=140737488355328) (h63:n+m<=maxLen)
 (k:∀x' c' bl' w',dD z T (olds++news) x' (n+m) c' bl'->St ms w0 (A++(bl'++R)) w'->WL P ops Q rest (a.put o.dst (.slice x' (n+m) c')) w')
 (hw:gk o (yielded ops a.tmps)=af:=by kernel_rfl) (wZ:a.eval s=.slice xs n c:=by kernel_rfl) (uj:a.eval x=xv:=by kernel_rfl)
 (ht:P.underlying t=aa (.slice T):=by kernel_rfl) (cu:(P.info? T).map (λi=>(i.zero.map (·.cells.size),i.size,i.bytes))=aa (aa z,z,bytes):=by kernel_rfl):WL P ops Q (o::rest) a w:=
 WL.want hw λK hK=>by
  obtain⟨v,w',bT,hc,x',c',bl',rfl,gp,aS⟩:=DP (P:=P) (ty:=o.type) hr (λy hy=>S.at' (by simp[hy])) bytes hs ht cu hbd h63;have S2:=S.vw hr.wr hc (λy hy=>(aS y hy).1) (λy hy=>(aS y hy).2) gp.pw;unfold qK;rw[jJ ho wZ uj bT];exact hK _ _ (k x' c' bl' w' gp S2)
end
end
def s0 (v:ai):Sp:=⟨0,λ_=>v,λ_=>[]⟩
def w7 (l:List aw) (o:aw) (t:Nat):Option Nat:=o.after.toList.findSome? λe=>bif sw .any e&&(match(l[e.on]?).bind (·.dst)with|some d=>aA d t|none=>ag)then aa e.on else ae
def valOf (l:List aw) (sp:Nat->Sp) (a0:Act) (o:aw) (t:Nat):ai:=match w7 l o t with|some j=>(sp j).f []|none=>cW a0 t
def i_ (l:List aw) (sp:Nat->Sp) (a0:Act) (o:aw):List (Nat×ai):=o.op.operands.toList.filterMap λx=>match x with|.tmp t=>aa (t,valOf l sp a0 o t)|_=>ae
def BD (l:List aw) (sp:Nat->Sp) (i:Nat) (o:aw):Bool:=o.guard.isNone&&aA (sp i).k 0&&(sp i).bl [] matches[]&&zH (i_ l sp ⟨#[],[]⟩ o) o&&
 o.op.operands.toList.all λx=>match x with|.tmp t=>(match w7 l o t with|some j=>aA (sp j).k 0|none=>wT l i t)|_=>af
def Qh {y:Nat->ai}:∀{env:List (Nat×ai)},(∀p∈env,y p.1=p.2)->zG y env
 |[],_=>trivial
 |p::env,h=>⟨h p sP,Qh λq hq=>h q (by simp[hq])⟩
def KZ {l:List aw} {o:aw} {t j:Nat} (h:w7 l o t=aa j):lB o j=af/\(l[j]?).bind (·.dst)=aa t:=by
 obtain⟨e,he,h⟩:=List.exists_of_findSome?_eq_some h;cases hd:(l[e.on]?).bind (·.dst)with
 |none=>simp[hd]at h
 |some d=>
  simp only[hd]at h;cases hb:sw .any e with
  |false=>simp[hb]at h
  |true=>
   cases hc:aA d t with
   |false=>simp[hb,hc]at h
   |true=>
    simp only[hb,hc,Bool.and_self,cond_true,aW]at h;subst h;exact⟨GC.2 ⟨e,Array.mem_toList_iff.1 he,rfl,hb⟩,by rw[hd,ck hc]⟩
def Y8 {l:List aw} {sp sp':Nat->Sp} {a0 a1:Act} {o:aw}:zH (i_ l sp a0 o) o=af->zH (i_ l sp' a1 o) o=af:=by
 intro h;unfold zH at*;simp only[bD]at*;refine⟨?_,h.2⟩;rw[Kv]at*;intro x hx;cases x with
 |tmp t=>
  simp only;have hm:∀(env:List bg) (g:Nat->ai),Operand.tmp t∈env->((env.filterMap λx=>match x with|.tmp t=>aa (t,g t)|_=>ae).lookup t).isSome=af:=by
   intro env g;induction env with
   |nil=>intro h;simp at h
   |cons y env ih=>
    intro hm;rcases cF.1 hm with h|h
    ·subst h;simp
    ·cases y with
     |tmp s=>
      simp only[List.filterMap_cons,List.lookup_cons];split
      ·rfl
      ·exact ih h
     |_=>simp only[List.filterMap_cons];exact ih h
  exact hm _ _ (Array.mem_toList_iff.2 hx)
 |_=>rfl
section
variable{P:aG} {lf l:List aw} {sp:Nat->Sp} {a0:Act} {w:aj} {i:Nat} {o:aw}
def Qi (hs:BD l sp i o=af) (h:∀w',Ch [] w w'->Yields P o (kI (i_ l sp a0 o)) w' λv gn=>Ch [] w' gn/\v=(sp i).f []):wU P lf l sp (cW a0) w i o:=by
 simp only[BD,bD]at hs;obtain⟨⟨⟨⟨hg,hk⟩,hb⟩,oh⟩,dI⟩:=hs;have Qj:o.guard=ae:=by cases hx:o.guard<;>simp_all
 have mN:(sp i).k=0:=ck hk;have w8:(sp i).bl []=[]:=by
  revert hb;cases(sp i).bl []<;>simp
 intro y w' hc uk gV;refine⟨λ_=>?_,λhw=>by simp[oT,Qj]at hw⟩;refine nq (i_ l sp a0 o) (Qh λp hp=>?_) ?_ (Y8 oh)
 ·simp only[i_,List.mem_filterMap]at hp;obtain⟨x,hx,hp⟩:=hp;cases x with
  |tmp t=>
   simp only[aW]at hp;subst hp;have h1:=gQ.1 dI _ hx;simp only at h1;unfold valOf;cases fi:w7 l o t with
   |some j=>
    rw[fi]at h1;obtain⟨he,hd⟩:=KZ fi;obtain⟨ids,h2,h3,_⟩:=gV j t he hd;have h4:(sp j).k=0:=ck h1;obtain rfl:ids=[]:=lz (by rw[h2,h4]);exact h3
   |none=>
    rw[fi]at h1;exact uk t h1
  |_=>simp at hp
 ·have:=h w' hc;unfold Yields at this⊢;split at this
  ·exact⟨this.1,[],by simp[mN],this.2,by rw[w8];simp⟩
  ·exact⟨this.1,[],by simp[mN],this.2,by rw[w8];simp⟩
  ·exact this.mono λv gn h=>⟨h.1,[],by simp[mN],h.2,by rw[w8];simp⟩
  ·exact this.elim
def ja (hs:BD l sp i o=af:=by kernel_rfl) (h:(λw=>(execOp (kI (i_ l sp a0 o)) o).run P w)=(λw=>.ok (.value ((sp i).f [])) w):=by kernel_rfl):wU P lf l sp (cW a0) w i o:=
 Qi hs λw' _=>by
  have h2:(execOp (kI (i_ l sp a0 o)) o).run P w'=.ok (.value ((sp i).f [])) w':=congrFun h w';unfold Yields;rw[h2];exact⟨Ch.refl _ _,rfl⟩
def qE_ (v0:ai) (he:v0=(sp i).f []) (hs:BD l sp i o=af:=by kernel_rfl) (h:(λw=>(execOp (kI (i_ l sp a0 o)) o).run P w)=(λw=>.ok (.value v0) w):=by kernel_rfl):wU P lf l sp (cW a0) w i o:=by
 subst he;exact ja hs h
def qS_ (kd:fH) (e:Int) (he:kd.wrap e=e) (hv:(sp i).f []=.int kd e:=by kernel_rfl) (hs:BD l sp i o=af:=by kernel_rfl) (h:(λw=>(execOp (kI (i_ l sp a0 o)) o).run P w)=(λw=>.ok (.value (.int kd (kd.wrap e))) w):=by kernel_rfl):wU P lf l sp (cW a0) w i o:=
 qE_ (.int kd (kd.wrap e)) (by rw[he,hv]) hs h
variable{ms:List Nat} {w0:aj} {bs:List ao}
def K1 (S:St ms w0 bs w) (j b off:Nat) {x:bg} {ty:aM} (ho:o.op=.load ty x:=by rfl) (hs:BD l sp i o=af:=by kernel_rfl) (hx:kI (i_ l sp a0 o) x=.pointer (aa ⟨b,off,ae⟩):=by kernel_rfl)
 (ha:(P.underlying ty).map jI=aa ag:=by kernel_rfl) (hb:lk bs j off=aa (b,(sp i).f []):=by kernel_rfl):wU P lf l sp (cW a0) w i o:=
 Qi hs λw' hc=>Y.mF (S.quiet hc) j _ b off ⟨Ch.refl _ _,rfl⟩ ho hx ha hb
def GI (S:St ms w0 bs w) (j b off n:Nat) (vs:Array ai) {x:bg} {ty:aM} (ho:o.op=.load ty x:=by rfl) (hv:(sp i).f []=.agg vs:=by kernel_rfl) (hs:BD l sp i o=af:=by kernel_rfl) (hx:kI (i_ l sp a0 o) x=.pointer (aa ⟨b,off,ae⟩):=by kernel_rfl)
 (ha:(P.underlying ty).map jI=aa af:=by kernel_rfl) (hn:(P.info? ty).map (·.size)=aa n:=by kernel_rfl) (hb:zA bs j off n=aa (b,vs):=by kernel_rfl):wU P lf l sp (cW a0) w i o:=
 Qi hs λw' hc=>Y.kS (S.quiet hc) j n vs b off ⟨Ch.refl _ _,hv.symm⟩ ho hx ha hn hb
end
def Y9 {vs:Nat->ai}:∀{d_:List ai} {k:Nat},(∀i v,d_[i]?=aa v->vs (k+i)=v)->Bz vs k d_
 |[],_,_=>trivial
 |v::d_,k,h=>⟨by have:=h 0 v rfl;simpa using this,Y9 λi u hu=>by
  have:=h (i+1) u (by simpa using hu)
  rwa [show k+(i+1)=k+1+i by omega]at this⟩
def agE {P:aG} {a0:Act} {w0:aj} {Q:dE->Act->aj->Prop} {id:Nat} {L:List aw} (m:Nat) (d_:List ai) (paths:List (List Nat))
 (hs:sH P L (L.take m) (sO (d_.map s0)) (cW a0) w0 0 (L.take m))
 (hq:∀w',Ch [] w0 w'->WL P L.toArray Q (L.drop m) (ud d_ (L.take m) a0) w')
 (Qk:d_.length=m:=by kernel_rfl)
 (hm:P.follows .mixedOrders=af:=by kernel_rfl) (hl:bZ m L.length=af:=by kernel_rfl) (ht:sJ L m paths=af:=by kernel_rfl) (kV:GA a0.tmps.size (L.take m)=af:=by kernel_rfl) (gU:pU 0 L=af:=by kernel_rfl):(Code.region id L.toArray af).wp P Q a0 w0:=by
 refine BB m (d_.map s0) paths hs (λvs w' hc dI=>⟨d_,Qk,Y9 λi v hv=>?_,hq w' hc⟩) hm hl ht kV gU;have hi:i<m:=by
  rcases c9 i d_.length with h|h
  ·omega
  ·simp[h]at hv
 obtain⟨ids,h1,h2,_⟩:=dI i (by unfold db;exact wG hi);have h3:sO (d_.map s0) i=s0 v:=by
  unfold sO;rw[tV,jW,hv];rfl
 rw[h3]at h1 h2;obtain rfl:ids=[]:=lz (by simpa[s0]using h1);rw[dS,h2];rfl
end Sx
namespace Sx
open Go Go.RowKit Go.BigFrame
section
variable{P:aG} {ops:Array aw} {rest:List aw} {o:aw} {a:Act} {w:aj} {Q:dE->Act->aj->Prop}
end
section
variable{P:aG} {lf l:List aw} {sp:Nat->Sp} {y0:Nat->ai} {w:aj} {i:Nat} {o:aw}
end
end Sx
namespace Sx
open Go Go.RowKit Go.BigFrame
def HQ (k0:Nat) (pv:ai->aj->Prop) (sp:Nat->Sp) (B:Nat) (i:Nat) (v:ai) (w:aj):Prop:=match aA i k0 with|true=>pv v w|false=>(sp i).holds B v w
def zI (k0:Nat) (l:List aw) (sp:Nat->Sp) (i:Nat) (o:aw):Bool:=o.guard.isNone&&zH (i_ l sp ⟨#[],[]⟩ o) o&&
 o.op.operands.toList.all λx=>match x with|.tmp t=>(match w7 l o t with|some j=>!(aA j k0)&&aA (sp j).k 0|none=>wT l i t)|_=>af
section
variable{P:aG} {lf l:List aw} {sp:Nat->Sp} {a0:Act} {w:aj} {i k0:Nat} {pre:List (List Nat)} {o:aw} {es:List Nat} {pv:ai->aj->Prop}
def Qm {H:Nat->ai->aj->Prop} (hs:zI k0 l sp i o=af) {B:Nat} {y:Nat->ai} {w':aj} (uk:∀t,wT l i t=af->y t=cW a0 t) (gV:∀j d,lB o j=af->(l[j]?).bind (·.dst)=aa d->HQ k0 pv sp B j (y d) w'):
 zG y (i_ l sp a0 o)/\zH (i_ l sp a0 o) o=af/\o.guard=ae:=by
 simp only[zI,bD]at hs;obtain⟨⟨hg,oh⟩,dI⟩:=hs;refine⟨Qh λp hp=>?_,Y8 oh,by cases hx:o.guard<;>simp_all⟩;simp only[i_,List.mem_filterMap]at hp;obtain⟨x,hx,hp⟩:=hp;cases x with
 |tmp t=>
  simp only[aW]at hp;subst hp;have h1:=gQ.1 dI _ hx;simp only at h1;unfold valOf;cases fi:w7 l o t with
  |some j=>
   rw[fi]at h1;obtain⟨he,hd⟩:=KZ fi;simp only[bD,n7]at h1;have h2:=gV j t he hd;unfold HQ at h2;rw[h1.1]at h2;obtain⟨ids,h3,h4,_⟩:=h2;have h5:(sp j).k=0:=ck h1.2;obtain rfl:ids=[]:=lz (by rw[h3,h5]);exact h4
  |none=>
   rw[fi]at h1;exact uk t h1
 |_=>simp at hp
def K3 (cL:aA i k0=ag) (hk:(sp i).k=0) (hb:(sp i).bl []=[]) (hs:zI k0 l sp i o=af) (h:∀w',Ch es w w'->Yields P o (kI (i_ l sp a0 o)) w' λv gn=>Ch [] w' gn/\v=(sp i).f []):
 sS P k0 pre es (HQ k0 pv sp w.heap.size) lf l (cW a0) w i o:=by
 intro y w' _ hc uk gV;obtain⟨GJ,oh,hg⟩:=Qm (H:=λ_ _ _=>True) hs uk gV;have gW:i≠k0:=λe=>by rw[e]at cL;simp at cL
 have hH:∀v gn,v=(sp i).f []->HQ k0 pv sp w.heap.size i v gn:=λv gn e=>by
  unfold HQ;rw[cL];exact⟨[],by simp[hk],e,by rw[hb];simp⟩
 refine⟨λ_=>?_,λhw=>by simp[oT,hg]at hw⟩;refine nq _ GJ ?_ oh;have:=h w' hc;unfold Yields at this⊢;split at this
 ·exact⟨λe'=>absurd e' gW,λ_=>this.1,hH _ _ this.2⟩
 ·exact⟨λe'=>absurd e' gW,λ_=>this.1,hH _ _ this.2⟩
 ·exact this.mono λv gn h=>⟨λe'=>absurd e' gW,λ_=>h.1,hH _ _ h.2⟩
 ·exact this.elim
def DS (k0:Nat) (l:List aw) (sp:Nat->Sp) (i:Nat) (o:aw):Bool:=!(aA i k0)&&aA (sp i).k 0&&(sp i).bl [] matches[]&&zI k0 l sp i o
def K4 (h:DS k0 l sp i o=af):aA i k0=ag/\(sp i).k=0/\(sp i).bl []=[]/\zI k0 l sp i o=af:=by
 simp only[DS,bD,n7]at h;refine⟨h.1.1.1,ck h.1.1.2,?_,h.2⟩;have:=h.1.2;revert this;cases(sp i).bl []<;>simp
def DU (hs:DS k0 l sp i o=af:=by kernel_rfl) (h:(λw=>(execOp (kI (i_ l sp a0 o)) o).run P w)=(λw=>.ok (.value ((sp i).f [])) w):=by kernel_rfl):sS P k0 pre es (HQ k0 pv sp w.heap.size) lf l (cW a0) w i o:=by
 obtain⟨h1,h2,h3,h4⟩:=K4 hs;refine K3 h1 h2 h3 h4 λw' _=>?_;have h2:(execOp (kI (i_ l sp a0 o)) o).run P w'=.ok (.value ((sp i).f [])) w':=congrFun h w';unfold Yields;rw[h2];exact⟨Ch.refl _ _,rfl⟩
def eC_ (f:fl) (args:Array ai) (hg:∀w',aX P f args w' λv gn=>v=(sp i).f []/\Ch [] w' gn) (hs:DS k0 l sp i o=af:=by kernel_rfl) (h:(λw=>(execOp (kI (i_ l sp a0 o)) o).run P w)=(λw=>.ok (.enter f args) w):=by kernel_rfl):sS P k0 pre es (HQ k0 pv sp w.heap.size) lf l (cW a0) w i o:=by
 obtain⟨h1,h2,h3,h4⟩:=K4 hs;refine K3 h1 h2 h3 h4 λw' _=>?_;have h2:(execOp (kI (i_ l sp a0 o)) o).run P w'=.ok (.enter f args) w':=congrFun h w';unfold Yields;rw[h2];exact(hg w').mono λv gn h=>⟨h.2,h.1⟩
variable{ms:List Nat} {w0:aj} {bs:List ao}
def Y_ (S:∀w',Ch es w w'->St ms w0 bs w') (j b off:Nat) {x:bg} {ty:aM} (ho:o.op=.load ty x:=by rfl) (hs:DS k0 l sp i o=af:=by kernel_rfl) (hx:kI (i_ l sp a0 o) x=.pointer (aa ⟨b,off,ae⟩):=by kernel_rfl)
 (ha:(P.underlying ty).map jI=aa ag:=by kernel_rfl) (hb:lk bs j off=aa (b,(sp i).f []):=by kernel_rfl):sS P k0 pre es (HQ k0 pv sp w.heap.size) lf l (cW a0) w i o:=by
 obtain⟨h1,h2,h3,h4⟩:=K4 hs;exact K3 h1 h2 h3 h4 λw' hc=>Y.mF (S w' hc) j _ b off ⟨Ch.refl _ _,rfl⟩ ho hx ha hb
def GK (S:∀w',Ch es w w'->St ms w0 bs w') (j b off n:Nat) (vs:Array ai) {x:bg} {ty:aM} (ho:o.op=.load ty x:=by rfl) (hv:(sp i).f []=.agg vs:=by kernel_rfl) (hs:DS k0 l sp i o=af:=by kernel_rfl) (hx:kI (i_ l sp a0 o) x=.pointer (aa ⟨b,off,ae⟩):=by kernel_rfl)
 (ha:(P.underlying ty).map jI=aa af:=by kernel_rfl) (hn:(P.info? ty).map (·.size)=aa n:=by kernel_rfl) (hb:zA bs j off n=aa (b,vs):=by kernel_rfl):sS P k0 pre es (HQ k0 pv sp w.heap.size) lf l (cW a0) w i o:=by
 obtain⟨h1,h2,h3,h4⟩:=K4 hs;exact K3 h1 h2 h3 h4 λw' hc=>Y.kS (S w' hc) j n vs b off ⟨Ch.refl _ _,hv.symm⟩ ho hx ha hn hb
def agF (he:aA i k0=af) (hs:zI k0 l sp i o=af) (h:∀w',Ch [] w w'->Yields P o (kI (i_ l sp a0 o)) w' λv gn=>Ch es w' gn/\pv v gn):
 sS P k0 pre es (HQ k0 pv sp w.heap.size) lf l (cW a0) w i o:=by
 intro y w' w9 _ uk gV;obtain⟨GJ,oh,hg⟩:=Qm (H:=λ_ _ _=>True) hs uk gV;have gW:i=k0:=ck he;refine⟨λ_=>?_,λhw=>by simp[oT,hg]at hw⟩;refine nq _ GJ ?_ oh;have:=h w' (w9 (.inl gW));have hH:∀v gn,pv v gn->HQ k0 pv sp w.heap.size i v gn:=λv gn e=>by unfold HQ;rw[he];exact e
 unfold Yields at this⊢;split at this
 ·exact⟨λ_=>this.1,λe=>absurd gW e,hH _ _ this.2⟩
 ·exact⟨λ_=>this.1,λe=>absurd gW e,hH _ _ this.2⟩
 ·exact this.mono λv gn e=>⟨λ_=>e.1,λe'=>absurd gW e',hH _ _ e.2⟩
 ·exact this.elim
def Za (b:Nat) (bs:List ao) (j off:Nat) (vs:List ai) (_:ai) (w:aj):Prop:=∃x,(wO bs j off vs)[j]?=aa x/\w.heap[b]?=aa x.obj
def Zb (S:St ms w0 bs w) (j:Nat) (v:ai) (b off:Nat) {x y:bg} {ty:aM} (ho:o.op=.store ty x y:=by rfl) (hs:zI k0 l sp i o=af:=by kernel_rfl) (he:aA i k0=af:=by kernel_rfl) (hx:kI (i_ l sp a0 o) x=.pointer (aa ⟨b,off,ae⟩):=by kernel_rfl) (hy:kI (i_ l sp a0 o) y=v:=by kernel_rfl)
 (hn:(P.info? ty).map (·.size)=aa v.cells.toList.length:=by kernel_rfl) (h1:v.cells.toList.all (·.oneCell')=af:=by kernel_rfl) (hb:zB bs j off v.cells.toList.length=aa b:=by kernel_rfl):sS P k0 pre [b] (HQ k0 (Za b bs j off v.cells.toList) sp w.heap.size) lf l (cW a0) w i o:=by
 refine agF he hs λw' hc=>?_;obtain⟨cs,t,vx,hl⟩:=KR hb;have aS:=(S.quiet hc).at_ j _ vx;unfold Yields execOp;simp only[ho,hx,hy,Gq,iY,bz,cZ,ct,Gv (P:=P) aS rfl hn hl h1];refine⟨Ch.setRow w' b _,⟨b,af,.cells (splice cs off v.cells.toList) t (0,0)⟩,?_,setRow_heap w' b cs _ t (0,0) aS⟩;have hj:j<bs.length:=by
  rcases c9 j bs.length with h|h
  ·exact h
  ·simp[h]at vx
 simp only[wO,vx];rw[PK hj]
def St.Zc (S:St ms w0 bs w) (j off n:Nat) {b:Nat} (hb:zB bs j off n=aa b):∀w',Ch [b] w w'->St ms w0 (bs.eraseIdx j) w':=by
 intro w' hc;obtain⟨cs,t,vx,_⟩:=KR hb;have S1:St ms w0 ([]++([⟨b,af,.cells cs t (0,0)⟩]++bs.eraseIdx j)) w:=S.perm (Y7 vx);exact S1.less sP (by simpa using hc)
end
def Qn {P:aG} {k0:Nat} {pre:List (List Nat)} {es:List Nat} {H:Nat->ai->aj->Prop} {lf l:List aw} {y0:Nat->ai} {w:aj} {i:Nat}:q_ P k0 pre es H lf l y0 w i []:=trivial
def mO {P:aG} {k0:Nat} {pre:List (List Nat)} {es:List Nat} {H:Nat->ai->aj->Prop} {lf l:List aw} {y0:Nat->ai} {w:aj} {i:Nat} {o:aw} {rest:List aw} (h:sS P k0 pre es H lf l y0 w i o) (k:q_ P k0 pre es H lf l y0 w (i+1) rest):q_ P k0 pre es H lf l y0 w i (o::rest):=⟨h,k⟩
def Qo {vs:Nat->ai}:∀{l:List aw} {d_:List ai} {k:Nat} {a:Act},d_.length=l.length->(∀i o v,l[i]?=aa o->d_[i]?=aa v->o.dst=ae\/vs (k+i)=v)->gT vs k l a=ud d_ l a
 |[],[],_,_,_,_=>rfl
 |o::rest,v::d_,k,a,h,hv=>by
  simp only[gT,ud];have h0:=hv 0 o v rfl rfl;have e:a.put o.dst (vs k)=a.put o.dst v:=by
   rcases h0 with h0|h0
   ·rw[h0];rfl
   ·rw[lA]at h0;rw[h0]
  rw[e];exact Qo (by simpa using h) λi o' v' h1 h2=>by
   have:=hv (i+1) o' v' (by simpa using h1) (by simpa using h2)
   rwa [show k+(i+1)=k+1+i by omega]at this
 |[],_::_,_,_,h,_=>by simp at h
 |_::_,[],_,_,h,_=>by simp at h
section
variable{P:aG} {a0:Act} {w w0:aj} {Q:dE->Act->aj->Prop} {id:Nat} {L:List aw} {ms:List Nat} {bs:List ao}
def Zd (m k0:Nat) (pre:List (List Nat)) (es:List Nat) (pv:ai->aj->Prop) (d_:List ai) (paths:List (List Nat)) (sp:Nat->Sp)
 (gV:GF (L.take m) k0 pre=af) (hpv:∀v w w',Ch [] w w'->pv v w->pv v w') (gE:∀x∈es,x<w.heap.size)
 (hs:q_ P k0 pre es (HQ k0 pv sp w.heap.size) L (L.take m) (cW a0) w 0 (L.take m))
 (hq:∀(vs:Nat->ai) w',Ch es w w'->(∀i,i<m->HQ k0 pv sp w.heap.size i (vs i) w')->WL P L.toArray Q (L.drop m) (gT vs 0 (L.take m) a0) w')
 (hm:P.follows .mixedOrders=af) (hl:bZ m L.length=af) (ht:sJ L m paths=af) (kV:DQ a0.tmps.size (L.take m)=af) (gU:pU 0 L=af):(Code.region id L.toArray af).wp P Q a0 w:=by
 have sQ:(L.take m).length=m:=by have:=eO hl;simp;omega
 have h:=agB (id:=id) (Q:=Q) (P:=P) (k0:=k0) (es:=es) (H:=HQ k0 pv sp w.heap.size) (a0:=a0) (w0:=w) (L.take m) (L.drop m) ?_ gV ?_ paths hm (by rw[jH,sQ];exact ht) kV (by rw[jH];exact gU) (by rw[jH];exact hs) ?_
 ·rwa [jH]at h
 ·intro i v w1 w2 hc hH;unfold HQ at*;split at hH
  ·exact hpv _ _ _ hc hH
  ·exact hH.Gy hc
 ·intro i v w1 w2 gW hle hc hH;unfold HQ at*;split at hH
  ·rename_i h;exact absurd (ck h) gW
  ·obtain⟨ids,h1,h2,h3⟩:=hH;refine⟨ids,h1,h2,λp hp=>⟨(h3 p hp).1,(hc.block _ (oe (h3 p hp).2) (λhx=>?_)).trans (h3 p hp).2⟩⟩;have:=gE _ hx;have:=(h3 p hp).1;omega
 ·intro vs w' hc dI;rw[jH];exact(hq vs w' hc λi hi=>dI i _ (jY oM)).out
def Ze (S:St ms w0 bs w) (m k0 j b off:Nat) (pre:List (List Nat)) (v:ai) (d_:List ai) (paths:List (List Nat))
 (hs:q_ P k0 pre [b] (HQ k0 (Za b bs j off v.cells.toList) (sO (d_.map s0)) w.heap.size) L (L.take m) (cW a0) w 0 (L.take m))
 (hq:∀w',St ms w0 (wO bs j off v.cells.toList) w'->WL P L.toArray Q (L.drop m) (ud d_ (L.take m) a0) w')
 (hb:zB bs j off v.cells.toList.length=aa b:=by kernel_rfl) (hk:((L.take m)[k0]?).map (·.dst)=aa ae:=by kernel_rfl) (Qk:d_.length=m:=by kernel_rfl) (gV:GF (L.take m) k0 pre=af:=by kernel_rfl)
 (hm:P.follows .mixedOrders=af:=by kernel_rfl) (hl:bZ m L.length=af:=by kernel_rfl) (ht:sJ L m paths=af:=by kernel_rfl) (kV:DQ a0.tmps.size (L.take m)=af:=by kernel_rfl) (gU:pU 0 L=af:=by kernel_rfl):(Code.region id L.toArray af).wp P Q a0 w:=by
 obtain⟨cs,t,vx,hle⟩:=KR hb;have sQ:(L.take m).length=m:=by have:=eO hl;simp;omega
 have hj:j<bs.length:=by
  rcases c9 j bs.length with h|h
  ·exact h
  ·simp[h]at vx
 have fE:wO bs j off v.cells.toList=bs.set j ⟨b,af,.cells (splice cs off v.cells.toList) t (0,0)⟩:=by simp only[wO,vx]
 refine Zd m k0 pre [b] _ d_ paths _ gV ?_ ?_ hs ?_ hm hl ht kV gU
 ·rintro v' w1 w2 hc ⟨x,h1,h2⟩;exact⟨x,h1,(hc.block _ (oe h2) sP).trans h2⟩
 ·intro x hx;obtain rfl:=jZ.1 hx;exact S.lt vx
 ·intro vs w' hc dI;obtain⟨ok,hok,hdk⟩:=iX.1 hk;have ra:k0<m:=by
   rcases c9 k0 m with h|h
   ·exact h
   ·rw[ju oM]at hok;simp at hok
  have hp:gT vs 0 (L.take m) a0=ud d_ (L.take m) a0:=Qo oM λi o u ho hu=>by
   have hi:i<m:=by
    rcases c9 i d_.length with h|h
    ·omega
    ·simp[h]at hu
   by_cases gW:i=k0
   ·subst gW;rw[hok]at ho;exact .inl (by rw[<-cG ho];exact hdk)
   ·have hH:=dI i hi;unfold HQ at hH;have cL:aA i k0=ag:=by
     cases hx:aA i k0
     ·rfl
     ·exact absurd (ck hx) gW
    rw[cL]at hH;obtain⟨ids,h1,h2,_⟩:=hH;have h3:sO (d_.map s0) i=s0 u:=by
     unfold sO;rw[tV,jW,hu];rfl
    rw[h3]at h1 h2;obtain rfl:ids=[]:=lz (by simpa[s0]using h1);refine .inr ?_;rw[dS,h2];rfl
  rw[hp];refine hq w' ?_;have hH:=dI k0 ra;unfold HQ at hH;rw[show aA k0 k0=af from tW k0]at hH;obtain⟨x,hx,hxo⟩:=hH;rw[fE,PK hj]at hx;obtain rfl:=cG hx;rw[fE];exact S.step vx rfl (by simpa using hc) hxo
end
end Sx
namespace Sx
open Go Go.RowKit Go.BigFrame
section
variable{P:aG} {ops:Array aw} {rest:List aw} {o:aw} {a:Act} {w w0:aj} {ms:List Nat} {bs:List ao} {Q:dE->Act->aj->Prop}
end
end Sx
namespace Sx
open Go Go.RowKit Go.BigFrame
section
variable{P:aG} {a:Act} {w:aj} {Q:dE->Act->aj->Prop}
end
section
variable{P:aG} {ops:Array aw} {rest:List aw} {o:aw} {a:Act} {w:aj} {Q:dE->Act->aj->Prop}
end
end Sx
namespace Sx
open Go Go.RowKit Go.BigFrame
section
variable{P:aG} {ops:Array aw} {rest:List aw} {o:aw} {a:Act} {w:aj} {Q:dE->Act->aj->Prop} {z T m n c:Nat} {news:List ai} {s x:bg} {t tx:aM} {xv:ai}
end
end Sx
namespace Sx.Y
open Go Go.RowKit Go.BigFrame
variable{P:aG} {w:aj} {o:aw} {R:ai->aj->Prop} {ρ:bg->ai}
end Sx.Y
namespace Sx
open Go Go.RowKit Go.BigFrame
section
variable{P:aG} {ops:Array aw} {rest:List aw} {o:aw} {a:Act} {w w0:aj} {ms:List Nat} {bs:List ao} {Q:dE->Act->aj->Prop}
end
end Sx
namespace Sx
open Go Go.RowKit Go.BigFrame
def ug.le {z T olds n bl B B' v} {w:aj} (h:ug z T olds n bl B v w) (hb:B'<=B):ug z T olds n bl B' v w:=by
 obtain⟨x,c,bl',h1,h2,h3⟩:=h;exact⟨x,c,bl',h1,h2,λy hy=>⟨(h3 y hy).1,(h3 y hy).2.imp id (λh=>ia hb h)⟩⟩
def sB (m:Nat) (news:List ai) (T:aM):Sp:=⟨1,λids=>.slice (aa ⟨ids.getD 0 0,0,ae⟩) m m,λids=>[(ids.getD 0 0,.cells news.toArray T (0,0))]⟩
section
variable{P:aG} {lf l:List aw} {sp:Nat->Sp} {a0:Act} {w:aj} {i k0:Nat} {pre:List (List Nat)} {o:aw} {es:List Nat} {pv:ai->aj->Prop}
def eB_ (m:Nat) (news:List ai) (T:aM) (mL:sp i=sB m news T:=by rfl) (cL:aA i k0=ag:=by kernel_rfl) (hs:zI k0 l sp i o=af:=by kernel_rfl)
 (h:(λw=>(execOp (kI (i_ l sp a0 o)) o).run P w)=(λw=>.ok (.value (.slice (aa ⟨w.heap.size,0,ae⟩) m m)) (w.alloc (.cells news.toArray T (0,0)))):=by kernel_rfl):
 sS P k0 pre es (HQ k0 pv sp w.heap.size) lf l (cW a0) w i o:=by
 intro y w' _ hc uk gV;obtain⟨GJ,oh,hg⟩:=Qm (H:=λ_ _ _=>True) hs uk gV;have gW:i≠k0:=λe=>by rw[e]at cL;simp at cL
 refine⟨λ_=>?_,λhw=>by simp[oT,hg]at hw⟩;refine nq _ GJ ?_ oh;have h2:(execOp (kI (i_ l sp a0 o)) o).run P w'=_:=congrFun h w';unfold Yields;rw[h2];refine⟨λe=>absurd e gW,λ_=>Ch.alloc _ _ _,?_⟩;unfold HQ;rw[cL,mL];refine⟨[w'.heap.size],rfl,rfl,λp hp=>?_⟩;obtain rfl:=jZ.1 hp;exact⟨hc.size,n6 w' _⟩
variable{ms:List Nat} {w0:aj}
def eA_ {A bl R:List ao} {xs:Option aI} {z n c:Nat} {T T':aM} {olds:List ai} (S:St ms w0 (A++(bl++R)) w) (hr:dD z T olds xs n c bl) (d1 d2 j2 m:Nat) (news:List ai) (bytes:Nat) {t tx e':aM}
 (hbd:(n+m)*bytes<=140737488355328) (h63:n+m<=maxLen) (ho:o.op=.call ⟨.builtin .append,#[.tmp d1,.tmp d2],#[t,tx]⟩:=by rfl) (qZ:news.length=m*z:=by rfl) (h1:news.all (·.oneCell')=af:=by kernel_rfl)
 (hg:o.guard.isNone=af:=by kernel_rfl) (he:aA i k0=af:=by kernel_rfl)
 (j9:(match w7 l o d1 with|some j=>!(aA j k0)&&aA (sp j).k 0|none=>wT l i d1)=af:=by kernel_rfl) (vy:valOf l sp a0 o d1=.slice xs n c:=by kernel_rfl)
 (K5:w7 l o d2=aa j2:=by kernel_rfl) (zF:aA j2 k0=ag:=by kernel_rfl) (mL:sp j2=sB m news T':=by rfl)
 (ht:P.underlying t=aa (.slice T):=by kernel_rfl) (gr:P.underlying tx=aa (.slice e'):=by kernel_rfl) (cu:(P.info? T).map (λi=>(i.zero.map (·.cells.size),i.size,i.bytes))=aa (aa z,z,bytes):=by kernel_rfl):
 sS P k0 pre (bl.map ao.id) (HQ k0 (ug z T (olds++news) (n+m) bl w.heap.size) sp w.heap.size) lf l (cW a0) w i o:=by
 intro y w' w9 hc uk gV;have gW:i=k0:=ck he;have Qj:o.guard=ae:=by cases hx:o.guard<;>simp_all
 have hy1:y d1=.slice xs n c:=by
  unfold valOf at vy;cases fi:w7 l o d1 with
  |some j=>
   rw[fi]at vy j9;obtain⟨GL,hd⟩:=KZ fi;simp only[bD,n7]at j9;have h2:=gV j d1 GL hd;unfold HQ at h2;rw[j9.1]at h2;obtain⟨ids,h3,h4,_⟩:=h2;have h5:(sp j).k=0:=ck j9.2;obtain rfl:ids=[]:=lz (by rw[h3,h5]);rw[h4];exact vy
  |none=>
   rw[fi]at vy j9;rw[uk d1 j9];exact vy
 obtain⟨b,hy2,hb⟩:∃b,y d2=.slice (aa ⟨b,0,ae⟩) m m/\w'.heap[b]?=aa (.cells news.toArray T' (0,0)):=by
  obtain⟨GL,hd⟩:=KZ K5;have h2:=gV j2 d2 GL hd;unfold HQ at h2;rw[zF,mL]at h2;obtain⟨ids,h3,h4,h5⟩:=h2
  match ids,h3 with
  |[b],_=>exact⟨b,h4,(h5 (b,.cells news.toArray T' (0,0)) (jZ.2 rfl)).2⟩
 have fi:Src P z tx (.slice (aa ⟨b,0,ae⟩) m m) m news w':=by
  refine qN w' gr ⟨b,0,ae⟩ m m news qZ (λj u hj=>?_) (λu hu=>gQ.1 h1 u hu);rw[iK,cell_of hb];simpa using hj
 have Sq:=S.quiet (w9 (.inl gW));obtain⟨v,gn,bT,Qp,hR⟩:=DP (P:=P) (ty:=o.type) (w:=w') hr (λy hy=>Sq.at' (by simp[hy])) bytes fi ht cu hbd h63;refine⟨λ_=>?_,λhw=>by simp[oT,Qj]at hw⟩;unfold Yields;rw[jJ (ρ:=wS y) ho (sv:=.slice xs n c) (xv:=.slice (aa ⟨b,0,ae⟩) m m) hy1 hy2 bT];refine⟨λ_=>Qp,λe=>absurd gW e,?_⟩;unfold HQ;rw[he];exact hR.le hc.size
end
section
variable{P:aG} {a0:Act} {w w0:aj} {Q:dE->Act->aj->Prop} {id:Nat} {L:List aw} {ms:List Nat}
def agG {A bl R:List ao} {xs:Option aI} {z n c:Nat} {T T':aM} {olds:List ai} (S:St ms w0 (A++(bl++R)) w) (hr:dD z T olds xs n c bl) (m k0 i1 mm:Nat) (news:List ai) (pre:List (List Nat)) (d_:List ai) (paths:List (List Nat))
 (hs:q_ P k0 pre (bl.map ao.id) (HQ k0 (ug z T (olds++news) (n+mm) bl w.heap.size) (sO ((d_.map s0).set i1 (sB mm news T'))) w.heap.size) L (L.take m) (cW a0) w 0 (L.take m))
 (hq:∀x' c' bl' u w',dD z T (olds++news) x' (n+mm) c' bl'->St ms w0 (A++(bl'++R)) w'->WL P L.toArray Q (L.drop m) (ud ((d_.set k0 (.slice x' (n+mm) c')).set i1 u) (L.take m) a0) w')
 (hk:db k0 m=af:=by kernel_rfl) (hi:db i1 m=af:=by kernel_rfl) (gW:aA i1 k0=ag:=by kernel_rfl) (Qk:d_.length=m:=by kernel_rfl) (gV:GF (L.take m) k0 pre=af:=by kernel_rfl)
 (hm:P.follows .mixedOrders=af:=by kernel_rfl) (hl:bZ m L.length=af:=by kernel_rfl) (ht:sJ L m paths=af:=by kernel_rfl) (kV:DQ a0.tmps.size (L.take m)=af:=by kernel_rfl) (gU:pU 0 L=af:=by kernel_rfl):(Code.region id L.toArray af).wp P Q a0 w:=by
 have sQ:(L.take m).length=m:=by have:=eO hl;simp;omega
 have mN:k0<m:=by simpa[jt]using hk
 have l7:i1<m:=by simpa[jt]using hi
 have cL:i1≠k0:=λe=>by rw[e]at gW;simp at gW
 refine Zd m k0 pre (bl.map ao.id) (ug z T (olds++news) (n+mm) bl w.heap.size) d_ paths _ gV (λv w1 w2 hc h=>ug.Gy h hc) ?_ hs ?_ hm hl ht kV gU
 ·intro x hx;obtain⟨y,hy,rfl⟩:=n8.1 hx;exact S.ge (by simp[hy])
 ·intro vs w' hc dI;have hK:=dI k0 mN;unfold HQ at hK;rw[show aA k0 k0=af from tW k0]at hK;obtain⟨x',c',bl',hv,gp,aS⟩:=hK;have S2:=S.vw hr.wr hc (λy hy=>(aS y hy).1) (λy hy=>(aS y hy).2) gp.pw;have hp:gT vs 0 (L.take m) a0=ud ((d_.set k0 (.slice x' (n+mm) c')).set i1 (vs i1)) (L.take m) a0:=Qo (by rw[List.length_set,List.length_set];omega) λi o u ho hu=>by
   have K6:i<m:=by
    rcases c9 i m with h|h
    ·exact h
    ·rw[ju (by simp;omega)]at hu;simp at hu
   refine .inr ?_;rw[dS];by_cases h1:i=i1
   ·subst h1;rw[PK (by simp;omega)]at hu;exact cG hu
   ·rw[Ko (λe=>h1 e.symm)]at hu;by_cases h2:i=k0
    ·subst h2;rw[PK oM]at hu;rw[hv];exact cG hu
    ·rw[Ko (λe=>h2 e.symm)]at hu;have hH:=dI i K6;unfold HQ at hH;have hb:aA i k0=ag:=by
      cases hx:aA i k0
      ·rfl
      ·exact absurd (ck hx) h2
     rw[hb]at hH;obtain⟨ids,g1,g2,_⟩:=hH;have h3:sO ((d_.map s0).set i1 (sB mm news T')) i=s0 u:=by
      unfold sO;rw[tV,Ko (λe=>h1 e.symm),jW,hu];rfl
     rw[h3]at g1 g2;obtain rfl:ids=[]:=lz (by simpa[s0]using g1);rw[g2];rfl
  rw[hp];exact hq x' c' bl' (vs i1) w' gp S2
end
def DV (val:ai) (Q:List ao->Prop) (bl:List ao) (B:Nat) (v:ai) (w:aj):Prop:=
 v=val/\∃bl',Q bl'/\(∀y∈bl',w.heap[y.id]?=aa y.obj/\(y.wr=af->(∃u∈bl,y.id=u.id)\/B<=y.id))/\bl'.Pairwise BC
def DV.Gy {val Q bl B v} {w w':aj} (h:DV val Q bl B v w) (hc:Ch [] w w'):DV val Q bl B v w':=by
 obtain⟨h1,bl',h2,h3,h4⟩:=h;exact⟨h1,bl',h2,λy hy=>⟨(hc.block _ (oe (h3 y hy).1) sP).trans (h3 y hy).1,(h3 y hy).2⟩,h4⟩
section
variable{P:aG} {lf l:List aw} {sp:Nat->Sp} {a0:Act} {w:aj} {i k0:Nat} {pre:List (List Nat)} {o:aw} {es:List Nat} {pv:ai->aj->Prop}
variable{ms:List Nat} {w0:aj} {bs:List ao}
end
section
variable{P:aG} {a0:Act} {w w0:aj} {Q:dE->Act->aj->Prop} {id:Nat} {L:List aw} {ms:List Nat}
end
def cat (jb:List (List ao)) (R:List ao):List ao:=jb.foldr (·++·) R
def agH (jb:List (List ao)) (R:List ao):cat jb R=jb.flatten++R:=by
 induction jb with
 |nil=>rfl
 |cons a l ih=>simp[cat]at ih⊢;exact ih
def K7 (n:Nat) (is:List Nat):Bool:=is.all (λi=>db i n)&&K8 is
where K8:List Nat->Bool
 |[]=>af
 |i::l=>!(l.any (aA i))&&K8 l
def Zf:∀{l:List Nat},K7.K8 l=af->l.Nodup
 |[],_=>List.nodup_nil
 |i::l,h=>by
  simp only[K7.K8,bD,n7]at h;refine tS.2 ⟨λhm=>?_,Zf h.2⟩;have:l.any (aA i)=af:=A9.2 ⟨i,hm,sP⟩;rw[this]at h;exact absurd h.1 sP
section
variable{ms:List Nat} {w0 w:aj}
def GM:∀(is l:List Nat),is.Nodup->(∀i∈is,i∈l)->∃r,l.Perm (is++r)
 |[],l,_,_=>⟨l,zq _⟩
 |i::is,l,hn,hm=>by
  have qU:=tS.1 hn;obtain⟨r,hr⟩:=GM is (l.erase i) qU.2 (λj hj=>(List.mem_erase_of_ne (λe=>qU.1 (by rw[<-e];exact hj))).2 (hm j (by simp[hj])));exact⟨r,(List.perm_cons_erase (hm i sP)).trans (by simpa using hr.cons i)⟩
def agI {α:Type} (jb:List α) (d:α) (is:List Nat) (hn:is.Nodup) (cH:∀i∈is,i<jb.length):∃rest,jb.Perm (is.map (λi=>jb.getD i d)++rest):=by
 have hr:(bo jb.length).map (λi=>jb.getD i d)=jb:=by
  apply List.ext_getElem
  ·simp
  ·intro i h1 h2;simp[tV,h2]
 obtain⟨r,um⟩:=GM is (bo jb.length) hn (λi hi=>List.mem_range.2 (cH i hi));refine⟨r.map λi=>jb.getD i d,?_⟩;rw[<-tX];have:=um.map (λi=>jb.getD i d)
 rwa [hr]at this
def St.re {bs bs' R:List ao} (S:St ms w0 bs w) (jb:List (List ao)) (is:List Nat) (h1:bs=cat jb R:=by kernel_rfl) (h2:K7 jb.length is=af:=by kernel_rfl) (h3:cat (is.map λi=>jb.getD i []) R=bs':=by kernel_rfl):St ms w0 bs' w:=by
 subst h1 h3;simp only[K7,bD]at h2;obtain⟨rest,hp⟩:=agI jb [] is (Zf h2.2) (λi hi=>by have:=gQ.1 h2.1 i hi;unfold db at this;exact eO this);rw[agH]at S⊢;have h4:St ms w0 ((is.map λi=>jb.getD i []).flatten++(rest.flatten++R)) w:=S.perm (by
  rw[<-bW,<-List.flatten_append];exact Bc R hp.flatten)
 exact h4.sub (mD (kG _ _) _)
end
def DW:Obj->Option aM
 |.cells _ t _=>aa t
 |_=>ae
def sA (obj:Obj):Sp:=⟨1,λids=>.pointer (aa ⟨ids.getD 0 0,0,ae⟩),λids=>[(ids.getD 0 0,obj)]⟩
inductive VX where
 |v (x:ai)
 |a (obj:Obj)
def VX.sp:VX->Sp
 |.v x=>s0 x
 |.a o=>sA o
def VX.val (id:Nat):VX->ai
 |.v x=>x
 |.a _=>.pointer (aa ⟨id,0,ae⟩)
def GN (ids:Nat->Nat):Nat->List VX->List ao
 |_,[]=>[]
 |i,.v _::xs=>GN ids (i+1) xs
 |i,.a o::xs=>⟨ids i,af,o⟩::GN ids (i+1) xs
section
variable{ms:List Nat} {w0 w:aj} {bs:List ao}
end
section
variable{P:aG} {lf l:List aw} {sp:Nat->Sp} {a0:Act} {w:aj} {i k0:Nat} {pre:List (List Nat)} {o:aw} {es:List Nat} {pv:ai->aj->Prop}
variable{ms:List Nat} {w0:aj} {bs:List ao}
end
section
variable{P:aG} {a0:Act} {w w0:aj} {Q:dE->Act->aj->Prop} {id:Nat} {L:List aw} {ms:List Nat}
end
def agJ (jb:List (List ao)) (R:List ao):cat jb R=cat jb []++R:=by
 induction jb with
 |nil=>rfl
 |cons a l ih=>show a++cat l R=(a++cat l [])++R;rw[ih,bW]
section
variable{ms:List Nat} {w0 w:aj}
def St.split {A B R bs:List ao} (S:St ms w0 bs w) (jb:List (List ao)) (h1:bs=A++cat jb R:=by kernel_rfl) (h2:cat jb []=B:=by kernel_rfl):St ms w0 (A++(B++R)) w:=by
 subst h2;rw[<-agJ,<-h1];exact S
end
section
variable{P:aG} {lf l:List aw} {sp:Nat->Sp} {a0:Act} {w:aj} {i k0:Nat} {pre:List (List Nat)} {o:aw} {es:List Nat} {pv:ai->aj->Prop}
variable{ms:List Nat} {w0:aj} {bs:List ao}
end
def aD (kd:fH) (n:Nat) (f:Nat->Int):Array ai:=((bo n).map λi=>fI kd (f i)).toArray
def oW (f:Nat->Int) (i:Nat) (v:Int):Nat->Int:=λj=>bif aA j i then v else f j
def GO (kd:fH) (n:Nat) (f:Nat->Int):(aD kd n f).size=n:=by simp[aD]
def Zg (kd:fH) {n:Nat} (f:Nat->Int) {i:Nat} (h:i<n):(aD kd n f)[i]?=aa (.int kd (f i)):=by simp[aD,h]
def Zh (f:Nat->Int) (i:Nat) (v:Int):oW f i v i=v:=by simp[oW]
def Qq (f:Nat->Int) {i j:Nat} (v:Int) (h:j≠i):oW f i v j=f j:=by
 have:aA j i=ag:=by
  cases hb:aA j i
  ·rfl
  ·exact absurd (ck hb) h
 simp[oW,this]
def agK (kd:fH) {n:Nat} (f:Nat->Int) {i:Nat} (h:i<n) (v:Int):splice (aD kd n f) i [.int kd v]=aD kd n (oW f i v):=by
 apply fD;show((aD kd n f).toList.take i++[fI kd v]++(aD kd n f).toList.drop (i+1))=_;simp only[aD];apply List.ext_getElem
 ·simp;omega
 ·intro j h1 h2;simp only[fL,zr,Gs,PM,List.length_drop,jf,Kz]at h1 h2;rcases Nat.lt_trichotomy j i with hj|hj|hj
  ·rw[KA (by simp;omega),KA (by simp;omega)];simp[Qq _ _ (Nat.ne_of_lt hj)]
  ·subst hj;rw[KA (by simp;omega),Yv (by simp;omega)];simp[Zh]
  ·rw[Yv (by simp;omega)];simp only[fL,zr,Gs,PM,jf,Kz,List.getElem_drop,List.getElem_map,List.getElem_range];rw[Qq _ _ oM];congr 2;omega
def agL (kd:fH) {n:Nat} {f g:Nat->Int} (h:∀i,i<n->f i=g i):aD kd n f=aD kd n g:=by
 unfold aD;congr 1;apply ni;intro i hi;rw[h i (List.mem_range.1 hi)]
section
variable{ms:List Nat} {w0 w:aj} {bs:List ao}
def ckF {kd:fH} {n:Nat} {f:Nat->Int} {i off b:Nat} {t:aM} (ho:off<n) (hb:bs[i]?=aa ⟨b,af,.cells (aD kd n f) t (0,0)⟩:=by kernel_rfl):zB bs i off 1=aa b:=by
 have h2:bZ (off+1) (aD kd n f).size=af:=by rw[GO];exact wG ho
 unfold zB;rw[hb];simp only[h2]
def St.stF {kd:fH} {n:Nat} {f:Nat->Int} {i off b:Nat} {t:aM} {v:Int} (S:St ms w0 (wO bs i off [.int kd v]) w) (ho:off<n) {bs':List ao} (hb:bs[i]?=aa ⟨b,af,.cells (aD kd n f) t (0,0)⟩:=by kernel_rfl)
 (h2:bs.set i ⟨b,af,.cells (aD kd n (oW f off v)) t (0,0)⟩=bs':=by kernel_rfl):St ms w0 bs' w:=by
 unfold wO at S;rw[hb]at S;simp only at S;rw[agK kd f ho,h2]at S;exact S
end
section
variable{P:aG} {lf l:List aw} {sp:Nat->Sp} {a0:Act} {w:aj} {i k0:Nat} {pre:List (List Nat)} {o:aw} {es:List Nat} {pv:ai->aj->Prop}
variable{ms:List Nat} {w0:aj} {bs:List ao}
end
end Sx
namespace Sx
open Go Go.RowKit Go.BigFrame
def Wr (bl:List ao):Prop:=∀x∈bl,x.wr=af
def Wr.nil:Wr []:=λx h=>by cases h
def Wr.cons {b:ao} {l:List ao} (h:b.wr=af) (k:Wr l):Wr (b::l):=λx hx=>by
 rcases cF.1 hx with rfl|hx
 ·exact h
 ·exact k x hx
def Wr.app {a b:List ao} (h:Wr a) (k:Wr b):Wr (a++b):=λx hx=>by
 rcases eI.1 hx with hx|hx
 ·exact h x hx
 ·exact k x hx
def Ty (L:List Nat) (bl:List ao):Prop:=∀x∈bl,∃t,DW x.obj=aa t/\t∈L
def Ty.nil:Ty [] []:=λx h=>by cases h
def Ty.cons {b:ao} {l:List ao} {t:Nat} {L:List Nat} (h:DW b.obj=aa t) (k:Ty L l):Ty (t::L) (b::l):=λx hx=>by
 rcases cF.1 hx with rfl|hx
 ·exact⟨t,h,sP⟩
 ·obtain⟨u,h1,h2⟩:=k x hx;exact⟨u,h1,by simp[h2]⟩
def Ty.app {a b:List ao} {L M:List Nat} (h:Ty L a) (k:Ty M b):Ty (L++M) (a++b):=λx hx=>by
 rcases eI.1 hx with hx|hx
 ·obtain⟨u,h1,h2⟩:=h x hx;exact⟨u,h1,by simp[h2]⟩
 ·obtain⟨u,h1,h2⟩:=k x hx;exact⟨u,h1,by simp[h2]⟩
def Zi (L:List Nat) (ys:List (Option aM)):Bool:=ys.all λy=>match y with|some t=>L.all λu=>!(aA u t)|none=>af
def Ty.ne {L:List Nat} {bl:List ao} {ys:List (Option aM)} (h:Ty L bl) (hd:Zi L ys=af:=by kernel_rfl):∀x∈bl,∀t∈ys,DW x.obj≠t:=λx hx t ht e=>by
 obtain⟨u,h1,h2⟩:=h x hx;have h3:=gQ.1 hd t ht;rw[h1]at e;subst e;simp only at h3;have h4:=gQ.1 h3 u h2;simp at h4
def dD.ty {z T olds x n c bl} (h:dD z T olds x n c bl):Ty [T] bl:=by
 rcases h.2.2 with⟨_,_,_,rfl⟩|⟨b,tail,_,rfl,_⟩
 ·intro x hx;cases hx
 ·exact Ty.cons rfl Ty.nil
end Sx
namespace Sx
open Go Go.RowKit Go.BigFrame
section
variable{P:aG} {a:Act} {w:aj} {Q:dE->Act->aj->Prop}
def GP {K:Act->aj->Prop} (h:∀a',a'=a->K a' w):Exit.then K Q .normal a w:=h a rfl
def K9 {c:eH} (I:Nat->Act->aj->Prop) (n:Nat) (h:∀a',a'=a->I n a' w)
 (hs:∀m a w,I m a w->c.wp P (Exit.then (λa' w'=>∃k,k<m/\I k a' w') Q) a w):(Code.loop c).wp P Q a w:=agw I n (h a rfl) hs
end
end Sx
namespace Sx
open Go
def cI (n:Nat) (f:Nat->Int):List ai:=(bo n).map λi=>fI .u8 (f i)
def gf (n:Nat) (f:Nat->Int):(cI n f).length=n:=by simp[cI]
def rh {n:Nat} (f:Nat->Int) {j:Nat} (h:j<n):(cI n f)[j]?=aa (.int .u8 (f j)):=by simp[cI,h]
def GQ {n:Nat} {f:Nat->Int}:∀v∈cI n f,v.oneCell'=af:=λv h=>by
 simp only[cI,n8]at h;obtain⟨j,_,rfl⟩:=h;rfl
def BE {n:Nat} {f:Nat->Int} {j:Nat} {v:ai} (h:(cI n f)[j]?=aa v):j<n/\v=.int .u8 (f j):=by
 have hj:j<n:=by
  rcases c9 j n with h1|h1
  ·exact h1
  ·rw[ju (by rw[gf];exact h1)]at h;cases h
 rw[rh f hj]at h;exact⟨hj,(cG h).symm⟩
def cx (n:Nat) (f g:Nat->Int):Nat->Int:=λj=>bif db j n then f j else g (j-n)
def GR {a b:Nat} (h:a<b):db a b=af:=by unfold db;exact wG h
def Qr {a b:Nat} (h:¬a<b):db a b=ag:=by
 cases hb:db a b
 ·rfl
 ·unfold db at hb;exact absurd (eO hb) h
def agM {a b:Nat} (h:¬a<=b):bZ a b=ag:=by
 cases hb:bZ a b
 ·rfl
 ·exact absurd (eO hb) h
def K_ (n m:Nat) (f g:Nat->Int):cI n f++cI m g=cI (n+m) (cx n f g):=by
 apply zv;intro j;by_cases h:j<n
 ·rw[gm (by rw[gf];exact h),rh f h,rh _ oM];simp[cx,GR h]
 ·rw[vg (by rw[gf];omega),gf];by_cases h2:j<n+m
  ·rw[rh g oM,rh _ h2];simp[cx,Qr h]
  ·rw[ju (by rw[gf];omega),ju (by rw[gf];omega)]
def DX {n:Nat} {f g:Nat->Int} (h:∀i,i<n->f i=g i):cI n f=cI n g:=by
 unfold cI;apply ni;intro i hi;rw[h i (List.mem_range.1 hi)]
def ee (f:Nat->Int) (o m:Nat) (g:Nat->Int):Nat->Int:=λj=>bif bZ o j&&db j (o+m)then g (j-o)else f j
def Qs (kd:fH) {n:Nat} (f:Nat->Int) {o m:Nat} (h:o+m<=n) (g:Nat->Int):((aD kd n f).toList.take o++(bo m).map (λi=>fI kd (g i))++(aD kd n f).toList.drop (o+m)).toArray=aD kd n (ee f o m g):=by
 apply fD;simp only[aD];apply List.ext_getElem
 ·simp;omega
 ·intro j h1 h2;simp only[fL,zr,Gs,PM,List.length_drop]at h1 h2;by_cases ha:j<o
  ·rw[KA (by simp;omega),KA (by simp;omega)];simp[ee,agM (show¬o<=j by omega)]
  ·by_cases hb:j<o+m
   ·rw[KA (by simp;omega),Yv (by simp;omega)];have:min o n=o:=oM;simp[ee,wG (show o<=j by omega),GR hb,this]
   ·rw[Yv (by simp;omega)];have:min o n=o:=oM;simp only[fL,zr,Gs,PM,List.getElem_drop,List.getElem_map,List.getElem_range,this];have e:o+m+(j-(o+m))=j:=oM;simp[ee,Qr hb,e]
def cA (w:aj) (b o n:Nat) (f:Nat->Int):Prop:=∀j,j<n->w.cell? ⟨b,o+j,ae⟩=aa (.int .u8 (f j))
def cA.cut {w:aj} {b o n:Nat} {f:Nat->Int} (h:cA w b o n f) {m:Nat} (hm:m<=n):cA w b o m f:=λj hj=>h j oM
def cA.drop {w:aj} {b o n:Nat} {f:Nat->Int} (h:cA w b o n f) (k:Nat):cA w b (o+k) (n-k) (λj=>f (k+j)):=λj hj=>by
 rw[tY];exact h (k+j) oM
section
variable{ms:List Nat} {w0 w:aj} {bs:List ao}
def St.mP (S:St ms w0 bs w) {b o n:Nat} {f:Nat->Int} (h:cA w0 b o n f) (hm:b∉ms):cA w b o n f:=λj hj=>S.agx (h j hj) hm
def St.eQ (S:St ms w0 bs w) (i:Nat) {b N:Nat} {wr:Bool} {f:Nat->Int} {t:aM} {fr:Nat×Nat} (hb:bs[i]?=aa ⟨b,wr,.cells (aD .u8 N f) t fr⟩:=by kernel_rfl):cA w b 0 N f:=λj hj=>by
 rw[cell_of (S.at_ i _ hb),dS,Zg _ f hj]
end
section
variable{P:aG} {w:aj}
def BF {b o n c:Nat} {f:Nat->Int} {tx e':aM} (h:cA w b o n f) (hk:P.underlying tx=aa (.slice e'):=by kernel_rfl):Src P 1 tx (.slice (aa ⟨b,o,ae⟩) n c) n (cI n f) w:=
 qN w hk _ n c _ (by rw[gf,Nat.mul_one]) (λj u hj=>by
  obtain⟨h1,rfl⟩:=BE hj;rw[iK];exact h j h1) GQ
def La {ρ:bg->ai} {o:aw} {w':aj} {s x:bg} {t tx:aM} {sv xv v:ai} (ho:o.op=.call ⟨.builtin .copy,#[s,x],#[t,tx]⟩) (hs:ρ s=sv) (hx:ρ x=xv)
 (bT:(Builtin.copy_ #[t,tx] o.type #[sv,xv]).run P w=.ok v w'):(execOp ρ o).run P w=.ok (.value v) w':=by
 simp[execOp,ho,resolve,invoke,builtin,hs,hx,bT,je]
end
section
variable{P:aG} {ops:Array aw} {rest:List aw} {o:aw} {a:Act} {w w0:aj} {ms:List Nat} {bs:List ao} {Q:dE->Act->aj->Prop}
def copy_ (S:St ms w0 bs w) (i:Nat) (b N off n c:Nat) (f:Nat->Int) (sb so m sc:Nat) (g:Nat->Int) {t:aM} {s x:bg} {tt tx elem:aM} (h8:cA w sb so m g) (hm:m<=n) (hn:off+m<=N)
 (hb:bs[i]?=aa ⟨b,af,.cells (aD .u8 N f) t (0,0)⟩) {bs':List ao} (h2:bs.set i ⟨b,af,.cells (aD .u8 N (ee f off m g)) t (0,0)⟩=bs')
 (k:∀w',St ms w0 bs' w'->WL P ops Q rest (a.put o.dst (.int .i64 m)) w')
 (hw:gk o (yielded ops a.tmps)=af:=by kernel_rfl) (ho:o.op=.call ⟨.builtin .copy,#[s,x],#[tt,tx]⟩:=by rfl) (hs:a.eval s=.slice (aa ⟨b,off,ae⟩) n c:=by kernel_rfl) (hx:a.eval x=.slice (aa ⟨sb,so,ae⟩) m sc:=by kernel_rfl)
 (hu:P.underlying tt=aa (.slice elem):=by kernel_rfl) (hz:(P.info? elem).map (·.size)=aa 1:=by kernel_rfl):WL P ops Q (o::rest) a w:=
 WL.want hw λK hK=>by
  have aS:=S.at_ i _ hb;have GS:Nat.min m n=m:=Nat.min_eq_left hm;have bT:=run_copy_row (P:=P) w tt tx o.type elem b off n c ⟨sb,so,ae⟩ m sc (aD .u8 N f) t (cI m g) hu hz aS (by rw[gf,GS]) (λj v hj=>by
   obtain⟨h1,rfl⟩:=BE hj;rw[iK];exact h8 j h1) (by rw[gf,GO];exact hn) GQ
  unfold qK;rw[La ho hs hx bT];rw[gf];have he:(goInt m:ai)=.int .i64 m:=rfl;rw[he];refine hK _ _ (k _ ?_);have hS:=S.step hb rfl (Ch.setRow w b _) (setRow_heap w b (aD .u8 N f) ((aD .u8 N f).toList.take off++cI m g++(aD .u8 N f).toList.drop (off+m)).toArray t (0,0) aS);have e2:((aD .u8 N f).toList.take off++cI m g++(aD .u8 N f).toList.drop (off+m)).toArray=aD .u8 N (ee f off m g):=Qs .u8 f hn g;rw[e2,h2]at hS;rw[e2];exact hS
end
section
variable{P:aG} {ρ:bg->ai} {o:aw} {w:aj}
def Zj {t e:aM} {x lo:bg} {b off n c k:Nat} {kd:fH} (hk:k<=n) (hc:n<=c) (Qt:Nat) (kU:Qt=(if c=k then off else off+k)) (ho:o.op=.slice t x (aa lo) ae ae:=by rfl) (hu:P.underlying t=aa (.slice e):=by kernel_rfl) (hs:(P.info? e).map (·.size)=aa 1:=by kernel_rfl)
 (hx:ρ x=.slice (aa ⟨b,off,ae⟩) n c:=by kernel_rfl) (hh:ρ lo=.int kd ((k:Nat):Int):=by kernel_rfl):(execOp ρ o).run P w=.ok (.value (.slice (aa ⟨b,Qt,ae⟩) (n-k) (c-k))) w:=by
 obtain⟨i,l7,dc⟩:=iX.1 hs;unfold execOp;simp only[ho,Option.map_none,oO,hx,hh];unfold qO;simp only[bz,dw hu,ct];unfold zx;simp only[bz,dw hu,ct,qP,oP,asIntOf,cZ];have h1:(0:Int)<=(k:Int)/\(k:Int)<=(n:Int):=oM;have h3:(⟨b,off,ae⟩:aI).add k=⟨b,off+k,ae⟩:=iK ..;by_cases Lb:c=k
 ·rw[if_pos Lb]at kU;simp[h1,pN,typeInfo,l7,dc,Lb,kU]
 ·rw[if_neg Lb]at kU;simp[h1,pN,typeInfo,l7,dc,Lb,kU,h3]
end
end Sx
namespace Sx
open Go Go.RowKit Go.BigFrame
section
variable{P:aG} {lf l:List aw} {sp:Nat->Sp} {a0:Act} {w:aj} {i:Nat} {o:aw}
end
section
variable{P:aG} {ops:Array aw} {rest:List aw} {o:aw} {a:Act} {w:aj} {Q:dE->Act->aj->Prop}
def agN (vk:fH) (n:Nat) (f:Nat->Int) (kd:fH) (iv:Int) {t e:aM} {x y:bg} (h0:0<=iv) (h1:iv<n) (k:WL P ops Q rest (a.put o.dst (.int vk (f iv.toNat))) w) (hw:gk o (yielded ops a.tmps)=af:=by kernel_rfl)
 (ho:o.op=.index t x y:=by rfl) (hu:P.underlying t=aa (.array n e):=by kernel_rfl) (hz:(P.info? e).map (·.size)=aa 1:=by kernel_rfl) (ha:(P.underlying e).map jI=aa ag:=by kernel_rfl)
 (hx:a.eval x=.agg (aD vk n f):=by kernel_rfl) (hy:a.eval y=.int kd iv:=by kernel_rfl):WL P ops Q (o::rest) a w:=
 av (.int vk (f iv.toNat)) k hw (by
  obtain⟨inf,hq,dc⟩:=iX.1 hz;have cH:iv.toNat<n:=oM;have t_:(aD vk n f)[iv.toNat]?=aa (.int vk (f iv.toNat)):=Zg vk f cH;unfold execOp;simp only[ho,hx,hy];unfold Instr.index;simp only[bz,dw hu,ct,asIntOf,cZ];simp[h0,h1,pN,typeInfo,hq,dc,part,Bn ha,t_])
end
end Sx
namespace Sx
open Go Go.RowKit Go.BigFrame
def bE (n:Nat) (f:Nat->Int) (c:Nat):Array ai:=(cI n f++n_ (c-n) (fI .u8 0)).toArray
def Qu (k:Nat):(qM #[fI .u8 0] k).toList=n_ k (fI .u8 0):=by
 apply List.ext_getElem
 ·simp[qM]
 ·intro i h1 h2;simp[qM,Nat.mod_one]
def eQ (T:aM) (n:Nat) (f:Nat->Int) (x:Option aI) (c:Nat) (bl:List ao):Prop:=
 n<=c/\((x=ae/\n=0/\c=0/\bl=[])\/∃b,x=aa ⟨b,0,ae⟩/\bl=[⟨b,af,.cells (bE n f c) T (0,0)⟩])
def eQ.wr {T n f x c bl} (h:eQ T n f x c bl):Wr bl:=by
 rcases h.2 with⟨_,_,_,rfl⟩|⟨b,_,rfl⟩
 ·exact Wr.nil
 ·exact Wr.cons rfl Wr.nil
def eQ.ty {T n f x c bl} (h:eQ T n f x c bl):Ty [T] bl:=by
 rcases h.2 with⟨_,_,_,rfl⟩|⟨b,_,rfl⟩
 ·intro x hx;cases hx
 ·exact Ty.cons rfl Ty.nil
def Qv (T:aM):eQ T 0 (λ_=>0) ae 0 []:=⟨cY _,.inl ⟨rfl,rfl,rfl,rfl⟩⟩
def Zk {n c:Nat} (f:Nat->Int) (h:n<=c):(bE n f c).size=c:=by simp[bE,gf];omega
section
variable{P:aG}
def Qw {w:aj} {T n c m:Nat} {f g:Nat->Int} {x:Option aI} {bl:List ao} (hr:eQ T n f x c bl) (aS:∀y∈bl,w.heap[y.id]?=aa y.obj)
 {t tx ty:aM} {xv:ai} (hs:Src P 1 tx xv m (cI m g) w) (ht:P.underlying t=aa (.slice T)) (hi:(P.info? T).map (λi=>(i.zero.map (·.cells),i.size,i.bytes))=aa (aa #[.int .u8 0],1,1))
 (hb:n+m<=140737488355328):
 ∃v w',(nh #[t,tx] ty #[.slice x n c,xv]).run P w=.ok v w'/\Ch (bl.map ao.id) w w'/\∃x' c' bl',v=.slice x' (n+m) c'/\eQ T (n+m) (cx n f g) x' c' bl'/\∀y∈bl',w'.heap[y.id]?=aa y.obj/\((∃u∈bl,y.id=u.id)\/w.heap.size<=y.id):=by
 obtain⟨i,cu,hi⟩:=iX.1 hi;simp only[bC]at hi;obtain⟨hz,dc,j6⟩:=hi;obtain⟨z0,nv,pV⟩:=iX.1 hz;obtain⟨j7,iL⟩:=hr;have ie:Src P i.size tx xv m (cI m g) w:=by rw[dc];exact hs
 have h63:n+m<=maxLen:=by unfold maxLen;omega
 by_cases l9:n+m<=c
 ·rcases tU m with j8|j8
  ·subst j8;refine⟨_,_,run_append_nothing (P:=P) w t tx ty T i ht cu x n c j7 xv ie,Ch.refl _ _,x,c,bl,rfl,⟨j7,?_⟩,λy hy=>⟨aS y hy,.inl ⟨y,hy,rfl⟩⟩⟩;rcases iL with h|⟨b,rfl,rfl⟩
   ·exact .inl h
   ·refine .inr ⟨b,rfl,?_⟩;have e:cI (n+0) (cx n f g)=cI n f:=DX λj hj=>by simp[cx,GR (show j<n by omega)]
    show[(⟨b,af,.cells (bE n f c) T (0,0)⟩:ao)]=[⟨b,af,.cells ((cI (n+0) (cx n f g)++n_ (c-(n+0)) (fI .u8 0)).toArray) T (0,0)⟩];rw[e];rfl
  ·rcases iL with⟨_,rfl,rfl,_⟩|⟨b,rfl,rfl⟩
   ·omega
   ·have uh:=aS _ (jZ.2 rfl);have fE:=run_storeCells_at (P:=P) b n T (cI m g) 0 (bE n f c) w uh (by rw[Zk f j7,gf];omega) hs.one;simp only[lA,gf]at fE;have bT:(nh #[t,tx] ty #[.slice (aa ⟨b,0,ae⟩) n c,xv]).run P w=.ok (.slice (aa ⟨b,0,ae⟩) (n+m) c) (w.setRow b ((bE n f c).toList.take n++cI m g++(bE n f c).toList.drop (n+m)).toArray):=by
     rcases ie.kind with⟨e',hk⟩|hk<;>simp[nh,dw ht,dw hk,pN,typeInfo,cu,ie.len,l9,hs.cells,iK,dc,fE,je]
    refine⟨_,_,bT,by simpa using Ch.setRow w b _,aa ⟨b,0,ae⟩,c,[⟨b,af,.cells (bE (n+m) (cx n f g) c) T (0,0)⟩],rfl,⟨l9,.inr ⟨b,rfl,rfl⟩⟩,?_⟩;intro y hy;obtain rfl:=jZ.1 hy;refine⟨?_,.inl ⟨_,jZ.2 rfl,rfl⟩⟩;have:=setRow_heap w b (bE n f c) ((bE n f c).toList.take n++cI m g++(bE n f c).toList.drop (n+m)).toArray T (0,0) uh;rw[this];congr 2;unfold bE;congr 1;show(cI n f++_).take n++_++(cI n f++_).drop (n+m)=_;rw[List.take_left' (gf n f),<-List.drop_drop,List.drop_left' (gf n f),List.drop_replicate,<-K_];congr 2;omega
 ·have hg:c<n+m:=oM;have hold:(Builtin.firstCells i.size n (.slice x n c)).run P w.drew=.ok (cI n f).toArray w.drew:=by
   rcases iL with⟨rfl,rfl,rfl,_⟩|⟨b,rfl,rfl⟩
   ·exact run_firstCells_none (P:=P) w.drew i.size 0 0 0
   ·have uh:=aS _ (jZ.2 rfl);refine run_firstCells_some (P:=P) w.drew i.size n ⟨b,0,ae⟩ n c (cI n f) (by rw[gf,dc,Nat.mul_one]) (λj v hj=>?_);obtain⟨mM,rfl⟩:=BE hj;rw[iK];have:w.drew.cell? ⟨b,0+j,ae⟩=w.cell? ⟨b,j,ae⟩:=sP;rw[this,cell_of uh];simp only[bE,jX];rw[gm (by rw[gf];exact mM),rh f mM]
  have bT:=run_append_grow_src (P:=P) w t tx ty T i z0 ht cu nv x n c (cI n f) hold xv m (cI m g) ie hg (by simp only[maxLen]at h63;omega) (by rw[j6];exact growslice_fits hg oM);have fh:=grownCap_ge w (n+m) c T;refine⟨_,_,bT,?_,aa ⟨w.heap.size,0,ae⟩,grownCap w (n+m) c T,[⟨w.heap.size,af,.cells (bE (n+m) (cx n f g) (grownCap w (n+m) c T)) T (0,0)⟩],rfl,⟨fh,.inr ⟨_,rfl,rfl⟩⟩,?_⟩
  ·exact((Ch.refl (bl.map ao.id) w).drew).trans (Ch.alloc (bl.map ao.id) w.drew _) (λx hx=>.inl hx)
  ·intro y hy;obtain rfl:=jZ.1 hy;refine⟨?_,.inr (cY _)⟩;have:=n6 w.drew (.cells ((cI n f++cI m g).toArray++qM z0.cells (grownCap w (n+m) c T-(n+m))) T);refine Eq.trans this ?_;congr 2;apply fD;rw[pV,Gt,Qu];show cI n f++cI m g++_=cI (n+m) (cx n f g)++_;rw[<-K_]
end
section
variable{P:aG} {ops:Array aw} {rest:List aw} {o:aw} {a:Act} {w w0:aj} {ms:List Nat} {Q:dE->Act->aj->Prop}
def Qx {A bl R:List ao} {xs:Option aI} {T n c m:Nat} {f g:Nat->Int} {t tx:aM} {s x:bg} {xv:ai} (S:St ms w0 (A++(bl++R)) w) (hr:eQ T n f xs c bl) (hs:Src P 1 tx xv m (cI m g) w) (hbd:n+m<=140737488355328)
 (k:∀x' c' bl' w',eQ T (n+m) (cx n f g) x' c' bl'->St ms w0 (A++(bl'++R)) w'->WL P ops Q rest (a.put o.dst (.slice x' (n+m) c')) w')
 (ho:o.op=.call ⟨.builtin .append,#[s,x],#[t,tx]⟩:=by rfl) (hw:gk o (yielded ops a.tmps)=af:=by kernel_rfl) (wZ:a.eval s=.slice xs n c:=by kernel_rfl) (uj:a.eval x=xv:=by kernel_rfl)
 (ht:P.underlying t=aa (.slice T):=by kernel_rfl) (cu:(P.info? T).map (λi=>(i.zero.map (·.cells),i.size,i.bytes))=aa (aa #[.int .u8 0],1,1):=by kernel_rfl):WL P ops Q (o::rest) a w:=
 WL.want hw λK hK=>by
  obtain⟨v,w',bT,hc,x',c',bl',rfl,gp,aS⟩:=Qw (P:=P) (ty:=o.type) hr (λy hy=>S.at' (by simp[hy])) hs ht cu hbd;have S2:=S.vw hr.wr hc (λy hy=>(aS y hy).1) (λy hy=>(aS y hy).2) (by
   rcases gp.2 with⟨_,_,_,rfl⟩|⟨b,_,rfl⟩<;>simp)
  unfold qK;rw[jJ ho wZ uj bT];exact hK _ _ (k x' c' bl' w' gp S2)
end
end Sx
namespace Sx
open Go Go.RowKit Go.BigFrame
def Qy (f:Nat->Int) (k:Nat):Nat->Int:=λj=>f (k+j)
def GU {T n f x c bl} (h:eQ T n f x c bl) (hn:0<n):∃b,n<=c/\x=aa ⟨b,0,ae⟩/\bl=[⟨b,af,.cells (bE n f c) T (0,0)⟩]:=by
 rcases h.2 with⟨_,h0,_,_⟩|⟨b,h1,h2⟩
 ·omega
 ·exact⟨b,h.1,h1,h2⟩
def St.BG {ms:List Nat} {w0 w:aj} {bs:List ao} (S:St ms w0 bs w) (i:Nat) {b n c:Nat} {wr:Bool} {f:Nat->Int} {t:aM} {fr:Nat×Nat} (hb:bs[i]?=aa ⟨b,wr,.cells (bE n f c) t fr⟩:=by kernel_rfl):cA w b 0 n f:=λj hj=>by
 rw[cell_of (S.at_ i _ hb),dS];simp only[bE,jX];rw[gm (by rw[gf];exact hj),rh f hj]
end Sx
namespace Sx
open Go
end Sx
namespace Sx
open Go Go.RowKit Go.BigFrame
def Ch.agO (w:aj) (r:Nat) (o:Obj):Ch [r] w {w with heap:=w.heap.setIfInBounds r o}:=
 ⟨rfl,rfl,rfl,sP,λk hk hm=>by
  show(w.heap.setIfInBounds r o)[k]?=w.heap[k]?;rw[Array.getElem?_setIfInBounds_ne (λe=>hm (by simp[e]))]⟩
def om (kd:fH) (l:List (Int×ai)):Obj:=.map ((l.zipIdx.map λx=>(⟨.int kd x.1.1,x.1.2,x.2⟩:wH)).toArray) l.length
def Zl (kd:fH) (k:Int):∀(l:List wH) (i:Nat),(∀e∈l,∃j,e.key=.int kd j/\j≠k)->PN (.int kd) (.int kd k) l i=aa ae
 |[],_,_=>rfl
 |e::es,i,h=>by
  obtain⟨j,h1,h2⟩:=h e (DB _);have:Instr.sameNow (.int kd) (.int kd k) e.key=aa ag:=by
   rw[h1];simp[Instr.sameNow];exact λh=>h2 h.symm
  simp[PN,this,Zl kd k es (i+1) (λx hx=>h x (Yw _ hx))]
def agP (kd:fH) (l:List (Int×ai)) (k:Int) (v:ai):
 Obj.map (((l.zipIdx.map λx=>(⟨.int kd x.1.1,x.1.2,x.2⟩:wH)).toArray).push ⟨.int kd k,v,l.length⟩) (l.length+1)=om kd (l++[(k,v)]):=by
 simp[om,List.zipIdx_append]
def agQ {kd:fH} {l:List (Int×ai)} {k:Int} (h:l.all (λx=>x.1!=k)=af):∀e∈(l.zipIdx.map λx=>(⟨.int kd x.1.1,x.1.2,x.2⟩:wH)),∃j,e.key=.int kd j/\j≠k:=by
 intro e he;obtain⟨x,hx,rfl⟩:=n8.1 he;have hm:=(List.mem_zipIdx hx);have h2:x.1∈l:=by
  obtain⟨_,_,h3⟩:=hm;rw[h3];exact List.getElem_mem _
 exact⟨x.1.1,rfl,by simpa using gQ.1 h _ h2⟩
section
variable{P:aG} {ops:Array aw} {rest:List aw} {o:aw} {a:Act} {w w0:aj} {ms:List Nat} {bs:List ao} {Q:dE->Act->aj->Prop}
end
def agR (g:Nat->Int):cx 0 (λ_=>0) g=g:=by
 funext j;show(bif db j 0 then _ else _)=_;rw[show db j 0=ag from by cases j<;>rfl];simp
def St.beside {ms:List Nat} {w0 w w1:aj} {bs bl:List ao} (S:St ms w0 bs w) (T:St [] w bl w1) (h:Wr bl):St ms w0 (bl++bs) w1:=by
 have hq:=S.quiet T.ch;refine St.mk' hq.ch (λx hx=>?_) (λx hx hw=>?_) ?_
 ·rcases eI.1 hx with h1|h1
  ·exact T.at' h1
  ·exact hq.at' h1
 ·rcases eI.1 hx with h1|h1
  ·rcases T.nu h1 hw with h2|h2
   ·cases h2
   ·exact .inr (ia S.ch.size h2)
  ·exact hq.nu h1 hw
 ·rw[Ky];refine⟨T.pw,hq.pw,λx hx y hy _ e=>?_⟩;rcases T.nu hx (h x hx)with h2|h2
  ·cases h2
  ·have:=S.ge hy;omega
def agS {w w1:aj} (hc:Ch [] w w1) {a:aI} {v:ai} (h:w.cell? a=aa v):w1.cell? a=aa v:=by
 have hb:a.block<w.heap.size:=by
  unfold zl at h;split at h
  ·next h2=>exact oe h2
  ·cases h
 have h3:=hc.block _ hb sP;unfold zl at h⊢;rw[h3];exact h
def jc (w:aj) (a:Option aI) (n c:Nat) (f:Nat->Int):Prop:=n<=c/\(a=ae->n=0/\c=0)/\∀x,a=aa x->∀j,j<n->w.cell? (x.add j)=aa (.int .u8 (f j))
def dM (w:aj) (a:Option aI) (n c:Nat) (f:Nat->Int):Prop:=n<=1000000/\jc w a n c f
def jc.quiet {w w1:aj} {a:Option aI} {n c:Nat} {f:Nat->Int} (h:jc w a n c f) (hc:Ch [] w w1):jc w1 a n c f:=⟨h.1,h.2.1,λx e j hj=>agS hc (h.2.2 x e j hj)⟩
def dM.quiet {w w1:aj} {a:Option aI} {n c:Nat} {f:Nat->Int} (h:dM w a n c f) (hc:Ch [] w w1):dM w1 a n c f:=⟨h.1,h.2.quiet hc⟩
def jc.cut {w:aj} {a:Option aI} {n c m:Nat} {f:Nat->Int} (h:jc w a n c f) (hm:m<=n) (hb:m<=1000000):dM w a m c f:=
 ⟨hb,ia hm h.1,λe=>⟨by have:=h.2.1 e;omega,(h.2.1 e).2⟩,λx e j hj=>h.2.2 x e j oM⟩
def DY {P:aG} {w:aj} {a:Option aI} {n c:Nat} {f:Nat->Int} (h:dM w a n c f) {tx e':aM} (hk:P.underlying tx=aa (.slice e'):=by kernel_rfl):Src P 1 tx (.slice a n c) n (cI n f) w:=by
 obtain⟨h1,h2,h3,h4⟩:=h;cases a with
 |none=>
  obtain⟨rfl,rfl⟩:=h3 rfl;exact Src.ofNil _ hk 0
 |some x=>exact qN w hk _ n c _ (by rw[gf,Nat.mul_one]) (λj u hj=>by
  obtain⟨h5,rfl⟩:=BE hj;exact h4 x rfl j h5) GQ
def dp (m n:Nat):Nat:=min n m
def Zm (m n:Nat):(if((m:Nat):Int)<((n:Nat):Int)then((m:Nat):Int)else((n:Nat):Int))=((dp m n:Nat):Int):=by unfold dp;split<;>omega
def dM.Zn {w:aj} {a:Option aI} {n c:Nat} {f:Nat->Int} (h:dM w a n c f) (hn:0<n):∃x,a=aa x:=by
 cases a with
 |none=>have:=(h.2.2.1 rfl).1;omega
 |some x=>exact⟨x,rfl⟩
def dM.Qz {w:aj} {b o n c:Nat} {f:Nat->Int} (h:cA w b o n f) (hn:n<=1000000) (hc:n<=c):dM w (aa ⟨b,o,ae⟩) n c f:=
 ⟨hn,hc,λe=>absurd e sP,λx e j hj=>by cases e;rw[iK];exact h j hj⟩
section
variable{P:aG} {ops:Array aw} {rest:List aw} {o o':aw} {a:Act} {w w0:aj} {ms:List Nat} {bs:List ao} {Q:dE->Act->aj->Prop}
def vz (b o n off i:Nat) (f:Nat->Int) (h8:cA w b o n f) (hi:i<n) (he:off=o+i) {x:bg} {ty:aM} (k:WL P ops Q rest (a.put o'.dst (.int .u8 (f i))) w) (hw:gk o' (yielded ops a.tmps)=af:=by kernel_rfl) (ho:o'.op=.load ty x:=by rfl) (hx:a.eval x=.pointer (aa ⟨b,off,ae⟩):=by kernel_rfl)
 (ha:(P.underlying ty).map jI=aa ag:=by kernel_rfl):WL P ops Q (o'::rest) a w:=
 av _ k hw (by
  have:=h8 i hi;rw[<-he]at this;unfold execOp;simp only[ho,hx,pO,iY,bz,cZ,ct];unfold loadVar;rw[bz,Bn ha];simp[load,Sem.run,this])
end
section
variable{P:aG}
def Zo {w:aj} {T n c m:Nat} {f g:Nat->Int} {x:Option aI} (hx:dM w x n c f)
 {t tx ty:aM} {xv:ai} (hs:Src P 1 tx xv m (cI m g) w) (ht:P.underlying t=aa (.slice T)) (hi:(P.info? T).map (λi=>(i.zero.map (·.cells),i.size,i.bytes))=aa (aa #[.int .u8 0],1,1))
 (hb:n+m<=140737488355328) (hg:c<n+m):
 ∃b c' w',(nh #[t,tx] ty #[.slice x n c,xv]).run P w=.ok (.slice (aa ⟨b,0,ae⟩) (n+m) c') w'/\n+m<=c'/\Ch [] w w'/\w.heap.size<=b/\w'.heap[b]?=aa (.cells (bE (n+m) (cx n f g) c') T (0,0)):=by
 obtain⟨i,cu,hi⟩:=iX.1 hi;simp only[bC]at hi;obtain⟨hz,dc,j6⟩:=hi;obtain⟨z0,nv,pV⟩:=iX.1 hz;have ie:Src P i.size tx xv m (cI m g) w:=by rw[dc];exact hs
 have h63:n+m<=maxLen:=by unfold maxLen;omega
 have hold:(Builtin.firstCells i.size n (.slice x n c)).run P w.drew=.ok (cI n f).toArray w.drew:=by
  cases x with
  |none=>
   obtain⟨rfl,rfl⟩:=hx.2.2.1 rfl;exact run_firstCells_none (P:=P) w.drew i.size 0 0 0
  |some a=>
   refine run_firstCells_some (P:=P) w.drew i.size n a n c (cI n f) (by rw[gf,dc,Nat.mul_one]) (λj v hj=>?_);obtain⟨mM,rfl⟩:=BE hj;have:=hx.2.2.2 a rfl j mM;simpa using this
 have bT:=run_append_grow_src (P:=P) w t tx ty T i z0 ht cu nv x n c (cI n f) hold xv m (cI m g) ie hg (by simp only[maxLen]at h63;omega) (by rw[j6];exact growslice_fits hg oM);have fh:=grownCap_ge w (n+m) c T;refine⟨w.heap.size,grownCap w (n+m) c T,_,bT,fh,?_,cY _,?_⟩
 ·exact((Ch.refl [] w).drew).trans (Ch.alloc [] w.drew _) (λx hx=>.inl hx)
 ·have:=n6 w.drew (.cells ((cI n f++cI m g).toArray++qM z0.cells (grownCap w (n+m) c T-(n+m))) T);refine Eq.trans this ?_;congr 2;apply fD;rw[pV,Gt,Qu];show cI n f++cI m g++_=cI (n+m) (cx n f g)++_;rw[<-K_]
end
section
variable{P:aG} {o:aw} {ρ:bg->ai} {w w0:aj} {ms:List Nat} {bs:List ao} {R:ai->aj->Prop}
def Y.Zp {x0:Option aI} {T n c m:Nat} {f g:Nat->Int} {t tx:aM} {s x:bg} {xv:ai} (S:St ms w0 bs w) (DZ:dM w x0 n c f) (hs:Src P 1 tx xv m (cI m g) w) (hbd:n+m<=140737488355328) (hg:c<n+m)
 (k:∀b c' w',n+m<=c'->St ms w0 (⟨b,af,.cells (bE (n+m) (cx n f g) c') T (0,0)⟩::bs) w'->R (.slice (aa ⟨b,0,ae⟩) (n+m) c') w')
 (ho:o.op=.call ⟨.builtin .append,#[s,x],#[t,tx]⟩:=by rfl) (wZ:ρ s=.slice x0 n c:=by kernel_rfl) (uj:ρ x=xv:=by kernel_rfl)
 (ht:P.underlying t=aa (.slice T):=by kernel_rfl) (cu:(P.info? T).map (λi=>(i.zero.map (·.cells),i.size,i.bytes))=aa (aa #[.int .u8 0],1,1):=by kernel_rfl):Yields P o ρ w R:=by
 obtain⟨b,c',w',bT,hc,cz,hb,aS⟩:=Zo (P:=P) (ty:=o.type) DZ hs ht cu hbd hg;unfold Yields;rw[jJ ho wZ uj bT];exact k b c' w' hc (S.new cz hb aS)
end
section
variable{P:aG} {ops:Array aw} {rest:List aw} {o:aw} {a:Act} {w:aj} {Q:dE->Act->aj->Prop} {ρ:bg->ai} {R:ai->aj->Prop}
def QA (kd QB:fH) (x y:Int) {t yt:aM} {xo yo:bg} (h:0<=y) (k:WL P ops Q rest (a.put o.dst (.int kd (kd.wrap (x*2^(min y.toNat kd.bits))))) w) (hw:gk o (yielded ops a.tmps)=af:=by kernel_rfl)
 (ho:o.op=.binOp .shl t xo yo yt:=by rfl) (hx:a.eval xo=.int kd x:=by kernel_rfl) (hy:a.eval yo=.int QB y:=by kernel_rfl):WL P ops Q (o::rest) a w:=
 av _ k hw (by
  have hn:¬y<0:=oM;unfold execOp;simp[ho,hx,hy,Go.eqGuard,Go.binOp,Op.shift,hn])
def Y.QA (kd QB:fH) (x y:Int) {t yt:aM} {xo yo:bg} (h:0<=y) (k:R (.int kd (kd.wrap (x*2^(min y.toNat kd.bits)))) w)
 (ho:o.op=.binOp .shl t xo yo yt:=by rfl) (hx:ρ xo=.int kd x:=by kernel_rfl) (hy:ρ yo=.int QB y:=by kernel_rfl):Yields P o ρ w R:=
 Y.av _ k (by
  have hn:¬y<0:=oM;unfold execOp;simp[ho,hx,hy,Go.eqGuard,Go.binOp,Op.shift,hn])
end
def gu (l:List Int):Nat->Int:=λj=>l.getD j 0
section
variable{P:aG} {ops:Array aw} {rest:List aw} {o:aw} {a:Act} {w w0:aj} {ms:List Nat} {bs:List ao} {Q:dE->Act->aj->Prop} {ρ:bg->ai}
def agT (neg:Bool) (r:Bool) (xs ys:Array ai) {v:ai} (hv:v=.bool (bif neg then !r else r)) {t yt:aM} {x y:bg} (ho:o.op=.binOp (bif neg then .neq else .eql) t x y yt:=by rfl) (hx:ρ x=.agg xs:=by kernel_rfl) (hy:ρ y=.agg ys:=by kernel_rfl) (hg:P.eqGuardType P.depth t=ag:=by kernel_rfl) (he:zC P 10000 t (.agg xs) (.agg ys)=aa r:=by kernel_rfl):
 (execOp ρ o).run P w=.ok (.value v) w:=by
 rw[hv];exact agp neg ho hx hy hg he
def Zp {x0:Option aI} {T n c m:Nat} {f g:Nat->Int} {t tx:aM} {s x:bg} {xv:ai} (S:St ms w0 bs w) (DZ:dM w x0 n c f) (hs:Src P 1 tx xv m (cI m g) w) (hbd:n+m<=140737488355328) (hg:c<n+m)
 (k:∀b c' w',n+m<=c'->St ms w0 (⟨b,af,.cells (bE (n+m) (cx n f g) c') T (0,0)⟩::bs) w'->WL P ops Q rest (a.put o.dst (.slice (aa ⟨b,0,ae⟩) (n+m) c')) w')
 (hw:gk o (yielded ops a.tmps)=af:=by kernel_rfl) (ho:o.op=.call ⟨.builtin .append,#[s,x],#[t,tx]⟩:=by rfl) (wZ:a.eval s=.slice x0 n c:=by kernel_rfl) (uj:a.eval x=xv:=by kernel_rfl)
 (ht:P.underlying t=aa (.slice T):=by kernel_rfl) (cu:(P.info? T).map (λi=>(i.zero.map (·.cells),i.size,i.bytes))=aa (aa #[.int .u8 0],1,1):=by kernel_rfl):WL P ops Q (o::rest) a w:=
 WL.want hw λK hK=>by
  obtain⟨b,c',w',bT,hc,cz,hb,aS⟩:=Zo (P:=P) (ty:=o.type) DZ hs ht cu hbd hg;unfold qK;rw[jJ ho wZ uj bT];exact hK _ _ (k b c' w' hc (S.new cz hb aS))
end
def St.up {ms:List Nat} {w0 w:aj} {b:Nat} {o:Obj} {B:List ao} {L:List Nat} (S:St ms w0 (⟨b,ag,o⟩::B) w) (GV:w0.heap.size<=b) (hT:Ty L B) (hd:Zi L [DW o]=af:=by kernel_rfl):St ms w0 (⟨b,af,o⟩::B) w:=by
 refine St.mk' S.ch (λx hx=>?_) (λx hx hw=>?_) ?_
 ·rcases cF.1 hx with rfl|hx
  ·exact S.at' (x:=⟨b,ag,o⟩) (DB _)
  ·exact S.at' (Yw _ hx)
 ·rcases cF.1 hx with rfl|hx
  ·exact .inr GV
  ·exact S.nu (Yw _ hx) hw
 ·refine Be.2 ⟨λy hy _ e=>?_,(Be.1 S.pw).2⟩;have h1:=S.at' (x:=⟨b,ag,o⟩) (DB _);have h2:=S.at' (Yw _ hy);simp only at h1 e;rw[e,h2]at h1;exact hT.ne hd y hy _ (DB _) (congrArg DW (cG h1))
end Sx
namespace Sd
abbrev ax:=Nat->Int
structure Timer where
 n:Int
 most:Int
deriving DecidableEq,Inhabited
structure Tok where
 aF:Int
 an:Int
 offer:Int
 oa:Timer
 la:Timer
 bad:Bool
deriving DecidableEq,Inhabited
structure Label where
 mQ:Int
 source:Int
 seq:Int
deriving DecidableEq,Inhabited
structure X4 where
 a:Int
 b:Int
 c:Int
 d:Int
deriving DecidableEq,Inhabited
def X4.get (x:X4) (i:Nat):Int:=match i with|0=>x.a|1=>x.b|2=>x.c|_=>x.d
def X4.map (f:Int->Int) (x:X4):X4:=⟨f x.a,f x.b,f x.c,f x.d⟩
def X4.zip (f:Int->Int->Int) (x y:X4):X4:=⟨f x.a y.a,f x.b y.b,f x.c y.c,f x.d y.d⟩
def X4.zero:X4:=⟨0,0,0,0⟩
structure fj where
 cls:Int
 bh:X4
 now:X4
 cd:Label
deriving DecidableEq,Inhabited
structure Rec where
 kind:Int
 source:Int
 seq:Int
 an:Int
 code:Int
 how:Int
deriving DecidableEq,Inhabited
structure bQ where
 kind:Int
 seq:Int
 role:Int
 bh:Int
 an:Int
 mode:Int
 cls:Int
 now:Bool
 x:X4
deriving DecidableEq,Inhabited
structure aO where
 kind:Int
 seq:Int:=0
 role:Int:=0
 eK:Int:=0
 an:Int:=0
 code:Int:=0
 aK:ax:=λ_=>0
deriving Inhabited
structure ft where
 valid:Bool
 x:X4
 pW:Bool
deriving DecidableEq,Inhabited
structure jh where
 any:Bool
 high:Int
 seen:Int
deriving DecidableEq,Inhabited
structure Ask where
 source:Int
 bU:Int
 dy:Timer
deriving DecidableEq,Inhabited
structure eS where
 many:Int
 ji:Bool
 aK:ax
deriving Inhabited
structure gw where
 on:Bool
 dN:Timer
 role:Int
 key:ax
 seen:jh
deriving Inhabited
structure Act where
 mode:Int
 cls:Int
 out:X4
 gF:Label
 axU:Label
deriving DecidableEq,Inhabited
structure aU where
 i:Nat->Int
 k:Nat->Nat×ax
namespace aU
def order (p:aU) (k:Nat):Int:=p.i k
def Zq (p:aU) (s:Nat):Int:=p.i (9+s)
def table (p:aU) (m r:Nat):Int:=p.i (14+4*m+r)
def graph (p:aU) (m:Nat):Int:=p.i (34+m)
def start (p:aU):Int:=p.i 39
def safe (p:aU):Int:=p.i 40
def lost (p:aU):Int:=p.i 41
def cO (p:aU):Int:=p.i 42
def dz (p:aU):Int:=p.i 43
def offer (p:aU):Int:=p.i 44
def ask (p:aU):Int:=p.i 45
def sT (p:aU):Int:=p.i 46
def beyond (p:aU):Int:=p.i 47
def queue (p:aU):Int:=p.i 48
def iM (p:aU):Int:=p.i 49
def most (p:aU) (c:Nat):Int:=p.i (50+c)
def D0 (p:aU):Int:=p.i 54
def an (p:aU):Int:=p.i 55
end aU
end Sd
namespace Sd
def sat (n most:Int):Int:=if n<most then n+1 else most
def vA (n low high:Int):Int:=if n<low then low else if high<n then high else n
def sU (now bh cd:Int):Int:=
 if cd<1 then now
 else if now<=bh then(if bh-now<=cd then bh else now+cd)
 else(if now-bh<=cd then bh else now-cd)
def has (set i:Int):Bool:=decide (0<=set)&&decide (0<=i)&&decide (i<=62)&&decide (set/2^i.toNat%2=1)
namespace Timer
def zero:Timer:=⟨0,0⟩
def start (most:Int):Timer:=⟨0,max most 0⟩
def step (t:Timer):Timer:={t with n:=sat t.n t.most}
def due (t:Timer):Bool:=decide (t.most<=t.n)
end Timer
def placeOf (p:aU) (s:Int):Int:=
 if p.i 0=s then 0 else if p.i 1=s then 1 else if p.i 2=s then 2 else if p.i 3=s then 3 else if p.i 4=s then 4 else-1
def bU (p:aU) (s:Int):Int:=placeOf p s
def eL (p:aU) (a b:Int):Bool:=decide (placeOf p a≠-1)&&decide (placeOf p b≠-1)&&decide (placeOf p a<placeOf p b)
def below (n bound:Int):Bool:=decide (0<=n)&&decide (n<bound)
def vB (p:aU) (source role:Int):Bool:=below source 5&&below role 4&&has (p.Zq source.toNat) role
def may (p:aU) (mode role cls:Int):Bool:=below mode 5&&below role 4&&below cls 4&&has (p.table mode.toNat role.toNat) cls
def goes (p:aU) (from_ bh:Int):Bool:=below from_ 5&&below bh 5&&has (p.graph from_.toNat) bh
namespace Tok
def pass (t:Tok) (bh an:Int):Tok:=⟨bh,an,-1,.zero,.zero,t.bad⟩
def new (p:aU):Tok:=⟨4,p.an,-1,.zero,.zero,ag⟩
def dF (t:Tok) (bh:Int):Tok×Int:=
 if bh<0\/5<=bh then(t,1)else if bh=t.aF then(t,25)else if 65535<=t.an then(t,24)
 else(t.pass bh (t.an+1),0)
def gX (t:Tok):Tok:=t.pass 4 (if t.aF≠4 then sat t.an 65535 else t.an)
def jk (t:Tok):Tok:={t with offer:=-1,oa:=.zero}
def make (p:aU) (t:Tok) (from_ bh:Int) (there:Bool):Tok×Int:=
 if from_≠t.aF then(t,20)else if 65535<=t.an then(t,24)else if bh=from_ then(t,25)
 else if bh<1\/3<bh\/there=ag then(t,2)else if 0<=t.offer then(t,28)
 else({t with offer:=bh,oa:=.start p.offer},0)
def accept (t:Tok) (from_ an:Int):Tok×Int:=
 if t.offer<0\/t.offer≠from_ then(t,28)else if an≠t.an then(t,21)else t.dF from_
def gh (t:Tok) (from_:Int):Tok×Int:=
 if t.offer<0\/t.offer≠from_ then(t,28)else(t.jk,0)
def drop (t:Tok) (source:Int):Tok×Bool:=
 if t.offer<0\/t.offer≠source then(t,ag)else(t.jk,af)
def tick (t:Tok):Tok×Int:=
 if t.offer<0 then(t,-1)
 else if t.oa.step.due then(({t with oa:=t.oa.step}:Tok).jk,t.offer)
 else({t with oa:=t.oa.step},-1)
end Tok
namespace Q
def waits (l:List Ask) (s:Int):Bool:=l.any λa=>decide (a.source=s)
def insert (l:List Ask) (a:Ask):List Ask:=(l.takeWhile λx=>decide (x.bU<=a.bU))++a::(l.dropWhile λx=>decide (x.bU<=a.bU))
def push (most:Int) (l:List Ask) (a:Ask):List Ask×Int:=
 if waits l a.source then(l,27)else if most<=l.length then(l,3)else(insert l a,0)
def drop (l:List Ask) (s:Int):List Ask:=l.filter λa=>decide (a.source≠s)
def oX (l:List Ask):List Ask:=l.map λa=>{a with dy:=a.dy.step}
def gone (l:List Ask):List Ask:=(oX l).filter λa=>a.dy.due
def kept (l:List Ask):List Ask:=(oX l).filter λa=>!a.dy.due
end Q
def gY (p:aU) (t:Tok) (most:Int) (q:List Ask) (from_:Int) (now:Bool):Tok×Int×Int×List Ask:=
 if t.bad then(t,0,29,q)else if from_=t.aF then(t,0,25,q)else if 65535<=t.an then(t,0,24,q)
 else if t.aF=4\/(now=af/\eL p from_ t.aF=af)then
  (if(t.dF from_).2≠0 then(t,0,(t.dF from_).2,q)else((t.dF from_).1,3,0,Q.drop q from_))
 else if now then(t,0,26,q)
 else(t,0,(Q.push most q ⟨from_,bU p from_,.start p.ask⟩).2,(Q.push most q ⟨from_,bU p from_,.start p.ask⟩).1)
def fT (t:Tok) (q:List Ask):Tok×Int×List Ask:=
 match q with
 |[]=>(t,2,q)
 |a::_=>if(t.dF a.source).2≠0 then(t,(t.dF a.source).2,q)else((t.dF a.source).1,0,Q.drop q a.source)
def dA (t:Tok) (q:List Ask) (from_:Int):Tok×Int×List Ask:=
 if from_≠t.aF then(t,20,q)else if 65535<=t.an then(t,24,q)else fT t q
def gZ (p:aU) (t:Tok) (q:List Ask) (there:Bool):Tok×Int×List Ask:=
 if t.aF=4\/there=af then({t with la:=.zero},0,q)
 else
  let la:=(if t.la.most=0 then Timer.start p.dz else t.la).step
  let t1:Tok:={t with la:=la}
  if la.due=ag then(t1,0,q)
  else if 65535<=t.an then(t1.gX,6,q)
  else if(fT t1 q).2.1≠0 then((t1.dF 4).1,5,(fT t1 q).2.2)
  else((fT t1 q).1,5,(fT t1 q).2.2)
namespace fj
def set (p:aU) (pt:fj) (cls:Int) (x:X4) (cd:Label):fj:=
 {pt with cls:=cls,cd:=cd,bh:=if cls<0\/4<=cls then .zero else x.map λn=>vA n (-(p.most cls.toNat)) (p.most cls.toNat)}
def hold (pt:fj) (cd:Label):fj:={pt with bh:=.zero,cd:=cd}
def step (p:aU) (pt:fj):fj:=
 let now:=X4.zip (λa b=>sU a b p.D0) pt.now pt.bh
 {pt with now:=now,cd:=if now=pt.now then pt.cd else{pt.cd with mQ:=4}}
end fj
def ue (most:Int) (x:X4):Bool:=
 (decide (x.a< -most)||decide (most<x.a))||(decide (x.b< -most)||decide (most<x.b))||(decide (x.c< -most)||decide (most<x.c))||(decide (x.d< -most)||decide (most<x.d))
def g9 (p:aU) (run:Int) (s:ft):Int×Bool:=
 if s.valid=ag\/ue p.beyond s.x=ag then(0,ag)
 else(sat (max run 0) p.sT,decide (p.sT<=sat (max run 0) p.sT))
def oq (p:aU) (t:Tok) (source role mode:Int) (m:bQ):Int:=
 if m.kind≠10/\m.kind≠11 then 1 else if source≠t.aF then 20 else if m.an≠t.an then 21
 else if may p mode role (if m.kind=10 then 0 else m.cls)=ag then 22
 else if m.kind=10/\goes p mode m.mode=ag then 23 else 0
end Sd
namespace Sd
def w_ (k:Int):bQ:=⟨k,0,0,0,0,0,0,ag,.zero⟩
structure aL where
 take:Nat->ax->Option bQ
 aK:Nat×ax->Int->Int->ax
 right:Nat×ax->Int->Int->ax->ax->Bool
 key:Nat×ax->Int->Int->ax->ax
 opens:ax->Int->Nat->ax->Bool
 next:ax->Rec->ax
 g9:jh->Int->jh
structure aN where
 de:Bool×Timer
 az:Nat->gw
def gw.zero:gw:=⟨ag,.zero,0,λ_=>0,⟨ag,0,0⟩⟩
namespace aN
def new:aN:=⟨(ag,.zero),λ_=>.zero⟩
def iC (t:aN) (s:Int):Bool:=decide (1<=s)&&decide (s<=3)&&(t.az (s.toNat-1)).on
def on (t:aN) (s:Int):Bool:=if s=4 then af else if s=0 then t.de.1 else t.iC s
def role (t:aN) (s:Int):Int:=if t.iC s then(t.az (s.toNat-1)).role else 0
def many (t:aN):Int:=(if(t.az 0).on then 1 else 0)+(if(t.az 1).on then 1 else 0)+(if(t.az 2).on then 1 else 0)
def gO (t:aN) (i:Nat) (s:gw):aN:={t with az:=λj=>if j=i then s else t.az j}
def fk (p:aU) (t:aN) (s r:Int) (key:ax):aN×Int:=
 if s<1\/3<s\/r<0\/4<=r then(t,1)
 else if t.iC s=ag/\p.iM<=t.many then(t,19)
 else(t.gO (s.toNat-1) ⟨af,.start p.cO,r,key,⟨ag,0,0⟩⟩,0)
def take (C:aL) (p:aU) (t:aN) (s:Int) (n:Nat) (f:ax):aN×Except Int bQ:=
 if t.iC s=ag then(t,.error 16)else
 if n<8\/C.opens (t.az (s.toNat-1)).key s n f=ag then(t,.error 14)else
  match C.take (n-8) f with
  |none=>(t,.error 13)
  |some m=>
   if m.kind=1\/m.kind=2 then(t,.error 13)
   else if C.g9 (t.az (s.toNat-1)).seen m.seq=(t.az (s.toNat-1)).seen then(t,.error 15)
   else(t.gO (s.toNat-1) {(t.az (s.toNat-1))with seen:=C.g9 (t.az (s.toNat-1)).seen m.seq,on:=af,dN:=.start p.cO},.ok m)
def end_ (t:aN) (s:Int):aN:=if t.iC s then t.gO (s.toNat-1) .zero else t
def ig (p:aU) (t:aN):aN:={t with de:=(af,.start p.cO)}
def zJ (t:aN):Bool:=t.de.1&&t.de.2.step.due
def l_ (t:aN) (i:Nat):Bool:=(t.az i).on&&(t.az i).dN.step.due
def tick (t:aN):aN:=
 {de:=if t.de.1 then(if t.de.2.step.due then(ag,.zero)else(af,t.de.2.step))else t.de,az:=λi=>if(t.az i).on then(if(t.az i).dN.step.due then gw.zero else{(t.az i)with dN:=(t.az i).dN.step})else t.az i}
def ended (t:aN):List Int:=
 (if t.zJ then[0]else[])++(if t.l_ 0 then[1]else[])++(if t.l_ 1 then[2]else[])++(if t.l_ 2 then[3]else[])
end aN
structure Core where
 p:aU
 t:Tok
 q:List Ask
 doors:Nat->eS
 aq:aN
 samples:Int
 beyond:Int
 mode:Int
 gF:Label
 pt:fj
 head:ax
structure ah where
 c:Core
 bw:List (Int×aO)
 aV:List Rec
def oY:Label:=⟨2,4,0⟩
def linked (s:Int):Bool:=decide (1<=s)&&decide (s<=3)
def eS.zero:eS:=⟨0,ag,λ_=>0⟩
def Core.new (p:aU):Core:=
 ⟨p,.new p,[],λ_=>.zero,.new,0,0,p.start,oY,⟨1,.zero,.zero,oY⟩,λ_=>0⟩
def Core.act (c:Core):Act:=⟨c.mode,c.pt.cls,c.pt.now,c.gF,c.pt.cd⟩
namespace ah
variable(C:aL)
def tell (s:ah) (l:Int) (r:aO):ah:={s with bw:=s.bw++[(l,r)]}
def eh (s:ah) (l:Int) (r:aO):ah:=if linked l&&s.c.aq.on l then s.tell l r else s
def record (s:ah) (kind source seq code how:Int):ah:=
 let r:Rec:=⟨kind,source,seq,s.c.t.an,code,how⟩
 {s with aV:=s.aV++[r],c:={s.c with head:=C.next s.c.head r}}
def refuse (s:ah) (l n code:Int):ah:=(s.tell l {kind:=132,seq:=n,code:=code}).record C 7 l n code 0
def jx (s:ah) (l code:Int):ah:=s.record C 1 l 0 code 0
def done (s:ah) (l n:Int):ah:=s.tell l {kind:=131,seq:=n}
def goes (s:ah) (t:Tok) (how n:Int):ah:=
 let a:=s.c.t.aF
 let s1:ah:={s with c:={s.c with t:=t,q:=Q.drop s.c.q t.aF}}
 let s2:=s1.eh a {kind:=134,eK:=t.aF,an:=t.an}
 let s3:=s2.eh t.aF {kind:=133,an:=t.an}
 s3.record C 8 t.aF n 0 how
def gone (s:ah) (l eK code:Int):ah:=s.eh l {kind:=136,eK:=eK,code:=code}
def leave (s:ah) (source:Int):ah:=
 let s1:ah:={s with c:={s.c with q:=Q.drop s.c.q source}}
 if(s1.c.t.drop source).2=ag then s1
 else(({s1 with c:={s1.c with t:=(s1.c.t.drop source).1}}:ah).gone (s1.c.t.drop source).1.aF source 16).record C 12 source 0 16 0
def ei (s:ah) (mode:Int) (cd:Label):ah:={s with c:={s.c with mode:=mode,gF:=cd,pt:=s.c.pt.hold cd}}
def sV (s:ah) (l:Int) (n:Nat) (f:ax):ah:=
 match C.take n f with
 |none=>s.jx C l 13
 |some m=>
  if vB s.c.p l m.role=ag then s.refuse C l 0 18
  else
   let d:=s.c.doors (l.toNat-1)
   if 4294967295<=d.many then s.refuse C l 0 24
   else
    let x:=C.aK (s.c.p.k 3) l (d.many+1)
    let s1:ah:={s with c:={s.c with doors:=λj=>if j=l.toNat-1 then⟨d.many+1,af,x⟩else s.c.doors j}}
    (s1.tell l {kind:=129,aK:=x}).record C 2 l 0 0 0
def prove (s:ah) (l:Int) (n:Nat) (f:ax):ah:=
 if n≠10 then s.jx C l 13
 else match C.take 2 f with
 |none=>s.jx C l 13
 |some m=>
  let d:=s.c.doors (l.toNat-1)
  if d.ji=ag then s.refuse C l 0 17
  else
   let s1:ah:={s with c:={s.c with doors:=λj=>if j=l.toNat-1 then⟨d.many,ag,λ_=>0⟩else s.c.doors j}}
   if C.right (s.c.p.k (l.toNat-1)) l m.role d.aK (λj=>f (2+j))=ag then s1.jx C l 14
   else if vB s.c.p l m.role=ag then s1.refuse C l 0 18
   else
    let(aq,e):=aN.fk s.c.p s.c.aq l m.role (C.key (s.c.p.k (l.toNat-1)) l m.role d.aK)
    if e≠0 then s1.refuse C l 0 e
    else
     let s2:ah:={s1 with c:={s1.c with aq:=aq}}
     (s2.tell l {kind:=130,role:=m.role,eK:=s.c.t.aF,an:=s.c.t.an}).record C 3 l 0 0 0
def eD (s:ah) (t:Tok):ah:={s with c:={s.c with t:=t}}
def BH (s:ah) (l:Int) (m:bQ):ah:=
 ((({s with c:={s.c with aq:=s.c.aq.end_ l}}:ah).leave C l).record C 4 l m.seq 0 0).done l m.seq
def ask (s:ah) (l:Int) (m:bQ):ah:=
 let(t,how,e,q):=gY s.c.p s.c.t s.c.p.queue s.c.q l m.now
 if e≠0 then s.refuse C l m.seq e
 else
  let s1:ah:={s with c:={s.c with q:=q}}
  (if 0<how then s1.goes C t how m.seq else(s1.eD t).record C 10 l m.seq 0 0).done l m.seq
def offer (s:ah) (l:Int) (m:bQ):ah:=
 let(t,e):=Tok.make s.c.p s.c.t l m.bh (s.c.aq.on m.bh)
 if e≠0 then s.refuse C l m.seq e
 else((((s.eD t).eh m.bh {kind:=135,eK:=l,an:=t.an}).record C 9 l m.seq 0 m.bh)).done l m.seq
def accept (s:ah) (l:Int) (m:bQ):ah:=
 let(t,e):=s.c.t.accept l m.an
 if e≠0 then s.refuse C l m.seq e else(s.goes C t 1 m.seq).done l m.seq
def gh (s:ah) (l:Int) (m:bQ):ah:=
 let(t,e):=s.c.t.gh l
 if e≠0 then s.refuse C l m.seq e
 else((((s.eD t).gone t.aF l 0).record C 11 l m.seq 0 0)).done l m.seq
def release (s:ah) (l:Int) (m:bQ):ah:=
 let(t,e,q):=dA s.c.t s.c.q l
 if e≠0 then s.refuse C l m.seq e else(({s with c:={s.c with q:=q}}:ah).goes C t 2 m.seq).done l m.seq
def command (s:ah) (l:Int) (m:bQ):ah:=
 let e:=oq s.c.p s.c.t l (s.c.aq.role l) s.c.mode m
 if e≠0 then s.refuse C l m.seq e
 else
  let cd:Label:=⟨1,l,m.seq⟩
  let s1:ah:=if m.kind=10 then{s with c:={s.c with mode:=m.mode,gF:=cd}}
   else{s with c:={s.c with pt:=s.c.pt.set s.c.p m.cls m.x cd}}
  (s1.record C 6 l m.seq 0 0).done l m.seq
def kW (s:ah) (l:Int) (m:bQ):ah:=
 if m.kind=3 then s.done l m.seq else if m.kind=4 then s.BH C l m else if m.kind=5 then s.ask C l m
 else if m.kind=6 then s.offer C l m else if m.kind=7 then s.accept C l m else if m.kind=8 then s.gh C l m
 else if m.kind=9 then s.release C l m else if m.kind=10\/m.kind=11 then s.command C l m else s
def item (s:ah) (l code:Int) (n:Nat) (f:ax):ah:=
 if code≠0 then s.jx C l code
 else if 0<n/\f 0=1 then s.sV C l n f
 else if 0<n/\f 0=2 then s.prove C l n f
 else
  match s.c.aq.take C s.c.p l n f with
  |(_,.error e)=>s.jx C l e
  |(aq,.ok m)=>({s with c:={s.c with aq:=aq}}:ah).kW C l m
def ig (s:ah) (x:ft):ah:=
 if x.valid=ag then{s with c:={s.c with beyond:=0}}
 else
  let n:=sat s.c.samples 4294967295
  let r:=g9 s.c.p s.c.beyond x
  let s1:ah:={s with c:={s.c with samples:=n,aq:=s.c.aq.ig s.c.p,beyond:=r.1}}
  if s.c.t.aF=0/\x.pW=af then
   let(t,e,q):=dA s.c.t s.c.q 0
   if e≠0 then s1.record C 7 0 n e 0 else({s1 with c:={s1.c with q:=q}}:ah).goes C t 2 n
  else if s.c.t.aF=0 then
   let e:=oq s.c.p s.c.t 0 0 s.c.mode {w_ 11 with an:=s.c.t.an,cls:=1}
   if e≠0 then s1.record C 7 0 n e 0
   else({s1 with c:={s1.c with pt:=s1.c.pt.set s.c.p 1 x.x ⟨1,0,n⟩}}:ah).record C 6 0 n 0 0
  else if r.2 then
   let(t,e):=s.c.t.dF 0
   if e≠0 then s1.record C 7 0 n e 0 else s1.goes C t 4 n
  else s1
def lC (s:ah) (bad:Bool):ah:=
 let s1:=s.eD {s.c.t with bad:=bad}
 if bad=ag then s1
 else
  let t:=s1.c.t.gX
  let s2:=if s1.c.t.aF≠4 then s1.goes C t 6 0 else s1.eD t
  let s3:=s2.c.q.foldl (λ(s:ah) (a:Ask)=>({s with c:={s.c with q:=Q.drop s.c.q a.source}}:ah).gone a.source 4 29) s2
  s3.ei s3.c.p.safe oY
def dz (s:ah):ah:=
 let(t,how,q):=gZ s.c.p s.c.t s.c.q (s.c.aq.on s.c.t.aF)
 if how<=0 then s.eD t
 else
  let s1:=({s with c:={s.c with q:=q}}:ah).goes C t how 0
  if how=5 then s1.ei s1.c.p.lost ⟨3,4,0⟩else s1.ei s1.c.p.safe oY
def tick (s:ah):ah:=
 let agU:=s.c.aq.ended
 let s0:ah:={s with c:={s.c with aq:=s.c.aq.tick}}
 let s1:=agU.foldl (λ(s:ah) (x:Int)=>let s:=s.record C 5 x 0 0 0;if linked x then s.leave C x else s) s0
 let(t,QC):=s1.c.t.tick
 let s2:=s1.eD t
 let s3:=if 0<=QC then(s2.gone t.aF QC 30).record C 12 QC 0 30 0 else s2
 let late:=Q.gone s3.c.q
 let s4:ah:={s3 with c:={s3.c with q:=Q.kept s3.c.q}}
 let s5:=late.foldl (λ(s:ah) (a:Ask)=>(s.gone a.source a.source 30).record C 12 a.source 0 30 0) s4
 let s6:=s5.dz C
 {s6 with c:={s6.c with pt:=s6.c.pt.step s6.c.p}}
end ah
structure fF (p:aU):Prop where
 o0:p.i 0=0
 o4:p.i 4=4
 perm:(p.i 1=1/\p.i 2=2/\p.i 3=3)\/(p.i 1=1/\p.i 2=3/\p.i 3=2)\/(p.i 1=2/\p.i 2=1/\p.i 3=3)\/
  (p.i 1=2/\p.i 2=3/\p.i 3=1)\/(p.i 1=3/\p.i 2=1/\p.i 3=2)\/(p.i 1=3/\p.i 2=2/\p.i 3=1)
 start:0<=p.start/\p.start<=4
 safe:0<=p.safe/\p.safe<=4
 lost:0<=p.lost/\p.lost<=4
 cO:1<=p.cO/\p.cO<=1000
 dz:1<=p.dz/\p.dz<=1000
 offer:1<=p.offer/\p.offer<=1000
 ask:1<=p.ask/\p.ask<=1000
 sT:1<=p.sT/\p.sT<=1000
 beyond:0<=p.beyond/\p.beyond<=1000
 queue:1<=p.queue/\p.queue<=3
 iM:1<=p.iM/\p.iM<=3
 most:∀c,c<4->0<=p.most c/\p.most c<=1000
 D0:1<=p.D0/\p.D0<=1000
 an:0<=p.an/\p.an<=65535
def Zr {p:aU} (h:fF p) (s:Int) (h0:0<=s) (h4:s<=4):0<=placeOf p s/\placeOf p s<=4:=by
 have e:s=0\/s=1\/s=2\/s=3\/s=4:=oM;have:=h.o0;have:=h.o4
 rcases e with rfl|rfl|rfl|rfl|rfl<;>rcases h.perm with⟨a,b,c⟩|⟨a,b,c⟩|⟨a,b,c⟩|⟨a,b,c⟩|⟨a,b,c⟩|⟨a,b,c⟩<;>simp[placeOf, *]
def Zs {p:aU} (h:fF p) {s t:Int} (hs:0<=s/\s<=4) (ht:0<=t/\t<=4) (e:placeOf p s=placeOf p t):s=t:=by
 have es:s=0\/s=1\/s=2\/s=3\/s=4:=oM;have et:t=0\/t=1\/t=2\/t=3\/t=4:=oM;have:=h.o0;have:=h.o4
 rcases es with rfl|rfl|rfl|rfl|rfl<;>rcases et with rfl|rfl|rfl|rfl|rfl<;>first|rfl|(rcases h.perm with⟨a,b,c⟩|⟨a,b,c⟩|⟨a,b,c⟩|⟨a,b,c⟩|⟨a,b,c⟩|⟨a,b,c⟩<;>simp[placeOf, *]at e)
def agV {p:aU} (h:fF p) {s t:Int} (hs:0<=s/\s<=4) (ht:0<=t/\t<=4):eL p s t=decide (bU p s<bU p t):=by
 have a:=Zr h s hs.1 hs.2;have b:=Zr h t ht.1 ht.2;unfold eL bU;have a':placeOf p s≠-1:=oM;have b':placeOf p t≠-1:=oM;simp[a',b']
def agW {p:aU} (h:fF p) {s:Int} (hs:0<=s/\s<=3):bU p s<bU p 4:=by
 have es:s=0\/s=1\/s=2\/s=3:=oM;have:=h.o0;have:=h.o4
 unfold bU;rcases es with rfl|rfl|rfl|rfl<;>rcases h.perm with⟨a,b,c⟩|⟨a,b,c⟩|⟨a,b,c⟩|⟨a,b,c⟩|⟨a,b,c⟩|⟨a,b,c⟩<;>simp[placeOf, *]
structure ri (p:aU) (t:aN) (aF:Int) (q:List Ask):Prop where
 each:∀a∈q,a.bU=bU p a.source/\1<=a.source/\a.source<=3/\t.on a.source=af/\a.source≠aF/\a.dy.most=p.ask/\0<=a.dy.n/\a.dy.n<p.ask
 sorted:q.Pairwise λa b=>a.bU<b.bU
 len:(q.length:Int)<=p.queue
structure ny (p:aU) (aq:aN) (t:Tok):Prop where
 aF:0<=t.aF/\t.aF<=4
 an:p.an<=t.an/\t.an<=65535
 offer:t.offer=-1\/(1<=t.offer/\t.offer<=3/\t.offer≠t.aF/\aq.on t.offer=af/\t.oa.most=p.offer/\0<=t.oa.n/\t.oa.n<p.offer)
 lost:(t.la.most=0/\t.la.n=0)\/(t.la.most=p.dz/\0<=t.la.n/\t.la.n<p.dz)
structure D4 (p:aU) (t:aN):Prop where
 de:t.de.1=af->t.de.2.most=p.cO/\0<=t.de.2.n/\t.de.2.n<p.cO
 az:∀i,i<3->(t.az i).on=af->(t.az i).dN.most=p.cO/\0<=(t.az i).dN.n/\(t.az i).dN.n<p.cO/\0<=(t.az i).role/\(t.az i).role<=3/\0<=(t.az i).seen.high/\(t.az i).seen.high<=4294967295
structure Inv (c:Core):Prop where
 p:fF c.p
 tok:ny c.p c.aq c.t
 q:ri c.p c.aq c.t.aF c.q
 aq:D4 c.p c.aq
 samples:0<=c.samples/\c.samples<=4294967295
 mode:0<=c.mode/\c.mode<=4
 doors:∀i,i<3->0<=(c.doors i).many
def agX {n m:Int} (h:0<=n) (hm:0<=m) (hn:n<=m):0<=sat n m/\sat n m<=m:=by unfold sat;split<;>omega
def Inv.new {p:aU} (h:fF p):Inv (Core.new p) where
 p:=h
 tok:=⟨by simp[Core.new,Tok.new],by simp[Core.new,Tok.new];exact h.an.2,.inl rfl,.inl ⟨rfl,rfl⟩⟩
 q:=⟨by simp[Core.new],by simp[Core.new],by simp[Core.new];have:=h.queue;omega⟩
 aq:=⟨by simp[Core.new,aN.new],by simp[Core.new,aN.new,gw.zero]⟩
 samples:=by simp[Core.new]
 mode:=h.start
 doors:=by simp[Core.new,eS.zero]
end Sd
namespace Vx
open Go Sx
inductive V where
 |int (k:fH) (n:Int)
 |bool (b:Bool)
 |ptr (i off:Nat)
 |sl (i off len cap:Nat)
 |eW (i off len cap:Nat) (x:Option aI)
 |fn (f:fl) (fs cs:List V)
 |nz (t:aM) (v:V)
 |agg (l:List V)
 |ay (l:List V)
 |cv (k:fH) (n:Nat) (f:Nat->Int)
 |arr (k:fH) (n:Nat) (f:Nat->Int)
 |dO (p:Sd.aU) (ka:Nat->Option aI) (kn kc:Nat->Nat)
 |rest (l:List ai)
 |iD (z n:Nat) (g:Nat->List ai)
 |pe (i o j z k:Nat)
 |raw (v:ai)
def sW (p:Sd.aU) (ka:Nat->Option aI) (kn kc:Nat->Nat):List ai:=(bo 56).map λo=>bif bZ 5 o&&bZ o 8 then .slice (ka (o-5)) (kn (o-5)) (kc (o-5))else .int .i64 (p.i o)
mutual
def da (n:Nat):V->Bool
 |.ptr i _=>db i n
 |.sl i _ _ _=>db i n
 |.eW i _ _ _ _=>db i n
 |.pe i _ _ _ _=>db i n
 |.fn _ a b=>bu n a&&bu n b
 |.nz _ v=>da n v
 |.agg l=>bu n l
 |.ay l=>bu n l
 |_=>af
def bu (n:Nat):List V->Bool
 |[]=>af
 |v::l=>da n v&&bu n l
end
def cl (v:V) (d:ai):List ai:=match v with
 |.cv k n f=>(bo n).map λj=>fI k (f j)
 |.arr k n f=>(bo n).map λj=>fI k (f j)
 |.dO p ka kn kc=>sW p ka kn kc
 |.rest l=>l
 |.iD z n g=>(bo n).flatMap g
 |_=>[d]
mutual
def den (ids:List Nat):V->ai
 |.int k n=>.int k n
 |.bool b=>.bool b
 |.ptr i off=>.pointer (aa ⟨ids.getD i 0,off,ae⟩)
 |.sl i off n c=>.slice (aa ⟨ids.getD i 0,off,ae⟩) n c
 |.eW i off n c x=>.slice (bif aA n 0 then x else aa ⟨ids.getD i 0,off,ae⟩) n c
 |.fn f a b=>.func (.func f) (aE ids a).toArray (aE ids b).toArray
 |.nz t v=>.iface t (den ids v)
 |.agg l=>.agg (ak ids l).toArray
 |.ay l=>.tuple (aE ids l).toArray
 |.cv _ _ _=>undef
 |.arr _ _ _=>undef
 |.dO _ _ _ _=>undef
 |.rest _=>undef
 |.iD _ _ _=>undef
 |.pe i o j z k=>.pointer (aa ⟨ids.getD i 0,o+(j*z+k),ae⟩)
 |.raw v=>v
def aE (ids:List Nat):List V->List ai
 |[]=>[]
 |v::l=>den ids v::aE ids l
def ak (ids:List Nat):List V->List ai
 |[]=>[]
 |v::l=>cl v (den ids v)++ak ids l
end
def rj (ids:List Nat) (l:List V):aE ids l=l.map (den ids):=by
 induction l with
 |nil=>simp[aE]
 |cons v l ih=>simp[aE,ih]
def D5 {ids more:List Nat} {i:Nat} (h:db i ids.length=af):(ids++more).getD i 0=ids.getD i 0:=by
 rw[jt]at h;simp[gd,gm h]
mutual
theorem g_ {ids more:List Nat}:∀(v:V),da ids.length v=af->den (ids++more) v=den ids v
 |.int _ _,_=>by simp[den]
 |.bool _,_=>by simp[den]
 |.ptr i _,h=>by simp only[da]at h;simp only[den,D5 h]
 |.sl i _ _ _,h=>by simp only[da]at h;simp only[den,D5 h]
 |.eW i _ _ _ _,h=>by simp only[da]at h;simp only[den,D5 h]
 |.fn _ a b,h=>by simp only[da,bD]at h;simp only[den,oZ a h.1,oZ b h.2]
 |.nz _ v,h=>by simp only[da]at h;simp only[den,g_ v h]
 |.agg l,h=>by simp only[da]at h;simp only[den,jl l h]
 |.ay l,h=>by simp only[da]at h;simp only[den,oZ l h]
 |.cv _ _ _,_=>by simp[den]
 |.arr _ _ _,_=>by simp[den]
 |.dO _ _ _ _,_=>by simp[den]
 |.rest _,_=>by simp[den]
 |.iD _ _ _,_=>by simp[den]
 |.pe i _ _ _ _,h=>by simp only[da]at h;simp only[den,D5 h]
 |.raw _,_=>by simp[den]
theorem oZ {ids more:List Nat}:∀(l:List V),bu ids.length l=af->aE (ids++more) l=aE ids l
 |[],_=>by simp[aE]
 |v::l,h=>by simp only[bu,bD]at h;simp only[aE,g_ v h.1,oZ l h.2]
theorem jl {ids more:List Nat}:∀(l:List V),bu ids.length l=af->ak (ids++more) l=ak ids l
 |[],_=>by simp[ak]
 |v::l,h=>by
  simp only[bu,bD]at h;simp only[ak,g_ v h.1,jl l h.2]
end
def fU:V:=.raw undef
noncomputable def nth (l:List V):Nat->V:=@List.rec V (λ_=>Nat->V) (λ_=>fU) (λv _ ih n=>@Nat.rec (λ_=>V) v (λm _=>ih m) n) l
noncomputable def ma (l:List V) (n:Nat) (x:V):List V:=@List.rec V (λ_=>Nat->List V) (λ_=>[]) (λv l ih n=>@Nat.rec (λ_=>List V) (x::l) (λm _=>v::ih m) n) l n
def lD (n:Nat):nth [] n=fU:=rfl
def lE (v:V) (l:List V):nth (v::l) 0=v:=rfl
def kX (v:V) (l:List V) (n:Nat):nth (v::l) (n+1)=nth l n:=rfl
def zK (n:Nat) (x:V):ma [] n x=[]:=rfl
def zL (v:V) (l:List V) (x:V):ma (v::l) 0 x=x::l:=rfl
def zM (v:V) (l:List V) (n:Nat) (x:V):ma (v::l) (n+1) x=v::ma l n x:=rfl
def put (fr:List V) (d:Option Tmp) (v:V):List V:=match d with|some t=>ma fr t v|none=>fr
def BI:ai->V
 |.int k n=>.int k n
 |.bool b=>.bool b
 |v=>.raw v
def D6:ai->V
 |.int k n=>.int k n
 |.bool b=>.bool b
 |.agg cs=>.agg (cs.toList.map BI)
 |v=>.raw v
def QD (p:Sd.aU) (ka:Nat->Option aI) (kn kc:Nat->Nat) (o:Nat):V:=
 bif bZ 5 o&&bZ o 8 then .raw (.slice (ka (o-5)) (kn (o-5)) (kc (o-5)))else .int .i64 (p.i o)
def ot:List V->Nat->Option V
 |[],_=>ae
 |v::l,o=>match v with
  |.cv k n f=>bif bZ n o then ot l (o-n)else aa (.int k (f o))
  |.arr k n f=>bif bZ n o then ot l (o-n)else aa (.int k (f o))
  |.dO p ka kn kc=>bif bZ 56 o then ot l (o-56)else aa (QD p ka kn kc o)
  |.rest _=>ae
  |.iD _ _ _=>ae
  |v=>match o with|0=>aa v|o+1=>ot l o
def takeN:List V->Nat->Option (List V×List V)
 |l,0=>aa ([],l)
 |[],_+1=>ae
 |v::l,n+1=>match v with
  |.cv k m f=>bif bZ m (n+1)then(match takeN l (n+1-m)with|some (a,b)=>aa (v::a,b)|none=>ae)
   else aa ([.cv k (n+1) f],.cv k (m-(n+1)) (λj=>f (n+1+j))::l)
  |.arr k m f=>bif bZ m (n+1)then(match takeN l (n+1-m)with|some (a,b)=>aa (v::a,b)|none=>ae)
   else aa ([.arr k (n+1) f],.arr k (m-(n+1)) (λj=>f (n+1+j))::l)
  |.dO .. =>bif bZ 56 (n+1)then(match takeN l (n+1-56)with|some (a,b)=>aa (v::a,b)|none=>ae)else ae
  |.rest _=>ae
  |.iD _ _ _=>ae
  |_=>match takeN l n with|some (a,b)=>aa (v::a,b)|none=>ae
def zN (l:List V) (off n:Nat):Option (List V):=match takeN l off with
 |some (_,r)=>(match takeN r n with|some (a,_)=>aa a|none=>ae)
 |none=>ae
def Lc (l:List V) (off n:Nat) (vs:List V):Option (List V):=match takeN l off with
 |some (a,r)=>(match takeN r n with|some (_,b)=>aa (a++(vs++b))|none=>ae)
 |none=>ae
def Ld:V->Nat
 |.cv _ n _=>n
 |.arr _ n _=>n
 |.dO .. =>56
 |.rest l=>l.length
 |.iD z n g=>((bo n).flatMap g).length
 |_=>1
def cD:List V->Nat
 |[]=>0
 |v::l=>Ld v+cD l
def Le:V->Bool
 |.agg _=>ag
 |.ay _=>ag
 |.rest l=>l.all (·.oneCell')
 |.iD z n g=>((bo n).flatMap g).all (·.oneCell')
 |.raw v=>v.oneCell'
 |_=>af
def nA:List V->Bool
 |[]=>af
 |v::l=>Le v&&nA l
def ky:V->List V
 |.agg l=>l
 |v=>[v]
def rk:V->Bool
 |.cv .. =>ag
 |.arr .. =>ag
 |.dO .. =>ag
 |.rest _=>ag
 |.iD _ _ _=>ag
 |.raw v=>v.oneCell'
 |_=>af
section
variable{ids:List Nat}
def Lf (l:List ai):ak ids (l.map BI)=l:=by
 induction l with
 |nil=>simp[ak]
 |cons v l ih=>cases v<;>simp[ak,cl,BI,den,ih]
def agY (v:ai):den ids (D6 v)=v:=by
 cases v<;>simp[D6,den,Lf]
def zO (fr:List V) (t:Nat):den ids (nth fr t)=(aE ids fr).toArray.getD t undef:=by
 induction fr generalizing t with
 |nil=>simp[lD,lE,kX,aE,fU,den]
 |cons v l ih=>
  cases t with
  |zero=>simp[lD,lE,kX,aE]
  |succ t=>rw[kX,ih];simp[aE,DC]
def Zt (fr:List V) (t:Nat) (x:V):(aE ids (ma fr t x)).toArray=(aE ids fr).toArray.setIfInBounds t (den ids x):=by
 apply fD;simp only[Kx];induction fr generalizing t with
 |nil=>simp[zK,zL,zM,aE]
 |cons v l ih=>cases t<;>simp[zK,zL,zM,aE,ih]
def agZ (p:Sd.aU) (ka:Nat->Option aI) (kn kc:Nat->Nat) {o:Nat} (h:o<56):(sW p ka kn kc)[o]?=aa (den ids (QD p ka kn kc o)):=by
 unfold sW QD;rw[jW,pQ h];simp only[oO];cases bZ 5 o&&bZ o 8<;>simp[den]
def GW (p:Sd.aU) (ka:Nat->Option aI) (kn kc:Nat->Nat):(sW p ka kn kc).length=56:=by simp[sW]
def QE {l:List V} {o:Nat} {v:V} (h:ot l o=aa v):(ak ids l)[o]?=aa (den ids v):=by
 induction l generalizing o with
 |nil=>simp[ot]at h
 |cons a l ih=>
  cases a
  case cv k n f=>
   simp only[ot]at h;simp only[ak,cl];cases hb:bZ n o with
   |true=>
    rw[hb]at h;have:=eO hb;rw[vg (by simpa using this)];simpa using ih h
   |false=>
    rw[hb]at h;have:o<n:=PO λe=>by rw[wG e]at hb;cases hb
    rw[gm (by simpa using this)];simp only[cond_false,aW]at h;subst h;simp[pQ this,den]
  case arr k n f=>
   simp only[ot]at h;simp only[ak,cl];cases hb:bZ n o with
   |true=>
    rw[hb]at h;have:=eO hb;rw[vg (by simpa using this)];simpa using ih h
   |false=>
    rw[hb]at h;have:o<n:=PO λe=>by rw[wG e]at hb;cases hb
    rw[gm (by simpa using this)];simp only[cond_false,aW]at h;subst h;simp[pQ this,den]
  case dO p ka kn kc=>
   simp only[ot]at h;simp only[ak,cl];cases hb:bZ 56 o with
   |true=>
    rw[hb]at h;have:=eO hb;rw[vg (by rw[GW];exact this),GW];simpa using ih h
   |false=>
    rw[hb]at h;have:o<56:=PO λe=>by rw[wG e]at hb;cases hb
    rw[gm (by rw[GW];exact this)];simp only[cond_false,aW]at h;subst h;exact agZ _ _ _ _ this
  case rest=>simp[ot]at h
  case iD=>simp[ot]at h
  all_goals
   cases o with
   |zero=>simp only[ot,aW]at h;subst h;simp[ak,cl]
   |succ o=>simp only[ot]at h;simpa[ak,cl]using ih h
def Zu (k:fH) {m n:Nat} (f:Nat->Int) (h:n<=m):((bo m).map λj=>fI k (f j))=((bo n).map λj=>fI k (f j))++((bo (m-n)).map λj=>fI k (f (n+j))):=by
 obtain⟨d,rfl⟩:=Nat.exists_eq_add_of_le h;rw[List.range_add,tX,l5,af9];rfl
def GY {l a b:List V} {n:Nat} (h:takeN l n=aa (a,b)):ak ids l=ak ids a++ak ids b/\(ak ids a).length=n:=by
 induction l generalizing n a b with
 |nil=>
  cases n with
  |zero=>simp only[takeN,aW,bC]at h;obtain⟨rfl,rfl⟩:=h;simp[ak]
  |succ n=>simp[takeN]at h
 |cons v l ih=>
  cases n with
  |zero=>simp only[takeN,aW,bC]at h;obtain⟨rfl,rfl⟩:=h;simp[ak]
  |succ n=>
   cases v
   case cv k m f=>
    simp only[takeN]at h;cases hb:bZ m (n+1)with
    |true=>
     have hm:=eO hb;rw[hb]at h;simp only[cond_true]at h;split at h
     ·rename_i x y hx;simp only[aW,bC]at h;obtain⟨rfl,rfl⟩:=h;obtain⟨i1,i2⟩:=ih hx;simp[ak,cl,i1,i2];omega
     ·cases h
    |false=>
     have hm:n+1<m:=PO λe=>by rw[wG e]at hb;cases hb
     rw[hb]at h;simp only[cond_false,aW,bC]at h;obtain⟨rfl,rfl⟩:=h;simp only[ak,cl];rw[Zu k f (n:=n+1) oM];simp
   case arr k m f=>
    simp only[takeN]at h;cases hb:bZ m (n+1)with
    |true=>
     have hm:=eO hb;rw[hb]at h;simp only[cond_true]at h;split at h
     ·rename_i x y hx;simp only[aW,bC]at h;obtain⟨rfl,rfl⟩:=h;obtain⟨i1,i2⟩:=ih hx;simp[ak,cl,i1,i2];omega
     ·cases h
    |false=>
     have hm:n+1<m:=PO λe=>by rw[wG e]at hb;cases hb
     rw[hb]at h;simp only[cond_false,aW,bC]at h;obtain⟨rfl,rfl⟩:=h;simp only[ak,cl];rw[Zu k f (n:=n+1) oM];simp
   case dO p ka kn kc=>
    simp only[takeN]at h;cases hb:bZ 56 (n+1)with
    |true=>
     have hm:=eO hb;rw[hb]at h;simp only[cond_true]at h;split at h
     ·rename_i x y hx;simp only[aW,bC]at h;obtain⟨rfl,rfl⟩:=h;obtain⟨i1,i2⟩:=ih hx;simp[ak,cl,i1,i2,GW];omega
     ·cases h
    |false=>rw[hb]at h;simp at h
   case rest=>simp[takeN]at h
   case iD=>simp[takeN]at h
   all_goals
    simp only[takeN]at h;split at h
    ·rename_i x y hx;simp only[aW,bC]at h;obtain⟨rfl,rfl⟩:=h;obtain⟨i1,i2⟩:=ih hx;simp[ak,cl,i1,i2]
    ·cases h
def zP {l c:List V} {off n:Nat} (h:zN l off n=aa c):((ak ids l).drop off).take n=ak ids c/\(ak ids c).length=n/\off+n<=(ak ids l).length:=by
 unfold zN at h;split at h
 ·rename_i a r ha;split at h
  ·rename_i b s hb;simp only[aW]at h;subst h;obtain⟨a1,a2⟩:=GY (ids:=ids) ha;obtain⟨b1,b2⟩:=GY (ids:=ids) hb;refine⟨?_,b2,?_⟩
   ·rw[a1,<-a2,List.drop_left,b1,<-b2,List.take_left]
   ·rw[a1,b1];simp;omega
  ·cases h
 ·cases h
def jK (a b:List V):ak ids (a++b)=ak ids a++ak ids b:=by
 induction a with
 |nil=>simp[ak]
 |cons v l ih=>simp[ak,ih]
def Zv {l c vs:List V} {off n:Nat} (h:Lc l off n vs=aa c):ak ids c=(ak ids l).take off++ak ids vs++(ak ids l).drop (off+n)/\off+n<=(ak ids l).length:=by
 unfold Lc at h;split at h
 ·rename_i a r ha;split at h
  ·rename_i b s hb;simp only[aW]at h;subst h;obtain⟨a1,a2⟩:=GY (ids:=ids) ha;obtain⟨b1,b2⟩:=GY (ids:=ids) hb;refine⟨?_,?_⟩
   ·rw[jK,jK,a1,b1];have e:off+n=(ak ids a++ak ids b).length:=by simp[a2,b2]
    have e2:ak ids a++(ak ids b++ak ids s)=(ak ids a++ak ids b)++ak ids s:=sP;rw[e,e2,List.drop_left,<-e2,<-a2,List.take_left,bW]
   ·rw[a1,b1];simp;omega
  ·cases h
 ·cases h
def lF (l:List V):(ak ids l).length=cD l:=by
 induction l with
 |nil=>simp[ak,cD]
 |cons v l ih=>cases v<;>simp[ak,cl,cD,Ld,ih,GW]<;>omega
def ag0 {p:Sd.aU} {ka:Nat->Option aI} {kn kc:Nat->Nat} {v:ai} (h:v∈sW p ka kn kc):v.oneCell'=af:=by
 unfold sW at h;rw[n8]at h;obtain⟨o,_,rfl⟩:=h;cases bZ 5 o&&bZ o 8<;>rfl
def BJ {l:List V} (h:nA l=af):∀v∈ak ids l,v.oneCell'=af:=by
 induction l with
 |nil=>simp[ak]
 |cons a l ih=>
  simp only[nA,bD]at h;intro v hv;simp only[ak,eI]at hv;rcases hv with hv|hv
  ·unfold cl at hv;cases a
   case cv k n f=>simp at hv;obtain⟨_,_,rfl⟩:=hv;rfl
   case arr k n f=>simp at hv;obtain⟨_,_,rfl⟩:=hv;rfl
   case dO=>exact ag0 hv
   case rest l'=>exact(gQ.1 (by simpa[Le]using h.1)) v hv
   case iD z n g=>
    have h1:((bo n).flatMap g).all (·.oneCell')=af:=h.1;exact gQ.1 h1 v hv
   all_goals (obtain rfl:v=_:=by simpa using hv);first|rfl|(simp[Le]at h;done)|(have:=h.1;simpa[Le,den]using this)
  ·exact ih h.2 v hv
def QI {v:V} (h:rk v=af):(den ids v).cells.toList=ak ids (ky v):=by
 cases v
 case agg l=>simp[den,Yx,ky]
 case raw v=>cases v<;>simp_all[den,Yx,ky,ak,cl,rk,Value.oneCell']
 case cv=>simp[rk]at h
 case arr=>simp[rk]at h
 case dO=>simp[rk]at h
 case rest=>simp[rk]at h
 case iD=>simp[rk]at h
 all_goals simp[den,Yx,ky,ak,cl]
end
def QJ (c:Bool) (a b:V):V:=match a,b with
 |.bool x,.bool y=>.bool (cond c x y)
 |.int k x,.int k' y=>(match decEq k k' with|isTrue _=>.int k (cond c x y)|isFalse _=>(match c with|true=>a|false=>b))
 |a,b=>match c with|true=>a|false=>b
def eo (P:aG) (t:aM):Option Nat:=match P.info? t with|some i=>aa i.size|none=>ae
def GZ (k:fH):List V->Bool
 |[]=>af
 |.int k' (.ofNat 0)::l=>(match decEq k' k with|isTrue _=>GZ k l|isFalse _=>ag)
 |_=>ag
def QK (z:List V):List V:=match z with
 |.int k (.ofNat 0)::l=>bif bZ 63 l.length&&GZ k l then[.arr k (l.length+1) λ_=>0]else z
 |_=>z
def Zw {k:fH} (ids:List Nat):∀{l:List V},GZ k l=af->ak ids l=(bo l.length).map λ_=>fI k 0
 |[],_=>rfl
 |v::l,h=>by
  unfold GZ at h;split at h
  ·rename_i heq;cases heq
  ·rename_i k' l' heq;obtain⟨rfl,rfl⟩:=wI heq;split at h
   ·rename_i hk _;subst hk;rw[jf,tZ,gb,l5];simp only[ak,cl,den,Zw ids h];rfl
   ·cases h
  ·cases h
def QM (ids:List Nat) (z:List V):ak ids (QK z)=ak ids z:=by
 unfold QK;split
 ·rename_i k l;cases hq:bZ 63 l.length&&GZ k l with
  |false=>rfl
  |true=>
   simp only[bD]at hq;simp only[cond_true,ak,cl,den,Zw ids hq.2,cT];rw[tZ,gb,l5];rfl
 ·rfl
def me (P:aG) (t:aM):Option (List V):=match P.info? t with
 |some i=>(match i.zero with|some v=>aa (QK (ky (D6 v)))|none=>ae)
 |none=>ae
def pZ (P:aG) (t:aM):Option Bool:=match P.underlying t with|some d=>aa (jI d)|none=>ae
def QN (op:BinOp) (x y:V):Option V:=match x,y with
 |.int k a,.int k' b=>(match op with
  |.shl=>(match b with|.ofNat n=>aa (.int k (k.wrap (a*2^(min n k.bits))))|_=>ae)
  |.shr=>(match b with|.ofNat n=>aa (.int k (a.fdiv (2^(min n k.bits))))|_=>ae)
  |op=>(match decEq k k' with
   |isFalse _=>ae
   |isTrue _=>(match op with
    |.add=>aa (.int k (k.wrap (a+b)))
    |.sub=>aa (.int k (k.wrap (a-b)))
    |.mul=>aa (.int k (k.wrap (a*b)))
    |.and=>aa (.int k (bits .and k a b))
    |.or=>aa (.int k (bits .or k a b))
    |.xor=>aa (.int k (bits .xor k a b))
    |.rem=>(match b with|.ofNat (n+1)=>aa (.int k (Int.tmod a (.ofNat (n+1))))|_=>ae)
    |.quo=>(match b with|.ofNat (n+1)=>aa (.int k (k.wrap (Int.tdiv a (.ofNat (n+1)))))|_=>ae)
    |.eql=>aa (.bool (a==b))
    |.neq=>aa (.bool (a !=b))
    |.lss=>aa (.bool (decide (a<b)))
    |.leq=>aa (.bool (decide (a<=b)))
    |.gtr=>aa (.bool (decide (a>b)))
    |.geq=>aa (.bool (decide (a>=b)))
    |_=>ae)))
 |_,_=>ae
def QO (op:UnOp) (x:V):Option V:=match op,x with
 |.not,.bool b=>aa (.bool (!b))
 |.neg,.int k n=>aa (.int k (k.wrap (0-n)))
 |.xor,.int k n=>aa (.int k (bits .xor k (bif k.signed then-1 else k.max) n))
 |_,_=>ae
section
variable{ids:List Nat} {P:aG} {w:aj}
def ag1 (c:Bool) (a b:V):den ids (QJ c a b)=if c then den ids a else den ids b:=by
 unfold QJ;split
 ·cases c<;>simp[den]
 ·split
  ·rename_i hk _;cases c<;>simp[den,hk]
  ·cases c<;>rfl
 ·cases c<;>rfl
def ag2 (op:BinOp) (t:aM) (x y:bg) (k k':fH) (a b:Int):(eqGuard op t x y (.int k a) (.int k' b)).run P w=.ok () w:=by
 unfold eqGuard;cases op<;>rfl
def ag3 {op:BinOp} {x y v:V} (h:QN op x y=aa v) (t:aM) (xo yo:bg):
 ((do eqGuard op t xo yo (den ids x) (den ids y);binOp op t (den ids x) (den ids y)):Sem ai).run P w=.ok (den ids v) w:=by
 unfold QN at h;split at h
 ·rename_i k a k' b;simp only[den,bz,ag2,ct];split at h
  ·split at h
   ·rename_i n;simp only[aW]at h;subst h;have h0:¬(dG n<0):=by have:=Bg n;simp only[KB];omega
    simp only[binOp,Op.shift,den,if_neg h0];rfl
   ·cases h
  ·split at h
   ·rename_i n;simp only[aW]at h;subst h;have h0:¬(dG n<0):=by have:=Bg n;simp only[KB];omega
    simp only[binOp,Op.shift,den,if_neg h0];rfl
   ·cases h
  ·rename_i ag4 ag5;split at h
   ·cases h
   ·rename_i hk _;subst hk;cases op<;>simp only[aW]at h<;>first
     |(subst h;simp[binOp,af_,Op.intCmp,Op.intBits,Op.intDiv,den,bits];done)
     |(subst h;simp[binOp,af_,Op.intCmp,Op.intBits,Op.intDiv,den,bits];rfl)
     |(split at h<;>first
       |(simp only[aW]at h
         subst h;rename_i n;have h1:¬((dG (n+1))=0):=by simp only[KB];omega
         simp only[binOp,Op.intDiv,den,if_neg h1,ne_eq,not_true_eq_false,if_false,ite_false];rfl)
       |cases h)
     |cases h
     |(exact absurd rfl ag4)
     |(exact absurd rfl ag5)
 ·cases h
def ag6 {op:UnOp} {x v:V} (h:QO op x=aa v):(Yy op (den ids x)).run P w=.ok (den ids v) w:=by
 unfold QO at h;split at h
 ·simp only[aW]at h;subst h;simp[Yy,den]
 ·simp only[aW]at h;subst h;simp[Yy,af_,den]
 ·simp only[aW]at h;subst h;rename_i k n;cases hk:k.signed<;>simp[Yy,Op.intBits,bits,den,hk]
 ·cases h
end
def zQ (pl:Nat->Option (Nat×Nat)):List V->List (Nat×V)->Option (List V)
 |c,[]=>aa c
 |c,(i,v)::l=>match pl i with
  |some (off,n)=>bif rk v&&aA (cD (ky v)) n then(match Lc c off n (ky v)with|some c'=>zQ pl c' l|none=>ae)else ae
  |none=>ae
def placesOf (P:aG) (fs:Array Field) (i:Nat):Option (Nat×Nat):=match fs[i]?with
 |some f=>(match eo P f.type with|some n=>aa (f.offset,n)|none=>ae)
 |none=>ae
def uo (P:aG) (t:aM) (l:List V) (off:Nat):Option V:=match pZ P t,eo P t with
 |some af,aa n=>(match zN l off n with|some c=>aa (.agg c)|none=>ae)
 |some ag,_=>ot l off
 |_,_=>ae
def Lg (e:bg->V) (ps:Array (Nat×bg)):List (Nat×V):=ps.toList.map λp=>(p.1,e p.2)
def Zx (P:aG) (fs:Array Field):Bool:=fs.toList.all λf=>match eo P f.type with|some _=>af|none=>ag
section
variable{ids:List Nat} {P:aG} {w:aj}
def ag7 (off:Nat):∀(vs:List ai) (cs:Array ai) (k:Nat),off+k+vs.length<=cs.size->
 ((vs.zipIdx k).foldl (λ(cs:Array ai) (x:ai×Nat)=>cs.setIfInBounds (off+x.2) x.1) cs).toList=cs.toList.take (off+k)++vs++cs.toList.drop (off+k+vs.length):=by
 intro vs;induction vs with
 |nil=>intro cs k h;simp
 |cons v l ih=>
  intro cs k h;simp only[jf]at h;simp only[List.zipIdx_cons,Bh];rw[ih _ _ (by simp;omega)];simp only[Kx];have h1:off+k<cs.toList.length:=by simp;omega
  rw[show off+(k+1)=off+k+1 by omega];rw[List.take_set,List.drop_set,if_pos oM,List.take_succ_eq_append_getElem h1,List.set_append_right _ _ (by simp;omega)];simp only[zr,jf];rw[show off+k-min (off+k) cs.toList.length=0 by omega];simp only[List.set_cons_zero,bW,fm,fQ];rw[show off+k+1+l.length=off+k+(l.length+1) by omega]
def QP {pl:Nat->Option (Nat×Nat)} {place:Nat->Option (Nat×Nat)} (hp:∀i x,pl i=aa x->place i=aa x):∀(l:List (Nat×V)) (c c':List V),zQ pl c l=aa c'->
 aga place (ak ids c).toArray (l.map λp=>(p.1,den ids p.2))=aa (ak ids c').toArray:=by
 intro l;induction l with
 |nil=>intro c c' h;simp only[zQ,aW]at h;subst h;simp[aga]
 |cons a l ih=>
  intro c c' h;obtain⟨i,v⟩:=a;simp only[zQ]at h;split at h
  ·rename_i off n hpl;cases hb:rk v&&aA (cD (ky v)) n with
   |false=>rw[hb]at h;simp at h
   |true=>
    rw[hb]at h;simp only[cond_true]at h;simp only[bD]at hb;have dc:cD (ky v)=n:=ck hb.2;split at h
    ·rename_i c1 Lh;obtain⟨s1,s2⟩:=Zv (ids:=ids) Lh;have Zy:=QI (ids:=ids) hb.1;have hlen:(den ids v).cells.size=n:=by rw[<-wF,Zy,lF,dc]
     simp only[gb,aga,hp i _ hpl];have Qg:((decide ((den ids v).cells.size≠n))||decide (off+(den ids v).cells.size>(ak ids c).toArray.size))=ag:=by
      simp[hlen];omega
     rw[if_neg (by simp only[ne_eq,Dz,decide_eq_true_eq];simp[hlen];omega)];have key:(den ids v).cells.zipIdx.foldl (λ(cs:Array ai) (x:ai×Nat)=>cs.setIfInBounds (off+x.2) x.1) (ak ids c).toArray=(ak ids c1).toArray:=by
      apply fD;rw[<-Array.foldl_toList,Array.toList_zipIdx,ag7 off _ _ 0 (by simp[hlen];omega)];rw[Zy,s1];simp[lF,dc]
     rw[key];exact ih _ _ h
    ·cases h
  ·cases h
def G0 {t:aM} {i:TypeInfo} (h:P.info? t=aa i):(typeInfo t).run P w=.ok i w:=by simp[typeInfo,h]
def gi {t:aM} {n:Nat} (h:eo P t=aa n):(pN t).run P w=.ok n w:=by
 unfold eo at h;split at h
 ·rename_i i hi;simp only[aW]at h;simp[pN,bz,G0 hi,h]
 ·cases h
def BK {t:aM} {z:List V} (h:me P t=aa z):∃v,(zeroValue t).run P w=.ok v w/\v.cells.toList=ak ids z:=by
 unfold me at h;split at h
 ·rename_i i hi;split at h
  ·rename_i v hv;simp only[aW]at h;subst h;refine⟨v,by simp[zeroValue,bz,G0 hi,hv],?_⟩;rw[QM];cases v<;>simp[Yx,D6,ky,ak,cl,den,Lf]
  ·cases h
 ·cases h
def Zz {t:aM} {b:Bool} (h:pZ P t=aa b):(isAgg t).run P w=.ok b w:=by
 unfold pZ at h;split at h
 ·rename_i d hd;simp only[aW]at h;exact Bn (by rw[hd];simp[h]) w
 ·cases h
def QQ {t:aM} {l:List V} {off:Nat} {v:V} (h:uo P t l off=aa v):(part t (ak ids l).toArray off).run P w=.ok (den ids v) w:=by
 unfold uo at h;split at h
 ·rename_i n ha hn;split at h
  ·rename_i c hc;simp only[aW]at h;subst h;obtain⟨g1,g2,g3⟩:=zP (ids:=ids) hc;simp only[part,bz,Zz ha,ct,if_pos,gi hn,cZ];simp only[den];congr 2;apply fD;simp[Array.toList_extract,List.extract,g1]
  ·cases h
 ·rename_i ha;have:=QE (ids:=ids) h;simp only[part,bz,Zz ha,ct,Bool.false_eq_true,if_false];simp[this]
 ·cases h
def ag8 {fs:List Field} (h:∀f∈fs,∃n,eo P f.type=aa n):(fs.mapM λ(f:Field)=>(do pure (f.offset,<-pN f.type):Sem (Nat×Nat))).run P w=.ok (fs.map λf=>(f.offset,(eo P f.type).getD 0)) w:=by
 induction fs with
 |nil=>rfl
 |cons f l ih=>
  obtain⟨n,hn⟩:=h f sP;have:=ih (λf hf=>h f (by simp[hf]));simp only[List.mapM_cons,bz,gi hn,ct,cZ,this,gb,hn,Yt]
end
def D7 (P:aG) (t:aM) (x y:V):Option Bool:=match P.underlying t,x,y with
 |some .bool,.bool a,.bool b=>aa (a==b)
 |some (.pointer _),.ptr _ _,.raw (.pointer ae)=>aa ag
 |some (.pointer _),.raw (.pointer ae),.ptr _ _=>aa ag
 |some (.pointer _),.raw (.pointer ae),.raw (.pointer ae)=>aa af
 |some (.pointer _),.raw (.pointer (aa _)),.raw (.pointer ae)=>aa ag
 |some (.slice _),.sl _ _ _ _,.raw (.slice ae _ _)=>aa ag
 |some (.slice _),.raw (.slice (aa _) _ _),.raw (.slice ae _ _)=>aa ag
 |some (.slice _),.raw (.slice ae _ _),.raw (.slice ae _ _)=>aa af
 |_,.agg a,.agg b=>bif(bu 0 a&&bu 0 b)&&!(P.eqGuardType P.depth t)then zC P 10000 t (.agg (ak [] a).toArray) (.agg (ak [] b).toArray)else ae
 |_,_,_=>ae
def QU (P:aG) (op:BinOp) (t:aM) (x y:V):Option V:=match QN op x y with
 |some v=>aa v
 |none=>match op with
  |.eql=>(match D7 P t x y with|some r=>aa (.bool r)|none=>ae)
  |.neq=>(match D7 P t x y with|some r=>aa (.bool (!r))|none=>ae)
  |_=>ae
def Li (v:V):Option V:=match v with
 |.ptr i o=>aa (.ptr i o)
 |.fn f a b=>aa (.fn f a b)
 |.pe i o j z k=>aa (.pe i o j z k)
 |.raw (.pointer (aa a))=>aa (.raw (.pointer (aa a)))
 |_=>ae
def QW (P:aG) (t:aM) (x ix:V):Option V:=match P.underlying t,x,ix with
 |some (.array n el),.ptr i off,.int _ (.ofNat j)=>bif db j n then(match eo P el with|some z=>aa (.ptr i (off+j*z))|none=>ae)else ae
 |some (.slice el),.sl i off n _,.int _ (.ofNat j)=>bif db j n then(match eo P el with|some z=>aa (.ptr i (off+j*z))|none=>ae)else ae
 |_,_,_=>ae
def QX (P:aG) (s:aM) (x:V) (f:Nat):Option V:=match P.underlying s,x with
 |some (.struct fs),.ptr i off=>(match fs[f]?with
  |some fd=>(match eo P fd.type with|some (_+1)=>aa (.ptr i (off+fd.offset))|_=>ae)
  |none=>ae)
 |some (.struct fs),.pe i o j z k=>(match fs[f]?with
  |some fd=>(match eo P fd.type with|some (_+1)=>aa (.pe i o j z (k+fd.offset))|_=>ae)
  |none=>ae)
 |_,_=>ae
def QY (P:aG) (t:aM) (ps:List (Nat×V)):Option V:=match P.underlying t,me P t with
 |some (.struct fs),aa z=>bif Zx P fs then(match zQ (placesOf P fs) z ps with|some c=>aa (.agg c)|none=>ae)else ae
 |some (.array _ el),aa z=>(match eo P el with|some n=>(match zQ (λi=>aa (i*n,n)) z ps with|some c=>aa (.agg c)|none=>ae)|none=>ae)
 |_,_=>ae
def QZ (P:aG) (t:aM) (x:V):Option V:=match P.underlying t,x with
 |some (.slice _),.sl _ _ n _=>aa (.int .i64 (n:Int))
 |some (.slice _),.eW _ _ n _ _=>aa (.int .i64 (n:Int))
 |some (.slice _),.raw (.slice _ n _)=>aa (.int .i64 (n:Int))
 |some (.array n _),_=>aa (.int .i64 (n:Int))
 |_,_=>ae
def xd (x:V) (y:Nat):Option Nat:=match x with
 |.int _ (.ofNat i)=>bif bZ i y then aa i else ae
 |_=>ae
def rq (e:bg->V) (o:Option bg) (y d:Nat):Option Nat:=match o with
 |some x=>xd (e x) y
 |none=>aa d
def Q0 (P:aG) (e:bg->V) (t:aM) (x:V) (lo hi:Option bg):Option V:=match P.underlying t,x with
 |some (.slice el),.sl i off n c=>(match rq e hi c n,eo P el with
  |some h,aa z=>(match rq e lo h 0 with
   |some l=>aa (.sl i (bif aA c l then off else off+l*z) (h-l) (c-l))
   |none=>ae)
  |_,_=>ae)
 |some (.pointer arr),.ptr i off=>(match P.underlying arr with
  |some (.array n el)=>(match rq e hi n n,eo P el with
   |some h,aa z=>(match rq e lo h 0 with
    |some l=>aa (.sl i (bif aA n l then off else off+l*z) (h-l) (n-l))
    |none=>ae)
   |_,_=>ae)
  |_=>ae)
 |some (.array n el),.ptr i off=>(match rq e hi n n,eo P el with
  |some h,aa z=>(match rq e lo h 0 with
   |some l=>aa (.sl i (bif aA n l then off else off+l*z) (h-l) (n-l))
   |none=>ae)
  |_,_=>ae)
 |_,_=>ae
def Q3 (P:aG) (e:bg->V) (t:aM) (x:V) (lo:Option bg) (hi mx:bg):Option V:=match P.underlying t,x with
 |some (.pointer arr),.ptr i off=>(match P.underlying arr with
  |some (.array n el)=>(match xd (e mx) n,eo P el with
   |some m,aa z=>(match xd (e hi) m with
    |some h=>(match rq e lo h 0 with
     |some l=>aa (.sl i (bif aA m l then off else off+l*z) (h-l) (m-l))
     |none=>ae)
    |none=>ae)
   |_,_=>ae)
  |_=>ae)
 |some (.array n el),.ptr i off=>(match xd (e mx) n,eo P el with
  |some m,aa z=>(match xd (e hi) m with
   |some h=>(match rq e lo h 0 with
    |some l=>aa (.sl i (bif aA m l then off else off+l*z) (h-l) (m-l))
    |none=>ae)
   |none=>ae)
  |_,_=>ae)
 |_,_=>ae
def ZA (x y:V):Option V:=match x,y with
 |.int k a,.int _ b=>aa (.int k (if b<a then b else a))
 |_,_=>ae
def ZB (x y:V):Option V:=match x,y with
 |.int k a,.int _ b=>aa (.int k (if b>a then b else a))
 |_,_=>ae
def Q4 (P:aG) (arr:aM) (x:V):Option V:=match P.underlying arr,x with
 |some (.array n _),.sl i off len c=>bif bZ n len then aa (.ptr i off)else ae
 |_,_=>ae
def Lj:BinOp->bg->Bool
 |.rem,.const (.int .i64 (.ofNat 3))=>af
 |_,_=>ag
def BL (P:aG) (e:bg->V):Op->Option V
 |.move x=>aa (e x)
 |.assign x=>aa (e x)
 |.pick c a b=>(match e c with|.bool c=>aa (QJ c (e a) (e b))|_=>ae)
 |.nilCheck x=>Li (e x)
 |.binOp op t x y _=>bif Lj op y then ae else QU P op t (e x) (e y)
 |.unOp op _ x=>QO op (e x)
 |.convert s d x=>(match P.underlying s,P.underlying d,e x with|some _,aa (.int k),.int _ n=>aa (.int k (k.wrap n))|_,_,_=>ae)
 |.makeFunc (.func f) a b=>aa (.fn f (a.toList.map e) (b.toList.map e))
 |.makeInterface t x=>(match P.underlying t with|some (.interface _)=>ae|some _=>aa (.nz t (e x))|none=>ae)
 |.build t ps=>QY P t (Lg e ps)
 |.fieldAddr s x f=>QX P s (e x) f
 |.field s x f=>(match P.underlying s,e x with
  |some (.struct fs),.agg l=>(match fs[f]?with|some fd=>uo P fd.type l fd.offset|none=>ae)
  |_,_=>ae)
 |.indexAddr t x ix=>QW P t (e x) (e ix)
 |.index t x ix=>(match P.underlying t,e x,e ix with
  |some (.array n el),.agg l,.int _ (.ofNat j)=>bif db j n then(match eo P el with|some z=>uo P el l (j*z)|none=>ae)else ae
  |some .string,.raw (.string s),.int _ (.ofNat j)=>(match s[j]?with|some b=>aa (.int .u8 b.toNat)|none=>ae)
  |_,_,_=>ae)
 |.extract x i=>(match e x with|.ay l=>(match l[i]?with|some v=>aa v|none=>ae)|_=>ae)
 |.call c=>(match c.callee,c.args.toList,c.argTypes.toList with
  |.builtin .len,[x],t::_=>QZ P t (e x)
  |.builtin .min,[x,y],_=>ZA (e x) (e y)
  |.builtin .max,[x,y],_=>ZB (e x) (e y)
  |_,_,_=>ae)
 |.slice t x lo hi ae=>Q0 P e t (e x) lo hi
 |.slice t x lo (aa hi) (aa mx)=>Q3 P e t (e x) lo hi mx
 |.sliceToArrayPointer arr x=>Q4 P arr (e x)
 |_=>ae
section
variable{ids:List Nat} {P:aG} {w:aj} {e:bg->V} {ρ:bg->ai}
def ZC {t:aM} {x y:V} {r:Bool} (h:D7 P t x y=aa r) (xo yo:bg) (op:BinOp) (jm:op=.eql\/op=.neq):
 (eqGuard op t xo yo (den ids x) (den ids y)).run P w=.ok () w/\(Yz t (den ids x) (den ids y)).run P w=.ok r w:=by
 have g0:∀(a b:ai),(∀x,a≠.agg x)->(a≠.nilIface)->(eqGuard op t xo yo a b).run P w=.ok () w:=by
  intro a b h1 h2;unfold eqGuard;rcases jm with rfl|rfl<;>(cases a<;>first|rfl|(exact absurd rfl h2)|(exact absurd rfl (h1 _)))
 unfold D7 at h;split at h
 case h_9=>
  rename_i a b;cases hb:(bu 0 a&&bu 0 b)&&!(P.eqGuardType P.depth t)with
  |false=>rw[hb]at h;simp at h
  |true=>
   rw[hb]at h;simp only[cond_true]at h;simp only[bD,n7]at hb;have ha:ak ids a=ak [] a:=by have:=jl (ids:=[]) (more:=ids) a hb.1.1;simpa using this
   have w8:ak ids b=ak [] b:=by have:=jl (ids:=[]) (more:=ids) b hb.1.2;simpa using this
   refine⟨?_,?_⟩
   ·simp only[den];unfold eqGuard;rcases jm with rfl|rfl<;>simp[hb.2]
   ·have:=KX 10000 t _ _ r h w;simp only[den,ha,w8];exact this
 all_goals first
  |(rename_i hu
    simp only[aW]at h;subst h;refine⟨g0 _ _ (by intro x;simp[den]) (by simp[den]),?_⟩;simp only[den];unfold Yz Op.maxDepth Op.equalIn;simp[bz,dw hu]
    done)
  |cases h
def ZD {t:aM} {x y:V} {r:Bool} (h:D7 P t x y=aa r):(∃b,den ids x=.bool b)\/(∃b,den ids x=.pointer b/\∃c,den ids y=.pointer c)\/(∃b n c,den ids x=.slice b n c)\/(∃b,den ids x=.agg b):=by
 unfold D7 at h;split at h<;>first|(exact .inl ⟨_,by simp only[den];rfl⟩)|(exact .inr (.inl ⟨_,by simp only[den];rfl,_,by simp only[den];rfl⟩))|(exact .inr (.inr (.inl ⟨_,_,_,by simp only[den];rfl⟩)))|(exact .inr (.inr (.inr ⟨_,by simp only[den];rfl⟩)))|cases h
def ag9 {op:BinOp} {t:aM} {x y v:V} (h:QU P op t x y=aa v) (xo yo:bg):
 ((do eqGuard op t xo yo (den ids x) (den ids y);binOp op t (den ids x) (den ids y)):Sem ai).run P w=.ok (den ids v) w:=by
 unfold QU at h;split at h
 ·rename_i v' hv;simp only[aW]at h;subst h;exact ag3 hv t xo yo
 ·split at h
  ·split at h
   ·rename_i r hr;simp only[aW]at h;subst h;obtain⟨h1,h2⟩:=ZC (ids:=ids) (w:=w) hr xo yo .eql (.inl rfl);simp only[bz,h1,ct];have h3:binOp .eql t (den ids x) (den ids y)=(do pure (.bool (<-Yz t (den ids x) (den ids y)))):=by
     rcases ZD (ids:=ids) hr with⟨b,hb⟩|⟨b,hb,c,hc⟩|⟨b,n,c,hb⟩|⟨b,hb⟩
     ·rw[hb];rfl
     ·rw[hb,hc];rfl
     ·rw[hb];rfl
     ·rw[hb];rfl
    rw[h3];simp[bz,h2,den]
   ·cases h
  ·split at h
   ·rename_i r hr;simp only[aW]at h;subst h;obtain⟨h1,h2⟩:=ZC (ids:=ids) (w:=w) hr xo yo .neq (.inr rfl);simp only[bz,h1,ct];have h3:binOp .neq t (den ids x) (den ids y)=(do pure (.bool (!(<-Yz t (den ids x) (den ids y))))):=by
     rcases ZD (ids:=ids) hr with⟨b,hb⟩|⟨b,hb,c,hc⟩|⟨b,n,c,hb⟩|⟨b,hb⟩
     ·rw[hb];rfl
     ·rw[hb,hc];rfl
     ·rw[hb];rfl
     ·rw[hb];rfl
    rw[h3];simp[bz,h2,den]
   ·cases h
  ·cases h
def ag_ {x v:V} (h:Li x=aa v):v=x/\(∀(f:ai->Sem Next) (g:Sem Next),(match den ids x with
 |.pointer ae|.nilIface|.nilFunc=>g
 |x=>f x)=f (den ids x)):=by
 unfold Li at h;split at h<;>first|(simp only[aW]at h;subst h;exact⟨rfl,λf g=>by simp[den]⟩)|cases h
def sY (b off k:Nat):(⟨b,off,ae⟩:aI).add k=⟨b,off+k,ae⟩:=by unfold qJ;split<;>simp_all
def aha {t:aM} {x ix v:V} (h:QW P t x ix=aa v):(tT t (den ids x) (den ids ix)).run P w=.ok (den ids v) w:=by
 unfold QW at h;split at h
 ·rename_i n el i off k j hu;cases hb:db j n with
  |false=>rw[hb]at h;simp at h
  |true=>
   rw[hb]at h;simp only[cond_true]at h;have hj:j<n:=by rw[jt]at hb;exact hb
   split at h
   ·rename_i z hz;simp only[aW]at h;subst h;have h1:(0:Int)<=dG j/\dG j<(n:Int):=by simp only[KB];omega
    simp only[tT,den,asIntOf,iY,bz,cZ,ct,dw hu];rw[if_pos h1];simp[bz,gi hz,sY]
   ·cases h
 ·rename_i el i off n c k j hu;cases hb:db j n with
  |false=>rw[hb]at h;simp at h
  |true=>
   rw[hb]at h;simp only[cond_true]at h;have hj:j<n:=by rw[jt]at hb;exact hb
   split at h
   ·rename_i z hz;simp only[aW]at h;subst h;have h1:(0:Int)<=dG j/\dG j<(n:Int):=by simp only[KB];omega
    simp only[tT,den,asIntOf,bz,cZ,ct,dw hu];rw[if_pos h1];simp[bz,gi hz,sY]
   ·cases h
 ·cases h
def ahb {s:aM} {x v:V} {f:Nat} (h:QX P s x f=aa v):(agb s (den ids x) f).run P w=.ok (den ids v) w:=by
 unfold QX at h;split at h
 ·rename_i fs i off hu;split at h
  ·rename_i fd G2;split at h
   ·rename_i n hn;simp only[aW]at h;subst h;simp[agb,iY,den,bz,dw hu,G2,fieldPlace,gi hn,sY]
   ·cases h
  ·cases h
 ·rename_i fs i j z k hu;split at h
  ·rename_i fd G2;split at h
   ·rename_i n hn;simp only[aW]at h;subst h;simp[agb,iY,den,bz,dw hu,G2,fieldPlace,gi hn,sY,tY]
   ·cases h
  ·cases h
 ·cases h
def ahc {t:aM} {ps:List (Nat×V)} {v:V} (h:QY P t ps=aa v):(agc t (ps.map λp=>(p.1,den ids p.2)).toArray).run P w=.ok (den ids v) w:=by
 unfold QY at h;split at h
 ·rename_i fs z hu hz;cases hk:Zx P fs with
  |false=>rw[hk]at h;simp at h
  |true=>
   rw[hk]at h;simp only[cond_true]at h;split at h
   ·rename_i c hc;simp only[aW]at h;subst h;obtain⟨v0,z1,z2⟩:=BK (P:=P) (w:=w) (ids:=ids) hz;have hm:=ag8 (P:=P) (w:=w) (fs:=fs.toList) (λf hf=>by
     have:=(gQ.1 hk) f hf;split at this
     ·rename_i n hn;exact⟨n,hn⟩
     ·cases this)
    have uq:(fs.mapM λ(f:Field)=>(do pure (f.offset,<-pN f.type):Sem (Nat×Nat))).run P w=.ok (fs.toList.map λf=>(f.offset,(eo P f.type).getD 0)).toArray w:=by
     have e:fs=fs.toList.toArray:=sP;rw[e,List.mapM_toArray];simp only[Sem.run_map,hm,ct]
    have hf:=QP (ids:=ids) (place:=λi=>((fs.toList.map λf=>(f.offset,(eo P f.type).getD 0)).toArray)[i]?) (λi x hx=>by
     unfold placesOf at hx;split at hx
     ·rename_i f hf;split at hx
      ·rename_i n hn;simp only[aW]at hx;subst hx;simp[hf,hn]
      ·cases hx
     ·cases hx) ps z c hc
    have BM:v0.cells=(ak ids z).toArray:=by apply fD;simpa using z2
    simp only[agc,bz,z1,ct,dw hu,uq,BM];simp only[den];rw[hf];rfl
   ·cases h
 ·rename_i n el z hu hz;split at h
  ·rename_i m hm;split at h
   ·rename_i c hc;simp only[aW]at h;subst h;obtain⟨v0,z1,z2⟩:=BK (P:=P) (w:=w) (ids:=ids) hz;have hf:=QP (ids:=ids) (place:=λi=>aa (i*m,m)) (λi x hx=>hx) ps z c hc;have BM:v0.cells=(ak ids z).toArray:=by apply fD;simpa using z2
    simp only[agc,bz,z1,ct,dw hu,gi hm,BM];simp only[den];rw[hf];rfl
   ·cases h
  ·cases h
 ·cases h
end
section
variable{ids:List Nat} {P:aG} {w:aj} {e:bg->V} {ρ:bg->ai}
def ahd {t:aM} {x v:V} (h:QZ P t x=aa v) (ty:aM) (ts:Array aM) (ht:ts[0]?=aa t):(Builtin.len_ ts ty #[den ids x]).run P w=.ok (den ids v) w:=by
 unfold QZ at h;split at h<;>first
  |(rename_i hu
    simp only[aW]at h;subst h;simp[Builtin.len_,ht,bz,dw hu,den,goInt]
    done)
  |cases h
def ZE (ps:Array (Nat×bg)) (bd:∀x,ρ x=den ids (e x)):(ps.map λ(p:Nat×bg)=>(p.1,ρ p.2))=((Lg e ps).map λp=>(p.1,den ids p.2)).toArray:=by
 apply fD;simp[Lg,bd]
def ahe (l:List bg) (bd:∀x,ρ x=den ids (e x)):aE ids (l.map e)=l.map ρ:=by
 rw[rj,l5];apply ni;intro x _;exact(bd x).symm
def D8 {x:V} {y i:Nat} (code:BoundsCode) (h:xd x y=aa i):(oP (den ids x) y code).run P w=.ok i w/\i<=y:=by
 unfold xd at h;split at h
 ·rename_i k j;cases hb:bZ j y with
  |false=>rw[hb]at h;cases h
  |true=>
   rw[hb]at h;obtain rfl:j=i:=by simpa using h
   have hle:=eO hb;refine⟨?_,hle⟩;have h2:(0:Int)<=dG j/\dG j<=(y:Int):=⟨Bg j,Int.ofNat_le.2 hle⟩;simp only[oP,den,asIntOf,bz,cZ,ct,if_pos h2];rfl
 ·cases h
def Q5 (bd:∀x,ρ x=den ids (e x)) {lo hi:Option bg} {len cap h l:Nat} (b:Bool) (h1:rq e hi cap len=aa h) (h2:rq e lo h 0=aa l):
 (qP b len cap (lo.map ρ) (hi.map ρ) ae).run P w=.ok (l,h,cap) w:=by
 unfold rq at h1 h2;cases hi with
 |none=>
  obtain rfl:len=h:=by simpa using h1
  cases lo with
  |none=>
   obtain rfl:0=l:=by simpa using h2
   simp[qP,je]
  |some x=>
   have:=D8 (P:=P) (ids:=ids) (w:=w) .sliceB h2;simp[qP,je,bd,this.1]
 |some y=>
  have a1:=λc=>(D8 (P:=P) (ids:=ids) (w:=w) c h1).1;cases lo with
  |none=>
   obtain rfl:0=l:=by simpa using h2
   simp[qP,je,bd,a1]
  |some x=>
   have:=D8 (P:=P) (ids:=ids) (w:=w) .sliceB h2;simp[qP,je,bd,this.1,a1]
def ahf (bd:∀x,ρ x=den ids (e x)) {t:aM} {x:bg} {lo hi:Option bg} {v:V} (h:Q0 P e t (e x) lo hi=aa v):(qO t (ρ x) (lo.map ρ) (hi.map ρ) ae).run P w=.ok (den ids v) w:=by
 unfold Q0 at h;have fin:∀(c l off z i:Nat),(if c=l then(⟨ids.getD i 0,off,ae⟩:aI)else qJ ⟨ids.getD i 0,off,ae⟩ (l*z))=⟨ids.getD i 0,bif aA c l then off else off+l*z,ae⟩:=by
  intro c l off z i;by_cases hc:c=l
  ·subst hc;simp
  ·have:aA c l=ag:=by
    cases hb:aA c l with
    |true=>exact absurd (ck hb) hc
    |false=>rfl
   rw[if_neg hc,this,iK];rfl
 split at h
 ·rename_i el i off n c hu hx;split at h
  ·rename_i hh z h1 hz;split at h
   ·rename_i l h2;obtain rfl:=cG h;have hb:=Q5 (P:=P) (w:=w) bd af h1 h2;have hs:=gi (P:=P) (w:=w) hz;have:=fin c l off z i;simp only[den,<-this];have run:(qO t (ρ x) (lo.map ρ) (hi.map ρ) ae).run P w=.ok (.slice (if c=l then aa ⟨ids.getD i 0,off,ae⟩else aa (qJ ⟨ids.getD i 0,off,ae⟩ (l*z))) (hh-l) (c-l)) w:=by
     simp[qO,zx,dw hu,bd,hx,den,hb,hs,je]
    rw[run];by_cases hc:c=l
    ·rw[if_pos hc,if_pos hc]
    ·rw[if_neg hc,if_neg hc]
   ·cases h
  ·cases h
 ·rename_i arr i off hu hx;split at h
  ·rename_i n el Q6;split at h
   ·rename_i hh z h1 hz;split at h
    ·rename_i l h2;obtain rfl:=cG h;have hb:=Q5 (P:=P) (w:=w) bd ag h1 h2;have hs:=gi (P:=P) (w:=w) hz;have:=fin n l off z i;simp only[den,<-this];simp[qO,zx,dw hu,dw Q6,asAddr,bd,hx,den,hb,hs,je]
    ·cases h
   ·cases h
  ·cases h
 ·rename_i n el i off hu hx;split at h
  ·rename_i hh z h1 hz;split at h
   ·rename_i l h2;obtain rfl:=cG h;have hb:=Q5 (P:=P) (w:=w) bd ag h1 h2;have hs:=gi (P:=P) (w:=w) hz;have:=fin n l off z i;simp only[den,<-this];simp[qO,iY,dw hu,bd,hx,den,hb,hs,je]
   ·cases h
  ·cases h
 ·cases h
def ZF (bd:∀x,ρ x=den ids (e x)) {lo:Option bg} {hi mx:bg} {len cap m h l:Nat} (b:Bool) (h0:xd (e mx) cap=aa m) (h1:xd (e hi) m=aa h) (h2:rq e lo h 0=aa l):
 (qP b len cap (lo.map ρ) (aa (ρ hi)) (aa (ρ mx))).run P w=.ok (l,h,m) w:=by
 have a0:=λc=>(D8 (P:=P) (ids:=ids) (w:=w) c h0).1;have a1:=λc=>(D8 (P:=P) (ids:=ids) (w:=w) c h1).1;unfold rq at h2;cases lo with
 |none=>
  obtain rfl:0=l:=by simpa using h2
  simp[qP,je,bd,a0,a1]
 |some x=>
  have:=λc=>(D8 (P:=P) (ids:=ids) (w:=w) c h2).1;simp[qP,je,bd,a0,a1,this]
def ahg (bd:∀x,ρ x=den ids (e x)) {t:aM} {x:bg} {lo:Option bg} {hi mx:bg} {v:V} (h:Q3 P e t (e x) lo hi mx=aa v):(qO t (ρ x) (lo.map ρ) (aa (ρ hi)) (aa (ρ mx))).run P w=.ok (den ids v) w:=by
 unfold Q3 at h;have fin:∀(c l off z i:Nat),(if c=l then(⟨ids.getD i 0,off,ae⟩:aI)else qJ ⟨ids.getD i 0,off,ae⟩ (l*z))=⟨ids.getD i 0,bif aA c l then off else off+l*z,ae⟩:=by
  intro c l off z i;by_cases hc:c=l
  ·subst hc;simp
  ·have:aA c l=ag:=by
    cases hb:aA c l with
    |true=>exact absurd (ck hb) hc
    |false=>rfl
   rw[if_neg hc,this,iK];rfl
 split at h
 ·rename_i arr i off hu hx;split at h
  ·rename_i n el Q6;split at h
   ·rename_i m z h0 hz;split at h
    ·rename_i hh h1;split at h
     ·rename_i l h2;obtain rfl:=cG h;have hb:=ZF (P:=P) (w:=w) (len:=n) bd ag h0 h1 h2;have hs:=gi (P:=P) (w:=w) hz;have:=fin m l off z i;simp only[den,<-this];simp[qO,zx,dw hu,dw Q6,asAddr,bd,hx,den,hs,je]at hb⊢;simp[hb,hs]
     ·cases h
    ·cases h
   ·cases h
  ·cases h
 ·rename_i n el i off hu hx;split at h
  ·rename_i m z h0 hz;split at h
   ·rename_i hh h1;split at h
    ·rename_i l h2;obtain rfl:=cG h;have hb:=ZF (P:=P) (w:=w) (len:=n) bd ag h0 h1 h2;have hs:=gi (P:=P) (w:=w) hz;have:=fin m l off z i;simp only[den,<-this];simp[qO,iY,dw hu,bd,hx,den,hs,je]at hb⊢;simp[hb,hs]
    ·cases h
   ·cases h
  ·cases h
 ·cases h
def ahh {arr:aM} {x v:V} (h:Q4 P arr x=aa v):(Instr.arrayAt arr (den ids x)).run P w=.ok (den ids v) w:=by
 unfold Q4 at h;split at h
 ·rename_i n el i off len c hu;cases hq:bZ n len with
  |false=>rw[hq]at h;cases h
  |true=>
   rw[hq]at h;obtain rfl:=cG h;have hle:=eO hq;simp[Instr.arrayAt,dw hu,den,je,Nat.not_lt.2 hle]
 ·cases h
def ZG (bd:∀x,ρ x=den ids (e x)) (o:aw) (v:V) (h:BL P e o.op=aa v):(execOp ρ o).run P w=.ok (.value (den ids v)) w:=by
 unfold execOp;unfold BL at h;split at h
 ·rename_i x ho;simp only[aW]at h;subst h;simp[ho,bd]
 ·rename_i x ho;simp only[aW]at h;subst h;simp[ho,bd]
 ·rename_i c a b ho;split at h
  ·rename_i cb hc;simp only[aW]at h;subst h;simp only[ho,bd,hc,den,asBool,bz,cZ,ct,ag1]
  ·cases h
 ·rename_i x ho;obtain⟨rfl,hk⟩:=ag_ (ids:=ids) h;simp only[ho,bd];unfold Li at h;split at h<;>first|(simp_all[den];done)|cases h
 ·rename_i op t x y yt ho;cases hr:Lj op y with
  |true=>rw[hr]at h;cases h
  |false=>
   rw[hr]at h;simp only[cond_false]at h;simp only[ho,bd];rw[bz,ag9 h];rfl
 ·rename_i op t x ho;simp only[ho,bd];rw[bz,ag6 h];rfl
 ·rename_i s d x ho;split at h
  ·rename_i d' k n hs hd hx;simp only[aW]at h;subst h;simp[ho,bd,hx,den,convert,bz,dw hs,dw hd,Conv.intToInt]
  ·cases h
 ·rename_i f a b ho;simp only[aW]at h;subst h;simp only[ho,Instr.makeFunc,den,ahe _ bd,bz,cZ,ct];rw[show a.map ρ=(a.toList.map ρ).toArray from by apply fD;simp,show b.map ρ=(b.toList.map ρ).toArray from by apply fD;simp]
 ·rename_i t x ho;split at h
  ·cases h
  ·rename_i d hd hu;simp only[aW]at h;subst h;simp only[ho,bd,Instr.makeInterface,bz,dw hu,ct];cases d<;>first|(simp[den];done)|(exact absurd rfl (hd _))
  ·cases h
 ·rename_i t ps ho;try simp only[ho]
  rw[bz];have:=ahc (ids:=ids) (w:=w) h;rw[show(ps.map λ(x:Nat×bg)=>match x with|(i,x)=>(i,ρ x))=(ps.map λ(p:Nat×bg)=>(p.1,ρ p.2))from rfl,ZE ps bd,this];rfl
 ·rename_i s x f ho;simp only[ho,bd];rw[bz,ahb h];rfl
 ·rename_i s x f ho;split at h
  ·rename_i fs l hu hx;split at h
   ·rename_i fd G2;simp only[ho,bd,hx,den,Instr.field,bz,dw hu,ct,G2,asAgg,cZ,QQ h]
   ·cases h
  ·cases h
 ·rename_i t x ix ho;simp only[ho,bd];rw[bz,aha h];rfl
 ·rename_i t x ix ho;split at h
  ·rename_i n el l k j hu hx ij;cases hb:db j n with
   |false=>rw[hb]at h;simp at h
   |true=>
    rw[hb]at h;simp only[cond_true]at h;have hj:j<n:=by rw[jt]at hb;exact hb
    split at h
    ·rename_i z hz;have h1:(0:Int)<=dG j/\dG j<(n:Int):=by simp only[KB];omega
     simp only[ho,bd,hx,ij,den,Instr.index,asIntOf,bz,cZ,ct,dw hu];rw[if_pos h1];have:=QQ (ids:=ids) (w:=w) h;simp[bz,gi hz,this]
    ·cases h
  ·rename_i s k j hu hx ij;split at h
   ·rename_i b hb;cases h;have h0:(0:Int)<=dG j:=Bg j;have h1:(dG j).toNat=j:=rfl;simp only[ho,bd,hx,ij,den,Instr.index,asIntOf,bz,cZ,ct,dw hu,if_pos h0,h1,hb]
   ·cases h
  ·cases h
 ·rename_i x i ho;split at h
  ·rename_i l hx;split at h
   ·rename_i u hu;simp only[aW]at h;subst h;simp[ho,bd,hx,den,Instr.extract,rj,hu]
   ·cases h
  ·cases h
 ·rename_i c ho;split at h
  ·rename_i x t ts hc ha ht;obtain⟨callee,args,Q7⟩:=c;simp only at hc ha ht;subst hc;have vC:args=#[x]:=by apply fD;simpa using ha
   have h0:Q7[0]?=aa t:=by rw[<-Array.getElem?_toList,ht];rfl
   subst vC;simp only[ho,resolve,bz,cZ,ct,invoke,builtin];rw[show(#[x].map ρ)=#[den ids (e x)] by simp[bd]];rw[ahd h _ _ h0];rfl
  ·rename_i x y hc ha;obtain⟨callee,args,Q7⟩:=c;simp only at hc ha;subst hc;have vC:args=#[x,y]:=by apply fD;simpa using ha
   subst vC;unfold ZA at h;split at h
   ·rename_i k a k2 b hx hy;obtain rfl:=cG h;simp[ho,resolve,invoke,builtin,bd,hx,hy,den,Builtin.min_,Builtin.min2,je]
   ·cases h
  ·rename_i x y hc ha;obtain⟨callee,args,Q7⟩:=c;simp only at hc ha;subst hc;have vC:args=#[x,y]:=by apply fD;simpa using ha
   subst vC;unfold ZB at h;split at h
   ·rename_i k a k2 b hx hy;obtain rfl:=cG h;simp[ho,resolve,invoke,builtin,bd,hx,hy,den,Builtin.max_,Builtin.max2,je]
   ·cases h
  ·cases h
 ·rename_i t x lo hi ho;simp only[ho,Option.map_none];rw[bz,ahf bd h];rfl
 ·rename_i t x lo hi mx ho;simp only[ho,oO];rw[bz,ahg bd h];rfl
 ·rename_i arr x ho;simp only[ho,bd];rw[bz,ahh h];rfl
 ·cases h
end
end Vx
namespace Vx
open Go Go.RowKit Go.BigFrame Sx
structure BT where
 t:aM
 fz:Nat×Nat
instance(n:Nat):OfNat BT n:=⟨⟨n,(0,0)⟩⟩
instance:Coe aM BT:=⟨λt=>⟨t,(0,0)⟩⟩
def zR:BT->aM->Bool
 |⟨t,(0,0)⟩,n=>aA t n
 |_,_=>ag
def Q8 {b:BT} {n:Nat} (h:zR b n=af):b=⟨n,(0,0)⟩:=by
 unfold zR at h;split at h
 ·rw[ck h]
 ·cases h
structure VB where
 wr:Bool
 ty:BT
 c:List V
def aC (ids:List Nat) (id:Nat) (b:VB):ao:=⟨id,b.wr,.cells (ak ids b.c).toArray b.ty.t b.ty.fz⟩
def lits (ids:List Nat):List Nat->List VB->List ao
 |i::is,b::bl=>aC ids i b::lits ids is bl
 |_,_=>[]
def vD (P:aG) (bl:List VB) (t:aM) (x:V):Option V:=match x with
 |.ptr i off=>(match bl[i]?with
  |some b=>uo P t b.c off
  |none=>ae)
 |_=>ae
def Lk (P:aG) (bl:List VB) (t:aM) (x v:V):Option (List VB):=match x with
 |.ptr i off=>(match bl[i]?with
  |some ⟨af,⟨ty,(0,0)⟩,c⟩=>(match eo P t with
   |some n=>bif rk v&&(nA (ky v)&&aA (cD (ky v)) n)then(match Lc c off n (ky v)with|some c'=>aa (bl.set i ⟨af,⟨ty,(0,0)⟩,c'⟩)|none=>ae)else ae
   |none=>ae)
  |_=>ae)
 |_=>ae
def mf (z:List V):Nat->List V
 |0=>[]
 |n+1=>z++mf z n
def D9 (P:aG) (e:bg->V) (n:Nat):Op->Option (V×VB)
 |.alloc t=>(match me P t with|some z=>aa (.ptr n 0,⟨af,t,z⟩)|none=>ae)
 |.box t x=>bif rk (e x)then aa (.ptr n 0,⟨af,t,ky (e x)⟩)else ae
 |.buildSlice t len ps=>(match P.underlying t with
  |some (.slice el)=>(match eo P el,me P el with
   |some (z+1),aa zc=>bif aA (cD zc) (z+1)&&(bZ (len*(z+1)) (2^24)&&!(aA len 0&&(aA z 5||(aA z 9||(aA z 13||aA z 45)))))then(match zQ (λi=>aa (i*(z+1),z+1)) (mf zc len) (Lg e ps)with|some c=>aa (.sl n 0 len len,⟨af,el,c⟩)|none=>ae)else ae
   |_,_=>ae)
  |_=>ae)
 |_=>ae
def bY (n:Nat):List VB->Bool
 |[]=>af
 |b::l=>bu n b.c&&bY n l
section
variable{ids:List Nat} {P:aG} {w w0:aj} {ms:List Nat} {e:bg->V} {ρ:bg->ai} {bl:List VB} {R:List ao}
def zT:∀(is:List Nat) (bl:List VB),is.length=bl.length->(lits ids is bl).length=bl.length
 |[],[],_=>rfl
 |i::is,b::bl,h=>by simp[lits,zT is bl (by simpa using h)]
 |[],_::_,h=>by simp at h
 |_::_,[],h=>by simp at h
def Q9:∀(is:List Nat) (bl:List VB) {k:Nat} {b:VB},is.length=bl.length->bl[k]?=aa b->(lits ids is bl)[k]?=aa (aC ids (is.getD k 0) b)
 |[],[],k,b,_,h=>by simp at h
 |i::is,c::bl,k,b,hl,h=>by
  cases k with
  |zero=>simp only[List.getElem?_cons_zero,aW]at h;subst h;simp[lits]
  |succ k=>simpa[lits]using Q9 is bl (by simpa using hl) (by simpa using h)
 |[],_::_,_,_,h,_=>by simp at h
 |_::_,[],_,_,h,_=>by simp at h
def D_:∀(is:List Nat) (bl:List VB) (k:Nat) (b:VB),is.length=bl.length->(lits ids is bl).set k (aC ids (is.getD k 0) b)=lits ids is (bl.set k b)
 |[],[],k,b,_=>by simp[lits]
 |i::is,c::bl,k,b,hl=>by
  cases k with
  |zero=>simp[lits]
  |succ k=>simpa[lits]using D_ is bl k b (by simpa using hl)
 |[],_::_,_,_,h=>by simp at h
 |_::_,[],_,_,h=>by simp at h
def fu (is js:List Nat) (bl cl:List VB) (h:is.length=bl.length):lits ids (is++js) (bl++cl)=lits ids is bl++lits ids js cl:=by
 induction is generalizing bl with
 |nil=>cases bl with
  |nil=>simp[lits]
  |cons=>simp at h
 |cons i is ih=>cases bl with
  |nil=>simp at h
  |cons b bl=>simp[lits,ih bl (by simpa using h)]
def fw {more:List Nat}:∀(is:List Nat) (bl:List VB),bY ids.length bl=af->lits (ids++more) is bl=lits ids is bl
 |[],_,_=>by simp[lits]
 |_::_,[],_=>by simp[lits]
 |i::is,b::bl,h=>by
  simp only[bY,bD]at h;simp only[lits,aC,jl _ h.1,fw is bl h.2]
def gx (hl:ids.length=bl.length) (S:St ms w0 (lits ids ids bl++R) w) {i:Nat} {b:VB} (h:bl[i]?=aa b):
 (lits ids ids bl++R)[i]?=aa (aC ids (ids.getD i 0) b)/\w.heap[ids.getD i 0]?=aa (.cells (ak ids b.c).toArray b.ty.t b.ty.fz):=by
 have h1:=Q9 (ids:=ids) ids bl hl h;have h2:(lits ids ids bl++R)[i]?=aa (aC ids (ids.getD i 0) b):=by
  rw[gm (by rw[zT ids bl hl];rcases c9 i bl.length with h'|h';exact h';simp[h']at h)];exact h1
 exact⟨h2,S.at_ i _ h2⟩
def Ll (hl:ids.length=bl.length) (S:St ms w0 (lits ids ids bl++R) w) {t:aM} {x v:V} (h:vD P bl t x=aa v):(pO t (den ids x)).run P w=.ok (den ids v) w:=by
 unfold vD at h;split at h
 ·rename_i i off;split at h
  ·rename_i b hb;have aS:=(gx hl S hb).2;unfold uo at h;simp only[pO,den,iY,bz,cZ,ct];split at h
   ·rename_i n ha hn;split at h
    ·rename_i c hc;simp only[aW]at h;subst h;obtain⟨g1,g2,g3⟩:=zP (ids:=ids) hc;refine Bp (n:=n) aS ?_ ?_ ?_ ?_
     ·unfold pZ at ha;split at ha
      ·rename_i d hd;rw[hd];simpa using ha
      ·cases ha
     ·unfold eo at hn;split at hn
      ·rename_i d hd;rw[hd];simpa using hn
      ·cases hn
     ·apply fD;simp[Array.toList_extract,List.extract,g1]
     ·simpa using g2
    ·cases h
   ·rename_i ha;have:=QE (ids:=ids) h;refine Bo aS ?_ (by simpa using this);unfold pZ at ha;split at ha
    ·rename_i d hd;rw[hd];simpa using ha
    ·cases ha
   ·cases h
  ·cases h
 ·cases h
def ZH (hl:ids.length=bl.length) (S:St ms w0 (lits ids ids bl++R) w) {t:aM} {x v:V} {bl':List VB} (h:Lk P bl t x v=aa bl'):
 ∃w',(Gq t (den ids x) (den ids v)).run P w=.ok () w'/\St ms w0 (lits ids ids bl'++R) w'/\ids.length=bl'.length:=by
 unfold Lk at h;split at h
 ·rename_i i off;split at h
  ·rename_i ty c hb;split at h
   ·rename_i n hn;cases hq:rk v&&(nA (ky v)&&aA (cD (ky v)) n)with
    |false=>rw[hq]at h;simp at h
    |true=>
     rw[hq]at h;simp only[cond_true]at h;simp only[bD]at hq;obtain⟨q1,q2,q3⟩:=hq;have q3:=ck q3;split at h
     ·rename_i c' zU;simp only[aW]at h;subst h;obtain⟨s1,s2⟩:=Zv (ids:=ids) zU;obtain⟨hi,aS⟩:=gx hl S hb;have hlen:(ak ids (ky v)).length=n:=by rw[lF,q3]
      have bT:=Gv (P:=P) (off:=off) (v:=den ids v) (vs:=ak ids (ky v)) aS (QI q1) (by
       unfold eo at hn;split at hn
       ·rename_i d hd;rw[hd];simp[hlen]at hn⊢;exact hn
       ·cases hn) (by simpa[hlen]using s2) (by rw[gQ];exact BJ q2)
      have fE:=S.step hi rfl (Ch.setRow w (ids.getD i 0) _) (setRow_heap w (ids.getD i 0) _ (splice (ak ids c).toArray off (ak ids (ky v))) ty (0,0) aS);have mL:splice (ak ids c).toArray off (ak ids (ky v))=(ak ids c').toArray:=by
       apply fD;simp[splice,s1,hlen]
      have l7:i<(lits ids ids bl).length:=by rw[zT ids bl hl];rcases c9 i bl.length with h'|h';exact h';simp[h']at hb
      refine⟨w.setRow (ids.getD i 0) (splice (ak ids c).toArray off (ak ids (ky v))),?_,?_,?_⟩
      ·simp only[Gq,den,iY,bz,cZ,ct];exact bT
      ·have zV:=D_ (ids:=ids) ids bl i ⟨af,ty,c'⟩ hl;rw[<-zV,<-List.set_append_left _ _ l7];rw[mL]at fE⊢;exact fE
      ·simpa using hl
     ·cases h
   ·cases h
  ·cases h
 ·cases h
def ZI (z:List V) (n:Nat):ak ids (mf z n)=(n_ n (ak ids z)).flatten:=by
 induction n with
 |zero=>simp[mf,ak]
 |succ n ih=>simp[mf,jK,ih,List.replicate_succ]
def Q_ (z:Array ai) (m:Nat) (hm:z.size=m+1):∀n,((Array.range (n*(m+1))).map (λi=>z[i%z.size]!)).toList=(n_ n z.toList).flatten:=by
 intro n;simp only[YB,Array.toList_range];induction n with
 |zero=>simp
 |succ n ih=>
  rw[List.replicate_succ',List.flatten_append,<-ih,Nat.succ_mul,List.range_add,tX,l5];congr 1;simp only[List.flatten_cons,List.flatten_nil,cT];apply zv;intro i;rw[jW];by_cases hi:i<m+1
  ·rw[pQ hi];simp only[oO,Function.comp];rw[hm,show(n*(m+1)+i)%(m+1)=i by rw[Nat.mul_comm,Nat.mul_add_mod,Nat.mod_eq_of_lt hi]];simp[getElem!_pos,hm,hi]
  ·rw[ju (by simpa using hi),ju (by simp[hm];omega)];rfl
end
end Vx
