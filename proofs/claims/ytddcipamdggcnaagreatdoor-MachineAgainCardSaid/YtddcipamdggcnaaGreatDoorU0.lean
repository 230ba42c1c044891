/- Part 0 of the proof. -/
import Derived.WalkKit
import Derived.Below
import Derived.BigFrame
import Derived.KernelRfl
import Derived.LoopN
import Derived.Laws.CopyRow
import Derived.Laws.StructEq
import Derived.ChangeKeysEq
import Derived.IntWalk
import Derived.Orders
import Derived.Deep.Upon
import Derived.WideMake
set_option linter.all false
set_option maxRecDepth 100000
set_option maxHeartbeats 4000000
noncomputable section
abbrev dQ(a:Int):Prop:=-9223372036854775808<=a/\a<=9223372036854775807
theorem oM{p:Prop}(h:p:=by omega):p:=h
theorem kR{p:Prop}(h:p:=by kernel_rfl):p:=h
theorem dC{p:Prop}(h:p:=by decide):p:=h
theorem sP{p:Prop}(h:p:=by simp):p:=h
theorem rF{p:Prop}(h:p:=by rfl):p:=h
open Array renaming getElem?_replicate->Bx,getD->DS,toList_append->GB,all_eq_true_iff_forall_mem->K3,getElem?_eq_getElem->K4,toList_setIfInBounds->K5,getElem?_eq_none->KW,toList_map->Y_,ext'->fP,getD_eq_getD_getElem?->jO,getElem?_setIfInBounds->s9,length_toList->w7,replicate->zL
open BitVec renaming toNat_ofInt->K1,ofInt->qt
open Bool renaming or_eq_true->Bv,true->af,false->ah,and_eq_true->bJ,not_eq_true'->pj
open Go renaming ResultVar->KY,Oper->aA,Addr->aF,Program->aL,TypeId->aP,Value->aj,World->an,Operand->bA,run_underlying->dF,Exit->dR,Code->eZ,FuncId->fG,IntKind->gw,heap_alloc_new->oB,sizeOf->qp,MapEntry->xd
open Go.Addr renaming add_lit->iY,add->qo
open Go.Builtin renaming append_->nJ,zeroCells->rD
open Go.Code renaming rounds->ag3
open Go.Exit renaming inBlock->KX
open Go.Instr renaming storeAt->Gz,findNow->Qa,fill->ag8,fieldAt->ag9,build->ag_,sureAddr->jt,sliceBound->nK,loadAt->qq,sliceAt->qy,sliceBounds->qz,indexAt->uq,slice->w_
open Go.IntKind renaming wrap->vH
open Go.Op renaming unary->Y8,equal->Y9,intArith->ag7
open Go.Oper renaming wp->rz
open Go.Region renaming wanted->gU,ready->rA,binds->s_
open Go.Result renaming andThen_ok->cD,andThen->ju
open Go.Sem renaming run_bind->bH,run_pure->de
open Go.Src renaming ofSlice->qu
open Go.Value renaming cells->Y7,int->fI
open Go.World renaming cell?->zK
open Int renaming natCast_nonneg->BC,ofNat_eq_natCast->DU,emod_eq_of_lt->KZ,ofNat->dS
open List renaming pairwise_cons->BB,any_eq_true->Bu,mem_filter->Bw,getElem?_of_mem->DP,pairwise_append->DQ,length_map->GA,length_nil->K6,getElem_append_left->K7,getElem?_set_ne->KV,getElem?_set_self->P8,length_range->P_,count_replicate_self->Y4,getElem_append_right->Y5,append_assoc->bZ,range->bg,mem_cons->cG,append_nil->cy,mem_append->dV,length_append->fH,cons_append->fe,nil_append->fu,getElem?_append_left->gB,getD->gh,map_cons->gx,all_eq_true->ik,getElem?_toArray->j7,getElem?_eq_none->jA,take_append_drop->jR,mem_singleton->jS,getElem?_eq_getElem->jh,length_cons->jv,getElem?_map->kA,sublist_append_right->kM,eq_nil_of_length_eq_zero->kX,map_map->lN,map_congr_left->mB,mem_map->oC,replicate->oE,getElem?_range->pr,getD_eq_getElem?_getD->qx,mem_of_getElem?->rC,range_succ_eq_map->ta,nodup_cons->uo,map_append->uw,getElem?_append_right->vI,length_take->w9,foldl_cons->xg,ext_getElem?->zN
open List.Mem renaming head->DR,tail->Y6
open List.Perm renaming append_right->BA,swap->Bz,cons->vJ,refl->zM
open List.Sublist renaming append_left->mV
open List.cons renaming inj->xf
open Nat renaming lt_of_lt_of_le->P7,mul_le_mul_right->P9,lt_of_not_le->Qb,beq->aC,and_two_pow_sub_one_eq_mod->ag4,add_sub_cancel_left->ag6,le_refl->cW,ble->ck,eq_of_beq_eq_true->cw,zero_add->d_,lt_or_ge->di,blt->dq,le_of_ble_eq_true->eU,le_trans->h_,blt_eq->jQ,add_zero->lM,add_mul->oD,eq_zero_or_pos->uu,beq_refl->uv,add_assoc->ux,ble_eq_true_of_le->w8
open Option renaming getD_some->Y3,some->aa,none->ag,map_eq_some_iff->jr,map_some->pk
open Option.some renaming injEq->a_,inj->cP
open Prod.mk renaming injEq->bI
namespace Sx
open Go Go.RowKit Go.BigFrame
structure Ch(ms:List Nat)(w w':an):Prop where
 os:w'.os=w.os
 tape:w'.tape=w.tape
 output:w'.output=w.output
 size:w.heap.size<=w'.heap.size
 block:∀k,k<w.heap.size->k∉ms->w'.heap[k]?=w.heap[k]?
def Ch.refl(ms:List Nat)(w:an):Ch ms w w:=⟨rfl,rfl,rfl,cW _,λ_ _ _=>rfl⟩
def Ch.trans{ms ns:List Nat}{a b c:an}(h:Ch ms a b)(k:Ch ns b c)(hs:∀x∈ns,x∈ms\/a.heap.size<=x):Ch ms a c:=
 ⟨k.os.trans h.os,k.tape.trans h.tape,k.output.trans h.output,h_ h.size k.size,λi hi hm=>
  (k.block i (P7 hi h.size) (λhn=>by rcases hs i hn with h1|h1;exact hm h1;omega)).trans (h.block i hi hm)⟩
def Ch.below{w w':an}(h:Ch [] w w'):Below w.heap.size w w':=⟨h.os,h.tape,h.output,h.size,λk hk=>h.block k hk sP⟩
def Ch.drew{ms:List Nat}{w w':an}(h:Ch ms w w'):Ch ms w {w' with drawn:=w'.drawn+1}:=⟨h.os,h.tape,h.output,h.size,h.block⟩
def Ch.alloc(ms:List Nat)(w:an)(o:Obj):Ch ms w (w.alloc o):=
 ⟨rfl,rfl,rfl,by show w.heap.size<=(w.heap.push o).size;simp,λk hk _=>Below.heap_alloc _ _ _ hk⟩
def Ch.setRow(w:an)(g:Nat)(cs:Array aj):Ch [g] w (w.setRow g cs):=
 ⟨rfl,rfl,rfl,by simp[World.setRow],λk hk hm=>by
  simp only[World.setRow,Array.getElem?_modify];rw[if_neg (by intro e;exact hm (by simp[e]))]⟩
structure av where
 id:Nat
 wr:Bool
 obj:Obj
structure St(ms:List Nat)(w0:an)(bs:List av)(w:an):Prop where
 ch:Ch ms w0 w
 at_:∀(i:Nat) x,bs[i]?=aa x->w.heap[x.id]?=aa x.obj
 own:∀(i:Nat) x,bs[i]?=aa x->x.wr=af->x.id∈ms\/w0.heap.size<=x.id
 apart:∀(i j:Nat) x y,bs[i]?=aa x->bs[j]?=aa y->i≠j->x.wr=af->x.id≠y.id
def oH{w:an}{k:Nat}{x:Obj}(h:w.heap[k]?=aa x):k<w.heap.size:=by
 rcases di k w.heap.size with h1|h1
 ·exact h1
 ·simp[h1]at h
def St.nil(ms:List Nat)(w:an):St ms w [] w:=⟨Ch.refl _ _,sP,sP,sP⟩
def St.quiet{ms:List Nat}{w0 w w':an}{bs:List av}(h:St ms w0 bs w)(hc:Ch [] w w'):St ms w0 bs w':=
 ⟨h.ch.trans hc sP,λi x hx=>(hc.block _ (oH (h.at_ i x hx)) sP).trans (h.at_ i x hx),h.own,h.apart⟩
def St.step{ms:List Nat}{w0 w w':an}{bs:List av}(h:St ms w0 bs w){i:Nat}{x:av}(hi:bs[i]?=aa x)(hx:x.wr=af)(hc:Ch [x.id] w w'){o':Obj}(ho:w'.heap[x.id]?=aa o'):
 St ms w0 (bs.set i ⟨x.id,af,o'⟩) w':=by
 have uz:∀(j:Nat) y,(bs.set i ⟨x.id,af,o'⟩)[j]?=aa y->(j=i/\y=⟨x.id,af,o'⟩)\/(j≠i/\bs[j]?=aa y):=by
  intro j y hy;by_cases hj:i=j
  ·subst hj;rw[P8 (by rcases di i bs.length with h1|h1;exact h1;simp[h1]at hi)]at hy;exact Or.inl ⟨rfl,by simpa using hy.symm⟩
  ·rw[KV hj]at hy;exact Or.inr ⟨λe=>hj e.symm,hy⟩
 refine⟨h.ch.trans hc (by simpa using h.own i x hi hx),?_,?_,?_⟩
 ·intro j y hy;rcases uz j y hy with⟨rfl,rfl⟩|⟨c_,hy⟩
  ·exact ho
  ·exact(hc.block _ (oH (h.at_ j y hy)) (by simpa using(h.apart i j x y hi hy (λe=>c_ e.symm) hx).symm)).trans (h.at_ j y hy)
 ·intro j y hy hw;rcases uz j y hy with⟨rfl,rfl⟩|⟨_,hy⟩
  ·exact h.own _ x hi hx
  ·exact h.own j y hy hw
 ·intro j k y z hy hz c_ hw;rcases uz j y hy with⟨rfl,rfl⟩|⟨h1,hy⟩<;>rcases uz k z hz with⟨rfl,rfl⟩|⟨h2,hz⟩
  ·exact absurd rfl c_
  ·exact h.apart _ k x z hi hz (λe=>h2 e.symm) hx
  ·exact λe=>h.apart _ j x y hi ‹bs[j]?=aa y› (λe=>h1 e.symm) hx e.symm
  ·exact h.apart _ _ _ _ ‹bs[j]?=aa y› hz c_ hw
def St.new{ms:List Nat}{w0 w w':an}{bs:List av}(h:St ms w0 bs w)(hc:Ch [] w w'){b:Nat}{o:Obj}(hb:w.heap.size<=b)(ho:w'.heap[b]?=aa o):St ms w0 (⟨b,af,o⟩::bs) w':=by
 have hq:=h.quiet hc;have dy:∀(i:Nat) x,bs[i]?=aa x->x.id<b:=λi x hx=>P7 (oH (h.at_ i x hx)) hb;refine⟨hq.ch,?_,?_,?_⟩
 ·intro i x hx;cases i with
  |zero=>obtain rfl:_=x:=by simpa using hx
         exact ho
  |succ i=>exact hq.at_ i x (by simpa using hx)
 ·intro i x hx hw;cases i with
  |zero=>obtain rfl:_=x:=by simpa using hx
         exact Or.inr (h_ h.ch.size hb)
  |succ i=>exact hq.own i x (by simpa using hx) hw
 ·intro i j x y hx hy c_ hw;cases i with
  |zero=>
   obtain rfl:_=x:=by simpa using hx
   cases j with
   |zero=>exact absurd rfl c_
   |succ j=>have:=dy j y (by simpa using hy);simp;omega
  |succ i=>
   cases j with
   |zero=>obtain rfl:_=y:=by simpa using hy
          have:=dy i x (by simpa using hx);simp;omega
   |succ j=>exact hq.apart i j x y (by simpa using hx) (by simpa using hy) oM hw
def St.lt{ms:List Nat}{w0 w:an}{bs:List av}(h:St ms w0 bs w){i:Nat}{x:av}(hi:bs[i]?=aa x):x.id<w.heap.size:=oH (h.at_ i x hi)
def St.pick{ms:List Nat}{w0 w:an}{bs:List av}(h:St ms w0 bs w)(is:List Nat){bs':List av}(he:is.map (bs[·]?)=bs'.map aa)(hn:is.Nodup):St ms w0 bs' w:=by
 have aV:∀(i:Nat) x,bs'[i]?=aa x->∃j,is[i]?=aa j/\bs[j]?=aa x:=by
  intro i x hx;have h1:(bs'.map aa)[i]?=aa (aa x):=by simp[hx]
  rw[<-he]at h1;simp only[kA,jr]at h1;exact h1
 refine⟨h.ch,?_,?_,?_⟩
 ·intro i x hx;obtain⟨j,_,hj⟩:=aV i x hx;exact h.at_ j x hj
 ·intro i x hx;obtain⟨j,_,hj⟩:=aV i x hx;exact h.own j x hj
 ·intro i k x y hx hy c_;obtain⟨j,mW,hj⟩:=aV i x hx;obtain⟨l,xp,hl⟩:=aV k y hy;refine h.apart j l x y hj hl ?_;intro e;subst e;exact c_ ((List.getElem?_inj (by rcases di i is.length with h1|h1;exact h1;simp[h1]at mW) hn).1 (mW.trans xp.symm))
def j_(d:TypeDesc):Bool:=match d with|.struct _|.array _ _=>af|_=>ah
section
variable{P:aL}
def BE{ty:aP}{b:Bool}(h:(P.underlying ty).map j_=aa b)(w:an):(isAgg ty).run P w=.ok b w:=by
 cases hq:P.underlying ty with
 |none=>simp[hq]at h
 |some d=>
  simp[hq]at h;unfold isAgg;rw[bH,dF hq w];cases d<;>simp_all[j_]
def cell_of{w:an}{g:Nat}{cs:Array aj}{t:aP}{fr:Nat×Nat}(h:w.heap[g]?=aa (.cells cs t fr))(o:Nat):w.cell? ⟨g,o,ag⟩=cs[o]?:=by
 simp[zK,h]
def BF{w:an}{g off:Nat}{cs:Array aj}{t ty:aP}{fr:Nat×Nat}{v:aj}(hg:w.heap[g]?=aa (.cells cs t fr))(ha:(P.underlying ty).map j_=aa ah)(hc:cs[off]?=aa v):
 (loadVar ty ⟨g,off,ag⟩).run P w=.ok v w:=by
 unfold loadVar;rw[bH,BE ha];simp[load,Sem.run,cell_of hg,hc]
def BG{w:an}{g off n:Nat}{cs vs:Array aj}{t ty:aP}{fr:Nat×Nat}(hg:w.heap[g]?=aa (.cells cs t fr))(ha:(P.underlying ty).map j_=aa af)(hn:(P.info? ty).map (·.size)=aa n)
 (hc:cs.extract off (off+n)=vs) (hv:vs.size=n):(loadVar ty ⟨g,off,ag⟩).run P w=.ok (.agg vs) w:=by
 have hl:(loadCells ⟨g,off,ag⟩ vs.toList.length).run P w=.ok vs.toList.toArray w:=
  run_loadCells_list (P:=P) w ⟨g,off,ag⟩ vs.toList (λj v hj=>by
   have BH:(⟨g,off,ag⟩:aF).add j=⟨g,off+j,ag⟩:=by unfold qo;split<;>simp_all
   rw[BH,cell_of hg];have h1:vs[j]?=aa v:=by simpa using hj
   rw[<-hc,Array.getElem?_extract]at h1;split at h1
   ·exact h1
   ·exact absurd h1 sP)
 cases hq:P.info? ty with
 |none=>simp[hq]at hn
 |some i=>
  have hs:i.size=vs.size:=by simpa[hq,hv]using hn
  simp only[w7,Array.toArray_toList]at hl;simp[loadVar,bH,BE ha,qp,typeInfo,hq,hs,hl]
def splice(cs:Array aj)(off:Nat)(vs:List aj):Array aj:=(cs.toList.take off++vs++cs.toList.drop (off+vs.length)).toArray
def GH{w:an}{g off:Nat}{cs:Array aj}{t ty:aP}{v:aj}{vs:List aj}(hg:w.heap[g]?=aa (.cells cs t (0,0)))(hv:v.cells.toList=vs)(hn:(P.info? ty).map (·.size)=aa vs.length)
 (hl:off+vs.length<=cs.size) (h1:vs.all (·.oneCell')=af):(storeVar ty ⟨g,off,ag⟩ v).run P w=.ok () (w.setRow g (splice cs off vs)):=by
 cases hq:P.info? ty with
 |none=>simp[hq]at hn
 |some i=>
  have hs:i.size=vs.length:=by simpa[hq]using hn
  have hz:v.cells.size=vs.length:=by rw[<-hv];simp
  have:=run_storeCells_at (P:=P) g off t vs 0 cs w hg (by simpa using hl) (by simpa using h1);unfold storeVar;simp[bH,qp,typeInfo,hq,hs,hz,hv,splice]at this⊢;exact this
end
def ba(P:aL)(f:fG)(ak:Array aj)(w:an)(R:aj->an->Prop):Prop:=Calls P f ak w λe w'=>∃v,e=.returned v/\R v w'
def ba.mono{P:aL}{f:fG}{ak:Array aj}{w:an}{R R':aj->an->Prop}(h:ba P f ak w R)(hr:∀v w',R v w'->R' v w'):ba P f ak w R':=
 Calls.mono h λe w' ⟨v,he,hv⟩=>⟨v,he,hr _ _ hv⟩
def lk(bs:List av)(i off:Nat):Option (Nat×aj):=
 match bs[i]?with
 |some ⟨b,_,.cells cs _ _⟩=>match cs[off]?with|some v=>aa (b,v)|none=>ag
 |_=>ag
def zO(bs:List av)(i off n:Nat):Option (Nat×Array aj):=
 match bs[i]?with
 |some ⟨b,_,.cells cs _ _⟩=>match ck (off+n) cs.size with|true=>aa (b,((cs.toList.drop off).take n).toArray)|false=>ag
 |_=>ag
def zP(bs:List av)(i off n:Nat):Option Nat:=
 match bs[i]?with
 |some ⟨b,af,.cells cs _ (0,0)⟩=>match ck (off+n) cs.size with|true=>aa b|false=>ag
 |_=>ag
def xq(bs:List av)(i off:Nat)(vs:List aj):List av:=
 match bs[i]?with
 |some ⟨b,wr,.cells cs t fr⟩=>bs.set i ⟨b,wr,.cells (splice cs off vs) t fr⟩
 |_=>bs
def Zk{bs:List av}{i off b:Nat}{v:aj}(h:lk bs i off=aa (b,v)):∃wr cs t fr,bs[i]?=aa ⟨b,wr,.cells cs t fr⟩/\cs[off]?=aa v:=by
 unfold lk at h;split at h
 ·rename_i b' wr cs t fr hb;split at h
  ·rename_i v' hv;simp only[a_,bI]at h;obtain⟨rfl,rfl⟩:=h;exact⟨wr,cs,t,fr,hb,hv⟩
  ·simp at h
 ·simp at h
def Lh{bs:List av}{i off n b:Nat}{vs:Array aj}(h:zO bs i off n=aa (b,vs)):∃wr cs t fr,bs[i]?=aa ⟨b,wr,.cells cs t fr⟩/\cs.extract off (off+n)=vs/\vs.size=n:=by
 unfold zO at h;split at h
 ·rename_i b' wr cs t fr hb;split at h
  ·rename_i hle;simp only[a_,bI]at h;obtain⟨rfl,rfl⟩:=h;have:=eU hle;have e:cs.extract off (off+n)=((cs.toList.drop off).take n).toArray:=by
    apply fP;simp[List.extract]
   exact⟨wr,cs,t,fr,hb,e,by simp;omega⟩
  ·simp at h
 ·simp at h
def Li{bs:List av}{i off n b:Nat}(h:zP bs i off n=aa b):∃cs t,bs[i]?=aa ⟨b,af,.cells cs t (0,0)⟩/\off+n<=cs.size:=by
 unfold zP at h;split at h
 ·rename_i b' cs t hb;split at h
  ·rename_i hle;simp only[a_]at h;obtain rfl:=h;exact⟨cs,t,hb,eU hle⟩
  ·simp at h
 ·simp at h
structure WL(P:aL)(ops:Array aA)(Q:dR->Act->an->Prop)(l:List aA)(a:Act)(w:an):Prop where
 out:wpList P ops Q l a w
def WL.want{P:aL}{ops:Array aA}{Q:dR->Act->an->Prop}{a:Act}{w:an}{rest:List aA}{o:aA}(hw:gU o (yielded ops a.tmps)=af)
 (h:∀K:Act->an->Prop,(∀a w,WL P ops Q rest a w->K a w)->o.wp P a w K Q):WL P ops Q (o::rest) a w:=⟨wpList_want hw λK hK=>h K λa w x=>hK a w x.out⟩
section
variable{P:aL}{ops:Array aA}{rest:List aA}{o:aA}{a:Act}{w w0:an}{ms:List Nat}{bs:List av}{Q:dR->Act->an->Prop}
def aG(v:aj)(k:WL P ops Q rest (a.put o.dst v) w)(hw:gU o (yielded ops a.tmps)=af:=by kernel_rfl)(h:(execOp a.eval o).run P w=.ok (.value v) w:=by kernel_rfl):WL P ops Q (o::rest) a w:=
 WL.want hw λK hK=>by unfold rz;rw[h];exact hK _ _ k
def Qh(k:WL P ops Q rest (a.put o.dst undef) w)(hw:gU o (yielded ops a.tmps)=ah:=by kernel_rfl):WL P ops Q (o::rest) a w:=⟨wpList_skip hw k.out⟩
def rH(S:St ms w0 bs w)(i:Nat)(v:aj)(b off:Nat){x:bA}{ty:aP}(k:WL P ops Q rest (a.put o.dst v) w)(hw:gU o (yielded ops a.tmps)=af:=by kernel_rfl)(ho:o.op=.load ty x:=by rfl)(hx:a.eval x=.pointer (aa ⟨b,off,ag⟩):=by kernel_rfl)
 (ha:(P.underlying ty).map j_=aa ah:=by kernel_rfl) (hb:lk bs i off=aa (b,v):=by kernel_rfl):WL P ops Q (o::rest) a w:=
 WL.want hw λK hK=>by
  obtain⟨wr,cs,t,fr,hb,hc⟩:=Zk hb;unfold rz execOp;simp only[ho,hx,qq,jt,bH,de,cD,BF (S.at_ i _ hb) ha hc];exact hK _ _ k
def nL(S:St ms w0 bs w)(i:Nat)(n:Nat)(vs:Array aj)(b off:Nat){x:bA}{ty:aP}(k:WL P ops Q rest (a.put o.dst (.agg vs)) w)(hw:gU o (yielded ops a.tmps)=af:=by kernel_rfl)(ho:o.op=.load ty x:=by rfl)(hx:a.eval x=.pointer (aa ⟨b,off,ag⟩):=by kernel_rfl)
 (ha:(P.underlying ty).map j_=aa af:=by kernel_rfl) (hn:(P.info? ty).map (·.size)=aa n:=by kernel_rfl) (hb:zO bs i off n=aa (b,vs):=by kernel_rfl):WL P ops Q (o::rest) a w:=
 WL.want hw λK hK=>by
  obtain⟨wr,cs,t,fr,hb,hc,hv⟩:=Lh hb;unfold rz execOp;simp only[ho,hx,qq,jt,bH,de,cD,BG (S.at_ i _ hb) ha hn hc hv];exact hK _ _ k
def store_(S:St ms w0 bs w)(i:Nat)(v:aj)(b off:Nat){x y:bA}{ty:aP}(k:∀w',St ms w0 (xq bs i off v.cells.toList) w'->WL P ops Q rest (a.put o.dst undef) w')(hw:gU o (yielded ops a.tmps)=af:=by kernel_rfl)(ho:o.op=.store ty x y:=by rfl)(hx:a.eval x=.pointer (aa ⟨b,off,ag⟩):=by kernel_rfl)(hy:a.eval y=v:=by kernel_rfl)
 (hn:(P.info? ty).map (·.size)=aa v.cells.toList.length:=by kernel_rfl) (h1:v.cells.toList.all (·.oneCell')=af:=by kernel_rfl) (hb:zP bs i off v.cells.toList.length=aa b:=by kernel_rfl):WL P ops Q (o::rest) a w:=
 WL.want hw λK hK=>by
  obtain⟨cs,t,hb,hl⟩:=Li hb;unfold rz execOp;have aV:=S.at_ i _ hb;simp only[ho,hx,hy,Gz,jt,bH,de,cD,GH (P:=P) aV rfl hn hl h1];refine hK _ _ (k _ ?_);have:=S.step hb rfl (Ch.setRow w b _) (setRow_heap w b cs (splice cs off v.cells.toList) t (0,0) aV);simpa[xq,hb]using this
def dI{x:bA}(k:WL P ops Q rest (a.put o.dst (a.eval x)) w)(hw:gU o (yielded ops a.tmps)=af:=by kernel_rfl)(ho:o.op=.move x:=by rfl):WL P ops Q (o::rest) a w:=
 aG _ k hw (by unfold execOp;simp[ho])
def gC{x:bA}(k:WL P ops Q rest (a.put o.dst (a.eval x)) w)(hw:gU o (yielded ops a.tmps)=af:=by kernel_rfl)(ho:o.op=.assign x:=by rfl):WL P ops Q (o::rest) a w:=
 aG _ k hw (by unfold execOp;simp[ho])
def pz(v v':aj)(he:v=v')(k:WL P ops Q rest (a.put o.dst v') w)(hw:gU o (yielded ops a.tmps)=af:=by kernel_rfl)(h:(execOp a.eval o).run P w=.ok (.value v) w:=by kernel_rfl):WL P ops Q (o::rest) a w:=by
 subst he;exact aG v k hw h
def pB(kd:gw)(e:Int)(he:kd.wrap e=e)(k:WL P ops Q rest (a.put o.dst (.int kd e)) w)(hw:gU o (yielded ops a.tmps)=af:=by kernel_rfl)(h:(execOp a.eval o).run P w=.ok (.value (.int kd (kd.wrap e))) w:=by kernel_rfl):WL P ops Q (o::rest) a w:=
 pz _ _ (by rw[he]) k hw h
def ahk(t:Nat)(b:Bool)(ht:b=af->WL P ops Q rest (a.put (aa t) (.bool af)) w)(hf:b=ah->WL P ops Q rest (a.put (aa t) (.bool ah)) w)(hv:a.tmps[t]?=aa (.bool b):=by kernel_rfl):WL P ops Q rest a w:=by
 have hs:a.put (aa t) (.bool b)=a:=by
  obtain⟨tmps,ds⟩:=a;have e:tmps.setIfInBounds t (.bool b)=tmps:=by
   apply Array.ext_getElem?;intro i;rw[s9];have Qi:tmps[t]?=aa (.bool b):=hv;by_cases h:t=i
   ·subst h;rw[if_pos rfl];by_cases h2:t<tmps.size
    ·rw[if_pos h2];exact Qi.symm
    ·rw[if_neg h2];rw[KW oM]at Qi;exact absurd Qi sP
   ·rw[if_neg h]
  simp only[Act.put,e]
 cases b
 ·rw[<-hs];exact hf rfl
 ·rw[<-hs];exact ht rfl
def Zl(t:Nat)(b c:Bool)(hb:b=c)(h:WL P ops Q rest (a.put (aa t) (.bool c)) w)(hv:a.tmps[t]?=aa (.bool b):=by kernel_rfl):WL P ops Q rest a w:=by
 subst hb;exact ahk t b (λe=>by subst e;exact h) (λe=>by subst e;exact h) hv
def fQ(S:St ms w0 bs w)(f:Nat->aj)(obj:Obj)(k:∀b w',St ms w0 (⟨b,af,obj⟩::bs) w'->WL P ops Q rest (a.put o.dst (f b)) w')(hw:gU o (yielded ops a.tmps)=af:=by kernel_rfl)(h:(execOp a.eval o).run P w=.ok (.value (f w.heap.size)) (w.alloc obj):=by kernel_rfl):WL P ops Q (o::rest) a w:=
 WL.want hw λK hK=>by
  unfold rz;rw[h];exact hK _ _ (k _ _ (S.new (Ch.alloc _ _ _) (cW _) (oB w obj)))
def gH(f:fG)(ak:Array aj)(k:ba P f ak w λv w'=>WL P ops Q rest (a.put o.dst v) w')(hw:gU o (yielded ops a.tmps)=af:=by kernel_rfl)(h:(execOp a.eval o).run P w=.ok (.enter f ak) w:=by kernel_rfl):WL P ops Q (o::rest) a w:=
 WL.want hw λK hK=>by
  unfold rz;rw[h];refine Calls.mono k ?_;rintro e w' ⟨v,rfl,hk⟩;exact hK _ _ hk
end
section
variable{P:aL}{a:Act}{w:an}{Q:dR->Act->an->Prop}
def jT{f:fG}{fn:Func}{c:eZ}{ak:Array aj}{R:aj->an->Prop}(hf:P.funcs[f]?=aa fn)(hb:fn.body=aa c)
 (h:c.wp P (bodyPost P fn (λe w'=>∃v,e=.returned v/\R v w')) ⟨ak++zL (fn.ntmps-ak.size) undef,[]⟩ w):ba P f ak w R:=by
 exact calls_of_wp hf hb h
def aW{x y:eZ}(h:x.wp P (Exit.then (y.wp P Q) Q) a w):(Code.seq x y).wp P Q a w:=wp_seq h
def bu{id:Nat}{l:List aA}(h:WL P l.toArray Q l a w):(Code.region id l.toArray ah).wp P Q a w:=wp_region_lit h.out
def bh{ops:Array aA}(h:Q .normal a w):WL P ops Q [] a w:=⟨h⟩
def aZ{y:eZ}(h:y.wp P Q a w):Exit.then (y.wp P Q) Q .normal a w:=h
def Zm{K:Act->an->Prop}(h:Q .ret a w):Exit.then K Q .ret a w:=h
def mX{K:Act->an->Prop}{id:Nat}(h:Q (.exit id) a w):Exit.then K Q (.exit id) a w:=h
def qB{id:Nat}(h:Q .normal a w):KX id Q .normal a w:=h
def xu{id:Nat}(h:Q .normal a w):KX id Q (.exit id) a w:=by simpa[KX]using h
def GI{c:eZ}(n:Nat)(h:c.wp P (Exit.then (ag3 P c Q n) Q) a w):(Code.loop c).wp P Q a w:=wp_loop_rounds (n+1) h
def xw{c:eZ}{n:Nat}(h:c.wp P (Exit.then (ag3 P c Q n) Q) a w):Exit.then (ag3 P c Q (n+1)) Q .normal a w:=h
def jD{fn:Func}{R:aj->an->Prop}{v:aj}(hd:a.defers=[])(hr:(results fn a.tmps).run P w=.ok v w)(h:R v w):bodyPost P fn (λe w'=>∃v,e=.returned v/\R v w') .ret a w:=
 ⟨hd,v,hr,v,rfl,h⟩
def end_{fn:Func}{R:aj->an->Prop}{v:aj}(hd:a.defers=[])(hr:(results fn a.tmps).run P w=.ok v w)(h:R v w):bodyPost P fn (λe w'=>∃v,e=.returned v/\R v w') .normal a w:=
 ⟨hd,v,hr,v,rfl,h⟩
def vN(tmps:Array aj):KY->Sem aj
 |.tmp t=>pure (tmps.getD t undef)
 |.cell a t=>do loadVar t (<-asAddr (tmps.getD a undef))
def Lj(P:aL)(w:an)(tmps:Array aj):List KY->List aj->Prop
 |[],[]=>True
 |r::rs,v::vs=>(vN tmps r).run P w=.ok v w/\Lj P w tmps rs vs
 |_,_=>False
def Zn{tmps:Array aj}:∀{rs:List KY}{vs:List aj},Lj P w tmps rs vs->(rs.mapM (vN tmps)).run P w=.ok vs w
 |[],[],_=>rfl
 |r::rs,v::vs,⟨h,hs⟩=>by
  simp only[List.mapM_cons,bH,h,cD,Zn hs];rfl
 |[],_::_,h=>h.elim
 |_::_,[],h=>h.elim
def Lk:List aj->aj
 |[v]=>v
 |vs=>.tuple vs.toArray
def iI{fn:Func}{tmps:Array aj}(rs:List KY)(vs:List aj)(v:aj)(h:Lj P w tmps rs vs)(hf:fn.results=rs.toArray:=by kernel_rfl)(hv:Lk vs=v:=by kernel_rfl):(results fn tmps).run P w=.ok v w:=by
 subst hv;have h1:results fn tmps=(do let vs <-fn.results.mapM (vN tmps);pure (if h:vs.size=1 then vs[0]else .tuple vs)):=by
  unfold results;congr 2
 rw[h1,hf,List.mapM_toArray];simp only[Sem.run_map,Zn h,cD,bind_pure_comp,Functor.map_map];rcases vs with _|⟨v,_|⟨u,vs⟩⟩<;>simp[Lk]
def kN{tmps:Array aj}{t:Nat}{v:aj}(h:tmps.getD t undef=v:=by kernel_rfl):(vN tmps (.tmp t)).run P w=.ok v w:=by subst h;rfl
def tn{ms:List Nat}{w0:an}{bs:List av}(S:St ms w0 bs w)(i n b off:Nat){tmps vs:Array aj}{t ty:Nat}(h:tmps.getD t undef=.pointer (aa ⟨b,off,ag⟩):=by kernel_rfl)
 (ha:(P.underlying ty).map j_=aa af:=by kernel_rfl) (hn:(P.info? ty).map (·.size)=aa n:=by kernel_rfl) (hb:zO bs i off n=aa (b,vs):=by kernel_rfl):(vN tmps (.cell t ty)).run P w=.ok (.agg vs) w:=by
 obtain⟨wr,cs,t,fr,hb,hc,hv⟩:=Lh hb;simp only[vN,h,bH,asAddr,de,cD,BG (S.at_ i _ hb) ha hn hc hv]
end
section
variable{P:aL}{a:Act}{w:an}{Q:dR->Act->an->Prop}
def xy{c:bA}{x y:eZ}(h:x.wp P Q a w)(hc:a.eval c=.bool af:=by kernel_rfl):(Code.cond c x y).wp P Q a w:=wp_cond_true hc h
def tp{c:bA}{x y:eZ}(h:y.wp P Q a w)(hc:a.eval c=.bool ah:=by kernel_rfl):(Code.cond c x y).wp P Q a w:=wp_cond_false hc h
def uA{c:bA}{x y:eZ}(b:Bool)(ht:b=af->x.wp P Q a w)(hf:b=ah->y.wp P Q a w)(hc:a.eval c=.bool b:=by kernel_rfl):(Code.cond c x y).wp P Q a w:=wp_cond_split hc ht hf
def ltF{x y:Int}(h:y<=x):decide (x<y)=ah:=decide_eq_false oM
def neF{x y:Int}(h:x=y):(x !=y)=ah:=by simpa using h
def GJ{x y:Int}(h:decide (x<y)=af):x<y:=of_decide_eq_true h
def GK{x y:Int}(h:decide (x<y)=ah):y<=x:=by have:=of_decide_eq_false h;omega
def Zo{x y:Int}(h:decide (x<=y)=af):x<=y:=of_decide_eq_true h
def Zp{x y:Int}(h:decide (x<=y)=ah):y<x:=by have:=of_decide_eq_false h;omega
def ahl{x y:Int}(h:(x !=y)=af):¬x=y:=by simpa using h
def ahm{x y:Int}(h:(x !=y)=ah):x=y:=by simpa using h
def Zq{b:Bool}(h:(!b)=af):b=ah:=by simpa using h
def Zr{b:Bool}(h:(!b)=ah):b=af:=by simpa using h
end
def DZ(P:aL)(t:aP)(cs:Array aj)(off:Nat):Option aj:=
 match(P.underlying t).map j_,(P.info? t).map (·.size)with
 |some af,aa n=>aa (.agg (cs.extract off (off+n)))
 |some ah,aa _=>cs[off]?
 |_,_=>ag
def Ll{P:aL}{t:aP}{cs:Array aj}{off:Nat}{v:aj}(h:DZ P t cs off=aa v)(w:an):(part t cs off).run P w=.ok v w:=by
 unfold DZ at h;split at h
 ·rename_i n h1 h2;obtain rfl:_=v:=by simpa using h
  cases hq:P.info? t with
  |none=>simp[hq]at h2
  |some i=>
   have hs:i.size=n:=by simpa[hq]using h2
   unfold part;simp[bH,BE h1,qp,typeInfo,hq,hs]
 ·rename_i n h1 h2;unfold part;simp[bH,BE h1,h]
 ·simp at h
def D0(P:aL)(g:aP->aj->aj->Option Bool)(xs ys:Array aj):List Field->Option Bool
 |[]=>aa af
 |f::fs=>
  match decide (f.name≠ "_")with
  |false=>D0 P g xs ys fs
  |true=>match DZ P f.type xs f.offset,DZ P f.type ys f.offset with
   |some a,aa b=>match g f.type a b,D0 P g xs ys fs with
    |some r,aa q=>aa (r&&q)
    |_,_=>ag
   |_,_=>ag
def GL(P:aL)(g:aP->aj->aj->Option Bool)(e:aP)(c:Nat)(xs ys:Array aj):List Nat->Option Bool
 |[]=>aa af
 |i::is=>
  match DZ P e xs (i*c),DZ P e ys (i*c)with
  |some a,aa b=>match g e a b,GL P g e c xs ys is with
   |some r,aa q=>aa (r&&q)
   |_,_=>ag
  |_,_=>ag
def zQ(P:aL):Nat->aP->aj->aj->Option Bool
 |0,_,_,_=>ag
 |d+1,t,x,y=>
  match P.underlying t,x,y with
  |some .bool,.bool a,.bool b=>aa (a==b)
  |some (.int _),.int k a,.int k' b=>match decide (k=k')with|true=>aa (a==b)|false=>ag
  |some (.struct _),.agg xs,.agg ys=>match P.stoodInHeld t with|true=>ag|false=>D0 P (zQ P d) xs ys (P.fieldsOf t).toList
  |some (.array n e),.agg xs,.agg ys=>match P.info? e with|some _=>GL P (zQ P d) e (P.cellsOf e) xs ys (bg n)|none=>ag
  |_,_,_=>ag
section
variable{P:aL}
def Qj{d:Nat}{g:aP->aj->aj->Option Bool}(hg:∀t x y r,g t x y=aa r->∀w,(Op.equalIn d t x y).run P w=.ok r w)(xs ys:Array aj):
 ∀(fs:List Field)(r:Bool),D0 P g xs ys fs=aa r->∀w,(Op.eqFields d xs ys fs).run P w=.ok r w
 |[],r,h,w=>by obtain rfl:af=r:=by simpa[D0]using h
               rfl
 |f::fs,r,h,w=>by
  unfold D0 at h;unfold Op.eqFields;split at h
  ·rename_i hn;have rI:¬f.name≠ "_" :=of_decide_eq_false hn;rw[if_neg rI];exact Qj hg xs ys fs r h w
  ·rename_i hn;have rI:f.name≠ "_" :=of_decide_eq_true hn;rw[if_pos rI];split at h
   ·rename_i a b ha hb;split at h
    ·rename_i r1 q h1 h2;obtain rfl:(r1&&q)=r:=by simpa using h
     simp only[bH,Ll ha,Ll hb,cD,hg _ _ _ _ h1];cases r1
     ·simp
     ·simp[Qj hg xs ys fs q h2]
    ·simp at h
   ·simp at h
def Zs{d:Nat}{g:aP->aj->aj->Option Bool}(hg:∀t x y r,g t x y=aa r->∀w,(Op.equalIn d t x y).run P w=.ok r w)(e c:Nat)(xs ys:Array aj):
 ∀(is:List Nat)(r:Bool),GL P g e c xs ys is=aa r->∀w,(Op.eqItems d e c xs ys is).run P w=.ok r w
 |[],r,h,w=>by obtain rfl:af=r:=by simpa[GL]using h
               rfl
 |i::is,r,h,w=>by
  unfold GL at h;unfold Op.eqItems;split at h
  ·rename_i a b ha hb;split at h
   ·rename_i r1 q h1 h2;obtain rfl:(r1&&q)=r:=by simpa using h
    simp only[bH,Ll ha,Ll hb,cD,hg _ _ _ _ h1];cases r1
    ·simp
    ·simp[Zs hg e c xs ys is q h2]
   ·simp at h
  ·simp at h
def Lm:∀(d:Nat)(t:aP)(x y:aj)(r:Bool),zQ P d t x y=aa r->∀w,(Op.equalIn d t x y).run P w=.ok r w
 |0,_,_,_,_,h,_=>by simp[zQ]at h
 |d+1,t,x,y,r,h,w=>by
  unfold zQ at h;split at h
  ·rename_i a b hu;obtain rfl:(a==b)=r:=by simpa using h
   exact run_equalIn_bool' w d t a b hu
  ·rename_i k0 k a k' b hu;split at h
   ·rename_i hk;obtain rfl:k=k':=of_decide_eq_true hk;obtain rfl:(a==b)=r:=by simpa using h
    exact run_equalIn_int w d t k k0 a b hu
   ·simp at h
  ·rename_i fs xs ys hu;split at h
   ·simp at h
   ·rename_i hp;have hf:P.underlying t=aa (.struct (P.fieldsOf t)):=by simp[Program.fieldsOf,hu]
    rw[run_equalIn_struct w d t xs ys hf hp];exact Qj (Lm d) xs ys _ r h w
  ·rename_i n e xs ys hu;split at h
   ·rename_i i hi;rw[run_equalIn_array w d xs ys hu hi];exact Zs (Lm d) e _ xs ys _ r h w
   ·simp at h
  ·simp at h
variable{ops:Array aA}{rest:List aA}{o:aA}{a:Act}{w:an}{Q:dR->Act->an->Prop}
def ahn{ρ:bA->aj}{t yt:aP}{x y:bA}{xs ys:Array aj}{r:Bool}(neg:Bool)(ho:o.op=.binOp (bif neg then .neq else .eql) t x y yt)(hx:ρ x=.agg xs)(hy:ρ y=.agg ys)(hg:P.eqGuardType P.depth t=ah)(he:zQ P 10000 t (.agg xs) (.agg ys)=aa r):
 (execOp ρ o).run P w=.ok (.value (.bool (bif neg then !r else r))) w:=by
 have h:=Lm 10000 t (.agg xs) (.agg ys) r he w;unfold execOp;cases neg<;>simp only[ho,hx,hy,cond_true,cond_false,bH,run_eqGuard_agg _ _ t x y xs ys hg,cD,run_eql_struct,run_neq_struct,h,de]
end
def Qk{a b:Nat}(h:a<=b):(2:Int)^a<=2^b:=by
 have:=Nat.pow_le_pow_right (n:=2) oM h;have h1:((2^a:Nat):Int)=(2:Int)^a:=sP;have h2:((2^b:Nat):Int)=(2:Int)^b:=sP;omega
def aho{a b:Nat}(h:a<=b):(2:Int)^a∣2^b:=by
 obtain⟨c,rfl⟩:=Nat.exists_eq_add_of_le h;exact⟨2^c,Int.pow_add 2 a c⟩
def wrap_small(kd:gw)(x:Int)(j:Nat)(h0:0<=x)(h1:x<2^j)(hj:j<kd.bits):kd.wrap x=x:=by
 have h2:((2:Int)^j)<=2^(kd.bits-1):=Qk oM;have h3:((2:Int)^(kd.bits-1))<=2^kd.bits:=Qk oM;unfold vH;have h4:x%(2^kd.bits:Int)=x:=KZ h0 oM;simp only[h4];rw[if_neg];simp only[bJ,decide_eq_true_eq,not_and];intro _;omega
def tq(kd:gw)(n m q:Int)(j:Nat)(hm:m=2^j-1)(hq:q=2^j)(hj:j<kd.bits):bits .and kd n m=n%q:=by
 subst hm hq;have hp:(0:Int)<2^j:=Int.pow_pos oM;have hle:(2:Int)^j<=2^kd.bits:=Qk oM;unfold bits;simp only[BitVec.toNat_and];have h1:(qt kd.bits ((2:Int)^j-1)).toNat=2^j-1:=by
  simp only[K1];have h2:((2:Int)^kd.bits)=((2^kd.bits:Nat):Int):=sP;rw[<-h2,KZ oM oM];have:((2:Int)^j)=((2^j:Nat):Int):=sP;omega
 have h5:(qt kd.bits n).toNat%2^j=(n%2^j).toNat:=by
  simp only[K1];have h2:((2^kd.bits:Nat):Int)=(2:Int)^kd.bits:=sP;rw[h2];have h6:(0:Int)<=n%2^kd.bits:=Int.emod_nonneg _ (by have:(0:Int)<2^kd.bits:=Int.pow_pos oM
                                                                                                                             omega)
  have h7:(n%2^kd.bits)%2^j=n%2^j:=Int.emod_emod_of_dvd n (aho oM);rw[<-h7];have:((2^j:Nat):Int)=(2:Int)^j:=sP;rw[<-this];have:=Int.natCast_emod (n%2^kd.bits).toNat (2^j);rw[Int.toNat_of_nonneg h6]at this;omega
 rw[h1,ag4,h5];have h0:=Int.emod_nonneg n (by omega:(2:Int)^j≠0);rw[Int.toNat_of_nonneg h0];exact wrap_small kd _ j h0 (Int.emod_lt_of_pos _ hp) hj
def D4{a b:Bool}(h:a=ah)(k:b=ah):(a||b)=ah:=by simp[h,k]
def ahp{P:aL}{f:fG}{ak:Array aj}{w:an}{x:aj}(h:ba P f ak w λv w'=>v=x/\Ch [] w w'):Calls P f ak w λe w'=>e=.returned x/\Below w.heap.size w w':=by
 refine Calls.mono h ?_;rintro e w' ⟨v,rfl,rfl,hc⟩;exact⟨rfl,hc.below⟩
def St.ob{ms:List Nat}{w0 w:an}{bs:List av}(S:St ms w0 bs w)(i:Nat)(wr:Bool)(t:aP){b:Nat}{cs:Array aj}{fr:Nat×Nat}(h:bs[i]?=aa ⟨b,wr,.cells cs t fr⟩:=by kernel_rfl):w.heap[b]?=aa (.cells cs t fr):=S.at_ i _ h
def St.conv{ms:List Nat}{w0 w:an}{bs bs':List av}(S:St ms w0 bs w)(h:bs=bs'):St ms w0 bs' w:=h▸S
def Yields(P:aL)(o:aA)(ρ:bA->aj)(w:an)(R:aj->an->Prop):Prop:=
 match(execOp ρ o).run P w with
 |.ok (.value v) w'=>R v w'
 |.ok .skip w'=>R undef w'
 |.ok (.enter f ak) w'=>ba P f ak w' R
 |_=>False
def xz(y:Nat->aj):bA->aj
 |.tmp t=>y t
 |.const v=>v
 |.global g=>.pointer (aa ⟨g,0,ag⟩)
 |.func f=>.func (.func f) #[] #[]
def dp(a:Act):Nat->aj:=λt=>a.tmps.getD t undef
def Zt(a:Act):xz (dp a)=a.eval:=by funext x;cases x<;>rfl
def Yields.wp{P:aL}{o:aA}{a:Act}{w:an}{R:aj->an->Prop}{K:Act->an->Prop}{Q:dR->Act->an->Prop}(h:Yields P o a.eval w R)(hk:∀v w',R v w'->K (a.put o.dst v) w'):o.wp P a w K Q:=by
 unfold Yields at h;unfold rz;generalize (execOp a.eval o).run P w=r at*;cases r with
 |halt x w'=>simp at h
 |ok n w'=>
  cases n<;>simp at h<;>simp only[Oper.upon]
  ·exact hk _ _ h
  ·exact hk _ _ h
  ·refine Calls.mono h ?_;rintro e gI ⟨v,rfl,hv⟩;exact hk _ _ hv
structure Sp where
 k:Nat
 f:List Nat->aj
 bl:List Nat->List (Nat×Obj)
def Sp.holds(s:Sp)(B:Nat)(v:aj)(w:an):Prop:=∃ae:List Nat,ae.length=s.k/\v=s.f ae/\∀p∈s.bl ae,B<=p.1/\w.heap[p.1]?=aa p.2
def Sp.holds.GM{s:Sp}{B:Nat}{v:aj}{w w':an}(h:s.holds B v w)(hc:Ch [] w w'):s.holds B v w':=by
 obtain⟨ae,h1,h2,h3⟩:=h;exact⟨ae,h1,h2,λp hp=>⟨(h3 p hp).1,(hc.block _ (oH (h3 p hp).2) sP).trans (h3 p hp).2⟩⟩
def lR(o:aA)(j:Nat):Bool:=o.after.any λe=>e.on==j&&s_ .any e
def pC(l:List aA)(o:aA)(y:Nat->aj):Bool:=
 match o.guard with
 |none=>af
 |some (j,want)=>match(l[j]?).bind (·.dst)with
  |some d=>match y d with
   |.bool b=>b==want
   |_=>ah
  |none=>ah
def Zu(l:List aA)(o:aA)(a:Act):gU o (yielded l.toArray a.tmps)=pC l o (dp a):=by
 unfold gU pC;cases hg:o.guard with
 |none=>rfl
 |some p=>
  obtain⟨j,want⟩:=p;simp only[yielded,j7];cases hd:(l[j]?).bind (·.dst)with
  |none=>simp
  |some d=>
   simp only[Option.bind_some,dp,jO];cases ht:a.tmps[d]?with
   |none=>simp[undef]
   |some v=>cases v<;>simp
def xA(l:List aA)(i t:Nat):Bool:=l.all λok=>ok.dst !=aa t||lR ok i
def BI(P:aL)(lf l:List aA)(sp:Nat->Sp)(y0:Nat->aj)(w:an)(i:Nat)(o:aA):Prop:=
 ∀(y:Nat->aj)(w':an),Ch [] w w'->(∀t,xA l i t=af->y t=y0 t)->
  (∀j d,lR o j=af->(l[j]?).bind (·.dst)=aa d->(sp j).holds w.heap.size (y d) w')->
  (pC lf o y=af->Yields P o (xz y) w' λv gI=>Ch [] w' gI/\(sp i).holds w.heap.size v gI)/\(pC lf o y=ah->(sp i).holds w.heap.size undef w')
def tu(P:aL)(lf l:List aA)(sp:Nat->Sp)(y0:Nat->aj)(w:an):Nat->List aA->Prop
 |_,[]=>True
 |i,o::rest=>BI P lf l sp y0 w i o/\tu P lf l sp y0 w (i+1) rest
def tu.get{P:aL}{lf l:List aA}{sp:Nat->Sp}{y0:Nat->aj}{w:an}:∀{k:Nat}{m:List aA},tu P lf l sp y0 w k m->∀(i:Nat) o,m[i]?=aa o->BI P lf l sp y0 w (k+i) o
 |_,[],_,i,o,h=>by simp at h
 |k,x::rest,⟨h1,h2⟩,0,o,h=>by obtain rfl:x=o:=by simpa using h
                              exact h1
 |k,x::rest,⟨h1,h2⟩,i+1,o,h=>by
  have:=tu.get h2 i o (by simpa using h)
  rwa [show k+1+i=k+(i+1) by omega]at this
def iq(vs:Nat->aj):Nat->List aA->Act->Act
 |_,[],a=>a
 |i,o::rest,a=>iq vs (i+1) rest (a.put o.dst (vs i))
def size_put(a:Act)(d:Option Tmp)(v:aj):(a.put d v).tmps.size=a.tmps.size:=by cases d<;>simp[Act.put]
def BJ(a:Act)(d:Option Tmp)(v:aj):(a.put d v).defers=a.defers:=by cases d<;>rfl
def zR(a:Act)(d:Nat)(v:aj)(t:Nat)(hd:d<a.tmps.size):dp (a.put (aa d) v) t=if t=d then v else dp a t:=by
 simp only[dp,Act.put,jO,s9];by_cases h:d=t
 ·subst h;simp[hd]
 ·rw[if_neg h,if_neg (λe=>h e.symm)]
def Qm{a b:Act}(hs:a.tmps.size=b.tmps.size)(hd:a.defers=b.defers)(h:∀t,dp a t=dp b t):a=b:=by
 obtain⟨x,ds⟩:=a;obtain⟨y,es⟩:=b;simp only at hd hs;subst hd;congr 1;apply Array.ext hs;intro i h1 h2;have:=h i;simpa[dp,h1,h2]using this
def GN:List (Option Nat)->Bool
 |[]=>af
 |x::xs=>!(xs.any (·==x))&&GN xs
def GO(n:Nat)(l:List aA):Bool:=l.all (λo=>match o.dst with|some d=>dq d n|none=>ah)&&GN (l.map (·.dst))
def Qn:∀{l:List (Option Nat)},GN l=af->l.Nodup
 |[],_=>List.nodup_nil
 |x::xs,h=>by
  simp only[GN,bJ,pj]at h;refine uo.2 ⟨?_,Qn h.2⟩;intro hm;have:=h.1;simp only[List.any_eq_false]at this;exact this x hm sP
def qD:Nat->List aA->Bool
 |_,[]=>af
 |i,o::rest=>(o.after.all λe=>!s_ .any e||dq e.on i)&&qD (i+1) rest
def vO:∀{k:Nat}{l:List aA},qD k l=af->∀(i:Nat) o,l[i]?=aa o->∀e∈o.after,s_ .any e=af->e.on<k+i
 |_,[],_,i,o,h,_,_,_=>by simp at h
 |k,x::rest,hh,0,o,h,e,he,hb=>by
  obtain rfl:x=o:=by simpa using h
  simp only[qD,bJ,K3]at hh;have:=hh.1 e he;simp only[hb,Bool.not_true,Bool.false_or]at this;simpa[jQ]using this
 |k,x::rest,hh,i+1,o,h,e,he,hb=>by
  simp only[qD,bJ]at hh;have:=vO hh.2 i o (by simpa using h) e he hb;omega
def mY{L:Array Bool}{n i:Nat}(h:L.size=n)(hi:i<n):L[i]?=aa af\/L[i]?=aa ah:=by
 have h1:i<L.size:=oM;rw[K4 h1];cases L[i]<;>simp
def count_set:∀(L:List Bool)(i:Nat),L[i]?=aa ah->(L.set i af).count ah+1=L.count ah
 |[],i,h=>by simp at h
 |x::xs,0,h=>by obtain rfl:x=ah:=by simpa using h
                simp
 |x::xs,i+1,h=>by
  have:=count_set xs i (by simpa using h);cases x<;>simp[List.set_cons_succ]<;>omega
def Ln:∀(L:List Bool)(n m:Nat),L.length=n+m->(∀j,j<n->L[j]?=aa af)->L.count ah<=m
 |L,0,m,h,_=>by have:=List.count_le_length (a:=ah) (l:=L);omega
 |[],n+1,m,h,_=>by simp at h;omega
 |x::xs,n+1,m,h,ht=>by
  obtain rfl:x=af:=by simpa using ht 0 oM
  have:=Ln xs n m (by simp at h;omega) (λj hj=>by simpa using ht (j+1) oM);simpa using this
def count_tail:∀(L:List Bool)(n m:Nat),L.length=n+m->(∀j,n<=j->j<n+m->L[j]?=aa ah)->m<=L.count ah
 |[],n,m,h,_=>by simp at h;omega
 |x::xs,0,m,h,ht=>by
  obtain rfl:x=ah:=by simpa using ht 0 oM (by simp at h;omega)
  have:=count_tail xs 0 (m-1) (by simp at h;omega) (λj h1 h2=>by simpa using ht (j+1) oM oM);simp at h⊢;omega
 |x::xs,n+1,m,h,ht=>by
  have:=count_tail xs n m (by simp at h;omega) (λj h1 h2=>by simpa using ht (j+1) oM oM);cases x<;>simp<;>omega
def Qo:∀(L:List Bool)(n m:Nat),L.length=n+m->(∀j,n<=j->j<n+m->L[j]?=aa ah)->∀i,i<n->L[i]?=aa ah->m+1<=L.count ah
 |[],n,m,h,_,i,hi,_=>by simp at h;omega
 |x::xs,n+1,m,h,ht,i,hi,hx=>by
  have fV:m<=xs.count ah:=by
   have:=count_tail xs n m (by simp at h;omega) (λj h1 h2=>by simpa using ht (j+1) oM oM);exact this
  cases i with
  |zero=>obtain rfl:x=ah:=by simpa using hx
         simp;omega
  |succ i=>
   have:=Qo xs n m (by simp at h;omega) (λj h1 h2=>by simpa using ht (j+1) oM oM) i oM (by simpa using hx);cases x<;>simp<;>omega
 |x::xs,0,m,h,ht,i,hi,hx=>oM
section
variable{P:aL}{l:List aA}{sp:Nat->Sp}{a0:Act}{w0:an}{Q:dR->Act->an->Prop}
structure Qp(l:List aA)(n2:Nat)(sp:Nat->Sp)(a0:Act)(w0:an)(vs:Nat->aj)(ap:Array Bool)(a:Act)(w:an):Prop where
 ls:ap.size=l.length+n2
 off:∀i,l.length<=i->i<l.length+n2->ap[i]?=aa ah
 size:a.tmps.size=a0.tmps.size
 defers:a.defers=a0.defers
 ch:Ch [] w0 w
 done:∀(i:Nat)(o:aA)(d:Nat),l[i]?=aa o->o.dst=aa d->ap[i]?=aa af->dp a d=vs i/\(sp i).holds w0.heap.size (vs i) w
 rest:∀(t:Nat),(∀(i:Nat)(o:aA),l[i]?=aa o->o.dst=aa t->ap[i]?=aa ah)->dp a t=dp a0 t
 back:∀(i:Nat)(o:aA),l[i]?=aa o->ap[i]?=aa af->∀j,lR o j=af->ap[j]?=aa af
def D5(l:List aA):List Nat->Bool
 |k::j::rest=>(match l[k]?with|some o=>lR o j|none=>ah)&&D5 l (j::rest)
 |_=>af
def tz(l:List aA)(m:Nat)(paths:List (List Nat)):Bool:=
 (paths.all λp=>D5 l p)&&(bg l.length).all λk=>dq k m||(bg k).all λi=>paths.any λp=>p.head?==aa k&&p.getLast?==aa i&&dq 1 p.length
def GP{l:List aA}{ap:Array Bool}(back:∀(i:Nat)(o:aA),l[i]?=aa o->ap[i]?=aa af->∀j,lR o j=af->ap[j]?=aa af):
 ∀(p:List Nat)(k i:Nat),D5 l p=af->p.head?=aa k->p.getLast?=aa i->1<p.length->(∀o,l[k]?=aa o->∀j,lR o j=af->ap[j]?=aa af)->ap[i]?=aa af
 |[],_,_,_,h,_,_,_=>by simp at h
 |[x],_,_,_,_,_,h,_=>by simp at h
 |x::y::rest,k,i,hp,hh,hl,_,hk=>by
  obtain rfl:x=k:=by simpa using hh
  simp only[D5,bJ]at hp;cases ho:l[x]?with
  |none=>simp[ho]at hp
  |some o=>
   have hy:=hk o ho y (by simpa[ho]using hp.1);cases rest with
   |nil=>obtain rfl:y=i:=by simpa using hl
         exact hy
   |cons z rest=>exact GP back (y::z::rest) y i hp.2 rfl (by simpa using hl) sP (λoy hoy j hj=>back y oy hoy hy j hj)
def Zv(vs:Nat->aj):∀(m:List aA)(k:Nat)(a:Act),(∀o∈m,∃d,o.dst=aa d/\d<a.tmps.size)->(m.map (·.dst)).Nodup->
 (iq vs k m a).tmps.size=a.tmps.size/\(iq vs k m a).defers=a.defers/\(∀t,(∀o∈m,o.dst≠aa t)->dp (iq vs k m a) t=dp a t)/\∀i o d,m[i]?=aa o->o.dst=aa d->dp (iq vs k m a) d=vs (k+i)
 |[],k,a,_,_=>⟨rfl,rfl,λ_ _=>rfl,λi o d h=>by simp at h⟩
 |x::rest,k,a,hd,hn=>by
  obtain⟨dx,hx,dy⟩:=hd x sP;simp only[gx,uo]at hn;obtain⟨h1,h2,h3,h4⟩:=Zv vs rest (k+1) (a.put x.dst (vs k)) (λo ho=>by
   obtain⟨d,e,h⟩:=hd o (by simp[ho]);exact⟨d,e,by rw[size_put];exact h⟩) hn.2
  refine⟨by simp only[iq];rw[h1,size_put],by simp only[iq];rw[h2,BJ],?_,?_⟩
  ·intro t ht;simp only[iq];rw[h3 t (λo ho=>ht o (by simp[ho])),hx,zR _ _ _ _ dy,if_neg];intro e;subst e;exact ht x sP hx
  ·intro i o d hi ho;cases i with
   |zero=>
    obtain rfl:x=o:=by simpa using hi
    simp only[iq];obtain rfl:dx=d:=by rw[hx]at ho;simpa using ho
    rw[h3 dx (λo' lq e=>hn.1 (by rw[hx,<-e];exact List.mem_map_of_mem (f:=λx=>x.dst) lq)),hx,zR _ _ _ _ dy,if_pos rfl];rfl
   |succ i=>
    simp only[iq];rw[h4 i o d (by simpa using hi) ho];congr 1;omega
def GQ{o:aA}{j:Nat}:lR o j=af↔∃e∈o.after,e.on=j/\s_ .any e=af:=by
 unfold lR;rw[<-Array.any_toList,Bu];constructor
 ·rintro⟨e,he,hj⟩;simp only[bJ,beq_iff_eq]at hj;exact⟨e,Array.mem_toList_iff.1 he,hj.1,hj.2⟩
 ·rintro⟨e,he,h1,h2⟩;exact⟨e,Array.mem_toList_iff.2 he,by simp[h1,h2]⟩
def Qq{l:List aA}{m:Nat}{paths:List (List Nat)}(h:tz l m paths=af)(k:Nat)(hk:k<l.length)(hm:m<=k)(i:Nat)(hi:i<k):
 ∃p,D5 l p=af/\p.head?=aa k/\p.getLast?=aa i/\1<p.length:=by
 simp only[tz,bJ,ik,List.mem_range,Bv,Bu]at h;obtain⟨h1,h2⟩:=h;rcases h2 k hk with h3|h3
 ·simp[jQ]at h3;omega
 ·obtain⟨p,hp,h4⟩:=h3 i hi;simp only[beq_iff_eq,jQ]at h4;exact⟨p,h1 p hp,h4.1.1,h4.1.2,h4.2⟩
def mC(m:List aA)(ap:Array Bool)(i:Nat):i∈rA .any m.toArray ap↔∃o,m[i]?=aa o/\ap.getD i af=ah/\∀e∈o.after,s_ .any e=af->ap.getD e.on ah=af:=by
 simp only[rA,Bw,List.mem_range,List.size_toArray,j7,bJ,pj];constructor
 ·rintro⟨h1,h2,h3⟩;have hi:m[i]?=aa m[i]:=sP;refine⟨m[i],hi,h2,?_⟩;rw[hi]at h3;simp only[pk,Y3,K3,Bv,pj]at h3;intro e he hb;rcases h3 e he with h|h
  ·rw[hb]at h;cases h
  ·exact h
 ·rintro⟨o,ho,h2,h3⟩;refine⟨by rcases di i m.length with h|h;exact h;simp[h]at ho,h2,?_⟩;rw[ho];simp only[pk,Y3,K3,Bv,pj];intro e he;cases hb:s_ .any e with
  |false=>exact Or.inl rfl
  |true=>exact Or.inr (h3 e he hb)
def Zw(l2:List aA)(ir:qD 0 (l++l2)=af)(paths:List (List Nat))(ht:tz (l++l2) l.length paths=af):
 ∀(r:List aA)(k:Nat),l2.drop k=r->∀(ap:Array Bool)(a:Act)(w:an),ap.size=l.length+l2.length->(∀i,i<l.length+k->ap[i]?=aa af)->(∀i,l.length+k<=i->i<l.length+l2.length->ap[i]?=aa ah)->
  wpList P (l++l2).toArray Q r a w->wpAny P .any (l++l2).toArray Q r.length ap a w:=by
 intro r;induction r with
 |nil=>
  intro k hk ap a w dr h1 h2 h;have xp:l2.length<=k:=by simpa using hk
  refine⟨?_,h⟩;refine List.eq_nil_iff_forall_not_mem.2 λi hi=>?_;obtain⟨o,ho,hf,_⟩:=(mC _ ap i).1 hi;have hi:i<(l++l2).length:=by rcases di i (l++l2).length with h|h;exact h;simp[jA h]at ho
  have:=h1 i (by simp at hi;omega);simp[jO,this]at hf
 |cons o rest ih=>
  intro k hk ap a w dr h1 h2 h;have xp:k<l2.length:=by rcases di k l2.length with h|h;exact h;simp[List.drop_eq_nil_of_le h]at hk
  have hok:l2[k]?=aa o:=by rw[<-List.head?_drop,hk];rfl
  have aV:(l++l2)[l.length+k]?=aa o:=by rw[vI oM];simpa using hok
  refine⟨λhr=>?_,?_⟩
  ·exfalso;have:l.length+k∈rA .any (l++l2).toArray ap:=(mC _ ap _).2 ⟨o,aV,by simp[jO,h2 (l.length+k) oM oM],λe he hb=>by
    have:=vO ir _ o aV e he hb;simp[jO,h1 e.on oM]⟩
   rw[hr]at this;simp at this
  ·intro i hi;obtain⟨oi,rJ,hf,iu⟩:=(mC _ ap i).1 hi;have jE:i<(l++l2).length:=by rcases di i (l++l2).length with h|h;exact h;simp[jA h]at rJ
   have fJ:l.length+k<=i:=by
    rcases di i (l.length+k)with h|h
    ·simp[jO,h1 i h]at hf
    ·exact h
   have heq:i=l.length+k:=by
    rcases di (l.length+k) i with dy|hle
    ·exfalso;have hb:∀(x:Nat)(o':aA),(l++l2)[x]?=aa o'->ap[x]?=aa af->∀j,lR o' j=af->ap[j]?=aa af:=by
      intro x o' hx tA j hj;obtain⟨e,he,rfl,hbd⟩:=GQ.1 hj;have h3:=vO ir x o' hx e he hbd;refine h1 e.on ?_;rcases di x (l.length+k)with h|h
      ·omega
      ·have xB:x<(l++l2).length:=by rcases di x (l++l2).length with h'|h';exact h';simp[jA h']at hx
       have:=h2 x h (by simpa using xB);rw[tA]at this;simp at this
     obtain⟨p,q1,q2,q3,q4⟩:=Qq ht i (by simpa using jE) oM (l.length+k) dy;have:=GP hb p i (l.length+k) q1 q2 q3 q4 (λo' lq j hj=>by
      obtain rfl:oi=o':=by rw[rJ]at lq;simpa using lq
      obtain⟨e,he,rfl,hbd⟩:=GQ.1 hj;have h3:=iu e he hbd;have h4:=vO ir i oi rJ e he hbd;rcases mY dr (show e.on<l.length+l2.length by simp at jE;omega)with hx|hx
      ·exact hx
      ·simp[jO,hx]at h3)
     rw[h2 (l.length+k) oM oM]at this;simp at this
    ·omega
   subst heq;obtain rfl:o=oi:=by rw[aV]at rJ;simpa using rJ
   have next:∀a' w',wpList P (l++l2).toArray Q rest a' w'->wpAny P .any (l++l2).toArray Q rest.length (ap.setIfInBounds (l.length+k) af) a' w':=by
    intro a' w' h';refine ih (k+1) (by rw[<-List.drop_drop,hk];rfl) _ a' w' (by simpa using dr) ?_ ?_ h'
    ·intro j hj;rw[s9];split
     ·rename_i e;subst e;rw[if_pos oM]
     ·exact h1 j oM
    ·intro j hj zT;rw[s9,if_neg oM];exact h2 j oM zT
   unfold wpList at h;unfold wpOp;simp only[j7,aV];split at h
   ·rename_i hw;rw[if_pos hw];exact h.imp (Oper.wp_mono λa' w'=>next a' w') id
   ·rename_i hw;rw[if_neg hw];exact next _ _ h
def GR(l2:List aA)(paths:List (List Nat))(ht:tz (l++l2) l.length paths=af)(lr:GO a0.tmps.size l=af)(ir:qD 0 (l++l2)=af)(hs:tu P (l++l2) l sp (dp a0) w0 0 l)
 (hq:∀(vs:Nat->aj) w',Ch [] w0 w'->(∀i o,l[i]?=aa o->(sp i).holds w0.heap.size (vs i) w')->wpList P (l++l2).toArray Q l2 (iq vs 0 l a0) w'):
 ∀(fuel:Nat)(vs:Nat->aj)(ap:Array Bool)(a:Act)(w:an),Qp l l2.length sp a0 w0 vs ap a w->ap.toList.count ah=fuel+l2.length->wpAny P .any (l++l2).toArray Q (fuel+l2.length) ap a w:=by
 have inl:∀{i:Nat}{o:aA},(l++l2)[i]?=aa o->i<l.length->l[i]?=aa o:=λh hi=>by rwa [gB hi]at h
 have inr:∀{i:Nat}{o:aA},l[i]?=aa o->(l++l2)[i]?=aa o:=λ{i o} h=>by rwa [gB (by rcases di i l.length with h'|h';exact h';simp[h']at h)]
 simp only[GO,bJ,ik]at lr;have hd:∀o∈l,∃d,o.dst=aa d/\d<a0.tmps.size:=by
  intro o ho;have:=lr.1 o ho;cases hx:o.dst with
  |none=>simp[hx]at this
  |some d=>exact⟨d,rfl,by simpa[hx,jQ]using this⟩
 have hn:=Qn lr.2;have uniq:∀(i j:Nat) o p d,l[i]?=aa o->l[j]?=aa p->o.dst=aa d->p.dst=aa d->i=j:=by
  intro i j o p d hi hj ho hp;have jE:i<(l.map (·.dst)).length:=by simp;rcases di i l.length with h|h;exact h;simp[h]at hi
  refine(List.getElem?_inj jE hn).1 ?_;simp[hi,hj,ho,hp]
 have fin:∀vs ap a w,Qp l l2.length sp a0 w0 vs ap a w->(∀i,i<l.length->ap[i]?=aa af)->wpAny P .any (l++l2).toArray Q l2.length ap a w:=by
  intro vs ap a w I eg;obtain⟨h1,h2,h3,h4⟩:=Zv vs l 0 a0 hd hn;have:a=iq vs 0 l a0:=by
   refine Qm (by rw[I.size,h1]) (by rw[I.defers,h2]) ?_;intro t;by_cases ht:∃(i:Nat)(o:aA),l[i]?=aa o/\o.dst=aa t
   ·obtain⟨i,o,hi,ho⟩:=ht;rw[h4 i o t hi ho,d_];exact(I.done i o t hi ho (eg i (by rcases di i l.length with h|h;exact h;simp[h]at hi))).1
   ·rw[h3 t (λo ho e=>ht (by obtain⟨i,hi⟩:=DP ho;exact⟨i,o,hi,e⟩))];exact I.rest t (λi o hi ho=>absurd ⟨i,o,hi,ho⟩ ht)
  rw[this];refine Zw l2 ir paths ht l2 0 rfl ap _ w I.ls (λi hi=>eg i oM) (λi h1 h2=>I.off i oM h2) ?_;exact hq vs w I.ch λi o hi=>by
   obtain⟨d,ho,_⟩:=hd o (rC hi);exact(I.done i o d hi ho (eg i (by rcases di i l.length with h|h;exact h;simp[h]at hi))).2
 have tl:∀vs ap a w,Qp l l2.length sp a0 w0 vs ap a w->∀i,i∈rA .any (l++l2).toArray ap->l.length<=i->∀j,j<l.length->ap[j]?=aa af:=by
  intro vs ap a w I i hi fJ j hj;obtain⟨oi,rJ,hf,iu⟩:=(mC _ ap i).1 hi;have jE:i<(l++l2).length:=by rcases di i (l++l2).length with h|h;exact h;simp[jA h]at rJ
  obtain⟨p,q1,q2,q3,q4⟩:=Qq ht i jE fJ j oM;refine GP (l:=l++l2) ?_ p i j q1 q2 q3 q4 ?_
  ·intro x o hx tA k hk;rcases di x l.length with h|h
   ·exact I.back x o (inl hx h) tA k hk
   ·have xB:x<(l++l2).length:=by rcases di x (l++l2).length with h'|h';exact h';simp[jA h']at hx
    have:=I.off x h (by simpa using xB);rw[tA]at this;simp at this
  ·intro o ho k hk;obtain rfl:oi=o:=by rw[rJ]at ho;simpa using ho
   obtain⟨e,he,rfl,hbd⟩:=GQ.1 hk;have h3:=iu e he hbd;have h4:=vO ir i oi rJ e he hbd;rcases mY I.ls (show e.on<l.length+l2.length by simp at jE;omega)with hx|hx
   ·exact hx
   ·simp[jO,hx]at h3
 intro fuel;induction fuel with
 |zero=>
  intro vs ap a w I hc;have eg:∀i,i<l.length->ap[i]?=aa af:=by
   intro i hi;rcases mY I.ls (show i<l.length+l2.length by omega)with hb|hb
   ·exact hb
   ·exfalso;have h4:=Qo ap.toList l.length l2.length (by simpa using I.ls) (λj h1 h2=>by simpa using I.off j h1 h2) i hi (by simpa using hb);omega
  rw[d_];exact fin vs ap a w I eg
 |succ fuel ih=>
  intro vs ap a w I hc;by_cases BK:∀i,i<l.length->ap[i]?=aa af
  ·exfalso;have:=Ln ap.toList l.length l2.length (by simpa using I.ls) (λj h1=>by simpa using BK j h1);omega
  rw[show fuel+1+l2.length=(fuel+l2.length)+1 by omega];refine⟨λhr=>?_,?_⟩
  ·
   exfalso;refine BK ?_;intro i;induction i using Nat.strongRecOn with
   |_ i Qr=>
    intro hi;rcases mY I.ls (show i<l.length+l2.length by omega)with hb|hb
    ·exact hb
    ·exfalso;have:i∈rA .any (l++l2).toArray ap:=(mC _ ap i).2 ⟨l[i],inr sP,by simp[jO,hb],λe he Qs=>by
      have dy:=vO ir i l[i] (inr sP) e he Qs;have:=Qr e.on oM oM;simp[jO,this]⟩
     rw[hr]at this;simp at this
  ·intro i hi;have jE:i<l.length:=by
    rcases di i l.length with h|h
    ·exact h
    ·exact absurd (tl vs ap a w I i hi h) BK
   obtain⟨o,nM,h2,h3⟩:=(mC _ ap i).1 hi;have ho:=inl nM jE;have uB:ap[i]?=aa ah:=by
    rcases mY I.ls (show i<l.length+l2.length by omega)with hb|hb
    ·simp[jO,hb]at h2
    ·exact hb
   obtain⟨d,D6,Qt⟩:=hd o (rC ho);have iu:∀j,lR o j=af->ap[j]?=aa af:=by
    intro j hj;unfold lR at hj;rw[<-Array.any_toList,Bu]at hj;obtain⟨e,he,hj⟩:=hj;simp only[bJ,beq_iff_eq]at hj;obtain⟨rfl,hb⟩:=hj;have he:=Array.mem_toList_iff.1 he;have h4:=h3 e he hb;have dy:=vO ir i o nM e he hb;rcases mY I.ls (show e.on<l.length+l2.length by omega)with hb|hb
    ·exact hb
    ·simp[jO,hb]at h4
   have step:=(tu.get hs i o ho) (dp a) w I.ch (λt ht=>by
    refine I.rest t λk ok hk hok=>?_;rw[xA,ik]at ht;have:=ht ok (rC hk);simp only[hok,bne_self_eq_false,Bool.false_or]at this;have xp:k<l.length:=by rcases di k l.length with h|h;exact h;simp[h]at hk
    rcases mY I.ls (show k<l.length+l2.length by omega)with hb|hb
    ·have:=I.back k ok hk hb i (by simpa using this);rw[uB]at this;simp at this
    ·exact hb)
    (λj dj hj pD=>by
     cases e_:l[j]?with
     |none=>simp[e_]at pD
     |some oj=>
      have:=I.done j oj dj e_ (by simpa[e_]using pD) (iu j hj);rw[this.1];exact this.2)
   rw[d_]at step;have next:∀v w',Ch [] w w'->(sp i).holds w0.heap.size v w'->wpAny P .any (l++l2).toArray Q (fuel+l2.length) (ap.setIfInBounds i af) (a.put o.dst v) w':=by
    intro v w' vP hv;refine ih (λj=>if j=i then v else vs j) _ _ _ ?_ ?_
    ·have gl:∀j b,(ap.setIfInBounds i af)[j]?=aa b->(j=i/\b=af)\/(j≠i/\ap[j]?=aa b):=by
      intro j b hj;rw[s9]at hj;by_cases h:i=j
      ·subst h;have:i<l.length+l2.length:=oM;simp[I.ls,this]at hj;exact Or.inl ⟨rfl,hj⟩
      ·rw[if_neg h]at hj;exact Or.inr ⟨λe=>h e.symm,hj⟩
     have yp:∀t,dp (a.put o.dst v) t=if t=d then v else dp a t:=λt=>by rw[D6];exact zR _ _ _ _ (by rw[I.size];exact Qt)
     refine⟨by simp[I.ls],λj h1 h2=>by
      rw[s9,if_neg oM];exact I.off j h1 h2,by rw[size_put,I.size],by rw[BJ,I.defers],I.ch.trans vP sP,?_,?_,?_⟩
     ·intro j oj dj hj pD e_;rcases gl j af e_ with⟨rfl,_⟩|⟨c_,e_⟩
      ·obtain rfl:o=oj:=by rw[ho]at hj;simpa using hj
       obtain rfl:d=dj:=by rw[D6]at pD;simpa using pD
       rw[yp];simp;exact hv
      ·have:=I.done j oj dj hj pD e_;rw[yp,if_neg (λ(e:dj=d)=>c_ (uniq j i oj o d hj ho (e▸pD) D6)),if_neg c_];exact⟨this.1,this.2.GM vP⟩
     ·intro t ht;rw[yp,if_neg]
      ·refine I.rest t λk ok hk hok=>?_;have:=ht k ok hk hok;rcases gl k ah this with⟨_,h⟩|⟨_,h⟩
       ·cases h
       ·exact h
      ·rintro rfl;have:=ht i o ho D6;rcases gl i ah this with⟨_,h⟩|⟨h,_⟩
       ·cases h
       ·exact h rfl
     ·intro k ok hk mZ j hj;have hb:ap[j]?=aa af:=by
       rcases gl k af mZ with⟨rfl,_⟩|⟨c_,mZ⟩
       ·obtain rfl:o=ok:=by rw[ho]at hk;simpa using hk
        exact iu j hj
       ·exact I.back k ok hk mZ j hj
      rw[s9];split
      ·rename_i h;subst h;rw[uB]at hb;simp at hb
      ·exact hb
    ·have h2:ap[i]?=aa ah:=uB;have ahq:=count_set ap.toList i (by simpa using h2);simp only[K5];omega
   unfold wpOp;simp only[j7,nM];rw[Zu];cases hw:pC (l++l2) o (dp a)with
   |true=>
    rw[if_pos rfl];refine Or.inl ?_;have hy:=step.1 hw;rw[Zt]at hy;exact Yields.wp hy λv w' ⟨vP,hv⟩=>next v w' vP hv
   |false=>
    rw[if_neg sP];exact next undef w (Ch.refl _ _) (step.2 hw)
def ahr{id:Nat}(l l2:List aA)(sp:Nat->Sp)(paths:List (List Nat))(hm:P.follows .mixedOrders=af)(ht:tz (l++l2) l.length paths=af)(lr:GO a0.tmps.size l=af)(ir:qD 0 (l++l2)=af)(hs:tu P (l++l2) l sp (dp a0) w0 0 l)
 (hq:∀(vs:Nat->aj) w',Ch [] w0 w'->(∀i o,l[i]?=aa o->(sp i).holds w0.heap.size (vs i) w')->wpList P (l++l2).toArray Q l2 (iq vs 0 l a0) w'):(Code.region id (l++l2).toArray af).wp P Q a0 w0:=by
 refine wp_region_any hm ?_;have h:=GR l2 paths ht lr ir hs hq l.length (λ_=>undef) (zL (l++l2).toArray.size ah) a0 {w0 with drawn:=w0.drawn+1} ?_ ?_
 ·rw[show(l++l2).toArray.size=l.length+l2.length by simp];rw[show(l++l2).toArray.size=l.length+l2.length by simp]at h;exact h
 ·refine⟨sP,λi h1 h2=>by simp[Bx];omega,rfl,rfl,(Ch.refl _ _).drew,?_,λ_ _=>rfl,?_⟩
  ·intro i o d _ _ h;simp[Bx]at h
  ·intro i o _ h;simp[Bx]at h
 ·simp[Y4]
end
def tB(l:List Sp):Nat->Sp:=λi=>l.getD i ⟨0,λ_=>undef,λ_=>[]⟩
section
variable{B:Nat}{x:aj}{w:an}{f:List Nat->aj}{bl:List Nat->List (Nat×Obj)}
def Sp.iy(h:(⟨0,f,bl⟩:Sp).holds B x w):x=f []/\∀p∈bl [],B<=p.1/\w.heap[p.1]?=aa p.2:=by
 obtain⟨ae,h1,h2,h3⟩:=h;obtain rfl:ae=[]:=by simpa using h1
 exact⟨h2,h3⟩
def Sp.xC(h:(⟨1,f,bl⟩:Sp).holds B x w):∃b,x=f [b]/\∀p∈bl [b],B<=p.1/\w.heap[p.1]?=aa p.2:=by
 obtain⟨ae,h1,h2,h3⟩:=h
 match ae,h1 with
 |[b],_=>exact⟨b,h2,h3⟩
def Sp.Zx(h:(⟨2,f,bl⟩:Sp).holds B x w):∃b c,x=f [b,c]/\∀p∈bl [b,c],B<=p.1/\w.heap[p.1]?=aa p.2:=by
 obtain⟨ae,h1,h2,h3⟩:=h
 match ae,h1 with
 |[b,c],_=>exact⟨b,c,h2,h3⟩
def Sp.Zy(h:(⟨3,f,bl⟩:Sp).holds B x w):∃b c d,x=f [b,c,d]/\∀p∈bl [b,c,d],B<=p.1/\w.heap[p.1]?=aa p.2:=by
 obtain⟨ae,h1,h2,h3⟩:=h
 match ae,h1 with
 |[b,c,d],_=>exact⟨b,c,d,h2,h3⟩
end
def St.ro{ms:List Nat}{w0 w w':an}{bs:List av}(S:St ms w0 bs w)(hc:Ch [] w w')(ps:List (Nat×Obj))(h:∀p∈ps,w.heap.size<=p.1/\w'.heap[p.1]?=aa p.2):St ms w0 (ps.map (λp=>⟨p.1,ah,p.2⟩)++bs) w':=by
 have hq:=S.quiet hc;have m6:∀(i:Nat) x,(ps.map (λp=>(⟨p.1,ah,p.2⟩:av))++bs)[i]?=aa x->(∃p∈ps,x=⟨p.1,ah,p.2⟩/\i<ps.length)\/(ps.length<=i/\bs[i-ps.length]?=aa x):=by
  intro i x hx;rcases di i ps.length with hi|hi
  ·rw[gB (by simpa using hi)]at hx;simp only[kA,jr]at hx;obtain⟨p,hp,rfl⟩:=hx;exact Or.inl ⟨p,rC hp,rfl,hi⟩
  ·rw[vI (by simpa using hi)]at hx;exact Or.inr ⟨hi,by simpa using hx⟩
 refine⟨hq.ch,?_,?_,?_⟩
 ·intro i x hx;rcases m6 i x hx with⟨p,hp,rfl,_⟩|⟨_,hx⟩
  ·exact(h p hp).2
  ·exact hq.at_ _ x hx
 ·intro i x hx hw;rcases m6 i x hx with⟨p,hp,rfl,_⟩|⟨_,hx⟩
  ·cases hw
  ·exact hq.own _ x hx hw
 ·intro i j x y hx hy c_ hw;rcases m6 i x hx with⟨p,hp,rfl,_⟩|⟨hi,hx⟩
  ·cases hw
  ·rcases m6 j y hy with⟨p,hp,rfl,_⟩|⟨hj,hy⟩
   ·have:=S.lt hx;have:=(h p hp).1;simp;omega
   ·exact hq.apart _ _ x y hx hy oM hw
def St.loc{ms:List Nat}{w0 w:an}{bs:List av}(S:St ms w0 bs w):St [] w (bs.map λx=>⟨x.id,ah,x.obj⟩) w:=by
 refine⟨Ch.refl _ _,?_,?_,?_⟩
 ·intro i x hx;simp only[kA,jr]at hx;obtain⟨y,hy,rfl⟩:=hx;exact S.at_ i y hy
 ·intro i x hx hw;simp only[kA,jr]at hx;obtain⟨y,hy,rfl⟩:=hx;cases hw
 ·intro i j x y hx hy c_ hw;simp only[kA,jr]at hx;obtain⟨y,hy,rfl⟩:=hx;cases hw
def St.xD{w0 w:an}{bs:List av}(S:St [] w0 bs w){B:Nat}(hB:B<=w0.heap.size)(i:Nat){b:Nat}{o:Obj}(hi:bs[i]?=aa ⟨b,af,o⟩):B<=b/\w.heap[b]?=aa o:=by
 refine⟨?_,S.at_ i _ hi⟩;rcases S.own i _ hi rfl with h|h
 ·simp at h
 ·exact h_ hB h
def St.Zz{w0 w:an}{bs:List av}(S:St [] w0 bs w){B:Nat}(i:Nat){b:Nat}{o:Obj}(hB:B<=b)(wr:Bool)(hi:bs[i]?=aa ⟨b,wr,o⟩):B<=b/\w.heap[b]?=aa o:=⟨hB,S.at_ i _ hi⟩
def uC:List aj->List aA->Act->Act
 |v::vs,o::rest,a=>uC vs rest (a.put o.dst v)
 |_,_,a=>a
def BL(vs:Nat->aj):Nat->List aj->Prop
 |_,[]=>True
 |i,v::rest=>vs i=v/\BL vs (i+1) rest
def ZA{vs:Nat->aj}:∀{l:List aA}{eE:List aj}{k:Nat}{a:Act},eE.length=l.length->BL vs k eE->iq vs k l a=uC eE l a
 |[],[],_,_,_,_=>rfl
 |o::rest,v::eE,k,a,h,⟨h1,h2⟩=>by
  simp only[iq,uC,h1];exact ZA (by simpa using h) h2
 |[],_::_,_,_,h,_=>by simp at h
 |_::_,[],_,_,h,_=>by simp at h
def lS(env:List (Nat×aj)):bA->aj:=xz λt=>(env.lookup t).getD undef
def zU(y:Nat->aj):List (Nat×aj)->Prop
 |[]=>True
 |p::rest=>y p.1=p.2/\zU y rest
def ZB{y:Nat->aj}:∀{env:List (Nat×aj)},zU y env->∀t v,env.lookup t=aa v->y t=v
 |[],_,t,v,h=>by simp at h
 |(s,u)::rest,⟨h1,h2⟩,t,v,h=>by
  rw[List.lookup_cons]at h;cases dX:t==s with
  |true=>
   simp[dX]at h;have:t=s:=by simpa using dX
   subst this;subst h;exact h1
  |false=>
   simp[dX]at h;exact ZB h2 t v h
def zV(env:List (Nat×aj))(o:aA):Bool:=o.op.operands.all (λx=>match x with|.tmp t=>(env.lookup t).isSome|_=>af)&&(match o.op with|.select .. =>ah|_=>af)
section
variable{P:aL}{o:aA}{w w0:an}{ms:List Nat}{bs:List av}{R:aj->an->Prop}{y:Nat->aj}
def pE(env:List (Nat×aj))(hy:zU y env)(h:Yields P o (lS env) w R)(oI:zV env o=af:=by kernel_rfl):Yields P o (xz y) w R:=by
 have:execOp (xz y) o=execOp (lS env) o:=by
  simp only[zV,bJ]at oI;refine execOp_congr o ?_ ?_
  ·intro cs b ahs;rw[ahs]at oI;simp at oI
  ·intro x hx;have h1:=K3.1 oI.1 x hx;cases x with
   |tmp t=>
    simp only at h1;cases hl:env.lookup t with
    |none=>simp[hl]at h1
    |some v=>simp[xz,lS,hl,ZB hy t v hl]
   |_=>rfl
 unfold Yields at*;rw[this];exact h
def aht{A C:Prop}{b:Bool}(hw:b=af)(h:A):(b=af->A)/\(b=ah->C):=⟨λ_=>h,λe=>by rw[hw]at e;cases e⟩
end
def uD{y:Nat->aj}:zU y []:=trivial
def rK{y:Nat->aj}{t:Nat}{v:aj}{env:List (Nat×aj)}(h:y t=v)(k:zU y env):zU y ((t,v)::env):=⟨h,k⟩
def Lo{vs:Nat->aj}{i:Nat}:BL vs i []:=trivial
def iz{vs:Nat->aj}{i:Nat}{v:aj}{rest:List aj}(h:vs i=v)(k:BL vs (i+1) rest):BL vs i (v::rest):=⟨h,k⟩
def all_nil{α:Type}{C:α->Prop}:∀p∈([]:List α),C p:=λp hp=>by cases hp
def all_cons{α:Type}{C:α->Prop}{x:α}{xs:List α}(h:C x)(k:∀p∈xs,C p):∀p∈x::xs,C p:=λp hp=>by
 rcases cG.1 hp with rfl|hp
 ·exact h
 ·exact k p hp
def Sp.uE{s:Sp}{B:Nat}{v:aj}{w:an}(ae:List Nat)(h3:∀p∈s.bl ae,B<=p.1/\w.heap[p.1]?=aa p.2)(h1:ae.length=s.k:=by kernel_rfl)(h2:v=s.f ae:=by kernel_rfl):s.holds B v w:=⟨ae,h1,h2,h3⟩
def GS{P:aL}{lf l:List aA}{sp:Nat->Sp}{y0:Nat->aj}{w:an}{i:Nat}:tu P lf l sp y0 w i []:=trivial
def step_cons{P:aL}{lf l:List aA}{sp:Nat->Sp}{y0:Nat->aj}{w:an}{i:Nat}{o:aA}{rest:List aA}(h:BI P lf l sp y0 w i o)(k:tu P lf l sp y0 w (i+1) rest):tu P lf l sp y0 w i (o::rest):=⟨h,k⟩
def uF{A C:Prop}(h:A){b:Bool}(hw:b=af:=by kernel_rfl):(b=af->A)/\(b=ah->C):=aht hw h
def St.given{w:an}(ps:List (Nat×Obj))(h:∀p∈ps,w.heap[p.1]?=aa p.2):St [] w (ps.map λp=>⟨p.1,ah,p.2⟩) w:=by
 refine⟨Ch.refl _ _,?_,?_,?_⟩
 ·intro i x hx;simp only[kA,jr]at hx;obtain⟨p,hp,rfl⟩:=hx;exact h p (rC hp)
 ·intro i x hx hw;simp only[kA,jr]at hx;obtain⟨p,hp,rfl⟩:=hx;cases hw
 ·intro i j x y hx hy c_ hw;simp only[kA,jr]at hx;obtain⟨p,hp,rfl⟩:=hx;cases hw
def GU{P:aL}{a0:Act}{w0:an}{Q:dR->Act->an->Prop}{id:Nat}{L:List aA}(m:Nat)(sp:List Sp)(paths:List (List Nat))
 (hs:tu P L (L.take m) (tB sp) (dp a0) w0 0 (L.take m))
 (hq:∀(vs:Nat->aj) w',Ch [] w0 w'->(∀i,dq i m=af->(tB sp i).holds w0.heap.size (vs i) w')->∃eE:List aj,eE.length=m/\BL vs 0 eE/\WL P L.toArray Q (L.drop m) (uC eE (L.take m) a0) w')
 (hm:P.follows .mixedOrders=af:=by kernel_rfl) (hl:ck m L.length=af:=by kernel_rfl) (ht:tz L m paths=af:=by kernel_rfl) (lr:GO a0.tmps.size (L.take m)=af:=by kernel_rfl) (ir:qD 0 L=af:=by kernel_rfl):(Code.region id L.toArray af).wp P Q a0 w0:=by
 have tD:(L.take m).length=m:=by have:=eU hl;simp;omega
 have h:=ahr (id:=id) (Q:=Q) (P:=P) (a0:=a0) (w0:=w0) (L.take m) (L.drop m) (tB sp) paths hm (by rw[jR,tD];exact ht) lr (by rw[jR];exact ir) (by rw[jR];exact hs) ?_
 ·rwa [jR]at h
 ·intro vs w' hc eg;rw[jR];obtain⟨eE,h1,h2,h3⟩:=hq vs w' hc λi hi=>by
   have mD:i<m:=by simpa[jQ]using hi
   exact eg i _ (jh oM)
  rw[ZA (by rw[h1,tD]) h2];exact h3.out
namespace Y
section
variable{P:aL}{o:aA}{w w0:an}{ms:List Nat}{bs:List av}{R:aj->an->Prop}{ρ:bA->aj}
def aG(v:aj)(k:R v w)(h:(execOp ρ o).run P w=.ok (.value v) w:=by kernel_rfl):Yields P o ρ w R:=by unfold Yields;rw[h];exact k
def pz(v v':aj)(he:v=v')(k:R v' w)(h:(execOp ρ o).run P w=.ok (.value v) w:=by kernel_rfl):Yields P o ρ w R:=by subst he;exact aG v k h
def pB(kd:gw)(e:Int)(he:kd.wrap e=e)(k:R (.int kd e) w)(h:(execOp ρ o).run P w=.ok (.value (.int kd (kd.wrap e))) w:=by kernel_rfl):Yields P o ρ w R:=pz _ _ (by rw[he]) k h
def dI{x:bA}(k:R (ρ x) w)(ho:o.op=.move x:=by rfl):Yields P o ρ w R:=aG _ k (by unfold execOp;simp[ho])
def gC{x:bA}(k:R (ρ x) w)(ho:o.op=.assign x:=by rfl):Yields P o ρ w R:=aG _ k (by unfold execOp;simp[ho])
def rH(S:St ms w0 bs w)(i:Nat)(v:aj)(b off:Nat){x:bA}{ty:aP}(k:R v w)(ho:o.op=.load ty x:=by rfl)(hx:ρ x=.pointer (aa ⟨b,off,ag⟩):=by kernel_rfl)
 (ha:(P.underlying ty).map j_=aa ah:=by kernel_rfl) (hb:lk bs i off=aa (b,v):=by kernel_rfl):Yields P o ρ w R:=by
 obtain⟨wr,cs,t,fr,hb,hc⟩:=Zk hb;unfold Yields execOp;simp only[ho,hx,qq,jt,bH,de,cD,BF (S.at_ i _ hb) ha hc];exact k
def nL(S:St ms w0 bs w)(i:Nat)(n:Nat)(vs:Array aj)(b off:Nat){x:bA}{ty:aP}(k:R (.agg vs) w)(ho:o.op=.load ty x:=by rfl)(hx:ρ x=.pointer (aa ⟨b,off,ag⟩):=by kernel_rfl)
 (ha:(P.underlying ty).map j_=aa af:=by kernel_rfl) (hn:(P.info? ty).map (·.size)=aa n:=by kernel_rfl) (hb:zO bs i off n=aa (b,vs):=by kernel_rfl):Yields P o ρ w R:=by
 obtain⟨wr,cs,t,fr,hb,hc,hv⟩:=Lh hb;unfold Yields execOp;simp only[ho,hx,qq,jt,bH,de,cD,BG (S.at_ i _ hb) ha hn hc hv];exact k
def fQ(S:St ms w0 bs w)(f:Nat->aj)(obj:Obj)(k:∀b w',St ms w0 (⟨b,af,obj⟩::bs) w'->R (f b) w')(h:(execOp ρ o).run P w=.ok (.value (f w.heap.size)) (w.alloc obj):=by kernel_rfl):Yields P o ρ w R:=by
 unfold Yields;rw[h];exact k _ _ (S.new (Ch.alloc _ _ _) (cW _) (oB w obj))
def gH(f:fG)(ak:Array aj)(k:ba P f ak w R)(h:(execOp ρ o).run P w=.ok (.enter f ak) w:=by kernel_rfl):Yields P o ρ w R:=by unfold Yields;rw[h];exact k
end
end Y
section
variable{P:aL}{a:Act}{w:an}{Q:dR->Act->an->Prop}
def Qu{p:Nat->Prop}(h:∃n,p n):∃n,p n/\∀m,p m->n<=m:=by
 obtain⟨n,hn⟩:=h;induction n using Nat.strongRecOn with
 |_ n ih=>
  by_cases hm:∃m,m<n/\p m
  ·obtain⟨m,hl,hp⟩:=hm;exact ih m hl hp
  ·refine⟨n,hn,λm hp=>?_⟩;by_cases hl:m<n
   ·exact absurd ⟨m,hl,hp⟩ hm
   ·omega
open Classical in
def ahu{c:eZ}(I:Nat->Act->an->Prop)(n:Nat)(h:I n a w)
 (round:∀n a w,I n a w->c.wp P (Exit.then (λa' w'=>∃m,m<n/\I m a' w') Q) a w):(Code.loop c).wp P Q a w:=by
 refine wp_loop (λa w=>∃n,I n a w) (λa w=>if h:∃n,I n a w then choose (Qu h)else 0) ⟨n,h⟩ ?_;intro a w hI;have hs:=choose_spec (Qu hI);refine wp_mono (round _ a w hs.1) ?_;intro e a' w' hh;cases e with
 |normal=>
  obtain⟨m,hm,hi⟩:=hh;refine⟨⟨m,hi⟩,?_⟩;have hx:∃n,I n a' w':=⟨m,hi⟩;have hy:=(choose_spec (Qu hx)).2 m hi;simp only[dif_pos hx,dif_pos hI];omega
 |_=>exact hh
end
section
variable{P:aL}{ops:Array aA}{Q:dR->Act->an->Prop}{rest:List aA}{a:Act}{w w0:an}{o:aA}{ms:List Nat}{bs:List av}
def St.ahv(S:St ms w0 bs w){b off:Nat}{v:aj}(hc:w0.cell? ⟨b,off,ag⟩=aa v)(hm:b∉ms):w.cell? ⟨b,off,ag⟩=aa v:=by
 have hb:b<w0.heap.size:=by
  unfold zK at hc;split at hc
  ·next h=>exact oH h
  ·exact absurd hc sP
 have:=S.ch.block b hb hm;unfold zK at hc⊢;simpa only[this]using hc
def tF(b off i n z c:Nat)(kd:gw)(iv:Int){t e:aP}{x y:bA}(h0:0<=iv)(h1:iv<n)(he:i=iv.toNat)(k:WL P ops Q rest (a.put o.dst (.pointer (aa ⟨b,off+i*z,ag⟩))) w)(hw:gU o (yielded ops a.tmps)=af:=by kernel_rfl)
 (ho:o.op=.indexAddr t x y:=by rfl) (hu:P.underlying t=aa (.slice e):=by kernel_rfl) (hz:(P.info? e).map (·.size)=aa z:=by kernel_rfl)
 (hx:a.eval x=.slice (aa ⟨b,off,ag⟩) n c:=by kernel_rfl) (hy:a.eval y=.int kd iv:=by kernel_rfl):WL P ops Q (o::rest) a w:=
 aG (.pointer (aa ⟨b,off+i*z,ag⟩)) k hw (by
  subst he;have BH:∀q:Nat,(⟨b,off,ag⟩:aF).add q=⟨b,off+q,ag⟩:=λq=>by
   by_cases hq:q=0
   ·subst hq;rfl
   ·simp[qo,hq]
  cases hq:P.info? e with
  |none=>simp[hq]at hz
  |some inf=>
   have dr:inf.size=z:=by simpa[hq]using hz
   unfold execOp;simp only[ho,hx,hy];unfold uq;simp only[bH,dF hu,cD,asIntOf,de];simp[h0,h1,qp,typeInfo,hq,dr,BH])
end
namespace Y
section
variable{P:aL}{w w0:an}{o:aA}{ms:List Nat}{bs:List av}{R:aj->an->Prop}{ρ:bA->aj}
def tF(b off i n z c:Nat)(kd:gw)(iv:Int){t e:aP}{x y:bA}(h0:0<=iv)(h1:iv<n)(he:i=iv.toNat)(k:R (.pointer (aa ⟨b,off+i*z,ag⟩)) w)
 (ho:o.op=.indexAddr t x y:=by rfl) (hu:P.underlying t=aa (.slice e):=by kernel_rfl) (hz:(P.info? e).map (·.size)=aa z:=by kernel_rfl)
 (hx:ρ x=.slice (aa ⟨b,off,ag⟩) n c:=by kernel_rfl) (hy:ρ y=.int kd iv:=by kernel_rfl):Yields P o ρ w R:=
 Y.aG (.pointer (aa ⟨b,off+i*z,ag⟩)) k (by
  subst he;have BH:∀q:Nat,(⟨b,off,ag⟩:aF).add q=⟨b,off+q,ag⟩:=λq=>by
   by_cases hq:q=0
   ·subst hq;rfl
   ·simp[qo,hq]
  cases hq:P.info? e with
  |none=>simp[hq]at hz
  |some inf=>
   have dr:inf.size=z:=by simpa[hq]using hz
   unfold execOp;simp only[ho,hx,hy];unfold uq;simp only[bH,dF hu,cD,asIntOf,de];simp[h0,h1,qp,typeInfo,hq,dr,BH])
end
end Y
def BM(x y:av):Prop:=x.wr=af\/y.wr=af->x.id≠y.id
section
variable{ms:List Nat}{w0 w w':an}{bs bs':List av}
def St.at'(S:St ms w0 bs w){x:av}(h:x∈bs):w.heap[x.id]?=aa x.obj:=by
 obtain⟨i,hi⟩:=DP h;exact S.at_ i x hi
def St.nN(S:St ms w0 bs w){x:av}(h:x∈bs)(hw:x.wr=af):x.id∈ms\/w0.heap.size<=x.id:=by
 obtain⟨i,hi⟩:=DP h;exact S.own i x hi hw
def St.pw(S:St ms w0 bs w):bs.Pairwise BM:=by
 rw[List.pairwise_iff_getElem];intro i j hi hj mW hw;have h1:bs[i]?=aa bs[i]:=jh hi;have h2:bs[j]?=aa bs[j]:=jh hj;rcases hw with hw|hw
 ·exact S.apart i j _ _ h1 h2 oM hw
 ·exact(S.apart j i _ _ h2 h1 oM hw).symm
def St.mk'(ch:Ch ms w0 w)(at_:∀x∈bs,w.heap[x.id]?=aa x.obj)(own:∀x∈bs,x.wr=af->x.id∈ms\/w0.heap.size<=x.id)(pw:bs.Pairwise BM):St ms w0 bs w:=by
 refine⟨ch,λi x h=>at_ x (rC h),λi x h=>own x (rC h),?_⟩;intro i j x y hx hy c_ hw;rw[List.pairwise_iff_getElem]at pw;have hi:i<bs.length:=by
  rcases di i bs.length with h|h
  ·exact h
  ·simp[h]at hx
 have hj:j<bs.length:=by
  rcases di j bs.length with h|h
  ·exact h
  ·simp[h]at hy
 obtain rfl:bs[i]=x:=by simpa[hi]using hx
 obtain rfl:bs[j]=y:=by simpa[hj]using hy
 rcases Nat.lt_or_gt_of_ne c_ with h|h
 ·exact pw i j hi hj h (.inl hw)
 ·exact(pw j i hj hi h (.inr hw)).symm
def ahw{x y:av}(h:BM x y):BM y x:=λhw=>(h hw.symm).symm
def St.perm(S:St ms w0 bs w)(h:bs.Perm bs'):St ms w0 bs' w:=
 St.mk' S.ch (λx hx=>S.at' (h.mem_iff.2 hx)) (λx hx=>S.nN (h.mem_iff.2 hx)) ((h.pairwise_iff (λh=>ahw h)).1 S.pw)
def St.sub(S:St ms w0 bs w)(h:bs'.Sublist bs):St ms w0 bs' w:=
 St.mk' S.ch (λx hx=>S.at' (h.mem hx)) (λx hx=>S.nN (h.mem hx)) (S.pw.sublist h)
def St.ge(S:St ms w0 bs w){x:av}(h:x∈bs):x.id<w.heap.size:=oH (S.at' h)
def Ch.mono{es dN:List Nat}(h:Ch es w w')(hs:∀x∈es,x∈dN):Ch dN w w':=⟨h.os,h.tape,h.output,h.size,λk hk hm=>h.block k hk (λhx=>hm (hs k hx))⟩
def St.uG{A bl b9 R:List av}(S:St ms w0 (A++(bl++R)) w)(hw:∀x∈bl,x.wr=af)(hc:Ch (bl.map av.id) w w')
 (aV:∀x∈b9,w'.heap[x.id]?=aa x.obj) (hid:∀x∈b9,(∃y∈bl,x.id=y.id)\/w.heap.size<=x.id) (hp:b9.Pairwise BM):St ms w0 (A++(b9++R)) w':=by
 have ZC:=S.pw;rw[DQ,DQ]at ZC;obtain⟨pA,⟨pb,pR,pbR⟩,ZD⟩:=ZC;have uH:∀z,z∈A\/z∈R->z.id∉bl.map av.id:=by
  intro z hz hm;obtain⟨y,hy,he⟩:=oC.1 hm;rcases hz with hz|hz
  ·exact ZD z hz y (by simp[hy]) (.inr (hw y hy)) he.symm
  ·exact pbR y hy z hz (.inl (hw y hy)) he
 have ZE:∀z,z∈A\/z∈R->∀x∈b9,z.id≠x.id:=by
  intro z hz x hx e;rcases hid x hx with⟨y,hy,he⟩|h
  ·exact uH z hz (by rw[e,he];exact List.mem_map_of_mem hy)
  ·have:=S.ge (x:=z) (by rcases hz with h|h<;>simp[h]);omega
 refine St.mk' (S.ch.trans hc ?_) ?_ ?_ ?_
 ·intro k hk;obtain⟨y,hy,rfl⟩:=oC.1 hk;exact S.nN (by simp[hy]) (hw y hy)
 ·intro x hx;rcases dV.1 hx with h|h
  ·exact(hc.block _ (S.ge (by simp[h])) (uH x (.inl h))).trans (S.at' (by simp[h]))
  ·rcases dV.1 h with h|h
   ·exact aV x h
   ·exact(hc.block _ (S.ge (by simp[h])) (uH x (.inr h))).trans (S.at' (by simp[h]))
 ·intro x hx ZF;rcases dV.1 hx with h|h
  ·exact S.nN (by simp[h]) ZF
  ·rcases dV.1 h with h|h
   ·rcases hid x h with⟨y,hy,he⟩|fJ
    ·rw[he];exact S.nN (by simp[hy]) (hw y hy)
    ·exact .inr (h_ S.ch.size fJ)
   ·exact S.nN (by simp[h]) ZF
 ·rw[DQ,DQ];refine⟨pA,⟨hp,pR,λx hx z hz _ e=>ZE z (.inr hz) x hx e.symm⟩,λz hz x hx=>?_⟩;rcases dV.1 hx with h|h
  ·exact λ_=>ZE z (.inl hz) x h
  ·exact ZD z hz x (by simp[h])
def St.less{A bl R:List av}(S:St ms w0 (A++(bl++R)) w)(hw:∀x∈bl,x.wr=af)(hc:Ch (bl.map av.id) w w'):St ms w0 (A++R) w':=by
 have:=S.uG (b9:=[]) hw hc sP sP List.Pairwise.nil;simpa using this
end
def dk(z:Nat)(T:aP)(bw:List aj)(x:Option aF)(n c:Nat)(bl:List av):Prop:=
 bw.length=n*z/\n<=c/\((x=ag/\n=0/\c=0/\bl=[])\/∃b tail,x=aa ⟨b,0,ag⟩/\bl=[⟨b,af,.cells (bw++tail).toArray T (0,0)⟩]/\(bw++tail).length=c*z)
def pF(z:Nat)(T:aP):dk z T [] ag 0 0 []:=⟨sP,cW _,.inl ⟨rfl,rfl,rfl,rfl⟩⟩
def dk.wr{z T bw x n c bl}(h:dk z T bw x n c bl):∀y∈bl,y.wr=af:=by
 rcases h.2.2 with⟨_,_,_,rfl⟩|⟨b,tail,_,rfl,_⟩<;>simp
def dk.pw{z T bw x n c bl}(h:dk z T bw x n c bl):bl.Pairwise BM:=by
 rcases h.2.2 with⟨_,_,_,rfl⟩|⟨b,tail,_,rfl,_⟩<;>simp
def uI(z:Nat)(T:aP)(bw:List aj)(n:Nat)(bl:List av)(B:Nat)(v:aj)(w':an):Prop:=
 ∃x c b9,v=.slice x n c/\dk z T bw x n c b9/\∀y∈b9,w'.heap[y.id]?=aa y.obj/\((∃u∈bl,y.id=u.id)\/B<=y.id)
def uI.GM{z T bw n bl B v}{w w':an}(h:uI z T bw n bl B v w)(hc:Ch [] w w'):uI z T bw n bl B v w':=by
 obtain⟨x,c,b9,h1,h2,h3⟩:=h;exact⟨x,c,b9,h1,h2,λy hy=>⟨(hc.block _ (oH (h3 y hy).1) sP).trans (h3 y hy).1,(h3 y hy).2⟩⟩
section
variable{P:aL}
def BN{w:an}{z T n c m:Nat}{bw dt:List aj}{x:Option aF}{bl:List av}(hr:dk z T bw x n c bl)(aV:∀y∈bl,w.heap[y.id]?=aa y.obj)
 {t tx ty:aP} {xv:aj} (bytes:Nat) (hs:Src P z tx xv m dt w) (ht:P.underlying t=aa (.slice T)) (hi:(P.info? T).map (λi=>(i.zero.map (·.cells.size),i.size,i.bytes))=aa (aa z,z,bytes))
 (hb:(n+m)*bytes<=140737488355328) (h63:n+m<=maxLen):
 ∃v w',(nJ #[t,tx] ty #[.slice x n c,xv]).run P w=.ok v w'/\Ch (bl.map av.id) w w'/\uI z T (bw++dt) (n+m) bl w.heap.size v w':=by
 obtain⟨i,cE,hi⟩:=jr.1 hi;simp only[bI]at hi;obtain⟨hz,dr,kC⟩:=hi;obtain⟨z0,nO,qF⟩:=jr.1 hz;obtain⟨dl,kD,ji⟩:=hr;have rL:=hs.newsLen;have aze:dt.length=m*i.size:=by rw[dr];exact rL
 have iJ:Src P i.size tx xv m dt w:=by rw[dr];exact hs
 by_cases mE:n+m<=c
 ·rcases uu m with kE|kE
  ·subst kE;obtain rfl:dt=[]:=kX (by simpa using rL);refine⟨_,_,run_append_nothing (P:=P) w t tx ty T i ht cE x n c kD xv iJ,Ch.refl _ _,x,c,bl,rfl,⟨by simpa using dl,kD,by simpa using ji⟩,λy hy=>⟨aV y hy,.inl ⟨y,hy,rfl⟩⟩⟩
  ·rcases ji with⟨_,rfl,rfl,_⟩|⟨b,tail,rfl,rfl,pG⟩
   ·omega
   ·have uJ:=aV _ (jS.2 rfl);have hbd:n*z+dt.length<=(bw++tail).length:=by
     rw[pG,rL,<-oD];exact P9 _ mE
    have fR:=run_storeCells_at (P:=P) b (n*z) T dt 0 (bw++tail).toArray w uJ (by simpa using hbd) hs.one;simp only[lM]at fR;have b_:(nJ #[t,tx] ty #[.slice (aa ⟨b,0,ag⟩) n c,xv]).run P w=.ok (.slice (aa ⟨b,0,ag⟩) (n+m) c) (w.setRow b ((bw++tail).take (n*z)++dt++(bw++tail).drop (n*z+dt.length)).toArray):=by
     rcases iJ.kind with⟨e',hk⟩|hk<;>simp[nJ,dF ht,dF hk,qp,typeInfo,cE,iJ.len,mE,hs.cells,iY,dr,fR,ju]
    refine⟨_,_,b_,by simpa using Ch.setRow w b _,aa ⟨b,0,ag⟩,c,[⟨b,af,.cells ((bw++dt)++tail.drop dt.length).toArray T (0,0)⟩],rfl,⟨by rw[fH,dl,rL,oD],mE,.inr ⟨b,_,rfl,rfl,?_⟩⟩,?_⟩
    ·simp only[fH,List.length_drop,dl]at pG hbd⊢;omega
    ·intro y hy;obtain rfl:=jS.1 hy;refine⟨?_,.inl ⟨_,jS.2 rfl,rfl⟩⟩;have:=setRow_heap w b (bw++tail).toArray ((bw++tail).take (n*z)++dt++(bw++tail).drop (n*z+dt.length)).toArray T (0,0) uJ;rw[this];congr 3;rw[<-dl,List.take_left,List.drop_append,List.drop_eq_nil_of_le oM];simp
 ·have hg:c<n+m:=oM;have hold:(Builtin.firstCells i.size n (.slice x n c)).run P w.drew=.ok bw.toArray w.drew:=by
   rcases ji with⟨rfl,rfl,rfl,_⟩|⟨b,tail,rfl,rfl,pG⟩
   ·obtain rfl:bw=[]:=kX (by simpa using dl);exact run_firstCells_none (P:=P) w.drew i.size 0 0 0
   ·have uJ:=aV _ (jS.2 rfl);refine run_firstCells_some (P:=P) w.drew i.size n ⟨b,0,ag⟩ n c bw (by rw[dl,dr]) (λj v hj=>?_);rw[iY];have:w.drew.cell? ⟨b,0+j,ag⟩=w.cell? ⟨b,j,ag⟩:=sP;rw[this,cell_of uJ];have mF:j<bw.length:=by
     rcases di j bw.length with h|h
     ·exact h
     ·simp[h]at hj
    simp[gB mF,hj]
  have b_:=run_append_grow_src (P:=P) w t tx ty T i z0 ht cE nO x n c bw hold xv m dt iJ hg (by simp only[maxLen]at h63;omega) (by rw[kC];exact growslice_fits hg hb);have fJ:=grownCap_ge w (n+m) c T;refine⟨_,_,b_,?_,aa ⟨w.heap.size,0,ag⟩,grownCap w (n+m) c T,[⟨w.heap.size,af,.cells ((bw++dt)++(rD z0.cells (grownCap w (n+m) c T-(n+m))).toList).toArray T (0,0)⟩],rfl,⟨by rw[fH,dl,rL,oD],fJ,.inr ⟨_,_,rfl,rfl,?_⟩⟩,?_⟩
  ·exact((Ch.refl (bl.map av.id) w).drew).trans (Ch.alloc (bl.map av.id) w.drew _) (λx hx=>.inl hx)
  ·rw[fH,fH,dl,rL,w7,size_zeroCells,qF,<-oD,<-oD];congr 1;omega
  ·intro y hy;obtain rfl:=jS.1 hy;refine⟨?_,.inr (cW _)⟩;have:=oB w.drew (.cells ((bw++dt).toArray++rD z0.cells (grownCap w (n+m) c T-(n+m))) T);refine Eq.trans this ?_;congr 2;apply fP;simp
end
def D7(n:Nat)(l:List aA):Bool:=l.all (λo=>match o.dst with|some d=>dq d n|none=>af)&&GN (l.map (·.dst))
def ZG(vs:Nat->aj):∀(m:List aA)(k:Nat)(a:Act),(∀o∈m,∀d,o.dst=aa d->d<a.tmps.size)->(m.map (·.dst)).Nodup->
 (iq vs k m a).tmps.size=a.tmps.size/\(iq vs k m a).defers=a.defers/\(∀t,(∀o∈m,o.dst≠aa t)->dp (iq vs k m a) t=dp a t)/\∀i o d,m[i]?=aa o->o.dst=aa d->dp (iq vs k m a) d=vs (k+i)
 |[],k,a,_,_=>⟨rfl,rfl,λ_ _=>rfl,λi o d h=>by simp at h⟩
 |x::rest,k,a,hd,hn=>by
  simp only[gx,uo]at hn;obtain⟨h1,h2,h3,h4⟩:=ZG vs rest (k+1) (a.put x.dst (vs k)) (λo ho d e=>by
   rw[size_put];exact hd o (by simp[ho]) d e) hn.2
  refine⟨by simp only[iq];rw[h1,size_put],by simp only[iq];rw[h2,BJ],?_,?_⟩
  ·intro t ht;simp only[iq];rw[h3 t (λo ho=>ht o (by simp[ho]))];cases hx:x.dst with
   |none=>rfl
   |some dx=>
    rw[zR _ _ _ _ (hd x sP dx hx),if_neg];intro e;subst e;exact ht x sP hx
  ·intro i o d hi ho;cases i with
   |zero=>
    obtain rfl:x=o:=by simpa using hi
    simp only[iq];rw[h3 d (λo' lq e=>hn.1 (by rw[ho,<-e];exact List.mem_map_of_mem (f:=λx=>x.dst) lq)),ho,zR _ _ _ _ (hd x sP d ho),if_pos rfl];rfl
   |succ i=>
    simp only[iq];rw[h4 i o d (by simpa using hi) ho];congr 1;omega
def preB(aw:List (List Nat))(i:Nat):Bool:=aw.any λp=>match p.getLast? with|some j=>aC j i|none=>ah
def GV(l:List aA)(k0:Nat)(aw:List (List Nat)):Bool:=aw.all λp=>D5 l p&&(match p.head? with|some k=>aC k k0|none=>ah)&&dq 1 p.length
def tH(P:aL)(k0:Nat)(aw:List (List Nat))(es:List Nat)(H:Nat->aj->an->Prop)(lf l:List aA)(y0:Nat->aj)(w:an)(i:Nat)(o:aA):Prop:=
 ∀(y:Nat->aj)(w':an),(i=k0\/preB aw i=af->Ch [] w w')->Ch es w w'->(∀t,xA l i t=af->y t=y0 t)->
  (∀j d,lR o j=af->(l[j]?).bind (·.dst)=aa d->H j (y d) w')->
  (pC lf o y=af->Yields P o (xz y) w' λv gI=>(i=k0->Ch es w' gI)/\(i≠k0->Ch [] w' gI)/\H i v gI)/\(pC lf o y=ah->H i undef w')
def rM(P:aL)(k0:Nat)(aw:List (List Nat))(es:List Nat)(H:Nat->aj->an->Prop)(lf l:List aA)(y0:Nat->aj)(w:an):Nat->List aA->Prop
 |_,[]=>True
 |i,o::rest=>tH P k0 aw es H lf l y0 w i o/\rM P k0 aw es H lf l y0 w (i+1) rest
def rM.get{P:aL}{k0:Nat}{aw:List (List Nat)}{es:List Nat}{H:Nat->aj->an->Prop}{lf l:List aA}{y0:Nat->aj}{w:an}:∀{k:Nat}{m:List aA},rM P k0 aw es H lf l y0 w k m->∀(i:Nat) o,m[i]?=aa o->tH P k0 aw es H lf l y0 w (k+i) o
 |_,[],_,i,o,h=>by simp at h
 |k,x::rest,⟨h1,h2⟩,0,o,h=>by obtain rfl:x=o:=by simpa using h
                              exact h1
 |k,x::rest,⟨h1,h2⟩,i+1,o,h=>by
  have:=rM.get h2 i o (by simpa using h)
  rwa [show k+1+i=k+(i+1) by omega]at this
structure Qv(k0:Nat)(es:List Nat)(H:Nat->aj->an->Prop)(l:List aA)(n2:Nat)(a0:Act)(w0:an)(vs:Nat->aj)(ap:Array Bool)(a:Act)(w:an):Prop where
 ls:ap.size=l.length+n2
 off:∀i,l.length<=i->i<l.length+n2->ap[i]?=aa ah
 size:a.tmps.size=a0.tmps.size
 defers:a.defers=a0.defers
 ch:if ap[k0]?=aa af then Ch es w0 w else Ch [] w0 w
 done:∀(i:Nat)(o:aA),l[i]?=aa o->ap[i]?=aa af->(∀d,o.dst=aa d->dp a d=vs i)/\H i (vs i) w
 rest:∀(t:Nat),(∀(i:Nat)(o:aA),l[i]?=aa o->o.dst=aa t->ap[i]?=aa ah)->dp a t=dp a0 t
 back:∀(i:Nat)(o:aA),l[i]?=aa o->ap[i]?=aa af->∀j,lR o j=af->ap[j]?=aa af
section
variable{P:aL}{l:List aA}{k0:Nat}{aw:List (List Nat)}{es:List Nat}{H:Nat->aj->an->Prop}{a0:Act}{w0:an}{Q:dR->Act->an->Prop}
def ahx(fR:∀i v w w',Ch [] w w'->H i v w->H i v w')(ahy:GV l k0 aw=af)(Qw:∀i v w w',i≠k0->w0.heap.size<=w.heap.size->Ch es w w'->H i v w->H i v w')(l2:List aA)(paths:List (List Nat))(ht:tz (l++l2) l.length paths=af)(lr:D7 a0.tmps.size l=af)(ir:qD 0 (l++l2)=af)(hs:rM P k0 aw es H (l++l2) l (dp a0) w0 0 l)
 (hq:∀(vs:Nat->aj) w',Ch es w0 w'->(∀i o,l[i]?=aa o->H i (vs i) w')->wpList P (l++l2).toArray Q l2 (iq vs 0 l a0) w'):
 ∀(fuel:Nat)(vs:Nat->aj)(ap:Array Bool)(a:Act)(w:an),Qv k0 es H l l2.length a0 w0 vs ap a w->ap.toList.count ah=fuel+l2.length->wpAny P .any (l++l2).toArray Q (fuel+l2.length) ap a w:=by
 have inl:∀{i:Nat}{o:aA},(l++l2)[i]?=aa o->i<l.length->l[i]?=aa o:=λh hi=>by rwa [gB hi]at h
 have inr:∀{i:Nat}{o:aA},l[i]?=aa o->(l++l2)[i]?=aa o:=λ{i o} h=>by rwa [gB (by rcases di i l.length with h'|h';exact h';simp[h']at h)]
 simp only[D7,bJ,ik]at lr;have hd:∀o∈l,∀d,o.dst=aa d->d<a0.tmps.size:=by
  intro o ho d hx;have:=lr.1 o ho;simpa[hx,jQ]using this
 have hn:=Qn lr.2;have uniq:∀(i j:Nat) o p d,l[i]?=aa o->l[j]?=aa p->o.dst=aa d->p.dst=aa d->i=j:=by
  intro i j o p d hi hj ho hp;have jE:i<(l.map (·.dst)).length:=by simp;rcases di i l.length with h|h;exact h;simp[h]at hi
  refine(List.getElem?_inj jE hn).1 ?_;simp[hi,hj,ho,hp]
 have fin:∀vs ap a w,Qv k0 es H l l2.length a0 w0 vs ap a w->(∀i,i<l.length->ap[i]?=aa af)->wpAny P .any (l++l2).toArray Q l2.length ap a w:=by
  intro vs ap a w I eg;obtain⟨h1,h2,h3,h4⟩:=ZG vs l 0 a0 hd hn;have:a=iq vs 0 l a0:=by
   refine Qm (by rw[I.size,h1]) (by rw[I.defers,h2]) ?_;intro t;by_cases ht:∃(i:Nat)(o:aA),l[i]?=aa o/\o.dst=aa t
   ·obtain⟨i,o,hi,ho⟩:=ht;rw[h4 i o t hi ho,d_];exact(I.done i o hi (eg i (by rcases di i l.length with h|h;exact h;simp[h]at hi))).1 t ho
   ·rw[h3 t (λo ho e=>ht (by obtain⟨i,hi⟩:=DP ho;exact⟨i,o,hi,e⟩))];exact I.rest t (λi o hi ho=>absurd ⟨i,o,hi,ho⟩ ht)
  rw[this];refine Zw l2 ir paths ht l2 0 rfl ap _ w I.ls (λi hi=>eg i oM) (λi h1 h2=>I.off i oM h2) ?_;exact hq vs w (by have:=I.ch;split at this;exact this;exact this.mono sP) λi o hi=>(I.done i o hi (eg i (by rcases di i l.length with h|h;exact h;simp[h]at hi))).2
 have tl:∀vs ap a w,Qv k0 es H l l2.length a0 w0 vs ap a w->∀i,i∈rA .any (l++l2).toArray ap->l.length<=i->∀j,j<l.length->ap[j]?=aa af:=by
  intro vs ap a w I i hi fJ j hj;obtain⟨oi,rJ,hf,iu⟩:=(mC _ ap i).1 hi;have jE:i<(l++l2).length:=by rcases di i (l++l2).length with h|h;exact h;simp[jA h]at rJ
  obtain⟨p,q1,q2,q3,q4⟩:=Qq ht i jE fJ j oM;refine GP (l:=l++l2) ?_ p i j q1 q2 q3 q4 ?_
  ·intro x o hx tA k hk;rcases di x l.length with h|h
   ·exact I.back x o (inl hx h) tA k hk
   ·have xB:x<(l++l2).length:=by rcases di x (l++l2).length with h'|h';exact h';simp[jA h']at hx
    have:=I.off x h (by simpa using xB);rw[tA]at this;simp at this
  ·intro o ho k hk;obtain rfl:oi=o:=by rw[rJ]at ho;simpa using ho
   obtain⟨e,he,rfl,hbd⟩:=GQ.1 hk;have h3:=iu e he hbd;have h4:=vO ir i oi rJ e he hbd;rcases mY I.ls (show e.on<l.length+l2.length by simp at jE;omega)with hx|hx
   ·exact hx
   ·simp[jO,hx]at h3
 intro fuel;induction fuel with
 |zero=>
  intro vs ap a w I hc;have eg:∀i,i<l.length->ap[i]?=aa af:=by
   intro i hi;rcases mY I.ls (show i<l.length+l2.length by omega)with hb|hb
   ·exact hb
   ·exfalso;have h4:=Qo ap.toList l.length l2.length (by simpa using I.ls) (λj h1 h2=>by simpa using I.off j h1 h2) i hi (by simpa using hb);omega
  rw[d_];exact fin vs ap a w I eg
 |succ fuel ih=>
  intro vs ap a w I hc;by_cases BK:∀i,i<l.length->ap[i]?=aa af
  ·exfalso;have:=Ln ap.toList l.length l2.length (by simpa using I.ls) (λj h1=>by simpa using BK j h1);omega
  rw[show fuel+1+l2.length=(fuel+l2.length)+1 by omega];refine⟨λhr=>?_,?_⟩
  ·
   exfalso;refine BK ?_;intro i;induction i using Nat.strongRecOn with
   |_ i Qr=>
    intro hi;rcases mY I.ls (show i<l.length+l2.length by omega)with hb|hb
    ·exact hb
    ·exfalso;have:i∈rA .any (l++l2).toArray ap:=(mC _ ap i).2 ⟨l[i],inr sP,by simp[jO,hb],λe he Qs=>by
      have dy:=vO ir i l[i] (inr sP) e he Qs;have:=Qr e.on oM oM;simp[jO,this]⟩
     rw[hr]at this;simp at this
  ·intro i hi;have jE:i<l.length:=by
    rcases di i l.length with h|h
    ·exact h
    ·exact absurd (tl vs ap a w I i hi h) BK
   obtain⟨o,nM,h2,h3⟩:=(mC _ ap i).1 hi;have ho:=inl nM jE;have uB:ap[i]?=aa ah:=by
    rcases mY I.ls (show i<l.length+l2.length by omega)with hb|hb
    ·simp[jO,hb]at h2
    ·exact hb
   have Qt:=hd o (rC ho);have iu:∀j,lR o j=af->ap[j]?=aa af:=by
    intro j hj;unfold lR at hj;rw[<-Array.any_toList,Bu]at hj;obtain⟨e,he,hj⟩:=hj;simp only[bJ,beq_iff_eq]at hj;obtain⟨rfl,hb⟩:=hj;have he:=Array.mem_toList_iff.1 he;have h4:=h3 e he hb;have dy:=vO ir i o nM e he hb;rcases mY I.ls (show e.on<l.length+l2.length by omega)with hb|hb
    ·exact hb
    ·simp[jO,hb]at h4
   have Qx:i=k0\/preB aw i=af->Ch [] w0 w:=λe=>by
    have hk:¬ap[k0]?=aa af:=by
     rcases e with e|e
     ·rw[<-e,uB];simp
     ·intro hl;unfold preB at e;obtain⟨p,hp,he⟩:=Bu.1 e;have g1:=ik.1 ahy p hp;simp only[bJ]at g1;obtain⟨⟨g2,g3⟩,g4⟩:=g1;cases hh:p.head? with
      |none=>rw[hh]at g3;simp at g3
      |some k=>
       rw[hh]at g3;have ek:=cw g3;cases uK:p.getLast? with
       |none=>rw[uK]at he;simp at he
       |some j=>
        rw[uK]at he;have ej:=cw he;have:=GP I.back p k j g2 hh uK (by unfold dq at g4;exact eU g4) (λo ho j hj=>I.back k o ho (by rw[ek];exact hl) j hj);rw[ej,uB]at this;simp at this
    have:=I.ch;rw[if_neg hk]at this;exact this
   have step:=(rM.get hs i o ho) (dp a) w (by rw[d_];exact Qx) (by have:=I.ch;split at this;exact this;exact this.mono sP) (λt ht=>by
    refine I.rest t λk ok hk hok=>?_;rw[xA,ik]at ht;have:=ht ok (rC hk);simp only[hok,bne_self_eq_false,Bool.false_or]at this;have xp:k<l.length:=by rcases di k l.length with h|h;exact h;simp[h]at hk
    rcases mY I.ls (show k<l.length+l2.length by omega)with hb|hb
    ·have:=I.back k ok hk hb i (by simpa using this);rw[uB]at this;simp at this
    ·exact hb)
    (λj dj hj pD=>by
     cases e_:l[j]?with
     |none=>simp[e_]at pD
     |some oj=>
      have:=I.done j oj e_ (iu j hj);rw[this.1 dj (by simpa[e_]using pD)];exact this.2)
   have next:∀v w',(i=k0->Ch es w w')->(i≠k0->Ch [] w w')->H i v w'->wpAny P .any (l++l2).toArray Q (fuel+l2.length) (ap.setIfInBounds i af) (a.put o.dst v) w':=by
    intro v w' vP D8 hv;refine ih (λj=>if j=i then v else vs j) _ _ _ ?_ ?_
    ·have gl:∀j b,(ap.setIfInBounds i af)[j]?=aa b->(j=i/\b=af)\/(j≠i/\ap[j]?=aa b):=by
      intro j b hj;rw[s9]at hj;by_cases h:i=j
      ·subst h;have:i<l.length+l2.length:=oM;simp[I.ls,this]at hj;exact Or.inl ⟨rfl,hj⟩
      ·rw[if_neg h]at hj;exact Or.inr ⟨λe=>h e.symm,hj⟩
     have yp:∀t,(o.dst≠aa t->dp (a.put o.dst v) t=dp a t)/\(o.dst=aa t->dp (a.put o.dst v) t=v):=λt=>by
      cases D6:o.dst with
      |none=>exact⟨λ_=>rfl,λh=>by cases h⟩
      |some d=>
       have:=zR a d v t (by rw[I.size];exact Qt d D6);refine⟨λh=>?_,λh=>?_⟩
       ·rw[this,if_neg (λe=>h (by rw[e]))]
       ·rw[this,if_pos (by simpa using h.symm)]
     refine⟨by simp[I.ls],λj h1 h2=>by
      rw[s9,if_neg oM];exact I.off j h1 h2,by rw[size_put,I.size],by rw[BJ,I.defers],?_,?_,?_,?_⟩
     ·by_cases iA:i=k0
      ·have hk:(ap.setIfInBounds i af)[k0]?=aa af:=by
        rw[<-iA,s9,if_pos rfl,if_pos (by rw[I.ls];omega)]
       rw[if_pos hk];exact((Qx (.inl iA)).mono sP).trans (vP iA) (λx hx=>.inl hx)
      ·have hk:(ap.setIfInBounds i af)[k0]?=ap[k0]?:=by
        rw[s9,if_neg iA]
       rw[hk];have h1:=I.ch;split at h1
       ·rename_i h2;rw[if_pos h2];exact h1.trans (D8 iA) sP
       ·rename_i h2;rw[if_neg h2];exact h1.trans (D8 iA) sP
     ·intro j oj hj e_;rcases gl j af e_ with⟨rfl,_⟩|⟨c_,e_⟩
      ·obtain rfl:o=oj:=by rw[ho]at hj;simpa using hj
       simp only[if_true];exact⟨λdj pD=>(yp dj).2 pD,hv⟩
      ·have:=I.done j oj hj e_;simp only[if_neg c_];refine⟨λdj pD=>?_,?_⟩
       ·rw[(yp dj).1 (λe=>c_ (uniq j i oj o dj hj ho pD e))];exact this.1 dj pD
       ·by_cases iA:i=k0
        ·exact Qw _ _ _ _ (λe=>c_ (by rw[iA];exact e)) (by have:=I.ch;split at this;exact this.size;exact this.size) (vP iA) this.2
        ·exact fR _ _ _ _ (D8 iA) this.2
     ·intro t ht;have c_:o.dst≠aa t:=λe=>by
       have:=ht i o ho e;rcases gl i ah this with⟨_,h⟩|⟨h,_⟩
       ·cases h
       ·exact h rfl
      rw[(yp t).1 c_];refine I.rest t λk ok hk hok=>?_;have:=ht k ok hk hok;rcases gl k ah this with⟨_,h⟩|⟨_,h⟩
      ·cases h
      ·exact h
     ·intro k ok hk mZ j hj;have hb:ap[j]?=aa af:=by
       rcases gl k af mZ with⟨rfl,_⟩|⟨c_,mZ⟩
       ·obtain rfl:o=ok:=by rw[ho]at hk;simpa using hk
        exact iu j hj
       ·exact I.back k ok hk mZ j hj
      rw[s9];split
      ·rename_i h;subst h;rw[uB]at hb;simp at hb
      ·exact hb
    ·have h2:ap[i]?=aa ah:=uB;have ahq:=count_set ap.toList i (by simpa using h2);simp only[K5];omega
   unfold wpOp;simp only[j7,nM];rw[Zu];cases hw:pC (l++l2) o (dp a)with
   |true=>
    rw[if_pos rfl];refine Or.inl ?_;have hy:=step.1 hw;rw[Zt]at hy;exact Yields.wp hy λv w' ⟨vP,D8,hv⟩=>next v w' (by rw[d_]at vP;exact vP) (by rw[d_]at D8;exact D8) (by rw[d_]at hv;exact hv)
   |false=>
    rw[if_neg sP];exact next undef w (λ_=>Ch.refl _ _) (λ_=>Ch.refl _ _) (by have:=step.2 hw;rw[d_]at this;exact this)
def ahz{id:Nat}(l l2:List aA)(fR:∀i v w w',Ch [] w w'->H i v w->H i v w')(iu:GV l k0 aw=af)(Qw:∀i v w w',i≠k0->w0.heap.size<=w.heap.size->Ch es w w'->H i v w->H i v w')(paths:List (List Nat))(hm:P.follows .mixedOrders=af)(ht:tz (l++l2) l.length paths=af)(lr:D7 a0.tmps.size l=af)(ir:qD 0 (l++l2)=af)(hs:rM P k0 aw es H (l++l2) l (dp a0) w0 0 l)
 (hq:∀(vs:Nat->aj) w',Ch es w0 w'->(∀i o,l[i]?=aa o->H i (vs i) w')->wpList P (l++l2).toArray Q l2 (iq vs 0 l a0) w'):(Code.region id (l++l2).toArray af).wp P Q a0 w0:=by
 refine wp_region_any hm ?_;have h:=ahx fR iu Qw l2 paths ht lr ir hs hq l.length (λ_=>undef) (zL (l++l2).toArray.size ah) a0 {w0 with drawn:=w0.drawn+1} ?_ ?_
 ·rw[show(l++l2).toArray.size=l.length+l2.length by simp];rw[show(l++l2).toArray.size=l.length+l2.length by simp]at h;exact h
 ·refine⟨sP,λi h1 h2=>by simp[Bx];omega,rfl,rfl,?_,?_,λ_ _=>rfl,?_⟩
  ·split
   ·exact(Ch.refl _ _).drew
   ·exact(Ch.refl _ _).drew
  ·intro i o _ h;simp[Bx]at h
  ·intro i o _ h;simp[Bx]at h
 ·simp[Y4]
end
section
variable{ms:List Nat}{w0 w w':an}{bs:List av}
def ZH{α:Type}:∀{l:List α}{i:Nat}{x:α},l[i]?=aa x->l.Perm (x::l.eraseIdx i)
 |[],i,x,h=>by simp at h
 |y::l,0,x,h=>by obtain rfl:y=x:=by simpa using h
                 exact zM _
 |y::l,i+1,x,h=>by
  have:=ZH (l:=l) (i:=i) (x:=x) (by simpa using h);exact(vJ y this).trans (Bz _ _ _)
end
section
variable{P:aL}{w w0:an}{ms:List Nat}{bs:List av}
def jU{ρ:bA->aj}{o:aA}{w':an}{s x:bA}{t tx:aP}{sv xv v:aj}(ho:o.op=.call ⟨.builtin .append,#[s,x],#[t,tx]⟩)(hs:ρ s=sv)(hx:ρ x=xv)
 (b_:(nJ #[t,tx] o.type #[sv,xv]).run P w=.ok v w'):(execOp ρ o).run P w=.ok (.value v) w':=by
 simp[execOp,ho,resolve,invoke,builtin,hs,hx,b_,ju]
def ahA(S:St ms w0 bs w)(i m z:Nat)(dt:List aj){b off c:Nat}{tx e':aP}(hk:P.underlying tx=aa (.slice e'))(hb:zO bs i off (m*z)=aa (b,dt.toArray))(h1:dt.all (·.oneCell')=af)(hl:dt.length=m*z):
 Src P z tx (.slice (aa ⟨b,off,ag⟩) m c) m dt w:=by
 obtain⟨wr,cs,t,fr,BO,hc,hv⟩:=Lh hb;refine qu w hk ⟨b,off,ag⟩ m c dt hl (λj u hj=>?_) (λu hu=>ik.1 h1 u hu);rw[iY,cell_of (S.at_ i _ BO)];have h2:(cs.extract off (off+m*z))[j]?=aa u:=by rw[hc];simpa using hj
 rw[Array.getElem?_extract]at h2;split at h2
 ·exact h2
 ·exact absurd h2 sP
section
variable{ops:Array aA}{rest:List aA}{o:aA}{a:Act}{Q:dR->Act->an->Prop}{z T n c m bytes:Nat}{bw dt tail:List aj}{s x:bA}{t tx:aP}{xv:aj}
def ahB{A bl R:List av}{xs:Option aF}(S:St ms w0 (A++(bl++R)) w)(hr:dk z T bw xs n c bl)(hs:Src P z tx xv m dt w)(bytes:Nat)(ho:o.op=.call ⟨.builtin .append,#[s,x],#[t,tx]⟩:=by rfl)(hbd:(n+m)*bytes<=140737488355328)(h63:n+m<=maxLen)
 (k:∀x' c' b9 w',dk z T (bw++dt) x' (n+m) c' b9->St ms w0 (A++(b9++R)) w'->WL P ops Q rest (a.put o.dst (.slice x' (n+m) c')) w')
 (hw:gU o (yielded ops a.tmps)=af:=by kernel_rfl) (xE:a.eval s=.slice xs n c:=by kernel_rfl) (uL:a.eval x=xv:=by kernel_rfl)
 (ht:P.underlying t=aa (.slice T):=by kernel_rfl) (cE:(P.info? T).map (λi=>(i.zero.map (·.cells.size),i.size,i.bytes))=aa (aa z,z,bytes):=by kernel_rfl):WL P ops Q (o::rest) a w:=
 WL.want hw λK hK=>by
  obtain⟨v,w',b_,hc,x',c',b9,rfl,gi,aV⟩:=BN (P:=P) (ty:=o.type) hr (λy hy=>S.at' (by simp[hy])) bytes hs ht cE hbd h63;have S2:=S.uG hr.wr hc (λy hy=>(aV y hy).1) (λy hy=>(aV y hy).2) gi.pw;unfold rz;rw[jU ho xE uL b_];exact hK _ _ (k x' c' b9 w' gi S2)
end
end
def s0(v:aj):Sp:=⟨0,λ_=>v,λ_=>[]⟩
def xF(l:List aA)(o:aA)(t:Nat):Option Nat:=o.after.toList.findSome? λe=>bif s_ .any e&&(match(l[e.on]?).bind (·.dst)with|some d=>aC d t|none=>ah)then aa e.on else ag
def valOf(l:List aA)(sp:Nat->Sp)(a0:Act)(o:aA)(t:Nat):aj:=match xF l o t with|some j=>(sp j).f []|none=>dp a0 t
def jV(l:List aA)(sp:Nat->Sp)(a0:Act)(o:aA):List (Nat×aj):=o.op.operands.toList.filterMap λx=>match x with|.tmp t=>aa (t,valOf l sp a0 o t)|_=>ag
def GW(l:List aA)(sp:Nat->Sp)(i:Nat)(o:aA):Bool:=o.guard.isNone&&aC (sp i).k 0&&(sp i).bl [] matches[]&&zV (jV l sp ⟨#[],[]⟩ o) o&&
 o.op.operands.toList.all λx=>match x with|.tmp t=>(match xF l o t with|some j=>aC (sp j).k 0|none=>xA l i t)|_=>af
def Qy{y:Nat->aj}:∀{env:List (Nat×aj)},(∀p∈env,y p.1=p.2)->zU y env
 |[],_=>trivial
 |p::env,h=>⟨h p sP,Qy λq hq=>h q (by simp[hq])⟩
def Lq{l:List aA}{o:aA}{t j:Nat}(h:xF l o t=aa j):lR o j=af/\(l[j]?).bind (·.dst)=aa t:=by
 obtain⟨e,he,h⟩:=List.exists_of_findSome?_eq_some h;cases hd:(l[e.on]?).bind (·.dst)with
 |none=>simp[hd]at h
 |some d=>
  simp only[hd]at h;cases hb:s_ .any e with
  |false=>simp[hb]at h
  |true=>
   cases hc:aC d t with
   |false=>simp[hb,hc]at h
   |true=>
    simp only[hb,hc,Bool.and_self,cond_true,a_]at h;subst h;exact⟨GQ.2 ⟨e,Array.mem_toList_iff.1 he,rfl,hb⟩,by rw[hd,cw hc]⟩
def ZI{l:List aA}{sp sp':Nat->Sp}{a0 a1:Act}{o:aA}:zV (jV l sp a0 o) o=af->zV (jV l sp' a1 o) o=af:=by
 intro h;unfold zV at*;simp only[bJ]at*;refine⟨?_,h.2⟩;rw[K3]at*;intro x hx;cases x with
 |tmp t=>
  simp only;have hm:∀(env:List bA)(g:Nat->aj),Operand.tmp t∈env->((env.filterMap λx=>match x with|.tmp t=>aa (t,g t)|_=>ag).lookup t).isSome=af:=by
   intro env g;induction env with
   |nil=>intro h;simp at h
   |cons y env ih=>
    intro hm;rcases cG.1 hm with h|h
    ·subst h;simp
    ·cases y with
     |tmp s=>
      simp only[List.filterMap_cons,List.lookup_cons];split
      ·rfl
      ·exact ih h
     |_=>simp only[List.filterMap_cons];exact ih h
  exact hm _ _ (Array.mem_toList_iff.2 hx)
 |_=>rfl
section
variable{P:aL}{lf l:List aA}{sp:Nat->Sp}{a0:Act}{w:an}{i:Nat}{o:aA}
def Qz(hs:GW l sp i o=af)(h:∀w',Ch [] w w'->Yields P o (lS (jV l sp a0 o)) w' λv gI=>Ch [] w' gI/\v=(sp i).f []):BI P lf l sp (dp a0) w i o:=by
 simp only[GW,bJ]at hs;obtain⟨⟨⟨⟨hg,hk⟩,hb⟩,oI⟩,eg⟩:=hs;have QA:o.guard=ag:=by cases hx:o.guard<;>simp_all
 have m7:(sp i).k=0:=cw hk;have xG:(sp i).bl []=[]:=by
  revert hb;cases(sp i).bl []<;>simp
 intro y w' hc uM iu;refine⟨λ_=>?_,λhw=>by simp[pC,QA]at hw⟩;refine pE (jV l sp a0 o) (Qy λp hp=>?_) ?_ (ZI oI)
 ·simp only[jV,List.mem_filterMap]at hp;obtain⟨x,hx,hp⟩:=hp;cases x with
  |tmp t=>
   simp only[a_]at hp;subst hp;have h1:=ik.1 eg _ hx;simp only at h1;unfold valOf;cases fh:xF l o t with
   |some j=>
    rw[fh]at h1;obtain⟨he,hd⟩:=Lq fh;obtain⟨ae,h2,h3,_⟩:=iu j t he hd;have h4:(sp j).k=0:=cw h1;obtain rfl:ae=[]:=kX (by rw[h2,h4]);exact h3
   |none=>
    rw[fh]at h1;exact uM t h1
  |_=>simp at hp
 ·have:=h w' hc;unfold Yields at this⊢;split at this
  ·exact⟨this.1,[],by simp[m7],this.2,by rw[xG];simp⟩
  ·exact⟨this.1,[],by simp[m7],this.2,by rw[xG];simp⟩
  ·exact this.mono λv gI h=>⟨h.1,[],by simp[m7],h.2,by rw[xG];simp⟩
  ·exact this.elim
def m8(hs:GW l sp i o=af:=by kernel_rfl)(h:(λw=>(execOp (lS (jV l sp a0 o)) o).run P w)=(λw=>.ok (.value ((sp i).f [])) w):=by kernel_rfl):BI P lf l sp (dp a0) w i o:=
 Qz hs λw' _=>by
  have h2:(execOp (lS (jV l sp a0 o)) o).run P w'=.ok (.value ((sp i).f [])) w':=congrFun h w';unfold Yields;rw[h2];exact⟨Ch.refl _ _,rfl⟩
variable{ms:List Nat}{w0:an}{bs:List av}
def ZJ(S:St ms w0 bs w)(j b off:Nat){x:bA}{ty:aP}(ho:o.op=.load ty x:=by rfl)(hs:GW l sp i o=af:=by kernel_rfl)(hx:lS (jV l sp a0 o) x=.pointer (aa ⟨b,off,ag⟩):=by kernel_rfl)
 (ha:(P.underlying ty).map j_=aa ah:=by kernel_rfl) (hb:lk bs j off=aa (b,(sp i).f []):=by kernel_rfl):BI P lf l sp (dp a0) w i o:=
 Qz hs λw' hc=>Y.rH (S.quiet hc) j _ b off ⟨Ch.refl _ _,rfl⟩ ho hx ha hb
def QB(S:St ms w0 bs w)(j b off n:Nat)(vs:Array aj){x:bA}{ty:aP}(ho:o.op=.load ty x:=by rfl)(hv:(sp i).f []=.agg vs:=by kernel_rfl)(hs:GW l sp i o=af:=by kernel_rfl)(hx:lS (jV l sp a0 o) x=.pointer (aa ⟨b,off,ag⟩):=by kernel_rfl)
 (ha:(P.underlying ty).map j_=aa af:=by kernel_rfl) (hn:(P.info? ty).map (·.size)=aa n:=by kernel_rfl) (hb:zO bs j off n=aa (b,vs):=by kernel_rfl):BI P lf l sp (dp a0) w i o:=
 Qz hs λw' hc=>Y.nL (S.quiet hc) j n vs b off ⟨Ch.refl _ _,hv.symm⟩ ho hx ha hn hb
end
def ZK{vs:Nat->aj}:∀{eE:List aj}{k:Nat},(∀i v,eE[i]?=aa v->vs (k+i)=v)->BL vs k eE
 |[],_,_=>trivial
 |v::eE,k,h=>⟨by have:=h 0 v rfl;simpa using this,ZK λi u hu=>by
  have:=h (i+1) u (by simpa using hu)
  rwa [show k+(i+1)=k+1+i by omega]at this⟩
def ahC{P:aL}{a0:Act}{w0:an}{Q:dR->Act->an->Prop}{id:Nat}{L:List aA}(m:Nat)(eE:List aj)(paths:List (List Nat))
 (hs:tu P L (L.take m) (tB (eE.map s0)) (dp a0) w0 0 (L.take m))
 (hq:∀w',Ch [] w0 w'->WL P L.toArray Q (L.drop m) (uC eE (L.take m) a0) w')
 (QC:eE.length=m:=by kernel_rfl)
 (hm:P.follows .mixedOrders=af:=by kernel_rfl) (hl:ck m L.length=af:=by kernel_rfl) (ht:tz L m paths=af:=by kernel_rfl) (lr:GO a0.tmps.size (L.take m)=af:=by kernel_rfl) (ir:qD 0 L=af:=by kernel_rfl):(Code.region id L.toArray af).wp P Q a0 w0:=by
 refine GU m (eE.map s0) paths hs (λvs w' hc eg=>⟨eE,QC,ZK λi v hv=>?_,hq w' hc⟩) hm hl ht lr ir;have hi:i<m:=by
  rcases di i eE.length with h|h
  ·omega
  ·simp[h]at hv
 obtain⟨ae,h1,h2,_⟩:=eg i (by unfold dq;exact w8 hi);have h3:tB (eE.map s0) i=s0 v:=by
  unfold tB;rw[qx,kA,hv];rfl
 rw[h3]at h1 h2;obtain rfl:ae=[]:=kX (by simpa[s0]using h1);rw[d_,h2];rfl
end Sx
namespace Sx
open Go Go.RowKit Go.BigFrame
section
variable{P:aL}{ops:Array aA}{rest:List aA}{o:aA}{a:Act}{w:an}{Q:dR->Act->an->Prop}
end
section
variable{P:aL}{lf l:List aA}{sp:Nat->Sp}{y0:Nat->aj}{w:an}{i:Nat}{o:aA}
end
end Sx
namespace Sx
open Go Go.RowKit Go.BigFrame
def HQ(k0:Nat)(pv:aj->an->Prop)(sp:Nat->Sp)(B:Nat)(i:Nat)(v:aj)(w:an):Prop:=match aC i k0 with|true=>pv v w|false=>(sp i).holds B v w
def zW(k0:Nat)(l:List aA)(sp:Nat->Sp)(i:Nat)(o:aA):Bool:=o.guard.isNone&&zV (jV l sp ⟨#[],[]⟩ o) o&&
 o.op.operands.toList.all λx=>match x with|.tmp t=>(match xF l o t with|some j=>!(aC j k0)&&aC (sp j).k 0|none=>xA l i t)|_=>af
section
variable{P:aL}{lf l:List aA}{sp:Nat->Sp}{a0:Act}{w:an}{i k0:Nat}{aw:List (List Nat)}{o:aA}{es:List Nat}{pv:aj->an->Prop}
def QD{H:Nat->aj->an->Prop}(hs:zW k0 l sp i o=af){B:Nat}{y:Nat->aj}{w':an}(uM:∀t,xA l i t=af->y t=dp a0 t)(iu:∀j d,lR o j=af->(l[j]?).bind (·.dst)=aa d->HQ k0 pv sp B j (y d) w'):
 zU y (jV l sp a0 o)/\zV (jV l sp a0 o) o=af/\o.guard=ag:=by
 simp only[zW,bJ]at hs;obtain⟨⟨hg,oI⟩,eg⟩:=hs;refine⟨Qy λp hp=>?_,ZI oI,by cases hx:o.guard<;>simp_all⟩;simp only[jV,List.mem_filterMap]at hp;obtain⟨x,hx,hp⟩:=hp;cases x with
 |tmp t=>
  simp only[a_]at hp;subst hp;have h1:=ik.1 eg _ hx;simp only at h1;unfold valOf;cases fh:xF l o t with
  |some j=>
   rw[fh]at h1;obtain⟨he,hd⟩:=Lq fh;simp only[bJ,pj]at h1;have h2:=iu j t he hd;unfold HQ at h2;rw[h1.1]at h2;obtain⟨ae,h3,h4,_⟩:=h2;have h5:(sp j).k=0:=cw h1.2;obtain rfl:ae=[]:=kX (by rw[h3,h5]);exact h4
  |none=>
   rw[fh]at h1;exact uM t h1
 |_=>simp at hp
def Lr(c_:aC i k0=ah)(hk:(sp i).k=0)(hb:(sp i).bl []=[])(hs:zW k0 l sp i o=af)(h:∀w',Ch es w w'->Yields P o (lS (jV l sp a0 o)) w' λv gI=>Ch [] w' gI/\v=(sp i).f []):
 tH P k0 aw es (HQ k0 pv sp w.heap.size) lf l (dp a0) w i o:=by
 intro y w' _ hc uM iu;obtain⟨GY,oI,hg⟩:=QD (H:=λ_ _ _=>True) hs uM iu;have iA:i≠k0:=λe=>by rw[e]at c_;simp at c_
 have hH:∀v gI,v=(sp i).f []->HQ k0 pv sp w.heap.size i v gI:=λv gI e=>by
  unfold HQ;rw[c_];exact⟨[],by simp[hk],e,by rw[hb];simp⟩
 refine⟨λ_=>?_,λhw=>by simp[pC,hg]at hw⟩;refine pE _ GY ?_ oI;have:=h w' hc;unfold Yields at this⊢;split at this
 ·exact⟨λe'=>absurd e' iA,λ_=>this.1,hH _ _ this.2⟩
 ·exact⟨λe'=>absurd e' iA,λ_=>this.1,hH _ _ this.2⟩
 ·exact this.mono λv gI h=>⟨λe'=>absurd e' iA,λ_=>h.1,hH _ _ h.2⟩
 ·exact this.elim
def D9(k0:Nat)(l:List aA)(sp:Nat->Sp)(i:Nat)(o:aA):Bool:=!(aC i k0)&&aC (sp i).k 0&&(sp i).bl [] matches[]&&zW k0 l sp i o
def Ls(h:D9 k0 l sp i o=af):aC i k0=ah/\(sp i).k=0/\(sp i).bl []=[]/\zW k0 l sp i o=af:=by
 simp only[D9,bJ,pj]at h;refine⟨h.1.1.1,cw h.1.1.2,?_,h.2⟩;have:=h.1.2;revert this;cases(sp i).bl []<;>simp
def D_(hs:D9 k0 l sp i o=af:=by kernel_rfl)(h:(λw=>(execOp (lS (jV l sp a0 o)) o).run P w)=(λw=>.ok (.value ((sp i).f [])) w):=by kernel_rfl):tH P k0 aw es (HQ k0 pv sp w.heap.size) lf l (dp a0) w i o:=by
 obtain⟨h1,h2,h3,h4⟩:=Ls hs;refine Lr h1 h2 h3 h4 λw' _=>?_;have h2:(execOp (lS (jV l sp a0 o)) o).run P w'=.ok (.value ((sp i).f [])) w':=congrFun h w';unfold Yields;rw[h2];exact⟨Ch.refl _ _,rfl⟩
def eC_(f:fG)(ak:Array aj)(hg:∀w',ba P f ak w' λv gI=>v=(sp i).f []/\Ch [] w' gI)(hs:D9 k0 l sp i o=af:=by kernel_rfl)(h:(λw=>(execOp (lS (jV l sp a0 o)) o).run P w)=(λw=>.ok (.enter f ak) w):=by kernel_rfl):tH P k0 aw es (HQ k0 pv sp w.heap.size) lf l (dp a0) w i o:=by
 obtain⟨h1,h2,h3,h4⟩:=Ls hs;refine Lr h1 h2 h3 h4 λw' _=>?_;have h2:(execOp (lS (jV l sp a0 o)) o).run P w'=.ok (.enter f ak) w':=congrFun h w';unfold Yields;rw[h2];exact(hg w').mono λv gI h=>⟨h.2,h.1⟩
variable{ms:List Nat}{w0:an}{bs:List av}
def ZL(S:∀w',Ch es w w'->St ms w0 bs w')(j b off:Nat){x:bA}{ty:aP}(ho:o.op=.load ty x:=by rfl)(hs:D9 k0 l sp i o=af:=by kernel_rfl)(hx:lS (jV l sp a0 o) x=.pointer (aa ⟨b,off,ag⟩):=by kernel_rfl)
 (ha:(P.underlying ty).map j_=aa ah:=by kernel_rfl) (hb:lk bs j off=aa (b,(sp i).f []):=by kernel_rfl):tH P k0 aw es (HQ k0 pv sp w.heap.size) lf l (dp a0) w i o:=by
 obtain⟨h1,h2,h3,h4⟩:=Ls hs;exact Lr h1 h2 h3 h4 λw' hc=>Y.rH (S w' hc) j _ b off ⟨Ch.refl _ _,rfl⟩ ho hx ha hb
def GZ(S:∀w',Ch es w w'->St ms w0 bs w')(j b off n:Nat)(vs:Array aj){x:bA}{ty:aP}(ho:o.op=.load ty x:=by rfl)(hv:(sp i).f []=.agg vs:=by kernel_rfl)(hs:D9 k0 l sp i o=af:=by kernel_rfl)(hx:lS (jV l sp a0 o) x=.pointer (aa ⟨b,off,ag⟩):=by kernel_rfl)
 (ha:(P.underlying ty).map j_=aa af:=by kernel_rfl) (hn:(P.info? ty).map (·.size)=aa n:=by kernel_rfl) (hb:zO bs j off n=aa (b,vs):=by kernel_rfl):tH P k0 aw es (HQ k0 pv sp w.heap.size) lf l (dp a0) w i o:=by
 obtain⟨h1,h2,h3,h4⟩:=Ls hs;exact Lr h1 h2 h3 h4 λw' hc=>Y.nL (S w' hc) j n vs b off ⟨Ch.refl _ _,hv.symm⟩ ho hx ha hn hb
def ahD(he:aC i k0=af)(hs:zW k0 l sp i o=af)(h:∀w',Ch [] w w'->Yields P o (lS (jV l sp a0 o)) w' λv gI=>Ch es w' gI/\pv v gI):
 tH P k0 aw es (HQ k0 pv sp w.heap.size) lf l (dp a0) w i o:=by
 intro y w' xH _ uM iu;obtain⟨GY,oI,hg⟩:=QD (H:=λ_ _ _=>True) hs uM iu;have iA:i=k0:=cw he;refine⟨λ_=>?_,λhw=>by simp[pC,hg]at hw⟩;refine pE _ GY ?_ oI;have:=h w' (xH (.inl iA));have hH:∀v gI,pv v gI->HQ k0 pv sp w.heap.size i v gI:=λv gI e=>by unfold HQ;rw[he];exact e
 unfold Yields at this⊢;split at this
 ·exact⟨λ_=>this.1,λe=>absurd iA e,hH _ _ this.2⟩
 ·exact⟨λ_=>this.1,λe=>absurd iA e,hH _ _ this.2⟩
 ·exact this.mono λv gI e=>⟨λ_=>e.1,λe'=>absurd iA e',hH _ _ e.2⟩
 ·exact this.elim
def ZM(b:Nat)(bs:List av)(j off:Nat)(vs:List aj)(_:aj)(w:an):Prop:=∃x,(xq bs j off vs)[j]?=aa x/\w.heap[b]?=aa x.obj
def ZN(S:St ms w0 bs w)(j:Nat)(v:aj)(b off:Nat){x y:bA}{ty:aP}(ho:o.op=.store ty x y:=by rfl)(hs:zW k0 l sp i o=af:=by kernel_rfl)(he:aC i k0=af:=by kernel_rfl)(hx:lS (jV l sp a0 o) x=.pointer (aa ⟨b,off,ag⟩):=by kernel_rfl)(hy:lS (jV l sp a0 o) y=v:=by kernel_rfl)
 (hn:(P.info? ty).map (·.size)=aa v.cells.toList.length:=by kernel_rfl) (h1:v.cells.toList.all (·.oneCell')=af:=by kernel_rfl) (hb:zP bs j off v.cells.toList.length=aa b:=by kernel_rfl):tH P k0 aw [b] (HQ k0 (ZM b bs j off v.cells.toList) sp w.heap.size) lf l (dp a0) w i o:=by
 refine ahD he hs λw' hc=>?_;obtain⟨cs,t,vQ,hl⟩:=Li hb;have aV:=(S.quiet hc).at_ j _ vQ;unfold Yields execOp;simp only[ho,hx,hy,Gz,jt,bH,de,cD,GH (P:=P) aV rfl hn hl h1];refine⟨Ch.setRow w' b _,⟨b,af,.cells (splice cs off v.cells.toList) t (0,0)⟩,?_,setRow_heap w' b cs _ t (0,0) aV⟩;have hj:j<bs.length:=by
  rcases di j bs.length with h|h
  ·exact h
  ·simp[h]at vQ
 simp only[xq,vQ];rw[P8 hj]
def St.ZO(S:St ms w0 bs w)(j off n:Nat){b:Nat}(hb:zP bs j off n=aa b):∀w',Ch [b] w w'->St ms w0 (bs.eraseIdx j) w':=by
 intro w' hc;obtain⟨cs,t,vQ,_⟩:=Li hb;have S1:St ms w0 ([]++([⟨b,af,.cells cs t (0,0)⟩]++bs.eraseIdx j)) w:=S.perm (ZH vQ);exact S1.less sP (by simpa using hc)
end
def QE{P:aL}{k0:Nat}{aw:List (List Nat)}{es:List Nat}{H:Nat->aj->an->Prop}{lf l:List aA}{y0:Nat->aj}{w:an}{i:Nat}:rM P k0 aw es H lf l y0 w i []:=trivial
def m9{P:aL}{k0:Nat}{aw:List (List Nat)}{es:List Nat}{H:Nat->aj->an->Prop}{lf l:List aA}{y0:Nat->aj}{w:an}{i:Nat}{o:aA}{rest:List aA}(h:tH P k0 aw es H lf l y0 w i o)(k:rM P k0 aw es H lf l y0 w (i+1) rest):rM P k0 aw es H lf l y0 w i (o::rest):=⟨h,k⟩
def QI{vs:Nat->aj}:∀{l:List aA}{eE:List aj}{k:Nat}{a:Act},eE.length=l.length->(∀i o v,l[i]?=aa o->eE[i]?=aa v->o.dst=ag\/vs (k+i)=v)->iq vs k l a=uC eE l a
 |[],[],_,_,_,_=>rfl
 |o::rest,v::eE,k,a,h,hv=>by
  simp only[iq,uC];have h0:=hv 0 o v rfl rfl;have e:a.put o.dst (vs k)=a.put o.dst v:=by
   rcases h0 with h0|h0
   ·rw[h0];rfl
   ·rw[lM]at h0;rw[h0]
  rw[e];exact QI (by simpa using h) λi o' v' h1 h2=>by
   have:=hv (i+1) o' v' (by simpa using h1) (by simpa using h2)
   rwa [show k+(i+1)=k+1+i by omega]at this
 |[],_::_,_,_,h,_=>by simp at h
 |_::_,[],_,_,h,_=>by simp at h
section
variable{P:aL}{a0:Act}{w w0:an}{Q:dR->Act->an->Prop}{id:Nat}{L:List aA}{ms:List Nat}{bs:List av}
def ZP(m k0:Nat)(aw:List (List Nat))(es:List Nat)(pv:aj->an->Prop)(eE:List aj)(paths:List (List Nat))(sp:Nat->Sp)
 (iu:GV (L.take m) k0 aw=af) (hpv:∀v w w',Ch [] w w'->pv v w->pv v w') (gV:∀x∈es,x<w.heap.size)
 (hs:rM P k0 aw es (HQ k0 pv sp w.heap.size) L (L.take m) (dp a0) w 0 (L.take m))
 (hq:∀(vs:Nat->aj) w',Ch es w w'->(∀i,i<m->HQ k0 pv sp w.heap.size i (vs i) w')->WL P L.toArray Q (L.drop m) (iq vs 0 (L.take m) a0) w')
 (hm:P.follows .mixedOrders=af) (hl:ck m L.length=af) (ht:tz L m paths=af) (lr:D7 a0.tmps.size (L.take m)=af) (ir:qD 0 L=af):(Code.region id L.toArray af).wp P Q a0 w:=by
 have tD:(L.take m).length=m:=by have:=eU hl;simp;omega
 have h:=ahz (id:=id) (Q:=Q) (P:=P) (k0:=k0) (es:=es) (H:=HQ k0 pv sp w.heap.size) (a0:=a0) (w0:=w) (L.take m) (L.drop m) ?_ iu ?_ paths hm (by rw[jR,tD];exact ht) lr (by rw[jR];exact ir) (by rw[jR];exact hs) ?_
 ·rwa [jR]at h
 ·intro i v w1 w2 hc hH;unfold HQ at*;split at hH
  ·exact hpv _ _ _ hc hH
  ·exact hH.GM hc
 ·intro i v w1 w2 iA hle hc hH;unfold HQ at*;split at hH
  ·rename_i h;exact absurd (cw h) iA
  ·obtain⟨ae,h1,h2,h3⟩:=hH;refine⟨ae,h1,h2,λp hp=>⟨(h3 p hp).1,(hc.block _ (oH (h3 p hp).2) (λhx=>?_)).trans (h3 p hp).2⟩⟩;have:=gV _ hx;have:=(h3 p hp).1;omega
 ·intro vs w' hc eg;rw[jR];exact(hq vs w' hc λi hi=>eg i _ (jh oM)).out
def ZQ(S:St ms w0 bs w)(m k0 j b off:Nat)(aw:List (List Nat))(v:aj)(eE:List aj)(paths:List (List Nat))
 (hs:rM P k0 aw [b] (HQ k0 (ZM b bs j off v.cells.toList) (tB (eE.map s0)) w.heap.size) L (L.take m) (dp a0) w 0 (L.take m))
 (hq:∀w',St ms w0 (xq bs j off v.cells.toList) w'->WL P L.toArray Q (L.drop m) (uC eE (L.take m) a0) w')
 (hb:zP bs j off v.cells.toList.length=aa b:=by kernel_rfl) (hk:((L.take m)[k0]?).map (·.dst)=aa ag:=by kernel_rfl) (QC:eE.length=m:=by kernel_rfl) (iu:GV (L.take m) k0 aw=af:=by kernel_rfl)
 (hm:P.follows .mixedOrders=af:=by kernel_rfl) (hl:ck m L.length=af:=by kernel_rfl) (ht:tz L m paths=af:=by kernel_rfl) (lr:D7 a0.tmps.size (L.take m)=af:=by kernel_rfl) (ir:qD 0 L=af:=by kernel_rfl):(Code.region id L.toArray af).wp P Q a0 w:=by
 obtain⟨cs,t,vQ,hle⟩:=Li hb;have tD:(L.take m).length=m:=by have:=eU hl;simp;omega
 have hj:j<bs.length:=by
  rcases di j bs.length with h|h
  ·exact h
  ·simp[h]at vQ
 have fR:xq bs j off v.cells.toList=bs.set j ⟨b,af,.cells (splice cs off v.cells.toList) t (0,0)⟩:=by simp only[xq,vQ]
 refine ZP m k0 aw [b] _ eE paths _ iu ?_ ?_ hs ?_ hm hl ht lr ir
 ·rintro v' w1 w2 hc ⟨x,h1,h2⟩;exact⟨x,h1,(hc.block _ (oH h2) sP).trans h2⟩
 ·intro x hx;obtain rfl:=jS.1 hx;exact S.lt vQ
 ·intro vs w' hc eg;obtain⟨ok,hok,hdk⟩:=jr.1 hk;have rN:k0<m:=by
   rcases di k0 m with h|h
   ·exact h
   ·rw[jA oM]at hok;simp at hok
  have hp:iq vs 0 (L.take m) a0=uC eE (L.take m) a0:=QI oM λi o u ho hu=>by
   have hi:i<m:=by
    rcases di i eE.length with h|h
    ·omega
    ·simp[h]at hu
   by_cases iA:i=k0
   ·subst iA;rw[hok]at ho;exact .inl (by rw[<-cP ho];exact hdk)
   ·have hH:=eg i hi;unfold HQ at hH;have c_:aC i k0=ah:=by
     cases hx:aC i k0
     ·rfl
     ·exact absurd (cw hx) iA
    rw[c_]at hH;obtain⟨ae,h1,h2,_⟩:=hH;have h3:tB (eE.map s0) i=s0 u:=by
     unfold tB;rw[qx,kA,hu];rfl
    rw[h3]at h1 h2;obtain rfl:ae=[]:=kX (by simpa[s0]using h1);refine .inr ?_;rw[d_,h2];rfl
  rw[hp];refine hq w' ?_;have hH:=eg k0 rN;unfold HQ at hH;rw[show aC k0 k0=af from uv k0]at hH;obtain⟨x,hx,hxo⟩:=hH;rw[fR,P8 hj]at hx;obtain rfl:=cP hx;rw[fR];exact S.step vQ rfl (by simpa using hc) hxo
end
end Sx
namespace Sx
open Go Go.RowKit Go.BigFrame
section
variable{P:aL}{ops:Array aA}{rest:List aA}{o:aA}{a:Act}{w w0:an}{ms:List Nat}{bs:List av}{Q:dR->Act->an->Prop}
end
end Sx
namespace Sx
open Go Go.RowKit Go.BigFrame
section
variable{P:aL}{a:Act}{w:an}{Q:dR->Act->an->Prop}
end
section
variable{P:aL}{ops:Array aA}{rest:List aA}{o:aA}{a:Act}{w:an}{Q:dR->Act->an->Prop}
end
end Sx
namespace Sx
open Go Go.RowKit Go.BigFrame
section
variable{P:aL}{ops:Array aA}{rest:List aA}{o:aA}{a:Act}{w:an}{Q:dR->Act->an->Prop}{z T m n c:Nat}{dt:List aj}{s x:bA}{t tx:aP}{xv:aj}
end
end Sx
namespace Sx.Y
open Go Go.RowKit Go.BigFrame
variable{P:aL}{w:an}{o:aA}{R:aj->an->Prop}{ρ:bA->aj}
end Sx.Y
namespace Sx
open Go Go.RowKit Go.BigFrame
section
variable{P:aL}{ops:Array aA}{rest:List aA}{o:aA}{a:Act}{w w0:an}{ms:List Nat}{bs:List av}{Q:dR->Act->an->Prop}
end
end Sx
namespace Sx
open Go Go.RowKit Go.BigFrame
def uI.le{z T bw n bl B B' v}{w:an}(h:uI z T bw n bl B v w)(hb:B'<=B):uI z T bw n bl B' v w:=by
 obtain⟨x,c,b9,h1,h2,h3⟩:=h;exact⟨x,c,b9,h1,h2,λy hy=>⟨(h3 y hy).1,(h3 y hy).2.imp id (λh=>h_ hb h)⟩⟩
def sB(m:Nat)(dt:List aj)(T:aP):Sp:=⟨1,λae=>.slice (aa ⟨ae.getD 0 0,0,ag⟩) m m,λae=>[(ae.getD 0 0,.cells dt.toArray T (0,0))]⟩
section
variable{P:aL}{lf l:List aA}{sp:Nat->Sp}{a0:Act}{w:an}{i k0:Nat}{aw:List (List Nat)}{o:aA}{es:List Nat}{pv:aj->an->Prop}
def eB_(m:Nat)(dt:List aj)(T:aP)(m6:sp i=sB m dt T:=by rfl)(c_:aC i k0=ah:=by kernel_rfl)(hs:zW k0 l sp i o=af:=by kernel_rfl)
 (h:(λw=>(execOp (lS (jV l sp a0 o)) o).run P w)=(λw=>.ok (.value (.slice (aa ⟨w.heap.size,0,ag⟩) m m)) (w.alloc (.cells dt.toArray T (0,0)))):=by kernel_rfl):
 tH P k0 aw es (HQ k0 pv sp w.heap.size) lf l (dp a0) w i o:=by
 intro y w' _ hc uM iu;obtain⟨GY,oI,hg⟩:=QD (H:=λ_ _ _=>True) hs uM iu;have iA:i≠k0:=λe=>by rw[e]at c_;simp at c_
 refine⟨λ_=>?_,λhw=>by simp[pC,hg]at hw⟩;refine pE _ GY ?_ oI;have h2:(execOp (lS (jV l sp a0 o)) o).run P w'=_:=congrFun h w';unfold Yields;rw[h2];refine⟨λe=>absurd e iA,λ_=>Ch.alloc _ _ _,?_⟩;unfold HQ;rw[c_,m6];refine⟨[w'.heap.size],rfl,rfl,λp hp=>?_⟩;obtain rfl:=jS.1 hp;exact⟨hc.size,oB w' _⟩
variable{ms:List Nat}{w0:an}
def eA_{A bl R:List av}{xs:Option aF}{z n c:Nat}{T T':aP}{bw:List aj}(S:St ms w0 (A++(bl++R)) w)(hr:dk z T bw xs n c bl)(d1 d2 j2 m:Nat)(dt:List aj)(bytes:Nat){t tx e':aP}
 (hbd:(n+m)*bytes<=140737488355328) (h63:n+m<=maxLen) (ho:o.op=.call ⟨.builtin .append,#[.tmp d1,.tmp d2],#[t,tx]⟩:=by rfl) (rL:dt.length=m*z:=by rfl) (h1:dt.all (·.oneCell')=af:=by kernel_rfl)
 (hg:o.guard.isNone=af:=by kernel_rfl) (he:aC i k0=af:=by kernel_rfl)
 (kF:(match xF l o d1 with|some j=>!(aC j k0)&&aC (sp j).k 0|none=>xA l i d1)=af:=by kernel_rfl) (vR:valOf l sp a0 o d1=.slice xs n c:=by kernel_rfl)
 (Lt:xF l o d2=aa j2:=by kernel_rfl) (zT:aC j2 k0=ah:=by kernel_rfl) (m6:sp j2=sB m dt T':=by rfl)
 (ht:P.underlying t=aa (.slice T):=by kernel_rfl) (gj:P.underlying tx=aa (.slice e'):=by kernel_rfl) (cE:(P.info? T).map (λi=>(i.zero.map (·.cells.size),i.size,i.bytes))=aa (aa z,z,bytes):=by kernel_rfl):
 tH P k0 aw (bl.map av.id) (HQ k0 (uI z T (bw++dt) (n+m) bl w.heap.size) sp w.heap.size) lf l (dp a0) w i o:=by
 intro y w' xH hc uM iu;have iA:i=k0:=cw he;have QA:o.guard=ag:=by cases hx:o.guard<;>simp_all
 have hy1:y d1=.slice xs n c:=by
  unfold valOf at vR;cases fh:xF l o d1 with
  |some j=>
   rw[fh]at vR kF;obtain⟨G0,hd⟩:=Lq fh;simp only[bJ,pj]at kF;have h2:=iu j d1 G0 hd;unfold HQ at h2;rw[kF.1]at h2;obtain⟨ae,h3,h4,_⟩:=h2;have h5:(sp j).k=0:=cw kF.2;obtain rfl:ae=[]:=kX (by rw[h3,h5]);rw[h4];exact vR
  |none=>
   rw[fh]at vR kF;rw[uM d1 kF];exact vR
 obtain⟨b,hy2,hb⟩:∃b,y d2=.slice (aa ⟨b,0,ag⟩) m m/\w'.heap[b]?=aa (.cells dt.toArray T' (0,0)):=by
  obtain⟨G0,hd⟩:=Lq Lt;have h2:=iu j2 d2 G0 hd;unfold HQ at h2;rw[zT,m6]at h2;obtain⟨ae,h3,h4,h5⟩:=h2
  match ae,h3 with
  |[b],_=>exact⟨b,h4,(h5 (b,.cells dt.toArray T' (0,0)) (jS.2 rfl)).2⟩
 have fh:Src P z tx (.slice (aa ⟨b,0,ag⟩) m m) m dt w':=by
  refine qu w' gj ⟨b,0,ag⟩ m m dt rL (λj u hj=>?_) (λu hu=>ik.1 h1 u hu);rw[iY,cell_of hb];simpa using hj
 have Sq:=S.quiet (xH (.inl iA));obtain⟨v,gI,b_,QJ,hR⟩:=BN (P:=P) (ty:=o.type) (w:=w') hr (λy hy=>Sq.at' (by simp[hy])) bytes fh ht cE hbd h63;refine⟨λ_=>?_,λhw=>by simp[pC,QA]at hw⟩;unfold Yields;rw[jU (ρ:=xz y) ho (sv:=.slice xs n c) (xv:=.slice (aa ⟨b,0,ag⟩) m m) hy1 hy2 b_];refine⟨λ_=>QJ,λe=>absurd iA e,?_⟩;unfold HQ;rw[he];exact hR.le hc.size
end
section
variable{P:aL}{a0:Act}{w w0:an}{Q:dR->Act->an->Prop}{id:Nat}{L:List aA}{ms:List Nat}
def ahE{A bl R:List av}{xs:Option aF}{z n c:Nat}{T T':aP}{bw:List aj}(S:St ms w0 (A++(bl++R)) w)(hr:dk z T bw xs n c bl)(m k0 i1 mm:Nat)(dt:List aj)(aw:List (List Nat))(eE:List aj)(paths:List (List Nat))
 (hs:rM P k0 aw (bl.map av.id) (HQ k0 (uI z T (bw++dt) (n+mm) bl w.heap.size) (tB ((eE.map s0).set i1 (sB mm dt T'))) w.heap.size) L (L.take m) (dp a0) w 0 (L.take m))
 (hq:∀x' c' b9 u w',dk z T (bw++dt) x' (n+mm) c' b9->St ms w0 (A++(b9++R)) w'->WL P L.toArray Q (L.drop m) (uC ((eE.set k0 (.slice x' (n+mm) c')).set i1 u) (L.take m) a0) w')
 (hk:dq k0 m=af:=by kernel_rfl) (hi:dq i1 m=af:=by kernel_rfl) (iA:aC i1 k0=ah:=by kernel_rfl) (QC:eE.length=m:=by kernel_rfl) (iu:GV (L.take m) k0 aw=af:=by kernel_rfl)
 (hm:P.follows .mixedOrders=af:=by kernel_rfl) (hl:ck m L.length=af:=by kernel_rfl) (ht:tz L m paths=af:=by kernel_rfl) (lr:D7 a0.tmps.size (L.take m)=af:=by kernel_rfl) (ir:qD 0 L=af:=by kernel_rfl):(Code.region id L.toArray af).wp P Q a0 w:=by
 have tD:(L.take m).length=m:=by have:=eU hl;simp;omega
 have m7:k0<m:=by simpa[jQ]using hk
 have mD:i1<m:=by simpa[jQ]using hi
 have c_:i1≠k0:=λe=>by rw[e]at iA;simp at iA
 refine ZP m k0 aw (bl.map av.id) (uI z T (bw++dt) (n+mm) bl w.heap.size) eE paths _ iu (λv w1 w2 hc h=>uI.GM h hc) ?_ hs ?_ hm hl ht lr ir
 ·intro x hx;obtain⟨y,hy,rfl⟩:=oC.1 hx;exact S.ge (by simp[hy])
 ·intro vs w' hc eg;have hK:=eg k0 m7;unfold HQ at hK;rw[show aC k0 k0=af from uv k0]at hK;obtain⟨x',c',b9,hv,gi,aV⟩:=hK;have S2:=S.uG hr.wr hc (λy hy=>(aV y hy).1) (λy hy=>(aV y hy).2) gi.pw;have hp:iq vs 0 (L.take m) a0=uC ((eE.set k0 (.slice x' (n+mm) c')).set i1 (vs i1)) (L.take m) a0:=QI (by rw[List.length_set,List.length_set];omega) λi o u ho hu=>by
   have Lu:i<m:=by
    rcases di i m with h|h
    ·exact h
    ·rw[jA (by simp;omega)]at hu;simp at hu
   refine .inr ?_;rw[d_];by_cases h1:i=i1
   ·subst h1;rw[P8 (by simp;omega)]at hu;exact cP hu
   ·rw[KV (λe=>h1 e.symm)]at hu;by_cases h2:i=k0
    ·subst h2;rw[P8 oM]at hu;rw[hv];exact cP hu
    ·rw[KV (λe=>h2 e.symm)]at hu;have hH:=eg i Lu;unfold HQ at hH;have hb:aC i k0=ah:=by
      cases hx:aC i k0
      ·rfl
      ·exact absurd (cw hx) h2
     rw[hb]at hH;obtain⟨ae,g1,g2,_⟩:=hH;have h3:tB ((eE.map s0).set i1 (sB mm dt T')) i=s0 u:=by
      unfold tB;rw[qx,KV (λe=>h1 e.symm),kA,hu];rfl
     rw[h3]at g1 g2;obtain rfl:ae=[]:=kX (by simpa[s0]using g1);rw[g2];rfl
  rw[hp];exact hq x' c' b9 (vs i1) w' gi S2
end
def Ea(val:aj)(Q:List av->Prop)(bl:List av)(B:Nat)(v:aj)(w:an):Prop:=
 v=val/\∃b9,Q b9/\(∀y∈b9,w.heap[y.id]?=aa y.obj/\(y.wr=af->(∃u∈bl,y.id=u.id)\/B<=y.id))/\b9.Pairwise BM
def Ea.GM{val Q bl B v}{w w':an}(h:Ea val Q bl B v w)(hc:Ch [] w w'):Ea val Q bl B v w':=by
 obtain⟨h1,b9,h2,h3,h4⟩:=h;exact⟨h1,b9,h2,λy hy=>⟨(hc.block _ (oH (h3 y hy).1) sP).trans (h3 y hy).1,(h3 y hy).2⟩,h4⟩
section
variable{P:aL}{lf l:List aA}{sp:Nat->Sp}{a0:Act}{w:an}{i k0:Nat}{aw:List (List Nat)}{o:aA}{es:List Nat}{pv:aj->an->Prop}
variable{ms:List Nat}{w0:an}{bs:List av}
end
section
variable{P:aL}{a0:Act}{w w0:an}{Q:dR->Act->an->Prop}{id:Nat}{L:List aA}{ms:List Nat}
end
def cat(jw:List (List av))(R:List av):List av:=jw.foldr (·++·) R
def ahF(jw:List (List av))(R:List av):cat jw R=jw.flatten++R:=by
 induction jw with
 |nil=>rfl
 |cons a l ih=>simp[cat]at ih⊢;exact ih
def Lv(n:Nat)(is:List Nat):Bool:=is.all (λi=>dq i n)&&Lw is
where Lw:List Nat->Bool
 |[]=>af
 |i::l=>!(l.any (aC i))&&Lw l
def ZR:∀{l:List Nat},Lv.Lw l=af->l.Nodup
 |[],_=>List.nodup_nil
 |i::l,h=>by
  simp only[Lv.Lw,bJ,pj]at h;refine uo.2 ⟨λhm=>?_,ZR h.2⟩;have:l.any (aC i)=af:=Bu.2 ⟨i,hm,sP⟩;rw[this]at h;exact absurd h.1 sP
section
variable{ms:List Nat}{w0 w:an}
def G2:∀(is l:List Nat),is.Nodup->(∀i∈is,i∈l)->∃r,l.Perm (is++r)
 |[],l,_,_=>⟨l,zM _⟩
 |i::is,l,hn,hm=>by
  have rI:=uo.1 hn;obtain⟨r,hr⟩:=G2 is (l.erase i) rI.2 (λj hj=>(List.mem_erase_of_ne (λe=>rI.1 (by rw[<-e];exact hj))).2 (hm j (by simp[hj])));exact⟨r,(List.perm_cons_erase (hm i sP)).trans (by simpa using hr.cons i)⟩
def ahG{α:Type}(jw:List α)(d:α)(is:List Nat)(hn:is.Nodup)(dy:∀i∈is,i<jw.length):∃rest,jw.Perm (is.map (λi=>jw.getD i d)++rest):=by
 have hr:(bg jw.length).map (λi=>jw.getD i d)=jw:=by
  apply List.ext_getElem
  ·simp
  ·intro i h1 h2;simp[qx,h2]
 obtain⟨r,zX⟩:=G2 is (bg jw.length) hn (λi hi=>List.mem_range.2 (dy i hi));refine⟨r.map λi=>jw.getD i d,?_⟩;rw[<-uw];have:=zX.map (λi=>jw.getD i d)
 rwa [hr]at this
def St.re{bs bs' R:List av}(S:St ms w0 bs w)(jw:List (List av))(is:List Nat)(h1:bs=cat jw R:=by kernel_rfl)(h2:Lv jw.length is=af:=by kernel_rfl)(h3:cat (is.map λi=>jw.getD i []) R=bs':=by kernel_rfl):St ms w0 bs' w:=by
 subst h1 h3;simp only[Lv,bJ]at h2;obtain⟨rest,hp⟩:=ahG jw [] is (ZR h2.2) (λi hi=>by have:=ik.1 h2.1 i hi;unfold dq at this;exact eU this);rw[ahF]at S⊢;have h4:St ms w0 ((is.map λi=>jw.getD i []).flatten++(rest.flatten++R)) w:=S.perm (by
  rw[<-bZ,<-List.flatten_append];exact BA R hp.flatten)
 exact h4.sub (mV (kM _ _) _)
end
def Eb:Obj->Option aP
 |.cells _ t _=>aa t
 |_=>ag
def sA(obj:Obj):Sp:=⟨1,λae=>.pointer (aa ⟨ae.getD 0 0,0,ag⟩),λae=>[(ae.getD 0 0,obj)]⟩
inductive VX where
 |v (x:aj)
 |a (obj:Obj)
def VX.sp:VX->Sp
 |.v x=>s0 x
 |.a o=>sA o
def VX.val(id:Nat):VX->aj
 |.v x=>x
 |.a _=>.pointer (aa ⟨id,0,ag⟩)
def G3(ae:Nat->Nat):Nat->List VX->List av
 |_,[]=>[]
 |i,.v _::xs=>G3 ae (i+1) xs
 |i,.a o::xs=>⟨ae i,af,o⟩::G3 ae (i+1) xs
section
variable{ms:List Nat}{w0 w:an}{bs:List av}
end
section
variable{P:aL}{lf l:List aA}{sp:Nat->Sp}{a0:Act}{w:an}{i k0:Nat}{aw:List (List Nat)}{o:aA}{es:List Nat}{pv:aj->an->Prop}
variable{ms:List Nat}{w0:an}{bs:List av}
end
section
variable{P:aL}{a0:Act}{w w0:an}{Q:dR->Act->an->Prop}{id:Nat}{L:List aA}{ms:List Nat}
end
def ahH(jw:List (List av))(R:List av):cat jw R=cat jw []++R:=by
 induction jw with
 |nil=>rfl
 |cons a l ih=>show a++cat l R=(a++cat l [])++R;rw[ih,bZ]
section
variable{ms:List Nat}{w0 w:an}
def St.split{A B R bs:List av}(S:St ms w0 bs w)(jw:List (List av))(h1:bs=A++cat jw R:=by kernel_rfl)(h2:cat jw []=B:=by kernel_rfl):St ms w0 (A++(B++R)) w:=by
 subst h2;rw[<-ahH,<-h1];exact S
end
section
variable{P:aL}{lf l:List aA}{sp:Nat->Sp}{a0:Act}{w:an}{i k0:Nat}{aw:List (List Nat)}{o:aA}{es:List Nat}{pv:aj->an->Prop}
variable{ms:List Nat}{w0:an}{bs:List av}
end
def aH(kd:gw)(n:Nat)(f:Nat->Int):Array aj:=((bg n).map λi=>fI kd (f i)).toArray
def pH(f:Nat->Int)(i:Nat)(v:Int):Nat->Int:=λj=>bif aC j i then v else f j
def G4(kd:gw)(n:Nat)(f:Nat->Int):(aH kd n f).size=n:=by simp[aH]
def ZS(kd:gw){n:Nat}(f:Nat->Int){i:Nat}(h:i<n):(aH kd n f)[i]?=aa (.int kd (f i)):=by simp[aH,h]
def ZT(f:Nat->Int)(i:Nat)(v:Int):pH f i v i=v:=by simp[pH]
def QK(f:Nat->Int){i j:Nat}(v:Int)(h:j≠i):pH f i v j=f j:=by
 have:aC j i=ah:=by
  cases hb:aC j i
  ·rfl
  ·exact absurd (cw hb) h
 simp[pH,this]
def ahI(kd:gw){n:Nat}(f:Nat->Int){i:Nat}(h:i<n)(v:Int):splice (aH kd n f) i [.int kd v]=aH kd n (pH f i v):=by
 apply fP;show((aH kd n f).toList.take i++[fI kd v]++(aH kd n f).toList.drop (i+1))=_;simp only[aH];apply List.ext_getElem
 ·simp;omega
 ·intro j h1 h2;simp only[fH,w9,GA,P_,List.length_drop,jv,K6]at h1 h2;rcases Nat.lt_trichotomy j i with hj|hj|hj
  ·rw[K7 (by simp;omega),K7 (by simp;omega)];simp[QK _ _ (Nat.ne_of_lt hj)]
  ·subst hj;rw[K7 (by simp;omega),Y5 (by simp;omega)];simp[ZT]
  ·rw[Y5 (by simp;omega)];simp only[fH,w9,GA,P_,jv,K6,List.getElem_drop,List.getElem_map,List.getElem_range];rw[QK _ _ oM];congr 2;omega
def ahJ(kd:gw){n:Nat}{f g:Nat->Int}(h:∀i,i<n->f i=g i):aH kd n f=aH kd n g:=by
 unfold aH;congr 1;apply mB;intro i hi;rw[h i (List.mem_range.1 hi)]
section
variable{ms:List Nat}{w0 w:an}{bs:List av}
def ckF{kd:gw}{n:Nat}{f:Nat->Int}{i off b:Nat}{t:aP}(ho:off<n)(hb:bs[i]?=aa ⟨b,af,.cells (aH kd n f) t (0,0)⟩:=by kernel_rfl):zP bs i off 1=aa b:=by
 have h2:ck (off+1) (aH kd n f).size=af:=by rw[G4];exact w8 ho
 unfold zP;rw[hb];simp only[h2]
def St.stF{kd:gw}{n:Nat}{f:Nat->Int}{i off b:Nat}{t:aP}{v:Int}(S:St ms w0 (xq bs i off [.int kd v]) w)(ho:off<n){bs':List av}(hb:bs[i]?=aa ⟨b,af,.cells (aH kd n f) t (0,0)⟩:=by kernel_rfl)
 (h2:bs.set i ⟨b,af,.cells (aH kd n (pH f off v)) t (0,0)⟩=bs':=by kernel_rfl):St ms w0 bs' w:=by
 unfold xq at S;rw[hb]at S;simp only at S;rw[ahI kd f ho,h2]at S;exact S
end
section
variable{P:aL}{lf l:List aA}{sp:Nat->Sp}{a0:Act}{w:an}{i k0:Nat}{aw:List (List Nat)}{o:aA}{es:List Nat}{pv:aj->an->Prop}
variable{ms:List Nat}{w0:an}{bs:List av}
end
end Sx
namespace Sx
open Go Go.RowKit Go.BigFrame
def Wr(bl:List av):Prop:=∀x∈bl,x.wr=af
def Wr.nil:Wr []:=λx h=>by cases h
def Wr.cons{b:av}{l:List av}(h:b.wr=af)(k:Wr l):Wr (b::l):=λx hx=>by
 rcases cG.1 hx with rfl|hx
 ·exact h
 ·exact k x hx
def Wr.app{a b:List av}(h:Wr a)(k:Wr b):Wr (a++b):=λx hx=>by
 rcases dV.1 hx with hx|hx
 ·exact h x hx
 ·exact k x hx
def Ty(L:List Nat)(bl:List av):Prop:=∀x∈bl,∃t,Eb x.obj=aa t/\t∈L
def Ty.nil:Ty [] []:=λx h=>by cases h
def Ty.cons{b:av}{l:List av}{t:Nat}{L:List Nat}(h:Eb b.obj=aa t)(k:Ty L l):Ty (t::L) (b::l):=λx hx=>by
 rcases cG.1 hx with rfl|hx
 ·exact⟨t,h,sP⟩
 ·obtain⟨u,h1,h2⟩:=k x hx;exact⟨u,h1,by simp[h2]⟩
def Ty.app{a b:List av}{L M:List Nat}(h:Ty L a)(k:Ty M b):Ty (L++M) (a++b):=λx hx=>by
 rcases dV.1 hx with hx|hx
 ·obtain⟨u,h1,h2⟩:=h x hx;exact⟨u,h1,by simp[h2]⟩
 ·obtain⟨u,h1,h2⟩:=k x hx;exact⟨u,h1,by simp[h2]⟩
def ZU(L:List Nat)(ys:List (Option aP)):Bool:=ys.all λy=>match y with|some t=>L.all λu=>!(aC u t)|none=>af
def Ty.ne{L:List Nat}{bl:List av}{ys:List (Option aP)}(h:Ty L bl)(hd:ZU L ys=af:=by kernel_rfl):∀x∈bl,∀t∈ys,Eb x.obj≠t:=λx hx t ht e=>by
 obtain⟨u,h1,h2⟩:=h x hx;have h3:=ik.1 hd t ht;rw[h1]at e;subst e;simp only at h3;have h4:=ik.1 h3 u h2;simp at h4
def dk.ty{z T bw x n c bl}(h:dk z T bw x n c bl):Ty [T] bl:=by
 rcases h.2.2 with⟨_,_,_,rfl⟩|⟨b,tail,_,rfl,_⟩
 ·intro x hx;cases hx
 ·exact Ty.cons rfl Ty.nil
end Sx
namespace Sx
open Go Go.RowKit Go.BigFrame
section
variable{P:aL}{a:Act}{w:an}{Q:dR->Act->an->Prop}
def G5{K:Act->an->Prop}(h:∀a',a'=a->K a' w):Exit.then K Q .normal a w:=h a rfl
def Lx{c:eZ}(I:Nat->Act->an->Prop)(n:Nat)(h:∀a',a'=a->I n a' w)
 (hs:∀m a w,I m a w->c.wp P (Exit.then (λa' w'=>∃k,k<m/\I k a' w') Q) a w):(Code.loop c).wp P Q a w:=ahu I n (h a rfl) hs
end
end Sx
namespace Sx
open Go
def cQ(n:Nat)(f:Nat->Int):List aj:=(bg n).map λi=>fI .u8 (f i)
def gD(n:Nat)(f:Nat->Int):(cQ n f).length=n:=by simp[cQ]
def rO{n:Nat}(f:Nat->Int){j:Nat}(h:j<n):(cQ n f)[j]?=aa (.int .u8 (f j)):=by simp[cQ,h]
def G6{n:Nat}{f:Nat->Int}:∀v∈cQ n f,v.oneCell'=af:=λv h=>by
 simp only[cQ,oC]at h;obtain⟨j,_,rfl⟩:=h;rfl
def BP{n:Nat}{f:Nat->Int}{j:Nat}{v:aj}(h:(cQ n f)[j]?=aa v):j<n/\v=.int .u8 (f j):=by
 have hj:j<n:=by
  rcases di j n with h1|h1
  ·exact h1
  ·rw[jA (by rw[gD];exact h1)]at h;cases h
 rw[rO f hj]at h;exact⟨hj,(cP h).symm⟩
def cH(n:Nat)(f g:Nat->Int):Nat->Int:=λj=>bif dq j n then f j else g (j-n)
def G7{a b:Nat}(h:a<b):dq a b=af:=by unfold dq;exact w8 h
def QM{a b:Nat}(h:¬a<b):dq a b=ah:=by
 cases hb:dq a b
 ·rfl
 ·unfold dq at hb;exact absurd (eU hb) h
def ahK{a b:Nat}(h:¬a<=b):ck a b=ah:=by
 cases hb:ck a b
 ·rfl
 ·exact absurd (eU hb) h
def Ly(n m:Nat)(f g:Nat->Int):cQ n f++cQ m g=cQ (n+m) (cH n f g):=by
 apply zN;intro j;by_cases h:j<n
 ·rw[gB (by rw[gD];exact h),rO f h,rO _ oM];simp[cH,G7 h]
 ·rw[vI (by rw[gD];omega),gD];by_cases h2:j<n+m
  ·rw[rO g oM,rO _ h2];simp[cH,QM h]
  ·rw[jA (by rw[gD];omega),jA (by rw[gD];omega)]
def Ec{n:Nat}{f g:Nat->Int}(h:∀i,i<n->f i=g i):cQ n f=cQ n g:=by
 unfold cQ;apply mB;intro i hi;rw[h i (List.mem_range.1 hi)]
def eH(f:Nat->Int)(o m:Nat)(g:Nat->Int):Nat->Int:=λj=>bif ck o j&&dq j (o+m)then g (j-o)else f j
def QN(kd:gw){n:Nat}(f:Nat->Int){o m:Nat}(h:o+m<=n)(g:Nat->Int):((aH kd n f).toList.take o++(bg m).map (λi=>fI kd (g i))++(aH kd n f).toList.drop (o+m)).toArray=aH kd n (eH f o m g):=by
 apply fP;simp only[aH];apply List.ext_getElem
 ·simp;omega
 ·intro j h1 h2;simp only[fH,w9,GA,P_,List.length_drop]at h1 h2;by_cases ha:j<o
  ·rw[K7 (by simp;omega),K7 (by simp;omega)];simp[eH,ahK (show¬o<=j by omega)]
  ·by_cases hb:j<o+m
   ·rw[K7 (by simp;omega),Y5 (by simp;omega)];have:min o n=o:=oM;simp[eH,w8 (show o<=j by omega),G7 hb,this]
   ·rw[Y5 (by simp;omega)];have:min o n=o:=oM;simp only[fH,w9,GA,P_,List.getElem_drop,List.getElem_map,List.getElem_range,this];have e:o+m+(j-(o+m))=j:=oM;simp[eH,QM hb,e]
def cJ(w:an)(b o n:Nat)(f:Nat->Int):Prop:=∀j,j<n->w.cell? ⟨b,o+j,ag⟩=aa (.int .u8 (f j))
def cJ.cut{w:an}{b o n:Nat}{f:Nat->Int}(h:cJ w b o n f){m:Nat}(hm:m<=n):cJ w b o m f:=λj hj=>h j oM
def cJ.drop{w:an}{b o n:Nat}{f:Nat->Int}(h:cJ w b o n f)(k:Nat):cJ w b (o+k) (n-k) (λj=>f (k+j)):=λj hj=>by
 rw[ux];exact h (k+j) oM
section
variable{ms:List Nat}{w0 w:an}{bs:List av}
def St.m_(S:St ms w0 bs w){b o n:Nat}{f:Nat->Int}(h:cJ w0 b o n f)(hm:b∉ms):cJ w b o n f:=λj hj=>S.ahv (h j hj) hm
def St.ff(S:St ms w0 bs w)(i:Nat){b N:Nat}{wr:Bool}{f:Nat->Int}{t:aP}{fr:Nat×Nat}(hb:bs[i]?=aa ⟨b,wr,.cells (aH .u8 N f) t fr⟩:=by kernel_rfl):cJ w b 0 N f:=λj hj=>by
 rw[cell_of (S.at_ i _ hb),d_,ZS _ f hj]
end
section
variable{P:aL}{w:an}
def BQ{b o n c:Nat}{f:Nat->Int}{tx e':aP}(h:cJ w b o n f)(hk:P.underlying tx=aa (.slice e'):=by kernel_rfl):Src P 1 tx (.slice (aa ⟨b,o,ag⟩) n c) n (cQ n f) w:=
 qu w hk _ n c _ (by rw[gD,Nat.mul_one]) (λj u hj=>by
  obtain⟨h1,rfl⟩:=BP hj;rw[iY];exact h j h1) G6
def Lz{ρ:bA->aj}{o:aA}{w':an}{s x:bA}{t tx:aP}{sv xv v:aj}(ho:o.op=.call ⟨.builtin .copy,#[s,x],#[t,tx]⟩)(hs:ρ s=sv)(hx:ρ x=xv)
 (b_:(Builtin.copy_ #[t,tx] o.type #[sv,xv]).run P w=.ok v w'):(execOp ρ o).run P w=.ok (.value v) w':=by
 simp[execOp,ho,resolve,invoke,builtin,hs,hx,b_,ju]
end
section
variable{P:aL}{ops:Array aA}{rest:List aA}{o:aA}{a:Act}{w w0:an}{ms:List Nat}{bs:List av}{Q:dR->Act->an->Prop}
def copy_(S:St ms w0 bs w)(i:Nat)(b N off n c:Nat)(f:Nat->Int)(sb so m sc:Nat)(g:Nat->Int){t:aP}{s x:bA}{tt tx elem:aP}(h8:cJ w sb so m g)(hm:m<=n)(hn:off+m<=N)
 (hb:bs[i]?=aa ⟨b,af,.cells (aH .u8 N f) t (0,0)⟩) {bs':List av} (h2:bs.set i ⟨b,af,.cells (aH .u8 N (eH f off m g)) t (0,0)⟩=bs')
 (k:∀w',St ms w0 bs' w'->WL P ops Q rest (a.put o.dst (.int .i64 m)) w')
 (hw:gU o (yielded ops a.tmps)=af:=by kernel_rfl) (ho:o.op=.call ⟨.builtin .copy,#[s,x],#[tt,tx]⟩:=by rfl) (hs:a.eval s=.slice (aa ⟨b,off,ag⟩) n c:=by kernel_rfl) (hx:a.eval x=.slice (aa ⟨sb,so,ag⟩) m sc:=by kernel_rfl)
 (hu:P.underlying tt=aa (.slice elem):=by kernel_rfl) (hz:(P.info? elem).map (·.size)=aa 1:=by kernel_rfl):WL P ops Q (o::rest) a w:=
 WL.want hw λK hK=>by
  have aV:=S.at_ i _ hb;have G8:Nat.min m n=m:=Nat.min_eq_left hm;have b_:=run_copy_row (P:=P) w tt tx o.type elem b off n c ⟨sb,so,ag⟩ m sc (aH .u8 N f) t (cQ m g) hu hz aV (by rw[gD,G8]) (λj v hj=>by
   obtain⟨h1,rfl⟩:=BP hj;rw[iY];exact h8 j h1) (by rw[gD,G4];exact hn) G6
  unfold rz;rw[Lz ho hs hx b_];rw[gD];have he:(goInt m:aj)=.int .i64 m:=rfl;rw[he];refine hK _ _ (k _ ?_);have hS:=S.step hb rfl (Ch.setRow w b _) (setRow_heap w b (aH .u8 N f) ((aH .u8 N f).toList.take off++cQ m g++(aH .u8 N f).toList.drop (off+m)).toArray t (0,0) aV);have e2:((aH .u8 N f).toList.take off++cQ m g++(aH .u8 N f).toList.drop (off+m)).toArray=aH .u8 N (eH f off m g):=QN .u8 f hn g;rw[e2,h2]at hS;rw[e2];exact hS
end
section
variable{P:aL}{ρ:bA->aj}{o:aA}{w:an}
def ZV{t e:aP}{x lo:bA}{b off n c k:Nat}{kd:gw}(hk:k<=n)(hc:n<=c)(QO:Nat)(lq:QO=(if c=k then off else off+k))(ho:o.op=.slice t x (aa lo) ag ag:=by rfl)(hu:P.underlying t=aa (.slice e):=by kernel_rfl)(hs:(P.info? e).map (·.size)=aa 1:=by kernel_rfl)
 (hx:ρ x=.slice (aa ⟨b,off,ag⟩) n c:=by kernel_rfl) (hh:ρ lo=.int kd ((k:Nat):Int):=by kernel_rfl):(execOp ρ o).run P w=.ok (.value (.slice (aa ⟨b,QO,ag⟩) (n-k) (c-k))) w:=by
 obtain⟨i,mD,dr⟩:=jr.1 hs;unfold execOp;simp only[ho,Option.map_none,pk,hx,hh];unfold qy;simp only[bH,dF hu,cD];unfold w_;simp only[bH,dF hu,cD,qz,nK,asIntOf,de];have h1:(0:Int)<=(k:Int)/\(k:Int)<=(n:Int):=oM;have h3:(⟨b,off,ag⟩:aF).add k=⟨b,off+k,ag⟩:=iY ..;by_cases LD:c=k
 ·rw[if_pos LD]at lq;simp[h1,qp,typeInfo,mD,dr,LD,lq]
 ·rw[if_neg LD]at lq;simp[h1,qp,typeInfo,mD,dr,LD,lq,h3]
end
end Sx
namespace Sx
open Go Go.RowKit Go.BigFrame
section
variable{P:aL}{lf l:List aA}{sp:Nat->Sp}{a0:Act}{w:an}{i:Nat}{o:aA}
end
section
variable{P:aL}{ops:Array aA}{rest:List aA}{o:aA}{a:Act}{w:an}{Q:dR->Act->an->Prop}
def ahL(vk:gw)(n:Nat)(f:Nat->Int)(kd:gw)(iv:Int){t e:aP}{x y:bA}(h0:0<=iv)(h1:iv<n)(k:WL P ops Q rest (a.put o.dst (.int vk (f iv.toNat))) w)(hw:gU o (yielded ops a.tmps)=af:=by kernel_rfl)
 (ho:o.op=.index t x y:=by rfl) (hu:P.underlying t=aa (.array n e):=by kernel_rfl) (hz:(P.info? e).map (·.size)=aa 1:=by kernel_rfl) (ha:(P.underlying e).map j_=aa ah:=by kernel_rfl)
 (hx:a.eval x=.agg (aH vk n f):=by kernel_rfl) (hy:a.eval y=.int kd iv:=by kernel_rfl):WL P ops Q (o::rest) a w:=
 aG (.int vk (f iv.toNat)) k hw (by
  obtain⟨inf,hq,dr⟩:=jr.1 hz;have dy:iv.toNat<n:=oM;have uz:(aH vk n f)[iv.toNat]?=aa (.int vk (f iv.toNat)):=ZS vk f dy;unfold execOp;simp only[ho,hx,hy];unfold Instr.index;simp only[bH,dF hu,cD,asIntOf,de];simp[h0,h1,qp,typeInfo,hq,dr,part,BE ha,uz])
end
end Sx
namespace Sx
open Go Go.RowKit Go.BigFrame
def bM(n:Nat)(f:Nat->Int)(c:Nat):Array aj:=(cQ n f++oE (c-n) (fI .u8 0)).toArray
def QP(k:Nat):(rD #[fI .u8 0] k).toList=oE k (fI .u8 0):=by
 apply List.ext_getElem
 ·simp[rD]
 ·intro i h1 h2;simp[rD,Nat.mod_one]
def ff(T:aP)(n:Nat)(f:Nat->Int)(x:Option aF)(c:Nat)(bl:List av):Prop:=
 n<=c/\((x=ag/\n=0/\c=0/\bl=[])\/∃b,x=aa ⟨b,0,ag⟩/\bl=[⟨b,af,.cells (bM n f c) T (0,0)⟩])
def ff.wr{T n f x c bl}(h:ff T n f x c bl):Wr bl:=by
 rcases h.2 with⟨_,_,_,rfl⟩|⟨b,_,rfl⟩
 ·exact Wr.nil
 ·exact Wr.cons rfl Wr.nil
def ff.ty{T n f x c bl}(h:ff T n f x c bl):Ty [T] bl:=by
 rcases h.2 with⟨_,_,_,rfl⟩|⟨b,_,rfl⟩
 ·intro x hx;cases hx
 ·exact Ty.cons rfl Ty.nil
def QQ(T:aP):ff T 0 (λ_=>0) ag 0 []:=⟨cW _,.inl ⟨rfl,rfl,rfl,rfl⟩⟩
def ZW{n c:Nat}(f:Nat->Int)(h:n<=c):(bM n f c).size=c:=by simp[bM,gD];omega
section
variable{P:aL}
def QU{w:an}{T n c m:Nat}{f g:Nat->Int}{x:Option aF}{bl:List av}(hr:ff T n f x c bl)(aV:∀y∈bl,w.heap[y.id]?=aa y.obj)
 {t tx ty:aP} {xv:aj} (hs:Src P 1 tx xv m (cQ m g) w) (ht:P.underlying t=aa (.slice T)) (hi:(P.info? T).map (λi=>(i.zero.map (·.cells),i.size,i.bytes))=aa (aa #[.int .u8 0],1,1))
 (hb:n+m<=140737488355328):
 ∃v w',(nJ #[t,tx] ty #[.slice x n c,xv]).run P w=.ok v w'/\Ch (bl.map av.id) w w'/\∃x' c' b9,v=.slice x' (n+m) c'/\ff T (n+m) (cH n f g) x' c' b9/\∀y∈b9,w'.heap[y.id]?=aa y.obj/\((∃u∈bl,y.id=u.id)\/w.heap.size<=y.id):=by
 obtain⟨i,cE,hi⟩:=jr.1 hi;simp only[bI]at hi;obtain⟨hz,dr,kC⟩:=hi;obtain⟨z0,nO,qF⟩:=jr.1 hz;obtain⟨kD,ji⟩:=hr;have iJ:Src P i.size tx xv m (cQ m g) w:=by rw[dr];exact hs
 have h63:n+m<=maxLen:=by unfold maxLen;omega
 by_cases mE:n+m<=c
 ·rcases uu m with kE|kE
  ·subst kE;refine⟨_,_,run_append_nothing (P:=P) w t tx ty T i ht cE x n c kD xv iJ,Ch.refl _ _,x,c,bl,rfl,⟨kD,?_⟩,λy hy=>⟨aV y hy,.inl ⟨y,hy,rfl⟩⟩⟩;rcases ji with h|⟨b,rfl,rfl⟩
   ·exact .inl h
   ·refine .inr ⟨b,rfl,?_⟩;have e:cQ (n+0) (cH n f g)=cQ n f:=Ec λj hj=>by simp[cH,G7 (show j<n by omega)]
    show[(⟨b,af,.cells (bM n f c) T (0,0)⟩:av)]=[⟨b,af,.cells ((cQ (n+0) (cH n f g)++oE (c-(n+0)) (fI .u8 0)).toArray) T (0,0)⟩];rw[e];rfl
  ·rcases ji with⟨_,rfl,rfl,_⟩|⟨b,rfl,rfl⟩
   ·omega
   ·have uJ:=aV _ (jS.2 rfl);have fR:=run_storeCells_at (P:=P) b n T (cQ m g) 0 (bM n f c) w uJ (by rw[ZW f kD,gD];omega) hs.one;simp only[lM,gD]at fR;have b_:(nJ #[t,tx] ty #[.slice (aa ⟨b,0,ag⟩) n c,xv]).run P w=.ok (.slice (aa ⟨b,0,ag⟩) (n+m) c) (w.setRow b ((bM n f c).toList.take n++cQ m g++(bM n f c).toList.drop (n+m)).toArray):=by
     rcases iJ.kind with⟨e',hk⟩|hk<;>simp[nJ,dF ht,dF hk,qp,typeInfo,cE,iJ.len,mE,hs.cells,iY,dr,fR,ju]
    refine⟨_,_,b_,by simpa using Ch.setRow w b _,aa ⟨b,0,ag⟩,c,[⟨b,af,.cells (bM (n+m) (cH n f g) c) T (0,0)⟩],rfl,⟨mE,.inr ⟨b,rfl,rfl⟩⟩,?_⟩;intro y hy;obtain rfl:=jS.1 hy;refine⟨?_,.inl ⟨_,jS.2 rfl,rfl⟩⟩;have:=setRow_heap w b (bM n f c) ((bM n f c).toList.take n++cQ m g++(bM n f c).toList.drop (n+m)).toArray T (0,0) uJ;rw[this];congr 2;unfold bM;congr 1;show(cQ n f++_).take n++_++(cQ n f++_).drop (n+m)=_;rw[List.take_left' (gD n f),<-List.drop_drop,List.drop_left' (gD n f),List.drop_replicate,<-Ly];congr 2;omega
 ·have hg:c<n+m:=oM;have hold:(Builtin.firstCells i.size n (.slice x n c)).run P w.drew=.ok (cQ n f).toArray w.drew:=by
   rcases ji with⟨rfl,rfl,rfl,_⟩|⟨b,rfl,rfl⟩
   ·exact run_firstCells_none (P:=P) w.drew i.size 0 0 0
   ·have uJ:=aV _ (jS.2 rfl);refine run_firstCells_some (P:=P) w.drew i.size n ⟨b,0,ag⟩ n c (cQ n f) (by rw[gD,dr,Nat.mul_one]) (λj v hj=>?_);obtain⟨mF,rfl⟩:=BP hj;rw[iY];have:w.drew.cell? ⟨b,0+j,ag⟩=w.cell? ⟨b,j,ag⟩:=sP;rw[this,cell_of uJ];simp only[bM,j7];rw[gB (by rw[gD];exact mF),rO f mF]
  have b_:=run_append_grow_src (P:=P) w t tx ty T i z0 ht cE nO x n c (cQ n f) hold xv m (cQ m g) iJ hg (by simp only[maxLen]at h63;omega) (by rw[kC];exact growslice_fits hg oM);have fJ:=grownCap_ge w (n+m) c T;refine⟨_,_,b_,?_,aa ⟨w.heap.size,0,ag⟩,grownCap w (n+m) c T,[⟨w.heap.size,af,.cells (bM (n+m) (cH n f g) (grownCap w (n+m) c T)) T (0,0)⟩],rfl,⟨fJ,.inr ⟨_,rfl,rfl⟩⟩,?_⟩
  ·exact((Ch.refl (bl.map av.id) w).drew).trans (Ch.alloc (bl.map av.id) w.drew _) (λx hx=>.inl hx)
  ·intro y hy;obtain rfl:=jS.1 hy;refine⟨?_,.inr (cW _)⟩;have:=oB w.drew (.cells ((cQ n f++cQ m g).toArray++rD z0.cells (grownCap w (n+m) c T-(n+m))) T);refine Eq.trans this ?_;congr 2;apply fP;rw[qF,GB,QP];show cQ n f++cQ m g++_=cQ (n+m) (cH n f g)++_;rw[<-Ly]
end
section
variable{P:aL}{ops:Array aA}{rest:List aA}{o:aA}{a:Act}{w w0:an}{ms:List Nat}{Q:dR->Act->an->Prop}
def QW{A bl R:List av}{xs:Option aF}{T n c m:Nat}{f g:Nat->Int}{t tx:aP}{s x:bA}{xv:aj}(S:St ms w0 (A++(bl++R)) w)(hr:ff T n f xs c bl)(hs:Src P 1 tx xv m (cQ m g) w)(hbd:n+m<=140737488355328)
 (k:∀x' c' b9 w',ff T (n+m) (cH n f g) x' c' b9->St ms w0 (A++(b9++R)) w'->WL P ops Q rest (a.put o.dst (.slice x' (n+m) c')) w')
 (ho:o.op=.call ⟨.builtin .append,#[s,x],#[t,tx]⟩:=by rfl) (hw:gU o (yielded ops a.tmps)=af:=by kernel_rfl) (xE:a.eval s=.slice xs n c:=by kernel_rfl) (uL:a.eval x=xv:=by kernel_rfl)
 (ht:P.underlying t=aa (.slice T):=by kernel_rfl) (cE:(P.info? T).map (λi=>(i.zero.map (·.cells),i.size,i.bytes))=aa (aa #[.int .u8 0],1,1):=by kernel_rfl):WL P ops Q (o::rest) a w:=
 WL.want hw λK hK=>by
  obtain⟨v,w',b_,hc,x',c',b9,rfl,gi,aV⟩:=QU (P:=P) (ty:=o.type) hr (λy hy=>S.at' (by simp[hy])) hs ht cE hbd;have S2:=S.uG hr.wr hc (λy hy=>(aV y hy).1) (λy hy=>(aV y hy).2) (by
   rcases gi.2 with⟨_,_,_,rfl⟩|⟨b,_,rfl⟩<;>simp)
  unfold rz;rw[jU ho xE uL b_];exact hK _ _ (k x' c' b9 w' gi S2)
end
end Sx
namespace Sx
open Go Go.RowKit Go.BigFrame
def QX(f:Nat->Int)(k:Nat):Nat->Int:=λj=>f (k+j)
def G9{T n f x c bl}(h:ff T n f x c bl)(hn:0<n):∃b,n<=c/\x=aa ⟨b,0,ag⟩/\bl=[⟨b,af,.cells (bM n f c) T (0,0)⟩]:=by
 rcases h.2 with⟨_,h0,_,_⟩|⟨b,h1,h2⟩
 ·omega
 ·exact⟨b,h.1,h1,h2⟩
def St.BR{ms:List Nat}{w0 w:an}{bs:List av}(S:St ms w0 bs w)(i:Nat){b n c:Nat}{wr:Bool}{f:Nat->Int}{t:aP}{fr:Nat×Nat}(hb:bs[i]?=aa ⟨b,wr,.cells (bM n f c) t fr⟩:=by kernel_rfl):cJ w b 0 n f:=λj hj=>by
 rw[cell_of (S.at_ i _ hb),d_];simp only[bM,j7];rw[gB (by rw[gD];exact hj),rO f hj]
end Sx
namespace Sx
open Go
end Sx
namespace Sx
open Go Go.RowKit Go.BigFrame
def Ch.ahM(w:an)(r:Nat)(o:Obj):Ch [r] w {w with heap:=w.heap.setIfInBounds r o}:=
 ⟨rfl,rfl,rfl,sP,λk hk hm=>by
  show(w.heap.setIfInBounds r o)[k]?=w.heap[k]?;rw[Array.getElem?_setIfInBounds_ne (λe=>hm (by simp[e]))]⟩
def oJ(kd:gw)(l:List (Int×aj)):Obj:=.map ((l.zipIdx.map λx=>(⟨.int kd x.1.1,x.1.2,x.2⟩:xd)).toArray) l.length
def ZX(kd:gw)(k:Int):∀(l:List xd)(i:Nat),(∀e∈l,∃j,e.key=.int kd j/\j≠k)->Qa (.int kd) (.int kd k) l i=aa ag
 |[],_,_=>rfl
 |e::es,i,h=>by
  obtain⟨j,h1,h2⟩:=h e (DR _);have:Instr.sameNow (.int kd) (.int kd k) e.key=aa ah:=by
   rw[h1];simp[Instr.sameNow];exact λh=>h2 h.symm
  simp[Qa,this,ZX kd k es (i+1) (λx hx=>h x (Y6 _ hx))]
def ahN(kd:gw)(l:List (Int×aj))(k:Int)(v:aj):
 Obj.map (((l.zipIdx.map λx=>(⟨.int kd x.1.1,x.1.2,x.2⟩:xd)).toArray).push ⟨.int kd k,v,l.length⟩) (l.length+1)=oJ kd (l++[(k,v)]):=by
 simp[oJ,List.zipIdx_append]
def ahO{kd:gw}{l:List (Int×aj)}{k:Int}(h:l.all (λx=>x.1!=k)=af):∀e∈(l.zipIdx.map λx=>(⟨.int kd x.1.1,x.1.2,x.2⟩:xd)),∃j,e.key=.int kd j/\j≠k:=by
 intro e he;obtain⟨x,hx,rfl⟩:=oC.1 he;have hm:=(List.mem_zipIdx hx);have h2:x.1∈l:=by
  obtain⟨_,_,h3⟩:=hm;rw[h3];exact List.getElem_mem _
 exact⟨x.1.1,rfl,by simpa using ik.1 h _ h2⟩
section
variable{P:aL}{ops:Array aA}{rest:List aA}{o:aA}{a:Act}{w w0:an}{ms:List Nat}{bs:List av}{Q:dR->Act->an->Prop}
end
def ahP(g:Nat->Int):cH 0 (λ_=>0) g=g:=by
 funext j;show(bif dq j 0 then _ else _)=_;rw[show dq j 0=ah from by cases j<;>rfl];simp
def St.beside{ms:List Nat}{w0 w w1:an}{bs bl:List av}(S:St ms w0 bs w)(T:St [] w bl w1)(h:Wr bl):St ms w0 (bl++bs) w1:=by
 have hq:=S.quiet T.ch;refine St.mk' hq.ch (λx hx=>?_) (λx hx hw=>?_) ?_
 ·rcases dV.1 hx with h1|h1
  ·exact T.at' h1
  ·exact hq.at' h1
 ·rcases dV.1 hx with h1|h1
  ·rcases T.nN h1 hw with h2|h2
   ·cases h2
   ·exact .inr (h_ S.ch.size h2)
  ·exact hq.nN h1 hw
 ·rw[DQ];refine⟨T.pw,hq.pw,λx hx y hy _ e=>?_⟩;rcases T.nN hx (h x hx)with h2|h2
  ·cases h2
  ·have:=S.ge hy;omega
def ahQ{w w1:an}(hc:Ch [] w w1){a:aF}{v:aj}(h:w.cell? a=aa v):w1.cell? a=aa v:=by
 have hb:a.block<w.heap.size:=by
  unfold zK at h;split at h
  ·next h2=>exact oH h2
  ·cases h
 have h3:=hc.block _ hb sP;unfold zK at h⊢;rw[h3];exact h
def jx(w:an)(a:Option aF)(n c:Nat)(f:Nat->Int):Prop:=n<=c/\(a=ag->n=0/\c=0)/\∀x,a=aa x->∀j,j<n->w.cell? (x.add j)=aa (.int .u8 (f j))
def ei(w:an)(a:Option aF)(n c:Nat)(f:Nat->Int):Prop:=n<=1000000/\jx w a n c f
def jx.quiet{w w1:an}{a:Option aF}{n c:Nat}{f:Nat->Int}(h:jx w a n c f)(hc:Ch [] w w1):jx w1 a n c f:=⟨h.1,h.2.1,λx e j hj=>ahQ hc (h.2.2 x e j hj)⟩
def ei.quiet{w w1:an}{a:Option aF}{n c:Nat}{f:Nat->Int}(h:ei w a n c f)(hc:Ch [] w w1):ei w1 a n c f:=⟨h.1,h.2.quiet hc⟩
def jx.cut{w:an}{a:Option aF}{n c m:Nat}{f:Nat->Int}(h:jx w a n c f)(hm:m<=n)(hb:m<=1000000):ei w a m c f:=
 ⟨hb,h_ hm h.1,λe=>⟨by have:=h.2.1 e;omega,(h.2.1 e).2⟩,λx e j hj=>h.2.2 x e j oM⟩
def Ed{P:aL}{w:an}{a:Option aF}{n c:Nat}{f:Nat->Int}(h:ei w a n c f){tx e':aP}(hk:P.underlying tx=aa (.slice e'):=by kernel_rfl):Src P 1 tx (.slice a n c) n (cQ n f) w:=by
 obtain⟨h1,h2,h3,h4⟩:=h;cases a with
 |none=>
  obtain⟨rfl,rfl⟩:=h3 rfl;exact Src.ofNil _ hk 0
 |some x=>exact qu w hk _ n c _ (by rw[gD,Nat.mul_one]) (λj u hj=>by
  obtain⟨h5,rfl⟩:=BP hj;exact h4 x rfl j h5) G6
def cY(m n:Nat):Nat:=min n m
def ZY(m n:Nat):(if((m:Nat):Int)<((n:Nat):Int)then((m:Nat):Int)else((n:Nat):Int))=((cY m n:Nat):Int):=by unfold cY;split<;>omega
def ei.ZZ{w:an}{a:Option aF}{n c:Nat}{f:Nat->Int}(h:ei w a n c f)(hn:0<n):∃x,a=aa x:=by
 cases a with
 |none=>have:=(h.2.2.1 rfl).1;omega
 |some x=>exact⟨x,rfl⟩
def ei.QY{w:an}{b o n c:Nat}{f:Nat->Int}(h:cJ w b o n f)(hn:n<=1000000)(hc:n<=c):ei w (aa ⟨b,o,ag⟩) n c f:=
 ⟨hn,hc,λe=>absurd e sP,λx e j hj=>by cases e;rw[iY];exact h j hj⟩
section
variable{P:aL}{ops:Array aA}{rest:List aA}{o o':aA}{a:Act}{w w0:an}{ms:List Nat}{bs:List av}{Q:dR->Act->an->Prop}
def vS(b o n off i:Nat)(f:Nat->Int)(h8:cJ w b o n f)(hi:i<n)(he:off=o+i){x:bA}{ty:aP}(k:WL P ops Q rest (a.put o'.dst (.int .u8 (f i))) w)(hw:gU o' (yielded ops a.tmps)=af:=by kernel_rfl)(ho:o'.op=.load ty x:=by rfl)(hx:a.eval x=.pointer (aa ⟨b,off,ag⟩):=by kernel_rfl)
 (ha:(P.underlying ty).map j_=aa ah:=by kernel_rfl):WL P ops Q (o'::rest) a w:=
 aG _ k hw (by
  have:=h8 i hi;rw[<-he]at this;unfold execOp;simp only[ho,hx,qq,jt,bH,de,cD];unfold loadVar;rw[bH,BE ha];simp[load,Sem.run,this])
end
section
variable{P:aL}
def Z0{w:an}{T n c m:Nat}{f g:Nat->Int}{x:Option aF}(hx:ei w x n c f)
 {t tx ty:aP} {xv:aj} (hs:Src P 1 tx xv m (cQ m g) w) (ht:P.underlying t=aa (.slice T)) (hi:(P.info? T).map (λi=>(i.zero.map (·.cells),i.size,i.bytes))=aa (aa #[.int .u8 0],1,1))
 (hb:n+m<=140737488355328) (hg:c<n+m):
 ∃b c' w',(nJ #[t,tx] ty #[.slice x n c,xv]).run P w=.ok (.slice (aa ⟨b,0,ag⟩) (n+m) c') w'/\n+m<=c'/\Ch [] w w'/\w.heap.size<=b/\w'.heap[b]?=aa (.cells (bM (n+m) (cH n f g) c') T (0,0)):=by
 obtain⟨i,cE,hi⟩:=jr.1 hi;simp only[bI]at hi;obtain⟨hz,dr,kC⟩:=hi;obtain⟨z0,nO,qF⟩:=jr.1 hz;have iJ:Src P i.size tx xv m (cQ m g) w:=by rw[dr];exact hs
 have h63:n+m<=maxLen:=by unfold maxLen;omega
 have hold:(Builtin.firstCells i.size n (.slice x n c)).run P w.drew=.ok (cQ n f).toArray w.drew:=by
  cases x with
  |none=>
   obtain⟨rfl,rfl⟩:=hx.2.2.1 rfl;exact run_firstCells_none (P:=P) w.drew i.size 0 0 0
  |some a=>
   refine run_firstCells_some (P:=P) w.drew i.size n a n c (cQ n f) (by rw[gD,dr,Nat.mul_one]) (λj v hj=>?_);obtain⟨mF,rfl⟩:=BP hj;have:=hx.2.2.2 a rfl j mF;simpa using this
 have b_:=run_append_grow_src (P:=P) w t tx ty T i z0 ht cE nO x n c (cQ n f) hold xv m (cQ m g) iJ hg (by simp only[maxLen]at h63;omega) (by rw[kC];exact growslice_fits hg oM);have fJ:=grownCap_ge w (n+m) c T;refine⟨w.heap.size,grownCap w (n+m) c T,_,b_,fJ,?_,cW _,?_⟩
 ·exact((Ch.refl [] w).drew).trans (Ch.alloc [] w.drew _) (λx hx=>.inl hx)
 ·have:=oB w.drew (.cells ((cQ n f++cQ m g).toArray++rD z0.cells (grownCap w (n+m) c T-(n+m))) T);refine Eq.trans this ?_;congr 2;apply fP;rw[qF,GB,QP];show cQ n f++cQ m g++_=cQ (n+m) (cH n f g)++_;rw[<-Ly]
end
section
variable{P:aL}{o:aA}{ρ:bA->aj}{w w0:an}{ms:List Nat}{bs:List av}{R:aj->an->Prop}
def Y.Z3{x0:Option aF}{T n c m:Nat}{f g:Nat->Int}{t tx:aP}{s x:bA}{xv:aj}(S:St ms w0 bs w)(Ee:ei w x0 n c f)(hs:Src P 1 tx xv m (cQ m g) w)(hbd:n+m<=140737488355328)(hg:c<n+m)
 (k:∀b c' w',n+m<=c'->St ms w0 (⟨b,af,.cells (bM (n+m) (cH n f g) c') T (0,0)⟩::bs) w'->R (.slice (aa ⟨b,0,ag⟩) (n+m) c') w')
 (ho:o.op=.call ⟨.builtin .append,#[s,x],#[t,tx]⟩:=by rfl) (xE:ρ s=.slice x0 n c:=by kernel_rfl) (uL:ρ x=xv:=by kernel_rfl)
 (ht:P.underlying t=aa (.slice T):=by kernel_rfl) (cE:(P.info? T).map (λi=>(i.zero.map (·.cells),i.size,i.bytes))=aa (aa #[.int .u8 0],1,1):=by kernel_rfl):Yields P o ρ w R:=by
 obtain⟨b,c',w',b_,hc,cz,hb,aV⟩:=Z0 (P:=P) (ty:=o.type) Ee hs ht cE hbd hg;unfold Yields;rw[jU ho xE uL b_];exact k b c' w' hc (S.new cz hb aV)
end
section
variable{P:aL}{ops:Array aA}{rest:List aA}{o:aA}{a:Act}{w:an}{Q:dR->Act->an->Prop}{ρ:bA->aj}{R:aj->an->Prop}
end
def gK(l:List Int):Nat->Int:=λj=>l.getD j 0
section
variable{P:aL}{ops:Array aA}{rest:List aA}{o:aA}{a:Act}{w w0:an}{ms:List Nat}{bs:List av}{Q:dR->Act->an->Prop}{ρ:bA->aj}
def ahR(neg:Bool)(r:Bool)(xs ys:Array aj){v:aj}(hv:v=.bool (bif neg then !r else r)){t yt:aP}{x y:bA}(ho:o.op=.binOp (bif neg then .neq else .eql) t x y yt:=by rfl)(hx:ρ x=.agg xs:=by kernel_rfl)(hy:ρ y=.agg ys:=by kernel_rfl)(hg:P.eqGuardType P.depth t=ah:=by kernel_rfl)(he:zQ P 10000 t (.agg xs) (.agg ys)=aa r:=by kernel_rfl):
 (execOp ρ o).run P w=.ok (.value v) w:=by
 rw[hv];exact ahn neg ho hx hy hg he
def Z3{x0:Option aF}{T n c m:Nat}{f g:Nat->Int}{t tx:aP}{s x:bA}{xv:aj}(S:St ms w0 bs w)(Ee:ei w x0 n c f)(hs:Src P 1 tx xv m (cQ m g) w)(hbd:n+m<=140737488355328)(hg:c<n+m)
 (k:∀b c' w',n+m<=c'->St ms w0 (⟨b,af,.cells (bM (n+m) (cH n f g) c') T (0,0)⟩::bs) w'->WL P ops Q rest (a.put o.dst (.slice (aa ⟨b,0,ag⟩) (n+m) c')) w')
 (hw:gU o (yielded ops a.tmps)=af:=by kernel_rfl) (ho:o.op=.call ⟨.builtin .append,#[s,x],#[t,tx]⟩:=by rfl) (xE:a.eval s=.slice x0 n c:=by kernel_rfl) (uL:a.eval x=xv:=by kernel_rfl)
 (ht:P.underlying t=aa (.slice T):=by kernel_rfl) (cE:(P.info? T).map (λi=>(i.zero.map (·.cells),i.size,i.bytes))=aa (aa #[.int .u8 0],1,1):=by kernel_rfl):WL P ops Q (o::rest) a w:=
 WL.want hw λK hK=>by
  obtain⟨b,c',w',b_,hc,cz,hb,aV⟩:=Z0 (P:=P) (ty:=o.type) Ee hs ht cE hbd hg;unfold rz;rw[jU ho xE uL b_];exact hK _ _ (k b c' w' hc (S.new cz hb aV))
end
def St.up{ms:List Nat}{w0 w:an}{b:Nat}{o:Obj}{B:List av}{L:List Nat}(S:St ms w0 (⟨b,ah,o⟩::B) w)(G_:w0.heap.size<=b)(hT:Ty L B)(hd:ZU L [Eb o]=af:=by kernel_rfl):St ms w0 (⟨b,af,o⟩::B) w:=by
 refine St.mk' S.ch (λx hx=>?_) (λx hx hw=>?_) ?_
 ·rcases cG.1 hx with rfl|hx
  ·exact S.at' (x:=⟨b,ah,o⟩) (DR _)
  ·exact S.at' (Y6 _ hx)
 ·rcases cG.1 hx with rfl|hx
  ·exact .inr G_
  ·exact S.nN (Y6 _ hx) hw
 ·refine BB.2 ⟨λy hy _ e=>?_,(BB.1 S.pw).2⟩;have h1:=S.at' (x:=⟨b,ah,o⟩) (DR _);have h2:=S.at' (Y6 _ hy);simp only at h1 e;rw[e,h2]at h1;exact hT.ne hd y hy _ (DR _) (congrArg Eb (cP h1))
end Sx
namespace Sd
abbrev az:=Nat->Int
structure Timer where
 n:Int
 most:Int
deriving DecidableEq,Inhabited
structure Tok where
 aS:Int
 au:Int
 offer:Int
 oa:Timer
 la:Timer
 bad:Bool
deriving DecidableEq,Inhabited
structure Label where
 na:Int
 source:Int
 seq:Int
deriving DecidableEq,Inhabited
structure X4 where
 a:Int
 b:Int
 c:Int
 d:Int
deriving DecidableEq,Inhabited
def X4.get(x:X4)(i:Nat):Int:=match i with|0=>x.a|1=>x.b|2=>x.c|_=>x.d
def X4.map(f:Int->Int)(x:X4):X4:=⟨f x.a,f x.b,f x.c,f x.d⟩
def X4.zip(f:Int->Int->Int)(x y:X4):X4:=⟨f x.a y.a,f x.b y.b,f x.c y.c,f x.d y.d⟩
def X4.zero:X4:=⟨0,0,0,0⟩
structure fC where
 cls:Int
 bC:X4
 now:X4
 ct:Label
deriving DecidableEq,Inhabited
structure Rec where
 kind:Int
 source:Int
 seq:Int
 au:Int
 code:Int
 how:Int
deriving DecidableEq,Inhabited
structure ca where
 kind:Int
 seq:Int
 role:Int
 bC:Int
 au:Int
 mode:Int
 cls:Int
 now:Bool
 x:X4
deriving DecidableEq,Inhabited
structure aQ where
 kind:Int
 seq:Int:=0
 role:Int:=0
 fa:Int:=0
 au:Int:=0
 code:Int:=0
 aR:az:=λ_=>0
deriving Inhabited
structure fK where
 valid:Bool
 x:X4
 qG:Bool
deriving DecidableEq,Inhabited
structure jF where
 any:Bool
 high:Int
 seen:Int
deriving DecidableEq,Inhabited
structure Ask where
 source:Int
 cd:Int
 dJ:Timer
deriving DecidableEq,Inhabited
structure fg where
 many:Int
 jG:Bool
 aR:az
deriving Inhabited
structure gL where
 on:Bool
 eo:Timer
 role:Int
 key:az
 seen:jF
deriving Inhabited
structure Act where
 mode:Int
 cls:Int
 out:X4
 gW:Label
 azf:Label
deriving DecidableEq,Inhabited
structure aX where
 i:Nat->Int
 k:Nat->Nat×az
namespace aX
def order(p:aX)(k:Nat):Int:=p.i k
def Z4(p:aX)(s:Nat):Int:=p.i (9+s)
def table(p:aX)(m r:Nat):Int:=p.i (14+4*m+r)
def graph(p:aX)(m:Nat):Int:=p.i (34+m)
def start(p:aX):Int:=p.i 39
def safe(p:aX):Int:=p.i 40
def lost(p:aX):Int:=p.i 41
def da(p:aX):Int:=p.i 42
def dL(p:aX):Int:=p.i 43
def offer(p:aX):Int:=p.i 44
def ask(p:aX):Int:=p.i 45
def vT(p:aX):Int:=p.i 46
def beyond(p:aX):Int:=p.i 47
def queue(p:aX):Int:=p.i 48
def jk(p:aX):Int:=p.i 49
def most(p:aX)(c:Nat):Int:=p.i (50+c)
def Ef(p:aX):Int:=p.i 54
def au(p:aX):Int:=p.i 55
end aX
end Sd
namespace Sd
def sat(n most:Int):Int:=if n<most then n+1 else most
def vU(n low high:Int):Int:=if n<low then low else if high<n then high else n
def tI(now bC ct:Int):Int:=
 if ct<1 then now
 else if now<=bC then(if bC-now<=ct then bC else now+ct)
 else(if now-bC<=ct then bC else now-ct)
def has(set i:Int):Bool:=decide (0<=set)&&decide (0<=i)&&decide (i<=62)&&decide (set/2^i.toNat%2=1)
namespace Timer
def zero:Timer:=⟨0,0⟩
def start(most:Int):Timer:=⟨0,max most 0⟩
def step(t:Timer):Timer:={t with n:=sat t.n t.most}
def due(t:Timer):Bool:=decide (t.most<=t.n)
end Timer
def placeOf(p:aX)(s:Int):Int:=
 if p.i 0=s then 0 else if p.i 1=s then 1 else if p.i 2=s then 2 else if p.i 3=s then 3 else if p.i 4=s then 4 else-1
def cd(p:aX)(s:Int):Int:=placeOf p s
def qH(p:aX)(a b:Int):Bool:=decide (placeOf p a≠-1)&&decide (placeOf p b≠-1)&&decide (placeOf p a<placeOf p b)
def below(n bound:Int):Bool:=decide (0<=n)&&decide (n<bound)
def vV(p:aX)(source role:Int):Bool:=below source 5&&below role 4&&has (p.Z4 source.toNat) role
def may(p:aX)(mode role cls:Int):Bool:=below mode 5&&below role 4&&below cls 4&&has (p.table mode.toNat role.toNat) cls
def goes(p:aX)(from_ bC:Int):Bool:=below from_ 5&&below bC 5&&has (p.graph from_.toNat) bC
namespace Tok
def pass(t:Tok)(bC au:Int):Tok:=⟨bC,au,-1,.zero,.zero,t.bad⟩
def new(p:aX):Tok:=⟨4,p.au,-1,.zero,.zero,ah⟩
def dT(t:Tok)(bC:Int):Tok×Int:=
 if bC<0\/5<=bC then(t,1)else if bC=t.aS then(t,25)else if 65535<=t.au then(t,24)
 else(t.pass bC (t.au+1),0)
def iB(t:Tok):Tok:=t.pass 4 (if t.aS≠4 then sat t.au 65535 else t.au)
def jH(t:Tok):Tok:={t with offer:=-1,oa:=.zero}
def make(p:aX)(t:Tok)(from_ bC:Int)(there:Bool):Tok×Int:=
 if from_≠t.aS then(t,20)else if 65535<=t.au then(t,24)else if bC=from_ then(t,25)
 else if bC<1\/3<bC\/there=ah then(t,2)else if 0<=t.offer then(t,28)
 else({t with offer:=bC,oa:=.start p.offer},0)
def accept(t:Tok)(from_ au:Int):Tok×Int:=
 if t.offer<0\/t.offer≠from_ then(t,28)else if au≠t.au then(t,21)else t.dT from_
def gE(t:Tok)(from_:Int):Tok×Int:=
 if t.offer<0\/t.offer≠from_ then(t,28)else(t.jH,0)
def drop(t:Tok)(source:Int):Tok×Bool:=
 if t.offer<0\/t.offer≠source then(t,ah)else(t.jH,af)
def tick(t:Tok):Tok×Int:=
 if t.offer<0 then(t,-1)
 else if t.oa.step.due then(({t with oa:=t.oa.step}:Tok).jH,t.offer)
 else({t with oa:=t.oa.step},-1)
end Tok
namespace Q
def waits(l:List Ask)(s:Int):Bool:=l.any λa=>decide (a.source=s)
def insert(l:List Ask)(a:Ask):List Ask:=(l.takeWhile λx=>decide (x.cd<=a.cd))++a::(l.dropWhile λx=>decide (x.cd<=a.cd))
def push(most:Int)(l:List Ask)(a:Ask):List Ask×Int:=
 if waits l a.source then(l,27)else if most<=l.length then(l,3)else(insert l a,0)
def drop(l:List Ask)(s:Int):List Ask:=l.filter λa=>decide (a.source≠s)
def pI(l:List Ask):List Ask:=l.map λa=>{a with dJ:=a.dJ.step}
def gone(l:List Ask):List Ask:=(pI l).filter λa=>a.dJ.due
def kept(l:List Ask):List Ask:=(pI l).filter λa=>!a.dJ.due
end Q
def iC(p:aX)(t:Tok)(most:Int)(q:List Ask)(from_:Int)(now:Bool):Tok×Int×Int×List Ask:=
 if t.bad then(t,0,29,q)else if from_=t.aS then(t,0,25,q)else if 65535<=t.au then(t,0,24,q)
 else if t.aS=4\/(now=af/\qH p from_ t.aS=af)then
  (if(t.dT from_).2≠0 then(t,0,(t.dT from_).2,q)else((t.dT from_).1,3,0,Q.drop q from_))
 else if now then(t,0,26,q)
 else(t,0,(Q.push most q ⟨from_,cd p from_,.start p.ask⟩).2,(Q.push most q ⟨from_,cd p from_,.start p.ask⟩).1)
def gk(t:Tok)(q:List Ask):Tok×Int×List Ask:=
 match q with
 |[]=>(t,2,q)
 |a::_=>if(t.dT a.source).2≠0 then(t,(t.dT a.source).2,q)else((t.dT a.source).1,0,Q.drop q a.source)
def dM(t:Tok)(q:List Ask)(from_:Int):Tok×Int×List Ask:=
 if from_≠t.aS then(t,20,q)else if 65535<=t.au then(t,24,q)else gk t q
def iD(p:aX)(t:Tok)(q:List Ask)(there:Bool):Tok×Int×List Ask:=
 if t.aS=4\/there=af then({t with la:=.zero},0,q)
 else
  let la:=(if t.la.most=0 then Timer.start p.dL else t.la).step
  let t1:Tok:={t with la:=la}
  if la.due=ah then(t1,0,q)
  else if 65535<=t.au then(t1.iB,6,q)
  else if(gk t1 q).2.1≠0 then((t1.dT 4).1,5,(gk t1 q).2.2)
  else((gk t1 q).1,5,(gk t1 q).2.2)
namespace fC
def set(p:aX)(pt:fC)(cls:Int)(x:X4)(ct:Label):fC:=
 {pt with cls:=cls,ct:=ct,bC:=if cls<0\/4<=cls then .zero else x.map λn=>vU n (-(p.most cls.toNat)) (p.most cls.toNat)}
def hold(pt:fC)(ct:Label):fC:={pt with bC:=.zero,ct:=ct}
def step(p:aX)(pt:fC):fC:=
 let now:=X4.zip (λa b=>tI a b p.Ef) pt.now pt.bC
 {pt with now:=now,ct:=if now=pt.now then pt.ct else{pt.ct with na:=4}}
end fC
def uH(most:Int)(x:X4):Bool:=
 (decide (x.a< -most)||decide (most<x.a))||(decide (x.b< -most)||decide (most<x.b))||(decide (x.c< -most)||decide (most<x.c))||(decide (x.d< -most)||decide (most<x.d))
def iE(p:aX)(run:Int)(s:fK):Int×Bool:=
 if s.valid=ah\/uH p.beyond s.x=ah then(0,ah)
 else(sat (max run 0) p.vT,decide (p.vT<=sat (max run 0) p.vT))
def oK(p:aX)(t:Tok)(source role mode:Int)(m:ca):Int:=
 if m.kind≠10/\m.kind≠11 then 1 else if source≠t.aS then 20 else if m.au≠t.au then 21
 else if may p mode role (if m.kind=10 then 0 else m.cls)=ah then 22
 else if m.kind=10/\goes p mode m.mode=ah then 23 else 0
end Sd
namespace Sd
def xI(k:Int):ca:=⟨k,0,0,0,0,0,0,ah,.zero⟩
structure aM where
 take:Nat->az->Option ca
 aR:Nat×az->Int->Int->az
 right:Nat×az->Int->Int->az->az->Bool
 key:Nat×az->Int->Int->az->az
 opens:az->Int->Nat->az->Bool
 next:az->Rec->az
 iE:jF->Int->jF
structure aT where
 dv:Bool×Timer
 aE:Nat->gL
def gL.zero:gL:=⟨ah,.zero,0,λ_=>0,⟨ah,0,0⟩⟩
namespace aT
def new:aT:=⟨(ah,.zero),λ_=>.zero⟩
def iZ(t:aT)(s:Int):Bool:=decide (1<=s)&&decide (s<=3)&&(t.aE (s.toNat-1)).on
def on(t:aT)(s:Int):Bool:=if s=4 then af else if s=0 then t.dv.1 else t.iZ s
def role(t:aT)(s:Int):Int:=if t.iZ s then(t.aE (s.toNat-1)).role else 0
def many(t:aT):Int:=(if(t.aE 0).on then 1 else 0)+(if(t.aE 1).on then 1 else 0)+(if(t.aE 2).on then 1 else 0)
def ia(t:aT)(i:Nat)(s:gL):aT:={t with aE:=λj=>if j=i then s else t.aE j}
def fD(p:aX)(t:aT)(s r:Int)(key:az):aT×Int:=
 if s<1\/3<s\/r<0\/4<=r then(t,1)
 else if t.iZ s=ah/\p.jk<=t.many then(t,19)
 else(t.ia (s.toNat-1) ⟨af,.start p.da,r,key,⟨ah,0,0⟩⟩,0)
def take(C:aM)(p:aX)(t:aT)(s:Int)(n:Nat)(f:az):aT×Except Int ca:=
 if t.iZ s=ah then(t,.error 16)else
 if n<8\/C.opens (t.aE (s.toNat-1)).key s n f=ah then(t,.error 14)else
  match C.take (n-8) f with
  |none=>(t,.error 13)
  |some m=>
   if m.kind=1\/m.kind=2 then(t,.error 13)
   else if C.iE (t.aE (s.toNat-1)).seen m.seq=(t.aE (s.toNat-1)).seen then(t,.error 15)
   else(t.ia (s.toNat-1) {(t.aE (s.toNat-1))with seen:=C.iE (t.aE (s.toNat-1)).seen m.seq,on:=af,eo:=.start p.da},.ok m)
def end_(t:aT)(s:Int):aT:=if t.iZ s then t.ia (s.toNat-1) .zero else t
def iK(p:aX)(t:aT):aT:={t with dv:=(af,.start p.da)}
def zY(t:aT):Bool:=t.dv.1&&t.dv.2.step.due
def mG(t:aT)(i:Nat):Bool:=(t.aE i).on&&(t.aE i).eo.step.due
def tick(t:aT):aT:=
 {dv:=if t.dv.1 then(if t.dv.2.step.due then(ah,.zero)else(af,t.dv.2.step))else t.dv,aE:=λi=>if(t.aE i).on then(if(t.aE i).eo.step.due then gL.zero else{(t.aE i)with eo:=(t.aE i).eo.step})else t.aE i}
def ended(t:aT):List Int:=
 (if t.zY then[0]else[])++(if t.mG 0 then[1]else[])++(if t.mG 1 then[2]else[])++(if t.mG 2 then[3]else[])
end aT
structure Core where
 p:aX
 t:Tok
 q:List Ask
 doors:Nat->fg
 ay:aT
 samples:Int
 beyond:Int
 mode:Int
 gW:Label
 pt:fC
 head:az
structure ai where
 c:Core
 bE:List (Int×aQ)
 aY:List Rec
def pJ:Label:=⟨2,4,0⟩
def linked(s:Int):Bool:=decide (1<=s)&&decide (s<=3)
def fg.zero:fg:=⟨0,ah,λ_=>0⟩
def Core.new(p:aX):Core:=
 ⟨p,.new p,[],λ_=>.zero,.new,0,0,p.start,pJ,⟨1,.zero,.zero,pJ⟩,λ_=>0⟩
def Core.act(c:Core):Act:=⟨c.mode,c.pt.cls,c.pt.now,c.gW,c.pt.ct⟩
namespace ai
variable(C:aM)
def tell(s:ai)(l:Int)(r:aQ):ai:={s with bE:=s.bE++[(l,r)]}
def eK(s:ai)(l:Int)(r:aQ):ai:=if linked l&&s.c.ay.on l then s.tell l r else s
def record(s:ai)(kind source seq code how:Int):ai:=
 let r:Rec:=⟨kind,source,seq,s.c.t.au,code,how⟩
 {s with aY:=s.aY++[r],c:={s.c with head:=C.next s.c.head r}}
def refuse(s:ai)(l n code:Int):ai:=(s.tell l {kind:=132,seq:=n,code:=code}).record C 7 l n code 0
def jW(s:ai)(l code:Int):ai:=s.record C 1 l 0 code 0
def done(s:ai)(l n:Int):ai:=s.tell l {kind:=131,seq:=n}
def goes(s:ai)(t:Tok)(how n:Int):ai:=
 let a:=s.c.t.aS
 let s1:ai:={s with c:={s.c with t:=t,q:=Q.drop s.c.q t.aS}}
 let s2:=s1.eK a {kind:=134,fa:=t.aS,au:=t.au}
 let s3:=s2.eK t.aS {kind:=133,au:=t.au}
 s3.record C 8 t.aS n 0 how
def gone(s:ai)(l fa code:Int):ai:=s.eK l {kind:=136,fa:=fa,code:=code}
def leave(s:ai)(source:Int):ai:=
 let s1:ai:={s with c:={s.c with q:=Q.drop s.c.q source}}
 if(s1.c.t.drop source).2=ah then s1
 else(({s1 with c:={s1.c with t:=(s1.c.t.drop source).1}}:ai).gone (s1.c.t.drop source).1.aS source 16).record C 12 source 0 16 0
def eL(s:ai)(mode:Int)(ct:Label):ai:={s with c:={s.c with mode:=mode,gW:=ct,pt:=s.c.pt.hold ct}}
def tJ(s:ai)(l:Int)(n:Nat)(f:az):ai:=
 match C.take n f with
 |none=>s.jW C l 13
 |some m=>
  if vV s.c.p l m.role=ah then s.refuse C l 0 18
  else
   let d:=s.c.doors (l.toNat-1)
   if 4294967295<=d.many then s.refuse C l 0 24
   else
    let x:=C.aR (s.c.p.k 3) l (d.many+1)
    let s1:ai:={s with c:={s.c with doors:=λj=>if j=l.toNat-1 then⟨d.many+1,af,x⟩else s.c.doors j}}
    (s1.tell l {kind:=129,aR:=x}).record C 2 l 0 0 0
def prove(s:ai)(l:Int)(n:Nat)(f:az):ai:=
 if n≠10 then s.jW C l 13
 else match C.take 2 f with
 |none=>s.jW C l 13
 |some m=>
  let d:=s.c.doors (l.toNat-1)
  if d.jG=ah then s.refuse C l 0 17
  else
   let s1:ai:={s with c:={s.c with doors:=λj=>if j=l.toNat-1 then⟨d.many,ah,λ_=>0⟩else s.c.doors j}}
   if C.right (s.c.p.k (l.toNat-1)) l m.role d.aR (λj=>f (2+j))=ah then s1.jW C l 14
   else if vV s.c.p l m.role=ah then s1.refuse C l 0 18
   else
    let(ay,e):=aT.fD s.c.p s.c.ay l m.role (C.key (s.c.p.k (l.toNat-1)) l m.role d.aR)
    if e≠0 then s1.refuse C l 0 e
    else
     let s2:ai:={s1 with c:={s1.c with ay:=ay}}
     (s2.tell l {kind:=130,role:=m.role,fa:=s.c.t.aS,au:=s.c.t.au}).record C 3 l 0 0 0
def eV(s:ai)(t:Tok):ai:={s with c:={s.c with t:=t}}
def BS(s:ai)(l:Int)(m:ca):ai:=
 ((({s with c:={s.c with ay:=s.c.ay.end_ l}}:ai).leave C l).record C 4 l m.seq 0 0).done l m.seq
def ask(s:ai)(l:Int)(m:ca):ai:=
 let(t,how,e,q):=iC s.c.p s.c.t s.c.p.queue s.c.q l m.now
 if e≠0 then s.refuse C l m.seq e
 else
  let s1:ai:={s with c:={s.c with q:=q}}
  (if 0<how then s1.goes C t how m.seq else(s1.eV t).record C 10 l m.seq 0 0).done l m.seq
def offer(s:ai)(l:Int)(m:ca):ai:=
 let(t,e):=Tok.make s.c.p s.c.t l m.bC (s.c.ay.on m.bC)
 if e≠0 then s.refuse C l m.seq e
 else((((s.eV t).eK m.bC {kind:=135,fa:=l,au:=t.au}).record C 9 l m.seq 0 m.bC)).done l m.seq
def accept(s:ai)(l:Int)(m:ca):ai:=
 let(t,e):=s.c.t.accept l m.au
 if e≠0 then s.refuse C l m.seq e else(s.goes C t 1 m.seq).done l m.seq
def gE(s:ai)(l:Int)(m:ca):ai:=
 let(t,e):=s.c.t.gE l
 if e≠0 then s.refuse C l m.seq e
 else((((s.eV t).gone t.aS l 0).record C 11 l m.seq 0 0)).done l m.seq
def release(s:ai)(l:Int)(m:ca):ai:=
 let(t,e,q):=dM s.c.t s.c.q l
 if e≠0 then s.refuse C l m.seq e else(({s with c:={s.c with q:=q}}:ai).goes C t 2 m.seq).done l m.seq
def command(s:ai)(l:Int)(m:ca):ai:=
 let e:=oK s.c.p s.c.t l (s.c.ay.role l) s.c.mode m
 if e≠0 then s.refuse C l m.seq e
 else
  let ct:Label:=⟨1,l,m.seq⟩
  let s1:ai:=if m.kind=10 then{s with c:={s.c with mode:=m.mode,gW:=ct}}
   else{s with c:={s.c with pt:=s.c.pt.set s.c.p m.cls m.x ct}}
  (s1.record C 6 l m.seq 0 0).done l m.seq
def lv(s:ai)(l:Int)(m:ca):ai:=
 if m.kind=3 then s.done l m.seq else if m.kind=4 then s.BS C l m else if m.kind=5 then s.ask C l m
 else if m.kind=6 then s.offer C l m else if m.kind=7 then s.accept C l m else if m.kind=8 then s.gE C l m
 else if m.kind=9 then s.release C l m else if m.kind=10\/m.kind=11 then s.command C l m else s
def item(s:ai)(l code:Int)(n:Nat)(f:az):ai:=
 if code≠0 then s.jW C l code
 else if 0<n/\f 0=1 then s.tJ C l n f
 else if 0<n/\f 0=2 then s.prove C l n f
 else
  match s.c.ay.take C s.c.p l n f with
  |(_,.error e)=>s.jW C l e
  |(ay,.ok m)=>({s with c:={s.c with ay:=ay}}:ai).lv C l m
def iK(s:ai)(x:fK):ai:=
 if x.valid=ah then{s with c:={s.c with beyond:=0}}
 else
  let n:=sat s.c.samples 4294967295
  let r:=iE s.c.p s.c.beyond x
  let s1:ai:={s with c:={s.c with samples:=n,ay:=s.c.ay.iK s.c.p,beyond:=r.1}}
  if s.c.t.aS=0/\x.qG=af then
   let(t,e,q):=dM s.c.t s.c.q 0
   if e≠0 then s1.record C 7 0 n e 0 else({s1 with c:={s1.c with q:=q}}:ai).goes C t 2 n
  else if s.c.t.aS=0 then
   let e:=oK s.c.p s.c.t 0 0 s.c.mode {xI 11 with au:=s.c.t.au,cls:=1}
   if e≠0 then s1.record C 7 0 n e 0
   else({s1 with c:={s1.c with pt:=s1.c.pt.set s.c.p 1 x.x ⟨1,0,n⟩}}:ai).record C 6 0 n 0 0
  else if r.2 then
   let(t,e):=s.c.t.dT 0
   if e≠0 then s1.record C 7 0 n e 0 else s1.goes C t 4 n
  else s1
def lT(s:ai)(bad:Bool):ai:=
 let s1:=s.eV {s.c.t with bad:=bad}
 if bad=ah then s1
 else
  let t:=s1.c.t.iB
  let s2:=if s1.c.t.aS≠4 then s1.goes C t 6 0 else s1.eV t
  let s3:=s2.c.q.foldl (λ(s:ai)(a:Ask)=>({s with c:={s.c with q:=Q.drop s.c.q a.source}}:ai).gone a.source 4 29) s2
  s3.eL s3.c.p.safe pJ
def dL(s:ai):ai:=
 let(t,how,q):=iD s.c.p s.c.t s.c.q (s.c.ay.on s.c.t.aS)
 if how<=0 then s.eV t
 else
  let s1:=({s with c:={s.c with q:=q}}:ai).goes C t how 0
  if how=5 then s1.eL s1.c.p.lost ⟨3,4,0⟩else s1.eL s1.c.p.safe pJ
def tick(s:ai):ai:=
 let ahS:=s.c.ay.ended
 let s0:ai:={s with c:={s.c with ay:=s.c.ay.tick}}
 let s1:=ahS.foldl (λ(s:ai)(x:Int)=>let s:=s.record C 5 x 0 0 0;if linked x then s.leave C x else s) s0
 let(t,QZ):=s1.c.t.tick
 let s2:=s1.eV t
 let s3:=if 0<=QZ then(s2.gone t.aS QZ 30).record C 12 QZ 0 30 0 else s2
 let late:=Q.gone s3.c.q
 let s4:ai:={s3 with c:={s3.c with q:=Q.kept s3.c.q}}
 let s5:=late.foldl (λ(s:ai)(a:Ask)=>(s.gone a.source a.source 30).record C 12 a.source 0 30 0) s4
 let s6:=s5.dL C
 {s6 with c:={s6.c with pt:=s6.c.pt.step s6.c.p}}
end ai
structure fL(p:aX):Prop where
 o0:p.i 0=0
 o4:p.i 4=4
 perm:(p.i 1=1/\p.i 2=2/\p.i 3=3)\/(p.i 1=1/\p.i 2=3/\p.i 3=2)\/(p.i 1=2/\p.i 2=1/\p.i 3=3)\/
  (p.i 1=2/\p.i 2=3/\p.i 3=1)\/(p.i 1=3/\p.i 2=1/\p.i 3=2)\/(p.i 1=3/\p.i 2=2/\p.i 3=1)
 start:0<=p.start/\p.start<=4
 safe:0<=p.safe/\p.safe<=4
 lost:0<=p.lost/\p.lost<=4
 da:1<=p.da/\p.da<=1000
 dL:1<=p.dL/\p.dL<=1000
 offer:1<=p.offer/\p.offer<=1000
 ask:1<=p.ask/\p.ask<=1000
 vT:1<=p.vT/\p.vT<=1000
 beyond:0<=p.beyond/\p.beyond<=1000
 queue:1<=p.queue/\p.queue<=3
 jk:1<=p.jk/\p.jk<=3
 most:∀c,c<4->0<=p.most c/\p.most c<=1000
 Ef:1<=p.Ef/\p.Ef<=1000
 au:0<=p.au/\p.au<=65535
def Z5{p:aX}(h:fL p)(s:Int)(h0:0<=s)(h4:s<=4):0<=placeOf p s/\placeOf p s<=4:=by
 have e:s=0\/s=1\/s=2\/s=3\/s=4:=oM;have:=h.o0;have:=h.o4
 rcases e with rfl|rfl|rfl|rfl|rfl<;>rcases h.perm with⟨a,b,c⟩|⟨a,b,c⟩|⟨a,b,c⟩|⟨a,b,c⟩|⟨a,b,c⟩|⟨a,b,c⟩<;>simp[placeOf, *]
def Z6{p:aX}(h:fL p){s t:Int}(hs:0<=s/\s<=4)(ht:0<=t/\t<=4)(e:placeOf p s=placeOf p t):s=t:=by
 have es:s=0\/s=1\/s=2\/s=3\/s=4:=oM;have et:t=0\/t=1\/t=2\/t=3\/t=4:=oM;have:=h.o0;have:=h.o4
 rcases es with rfl|rfl|rfl|rfl|rfl<;>rcases et with rfl|rfl|rfl|rfl|rfl<;>first|rfl|(rcases h.perm with⟨a,b,c⟩|⟨a,b,c⟩|⟨a,b,c⟩|⟨a,b,c⟩|⟨a,b,c⟩|⟨a,b,c⟩<;>simp[placeOf, *]at e)
def ahT{p:aX}(h:fL p){s t:Int}(hs:0<=s/\s<=4)(ht:0<=t/\t<=4):qH p s t=decide (cd p s<cd p t):=by
 have a:=Z5 h s hs.1 hs.2;have b:=Z5 h t ht.1 ht.2;unfold qH cd;have a':placeOf p s≠-1:=oM;have b':placeOf p t≠-1:=oM;simp[a',b']
def ahU{p:aX}(h:fL p){s:Int}(hs:0<=s/\s<=3):cd p s<cd p 4:=by
 have es:s=0\/s=1\/s=2\/s=3:=oM;have:=h.o0;have:=h.o4
 unfold cd;rcases es with rfl|rfl|rfl|rfl<;>rcases h.perm with⟨a,b,c⟩|⟨a,b,c⟩|⟨a,b,c⟩|⟨a,b,c⟩|⟨a,b,c⟩|⟨a,b,c⟩<;>simp[placeOf, *]
structure rP(p:aX)(t:aT)(aS:Int)(q:List Ask):Prop where
 each:∀a∈q,a.cd=cd p a.source/\1<=a.source/\a.source<=3/\t.on a.source=af/\a.source≠aS/\a.dJ.most=p.ask/\0<=a.dJ.n/\a.dJ.n<p.ask
 sorted:q.Pairwise λa b=>a.cd<b.cd
 len:(q.length:Int)<=p.queue
structure nQ(p:aX)(ay:aT)(t:Tok):Prop where
 aS:0<=t.aS/\t.aS<=4
 au:p.au<=t.au/\t.au<=65535
 offer:t.offer=-1\/(1<=t.offer/\t.offer<=3/\t.offer≠t.aS/\ay.on t.offer=af/\t.oa.most=p.offer/\0<=t.oa.n/\t.oa.n<p.offer)
 lost:(t.la.most=0/\t.la.n=0)\/(t.la.most=p.dL/\0<=t.la.n/\t.la.n<p.dL)
structure Eg(p:aX)(t:aT):Prop where
 dv:t.dv.1=af->t.dv.2.most=p.da/\0<=t.dv.2.n/\t.dv.2.n<p.da
 aE:∀i,i<3->(t.aE i).on=af->(t.aE i).eo.most=p.da/\0<=(t.aE i).eo.n/\(t.aE i).eo.n<p.da/\0<=(t.aE i).role/\(t.aE i).role<=3/\0<=(t.aE i).seen.high/\(t.aE i).seen.high<=4294967295
structure Inv(c:Core):Prop where
 p:fL c.p
 tok:nQ c.p c.ay c.t
 q:rP c.p c.ay c.t.aS c.q
 ay:Eg c.p c.ay
 samples:0<=c.samples/\c.samples<=4294967295
 mode:0<=c.mode/\c.mode<=4
 doors:∀i,i<3->0<=(c.doors i).many
def ahV{n m:Int}(h:0<=n)(hm:0<=m)(hn:n<=m):0<=sat n m/\sat n m<=m:=by unfold sat;split<;>omega
def Inv.new{p:aX}(h:fL p):Inv (Core.new p) where
 p:=h
 tok:=⟨by simp[Core.new,Tok.new],by simp[Core.new,Tok.new];exact h.au.2,.inl rfl,.inl ⟨rfl,rfl⟩⟩
 q:=⟨by simp[Core.new],by simp[Core.new],by simp[Core.new];have:=h.queue;omega⟩
 ay:=⟨by simp[Core.new,aT.new],by simp[Core.new,aT.new,gL.zero]⟩
 samples:=by simp[Core.new]
 mode:=h.start
 doors:=by simp[Core.new,fg.zero]
end Sd
namespace Vx
open Go Sx
inductive V where
 |int (k:gw) (n:Int)
 |bool (b:Bool)
 |ptr (i off:Nat)
 |sl (i off len cap:Nat)
 |dB (i off len cap:Nat) (x:Option aF)
 |fn (f:fG) (fs cs:List V)
 |nT (t:aP) (v:V)
 |agg (l:List V)
 |aD (l:List V)
 |cu (k:gw) (n:Nat) (f:Nat->Int)
 |arr (k:gw) (n:Nat) (f:Nat->Int)
 |fi (p:Sd.aX) (ka:Nat->Option aF) (kn kc:Nat->Nat)
 |rest (l:List aj)
 |gm (z n:Nat) (g:Nat->List aj)
 |pe (i o j z k:Nat)
 |raw (v:aj)
def tK(p:Sd.aX)(ka:Nat->Option aF)(kn kc:Nat->Nat):List aj:=(bg 56).map λo=>bif ck 5 o&&ck o 8 then .slice (ka (o-5)) (kn (o-5)) (kc (o-5))else .int .i64 (p.i o)
mutual
def dg(n:Nat):V->Bool
 |.ptr i _=>dq i n
 |.sl i _ _ _=>dq i n
 |.dB i _ _ _ _=>dq i n
 |.pe i _ _ _ _=>dq i n
 |.fn _ a b=>bF n a&&bF n b
 |.nT _ v=>dg n v
 |.agg l=>bF n l
 |.aD l=>bF n l
 |_=>af
def bF(n:Nat):List V->Bool
 |[]=>af
 |v::l=>dg n v&&bF n l
end
def cl(v:V)(d:aj):List aj:=match v with
 |.cu k n f=>(bg n).map λj=>fI k (f j)
 |.arr k n f=>(bg n).map λj=>fI k (f j)
 |.fi p ka kn kc=>tK p ka kn kc
 |.rest l=>l
 |.gm z n g=>(bg n).flatMap g
 |_=>[d]
mutual
def den(ae:List Nat):V->aj
 |.int k n=>.int k n
 |.bool b=>.bool b
 |.ptr i off=>.pointer (aa ⟨ae.getD i 0,off,ag⟩)
 |.sl i off n c=>.slice (aa ⟨ae.getD i 0,off,ag⟩) n c
 |.dB i off n c x=>.slice (bif aC n 0 then x else aa ⟨ae.getD i 0,off,ag⟩) n c
 |.fn f a b=>.func (.func f) (aJ ae a).toArray (aJ ae b).toArray
 |.nT t v=>.iface t (den ae v)
 |.agg l=>.agg (ao ae l).toArray
 |.aD l=>.tuple (aJ ae l).toArray
 |.cu _ _ _=>undef
 |.arr _ _ _=>undef
 |.fi _ _ _ _=>undef
 |.rest _=>undef
 |.gm _ _ _=>undef
 |.pe i o j z k=>.pointer (aa ⟨ae.getD i 0,o+(j*z+k),ag⟩)
 |.raw v=>v
def aJ(ae:List Nat):List V->List aj
 |[]=>[]
 |v::l=>den ae v::aJ ae l
def ao(ae:List Nat):List V->List aj
 |[]=>[]
 |v::l=>cl v (den ae v)++ao ae l
end
def rQ(ae:List Nat)(l:List V):aJ ae l=l.map (den ae):=by
 induction l with
 |nil=>simp[aJ]
 |cons v l ih=>simp[aJ,ih]
def Eh{ae aq:List Nat}{i:Nat}(h:dq i ae.length=af):(ae++aq).getD i 0=ae.getD i 0:=by
 rw[jQ]at h;simp[gh,gB h]
mutual
theorem gX{ae aq:List Nat}:∀(v:V),dg ae.length v=af->den (ae++aq) v=den ae v
 |.int _ _,_=>by simp[den]
 |.bool _,_=>by simp[den]
 |.ptr i _,h=>by simp only[dg]at h;simp only[den,Eh h]
 |.sl i _ _ _,h=>by simp only[dg]at h;simp only[den,Eh h]
 |.dB i _ _ _ _,h=>by simp only[dg]at h;simp only[den,Eh h]
 |.fn _ a b,h=>by simp only[dg,bJ]at h;simp only[den,pL a h.1,pL b h.2]
 |.nT _ v,h=>by simp only[dg]at h;simp only[den,gX v h]
 |.agg l,h=>by simp only[dg]at h;simp only[den,jI l h]
 |.aD l,h=>by simp only[dg]at h;simp only[den,pL l h]
 |.cu _ _ _,_=>by simp[den]
 |.arr _ _ _,_=>by simp[den]
 |.fi _ _ _ _,_=>by simp[den]
 |.rest _,_=>by simp[den]
 |.gm _ _ _,_=>by simp[den]
 |.pe i _ _ _ _,h=>by simp only[dg]at h;simp only[den,Eh h]
 |.raw _,_=>by simp[den]
theorem pL{ae aq:List Nat}:∀(l:List V),bF ae.length l=af->aJ (ae++aq) l=aJ ae l
 |[],_=>by simp[aJ]
 |v::l,h=>by simp only[bF,bJ]at h;simp only[aJ,gX v h.1,pL l h.2]
theorem jI{ae aq:List Nat}:∀(l:List V),bF ae.length l=af->ao (ae++aq) l=ao ae l
 |[],_=>by simp[ao]
 |v::l,h=>by
  simp only[bF,bJ]at h;simp only[ao,gX v h.1,jI l h.2]
end
def gn:V:=.raw undef
noncomputable def nth(l:List V):Nat->V:=@List.rec V (λ_=>Nat->V) (λ_=>gn) (λv _ ih n=>@Nat.rec (λ_=>V) v (λm _=>ih m) n) l
noncomputable def mH(l:List V)(n:Nat)(x:V):List V:=@List.rec V (λ_=>Nat->List V) (λ_=>[]) (λv l ih n=>@Nat.rec (λ_=>List V) (x::l) (λm _=>v::ih m) n) l n
def lU(n:Nat):nth [] n=gn:=rfl
def lV(v:V)(l:List V):nth (v::l) 0=v:=rfl
def ly(v:V)(l:List V)(n:Nat):nth (v::l) (n+1)=nth l n:=rfl
def zZ(n:Nat)(x:V):mH [] n x=[]:=rfl
def z3(v:V)(l:List V)(x:V):mH (v::l) 0 x=x::l:=rfl
def z5(v:V)(l:List V)(n:Nat)(x:V):mH (v::l) (n+1) x=v::mH l n x:=rfl
def put(fr:List V)(d:Option Tmp)(v:V):List V:=match d with|some t=>mH fr t v|none=>fr
def BU:aj->V
 |.int k n=>.int k n
 |.bool b=>.bool b
 |v=>.raw v
def Ei:aj->V
 |.int k n=>.int k n
 |.bool b=>.bool b
 |.agg cs=>.agg (cs.toList.map BU)
 |v=>.raw v
def Q0(p:Sd.aX)(ka:Nat->Option aF)(kn kc:Nat->Nat)(o:Nat):V:=
 bif ck 5 o&&ck o 8 then .raw (.slice (ka (o-5)) (kn (o-5)) (kc (o-5)))else .int .i64 (p.i o)
def oL:List V->Nat->Option V
 |[],_=>ag
 |v::l,o=>match v with
  |.cu k n f=>bif ck n o then oL l (o-n)else aa (.int k (f o))
  |.arr k n f=>bif ck n o then oL l (o-n)else aa (.int k (f o))
  |.fi p ka kn kc=>bif ck 56 o then oL l (o-56)else aa (Q0 p ka kn kc o)
  |.rest _=>ag
  |.gm _ _ _=>ag
  |v=>match o with|0=>aa v|o+1=>oL l o
def takeN:List V->Nat->Option (List V×List V)
 |l,0=>aa ([],l)
 |[],_+1=>ag
 |v::l,n+1=>match v with
  |.cu k m f=>bif ck m (n+1)then(match takeN l (n+1-m)with|some (a,b)=>aa (v::a,b)|none=>ag)
   else aa ([.cu k (n+1) f],.cu k (m-(n+1)) (λj=>f (n+1+j))::l)
  |.arr k m f=>bif ck m (n+1)then(match takeN l (n+1-m)with|some (a,b)=>aa (v::a,b)|none=>ag)
   else aa ([.arr k (n+1) f],.arr k (m-(n+1)) (λj=>f (n+1+j))::l)
  |.fi .. =>bif ck 56 (n+1)then(match takeN l (n+1-56)with|some (a,b)=>aa (v::a,b)|none=>ag)else ag
  |.rest _=>ag
  |.gm _ _ _=>ag
  |_=>match takeN l n with|some (a,b)=>aa (v::a,b)|none=>ag
def z6(l:List V)(off n:Nat):Option (List V):=match takeN l off with
 |some (_,r)=>(match takeN r n with|some (a,_)=>aa a|none=>ag)
 |none=>ag
def LF(l:List V)(off n:Nat)(vs:List V):Option (List V):=match takeN l off with
 |some (a,r)=>(match takeN r n with|some (_,b)=>aa (a++(vs++b))|none=>ag)
 |none=>ag
def LJ:V->Nat
 |.cu _ n _=>n
 |.arr _ n _=>n
 |.fi .. =>56
 |.rest l=>l.length
 |.gm z n g=>((bg n).flatMap g).length
 |_=>1
def cM:List V->Nat
 |[]=>0
 |v::l=>LJ v+cM l
def LN:V->Bool
 |.agg _=>ah
 |.aD _=>ah
 |.rest l=>l.all (·.oneCell')
 |.gm z n g=>((bg n).flatMap g).all (·.oneCell')
 |.raw v=>v.oneCell'
 |_=>af
def nU:List V->Bool
 |[]=>af
 |v::l=>LN v&&nU l
def kO:V->List V
 |.agg l=>l
 |v=>[v]
def rR:V->Bool
 |.cu .. =>ah
 |.arr .. =>ah
 |.fi .. =>ah
 |.rest _=>ah
 |.gm _ _ _=>ah
 |.raw v=>v.oneCell'
 |_=>af
section
variable{ae:List Nat}
def LR(l:List aj):ao ae (l.map BU)=l:=by
 induction l with
 |nil=>simp[ao]
 |cons v l ih=>cases v<;>simp[ao,cl,BU,den,ih]
def ahW(v:aj):den ae (Ei v)=v:=by
 cases v<;>simp[Ei,den,LR]
def z7(fr:List V)(t:Nat):den ae (nth fr t)=(aJ ae fr).toArray.getD t undef:=by
 induction fr generalizing t with
 |nil=>simp[lU,lV,ly,aJ,gn,den]
 |cons v l ih=>
  cases t with
  |zero=>simp[lU,lV,ly,aJ]
  |succ t=>rw[ly,ih];simp[aJ,DS]
def Z7(fr:List V)(t:Nat)(x:V):(aJ ae (mH fr t x)).toArray=(aJ ae fr).toArray.setIfInBounds t (den ae x):=by
 apply fP;simp only[K5];induction fr generalizing t with
 |nil=>simp[zZ,z3,z5,aJ]
 |cons v l ih=>cases t<;>simp[zZ,z3,z5,aJ,ih]
def ahX(p:Sd.aX)(ka:Nat->Option aF)(kn kc:Nat->Nat){o:Nat}(h:o<56):(tK p ka kn kc)[o]?=aa (den ae (Q0 p ka kn kc o)):=by
 unfold tK Q0;rw[kA,pr h];simp only[pk];cases ck 5 o&&ck o 8<;>simp[den]
def Ha(p:Sd.aX)(ka:Nat->Option aF)(kn kc:Nat->Nat):(tK p ka kn kc).length=56:=by simp[tK]
def Q3{l:List V}{o:Nat}{v:V}(h:oL l o=aa v):(ao ae l)[o]?=aa (den ae v):=by
 induction l generalizing o with
 |nil=>simp[oL]at h
 |cons a l ih=>
  cases a
  case cu k n f=>
   simp only[oL]at h;simp only[ao,cl];cases hb:ck n o with
   |true=>
    rw[hb]at h;have:=eU hb;rw[vI (by simpa using this)];simpa using ih h
   |false=>
    rw[hb]at h;have:o<n:=Qb λe=>by rw[w8 e]at hb;cases hb
    rw[gB (by simpa using this)];simp only[cond_false,a_]at h;subst h;simp[pr this,den]
  case arr k n f=>
   simp only[oL]at h;simp only[ao,cl];cases hb:ck n o with
   |true=>
    rw[hb]at h;have:=eU hb;rw[vI (by simpa using this)];simpa using ih h
   |false=>
    rw[hb]at h;have:o<n:=Qb λe=>by rw[w8 e]at hb;cases hb
    rw[gB (by simpa using this)];simp only[cond_false,a_]at h;subst h;simp[pr this,den]
  case fi p ka kn kc=>
   simp only[oL]at h;simp only[ao,cl];cases hb:ck 56 o with
   |true=>
    rw[hb]at h;have:=eU hb;rw[vI (by rw[Ha];exact this),Ha];simpa using ih h
   |false=>
    rw[hb]at h;have:o<56:=Qb λe=>by rw[w8 e]at hb;cases hb
    rw[gB (by rw[Ha];exact this)];simp only[cond_false,a_]at h;subst h;exact ahX _ _ _ _ this
  case rest=>simp[oL]at h
  case gm=>simp[oL]at h
  all_goals
   cases o with
   |zero=>simp only[oL,a_]at h;subst h;simp[ao,cl]
   |succ o=>simp only[oL]at h;simpa[ao,cl]using ih h
def Z8(k:gw){m n:Nat}(f:Nat->Int)(h:n<=m):((bg m).map λj=>fI k (f j))=((bg n).map λj=>fI k (f j))++((bg (m-n)).map λj=>fI k (f (n+j))):=by
 obtain⟨d,rfl⟩:=Nat.exists_eq_add_of_le h;rw[List.range_add,uw,lN,ag6];rfl
def Hb{l a b:List V}{n:Nat}(h:takeN l n=aa (a,b)):ao ae l=ao ae a++ao ae b/\(ao ae a).length=n:=by
 induction l generalizing n a b with
 |nil=>
  cases n with
  |zero=>simp only[takeN,a_,bI]at h;obtain⟨rfl,rfl⟩:=h;simp[ao]
  |succ n=>simp[takeN]at h
 |cons v l ih=>
  cases n with
  |zero=>simp only[takeN,a_,bI]at h;obtain⟨rfl,rfl⟩:=h;simp[ao]
  |succ n=>
   cases v
   case cu k m f=>
    simp only[takeN]at h;cases hb:ck m (n+1)with
    |true=>
     have hm:=eU hb;rw[hb]at h;simp only[cond_true]at h;split at h
     ·rename_i x y hx;simp only[a_,bI]at h;obtain⟨rfl,rfl⟩:=h;obtain⟨i1,i2⟩:=ih hx;simp[ao,cl,i1,i2];omega
     ·cases h
    |false=>
     have hm:n+1<m:=Qb λe=>by rw[w8 e]at hb;cases hb
     rw[hb]at h;simp only[cond_false,a_,bI]at h;obtain⟨rfl,rfl⟩:=h;simp only[ao,cl];rw[Z8 k f (n:=n+1) oM];simp
   case arr k m f=>
    simp only[takeN]at h;cases hb:ck m (n+1)with
    |true=>
     have hm:=eU hb;rw[hb]at h;simp only[cond_true]at h;split at h
     ·rename_i x y hx;simp only[a_,bI]at h;obtain⟨rfl,rfl⟩:=h;obtain⟨i1,i2⟩:=ih hx;simp[ao,cl,i1,i2];omega
     ·cases h
    |false=>
     have hm:n+1<m:=Qb λe=>by rw[w8 e]at hb;cases hb
     rw[hb]at h;simp only[cond_false,a_,bI]at h;obtain⟨rfl,rfl⟩:=h;simp only[ao,cl];rw[Z8 k f (n:=n+1) oM];simp
   case fi p ka kn kc=>
    simp only[takeN]at h;cases hb:ck 56 (n+1)with
    |true=>
     have hm:=eU hb;rw[hb]at h;simp only[cond_true]at h;split at h
     ·rename_i x y hx;simp only[a_,bI]at h;obtain⟨rfl,rfl⟩:=h;obtain⟨i1,i2⟩:=ih hx;simp[ao,cl,i1,i2,Ha];omega
     ·cases h
    |false=>rw[hb]at h;simp at h
   case rest=>simp[takeN]at h
   case gm=>simp[takeN]at h
   all_goals
    simp only[takeN]at h;split at h
    ·rename_i x y hx;simp only[a_,bI]at h;obtain⟨rfl,rfl⟩:=h;obtain⟨i1,i2⟩:=ih hx;simp[ao,cl,i1,i2]
    ·cases h
def z_{l c:List V}{off n:Nat}(h:z6 l off n=aa c):((ao ae l).drop off).take n=ao ae c/\(ao ae c).length=n/\off+n<=(ao ae l).length:=by
 unfold z6 at h;split at h
 ·rename_i a r ha;split at h
  ·rename_i b s hb;simp only[a_]at h;subst h;obtain⟨a1,a2⟩:=Hb (ae:=ae) ha;obtain⟨b1,b2⟩:=Hb (ae:=ae) hb;refine⟨?_,b2,?_⟩
   ·rw[a1,<-a2,List.drop_left,b1,<-b2,List.take_left]
   ·rw[a1,b1];simp;omega
  ·cases h
 ·cases h
def kg(a b:List V):ao ae (a++b)=ao ae a++ao ae b:=by
 induction a with
 |nil=>simp[ao]
 |cons v l ih=>simp[ao,ih]
def Z9{l c vs:List V}{off n:Nat}(h:LF l off n vs=aa c):ao ae c=(ao ae l).take off++ao ae vs++(ao ae l).drop (off+n)/\off+n<=(ao ae l).length:=by
 unfold LF at h;split at h
 ·rename_i a r ha;split at h
  ·rename_i b s hb;simp only[a_]at h;subst h;obtain⟨a1,a2⟩:=Hb (ae:=ae) ha;obtain⟨b1,b2⟩:=Hb (ae:=ae) hb;refine⟨?_,?_⟩
   ·rw[kg,kg,a1,b1];have e:off+n=(ao ae a++ao ae b).length:=by simp[a2,b2]
    have e2:ao ae a++(ao ae b++ao ae s)=(ao ae a++ao ae b)++ao ae s:=sP;rw[e,e2,List.drop_left,<-e2,<-a2,List.take_left,bZ]
   ·rw[a1,b1];simp;omega
  ·cases h
 ·cases h
def lW(l:List V):(ao ae l).length=cM l:=by
 induction l with
 |nil=>simp[ao,cM]
 |cons v l ih=>cases v<;>simp[ao,cl,cM,LJ,ih,Ha]<;>omega
def ahY{p:Sd.aX}{ka:Nat->Option aF}{kn kc:Nat->Nat}{v:aj}(h:v∈tK p ka kn kc):v.oneCell'=af:=by
 unfold tK at h;rw[oC]at h;obtain⟨o,_,rfl⟩:=h;cases ck 5 o&&ck o 8<;>rfl
def BV{l:List V}(h:nU l=af):∀v∈ao ae l,v.oneCell'=af:=by
 induction l with
 |nil=>simp[ao]
 |cons a l ih=>
  simp only[nU,bJ]at h;intro v hv;simp only[ao,dV]at hv;rcases hv with hv|hv
  ·unfold cl at hv;cases a
   case cu k n f=>simp at hv;obtain⟨_,_,rfl⟩:=hv;rfl
   case arr k n f=>simp at hv;obtain⟨_,_,rfl⟩:=hv;rfl
   case fi=>exact ahY hv
   case rest l'=>exact(ik.1 (by simpa[LN]using h.1)) v hv
   case gm z n g=>
    have h1:((bg n).flatMap g).all (·.oneCell')=af:=h.1;exact ik.1 h1 v hv
   all_goals (obtain rfl:v=_:=by simpa using hv);first|rfl|(simp[LN]at h;done)|(have:=h.1;simpa[LN,den]using this)
  ·exact ih h.2 v hv
def Q4{v:V}(h:rR v=af):(den ae v).cells.toList=ao ae (kO v):=by
 cases v
 case agg l=>simp[den,Y7,kO]
 case raw v=>cases v<;>simp_all[den,Y7,kO,ao,cl,rR,Value.oneCell']
 case cu=>simp[rR]at h
 case arr=>simp[rR]at h
 case fi=>simp[rR]at h
 case rest=>simp[rR]at h
 case gm=>simp[rR]at h
 all_goals simp[den,Y7,kO,ao,cl]
end
def Q5(c:Bool)(a b:V):V:=match a,b with
 |.bool x,.bool y=>.bool (cond c x y)
 |.int k x,.int k' y=>(match decEq k k' with|isTrue _=>.int k (cond c x y)|isFalse _=>(match c with|true=>a|false=>b))
 |a,b=>match c with|true=>a|false=>b
def eI(P:aL)(t:aP):Option Nat:=match P.info? t with|some i=>aa i.size|none=>ag
def Hc(k:gw):List V->Bool
 |[]=>af
 |.int k' (.ofNat 0)::l=>(match decEq k' k with|isTrue _=>Hc k l|isFalse _=>ah)
 |_=>ah
def Q6(z:List V):List V:=match z with
 |.int k (.ofNat 0)::l=>bif ck 63 l.length&&Hc k l then[.arr k (l.length+1) λ_=>0]else z
 |_=>z
def Z_{k:gw}(ae:List Nat):∀{l:List V},Hc k l=af->ao ae l=(bg l.length).map λ_=>fI k 0
 |[],_=>rfl
 |v::l,h=>by
  unfold Hc at h;split at h
  ·rename_i heq;cases heq
  ·rename_i k' l' heq;obtain⟨rfl,rfl⟩:=xf heq;split at h
   ·rename_i hk _;subst hk;rw[jv,ta,gx,lN];simp only[ao,cl,den,Z_ ae h];rfl
   ·cases h
  ·cases h
def Q7(ae:List Nat)(z:List V):ao ae (Q6 z)=ao ae z:=by
 unfold Q6;split
 ·rename_i k l;cases hq:ck 63 l.length&&Hc k l with
  |false=>rfl
  |true=>
   simp only[bJ]at hq;simp only[cond_true,ao,cl,den,Z_ ae hq.2,cy];rw[ta,gx,lN];rfl
 ·rfl
def lX(P:aL)(t:aP):Option (List V):=match P.info? t with
 |some i=>(match i.zero with|some v=>aa (Q6 (kO (Ei v)))|none=>ag)
 |none=>ag
def qI(P:aL)(t:aP):Option Bool:=match P.underlying t with|some d=>aa (j_ d)|none=>ag
def Q8(op:BinOp)(x y:V):Option V:=match x,y with
 |.int k a,.int k' b=>(match op with
  |.shl=>(match b with|.ofNat n=>aa (.int k (k.wrap (a*2^(min n k.bits))))|_=>ag)
  |.shr=>(match b with|.ofNat n=>aa (.int k (a.fdiv (2^(min n k.bits))))|_=>ag)
  |op=>(match decEq k k' with
   |isFalse _=>ag
   |isTrue _=>(match op with
    |.add=>aa (.int k (k.wrap (a+b)))
    |.sub=>aa (.int k (k.wrap (a-b)))
    |.mul=>aa (.int k (k.wrap (a*b)))
    |.and=>aa (.int k (bits .and k a b))
    |.or=>aa (.int k (bits .or k a b))
    |.xor=>aa (.int k (bits .xor k a b))
    |.rem=>(match b with|.ofNat (n+1)=>aa (.int k (Int.tmod a (.ofNat (n+1))))|_=>ag)
    |.quo=>(match b with|.ofNat (n+1)=>aa (.int k (k.wrap (Int.tdiv a (.ofNat (n+1)))))|_=>ag)
    |.eql=>aa (.bool (a==b))
    |.neq=>aa (.bool (a !=b))
    |.lss=>aa (.bool (decide (a<b)))
    |.leq=>aa (.bool (decide (a<=b)))
    |.gtr=>aa (.bool (decide (a>b)))
    |.geq=>aa (.bool (decide (a>=b)))
    |_=>ag)))
 |.raw (.string a),.raw (.string b)=>(match op with
  |.eql=>aa (.bool (a.toList==b.toList))
  |.neq=>aa (.bool (!(a.toList==b.toList)))
  |_=>ag)
 |_,_=>ag
def Q9(op:UnOp)(x:V):Option V:=match op,x with
 |.not,.bool b=>aa (.bool (!b))
 |.neg,.int k n=>aa (.int k (k.wrap (0-n)))
 |.xor,.int k n=>aa (.int k (bits .xor k (bif k.signed then-1 else k.max) n))
 |_,_=>ag
section
variable{ae:List Nat}{P:aL}{w:an}
def ahZ(c:Bool)(a b:V):den ae (Q5 c a b)=if c then den ae a else den ae b:=by
 unfold Q5;split
 ·cases c<;>simp[den]
 ·split
  ·rename_i hk _;cases c<;>simp[den,hk]
  ·cases c<;>rfl
 ·cases c<;>rfl
def ah0(op:BinOp)(t:aP)(x y:bA)(k k':gw)(a b:Int):(eqGuard op t x y (.int k a) (.int k' b)).run P w=.ok () w:=by
 unfold eqGuard;cases op<;>rfl
def ah1{op:BinOp}{x y v:V}(h:Q8 op x y=aa v)(t:aP)(xo yo:bA):
 ((do eqGuard op t xo yo (den ae x) (den ae y);binOp op t (den ae x) (den ae y)):Sem aj).run P w=.ok (den ae v) w:=by
 unfold Q8 at h;split at h
 ·rename_i k a k' b;simp only[den,bH,ah0,cD];split at h
  ·split at h
   ·rename_i n;simp only[a_]at h;subst h;have h0:¬(dS n<0):=by have:=BC n;simp only[DU];omega
    simp only[binOp,Op.shift,den,if_neg h0];rfl
   ·cases h
  ·split at h
   ·rename_i n;simp only[a_]at h;subst h;have h0:¬(dS n<0):=by have:=BC n;simp only[DU];omega
    simp only[binOp,Op.shift,den,if_neg h0];rfl
   ·cases h
  ·rename_i ah2 ah3;split at h
   ·cases h
   ·rename_i hk _;subst hk;cases op<;>simp only[a_]at h<;>first
     |(subst h;simp[binOp,ag7,Op.intCmp,Op.intBits,Op.intDiv,den,bits];done)
     |(subst h;simp[binOp,ag7,Op.intCmp,Op.intBits,Op.intDiv,den,bits];rfl)
     |(split at h<;>first
       |(simp only[a_]at h
         subst h;rename_i n;have h1:¬((dS (n+1))=0):=by simp only[DU];omega
         simp only[binOp,Op.intDiv,den,if_neg h1,ne_eq,not_true_eq_false,if_false,ite_false];rfl)
       |cases h)
     |cases h
     |(exact absurd rfl ah2)
     |(exact absurd rfl ah3)
 ·rename_i a b;have g:(eqGuard op t xo yo (.string a) (.string b)).run P w=.ok () w:=by unfold eqGuard;cases op<;>rfl
  simp only[den,bH,g,cD];cases op<;>first|(injection h with h;subst h;rfl)|cases h
 ·cases h
def ah4{op:UnOp}{x v:V}(h:Q9 op x=aa v):(Y8 op (den ae x)).run P w=.ok (den ae v) w:=by
 unfold Q9 at h;split at h
 ·simp only[a_]at h;subst h;simp[Y8,den]
 ·simp only[a_]at h;subst h;simp[Y8,ag7,den]
 ·simp only[a_]at h;subst h;rename_i k n;cases hk:k.signed<;>simp[Y8,Op.intBits,bits,den,hk]
 ·cases h
end
def Aa(pl:Nat->Option (Nat×Nat)):List V->List (Nat×V)->Option (List V)
 |c,[]=>aa c
 |c,(i,v)::l=>match pl i with
  |some (off,n)=>bif rR v&&aC (cM (kO v)) n then(match LF c off n (kO v)with|some c'=>Aa pl c' l|none=>ag)else ag
  |none=>ag
def placesOf(P:aL)(fs:Array Field)(i:Nat):Option (Nat×Nat):=match fs[i]?with
 |some f=>(match eI P f.type with|some n=>aa (f.offset,n)|none=>ag)
 |none=>ag
def uN(P:aL)(t:aP)(l:List V)(off:Nat):Option V:=match qI P t,eI P t with
 |some af,aa n=>(match z6 l off n with|some c=>aa (.agg c)|none=>ag)
 |some ah,_=>oL l off
 |_,_=>ag
def LS(e:bA->V)(ps:Array (Nat×bA)):List (Nat×V):=ps.toList.map λp=>(p.1,e p.2)
def aaa(P:aL)(fs:Array Field):Bool:=fs.toList.all λf=>match eI P f.type with|some _=>af|none=>ah
section
variable{ae:List Nat}{P:aL}{w:an}
def ah5(off:Nat):∀(vs:List aj)(cs:Array aj)(k:Nat),off+k+vs.length<=cs.size->
 ((vs.zipIdx k).foldl (λ(cs:Array aj)(x:aj×Nat)=>cs.setIfInBounds (off+x.2) x.1) cs).toList=cs.toList.take (off+k)++vs++cs.toList.drop (off+k+vs.length):=by
 intro vs;induction vs with
 |nil=>intro cs k h;simp
 |cons v l ih=>
  intro cs k h;simp only[jv]at h;simp only[List.zipIdx_cons,xg];rw[ih _ _ (by simp;omega)];simp only[K5];have h1:off+k<cs.toList.length:=by simp;omega
  rw[show off+(k+1)=off+k+1 by omega];rw[List.take_set,List.drop_set,if_pos oM,List.take_succ_eq_append_getElem h1,List.set_append_right _ _ (by simp;omega)];simp only[w9,jv];rw[show off+k-min (off+k) cs.toList.length=0 by omega];simp only[List.set_cons_zero,bZ,fe,fu];rw[show off+k+1+l.length=off+k+(l.length+1) by omega]
def Q_{pl:Nat->Option (Nat×Nat)}{place:Nat->Option (Nat×Nat)}(hp:∀i x,pl i=aa x->place i=aa x):∀(l:List (Nat×V))(c c':List V),Aa pl c l=aa c'->
 ag8 place (ao ae c).toArray (l.map λp=>(p.1,den ae p.2))=aa (ao ae c').toArray:=by
 intro l;induction l with
 |nil=>intro c c' h;simp only[Aa,a_]at h;subst h;simp[ag8]
 |cons a l ih=>
  intro c c' h;obtain⟨i,v⟩:=a;simp only[Aa]at h;split at h
  ·rename_i off n hpl;cases hb:rR v&&aC (cM (kO v)) n with
   |false=>rw[hb]at h;simp at h
   |true=>
    rw[hb]at h;simp only[cond_true]at h;simp only[bJ]at hb;have dr:cM (kO v)=n:=cw hb.2;split at h
    ·rename_i c1 LU;obtain⟨s1,s2⟩:=Z9 (ae:=ae) LU;have LV:=Q4 (ae:=ae) hb.1;have dl:(den ae v).cells.size=n:=by rw[<-w7,LV,lW,dr]
     simp only[gx,ag8,hp i _ hpl];have Qx:((decide ((den ae v).cells.size≠n))||decide (off+(den ae v).cells.size>(ao ae c).toArray.size))=ah:=by
      simp[dl];omega
     rw[if_neg (by simp only[ne_eq,Bv,decide_eq_true_eq];simp[dl];omega)];have key:(den ae v).cells.zipIdx.foldl (λ(cs:Array aj)(x:aj×Nat)=>cs.setIfInBounds (off+x.2) x.1) (ao ae c).toArray=(ao ae c1).toArray:=by
      apply fP;rw[<-Array.foldl_toList,Array.toList_zipIdx,ah5 off _ _ 0 (by simp[dl];omega)];rw[LV,s1];simp[lW,dr]
     rw[key];exact ih _ _ h
    ·cases h
  ·cases h
def He{t:aP}{i:TypeInfo}(h:P.info? t=aa i):(typeInfo t).run P w=.ok i w:=by simp[typeInfo,h]
def gy{t:aP}{n:Nat}(h:eI P t=aa n):(qp t).run P w=.ok n w:=by
 unfold eI at h;split at h
 ·rename_i i hi;simp only[a_]at h;simp[qp,bH,He hi,h]
 ·cases h
def BW{t:aP}{z:List V}(h:lX P t=aa z):∃v,(zeroValue t).run P w=.ok v w/\v.cells.toList=ao ae z:=by
 unfold lX at h;split at h
 ·rename_i i hi;split at h
  ·rename_i v hv;simp only[a_]at h;subst h;refine⟨v,by simp[zeroValue,bH,He hi,hv],?_⟩;rw[Q7];cases v<;>simp[Y7,Ei,kO,ao,cl,den,LR]
  ·cases h
 ·cases h
def aab{t:aP}{b:Bool}(h:qI P t=aa b):(isAgg t).run P w=.ok b w:=by
 unfold qI at h;split at h
 ·rename_i d hd;simp only[a_]at h;exact BE (by rw[hd];simp[h]) w
 ·cases h
def Ra{t:aP}{l:List V}{off:Nat}{v:V}(h:uN P t l off=aa v):(part t (ao ae l).toArray off).run P w=.ok (den ae v) w:=by
 unfold uN at h;split at h
 ·rename_i n ha hn;split at h
  ·rename_i c hc;simp only[a_]at h;subst h;obtain⟨g1,g2,g3⟩:=z_ (ae:=ae) hc;simp only[part,bH,aab ha,cD,if_pos,gy hn,de];simp only[den];congr 2;apply fP;simp[Array.toList_extract,List.extract,g1]
  ·cases h
 ·rename_i ha;have:=Q3 (ae:=ae) h;simp only[part,bH,aab ha,cD,Bool.false_eq_true,if_false];simp[this]
 ·cases h
def ah6{fs:List Field}(h:∀f∈fs,∃n,eI P f.type=aa n):(fs.mapM λ(f:Field)=>(do pure (f.offset,<-qp f.type):Sem (Nat×Nat))).run P w=.ok (fs.map λf=>(f.offset,(eI P f.type).getD 0)) w:=by
 induction fs with
 |nil=>rfl
 |cons f l ih=>
  obtain⟨n,hn⟩:=h f sP;have:=ih (λf hf=>h f (by simp[hf]));simp only[List.mapM_cons,bH,gy hn,cD,de,this,gx,hn,Y3]
end
def Ej(P:aL)(t:aP)(x y:V):Option Bool:=match P.underlying t,x,y with
 |some .bool,.bool a,.bool b=>aa (a==b)
 |some (.pointer _),.ptr _ _,.raw (.pointer ag)=>aa ah
 |some (.pointer _),.raw (.pointer ag),.ptr _ _=>aa ah
 |some (.pointer _),.raw (.pointer ag),.raw (.pointer ag)=>aa af
 |some (.pointer _),.raw (.pointer (aa _)),.raw (.pointer ag)=>aa ah
 |some (.slice _),.sl _ _ _ _,.raw (.slice ag _ _)=>aa ah
 |some (.slice _),.raw (.slice (aa _) _ _),.raw (.slice ag _ _)=>aa ah
 |some (.slice _),.raw (.slice ag _ _),.raw (.slice ag _ _)=>aa af
 |_,.agg a,.agg b=>bif(bF 0 a&&bF 0 b)&&!(P.eqGuardType P.depth t)then zQ P 10000 t (.agg (ao [] a).toArray) (.agg (ao [] b).toArray)else ag
 |_,_,_=>ag
def Hf(P:aL)(op:BinOp)(t:aP)(x y:V):Option V:=match Q8 op x y with
 |some v=>aa v
 |none=>match op with
  |.eql=>(match Ej P t x y with|some r=>aa (.bool r)|none=>ag)
  |.neq=>(match Ej P t x y with|some r=>aa (.bool (!r))|none=>ag)
  |_=>ag
def LW(v:V):Option V:=match v with
 |.ptr i o=>aa (.ptr i o)
 |.fn f a b=>aa (.fn f a b)
 |.pe i o j z k=>aa (.pe i o j z k)
 |.raw (.pointer (aa a))=>aa (.raw (.pointer (aa a)))
 |_=>ag
def Rb(P:aL)(t:aP)(x ix:V):Option V:=match P.underlying t,x,ix with
 |some (.array n el),.ptr i off,.int _ (.ofNat j)=>bif dq j n then(match eI P el with|some z=>aa (.ptr i (off+j*z))|none=>ag)else ag
 |some (.slice el),.sl i off n _,.int _ (.ofNat j)=>bif dq j n then(match eI P el with|some z=>aa (.ptr i (off+j*z))|none=>ag)else ag
 |_,_,_=>ag
def Rc(P:aL)(s:aP)(x:V)(f:Nat):Option V:=match P.underlying s,x with
 |some (.struct fs),.ptr i off=>(match fs[f]?with
  |some fd=>(match eI P fd.type with|some (_+1)=>aa (.ptr i (off+fd.offset))|_=>ag)
  |none=>ag)
 |some (.struct fs),.pe i o j z k=>(match fs[f]?with
  |some fd=>(match eI P fd.type with|some (_+1)=>aa (.pe i o j z (k+fd.offset))|_=>ag)
  |none=>ag)
 |_,_=>ag
def Re(P:aL)(t:aP)(ps:List (Nat×V)):Option V:=match P.underlying t,lX P t with
 |some (.struct fs),aa z=>bif aaa P fs then(match Aa (placesOf P fs) z ps with|some c=>aa (.agg c)|none=>ag)else ag
 |some (.array _ el),aa z=>(match eI P el with|some n=>(match Aa (λi=>aa (i*n,n)) z ps with|some c=>aa (.agg c)|none=>ag)|none=>ag)
 |_,_=>ag
def Rf(P:aL)(t:aP)(x:V):Option V:=match P.underlying t,x with
 |some (.slice _),.sl _ _ n _=>aa (.int .i64 (n:Int))
 |some (.slice _),.dB _ _ n _ _=>aa (.int .i64 (n:Int))
 |some (.slice _),.raw (.slice _ n _)=>aa (.int .i64 (n:Int))
 |some (.array n _),_=>aa (.int .i64 (n:Int))
 |_,_=>ag
def xJ(x:V)(y:Nat):Option Nat:=match x with
 |.int _ (.ofNat i)=>bif ck i y then aa i else ag
 |_=>ag
def rS(e:bA->V)(o:Option bA)(y d:Nat):Option Nat:=match o with
 |some x=>xJ (e x) y
 |none=>aa d
def Rg(P:aL)(e:bA->V)(t:aP)(x:V)(lo hi:Option bA):Option V:=match P.underlying t,x with
 |some (.slice el),.sl i off n c=>(match rS e hi c n,eI P el with
  |some h,aa z=>(match rS e lo h 0 with
   |some l=>aa (.sl i (bif aC c l then off else off+l*z) (h-l) (c-l))
   |none=>ag)
  |_,_=>ag)
 |some (.pointer arr),.ptr i off=>(match P.underlying arr with
  |some (.array n el)=>(match rS e hi n n,eI P el with
   |some h,aa z=>(match rS e lo h 0 with
    |some l=>aa (.sl i (bif aC n l then off else off+l*z) (h-l) (n-l))
    |none=>ag)
   |_,_=>ag)
  |_=>ag)
 |some (.array n el),.ptr i off=>(match rS e hi n n,eI P el with
  |some h,aa z=>(match rS e lo h 0 with
   |some l=>aa (.sl i (bif aC n l then off else off+l*z) (h-l) (n-l))
   |none=>ag)
  |_,_=>ag)
 |_,_=>ag
def Rh(P:aL)(e:bA->V)(t:aP)(x:V)(lo:Option bA)(hi mx:bA):Option V:=match P.underlying t,x with
 |some (.pointer arr),.ptr i off=>(match P.underlying arr with
  |some (.array n el)=>(match xJ (e mx) n,eI P el with
   |some m,aa z=>(match xJ (e hi) m with
    |some h=>(match rS e lo h 0 with
     |some l=>aa (.sl i (bif aC m l then off else off+l*z) (h-l) (m-l))
     |none=>ag)
    |none=>ag)
   |_,_=>ag)
  |_=>ag)
 |some (.array n el),.ptr i off=>(match xJ (e mx) n,eI P el with
  |some m,aa z=>(match xJ (e hi) m with
   |some h=>(match rS e lo h 0 with
    |some l=>aa (.sl i (bif aC m l then off else off+l*z) (h-l) (m-l))
    |none=>ag)
   |none=>ag)
  |_,_=>ag)
 |_,_=>ag
def aac(x y:V):Option V:=match x,y with
 |.int k a,.int _ b=>aa (.int k (if b<a then b else a))
 |_,_=>ag
def aad(x y:V):Option V:=match x,y with
 |.int k a,.int _ b=>aa (.int k (if b>a then b else a))
 |_,_=>ag
def Ri(P:aL)(arr:aP)(x:V):Option V:=match P.underlying arr,x with
 |some (.array n _),.sl i off len c=>bif ck n len then aa (.ptr i off)else ag
 |_,_=>ag
def LX:BinOp->bA->Bool
 |.rem,.const (.int .i64 (.ofNat 3))=>af
 |_,_=>ah
def BX(P:aL)(e:bA->V):Op->Option V
 |.move x=>aa (e x)
 |.assign x=>aa (e x)
 |.pick c a b=>(match e c with|.bool c=>aa (Q5 c (e a) (e b))|_=>ag)
 |.nilCheck x=>LW (e x)
 |.binOp op t x y _=>bif LX op y then ag else Hf P op t (e x) (e y)
 |.unOp op _ x=>Q9 op (e x)
 |.convert s d x=>(match P.underlying s,P.underlying d,e x with|some _,aa (.int k),.int _ n=>aa (.int k (k.wrap n))|_,_,_=>ag)
 |.makeFunc (.func f) a b=>aa (.fn f (a.toList.map e) (b.toList.map e))
 |.makeInterface t x=>(match P.underlying t with|some (.interface _)=>ag|some _=>aa (.nT t (e x))|none=>ag)
 |.build t ps=>Re P t (LS e ps)
 |.fieldAddr s x f=>Rc P s (e x) f
 |.field s x f=>(match P.underlying s,e x with
  |some (.struct fs),.agg l=>(match fs[f]?with|some fd=>uN P fd.type l fd.offset|none=>ag)
  |_,_=>ag)
 |.indexAddr t x ix=>Rb P t (e x) (e ix)
 |.index t x ix=>(match P.underlying t,e x,e ix with
  |some (.array n el),.agg l,.int _ (.ofNat j)=>bif dq j n then(match eI P el with|some z=>uN P el l (j*z)|none=>ag)else ag
  |some .string,.raw (.string s),.int _ (.ofNat j)=>(match s[j]?with|some b=>aa (.int .u8 b.toNat)|none=>ag)
  |_,_,_=>ag)
 |.extract x i=>(match e x with|.aD l=>(match l[i]?with|some v=>aa v|none=>ag)|_=>ag)
 |.call c=>(match c.callee,c.args.toList,c.argTypes.toList with
  |.builtin .len,[x],t::_=>Rf P t (e x)
  |.builtin .min,[x,y],_=>aac (e x) (e y)
  |.builtin .max,[x,y],_=>aad (e x) (e y)
  |_,_,_=>ag)
 |.slice t x lo hi ag=>Rg P e t (e x) lo hi
 |.slice t x lo (aa hi) (aa mx)=>Rh P e t (e x) lo hi mx
 |.sliceToArrayPointer arr x=>Ri P arr (e x)
 |_=>ag
section
variable{ae:List Nat}{P:aL}{w:an}{e:bA->V}{ρ:bA->aj}
def aae{t:aP}{x y:V}{r:Bool}(h:Ej P t x y=aa r)(xo yo:bA)(op:BinOp)(i_:op=.eql\/op=.neq):
 (eqGuard op t xo yo (den ae x) (den ae y)).run P w=.ok () w/\(Y9 t (den ae x) (den ae y)).run P w=.ok r w:=by
 have g0:∀(a b:aj),(∀x,a≠.agg x)->(a≠.nilIface)->(eqGuard op t xo yo a b).run P w=.ok () w:=by
  intro a b h1 h2;unfold eqGuard;rcases i_ with rfl|rfl<;>(cases a<;>first|rfl|(exact absurd rfl h2)|(exact absurd rfl (h1 _)))
 unfold Ej at h;split at h
 case h_9=>
  rename_i a b;cases hb:(bF 0 a&&bF 0 b)&&!(P.eqGuardType P.depth t)with
  |false=>rw[hb]at h;simp at h
  |true=>
   rw[hb]at h;simp only[cond_true]at h;simp only[bJ,pj]at hb;have ha:ao ae a=ao [] a:=by have:=jI (ae:=[]) (aq:=ae) a hb.1.1;simpa using this
   have xG:ao ae b=ao [] b:=by have:=jI (ae:=[]) (aq:=ae) b hb.1.2;simpa using this
   refine⟨?_,?_⟩
   ·simp only[den];unfold eqGuard;rcases i_ with rfl|rfl<;>simp[hb.2]
   ·have:=Lm 10000 t _ _ r h w;simp only[den,ha,xG];exact this
 all_goals first
  |(rename_i hu
    simp only[a_]at h;subst h;refine⟨g0 _ _ (by intro x;simp[den]) (by simp[den]),?_⟩;simp only[den];unfold Y9 Op.maxDepth Op.equalIn;simp[bH,dF hu]
    done)
  |cases h
def aaf{t:aP}{x y:V}{r:Bool}(h:Ej P t x y=aa r):(∃b,den ae x=.bool b)\/(∃b,den ae x=.pointer b/\∃c,den ae y=.pointer c)\/(∃b n c,den ae x=.slice b n c)\/(∃b,den ae x=.agg b):=by
 unfold Ej at h;split at h<;>first|(exact .inl ⟨_,by simp only[den];rfl⟩)|(exact .inr (.inl ⟨_,by simp only[den];rfl,_,by simp only[den];rfl⟩))|(exact .inr (.inr (.inl ⟨_,_,_,by simp only[den];rfl⟩)))|(exact .inr (.inr (.inr ⟨_,by simp only[den];rfl⟩)))|cases h
def Rj{op:BinOp}{t:aP}{x y v:V}(h:Hf P op t x y=aa v)(xo yo:bA):
 ((do eqGuard op t xo yo (den ae x) (den ae y);binOp op t (den ae x) (den ae y)):Sem aj).run P w=.ok (den ae v) w:=by
 unfold Hf at h;split at h
 ·rename_i v' hv;simp only[a_]at h;subst h;exact ah1 hv t xo yo
 ·split at h
  ·split at h
   ·rename_i r hr;simp only[a_]at h;subst h;obtain⟨h1,h2⟩:=aae (ae:=ae) (w:=w) hr xo yo .eql (.inl rfl);simp only[bH,h1,cD];have h3:binOp .eql t (den ae x) (den ae y)=(do pure (.bool (<-Y9 t (den ae x) (den ae y)))):=by
     rcases aaf (ae:=ae) hr with⟨b,hb⟩|⟨b,hb,c,hc⟩|⟨b,n,c,hb⟩|⟨b,hb⟩
     ·rw[hb];rfl
     ·rw[hb,hc];rfl
     ·rw[hb];rfl
     ·rw[hb];rfl
    rw[h3];simp[bH,h2,den]
   ·cases h
  ·split at h
   ·rename_i r hr;simp only[a_]at h;subst h;obtain⟨h1,h2⟩:=aae (ae:=ae) (w:=w) hr xo yo .neq (.inr rfl);simp only[bH,h1,cD];have h3:binOp .neq t (den ae x) (den ae y)=(do pure (.bool (!(<-Y9 t (den ae x) (den ae y))))):=by
     rcases aaf (ae:=ae) hr with⟨b,hb⟩|⟨b,hb,c,hc⟩|⟨b,n,c,hb⟩|⟨b,hb⟩
     ·rw[hb];rfl
     ·rw[hb,hc];rfl
     ·rw[hb];rfl
     ·rw[hb];rfl
    rw[h3];simp[bH,h2,den]
   ·cases h
  ·cases h
def ah7{x v:V}(h:LW x=aa v):v=x/\(∀(f:aj->Sem Next)(g:Sem Next),(match den ae x with
 |.pointer ag|.nilIface|.nilFunc=>g
 |x=>f x)=f (den ae x)):=by
 unfold LW at h;split at h<;>first|(simp only[a_]at h;subst h;exact⟨rfl,λf g=>by simp[den]⟩)|cases h
def tL(b off k:Nat):(⟨b,off,ag⟩:aF).add k=⟨b,off+k,ag⟩:=by unfold qo;split<;>simp_all
def ah8{t:aP}{x ix v:V}(h:Rb P t x ix=aa v):(uq t (den ae x) (den ae ix)).run P w=.ok (den ae v) w:=by
 unfold Rb at h;split at h
 ·rename_i n el i off k j hu;cases hb:dq j n with
  |false=>rw[hb]at h;simp at h
  |true=>
   rw[hb]at h;simp only[cond_true]at h;have hj:j<n:=by rw[jQ]at hb;exact hb
   split at h
   ·rename_i z hz;simp only[a_]at h;subst h;have h1:(0:Int)<=dS j/\dS j<(n:Int):=by simp only[DU];omega
    simp only[uq,den,asIntOf,jt,bH,de,cD,dF hu];rw[if_pos h1];simp[bH,gy hz,tL]
   ·cases h
 ·rename_i el i off n c k j hu;cases hb:dq j n with
  |false=>rw[hb]at h;simp at h
  |true=>
   rw[hb]at h;simp only[cond_true]at h;have hj:j<n:=by rw[jQ]at hb;exact hb
   split at h
   ·rename_i z hz;simp only[a_]at h;subst h;have h1:(0:Int)<=dS j/\dS j<(n:Int):=by simp only[DU];omega
    simp only[uq,den,asIntOf,bH,de,cD,dF hu];rw[if_pos h1];simp[bH,gy hz,tL]
   ·cases h
 ·cases h
def ah9{s:aP}{x v:V}{f:Nat}(h:Rc P s x f=aa v):(ag9 s (den ae x) f).run P w=.ok (den ae v) w:=by
 unfold Rc at h;split at h
 ·rename_i fs i off hu;split at h
  ·rename_i fd Hg;split at h
   ·rename_i n hn;simp only[a_]at h;subst h;simp[ag9,jt,den,bH,dF hu,Hg,fieldPlace,gy hn,tL]
   ·cases h
  ·cases h
 ·rename_i fs i j z k hu;split at h
  ·rename_i fd Hg;split at h
   ·rename_i n hn;simp only[a_]at h;subst h;simp[ag9,jt,den,bH,dF hu,Hg,fieldPlace,gy hn,tL,ux]
   ·cases h
  ·cases h
 ·cases h
def ah_{t:aP}{ps:List (Nat×V)}{v:V}(h:Re P t ps=aa v):(ag_ t (ps.map λp=>(p.1,den ae p.2)).toArray).run P w=.ok (den ae v) w:=by
 unfold Re at h;split at h
 ·rename_i fs z hu hz;cases hk:aaa P fs with
  |false=>rw[hk]at h;simp at h
  |true=>
   rw[hk]at h;simp only[cond_true]at h;split at h
   ·rename_i c hc;simp only[a_]at h;subst h;obtain⟨v0,z1,z2⟩:=BW (P:=P) (w:=w) (ae:=ae) hz;have hm:=ah6 (P:=P) (w:=w) (fs:=fs.toList) (λf hf=>by
     have:=(ik.1 hk) f hf;split at this
     ·rename_i n hn;exact⟨n,hn⟩
     ·cases this)
    have uO:(fs.mapM λ(f:Field)=>(do pure (f.offset,<-qp f.type):Sem (Nat×Nat))).run P w=.ok (fs.toList.map λf=>(f.offset,(eI P f.type).getD 0)).toArray w:=by
     have e:fs=fs.toList.toArray:=sP;rw[e,List.mapM_toArray];simp only[Sem.run_map,hm,cD]
    have hf:=Q_ (ae:=ae) (place:=λi=>((fs.toList.map λf=>(f.offset,(eI P f.type).getD 0)).toArray)[i]?) (λi x hx=>by
     unfold placesOf at hx;split at hx
     ·rename_i f hf;split at hx
      ·rename_i n hn;simp only[a_]at hx;subst hx;simp[hf,hn]
      ·cases hx
     ·cases hx) ps z c hc
    have BY:v0.cells=(ao ae z).toArray:=by apply fP;simpa using z2
    simp only[ag_,bH,z1,cD,dF hu,uO,BY];simp only[den];rw[hf];rfl
   ·cases h
 ·rename_i n el z hu hz;split at h
  ·rename_i m hm;split at h
   ·rename_i c hc;simp only[a_]at h;subst h;obtain⟨v0,z1,z2⟩:=BW (P:=P) (w:=w) (ae:=ae) hz;have hf:=Q_ (ae:=ae) (place:=λi=>aa (i*m,m)) (λi x hx=>hx) ps z c hc;have BY:v0.cells=(ao ae z).toArray:=by apply fP;simpa using z2
    simp only[ag_,bH,z1,cD,dF hu,gy hm,BY];simp only[den];rw[hf];rfl
   ·cases h
  ·cases h
 ·cases h
end
section
variable{ae:List Nat}{P:aL}{w:an}{e:bA->V}{ρ:bA->aj}
def aia{t:aP}{x v:V}(h:Rf P t x=aa v)(ty:aP)(ts:Array aP)(ht:ts[0]?=aa t):(Builtin.len_ ts ty #[den ae x]).run P w=.ok (den ae v) w:=by
 unfold Rf at h;split at h<;>first
  |(rename_i hu
    simp only[a_]at h;subst h;simp[Builtin.len_,ht,bH,dF hu,den,goInt]
    done)
  |cases h
def aag(ps:Array (Nat×bA))(bo:∀x,ρ x=den ae (e x)):(ps.map λ(p:Nat×bA)=>(p.1,ρ p.2))=((LS e ps).map λp=>(p.1,den ae p.2)).toArray:=by
 apply fP;simp[LS,bo]
def aib(l:List bA)(bo:∀x,ρ x=den ae (e x)):aJ ae (l.map e)=l.map ρ:=by
 rw[rQ,lN];apply mB;intro x _;exact(bo x).symm
def Ek{x:V}{y i:Nat}(code:BoundsCode)(h:xJ x y=aa i):(nK (den ae x) y code).run P w=.ok i w/\i<=y:=by
 unfold xJ at h;split at h
 ·rename_i k j;cases hb:ck j y with
  |false=>rw[hb]at h;cases h
  |true=>
   rw[hb]at h;obtain rfl:j=i:=by simpa using h
   have hle:=eU hb;refine⟨?_,hle⟩;have h2:(0:Int)<=dS j/\dS j<=(y:Int):=⟨BC j,Int.ofNat_le.2 hle⟩;simp only[nK,den,asIntOf,bH,de,cD,if_pos h2];rfl
 ·cases h
def Rk(bo:∀x,ρ x=den ae (e x)){lo hi:Option bA}{len cap h l:Nat}(b:Bool)(h1:rS e hi cap len=aa h)(h2:rS e lo h 0=aa l):
 (qz b len cap (lo.map ρ) (hi.map ρ) ag).run P w=.ok (l,h,cap) w:=by
 unfold rS at h1 h2;cases hi with
 |none=>
  obtain rfl:len=h:=by simpa using h1
  cases lo with
  |none=>
   obtain rfl:0=l:=by simpa using h2
   simp[qz,ju]
  |some x=>
   have:=Ek (P:=P) (ae:=ae) (w:=w) .sliceB h2;simp[qz,ju,bo,this.1]
 |some y=>
  have a1:=λc=>(Ek (P:=P) (ae:=ae) (w:=w) c h1).1;cases lo with
  |none=>
   obtain rfl:0=l:=by simpa using h2
   simp[qz,ju,bo,a1]
  |some x=>
   have:=Ek (P:=P) (ae:=ae) (w:=w) .sliceB h2;simp[qz,ju,bo,this.1,a1]
def aic(bo:∀x,ρ x=den ae (e x)){t:aP}{x:bA}{lo hi:Option bA}{v:V}(h:Rg P e t (e x) lo hi=aa v):(qy t (ρ x) (lo.map ρ) (hi.map ρ) ag).run P w=.ok (den ae v) w:=by
 unfold Rg at h;have fin:∀(c l off z i:Nat),(if c=l then(⟨ae.getD i 0,off,ag⟩:aF)else qo ⟨ae.getD i 0,off,ag⟩ (l*z))=⟨ae.getD i 0,bif aC c l then off else off+l*z,ag⟩:=by
  intro c l off z i;by_cases hc:c=l
  ·subst hc;simp
  ·have:aC c l=ah:=by
    cases hb:aC c l with
    |true=>exact absurd (cw hb) hc
    |false=>rfl
   rw[if_neg hc,this,iY];rfl
 split at h
 ·rename_i el i off n c hu hx;split at h
  ·rename_i hh z h1 hz;split at h
   ·rename_i l h2;obtain rfl:=cP h;have hb:=Rk (P:=P) (w:=w) bo af h1 h2;have hs:=gy (P:=P) (w:=w) hz;have:=fin c l off z i;simp only[den,<-this];have run:(qy t (ρ x) (lo.map ρ) (hi.map ρ) ag).run P w=.ok (.slice (if c=l then aa ⟨ae.getD i 0,off,ag⟩else aa (qo ⟨ae.getD i 0,off,ag⟩ (l*z))) (hh-l) (c-l)) w:=by
     simp[qy,w_,dF hu,bo,hx,den,hb,hs,ju]
    rw[run];by_cases hc:c=l
    ·rw[if_pos hc,if_pos hc]
    ·rw[if_neg hc,if_neg hc]
   ·cases h
  ·cases h
 ·rename_i arr i off hu hx;split at h
  ·rename_i n el Rl;split at h
   ·rename_i hh z h1 hz;split at h
    ·rename_i l h2;obtain rfl:=cP h;have hb:=Rk (P:=P) (w:=w) bo ah h1 h2;have hs:=gy (P:=P) (w:=w) hz;have:=fin n l off z i;simp only[den,<-this];simp[qy,w_,dF hu,dF Rl,asAddr,bo,hx,den,hb,hs,ju]
    ·cases h
   ·cases h
  ·cases h
 ·rename_i n el i off hu hx;split at h
  ·rename_i hh z h1 hz;split at h
   ·rename_i l h2;obtain rfl:=cP h;have hb:=Rk (P:=P) (w:=w) bo ah h1 h2;have hs:=gy (P:=P) (w:=w) hz;have:=fin n l off z i;simp only[den,<-this];simp[qy,jt,dF hu,bo,hx,den,hb,hs,ju]
   ·cases h
  ·cases h
 ·cases h
def aah(bo:∀x,ρ x=den ae (e x)){lo:Option bA}{hi mx:bA}{len cap m h l:Nat}(b:Bool)(h0:xJ (e mx) cap=aa m)(h1:xJ (e hi) m=aa h)(h2:rS e lo h 0=aa l):
 (qz b len cap (lo.map ρ) (aa (ρ hi)) (aa (ρ mx))).run P w=.ok (l,h,m) w:=by
 have a0:=λc=>(Ek (P:=P) (ae:=ae) (w:=w) c h0).1;have a1:=λc=>(Ek (P:=P) (ae:=ae) (w:=w) c h1).1;unfold rS at h2;cases lo with
 |none=>
  obtain rfl:0=l:=by simpa using h2
  simp[qz,ju,bo,a0,a1]
 |some x=>
  have:=λc=>(Ek (P:=P) (ae:=ae) (w:=w) c h2).1;simp[qz,ju,bo,a0,a1,this]
def aid(bo:∀x,ρ x=den ae (e x)){t:aP}{x:bA}{lo:Option bA}{hi mx:bA}{v:V}(h:Rh P e t (e x) lo hi mx=aa v):(qy t (ρ x) (lo.map ρ) (aa (ρ hi)) (aa (ρ mx))).run P w=.ok (den ae v) w:=by
 unfold Rh at h;have fin:∀(c l off z i:Nat),(if c=l then(⟨ae.getD i 0,off,ag⟩:aF)else qo ⟨ae.getD i 0,off,ag⟩ (l*z))=⟨ae.getD i 0,bif aC c l then off else off+l*z,ag⟩:=by
  intro c l off z i;by_cases hc:c=l
  ·subst hc;simp
  ·have:aC c l=ah:=by
    cases hb:aC c l with
    |true=>exact absurd (cw hb) hc
    |false=>rfl
   rw[if_neg hc,this,iY];rfl
 split at h
 ·rename_i arr i off hu hx;split at h
  ·rename_i n el Rl;split at h
   ·rename_i m z h0 hz;split at h
    ·rename_i hh h1;split at h
     ·rename_i l h2;obtain rfl:=cP h;have hb:=aah (P:=P) (w:=w) (len:=n) bo ah h0 h1 h2;have hs:=gy (P:=P) (w:=w) hz;have:=fin m l off z i;simp only[den,<-this];simp[qy,w_,dF hu,dF Rl,asAddr,bo,hx,den,hs,ju]at hb⊢;simp[hb,hs]
     ·cases h
    ·cases h
   ·cases h
  ·cases h
 ·rename_i n el i off hu hx;split at h
  ·rename_i m z h0 hz;split at h
   ·rename_i hh h1;split at h
    ·rename_i l h2;obtain rfl:=cP h;have hb:=aah (P:=P) (w:=w) (len:=n) bo ah h0 h1 h2;have hs:=gy (P:=P) (w:=w) hz;have:=fin m l off z i;simp only[den,<-this];simp[qy,jt,dF hu,bo,hx,den,hs,ju]at hb⊢;simp[hb,hs]
    ·cases h
   ·cases h
  ·cases h
 ·cases h
def aie{arr:aP}{x v:V}(h:Ri P arr x=aa v):(Instr.arrayAt arr (den ae x)).run P w=.ok (den ae v) w:=by
 unfold Ri at h;split at h
 ·rename_i n el i off len c hu;cases hq:ck n len with
  |false=>rw[hq]at h;cases h
  |true=>
   rw[hq]at h;obtain rfl:=cP h;have hle:=eU hq;simp[Instr.arrayAt,dF hu,den,ju,Nat.not_lt.2 hle]
 ·cases h
def aai(bo:∀x,ρ x=den ae (e x))(o:aA)(v:V)(h:BX P e o.op=aa v):(execOp ρ o).run P w=.ok (.value (den ae v)) w:=by
 unfold execOp;unfold BX at h;split at h
 ·rename_i x ho;simp only[a_]at h;subst h;simp[ho,bo]
 ·rename_i x ho;simp only[a_]at h;subst h;simp[ho,bo]
 ·rename_i c a b ho;split at h
  ·rename_i cb hc;simp only[a_]at h;subst h;simp only[ho,bo,hc,den,asBool,bH,de,cD,ahZ]
  ·cases h
 ·rename_i x ho;obtain⟨rfl,hk⟩:=ah7 (ae:=ae) h;simp only[ho,bo];unfold LW at h;split at h<;>first|(simp_all[den];done)|cases h
 ·rename_i op t x y yt ho;cases hr:LX op y with
  |true=>rw[hr]at h;cases h
  |false=>
   rw[hr]at h;simp only[cond_false]at h;simp only[ho,bo];rw[bH,Rj h];rfl
 ·rename_i op t x ho;simp only[ho,bo];rw[bH,ah4 h];rfl
 ·rename_i s d x ho;split at h
  ·rename_i d' k n hs hd hx;simp only[a_]at h;subst h;simp[ho,bo,hx,den,convert,bH,dF hs,dF hd,Conv.intToInt]
  ·cases h
 ·rename_i f a b ho;simp only[a_]at h;subst h;simp only[ho,Instr.makeFunc,den,aib _ bo,bH,de,cD];rw[show a.map ρ=(a.toList.map ρ).toArray from by apply fP;simp,show b.map ρ=(b.toList.map ρ).toArray from by apply fP;simp]
 ·rename_i t x ho;split at h
  ·cases h
  ·rename_i d hd hu;simp only[a_]at h;subst h;simp only[ho,bo,Instr.makeInterface,bH,dF hu,cD];cases d<;>first|(simp[den];done)|(exact absurd rfl (hd _))
  ·cases h
 ·rename_i t ps ho;try simp only[ho]
  rw[bH];have:=ah_ (ae:=ae) (w:=w) h;rw[show(ps.map λ(x:Nat×bA)=>match x with|(i,x)=>(i,ρ x))=(ps.map λ(p:Nat×bA)=>(p.1,ρ p.2))from rfl,aag ps bo,this];rfl
 ·rename_i s x f ho;simp only[ho,bo];rw[bH,ah9 h];rfl
 ·rename_i s x f ho;split at h
  ·rename_i fs l hu hx;split at h
   ·rename_i fd Hg;simp only[ho,bo,hx,den,Instr.field,bH,dF hu,cD,Hg,asAgg,de,Ra h]
   ·cases h
  ·cases h
 ·rename_i t x ix ho;simp only[ho,bo];rw[bH,ah8 h];rfl
 ·rename_i t x ix ho;split at h
  ·rename_i n el l k j hu hx ie;cases hb:dq j n with
   |false=>rw[hb]at h;simp at h
   |true=>
    rw[hb]at h;simp only[cond_true]at h;have hj:j<n:=by rw[jQ]at hb;exact hb
    split at h
    ·rename_i z hz;have h1:(0:Int)<=dS j/\dS j<(n:Int):=by simp only[DU];omega
     simp only[ho,bo,hx,ie,den,Instr.index,asIntOf,bH,de,cD,dF hu];rw[if_pos h1];have:=Ra (ae:=ae) (w:=w) h;simp[bH,gy hz,this]
    ·cases h
  ·rename_i s k j hu hx ie;split at h
   ·rename_i b hb;cases h;have h0:(0:Int)<=dS j:=BC j;have h1:(dS j).toNat=j:=rfl;simp only[ho,bo,hx,ie,den,Instr.index,asIntOf,bH,de,cD,dF hu,if_pos h0,h1,hb]
   ·cases h
  ·cases h
 ·rename_i x i ho;split at h
  ·rename_i l hx;split at h
   ·rename_i u hu;simp only[a_]at h;subst h;simp[ho,bo,hx,den,Instr.extract,rQ,hu]
   ·cases h
  ·cases h
 ·rename_i c ho;split at h
  ·rename_i x t ts hc ha ht;obtain⟨callee,ak,Rn⟩:=c;simp only at hc ha ht;subst hc;have vW:ak=#[x]:=by apply fP;simpa using ha
   have h0:Rn[0]?=aa t:=by rw[<-Array.getElem?_toList,ht];rfl
   subst vW;simp only[ho,resolve,bH,de,cD,invoke,builtin];rw[show(#[x].map ρ)=#[den ae (e x)] by simp[bo]];rw[aia h _ _ h0];rfl
  ·rename_i x y hc ha;obtain⟨callee,ak,Rn⟩:=c;simp only at hc ha;subst hc;have vW:ak=#[x,y]:=by apply fP;simpa using ha
   subst vW;unfold aac at h;split at h
   ·rename_i k a k2 b hx hy;obtain rfl:=cP h;simp[ho,resolve,invoke,builtin,bo,hx,hy,den,Builtin.min_,Builtin.min2,ju]
   ·cases h
  ·rename_i x y hc ha;obtain⟨callee,ak,Rn⟩:=c;simp only at hc ha;subst hc;have vW:ak=#[x,y]:=by apply fP;simpa using ha
   subst vW;unfold aad at h;split at h
   ·rename_i k a k2 b hx hy;obtain rfl:=cP h;simp[ho,resolve,invoke,builtin,bo,hx,hy,den,Builtin.max_,Builtin.max2,ju]
   ·cases h
  ·cases h
 ·rename_i t x lo hi ho;simp only[ho,Option.map_none];rw[bH,aic bo h];rfl
 ·rename_i t x lo hi mx ho;simp only[ho,pk];rw[bH,aid bo h];rfl
 ·rename_i arr x ho;simp only[ho,bo];rw[bH,aie h];rfl
 ·cases h
end
end Vx
namespace Vx
open Go Go.RowKit Go.BigFrame Sx
structure BT where
 t:aP
 fz:Nat×Nat
instance(n:Nat):OfNat BT n:=⟨⟨n,(0,0)⟩⟩
instance:Coe aP BT:=⟨λt=>⟨t,(0,0)⟩⟩
def Ab:BT->aP->Bool
 |⟨t,(0,0)⟩,n=>aC t n
 |_,_=>ah
def Ro{b:BT}{n:Nat}(h:Ab b n=af):b=⟨n,(0,0)⟩:=by
 unfold Ab at h;split at h
 ·rw[cw h]
 ·cases h
structure VB where
 wr:Bool
 ty:BT
 c:List V
def aI(ae:List Nat)(id:Nat)(b:VB):av:=⟨id,b.wr,.cells (ao ae b.c).toArray b.ty.t b.ty.fz⟩
def lits(ae:List Nat):List Nat->List VB->List av
 |i::is,b::bl=>aI ae i b::lits ae is bl
 |_,_=>[]
def vX(P:aL)(bl:List VB)(t:aP)(x:V):Option V:=match x with
 |.ptr i off=>(match bl[i]?with
  |some b=>uN P t b.c off
  |none=>ag)
 |_=>ag
def LY(P:aL)(bl:List VB)(t:aP)(x v:V):Option (List VB):=match x with
 |.ptr i off=>(match bl[i]?with
  |some ⟨af,⟨ty,(0,0)⟩,c⟩=>(match eI P t with
   |some n=>bif rR v&&(nU (kO v)&&aC (cM (kO v)) n)then(match LF c off n (kO v)with|some c'=>aa (bl.set i ⟨af,⟨ty,(0,0)⟩,c'⟩)|none=>ag)else ag
   |none=>ag)
  |_=>ag)
 |_=>ag
def mI(z:List V):Nat->List V
 |0=>[]
 |n+1=>z++mI z n
def El(P:aL)(e:bA->V)(n:Nat):Op->Option (V×VB)
 |.alloc t=>(match lX P t with|some z=>aa (.ptr n 0,⟨af,t,z⟩)|none=>ag)
 |.box t x=>bif rR (e x)then aa (.ptr n 0,⟨af,t,kO (e x)⟩)else ag
 |.buildSlice t len ps=>(match P.underlying t with
  |some (.slice el)=>(match eI P el,lX P el with
   |some (z+1),aa zc=>bif aC (cM zc) (z+1)&&(ck (len*(z+1)) (2^24)&&!(aC len 0&&(aC z 5||(aC z 9||(aC z 13||aC z 45)))))then(match Aa (λi=>aa (i*(z+1),z+1)) (mI zc len) (LS e ps)with|some c=>aa (.sl n 0 len len,⟨af,el,c⟩)|none=>ag)else ag
   |_,_=>ag)
  |_=>ag)
 |_=>ag
def bY(n:Nat):List VB->Bool
 |[]=>af
 |b::l=>bF n b.c&&bY n l
section
variable{ae:List Nat}{P:aL}{w w0:an}{ms:List Nat}{e:bA->V}{ρ:bA->aj}{bl:List VB}{R:List av}
def Ac:∀(is:List Nat)(bl:List VB),is.length=bl.length->(lits ae is bl).length=bl.length
 |[],[],_=>rfl
 |i::is,b::bl,h=>by simp[lits,Ac is bl (by simpa using h)]
 |[],_::_,h=>by simp at h
 |_::_,[],h=>by simp at h
def Rq:∀(is:List Nat)(bl:List VB){k:Nat}{b:VB},is.length=bl.length->bl[k]?=aa b->(lits ae is bl)[k]?=aa (aI ae (is.getD k 0) b)
 |[],[],k,b,_,h=>by simp at h
 |i::is,c::bl,k,b,hl,h=>by
  cases k with
  |zero=>simp only[List.getElem?_cons_zero,a_]at h;subst h;simp[lits]
  |succ k=>simpa[lits]using Rq is bl (by simpa using hl) (by simpa using h)
 |[],_::_,_,_,h,_=>by simp at h
 |_::_,[],_,_,h,_=>by simp at h
def Em:∀(is:List Nat)(bl:List VB)(k:Nat)(b:VB),is.length=bl.length->(lits ae is bl).set k (aI ae (is.getD k 0) b)=lits ae is (bl.set k b)
 |[],[],k,b,_=>by simp[lits]
 |i::is,c::bl,k,b,hl=>by
  cases k with
  |zero=>simp[lits]
  |succ k=>simpa[lits]using Em is bl k b (by simpa using hl)
 |[],_::_,_,_,h=>by simp at h
 |_::_,[],_,_,h=>by simp at h
def fw(is js:List Nat)(bl cl:List VB)(h:is.length=bl.length):lits ae (is++js) (bl++cl)=lits ae is bl++lits ae js cl:=by
 induction is generalizing bl with
 |nil=>cases bl with
  |nil=>simp[lits]
  |cons=>simp at h
 |cons i is ih=>cases bl with
  |nil=>simp at h
  |cons b bl=>simp[lits,ih bl (by simpa using h)]
def fy{aq:List Nat}:∀(is:List Nat)(bl:List VB),bY ae.length bl=af->lits (ae++aq) is bl=lits ae is bl
 |[],_,_=>by simp[lits]
 |_::_,[],_=>by simp[lits]
 |i::is,b::bl,h=>by
  simp only[bY,bJ]at h;simp only[lits,aI,jI _ h.1,fy is bl h.2]
def gp(hl:ae.length=bl.length)(S:St ms w0 (lits ae ae bl++R) w){i:Nat}{b:VB}(h:bl[i]?=aa b):
 (lits ae ae bl++R)[i]?=aa (aI ae (ae.getD i 0) b)/\w.heap[ae.getD i 0]?=aa (.cells (ao ae b.c).toArray b.ty.t b.ty.fz):=by
 have h1:=Rq (ae:=ae) ae bl hl h;have h2:(lits ae ae bl++R)[i]?=aa (aI ae (ae.getD i 0) b):=by
  rw[gB (by rw[Ac ae bl hl];rcases di i bl.length with h'|h';exact h';simp[h']at h)];exact h1
 exact⟨h2,S.at_ i _ h2⟩
def LZ(hl:ae.length=bl.length)(S:St ms w0 (lits ae ae bl++R) w){t:aP}{x v:V}(h:vX P bl t x=aa v):(qq t (den ae x)).run P w=.ok (den ae v) w:=by
 unfold vX at h;split at h
 ·rename_i i off;split at h
  ·rename_i b hb;have aV:=(gp hl S hb).2;unfold uN at h;simp only[qq,den,jt,bH,de,cD];split at h
   ·rename_i n ha hn;split at h
    ·rename_i c hc;simp only[a_]at h;subst h;obtain⟨g1,g2,g3⟩:=z_ (ae:=ae) hc;refine BG (n:=n) aV ?_ ?_ ?_ ?_
     ·unfold qI at ha;split at ha
      ·rename_i d hd;rw[hd];simpa using ha
      ·cases ha
     ·unfold eI at hn;split at hn
      ·rename_i d hd;rw[hd];simpa using hn
      ·cases hn
     ·apply fP;simp[Array.toList_extract,List.extract,g1]
     ·simpa using g2
    ·cases h
   ·rename_i ha;have:=Q3 (ae:=ae) h;refine BF aV ?_ (by simpa using this);unfold qI at ha;split at ha
    ·rename_i d hd;rw[hd];simpa using ha
    ·cases ha
   ·cases h
  ·cases h
 ·cases h
def aaj(hl:ae.length=bl.length)(S:St ms w0 (lits ae ae bl++R) w){t:aP}{x v:V}{b9:List VB}(h:LY P bl t x v=aa b9):
 ∃w',(Gz t (den ae x) (den ae v)).run P w=.ok () w'/\St ms w0 (lits ae ae b9++R) w'/\ae.length=b9.length:=by
 unfold LY at h;split at h
 ·rename_i i off;split at h
  ·rename_i ty c hb;split at h
   ·rename_i n hn;cases hq:rR v&&(nU (kO v)&&aC (cM (kO v)) n)with
    |false=>rw[hq]at h;simp at h
    |true=>
     rw[hq]at h;simp only[cond_true]at h;simp only[bJ]at hq;obtain⟨q1,q2,q3⟩:=hq;have q3:=cw q3;split at h
     ·rename_i c' Ad;simp only[a_]at h;subst h;obtain⟨s1,s2⟩:=Z9 (ae:=ae) Ad;obtain⟨hi,aV⟩:=gp hl S hb;have dl:(ao ae (kO v)).length=n:=by rw[lW,q3]
      have b_:=GH (P:=P) (off:=off) (v:=den ae v) (vs:=ao ae (kO v)) aV (Q4 q1) (by
       unfold eI at hn;split at hn
       ·rename_i d hd;rw[hd];simp[dl]at hn⊢;exact hn
       ·cases hn) (by simpa[dl]using s2) (by rw[ik];exact BV q2)
      have fR:=S.step hi rfl (Ch.setRow w (ae.getD i 0) _) (setRow_heap w (ae.getD i 0) _ (splice (ao ae c).toArray off (ao ae (kO v))) ty (0,0) aV);have m6:splice (ao ae c).toArray off (ao ae (kO v))=(ao ae c').toArray:=by
       apply fP;simp[splice,s1,dl]
      have mD:i<(lits ae ae bl).length:=by rw[Ac ae bl hl];rcases di i bl.length with h'|h';exact h';simp[h']at hb
      refine⟨w.setRow (ae.getD i 0) (splice (ao ae c).toArray off (ao ae (kO v))),?_,?_,?_⟩
      ·simp only[Gz,den,jt,bH,de,cD];exact b_
      ·have Ae:=Em (ae:=ae) ae bl i ⟨af,ty,c'⟩ hl;rw[<-Ae,<-List.set_append_left _ _ mD];rw[m6]at fR⊢;exact fR
      ·simpa using hl
     ·cases h
   ·cases h
  ·cases h
 ·cases h
def aak(z:List V)(n:Nat):ao ae (mI z n)=(oE n (ao ae z)).flatten:=by
 induction n with
 |zero=>simp[mI,ao]
 |succ n ih=>simp[mI,kg,ih,List.replicate_succ]
def Rr(z:Array aj)(m:Nat)(hm:z.size=m+1):∀n,((Array.range (n*(m+1))).map (λi=>z[i%z.size]!)).toList=(oE n z.toList).flatten:=by
 intro n;simp only[Y_,Array.toList_range];induction n with
 |zero=>simp
 |succ n ih=>
  rw[List.replicate_succ',List.flatten_append,<-ih,Nat.succ_mul,List.range_add,uw,lN];congr 1;simp only[List.flatten_cons,List.flatten_nil,cy];apply zN;intro i;rw[kA];by_cases hi:i<m+1
  ·rw[pr hi];simp only[pk,Function.comp];rw[hm,show(n*(m+1)+i)%(m+1)=i by rw[Nat.mul_comm,Nat.mul_add_mod,Nat.mod_eq_of_lt hi]];simp[getElem!_pos,hm,hi]
  ·rw[jA (by simpa using hi),jA (by simp[hm];omega)];rfl
end
end Vx
