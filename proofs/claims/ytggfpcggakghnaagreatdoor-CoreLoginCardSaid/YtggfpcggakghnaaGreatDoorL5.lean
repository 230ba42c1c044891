/- Part 5 of the proof. -/
import Derived.Test.YtggfpcggakghnaaGreatDoorRows
import Derived.ProofKit
import Derived.OpenShut
import Derived.FnData
import Derived.MakeChecks
import Derived.Stop.Joined
import Derived.WalkKit
import Derived.Below
import Derived.BigQuiet
import Derived.WalkSpells
import Derived.Lib.Hide
import Derived.Laws.CopyOwn
import Derived.Carry
import Derived.ChangeArms
import Derived.Deep.Slices
import Derived.Test.YtggfpcggakghnaaGreatDoorProg
import Derived.Test.YtggfpcggakghnaaGreatDoorL4
set_option linter.all false
set_option maxRecDepth 100000
set_option maxHeartbeats 4000000
noncomputable section
open Go.Proofs.Tryz
open Go.IntKind (u8 u16 u32 u64 i64)
open Array renaming getElem?_eq_none->DF,getElem?_eq_getElem->HT,ext'->eO
open BitVec renaming toNat_ofInt->A7,ofInt->jq
open Bool renaming and_eq_true->a_,cond_eq_ite->acF,not_eq_true'->lv
open Go renaming Program->aC,TypeId->aD,Addr->aI,Operand->aZ,Value->ab,World->ae,Oper->an,Exit->dN,IntKind->eE,FuncId->eN,heap_alloc_new->mC
open Go.Addr renaming add_lit->hU,add->ug
open Go.Builtin renaming append_->mD,zeroCells->nz
open Go.Cell renaming okWide->Bg
open Go.DataW renaming trod->MB
open Go.Instr renaming buildSlice->Uu
open Go.IntKind renaming wrap_u16->H3,bits->pJ,signed->pL,wrap_u64->qW,wrap_u8->wA
open Go.MemPlace renaming row->UC
open Go.Proofs.YtggfpcggakghnaaGreatDoor.Rows renaming laid_sidestick_sha_roots->acE
open Go.Sem renaming run_bind->bj
open Go.Src renaming ofSlice->qR
open Go.Value renaming bool->A_,slice->DP,int->dT,okWide->wC
open Int renaming ofNat_eq_natCast->DK,emod_eq_of_lt->HP,ofNat->cU,fdiv->iM,fdiv_eq_ediv_of_nonneg->sL,toNat_natCast->ux,natCast_nonneg->yI
open List renaming range_succ->Ba,mem_cons_self->Bb,flatMap_append->DM,getElem?_drop->DN,countP_nil->DQ,length_map->HV,getElem?_take->MA,length_range->Mx,foldl_nil->UB,getElem?_take_of_lt->Uy,append_assoc->bN,mem_cons->bY,range->bh,append_nil->cI,map_cons->eQ,mem_append->ez,cons_append->fb,nil_append->fc,length_append->fi,getElem?_append_left->gI,getElem?_map->iI,getElem?_eq_getElem->iK,getElem?_toArray->iX,take_append_drop->iZ,getElem?_eq_none->ig,getD->ij,countP_append->ik,perm_middle->jH,replicate->kO,length_cons->ly,eq_nil_of_length_eq_zero->mE,getElem?_range->mF,map_map->mG,mem_append_left->mH,getD_eq_getElem?_getD->n7,sublist_append_right->n8,not_mem_nil->n9,mem_of_getElem?->nx,mem_map->ny,nodup_cons->pF,map_congr_left->pH,map_append->qT,mem_append_right->qU,perm_append_comm_assoc->qV,length_take->uk,ext_getElem?->um,range_succ_eq_map->uu,foldl_cons->uv,map_nil->uw,mem_cons_of_mem->wy,getElem?_append_right->yB,getElem?_of_mem->yC,countP_cons->yL
open List.Perm renaming trans->DO,swap->Mw,append_left->pI,cons->ui
open List.Sublist renaming append_left->yE
open Nat renaming le_of_not_lt->Uw,beq->ax,eq_of_beq_eq_true->b9,ble->bA,lt_or_ge->cE,blt->cj,le_refl->dE,le_of_ble_eq_true->dz,zero_add->eh,blt_eq->gV,le_trans->iH,add_mul->lU,beq_refl->qS,eq_zero_or_pos->uh,add_assoc->yF
open Option renaming map_eq_some_iff->gH,map_some->lx
open Option.some renaming injEq->aS,inj->ck
open Prod.mk renaming injEq->bd
namespace Go.Proofs.YtggfpcggakghnaaGreatDoor
section
open Go Go.RowKit Go.BigFrame Sx Vx
variable{fr:Sd.aF->Nat×Sd.aw}
def f2 (a b:Int):Sd.aw:=λj=>match j with|0=>a|_=>b
def Ly (C:Sd.aN):cP (LG fr):=λargs bl ch K=>match args with
 |[.ptr ic 0,.int .i64 l,.agg [.int .i64 code,.sl ip 0 2 2]]=>(match bl[ip]?with
  |some ⟨true,⟨5,(0,0)⟩,[.int .u8 a,.int .u8 b]⟩=>Lg C [.ptr ic 0,.int .i64 l,.agg [.int .i64 code,.sl ip 0 2 2]] (bl.set ip (eg 2 0 (f2 a b))) ch K
  |_=>False)
 |_=>False
theorem apG {ids:List Nat} {bl:List VB} {ip:Nat} {b b':VB} (hl:ids.length=bl.length) (h:bl[ip]?=some b) (e:∀n,ay ids n b'=ay ids n b):lits ids ids (bl.set ip b')=lits ids ids bl:=by
 rw[<-uN ids bl ip b' hl,e,uN ids bl ip b hl];congr 1;apply um;intro j;rw[List.getElem?_set];split
 ·rename_i hj;subst hj;rw[h];simp[ia h]
 ·rfl
theorem aa6 (ht:Body (fr:=fr) 147 dR):Sound prog gS 24 (Ly (fr:=fr) (aO aP)):=by
 intro args ids bl ch R ms w0 w K hg hl S hc;unfold Ly at hc;split at hc
 ·rename_i ic l code ip;split at hc
  ·rename_i a b hb;refine aaL ht _ ids _ ch R ms w0 w K hg (by simpa using hl) ?_ hc;rw[apG (b':=eg 2 0 (f2 a b)) hl hb (λn=>rfl)];exact S
  ·exact hc.elim
 ·exact hc.elim
def j3 (t:aD):VB:=⟨false,t,[.bH .u32 64 cx]⟩
def nU (t:aD):VB:=⟨false,t,[.bool false,.bool false,.bool false,.bool false,.bool false,.bool false,.bool false,.bool false,.bool false,.bool false,.bool true,.bool true]⟩
def Lz (fr:Sd.aF->Nat×Sd.aw) (C:Sd.aN):List (bK (LG fr)):=[⟨10,false,Lk⟩,⟨11,false,Lv⟩,⟨24,false,Ly C⟩,⟨14,false,Da λ_=>Ld⟩]
theorem aa7 (ht:Body (fr:=fr) 147 dR):aG prog gS (Lz fr (aO aP)):=
 aG.cons ⟨aaT,λe=>by cases e⟩ (aG.cons ⟨aa1,λe=>by cases e⟩ (aG.cons ⟨aa6 ht,λe=>by cases e⟩ (aG.cons (aoQ (aaI ht)) aG.nil)))
def LC:List V:=(bh 56).map λi=>bif iF i then .raw (.slice none 0 0)else .int .i64 (bif ax i 10 then 2 else 0)
def Td:j1:=⟨λi=>iN (nth LC i),λj=>sA (nth LC (j+5)),λj=>sN (nth LC (j+5)),λj=>sC (nth LC (j+5))⟩
def Te (x:j1) (u:ae):Prop:=mA x u 0/\mA x u 1/\mA x u 2/\mA x u 3
def kM (x:j1) (u:ae):Nat->Sd.aw:=k4 (my (x.kn 0) (da u (x.ka 0))) (my (x.kn 1) (da u (x.ka 1))) (my (x.kn 2) (da u (x.ka 2))) (my (x.kn 3) (da u (x.ka 3)))
def n4 (n:Nat->Nat):Nat->Nat:=k4 (n 0) (n 1) (n 2) (n 3)
def AK (tg tc:aD) (it:Nat) (k:LK) (s:Sd.aa):Prop:=some (j3 tg)=some (bU k)/\some (nU tc)=some (g_ k)/\lg k it s=lg k it (bR s)/\s.c.p.b_=s.c.p.b_/\s.c.p.eS=s.c.p.eS/\s.c.p.queue=k.most
section
variable(C:Sd.aN) (tg tc:aD) (u:ae) (K:VK (LG fr))
def shE (k:LK) (s':Sd.aa) (F0:a9 fr (aY k (eM s'))) (fn:List ai) (r:TR):Prop:=
 let no (b:Bool):Prop:=K (.bool b) [j3 tg,nU tc] [.aX u,.core (bb k (eM s') F0) (fn++[])]
 cond ((s'.bz.length:Int)==1) ((0<=(0:Int)/\0<(s'.bz.length:Int))/\(0<s'.bz.length/\∀j,(nn s'.bz r.fv j).length=2)/\
  cond ((s'.bz.getD 0 default).1==1) (cond ((s'.br.length:Int)==1) ((0<=(0:Int)/\0<(s'.br.length:Int))/\(0<s'.br.length/\∀j,(AD s'.br j).length=6)/\
   cond ((s'.br.getD 0 default).kind==2) (AK tg tc 8 k (eM s')/\∀(x:Option aI) (c ty:Nat) (us:List ab),K (.bool ((eM s').c.t.aE==4)) [j3 tg,nU tc] [.aX u,.core (bb k (bR (eM s')) F0) (fn++[])]) (no false)) (no false)) (no false)) (no false)
def shX:Prop:=Te Td u/\∀(p:Nat->Int) (n d:Nat->Nat),Made Td p n->
 G8 (ie 2 p n d) (n4 n)/\∀(p2:Sd.aJ) (k:LK) (F:a9 fr (aY k (ib p2))),G9 (ie 2 p n d) (kM Td u) tg tc p2 k->cV=F.vs->cV=F.vr->
  AK tg tc 8 k (ib p2)/\(2=2/\2+0=2/\lq=lq)/\si k/\(ew k (bR (ib p2))/\cV=F.vs/\cV=F.vr/\2<=58/\By (f2 1 1))/\
   ∀s',s'=gU C (bR (ib p2)) 1 0 2 (f2 1 1)->∀(r:TR) (fn:List ai) (F0:a9 fr (aY k (eM s'))),cV=F0.vs->cV=F0.vr->nQ fr s'.bz r.fv fn->shE tg tc u K k s' F0 fn r
theorem apH:bu (bQ prog gS (Lz fr C)) 60 9 [] [j3 tg,nU tc] [.aX u] (bm 2 K)=shX C tg tc u K:=by kernel_rfl
end
end
section
open Go Go.RowKit Go.BigFrame Sx Go.ChangeShapes Go.WideShapes
section
variable{H:Type} {enc:aD×ab->H} {P:aC} {w:ae} {base:Nat} {spare:Nat->Bool} {held:Bool} {fuel:Nat} {t e:aD} {cs:List ab} {ps:List MemPlace}
theorem aa8 {l:List ab} {i:Nat} {v:ab} (h:(l.drop i).take 1=[v]):l[i]?=some v:=by
 have h1:((l.drop i).take 1)[0]?=some v:=by rw[h];rfl
 rw[MA]at h1;simpa using h1
theorem apI {k:eE} {zs:List Int} (ht:P.underlying t=some (.array zs.length e)) (he:P.underlying e=some (.int k)) (hc:P.cellsOf e=1) (hn:P.cellsOf t=zs.length)
 (h:MB enc P w base spare held fuel t cs=some (.agg (zs.map λz=>.lit (.int k z)),ps)):cs=zs.map (dT k):=by
 obtain⟨xs,m,rfl,hx,hlen,uH,nE⟩:=DataW.trod_array ht h;simp only[bd,DataW.agg.injEq]at hx;rw[hn]at hlen;apply um;intro i;by_cases hi:i<zs.length
 ·have h1:=nE i hi;rw[hc,Nat.mul_one,iK (by omega)]at h1;obtain⟨z,e1,e2,_⟩:=DataW.trod_int he h1;have h3:(zs.map λz=>(DataW.lit (.int k z):DataW H))[i]?=(xs.map (·.1))[i]?:=by rw[hx.1]
  rw[iI,iI,iK hi,iK (by omega),lx,lx,e2]at h3;simp at h3;rw[aa8 e1,iI,iK hi,lx,h3]
 ·rw[ig (by omega),ig (by simp;omega)]
theorem aa9 {n:String} {g:Nat} {c:Array ab} (hg:P.globalNamed n=some g) (h:w.var? P n=some c):∃t f,w.heap[g]?=some (.cells c t f):=by
 simp only[World.var?,hg,Option.bind_some]at h;split at h
 ·next c' t f h2=>simp at h;subst h;exact⟨t,f,h2⟩
 ·cases h
end
def Hc:List Int:=(bh 64).map λi=>cx i
def Tf:List (String×DataW Unit):=[("sidestick/gate.commands",Rows.laid_sidestick_gate_commands),("sidestick/sha.roots",acE)]
theorem apJ {W:ae} (h:laidMetH prog Tf W):∃t,W.heap[1]?=some (.cells (aq .u32 64 cx) t (0,0)):=by
 rw[MakeChecks.laidMetH_plain _ _ _ (by kernel_rfl)]at h;obtain⟨ps,⟨g0,t0,LD,f0,p0,q0,hg0,LF,qO,He,⟨g1,t1,LJ,f1,p1,q1,Le,ht1,sS,C5,_,hq⟩,oD⟩,_,mu⟩:=h;obtain rfl:g1=1:=ck (Le.symm.trans (show prog.globalNamed "sidestick/sha.roots" =some 1 by kernel_rfl));have e1:(prog.globals[1]?).map (·.type)=some 287:=by kernel_rfl
 obtain rfl:t1=287:=ck (ht1.symm.trans e1);have nD:LJ.toList=Hc.map (dT .u32):=by
  have FG:MB (λ_=>()) prog W 0 (λ_=>true) false f1 287 LJ.toList=some (.agg (Hc.map λz=>.lit (.int .u32 z)),p1):=
   C5.trans (congrArg (λd=>some (d,p1)) (show(acE:DataW Unit)=.agg (Hc.map λz=>.lit (.int .u32 z)) by kernel_rfl))
  exact apI (k:=.u32) (zs:=Hc) (e:=56) (by kernel_rfl) (by kernel_rfl) (by kernel_rfl) (by kernel_rfl) FG
 obtain⟨t,f,aK⟩:=aa9 (show prog.globalNamed "sidestick/sha.roots" =some 1 by kernel_rfl) sS;have Iz:LJ=aq .u32 64 cx:=by
  apply eO;rw[nD];simp[Hc,aq]
 obtain⟨c,t',yj⟩:=(mu 1 0 (by
  rw[oD,hq,Iz];have:MemPlace.cell 1 0∈UC ⟨1,0,none⟩ (aq .u32 64 cx).size:=by
   rw[Ec];simp[UC]
  simp[this])).1
 rw[aK]at yj;simp only[aS,Obj.cells.injEq]at yj;refine⟨t,?_⟩;rw[aK,Iz,yj.2.2]
end
end Go.Proofs.YtggfpcggakghnaaGreatDoor
namespace Sd
open Go Go.RowKit
noncomputable def over (w:ae) (B:Nat) (u:ae):ae:=@ite _ (Below B w u) (Classical.propDecidable _) u w
theorem aa_ (w:ae) (B:Nat) (u:ae):Below B w (over w B u):=by
 unfold over;split
 ·assumption
 ·exact Below.refl _ _
@[go_sem] theorem auf (w:World) (B:Nat) (u:World) (b o:Nat) (h:b<B):(over w B u).cell? ⟨b,o,none⟩=w.cell? ⟨b,o,none⟩:=(aa_ w B u).cell h
@[go_sem] theorem aug (w:World) (B:Nat) (u:World) (b o:Nat) (h:b<B):(over w B u).frozen? ⟨b,o,none⟩=w.frozen? ⟨b,o,none⟩:=(aa_ w B u).frozen h
section
variable{P:aC}
end
theorem bs {w a:ae} (h:Below w.heap.size w a) {p:aI} (hp:w.heap.size<=p.block) (v:ab):Below w.heap.size w (a.setCell p v):=h.setCell hp v
def iO (d:TypeDesc):Bool:=match d with|.struct _|.array _ _=>true|_=>false
structure aba (P:aC) (ty n:Nat):Prop where
 desc:∃d,P.underlying ty=some d/\iO d=true
 size:(P.info? ty).map (·.size)=some n
theorem aba.load {P:aC} {ty n:Nat} (h:aba P ty n) {w:ae} {g:Nat} {t:aD} {cs:Array ab} {fr:Nat×Nat} (hg:w.heap[g]?=some (.cells cs t fr)) (hn:cs.size=n):
 (loadVar ty ⟨g,0,none⟩).run P w=.ok (.agg cs) w:=by
 obtain⟨⟨d,hu,hd⟩,hs⟩:=h;exact run_loadVar_row w g t ty cs fr d hg hu (by cases d<;>first|rfl|simp[iO]at hd) (by rw[hs,hn])
section
variable{P:aC} {ops:Array an} {rest:List an} {o:an} {a:Act} {w:ae} {Q:dN->Act->ae->Prop}
end
def Hf (n:Int):Prop:=-9223372036854775808<=n/\n<=9223372036854775807
theorem i64 {n:Int} (h:-9223372036854775808<=n/\n<=9223372036854775807):Hf n:=h
end Sd
namespace Sd
open Go Go.RowKit Go.ChangeShapes Go.WideShapes Go.ChangeAt
theorem abb {H:Type} {enc:aD×ab->H} {P:aC} (hl:laidOutB P=true) {W W':ae} (hb:Below W.heap.size W W'):
 ∀{ts:List aD} {vs:List ab} {ds:List (DataW H)} {ps:List MemPlace},(ts.all λt=>P.readableRec t&&decide (t<P.types.size))=true->
  DataW.TrodAll enc P W 0 (λ_=>true) true ts vs ds ps->(∀p∈ps,p.block<W.heap.size)->DataW.TrodAll enc P W' 0 (λb=>decide (b<W.heap.size)) true ts vs ds ps
 |[],[],[],_,_,h,_=>h
 |t::ts,v::vs,d::ds,ps,hr,h,hp=>by
  obtain⟨p,q,h1,h2,rfl⟩:=h;simp only[List.all_cons,a_,decide_eq_true_eq]at hr;exact⟨p,q,Below.trod hl hr.1.1 hr.1.2 h1 hb (λx hx=>hp x (mH _ hx)),abb hl hb hr.2 h2 (λx hx=>hp x (qU _ hx)),rfl⟩
 |[],[],_::_,_,_,h,_=>h.elim
 |[],_::_,_,_,_,h,_=>h.elim
 |_::_,[],_,_,_,h,_=>h.elim
 |_::_,_::_,[],_,_,h,_=>h.elim
theorem apL {H:Type} {enc:aD×ab->H} {P:aC} {f:Func} {s:ChangeSpec} {W W':ae} {args:Array ab} {ds gs:List (DataW H)} {before:List MemPlace} {tb:aD}
 (hl:laidOutB P=true) (hr:(f.params.toList.all λt=>P.readableRec t&&decide (t<P.types.size))=true) (abc:s.vars=[]) (GC:f.resultTypes=#[tb]) (Si:P.underlying tb=some .bool)
 (hs:s.fn H (ds++gs)={results:=[.lit (.bool true)],args:=ds,vars:=[]}) (hW:DataW.Whole enc P f.params.toList s.vars false W args.toList ds gs before) (hb:Below W.heap.size W W'):
 s.post enc P f false true false false W args (.bool true) W':=by
 have hW0:=hW;have dh:=λp hp=>hW.lt p hp;obtain⟨p,q,hA,hV,rfl,hz,hn⟩:=hW;rw[abc]at hV;obtain⟨rfl,rfl⟩:=trodVars_none hV;refine⟨ds,[],p++[],[],p,[],hW0,?_,?_,?_,?_,λh=>by cases h⟩
 ·rw[hs,GC];exact trodAll_mk1 (shut_bool Si _)
 ·rw[hs];exact abb hl hb hr hA (λx hx=>dh x (by simpa using hx))
 ·rw[hs,abc];exact rfl
 ·exact hb.frame _
section
variable{P:aC} {w:ae} {r:Reach} {b0:Nat} {t:aD} {v:ab}
theorem abd {d:TypeDesc} {ts:List aD} (hu:P.underlying t=some d) (hd:iO d=true) (Tg:P.cellTypes P.depth t=some ts) (hn:P.cellsOf t=ts.length) (hv:wC P w r b0 t v):
 ∃cs:Array ab,v=.agg cs/\cs.size=ts.length/\∀(i:Nat) x u,cs[i]?=some x->ts[i]?=some u->Bg P w r b0 u x:=by
 have h:∃cs,v=.agg cs/\cs.size=P.cellsOf t/\Row.okWide P w r b0 t cs:=by
  unfold wC at hv;rw[hu]at hv;cases d<;>first|exact hv|simp[iO]at hd
 obtain⟨cs,rfl,di,ts',h1,_,h2⟩:=h;rw[Tg]at h1;obtain rfl:ts=ts':=by simpa using h1
 refine⟨cs,rfl,di.trans hn,?_⟩;intro i x u hx LN;obtain⟨u',h3,h4⟩:=h2 i x hx;have hi:i<ts.length:=by
  rcases cE i ts.length with h|h
  ·exact h
  ·simp[h]at LN
 rw[Nat.mod_eq_of_lt hi,LN]at h3;obtain rfl:u=u':=by simpa using h3
 exact h4
theorem apM {d:TypeDesc} (hu:P.underlying t=some d) (hd:iO d=false) (hv:wC P w r b0 t v):Bg P w r b0 t v:=by
 unfold wC at hv;rw[hu]at hv;cases d<;>first|exact hv|simp[iO]at hd
theorem abe {k:eE} (hu:P.underlying t=some (.int k)) (h:Bg P w r b0 t v):∃n,v=.int k n/\k.min<=n/\n<=k.max:=by
 unfold Bg at h;rw[hu]at h;unfold Cell.ok at h;rw[hu]at h;cases v<;>simp at h;obtain⟨rfl,h1,h2⟩:=h;exact⟨_,rfl,h1,h2⟩
theorem apN (hu:P.underlying t=some (.int .i64)) (h:Bg P w r b0 t v):∃n,v=.int .i64 n/\Hf n:=by
 obtain⟨n,h1,h2,h3⟩:=abe hu h;exact⟨n,h1,by unfold Hf;simpa[IntKind.min,IntKind.max,pL,pJ]using And.intro h2 h3⟩
theorem apO (hu:P.underlying t=some (.int .u8)) (h:Bg P w r b0 t v):∃n,v=.int .u8 n/\0<=n/\n<=255:=by
 obtain⟨n,h1,h2,h3⟩:=abe hu h;exact⟨n,h1,by simpa[IntKind.min,IntKind.max,pL,pJ]using And.intro h2 h3⟩
end
end Sd
namespace Go.Proofs.YtggfpcggakghnaaGreatDoor
section
open Go Go.RowKit Go.WideShapes Sd
def LQ (W:ae) (a:Option aI) (n c:Nat):Prop:=n<=c/\((a=none/\n=0/\c=0)\/∃x,a=some x/\(c:Int)<=i64.max/\W.has prog .any 0 x 5 c)
theorem abf {W:ae} {v:ab} {t e:aD} (hu:prog.underlying t=some (.slice e)) (h:Bg prog W .any 0 t v):
 ∃a n c,v=.slice a n c/\n<=c/\((a=none/\n=0/\c=0)\/∃x,a=some x/\(c:Int)<=i64.max/\W.has prog .any 0 x e c):=by
 unfold Bg at h;rw[hu]at h;cases v with
 |slice a n c=>
  unfold Cell.ok at h;rw[hu]at h;cases a with
  |none=>
   cases n<;>cases c<;>first|exact⟨_,_,_,rfl,by omega,Or.inl ⟨rfl,rfl,rfl⟩⟩|(simp at h)
  |some a=>exact⟨_,_,_,rfl,h.1,Or.inr ⟨a,rfl,h.2⟩⟩
 |_=>unfold Cell.ok at h;rw[hu]at h;simp at h
theorem apP {W:ae} {v:ab} (hv:wC prog W .any 0 28 v):
 ∃(q:Nat->Int) (ka:Nat->Option aI) (kn kc:Nat->Nat),v=.agg (z_ q ka kn kc)/\(∀i,-9223372036854775808<=q i/\q i<=9223372036854775807)/\∀i,i<4->LQ W (ka i) (kn i) (kc i):=by
 obtain⟨cs,rfl,di,nD⟩:=abd Tryz.underlying28 rfl (ts:=[3,3,3,3,3,23,23,23,23,3,3,3,3,3,3,3,3,3,3,3,3,3,3,3,3,3,3,3,3,3,3,3,3,3,3,3,3,3,3,3,3,3,3,3,3,3,3,3,3,3,3,3,3,3,3,3]) (by kernel_rfl) (by kernel_rfl) hv;have aK:∀i,i<56->∃x,cs[i]?=some x:=λi hi=>⟨cs[i]'(by rw[di];exact hi),by rw[HT]⟩;have hI:∀i,i<56->(i<5\/8<i)->∃n,cs[i]?=some (.int .i64 n)/\Hf n:=by
  intro i hi bZ;obtain⟨x,hx⟩:=aK i hi;have ht:([3,3,3,3,3,23,23,23,23,3,3,3,3,3,3,3,3,3,3,3,3,3,3,3,3,3,3,3,3,3,3,3,3,3,3,3,3,3,3,3,3,3,3,3,3,3,3,3,3,3,3,3,3,3,3,3]:List Nat)[i]?=some 3:=by clear hx;revert i;decide
  obtain⟨n,rfl,hn⟩:=apN Tryz.underlying3 (nD i x 3 hx ht);exact⟨n,hx,hn⟩
 have hS:∀i,i<4->∃a n c,cs[5+i]?=some (.slice a n c)/\LQ W a n c:=by
  intro i hi;obtain⟨x,hx⟩:=aK (5+i) (by omega);have ht:([3,3,3,3,3,23,23,23,23,3,3,3,3,3,3,3,3,3,3,3,3,3,3,3,3,3,3,3,3,3,3,3,3,3,3,3,3,3,3,3,3,3,3,3,3,3,3,3,3,3,3,3,3,3,3,3]:List Nat)[5+i]?=some 23:=by clear hx;revert i;decide
  obtain⟨a,n,c,rfl,h1,h2⟩:=abf Tryz.underlying23 (nD (5+i) x 23 hx ht);exact⟨a,n,c,hx,h1,h2⟩
 let q:Nat->Int:=λi=>match cs[i]?with|some (.int _ n)=>n|_=>0
 let ka:Nat->Option aI:=λi=>match cs[5+i]?with|some (.slice a _ _)=>a|_=>none
 let kn:Nat->Nat:=λi=>match cs[5+i]?with|some (.slice _ n _)=>n|_=>0
 let kc:Nat->Nat:=λi=>match cs[5+i]?with|some (.slice _ _ c)=>c|_=>0
 have hq:∀i,i<56->(i<5\/8<i)->cs[i]?=some (.int .i64 (q i))/\Hf (q i):=by
  intro i hi bZ;obtain⟨n,hx,hn⟩:=hI i hi bZ;have:q i=n:=by simp only[q,hx]
  rw[this];exact⟨hx,hn⟩
 have hk:∀i,i<4->cs[5+i]?=some (.slice (ka i) (kn i) (kc i))/\LQ W (ka i) (kn i) (kc i):=by
  intro i hi;obtain⟨a,n,c,hx,hn⟩:=hS i hi;have h1:ka i=a:=by simp only[ka,hx]
  have h2:kn i=n:=by simp only[kn,hx]
  have h3:kc i=c:=by simp only[kc,hx]
  rw[h1,h2,h3];exact⟨hx,hn⟩
 refine⟨q,ka,kn,kc,?_,?_,λi hi=>(hk i hi).2⟩
 ·congr 1;apply Array.ext_getElem?;intro i;by_cases hi:i<56
  ·match i,hi with
   |0,_=>exact(hq 0 (by omega) (by omega)).1.trans rfl
   |1,_=>exact(hq 1 (by omega) (by omega)).1.trans rfl
   |2,_=>exact(hq 2 (by omega) (by omega)).1.trans rfl
   |3,_=>exact(hq 3 (by omega) (by omega)).1.trans rfl
   |4,_=>exact(hq 4 (by omega) (by omega)).1.trans rfl
   |5,_=>exact(hk 0 (by omega)).1.trans rfl
   |6,_=>exact(hk 1 (by omega)).1.trans rfl
   |7,_=>exact(hk 2 (by omega)).1.trans rfl
   |8,_=>exact(hk 3 (by omega)).1.trans rfl
   |9,_=>exact(hq 9 (by omega) (by omega)).1.trans rfl
   |10,_=>exact(hq 10 (by omega) (by omega)).1.trans rfl
   |11,_=>exact(hq 11 (by omega) (by omega)).1.trans rfl
   |12,_=>exact(hq 12 (by omega) (by omega)).1.trans rfl
   |13,_=>exact(hq 13 (by omega) (by omega)).1.trans rfl
   |14,_=>exact(hq 14 (by omega) (by omega)).1.trans rfl
   |15,_=>exact(hq 15 (by omega) (by omega)).1.trans rfl
   |16,_=>exact(hq 16 (by omega) (by omega)).1.trans rfl
   |17,_=>exact(hq 17 (by omega) (by omega)).1.trans rfl
   |18,_=>exact(hq 18 (by omega) (by omega)).1.trans rfl
   |19,_=>exact(hq 19 (by omega) (by omega)).1.trans rfl
   |20,_=>exact(hq 20 (by omega) (by omega)).1.trans rfl
   |21,_=>exact(hq 21 (by omega) (by omega)).1.trans rfl
   |22,_=>exact(hq 22 (by omega) (by omega)).1.trans rfl
   |23,_=>exact(hq 23 (by omega) (by omega)).1.trans rfl
   |24,_=>exact(hq 24 (by omega) (by omega)).1.trans rfl
   |25,_=>exact(hq 25 (by omega) (by omega)).1.trans rfl
   |26,_=>exact(hq 26 (by omega) (by omega)).1.trans rfl
   |27,_=>exact(hq 27 (by omega) (by omega)).1.trans rfl
   |28,_=>exact(hq 28 (by omega) (by omega)).1.trans rfl
   |29,_=>exact(hq 29 (by omega) (by omega)).1.trans rfl
   |30,_=>exact(hq 30 (by omega) (by omega)).1.trans rfl
   |31,_=>exact(hq 31 (by omega) (by omega)).1.trans rfl
   |32,_=>exact(hq 32 (by omega) (by omega)).1.trans rfl
   |33,_=>exact(hq 33 (by omega) (by omega)).1.trans rfl
   |34,_=>exact(hq 34 (by omega) (by omega)).1.trans rfl
   |35,_=>exact(hq 35 (by omega) (by omega)).1.trans rfl
   |36,_=>exact(hq 36 (by omega) (by omega)).1.trans rfl
   |37,_=>exact(hq 37 (by omega) (by omega)).1.trans rfl
   |38,_=>exact(hq 38 (by omega) (by omega)).1.trans rfl
   |39,_=>exact(hq 39 (by omega) (by omega)).1.trans rfl
   |40,_=>exact(hq 40 (by omega) (by omega)).1.trans rfl
   |41,_=>exact(hq 41 (by omega) (by omega)).1.trans rfl
   |42,_=>exact(hq 42 (by omega) (by omega)).1.trans rfl
   |43,_=>exact(hq 43 (by omega) (by omega)).1.trans rfl
   |44,_=>exact(hq 44 (by omega) (by omega)).1.trans rfl
   |45,_=>exact(hq 45 (by omega) (by omega)).1.trans rfl
   |46,_=>exact(hq 46 (by omega) (by omega)).1.trans rfl
   |47,_=>exact(hq 47 (by omega) (by omega)).1.trans rfl
   |48,_=>exact(hq 48 (by omega) (by omega)).1.trans rfl
   |49,_=>exact(hq 49 (by omega) (by omega)).1.trans rfl
   |50,_=>exact(hq 50 (by omega) (by omega)).1.trans rfl
   |51,_=>exact(hq 51 (by omega) (by omega)).1.trans rfl
   |52,_=>exact(hq 52 (by omega) (by omega)).1.trans rfl
   |53,_=>exact(hq 53 (by omega) (by omega)).1.trans rfl
   |54,_=>exact(hq 54 (by omega) (by omega)).1.trans rfl
   |55,_=>exact(hq 55 (by omega) (by omega)).1.trans rfl
   |i+56,h=>exact absurd h (by omega)
  ·rw[DF (by rw[di];exact Uw hi),DF (Uw hi)]
 ·intro i;by_cases hi:i<56/\(i<5\/8<i)
  ·exact(hq i hi.1 hi.2).2
  ·have:q i=0:=by
    by_cases h5:i<56
    ·obtain⟨a,n,c,hx,_⟩:=hS (i-5) (by omega);rw[show 5+(i-5)=i by omega]at hx;simp only[q,hx]
    ·have hx:cs[i]?=none:=DF (by rw[di];exact Uw h5);simp only[q,hx]
   rw[this];omega
end
end Go.Proofs.YtggfpcggakghnaaGreatDoor
namespace Sx
open Go Go.RowKit
def Rd (P:aC) (w:ae):Nat->aD->List ab->Prop
 |0,_,_=>True
 |d+1,t,cs=>
  match P.underlying t with
  |some .bool=>∃b,cs=[.bool b]
  |some (.int k)=>∃n,cs=[.int k n]/\k.min<=n/\n<=k.max
  |some (.slice e)=>cs=[.slice none 0 0]\/∃a len cap,cs=[.slice (some a) len cap]/\len<=cap/\cap<=maxLen/\∀i,i<cap->∃mj,w.cells? 0 (a.add (i*P.cellsOf e)) (P.cellsOf e)=some mj/\Rd P w d e mj
  |some (.struct fs)=>cs.length=P.cellsOf t/\∀(i:Nat) f,fs[i]?=some f->Rd P w d f.type ((cs.drop f.offset).take (P.cellsOf f.type))
  |some (.array n e)=>cs.length=P.cellsOf t/\∀i,i<n->Rd P w d e ((cs.drop (i*P.cellsOf e)).take (P.cellsOf e))
  |_=>True
section
variable{H:Type} {enc:aD×ab->H} {P:aC} {w:ae} {held:Bool}
theorem Hg:∀(d:Nat) {fuel:Nat} {t:aD} {cs:List ab} {x:DataW H×List MemPlace},MB enc P w 0 (λ_=>true) held fuel t cs=some x->Rd P w d t cs
 |0,_,_,_,_,_=>trivial
 |d+1,fuel,t,cs,x,h=>by
  unfold Rd;split
  ·rename_i hu;obtain⟨b,hb,_⟩:=DataW.trod_bool hu h;exact⟨b,hb⟩
  ·rename_i k hu;obtain⟨n,hn,_,hw⟩:=DataW.trod_int hu h;refine⟨n,hn,?_⟩;unfold Lit.wf at hw;simpa using hw
  ·rename_i e hu;rcases Deep.open_slice hu h with⟨h0,_⟩|⟨a,len,cap,m,n,D,Pl,hc,_,hl,hm,xk,_,hx⟩
   ·exact .inl h0
   ·refine .inr ⟨a,len,cap,hc,hl,hm,λi hi=>?_⟩;obtain⟨mj,h1,h2⟩:=hx i (by rw[xk];simpa using hi);exact⟨mj,h1,Hg d h2⟩
  ·rename_i fs hu;obtain⟨xs,n,_,_,hl,hs,hx⟩:=DataW.trod_struct hu h;refine⟨hl,λi f hf=>?_⟩;have h1:=hx i f hf;have hi:i<fs.size:=by
    rcases cE i fs.size with h2|h2
    ·exact h2
    ·simp[h2]at hf
   rw[iK (by rw[hs];exact hi)]at h1;exact Hg d h1
  ·rename_i n e hu;obtain⟨xs,m,_,_,hl,hs,hx⟩:=DataW.trod_array hu h;refine⟨hl,λi hi=>?_⟩;have h1:=hx i hi;rw[iK (by rw[hs];exact hi)]at h1;exact Hg d h1
  ·trivial
def cellAt (P:aC):Nat->aD->Nat->Option aD
 |0,_,_=>none
 |d+1,t,j=>
  match P.underlying t with
  |some (.struct fs)=>fs.toList.findSome? λf=>bif bA f.offset j&&cj j (f.offset+P.cellsOf f.type)then cellAt P d f.type (j-f.offset)else none
  |some (.array n e)=>bif cj (j/P.cellsOf e) n&&cj 0 (P.cellsOf e)then cellAt P d e (j%P.cellsOf e)else none
  |_=>bif ax j 0 then some t else none
theorem Hh:∀(d:Nat) {t:aD} {cs:List ab} {j:Nat} {u:aD} {v:ab},(∀n,Rd P w n t cs)->cellAt P d t j=some u->cs[j]?=some v->∀n,Rd P w n u [v]
 |0,_,_,_,_,_,_,h,_=>by simp[cellAt]at h
 |d+1,t,cs,j,u,v,hr,h,hv=>by
  unfold cellAt at h;split at h
  ·rename_i fs hu;obtain⟨f,hf,h⟩:=List.exists_of_findSome?_eq_some h;obtain⟨i,hi⟩:=yC hf;have q_:fs[i]?=some f:=by simpa using hi
   rw[acF]at h;split at h
   ·rename_i hc;simp only[a_]at hc;have h1:=dz hc.1;have h2:j<f.offset+P.cellsOf f.type:=by
     have:=hc.2;unfold cj at this;exact dz this
    refine Hh d (cs:=(cs.drop f.offset).take (P.cellsOf f.type)) (λn=>?_) h ?_
    ·have:=hr (n+1);unfold Rd at this;rw[hu]at this;exact this.2 i f q_
    ·rw[Uy (by omega),DN];rw[show f.offset+(j-f.offset)=j by omega];exact hv
   ·simp at h
  ·rename_i n0 e hu;rw[acF]at h;split at h
   ·rename_i hc;simp only[a_]at hc;have h1:j/P.cellsOf e<n0:=by
     have:=hc.1;unfold cj at this;exact dz this
    have h2:0<P.cellsOf e:=by
     have:=hc.2;unfold cj at this;exact dz this
    refine Hh d (cs:=(cs.drop (j/P.cellsOf e*P.cellsOf e)).take (P.cellsOf e)) (λn=>?_) h ?_
    ·have:=hr (n+1);unfold Rd at this;rw[hu]at this;exact this.2 _ h1
    ·rw[Uy (Nat.mod_lt _ h2),DN];rw[show j/P.cellsOf e*P.cellsOf e+j%P.cellsOf e=j by rw[Nat.mul_comm];exact Nat.div_add_mod _ _];exact hv
   ·simp at h
  ·rename_i hns hna;rw[acF]at h;split at h
   ·rename_i hj;obtain rfl:j=0:=b9 hj;obtain rfl:t=u:=by simpa using h
    intro n;have h1:=hr n;cases n with
    |zero=>trivial
    |succ n=>
     unfold Rd at h1⊢;split at h1
     ·obtain⟨b,rfl⟩:=h1;simp at hv;subst hv;exact⟨b,rfl⟩
     ·obtain⟨k,rfl,h2⟩:=h1;simp at hv;subst hv;exact⟨k,rfl,h2⟩
     ·rcases h1 with rfl|⟨a,len,cap,rfl,h2⟩
      ·simp at hv;subst hv;exact .inl rfl
      ·simp at hv;subst hv;exact .inr ⟨a,len,cap,rfl,h2⟩
     ·rename_i fs hu;exact absurd hu (hns fs)
     ·rename_i k e hu;exact absurd hu (hna k e)
     ·trivial
   ·simp at h
theorem abg {u:aD} {v:ab} {k:eE} (hu:P.underlying u=some (.int k)) (h:∀n,Rd P w n u [v]):∃n,v=.int k n/\k.min<=n/\n<=k.max:=by
 have:=h 1;unfold Rd at this;rw[hu]at this;obtain⟨b,hb,h2⟩:=this;exact⟨b,by simpa using hb,h2⟩
theorem abh {u e:aD} {v:ab} {z:Nat} {ts:List aD} (hu:P.underlying u=some (.slice e)) (h:∀n,Rd P w n u [v]) (hz:P.cellsOf e=z:=by kernel_rfl) (d:Nat) (dr:(bh z).map (cellAt P d e)=ts.map some:=by kernel_rfl):
 v=.slice none 0 0\/∃a len cap,v=.slice (some a) len cap/\len<=cap/\cap<=maxLen/\∃c:Nat->Nat->ab,∀i,i<cap->∀j,j<z->w.cell? (a.add (i*z+j))=some (c i j)/\∀u',ts[j]?=some u'->∀n,Rd P w n u' [c i j]:=by
 have h1:=h 1;unfold Rd at h1;rw[hu]at h1;rcases h1 with h1|⟨a,len,cap,h1,h2,h3,_⟩
 ·exact .inl (by simpa using h1)
 ·obtain rfl:v=_:=by simpa using h1
  refine .inr ⟨a,len,cap,rfl,h2,h3,?_⟩;subst hz;have key:∀i,i<cap->∃mj,w.cells? 0 (a.add (i*P.cellsOf e)) (P.cellsOf e)=some mj/\∀n,Rd P w n e mj:=by
   intro i hi;have aK:∀n,∃mj,w.cells? 0 (a.add (i*P.cellsOf e)) (P.cellsOf e)=some mj/\Rd P w n e mj:=by
    intro n;have h4:=h (n+1);unfold Rd at h4;rw[hu]at h4;rcases h4 with h4|⟨a',apQ,apR,h4,_,_,h5⟩
    ·simp at h4
    ·simp at h4;obtain⟨rfl,rfl,rfl⟩:=h4;exact h5 i hi
   obtain⟨mj,hc,_⟩:=aK 0;refine⟨mj,hc,λn=>?_⟩;obtain⟨apS,w6,hr⟩:=aK n;rw[hc]at w6;obtain rfl:mj=apS:=by simpa using w6
   exact hr
  obtain⟨C,hC⟩:=Deep.choose_lt key;refine⟨λi j=>(C i).getD j undef,λi hi j hj=>?_⟩;obtain⟨h5,h6⟩:=hC i hi;obtain⟨_,hl,mu⟩:=World.cells?_some h5;have h7:(C i)[j]?=some ((C i).getD j undef):=by
   have dh:j<(C i).length:=by omega
   simp[ij,iK dh]
  refine⟨?_,λu' LN=>?_⟩
  ·have:=mu j hj;rw[h7]at this;have e1:(a.add (i*P.cellsOf e)).add j=a.add (i*P.cellsOf e+j):=by
    unfold ug;split<;>split<;>split<;>simp_all<;>omega
   rw[e1]at this;exact this
  ·have hjt:cellAt P d e j=some u':=by
    have h8:((bh (P.cellsOf e)).map (cellAt P d e))[j]?=some (some u'):=by rw[dr];simp[LN]
    simp[hj]at h8;exact h8
   exact Hh d h6 hjt h7
end
end Sx
namespace Go.Proofs.YtggfpcggakghnaaGreatDoor
section
open Go Go.RowKit Go.WideShapes Sd Sx
theorem apT {W:ae} {a:Option aI} {m c:Nat} (mu:∀n,Rd prog W n 23 [.slice a m c]) (hk:LQ W a m c):∃kb:Nat->Int,RP [] W a m c kb:=by
 obtain⟨h1,h2⟩:=hk;rcases h2 with⟨e1,e2,e3⟩|⟨x,e1,hc,hh⟩
 ·exact⟨λ_=>0,h1,λ_=>⟨e2,e3⟩,λad ha=>by rw[e1]at ha;cases ha⟩
 ·rcases abh Tryz.underlying23 mu (z:=1) (by kernel_rfl) 5 (ts:=[5]) (by kernel_rfl)with h0|⟨a',apQ,apR,h0,_,_,C,hC⟩
  ·rw[e1]at h0;simp at h0
  ·rw[e1]at h0;simp only[Value.slice.injEq,aS]at h0;obtain⟨rfl,rfl,rfl⟩:=h0;refine⟨λj=>match C j 0 with|.int _ n=>n|_=>0,h1,λh=>(by rw[e1]at h;cases h),λad ha=>⟨by simp,λj hj=>?_⟩⟩;rw[e1]at ha;obtain rfl:=ck ha;obtain⟨h3,h4⟩:=hC j (by omega) 0 (by omega);obtain⟨n,h5,_⟩:=abg Tryz.underlying5 (h4 _ rfl);simp only[h5]at h3⊢;simpa using h3
theorem apU {W:ae} {v:ab} (hv:wC prog W .any 0 28 v) (hr:∀n,Rd prog W n 28 v.cells.toList):
 ∃(q:Nat->Int) (ka:Nat->Option aI) (kn kc:Nat->Nat) (kb:Nat->Nat->Int),v=.agg (z_ q ka kn kc)/\(∀i,-9223372036854775808<=q i/\q i<=9223372036854775807)/\∀i,i<4->RP [] W (ka i) (kn i) (kc i) (kb i):=by
 obtain⟨q,ka,kn,kc,rfl,hq,hk⟩:=apP hv;have key:∀i,i<4->∃kb:Nat->Int,RP [] W (ka i) (kn i) (kc i) kb:=by
  intro i hi;have mu:∀n,Rd prog W n 23 [.slice (ka i) (kn i) (kc i)]:=by
   have h5:(z_ q ka kn kc)[5+i]?=some (.slice (ka i) (kn i) (kc i)):=by
    match i,hi with
    |0,_=>rfl
    |1,_=>rfl
    |2,_=>rfl
    |3,_=>rfl
    |i+4,h=>exact absurd h (by omega)
   have ov:cellAt prog 6 28 (5+i)=some 23:=by
    have e:i=0\/i=1\/i=2\/i=3:=by omega
    rcases e with rfl|rfl|rfl|rfl
    ·show cellAt prog 6 28 5=some 23;kernel_rfl
    ·show cellAt prog 6 28 6=some 23;kernel_rfl
    ·show cellAt prog 6 28 7=some 23;kernel_rfl
    ·show cellAt prog 6 28 8=some 23;kernel_rfl
   exact Hh 6 (P:=prog) (w:=W) (t:=28) (cs:=(z_ q ka kn kc).toList) (j:=5+i) hr ov (by simpa using h5)
  exact apT mu (hk i hi)
 obtain⟨kb,hkb⟩:=Deep.choose_lt key;exact⟨q,ka,kn,kc,kb,rfl,hq,hkb⟩
end
section
open Go Go.RowKit Go.BigFrame Go.WideShapes Go.ChangeShapes Sd Sx Vx
section
variable{H:Type} {enc:aD×ab->H} {P:aC} {w:ae} {base:Nat} {spare:Nat->Bool} {held:Bool} {fuel:Nat} {t e:aD} {cs:List ab} {ps:List MemPlace}
theorem apV {zs:List Bool} (ht:P.underlying t=some (.array zs.length e)) (he:P.underlying e=some .bool) (hc:P.cellsOf e=1) (hn:P.cellsOf t=zs.length)
 (h:MB enc P w base spare held fuel t cs=some (.agg (zs.map λz=>.lit (.bool z)),ps)):cs=zs.map A_:=by
 obtain⟨xs,m,rfl,hx,hlen,uH,nE⟩:=DataW.trod_array ht h;simp only[bd,DataW.agg.injEq]at hx;rw[hn]at hlen;apply um;intro i;by_cases hi:i<zs.length
 ·have h1:=nE i hi;rw[hc,Nat.mul_one,iK (by omega)]at h1;obtain⟨z,e1,e2⟩:=DataW.trod_bool he h1;have h3:(zs.map λz=>(DataW.lit (.bool z):DataW H))[i]?=(xs.map (·.1))[i]?:=by rw[hx.1]
  rw[iI,iI,iK hi,iK (by omega),lx,lx]at h3;have e3:=congrArg Prod.fst e2;rw[e3]at h3;simp at h3;rw[aa8 e1,iI,iK hi,lx,h3]
 ·rw[ig (by omega),ig (by simp;omega)]
end
def LR:List Bool:=[false,false,false,false,false,false,false,false,false,false,true,true]
theorem apW {W:ae} (h:laidMetH prog Tf W):∃t,W.heap[0]?=some (.cells #[.bool false,.bool false,.bool false,.bool false,.bool false,.bool false,.bool false,.bool false,.bool false,.bool false,.bool true,.bool true] t (0,0)):=by
 rw[MakeChecks.laidMetH_plain _ _ _ (by kernel_rfl)]at h;obtain⟨ps,⟨g0,t0,LD,f0,p0,q0,hg0,LF,qO,He,⟨g1,t1,LJ,f1,p1,q1,Le,ht1,sS,C5,_,hq⟩,oD⟩,_,mu⟩:=h;obtain rfl:g0=0:=ck (hg0.symm.trans (show prog.globalNamed "sidestick/gate.commands" =some 0 by kernel_rfl));have e1:(prog.globals[0]?).map (·.type)=some 269:=by kernel_rfl
 obtain rfl:t0=269:=ck (LF.symm.trans e1);have nD:LD.toList=LR.map A_:=by
  have FG:MB (λ_=>()) prog W 0 (λ_=>true) false f0 269 LD.toList=some (.agg (LR.map λz=>.lit (.bool z)),p0):=
   He.trans (congrArg (λd=>some (d,p0)) (show(Rows.laid_sidestick_gate_commands:DataW Unit)=.agg (LR.map λz=>.lit (.bool z)) by kernel_rfl))
  exact apV (zs:=LR) (e:=4) (by kernel_rfl) (by kernel_rfl) (by kernel_rfl) (by kernel_rfl) FG
 obtain⟨t,f,aK⟩:=aa9 (show prog.globalNamed "sidestick/gate.commands" =some 0 by kernel_rfl) qO;have Bz:LD=#[.bool false,.bool false,.bool false,.bool false,.bool false,.bool false,.bool false,.bool false,.bool false,.bool false,.bool true,.bool true]:=by
  apply eO;rw[nD];rfl
 obtain⟨c,t',yj⟩:=(mu 0 0 (by
  rw[oD,Bz];have:MemPlace.cell 0 0∈UC ⟨0,0,none⟩ 12:=by
   simp[UC]
  exact mH _ (mH _ this))).1
 rw[aK]at yj;simp only[aS,Obj.cells.injEq]at yj;refine⟨t,?_⟩;rw[aK,Bz,yj.2.2]
theorem abi {W:ae} {v:ab} (h:∀n,Rd prog W n 23 [v]):∃a n c,v=.slice a n c/\im W a n c (da W a):=by
 rcases abh Tryz.underlying23 h (z:=1) (by kernel_rfl) 5 (ts:=[5]) (by kernel_rfl)with rfl|⟨a,len,cap,rfl,hle,_,C,hC⟩
 ·exact⟨none,0,0,rfl,dE _,λ_=>⟨rfl,rfl⟩,λx e=>nomatch e⟩
 ·have hb:∀j,j<len->∃n,C j 0=.int .u8 n/\0<=n/\n<=255:=λj hj=>by
   obtain⟨n,h5,h6⟩:=abg Tryz.underlying5 ((hC j (by omega) 0 (by omega)).2 _ rfl);exact⟨n,h5,by simpa[IntKind.min,IntKind.max,pL,pJ]using h6⟩
  refine⟨some a,len,cap,rfl,ao0 (f:=λj=>match C j 0 with|.int _ n=>n|_=>0) ⟨hle,(λe=>nomatch e),λx e j hj=>?_⟩ λj hj=>?_⟩
  ·obtain rfl:=ck e;obtain⟨n,h5,_⟩:=hb j hj;have h3:=(hC j (by omega) 0 (by omega)).1;simp only[h5]at h3⊢;simpa using h3
  ·obtain⟨n,h5,h6⟩:=hb j hj;simp only[h5];exact h6
theorem apX {W:ae} {v:ab} (hv:wC prog W .any 0 28 v) (hr:∀n,Rd prog W n 28 v.cells.toList):
 ∃(q:Nat->Int) (ka:Nat->Option aI) (kn kc:Nat->Nat),v=.agg (qc ⟨q,λ_=>(0,λ_=>0)⟩ ka kn kc).toArray/\∀j,j<4->im W (ka j) (kn j) (kc j) (da W (ka j)):=by
 obtain⟨q,ka,kn,kc,kb,rfl,hq,hk⟩:=apU hv hr;refine⟨q,ka,kn,kc,rfl,λj hj=>?_⟩;have mu:∀n,Rd prog W n 23 [.slice (ka j) (kn j) (kc j)]:=by
  have h5:(z_ q ka kn kc)[5+j]?=some (.slice (ka j) (kn j) (kc j)):=by
   match j,hj with
   |0,_=>rfl
   |1,_=>rfl
   |2,_=>rfl
   |3,_=>rfl
   |j+4,h=>exact absurd h (by omega)
  have ov:cellAt prog 6 28 (5+j)=some 23:=by
   have e:j=0\/j=1\/j=2\/j=3:=by omega
   rcases e with rfl|rfl|rfl|rfl
   ·show cellAt prog 6 28 5=some 23;kernel_rfl
   ·show cellAt prog 6 28 6=some 23;kernel_rfl
   ·show cellAt prog 6 28 7=some 23;kernel_rfl
   ·show cellAt prog 6 28 8=some 23;kernel_rfl
  exact Hh 6 (P:=prog) (w:=W) (t:=28) (cs:=(z_ q ka kn kc).toList) (j:=5+j) hr ov (by simpa using h5)
 obtain⟨a,n,c,e,h⟩:=abi mu;simp only[Value.slice.injEq]at e;obtain⟨rfl,rfl,rfl⟩:=e;exact h
theorem apY {W:ae} {v:ab} {t:aD} {n:Nat} (hu:prog.underlying t=some (.array n 5)) (Tg:prog.cellTypes prog.depth t=some (kO n 5)) (hn:prog.cellsOf t=n) (hv:wC prog W .any 0 t v):
 ∃cs:Array ab,v=.agg cs/\cs.size=n/\∀(i:Nat) x,cs[i]?=some x->∃z,x=.int .u8 z/\0<=z/\z<=255:=by
 obtain⟨cs,rfl,hs,h⟩:=abd hu rfl Tg (by rw[hn];simp) hv;refine⟨cs,rfl,by simpa using hs,λi x hx=>?_⟩;have hi:i<n:=by
  rcases cE i cs.size with h1|h1
  ·simpa[hs]using h1
  ·rw[DF h1]at hx;cases hx
 exact apO Tryz.underlying5 (h i x 5 hx (by simp[hi]))
theorem apZ {W:ae} {v:ab} (hv:wC prog W .any 0 29 v):∃x0 x1,v=.agg #[.int .u8 x0,.int .u8 x1]/\(0<=x0/\x0<=255)/\0<=x1/\x1<=255:=by
 obtain⟨cs,rfl,hs,h⟩:=apY (n:=2) (by kernel_rfl) (by kernel_rfl) (by kernel_rfl) hv;rcases cs with⟨l⟩
 match l,hs with
 |[a,b],_=>
  obtain⟨z0,rfl,h0⟩:=h 0 a rfl;obtain⟨z1,rfl,h1⟩:=h 1 b rfl;exact⟨z0,z1,rfl,h0,h1⟩
end
section
open Go Go.RowKit Go.BigFrame Sx Vx
variable{fr:Sd.aF->Nat×Sd.aw}
section
variable{G:Type} [Bl G]
theorem abj {C:Ctx G} {f n:Nat} {ids:List Nat} {bl:List VB} {ch0 rest:List G} {R:List ai} {ms:List Nat} {w0 w:ae} (hT:∀f c,C.T f=some c->Sound C.P C.gl f c) (hQ:oE C) (hl:ids.length=bl.length) (S:St ms w0 (lits ids ids bl++av (ch0++rest) R) w)
 (is:List Nat) (hn:is.Nodup) (hg:Gl C.gl (is.map λi=>ids.getD i 0)) (bs:List VB) (hb:is.map (bl[·]?)=bs.map some) (hw:bI 0 bs=true) {args args':List V} (cC:aA ids args=aA (is.map λi=>ids.getD i 0) args') {v0:V} (qO:cz 0 v0=true)
 (cJ:bu C n f args' bs ch0 (bm bs.length λv b c=>v=v0/\b.take bs.length=bs/\∃c2,c=ch0++c2)):aQ C.P f (aA ids args).toArray w λv w'=>v=den [] v0/\St ms w0 (lits ids ids bl++av (ch0++rest) R) w':=by
 have hlen:is.length=bs.length:=by have:=congrArg List.length hb;simpa using this
 have pM:∀(k i:Nat),is[k]?=some i->∃b,bs[k]?=some b/\bl[i]?=some b:=by
  intro k i hk;have:=congrArg (λl=>l[k]?) hb;simp only[iI,hk,lx]at this;cases Hj:bs[k]?with
  |none=>rw[Hj]at this;simp at this
  |some b=>rw[Hj]at this;simp only[lx,aS]at this;exact⟨b,rfl,this⟩
 have dh:∀i∈is,i<bl.length:=by
  intro i hi;obtain⟨k,hk⟩:=yC hi;obtain⟨b,_,h2⟩:=pM k i hk;exact ia h2
 obtain⟨r,hr,hp⟩:=xT (bl:=bl) (ids:=ids) hl hn dh;have gD:=hp bl rfl;have BO:∀(AL:List Nat),(is.map λj=>ay ids (ids.getD j 0) (bl.getD j cX))=lits AL (is.map λi=>ids.getD i 0) bs:=by
  intro AL;clear hr hp gD cC cJ dh hg;induction is generalizing bs with
  |nil=>simp[lits]
  |cons i is ih=>
   cases bs with
   |nil=>simp at hlen
   |cons b bs=>
    simp only[eQ,List.cons.injEq]at hb;simp only[bI,a_]at hw;simp only[eQ,lits,iT hb.1];rw[mn (ids':=AL) hw.1,ih (pF.1 hn).2 bs hb.2 hw.2 (by simpa using hlen) (λk i hk=>pM (k+1) i (by simpa using hk))]
 rw[BO (is.map λi=>ids.getD i 0)]at gD;have S1:St ms w0 (lits (is.map λi=>ids.getD i 0) (is.map λi=>ids.getD i 0) bs++av ch0 ((r.map λj=>ay ids (ids.getD j 0) (bl.getD j cX))++av rest R)) w:=by
  refine S.perm ((gD.append_right _).trans ?_);rw[ma,hY (av rest R) ch0,hY ((r.map λj=>ay ids (ids.getD j 0) (bl.getD j cX))++av rest R) ch0];exact hJ λf=>by simp only[ik];omega
 rw[cC];refine(eD hT hQ n hg (by simpa using hlen) S1 cJ).mono ?_;rintro v w' ⟨x,Hk,bl0,ch',rfl,s8,S0,hK⟩;obtain⟨v2,more,bl',hv,ng,S2,rfl,Th,c2,rfl⟩:=h_ (n0:=bs.length) s8 (by simp[hlen]) S0 hK;have C2:((is.map λi=>ids.getD i 0)++Hk).take bs.length=is.map λi=>ids.getD i 0:=by rw[<-hlen];have:=List.take_left (l₁:=is.map λi=>ids.getD i 0) (l₂:=Hk);simpa using this
 rw[C2]at hv ng S2;refine⟨by rw[hv];have:=fy (ids:=[]) (more:=(is.map λi=>ids.getD i 0)++more) v2 qO;simpa using this,?_⟩;have ni:bl'=bs++bl'.drop bs.length:=by have:=iZ bs.length bl';rw[Th]at this;exact this.symm
 rw[ni,eZ _ _ _ _ (by simpa using hlen),AB (ids':=is.map λi=>ids.getD i 0) (is.map λi=>ids.getD i 0) bs hw]at S2;rw[ma,hY _ ch0,hY _ c2]at S2;have S3:St ms w0 (lits (is.map λi=>ids.getD i 0) (is.map λi=>ids.getD i 0) bs++(av ch0 []++((r.map λj=>ay ids (ids.getD j 0) (bl.getD j cX))++av rest R))) w':=by
  refine S2.sub ?_;rw[bN];refine yE ?_ _;refine List.Sublist.trans ?_ (n8 _ _);exact yE (n8 _ _) _
 refine S3.perm (DO ?_ (gD.symm.append_right _));rw[ma,hY (av rest R) ch0];exact hJ λf=>by simp only[ik];omega
end
theorem ap0 {G:Type} [Bl G] {C:Ctx Empty} {f n:Nat} {ids:List Nat} {bl:List VB} {ch:List G} {R:List ai} {ms:List Nat} {w0 w:ae} (hT:∀f c,C.T f=some c->Sound C.P C.gl f c) (hQ:oE C) (hg:C.gl=cR) (hl:ids.length=bl.length) (S:St ms w0 (lits ids ids bl++av ch R) w)
 (is:List Nat) (hn:is.Nodup) (bs:List VB) (hb:is.map (bl[·]?)=bs.map some) (hw:bI 0 bs=true) {args args':List V} (cC:aA ids args=aA (is.map λi=>ids.getD i 0) args') {v0:V} (qO:cz 0 v0=true)
 (cJ:bu C n f args' bs [] (bm bs.length λv b c=>v=v0/\b.take bs.length=bs/\∃c2,c=[]++c2)):aQ C.P f (aA ids args).toArray w λv w'=>v=den [] v0/\St ms w0 (lits ids ids bl++av ch R) w':=
 abj (G:=Empty) (ch0:=[]) (rest:=[]) (R:=av ch R) hT hQ hl S is hn (λg i h=>by rw[hg]at h;cases h) bs hb hw cC qO cJ
theorem ap1 (C:Sd.aN) (p:Sd.aJ) {m:Sd.bo} (hm:C.take 2 (f2 1 1)=some m) (hr:m.role=1) (ht:Sd.eJ p 1 1=true):∃r e,(gU C (ib p) 1 0 2 (f2 1 1)).bz=[(1,r)]/\(gU C (ib p) 1 0 2 (f2 1 1)).br=[⟨2,1,0,e,0,0⟩]/\(gU C (ib p) 1 0 2 (f2 1 1)).c.t.aE=4/\(gU C (ib p) 1 0 2 (f2 1 1)).c.p=p:=by
 have e:gU C (ib p) 1 0 2 (f2 1 1)=(ib p).jw C 1 2 (f2 1 1):=rfl;rw[e];unfold Sd.aa.jw;rw[hm];dsimp only;have ht':Sd.eJ (ib p).c.p 1 m.role=true:=by rw[hr];exact ht
 rw[if_neg (by rw[ht'];simp),if_neg (by show¬(4294967295:Int)<=0;decide)];exact⟨_,_,rfl,rfl,rfl,rfl⟩
theorem ap2:∃m,aP 2 (f2 1 1)=some m/\m.role=1:=⟨_,rfl,rfl⟩
def Ti:cP (LG fr):=λargs bl ch K=>match args,ch,bl with
 |[],.aX u::rest,⟨w0,⟨tg,(0,0)⟩,c0⟩::⟨w1,⟨tc,(0,0)⟩,c1⟩::bl2=>(w0=false/\c0=(j3 tg).c/\w1=false/\c1=(nU tc).c)/\K (.bool true) (⟨w0,⟨tg,(0,0)⟩,c0⟩::⟨w1,⟨tc,(0,0)⟩,c1⟩::bl2) (.aX u::rest)
 |_,_,_=>False
theorem LS (u:ae) (f:Nat->Int):im u none 0 0 f:=⟨dE _,λ_=>⟨rfl,rfl⟩,λx e=>nomatch e⟩
theorem Hl {tg tc it:Nat} {k:LK} {s:Sd.aa} (h1:k.tg=tg) (h2:k.tc=tc) (h3:s.c.p.queue=k.most):AK tg tc it k s:=by
 subst h1 h2;exact⟨rfl,rfl,rfl,rfl,rfl,h3⟩
theorem ap3 {tg tc:Nat} {u:ae} {K:VK (LG fr)} (hK:∀(g:Gh fr) (fB:List ai),K (.bool true) [j3 tg,nU tc] [.aX u,.core g fB]):shX (aO aP) tg tc u K:=by
 refine⟨⟨LS _ _,LS _ _,LS _ _,LS _ _⟩,λp n d hM=>?_⟩;have hn:∀j,j<4->1<=n j/\n j<=64:=λj hj=>by rw[hM.n j];exact aaN _
 obtain⟨h1,h2⟩:=aa4 (m:=2) (d:=d) hM.I hM.o hn;have Q2:G8 (ie 2 p n d) (n4 n):=⟨h1.code,λj hj=>by
  rw[<-h1.n j hj]
  match j,hj with
  |0,_=>rfl
  |1,_=>rfl
  |2,_=>rfl
  |3,_=>rfl
  |j+4,h=>exact absurd h (by omega),h1.k⟩
 refine⟨Q2,λp2 k F hN v1 v2=>?_⟩;have hC:=aa5 hN (h2 _) (λj hj=>by rw[Dl _ _ _ _ hj];exact hn j hj);refine⟨Hl hN.tg hN.tc hN.most.symm,⟨rfl,rfl,rfl⟩,hN.ln,⟨by rw[vP];exact hC,v1,v2,by decide,λj=>by unfold f2;split<;>decide⟩,?_⟩;rintro s' hs r fn F0 w1 w2 Lc;rw[vP]at hs;obtain⟨m,hm,hr⟩:=ap2;have hp:p2.i 10=2:=by
  rw[hN.eq];show iN (nth (ie 2 p n d) 10)=2;rw[Lx 2 p n d (by decide) rfl,hM.p 10 (by decide) rfl];show bits .and .i64 2 14=2;decide
 have ht:Sd.eJ p2 1 1=true:=by
  unfold Sd.eJ Sd.aJ.BD;have:p2.i (9+Int.toNat 1)=2:=hp;rw[this];decide
 obtain⟨x,e,q1,q2,q3,hpq⟩:=ap1 (aO aP) p2 hm hr ht;rw[<-hs]at q1 q2 q3 hpq;have l1:s'.bz.length=1:=by rw[q1];rfl
 have l2:s'.br.length=1:=by rw[q2];rfl
 have l3:(s'.bz.getD 0 default).1=1:=by rw[q1];rfl
 have l4:(s'.br.getD 0 default).kind=2:=by rw[q2];rfl
 unfold shE;refine aH (λ_=>⟨⟨by decide,by omega⟩,⟨by omega,λj=>rfl⟩,?_⟩) (λh=>absurd h (by simp[l1]));refine aH (λ_=>?_) (λh=>absurd h (by rw[l3];decide));refine aH (λ_=>⟨⟨by decide,by omega⟩,⟨by omega,λj=>rfl⟩,?_⟩) (λh=>absurd h (by simp[l2]));refine aH (λ_=>?_) (λh=>absurd h (by rw[l4];decide));refine⟨Hl hN.tg hN.tc (by show s'.c.p.queue=k.most;rw[hpq];exact hN.most.symm),λx c ty us=>?_⟩;have:((eM s').c.t.aE==4)=true:=by show(s'.c.t.aE==4)=true;rw[q3];rfl
 rw[this];exact hK _ _
theorem ap4 (ht:Body (fr:=fr) 147 dR):Sound prog gS 9 (Ti (fr:=fr)):=by
 intro args ids bl ch R ms w0 w K hg hl S hc;unfold Ti at hc;split at hc
 ·rename_i u rest G_ tg c0 Ha tc c1 bl2;obtain⟨⟨rfl,rfl,rfl,rfl⟩,hK⟩:=hc;have D6:Gl gS ([0,1].map λi=>ids.getD i 0):=by
   intro g i dp;unfold gS at dp;split at dp
   ·obtain rfl:=ck dp;exact⟨by simp,(hg 1 0 rfl).2⟩
   ·obtain rfl:=ck dp;exact⟨by simp,(hg 0 1 rfl).2⟩
   ·cases dp
  have cJ:bu (bQ prog gS (Lz fr (aO aP))) 60 9 [] [j3 tg,nU tc] [.aX u] (bm 2 λv b c=>v=.bool true/\b.take 2=[j3 tg,nU tc]/\∃c2,c=[.aX u]++c2):=by
   rw[apH];exact ap3 λg fB=>⟨rfl,rfl,_,rfl⟩
  refine(abj (C:=bQ prog gS (Lz fr (aO aP))) (aa7 ht).T (aa7 ht).Q hl (ch0:=[.aX u]) (rest:=rest) S [0,1] (by decide) D6 [j3 tg,nU tc] rfl rfl (args:=[]) (args':=[]) rfl rfl cJ).mono ?_;rintro v w' ⟨rfl,S2⟩;exact⟨.bool true,[],_,_,rfl,by simpa using hl,by simpa using S2,hK⟩
 ·exact hc.elim
def Tj (P:aC):(aZ->V)->Op->List VB->List (LG fr)->VK (LG fr)->Prop:=λe op bl ch K=>match op with
 |.buildSlice t 0 ps=>(match ps.toList,P.underlying t with
  |[],some (.slice T)=>(match dX P T,l7 P T with
   |some (z+1),some zc=>cond (ax (bW zc) (z+1)) (∀r:bO,r.T=T->r.z=z+1->r.os=[]->r.n=0->K r.v bl (ch++[.row r])) False
   |_,_=>False)
  |_,_=>False)
 |.call c=>(match c.callee,c.args.toList,c.argTypes.toList with
  |.builtin .append,[s,xs],[t,tx]=>(match P.underlying t,P.underlying tx with
   |some (.slice T),some (.slice _)=>(match rG P T,e xs,ch with
    |some (z,bG),.fS i 0 m cc x,.aX u::.core g fB::.row r::rest=>(match bl[i]?with
     |some ⟨_,_,[.eU z' m' f,.rest _]⟩=>cond (ax z z'&&bA bG 10000000)
      ((e s=r.v/\r.T=T/\r.z=z/\m'=m/\(∀j,(f j).length=z)/\(∀j u,u∈f j->u.oneCell'=true)/\r.n+m<=1000000)/\
        ∀r2:bO,r2.T=r.T->r2.z=r.z->r2.os=r.os++(bh m).flatMap f->r2.n=r.n+m->K r2.v bl (.aX u::.core g fB::.row r2::rest)) False
     |_=>False)
    |_,_,_=>False)
   |_,_=>False)
  |_,_,_=>False)
 |_=>False
theorem abk {z:Nat} {f:Nat->List ab} (h:∀j,(f j).length=z):∀m,((bh m).flatMap f).length=m*z
 |0=>by simp
 |m+1=>by rw[Ba,DM,fi,abk h m];simp[h,lU]
theorem LU (u:ae) (g:Gh fr) (fB:List ai) (r:bO) (rest:List (LG fr)) (R:List ai):av (LG.aX u::LG.core g fB::LG.row r::rest) R=(dv u++(g.F.B++fB))++(r.bl++av rest R):=by
 show dv u++((g.F.B++fB)++(r.bl++av rest R))=_;simp only[bN]
theorem ap5 {P:aC} {gl:Nat->Option Nat}:fC P gl (Tj (fr:=fr) P):=by
 intro e op ids bl ch R ms w0 w K ρ o hg hl S aW ho h;unfold Tj at h;split at h
 ·rename_i t ps;split at h
  ·rename_i T oD hu;split at h
   ·rename_i z zc hz NC;cases hq:ax (bW zc) (z+1)with
    |false=>rw[hq]at h;exact h.elim
    |true=>
     rw[hq]at h;simp only[cond_true]at h;have bE:=Vz (P:=P) (ids:=ids) (w:=w) (len:=0) (ps:=[]) (c:=[]) hu hz NC (b9 hq) (by simp) rfl
     let r:bO:=⟨T,z+1,[],some ⟨w.heap.size,0,none⟩,0,0,[⟨w.heap.size,true,.cells #[] T (0,0)⟩],by simp,dE _,.inr ⟨w.heap.size,[],rfl,rfl,by simp⟩⟩
     have hn:=S.new (Ch.alloc [] w (.cells #[] T)) (dE _) (mC w _);refine⟨r.v,[],bl,ch++[.row r],w.alloc (.cells #[] T),.inl ?_,by simpa using hl,?_,h r rfl rfl rfl rfl⟩
     ·unfold execOp;have hp0:ps=#[]:=by apply eO;simpa using oD
      subst hp0;simp only[ho];rw[bj];have h2:(Uu t 0 #[]).run P w=.ok (.slice (some ⟨w.heap.size,0,none⟩) 0 0) (w.alloc (.cells #[] T)):=bE;have h3:((#[]:Array (Nat×aZ)).map λ(x:Nat×aZ)=>match x with|(i,x)=>(i,ρ x))=#[]:=by simp
      rw[h3,h2];rfl
     ·rw[cI,ma];have e2:av [LG.row (fr:=fr) r] R=⟨w.heap.size,true,.cells #[] T (0,0)⟩::R:=rfl;rw[e2,hY (_::R) ch];rw[hY R ch]at hn;refine hn.perm ?_;exact hJ λf=>by simp only[ik,yL];omega
   ·exact h.elim
  ·exact h.elim
 ·rename_i c;split at h
  ·rename_i s xs t tx eb cC dr;split at h
   ·rename_i T T' ht fH;split at h
    ·rename_i z bG i m cc x u g fB r rest bS fk;split at h
     ·rename_i wr ty z' m' f us hb;cases hq:ax z z'&&bA bG 10000000 with
      |false=>rw[hq]at h;exact h.elim
      |true=>
       rw[hq]at h;simp only[cond_true]at h;simp only[a_]at hq;obtain⟨q1,q4⟩:=hq;obtain rfl:=b9 q1;have q4:=dz q4;obtain⟨⟨hs,rfl,rfl,rfl,hf,ho1,hn⟩,hK⟩:=h;have hi:(P.info? r.T).map (λi=>(i.zero.map (·.cells.size),i.size,i.bytes))=some (some r.z,r.z,bG):=by
        unfold rG at bS;split at bS
        ·rename_i inf rH;split at bS
         ·rename_i v hv;cases oF:ax v.cells.size inf.size with
          |false=>rw[oF]at bS;simp at bS
          |true=>
           rw[oF]at bS;simp only[cond_true,aS,bd]at bS;have:=b9 oF;simp[rH,hv,this,bS.1,bS.2]
         ·cases bS
        ·cases bS
       have aK:=(fp hl S hb).2;have hlen:=abk hf m';have u5:∀u∈(bh m').flatMap f,u.oneCell'=true:=λu hu=>by
        obtain⟨j,_,hj⟩:=List.mem_flatMap.1 hu;exact ho1 j u hj
       have eY:Src P r.z tx (.slice (bif ax m' 0 then x else some ⟨ids.getD i 0,0,none⟩) m' cc) m' ((bh m').flatMap f) w:=by
        by_cases h0:m'=0
        ·subst h0;cases x with
         |none=>exact Src.ofNil w fH cc
         |some a=>exact qR w fH a 0 cc [] (by simp) (λj u hj=>by simp at hj) (λu hu=>by simp at hu)
        ·have uP:ax m' 0=false:=by
          cases uP:ax m' 0 with
          |false=>rfl
          |true=>exact absurd (b9 uP) h0
         rw[uP];refine qR w fH ⟨ids.getD i 0,0,none⟩ m' cc _ hlen (λj u hj=>?_) u5;rw[hU,cell_of aK];simp only[ah,cl,cI];have AM:j<((bh m').flatMap f).length:=by
          rcases cE j ((bh m').flatMap f).length with h|h
          ·exact h
          ·rw[ig h]at hj;cases hj
         rw[iX,eh,gI AM];exact hj
       have e1:lits ids ids bl++av (LG.aX u::LG.core g fB::LG.row r::rest) R=(lits ids ids bl++(dv u++(g.F.B++fB)))++(r.bl++av rest R):=by
        simp only[LU,bN]
       rw[e1]at S;have lJ:(r.n+m')*bG<=140737488355328:=iH (Nat.mul_le_mul hn q4) (by decide);obtain⟨v,w',bE,hc,x',c',bl',rfl,fl,me⟩:=Bp (P:=P) (ty:=o.type) r.h (λy hy=>S.at' (by simp[hy])) bG eY ht hi lJ (iH hn (by decide));have S2:=S.sQ r.h.wr hc (λy hy=>(me y hy).1) (λy hy=>(me y hy).2) fl.pw;refine⟨_,[],bl,_,w',.inl ?_,by simpa using hl,?_,hK ⟨r.T,r.z,_,x',r.n+m',c',bl',fl⟩ rfl rfl rfl rfl⟩
       ·obtain⟨l9,ar,gA⟩:=c;simp only at eb cC dr;have e2:ar=#[s,xs]:=by rw[<-cC]
        have e3:gA=#[t,tx]:=by rw[<-dr]
        subst eb e2 e3;have:=iR (P:=P) (ρ:=ρ) (o:=o) ho (sv:=.slice r.x r.n r.c) (xv:=.slice (bif ax m' 0 then x else some ⟨ids.getD i 0,0,none⟩) m' cc) (by rw[aW,hs];simp only[bO.v,den]) (by rw[aW,fk];simp only[den]) bE;simpa[den,bO.v]using this
       ·rw[cI];have e4:lits ids ids bl++av (LG.aX u::LG.core g fB::LG.row ⟨r.T,r.z,r.os++(bh m').flatMap f,x',r.n+m',c',bl',fl⟩::rest) R=(lits ids ids bl++(dv u++(g.F.B++fB)))++(bl'++av rest R):=by
         simp only[LU,bN]
        rw[e4];exact S2
     ·exact h.elim
    ·exact h.elim
   ·exact h.elim
  ·exact h.elim
 ·exact h.elim
structure SiD where
 h:Int
 e:Int
 o:Int
 m:Int
 mb:Sd.Label
 pt:Sd.eu
 b0:Bool
 b1:Bool
 b2:Bool
 b3:Bool
 b4:Bool
 r0:Int
 r1:Int
 r2:Int
 r3:Int
 r4:Int
 bad:Bool
section
variable(x:SiD) (n c c':Nat) (y y':Option aI) (q:Nat->Int) (a b:Bool) (ty ty':BT) (u u':List ab) (K:VK Empty)
end
def Hm:cP (LG fr):=λargs bl ch K=>match args,ch with
 |[.ptr ic 0],.aX u::.core g fB::rest=>(match bl[ic]?with
  |some ⟨true,⟨105,(0,0)⟩,cc⟩=>(match Ae cc with
   |some x=>(match bl[x.it]?with
    |some ⟨true,⟨157,(0,0)⟩,tc⟩=>(match rS tc with
     |some y=>cond (bI bl.length bl&&(cj 1 ic&&(cj 1 x.it&&!(ax ic x.it))))
      ((bl[0]?=some (bU g.d.k)/\bl[1]?=some (g_ g.d.k)/\x=lg g.d.k x.it (eV x y g.d g.dx g.sx)/\y.b=x.p.b_/\y.m=x.p.eS/\x.p.queue=g.d.k.most)/\
        ∀(z:Option aI) (c ty:Nat) (us:List ab),K (gG bl.length (.agg (tX (eV x y g.d g.dx g.sx) (.fS 0 0 g.d.q.length c z)))) (bl++[AE ty 1 g.d.q.length (ua g.d.q) us]) (.aX u::.core g fB::rest)) False
     |none=>False)
    |_=>False)
   |none=>False)
  |_=>False)
 |_,_=>False
theorem abl {bl:List VB} {i:Nat} {b:VB} (h:bl[i]?=some b):bl.set i b=bl:=by
 apply um;intro j;rw[List.getElem?_set];split
 ·rename_i hj;subst hj;rw[h];simp[ia h]
 ·rfl
theorem ap6:gO (Hm (fr:=fr)):=by
 intro args bl ch K hc;unfold Hm at hc⊢;split at hc
 ·split at hc
  ·split at hc
   ·split at hc
    ·split at hc
     ·rename_i y hy;revert hc;cases bI bl.length bl&&_ with
      |false=>exact λh=>h.elim
      |true=>exact λhc=>⟨hc.1,λz c ty us=>⟨hc.2 z c ty us,_,rfl⟩⟩
     ·exact hc.elim
    ·exact hc.elim
   ·exact hc.elim
  ·exact hc.elim
 ·exact hc.elim
end
section
open Go Go.RowKit Go.BigFrame Sx Vx
def u8V:V->Int
 |.int .u8 n=>n
 |_=>0
def AN:List V->Nat
 |.int .u8 _::l=>AN l+1
 |_=>0
def lr (l:List V) (o:Nat):Nat->Int:=λj=>u8V (nth l (o+j))
theorem Tk (ids:List Nat):∀(l:List V) (j:Nat),j<AN l->(ah ids l)[j]?=some (.int .u8 (u8V (nth l j)))
 |[],j,h=>absurd h (Nat.not_lt_zero _)
 |v::l,j,h=>by
  unfold AN at h;split at h
  ·rename_i n l' e;cases e;cases j with
   |zero=>simp only[ah,cl,den,jx,jy,je,fb,fc];rfl
   |succ j=>
    simp only[ah,cl,den,jx,jy,je,fb,fc,List.getElem?_cons_succ];exact Tk ids l j (by omega)
  ·exact absurd h (Nat.not_lt_zero _)
section
variable{G:Type} [Bl G]
def Dm (P:aC):(aZ->V)->Op->List VB->List G->VK G->Prop:=λe op bl ch K=>match op with
 |.call c=>(match c.callee,c.args.toList,c.argTypes.toList with
  |.builtin .append,[s,xs],[t,tx]=>(match P.underlying t,P.underlying tx with
   |some (.slice 5),some (.slice _)=>(match e s,e xs with
    |.sl i 0 0 0,.sl j o m c=>(match bl[j]?with
     |some b=>cond (bI bl.length bl&&bA (o+m) (AN b.c)) ((0<m/\m<=c/\m<=1000000)/\∀d:Nat,K (.sl bl.length 0 m (m+d)) (bl++[eg m d (lr b.c o)]) ch) False
     |none=>False)
    |_,_=>False)
   |_,_=>False)
  |_,_,_=>False)
 |_=>False
theorem LV {gl:Nat->Option Nat}:fC (G:=G) prog gl (Dm prog):=by
 intro e op ids bl ch R ms w0 w K ρ o hg hl S aW ho h;unfold Dm at h;split at h
 ·rename_i c;split at h
  ·rename_i s xs t tx eb cC dr;split at h
   ·rename_i T ht fH;split at h
    ·rename_i i j q m c' fQ fk;split at h
     ·rename_i b hb;cases hq:bI bl.length bl&&bA (q+m) (AN b.c)with
      |false=>rw[hq]at h;exact h.elim
      |true=>
       rw[hq]at h;obtain⟨⟨m0,ap7,hm⟩,h1⟩:=h;rw[a_]at hq;obtain⟨hq,hn⟩:=hq;have hn:=dz hn;have aK:=(fp hl S hb).2;have hk:dD w (some ⟨ids.getD j 0,q,none⟩) m c' (lr b.c q):=⟨hm,ap7,(λe=>nomatch e),λx e k hkm=>by
        obtain rfl:=ck e;rw[hU,cell_of aK,iX];exact Tk ids b.c (q+k) (by omega)⟩
       have eY:=Ir (P:=prog) hk fH;obtain⟨l9,ar,gA⟩:=c;simp only at eb cC dr;have e2:ar=#[s,xs]:=by rw[<-cC]
       have e3:gA=#[t,tx]:=by rw[<-dr]
       subst eb e2 e3;have gx:ρ s=.slice (some ⟨ids.getD i 0,0,none⟩) 0 0:=by rw[aW,fQ];simp only[den]
       have mV:ρ xs=.slice (some ⟨ids.getD j 0,q,none⟩) m c':=by rw[aW,fk];simp only[den]
       obtain⟨c2,w2,bE,bT,hle,AF⟩:=Lf (g:=lr b.c q) (x:=some ⟨ids.getD j 0,q,none⟩) (ty:=o.type) (t:=t) eY ht m0 (by omega) ⟨ids.getD i 0,0,none⟩;have h2:=h1 (c2-m);rw[show m+(c2-m)=c2 by omega]at h2;refine⟨_,[w.heap.size],_,_,w2,.inl ?_,by simp[hl],?_,h2⟩
       ·rw[iR (P:=prog) (ρ:=ρ) (o:=o) ho gx mV bE];simp only[den];rw[<-hl,j7]
       ·have e:ay (ids++[w.heap.size]) w.heap.size (eg m (c2-m) (lr b.c q))=⟨w.heap.size,true,.cells (bw m (lr b.c q) c2) 5 (0,0)⟩:=by
         unfold ay;rw[yg,show m+(c2-m)=c2 by omega];rfl
        rw[eZ _ _ _ _ hl,e_ _ _ (by rw[hl];exact hq)];simp only[lits,e];refine(S.new bT (dE _) AF).perm ?_;rw[bN];exact jH.symm
     ·exact h.elim
    ·exact h.elim
   ·exact h.elim
  ·exact h.elim
 ·exact h.elim
end
def Hn (cr:(Nat->Int)->Nat->Int):QF:=⟨119,λargs bl=>match args with
 |[.sl i o n c]=>(match bl[i]?with
  |some b=>bif bA (o+n) (AN b.c)&&bA n 1000000 then some (True,.int .u16 (cr (lr b.c o) n))else none
  |none=>none)
 |_=>none⟩
theorem ap_ (gl:Nat->Option Nat):(Hn jh).Ok prog gl:=by
 intro args bl p_ v_ h hp ids w _ hm;unfold Hn at h;dsimp only at h;split at h
 ·rename_i i o n c;split at h
  ·rename_i b hb;cases hq:bA (o+n) (AN b.c)&&bA n 1000000 with
   |false=>rw[hq]at h;cases h
   |true=>
    rw[hq]at h;simp only[cond_true,aS,bd]at h;obtain⟨rfl,rfl⟩:=h;rw[a_]at hq;have h1:=dz hq.1;have aK:=hm.2 i _ hb;refine Yn (ids.getD i 0) o n c (lr b.c o) (dz hq.2) w ?_;intro j hj;rw[cell_of aK,iX];exact Tk ids b.c (o+j) (by omega)
  ·cases h
 ·cases h
def LW (n:Nat) (f:Nat->Int) (hi lo:Int):List Int:=[165,1,(n:Int)]++((bh n).map f++[hi,lo])
def nq (n:Nat) (f:Nat->Int) (hi lo:Int) (us:List ab):List V:=(LW n f hi lo).map (λx=>V.int .u8 x)++[.rest us]
def yk (n:Nat) (f:Nat->Int) (hi lo:Int) (us:List ab):List VB:=[⟨false,⟨5,(0,0)⟩,nq n f hi lo us⟩]
def AO (cr:(Nat->Int)->Nat->Int) (n:Nat) (f:Nat->Int) (hi lo:Int) (us:List ab) (d:Nat) (K:VK Empty):Prop:=True/\cond (cr (lr (nq n f hi lo us) 1) (n+2)!=bits .or .u16 (u16.wrap (u16.wrap hi*2^8)) (u16.wrap lo))
 (K (.agg [.int .i64 3,.int .i64 1,.int .i64 12,.raw (.slice none 0 0)]) (yk n f hi lo us) [])
 ((0<n/\n<=d+(n+5)-3/\n<=1000000)/\∀e:Nat,K (.agg [.int .i64 2,.int .i64 ((n+5:Nat):Int),.int .i64 0,.sl 1 0 n (n+e)]) (yk n f hi lo us++[eg n e (lr (nq n f hi lo us) 3)]) [])
def AP (cr:(Nat->Int)->Nat->Int) (n:Nat) (f:Nat->Int) (hi lo:Int) (us:List ab) (d:Nat) (K:VK Empty):Prop:=bu (fE prog cR (qL Empty [Hn cr]) (Dm prog) LV) 60 48 [.sl 0 0 (n+5) (d+(n+5))] (yk n f hi lo us) [] (bm 1 K)
section
variable(cr:(Nat->Int)->Nat->Int) (f:Nat->Int) (hi lo:Int) (us:List ab) (d:Nat) (K:VK Empty)
theorem aqa:AP cr 3 f hi lo us d K=AO cr 3 f hi lo us d K:=by kernel_rfl
theorem aqb:AP cr 4 f hi lo us d K=AO cr 4 f hi lo us d K:=by kernel_rfl
theorem aqc:AP cr 5 f hi lo us d K=AO cr 5 f hi lo us d K:=by kernel_rfl
theorem aqd:AP cr 6 f hi lo us d K=AO cr 6 f hi lo us d K:=by kernel_rfl
theorem aqe:AP cr 9 f hi lo us d K=AO cr 9 f hi lo us d K:=by kernel_rfl
end
variable{fr:Sd.aF->Nat×Sd.aw}
structure LwS (fr:Sd.aF->Nat×Sd.aw) (tg tc:aD) (u:ae) (x:j1) (n:Nat) where
 p:Nat->Int
 m:Nat->Nat
 d:Nat->Nat
 hM:Made x p m
 p2:Sd.aJ
 k:LK
 hN:G9 (ie 4 p m d) (kM x u) tg tc p2 k
 j:Nat
 hj:j<=n
 s:Sd.aa
 F:a9 fr (aY k s)
 fB:List ai
 hC:ew k s
 hp:s.c.p=p2
 v1:cV=F.vs
 v2:cV=F.vr
def preB (tg tc:aD) (ops pb:VB) (ky:List VB) (rB:VB):List VB:=j3 tg::nU tc::ops::pb::(ky++[rB])
section
variable(C:Sd.aN) (tg tc:aD) (ty:BT) (u:ae) (x:j1) (f:Nat->Nat×Sd.aw) (o n c:Nat) (a:Option aI) (os:Nat->De) (pre post:List ab)
end
section
variable(C:Sd.aN) (tg tc:aD) (ty:BT) (u:ae) (x:j1) (f:Nat->Nat×Sd.aw) (o n c:Nat) (a:Option aI) (os:Nat->De) (pre post:List ab) (K:V->Prop)
end
end
section
open Go Go.RowKit Go.BigFrame Sx Vx
def AR:Nat->Sd.aw:=λ_ _=>0
variable{fr:Sd.aF->Nat×Sd.aw}
section
variable{tg tc:aD} {ty:BT} {u:ae} {x:j1} {f:Nat->Nat×Sd.aw} {o n c:Nat} {a:Option aI} {os:Nat->De} {pre post:List ab} {K:V->Prop}
theorem LwS.Hl (y:LwS fr tg tc u x n) {s:Sd.aa} (h:s.c.p=y.p2):AK tg tc 10 y.k s:=Go.Proofs.YtggfpcggakghnaaGreatDoor.Hl y.hN.tg y.hN.tc (by rw[h];exact y.hN.most.symm)
end
end
section
open Go Go.RowKit Go.BigFrame Sx Vx
def kN (w:Nat) (s:Int):List V:=(bh w).map λj=>.int .u8 (aU w (u64.wrap s) j)
def fkX (n m c:Nat) (ac cells:List V) (X:Nat->List ab->Prop):Prop:=
 (n<=c/\bW ac=c*1)/\(∀(c':Nat) (u:List ab),n+m<=c'->bW (cells++[.rest u])=c'*1->X c' u)/\(∀(c':Nat) (u:List ab),n+m<=c'->bW (cells++[.rest u])=c'*1->X c' u)
def Dn (F:Prop) (E:Nat->Nat->List V->List ab->Prop):List (Int×Int×Int×Nat)->Nat->Nat->List V->List V->List ab->Prop
 |[],n,c,ac,cells,u=>E n c cells u
 |(s,lo,hi,w)::fs,n,c,ac,cells,u=>cond (decide (s<lo)) F (cond (decide (s>hi)) F (cond (iM (u64.wrap s) (cU (2^(8*w)))!=0) F
  (fkX n w c ac (cells++kN w s) λc' u'=>Dn F E fs (n+w) c' (cells++kN w s++[.rest u']) (cells++kN w s) u')))
def nV (k a b c d e:Int) (nc:Nat->Int):V:=.agg [.int .i64 k,.int .i64 a,.int .i64 b,.int .i64 c,.int .i64 d,.int .i64 e,.bH .u8 8 nc]
def wg (x:V) (K:VK Empty):Prop:=bu (fE prog (λ_=>none) ([]:List (bK Empty)) (B_ prog) EW) 60 190 [x] [] [] (bm 0 K)
def wk (k:Int) (fs:List (Int×Int×Int×Nat)) (K:VK Empty):Prop:=Dn (K (.ao [.raw (.slice none 0 0),.int .i64 1]) [] []) (λn c cells u=>K (.ao [.sl 0 0 n c,.int .i64 0]) [⟨true,⟨5,(0,0)⟩,cells++[.rest u]⟩] []) fs 1 1 [.int .u8 k] [.int .u8 k] []
theorem aqf (s:Int) (K:VK Empty):wg (nV 131 s 0 0 0 0 λ_=>0) K=wk 131 [(s,0,4294967295,4)] K:=by kernel_rfl
theorem aqg (a b c:Int) (K:VK Empty):wg (nV 130 0 a b c 0 λ_=>0) K=wk 130 [(a,0,3,1),(b,0,4,1),(c,0,65535,2)] K:=by kernel_rfl
theorem aqh (s c:Int) (K:VK Empty):wg (nV 132 s 0 0 0 c λ_=>0) K=wk 132 [(s,0,4294967295,4),(c,0,255,1)] K:=by kernel_rfl
theorem aqi (e:Int) (K:VK Empty):wg (nV 133 0 0 0 e 0 λ_=>0) K=wk 133 [(e,0,65535,2)] K:=by kernel_rfl
theorem aqj (w e:Int) (K:VK Empty):wg (nV 134 0 0 w e 0 λ_=>0) K=wk 134 [(w,0,4,1),(e,0,65535,2)] K:=by kernel_rfl
theorem aqk (w e:Int) (K:VK Empty):wg (nV 135 0 0 w e 0 λ_=>0) K=wk 135 [(w,0,4,1),(e,0,65535,2)] K:=by kernel_rfl
theorem aql (w c:Int) (K:VK Empty):wg (nV 136 0 0 w 0 c λ_=>0) K=wk 136 [(w,0,4,1),(c,0,255,1)] K:=by kernel_rfl
theorem aqm (a b:List V):bW (a++b)=bW a+bW b:=by
 induction a with
 |nil=>simp[bW]
 |cons v a ih=>simp only[fb,bW,ih];omega
theorem aqn (w:Nat) (s:Int):bW (kN w s)=w:=by
 have h:∀l:List Nat,bW (l.map λj=>V.int .u8 (aU w (u64.wrap s) j))=l.length:=by
  intro l;induction l with
  |nil=>rfl
  |cons j l ih=>simp only[eQ,bW,ih,ly];show 1+_=_;omega
 unfold kN;rw[h,Mx]
theorem abm {F:Prop} {E:Nat->Nat->List V->List ab->Prop}:∀(fs:List (Int×Int×Int×Nat)) (n c:Nat) (ac cells:List V) (u:List ab),(∀f∈fs,f.2.1<=f.1/\f.1<=f.2.2.1/\0<=f.1/\f.1<18446744073709551616/\f.1<cU (2^(8*f.2.2.2)))->n<=c->bW ac=c->n=bW cells->bW (cells++[.rest u])=c->
 (∀c' u',n+(fs.map λf=>f.2.2.2).sum<=c'->bW (cells++(fs.map λf=>kN f.2.2.2 f.1).flatten++[.rest u'])=c'->E (n+(fs.map λf=>f.2.2.2).sum) c' (cells++(fs.map λf=>kN f.2.2.2 f.1).flatten) u')->Dn F E fs n c ac cells u
 |[],n,c,ac,cells,u,_,h1,h2,h3,h4,hE=>by
  have:=hE c u (by simpa using h1) (by simpa using h4);simpa[Dn]using this
 |(s,lo,hi,w)::fs,n,c,ac,cells,u,hf,h1,h2,h3,h4,hE=>by
  obtain⟨f1,f2,f3,f5,f4⟩:=hf _ (Bb ..);simp only at f1 f2 f3 f4 f5;have step:∀(c':Nat) (u':List ab),n+w<=c'->bW (cells++kN w s++[.rest u'])=c'*1->Dn F E fs (n+w) c' (cells++kN w s++[.rest u']) (cells++kN w s) u':=by
   intro c' u' g1 g2;rw[Nat.mul_one]at g2;refine abm fs (n+w) c' _ _ u' (λf hm=>hf f (wy _ hm)) g1 g2 ?_ g2 ?_
   ·rw[aqm,aqn,h3]
   ·intro c2 u2 g3 g4;have:=hE c2 u2 (by simpa[yF]using g3) (by simpa[bN]using g4);simpa[yF,bN]using this
  unfold Dn;refine aH (λh=>absurd (by simpa using h:s<lo) (by omega)) λ_=>aH (λh=>absurd (by simpa using h:hi<s) (by omega)) λ_=>aH (λh=>?_) λ_=>⟨⟨h1,by rw[h2,Nat.mul_one]⟩,step,step⟩;exfalso;have e:iM (u64.wrap s) (cU (2^(8*w)))=0:=by
   have hd:∀d:Int,0<=d->s<d->iM s d=0:=λd h0 h=>by rw[sL _ h0];exact Int.ediv_eq_zero_of_lt f3 h
   rw[qW,HP f3 (by omega)];exact hd _ (yI _) f4
  rw[e]at h;simp at h
theorem aqo {k:Int} {fs:List (Int×Int×Int×Nat)} {K:VK Empty} (hf:∀f∈fs,f.2.1<=f.1/\f.1<=f.2.2.1/\0<=f.1/\f.1<18446744073709551616/\f.1<cU (2^(8*f.2.2.2)))
 (hK:∀c' u',1+(fs.map λf=>f.2.2.2).sum<=c'->bW ([.int .u8 k]++(fs.map λf=>kN f.2.2.2 f.1).flatten++[.rest u'])=c'->K (.ao [.sl 0 0 (1+(fs.map λf=>f.2.2.2).sum) c',.int .i64 0]) [⟨true,⟨5,(0,0)⟩,([.int .u8 k]++(fs.map λf=>kN f.2.2.2 f.1).flatten)++[.rest u']⟩] []):wk k fs K:=
 abm fs 1 1 _ _ [] hf (dE _) rfl rfl rfl hK
theorem AS {x:V} {k:Int} {fs:List (Int×Int×Int×Nat)} {n:Nat} (e:∀K,wg x K=wk k fs K) (hf:∀f∈fs,f.2.1<=f.1/\f.1<=f.2.2.1/\0<=f.1/\f.1<18446744073709551616/\f.1<cU (2^(8*f.2.2.2))) (hn:1+(fs.map λf=>f.2.2.2).sum=n) {g:Nat->Int}
 (hg:∀j,j<n->∀u:List ab,(ah [] (([.int .u8 k]++(fs.map λf=>kN f.2.2.2 f.1).flatten)++[.rest u]))[j]?=some (.int .u8 (g j))) (hw:ba 0 (([.int .u8 k]++(fs.map λf=>kN f.2.2.2 f.1).flatten))=true) (w:ae):
 aQ prog 190 (aA [] [x]).toArray w λv w1=>∃b c1,v=.tuple #[.slice (some ⟨b,0,none⟩) n c1,.int .i64 0]/\n<=c1/\w.heap.size<=b/\bV w1 b 0 n g/\Ch [] w w1:=by
 have h:wg x λv b _=>∃c u,v=.ao [.sl 0 0 n c,.int .i64 0]/\b=[⟨true,⟨5,(0,0)⟩,([.int .u8 k]++(fs.map λf=>kN f.2.2.2 f.1).flatten)++[.rest u]⟩]/\n<=c:=by
  rw[e];exact aqo hf λc u h1 h2=>⟨c,u,by rw[hn],rfl,by omega⟩
 refine(eD (aG.nil (G:=Empty) (P:=prog) (gl:=λ_=>none)).T (aG.nil (G:=Empty) (P:=prog) (gl:=λ_=>none)).Q 60 (C:=fE prog (λ_=>none) ([]:List (bK Empty)) (B_ prog) EW) (ids:=[]) (bl:=[]) (ch:=[]) (R:=[]) Gl.none rfl (St.nil [] w) h).mono ?_;rintro v w' ⟨y,more,bl',ch',rfl,h1,S',hK⟩;obtain⟨v2,cD,bl2,e2,dw,S2,c,u,rfl,rfl,hc⟩:=h_ (n0:=0) h1 (by simp) S' hK
 match cD,dw,S2,e2 with
 |[b],_,S2,e2=>
  have S3:St [] w ([ay [b] b ⟨true,⟨5,(0,0)⟩,([.int .u8 k]++(fs.map λf=>kN f.2.2.2 f.1).flatten)++[.rest u]⟩]) w':=match ch',S2 with
   |[],S2=>S2
   |e::_,_=>nomatch e
  refine⟨b,c,e2,hc,(S3.own 0 _ rfl rfl).resolve_left (by simp),?_,S3.ch⟩;intro j hj;have aK:w'.heap[b]?=some (.cells (ah [b] (([.int .u8 k]++(fs.map λf=>kN f.2.2.2 f.1).flatten)++[.rest u])).toArray 5 (0,0)):=S3.at_ 0 _ rfl;have hd:=hg j hj u;have e3:ah [b] (([.int .u8 k]++(fs.map λf=>kN f.2.2.2 f.1).flatten)++[.rest u])=ah [] (([.int .u8 k]++(fs.map λf=>kN f.2.2.2 f.1).flatten)++[.rest u]):=by
   have gen:∀L:List V,ba 0 L=true->ah [b] (L++[.rest u])=ah [] (L++[.rest u]):=λL hL=>by
    rw[iq,iq];have q:=jO (ids:=[]) (more:=[b]) L hL;simp only[fc]at q;rw[q];rfl
   exact gen _ hw
  rw[eh,cell_of aK,e3];simpa using hd
 |[],h,_,_=>simp at h
 |_::_::_,h,_,_=>simp at h
theorem aqp (wh co:Int) (nr:0<=wh/\wh<=4) (AT:0<=co/\co<=255) (w:ae):aQ prog 190 (aA [] [nV 136 0 0 wh 0 co λ_=>0]).toArray w λv w1=>∃b c1,v=.tuple #[.slice (some ⟨b,0,none⟩) 3 c1,.int .i64 0]/\3<=c1/\w.heap.size<=b/\bV w1 b 0 3 (cZ [136,aU 1 (u64.wrap wh) 0,aU 1 (u64.wrap co) 0])/\Ch [] w w1:=
 AS (n:=3) (λK=>aql wh co K) (λf hm=>by
  rcases bY.1 hm with rfl|hm
  ·exact⟨nr.1,nr.2,nr.1,by omega,by show wh<256;omega⟩
  rcases bY.1 hm with rfl|hm
  ·exact⟨AT.1,AT.2,AT.1,by omega,by show co<256;omega⟩
  cases hm) rfl (λj hj u=>by
  rcases(by omega:j=0\/j=1\/j=2)with rfl|rfl|rfl<;>rfl) rfl w
theorem aqq (sq:Int) (AU:0<=sq/\sq<=4294967295) (w:ae):aQ prog 190 (aA [] [nV 131 sq 0 0 0 0 λ_=>0]).toArray w λv w1=>∃b c1,v=.tuple #[.slice (some ⟨b,0,none⟩) 5 c1,.int .i64 0]/\5<=c1/\w.heap.size<=b/\bV w1 b 0 5 (cZ [131,aU 4 (u64.wrap sq) 0,aU 4 (u64.wrap sq) 1,aU 4 (u64.wrap sq) 2,aU 4 (u64.wrap sq) 3])/\Ch [] w w1:=
 AS (n:=5) (λK=>aqf sq K) (λf hm=>by
  rcases bY.1 hm with rfl|hm
  ·exact⟨AU.1,AU.2,AU.1,by omega,by show sq<4294967296;omega⟩
  cases hm) rfl (λj hj u=>by
  rcases(by omega:j=0\/j=1\/j=2\/j=3\/j=4)with rfl|rfl|rfl|rfl|rfl<;>rfl) rfl w
theorem aqr (ro wh ep:Int) (Hb:0<=ro/\ro<=3) (nr:0<=wh/\wh<=4) (nt:0<=ep/\ep<=65535) (w:ae):aQ prog 190 (aA [] [nV 130 0 ro wh ep 0 λ_=>0]).toArray w λv w1=>∃b c1,v=.tuple #[.slice (some ⟨b,0,none⟩) 5 c1,.int .i64 0]/\5<=c1/\w.heap.size<=b/\bV w1 b 0 5 (cZ [130,aU 1 (u64.wrap ro) 0,aU 1 (u64.wrap wh) 0,aU 2 (u64.wrap ep) 0,aU 2 (u64.wrap ep) 1])/\Ch [] w w1:=
 AS (n:=5) (λK=>aqg ro wh ep K) (λf hm=>by
  rcases bY.1 hm with rfl|hm
  ·exact⟨Hb.1,Hb.2,Hb.1,by omega,by show ro<256;omega⟩
  rcases bY.1 hm with rfl|hm
  ·exact⟨nr.1,nr.2,nr.1,by omega,by show wh<256;omega⟩
  rcases bY.1 hm with rfl|hm
  ·exact⟨nt.1,nt.2,nt.1,by omega,by show ep<65536;omega⟩
  cases hm) rfl (λj hj u=>by
  rcases(by omega:j=0\/j=1\/j=2\/j=3\/j=4)with rfl|rfl|rfl|rfl|rfl<;>rfl) rfl w
theorem aqs (sq co:Int) (AU:0<=sq/\sq<=4294967295) (AT:0<=co/\co<=255) (w:ae):aQ prog 190 (aA [] [nV 132 sq 0 0 0 co λ_=>0]).toArray w λv w1=>∃b c1,v=.tuple #[.slice (some ⟨b,0,none⟩) 6 c1,.int .i64 0]/\6<=c1/\w.heap.size<=b/\bV w1 b 0 6 (cZ [132,aU 4 (u64.wrap sq) 0,aU 4 (u64.wrap sq) 1,aU 4 (u64.wrap sq) 2,aU 4 (u64.wrap sq) 3,aU 1 (u64.wrap co) 0])/\Ch [] w w1:=
 AS (n:=6) (λK=>aqh sq co K) (λf hm=>by
  rcases bY.1 hm with rfl|hm
  ·exact⟨AU.1,AU.2,AU.1,by omega,by show sq<4294967296;omega⟩
  rcases bY.1 hm with rfl|hm
  ·exact⟨AT.1,AT.2,AT.1,by omega,by show co<256;omega⟩
  cases hm) rfl (λj hj u=>by
  rcases(by omega:j=0\/j=1\/j=2\/j=3\/j=4\/j=5)with rfl|rfl|rfl|rfl|rfl|rfl<;>rfl) rfl w
theorem aqt (ep:Int) (nt:0<=ep/\ep<=65535) (w:ae):aQ prog 190 (aA [] [nV 133 0 0 0 ep 0 λ_=>0]).toArray w λv w1=>∃b c1,v=.tuple #[.slice (some ⟨b,0,none⟩) 3 c1,.int .i64 0]/\3<=c1/\w.heap.size<=b/\bV w1 b 0 3 (cZ [133,aU 2 (u64.wrap ep) 0,aU 2 (u64.wrap ep) 1])/\Ch [] w w1:=
 AS (n:=3) (λK=>aqi ep K) (λf hm=>by
  rcases bY.1 hm with rfl|hm
  ·exact⟨nt.1,nt.2,nt.1,by omega,by show ep<65536;omega⟩
  cases hm) rfl (λj hj u=>by
  rcases(by omega:j=0\/j=1\/j=2)with rfl|rfl|rfl<;>rfl) rfl w
theorem aqu (wh ep:Int) (nr:0<=wh/\wh<=4) (nt:0<=ep/\ep<=65535) (w:ae):aQ prog 190 (aA [] [nV 134 0 0 wh ep 0 λ_=>0]).toArray w λv w1=>∃b c1,v=.tuple #[.slice (some ⟨b,0,none⟩) 4 c1,.int .i64 0]/\4<=c1/\w.heap.size<=b/\bV w1 b 0 4 (cZ [134,aU 1 (u64.wrap wh) 0,aU 2 (u64.wrap ep) 0,aU 2 (u64.wrap ep) 1])/\Ch [] w w1:=
 AS (n:=4) (λK=>aqj wh ep K) (λf hm=>by
  rcases bY.1 hm with rfl|hm
  ·exact⟨nr.1,nr.2,nr.1,by omega,by show wh<256;omega⟩
  rcases bY.1 hm with rfl|hm
  ·exact⟨nt.1,nt.2,nt.1,by omega,by show ep<65536;omega⟩
  cases hm) rfl (λj hj u=>by
  rcases(by omega:j=0\/j=1\/j=2\/j=3)with rfl|rfl|rfl|rfl<;>rfl) rfl w
theorem aqv (wh ep:Int) (nr:0<=wh/\wh<=4) (nt:0<=ep/\ep<=65535) (w:ae):aQ prog 190 (aA [] [nV 135 0 0 wh ep 0 λ_=>0]).toArray w λv w1=>∃b c1,v=.tuple #[.slice (some ⟨b,0,none⟩) 4 c1,.int .i64 0]/\4<=c1/\w.heap.size<=b/\bV w1 b 0 4 (cZ [135,aU 1 (u64.wrap wh) 0,aU 2 (u64.wrap ep) 0,aU 2 (u64.wrap ep) 1])/\Ch [] w w1:=
 AS (n:=4) (λK=>aqk wh ep K) (λf hm=>by
  rcases bY.1 hm with rfl|hm
  ·exact⟨nr.1,nr.2,nr.1,by omega,by show wh<256;omega⟩
  rcases bY.1 hm with rfl|hm
  ·exact⟨nt.1,nt.2,nt.1,by omega,by show ep<65536;omega⟩
  cases hm) rfl (λj hj u=>by
  rcases(by omega:j=0\/j=1\/j=2\/j=3)with rfl|rfl|rfl|rfl<;>rfl) rfl w
def nu (nc:Nat->Int):List V:=[.int .i64 129,.int .i64 0,.int .i64 0,.int .i64 0,.int .i64 0,.int .i64 0,.int .u8 (nc 0),.int .u8 (nc 1),.int .u8 (nc 2),.int .u8 (nc 3),.int .u8 (nc 4),.int .u8 (nc 5),.int .u8 (nc 6),.int .u8 (nc 7)]
def wm (nc:Nat->Int):VB:=⟨true,⟨40,(0,0)⟩,nu nc⟩
def yl (j:Nat):List V:=[.int .i64 1,.int .i64 0,.int .i64 255,.fn 173 [] [.ptr j 0],.fn 174 [] [.ptr j 0]]
def aqw (u:List ab):VB:=⟨true,⟨175,(0,0)⟩,yl 2++(yl 3++(yl 4++(yl 5++(yl 6++(yl 7++(yl 8++(yl 9++[.rest u])))))))⟩
def Ho:List VB:=(bh 8).map λj=>⟨true,⟨220,(0,0)⟩,[.ptr 0 (6+j)]⟩
def lu (nc:Nat->Int) (u:List ab):List VB:=wm nc::aqw u::Ho
def AV (n:Nat) (u:List ab) (c:Nat):Prop:=bW (kO (5*n) (V.bool true)++[.rest u])=c*5
def Hp (X:Nat->List ab->Prop):Nat->Nat->Nat->List ab->Prop
 |0,_,c,u=>X c u
 |k+1,n,c,u=>(n<=c/\AV n u c)/\(∀(c':Nat) (u':List ab),n+1<=c'->AV (n+1) u' c'->Hp X k (n+1) c' u')/\(∀(c':Nat) (u':List ab),n+1<=c'->AV (n+1) u' c'->Hp X k (n+1) c' u')
theorem Tl {X:Nat->List ab->Prop}:∀(k n c:Nat) (u:List ab),n<=c->AV n u c->(∀c u,n+k<=c->AV (n+k) u c->X c u)->Hp X k n c u
 |0,_,c,u,h1,h2,hX=>hX c u h1 h2
 |k+1,n,c,u,h1,h2,hX=>by
  have st:∀(c':Nat) (u':List ab),n+1<=c'->AV (n+1) u' c'->Hp X k (n+1) c' u':=λc' u' a b=>Tl k (n+1) c' u' a b λc u d e=>hX c u (by omega) (by rw[show n+(k+1)=n+1+k by omega];exact e);exact⟨⟨h1,h2⟩,st,st⟩
def Dp (n:Nat) (f:eN) (args:List V) (bl:List VB) (K:VK Empty):Prop:=bu (fE prog (λ_=>none) ([]:List (bK Empty)) (EX prog) Jb) n f args bl [] K
def pr (k:Nat) (x:Int) (pre post:List ab):List VB:=[⟨false,⟨220,(0,0)⟩,[.pe 1 k 0 1 0]⟩,⟨false,⟨40,(0,0)⟩,[.rest pre,.eU 1 1 λ_=>[.int .u8 x],.rest post]⟩]
def Tm (x:Int):Int:=u8.wrap (iM (u64.wrap (i64.wrap x)) (2^0))
def abn (k:Nat) (x:Int) (pre post:List ab) (K:VK Empty):Prop:=(k=pre.length/\0<1/\∀_:Nat,[dT .u8 x].length=1)/\cond (decide (i64.wrap x<0)) (K (.ao [.raw (.slice none 0 0),.bool false]) (pr k x pre post) [])
 (cond (decide (i64.wrap x>255)) (K (.ao [.raw (.slice none 0 0),.bool false]) (pr k x pre post) []) (cond (iM (u64.wrap (i64.wrap x)) (cU (2^(8*1)))!=0) (K (.ao [.raw (.slice none 0 0),.bool false]) (pr k x pre post) [])
  (K (.ao [.sl 2 0 1 1,.bool true]) (pr k x pre post++[⟨true,⟨5,(0,0)⟩,[.int .u8 (Tm x)]⟩]) [])))
theorem aqx (k:Nat) (x:Int) (pre post:List ab) (K:VK Empty):Dp 60 118 [.agg [.int .i64 1,.int .i64 0,.int .i64 255,.fn 173 [] [.ptr 0 0],.fn 174 [] [.ptr 0 0]]] (pr k x pre post) (bm 2 K)=abn k x pre post K:=by kernel_rfl
theorem aqy {x:Int} (h:0<=x/\x<=255):Tm x=x:=by
 unfold Tm;rw[jR (by omega),qW,HP (by omega) (by omega)];rw[show(2:Int)^0=1 from rfl,Int.fdiv_one,wA,HP (by omega) (by omega)]
theorem aqz {k:Nat} {x:Int} {pre post:List ab} {K:VK Empty} (hk:k=pre.length) (h:0<=x/\x<=255) (hK:K (.ao [.sl 2 0 1 1,.bool true]) (pr k x pre post++[⟨true,⟨5,(0,0)⟩,[.int .u8 x]⟩]) []):abn k x pre post K:=by
 have e1:i64.wrap x=x:=jR (by omega);have e2:iM (u64.wrap x) (cU (2^(8*1)))=0:=by
  rw[qW,HP (by omega) (by omega),show cU (2^(8*1))=256 from rfl,sL _ (by omega)];omega
 refine⟨⟨hk,by omega,λ_=>rfl⟩,aH (λa=>?_) λ_=>aH (λa=>?_) λ_=>aH (λa=>?_) λ_=>?_⟩
 ·rw[e1]at a;exact absurd (of_decide_eq_true a) (by omega)
 ·rw[e1]at a;exact absurd (of_decide_eq_true a) (by omega)
 ·rw[e1,e2]at a;cases a
 ·rw[aqy h];exact hK
theorem Tn {n f n0:Nat} {args:List V} {bl:List VB} {K:VK Empty} (h:oI (Dp n f args bl (bm n0 K))) {ids:List Nat} (hl:ids.length=bl.length) (hn:n0<=ids.length) {bs:List ai} {ms:List Nat} {w0 w:ae} (S:St ms w0 (lits ids ids bl++bs) w):
 aQ prog f (aA ids args).toArray w λv w1=>∃x more b,v=den (ids.take n0++more) x/\(ids.take n0++more).length=b.length/\St ms w0 (lits (ids.take n0++more) (ids.take n0++more) b++bs) w1/\K x b []:=by
 refine(eD (aG.nil (G:=Empty) (P:=prog) (gl:=λ_=>none)).T (aG.nil (G:=Empty) (P:=prog) (gl:=λ_=>none)).Q n (C:=fE prog (λ_=>none) ([]:List (bK Empty)) (EX prog) Jb) (ids:=ids) (bl:=bl) (ch:=[]) (R:=bs) Gl.none hl S h.h).mono ?_;rintro v w' ⟨y,more,bl',ch',rfl,h1,S',hK⟩
 match ch',S',hK with
 |[],S',hK=>
  obtain⟨v2,cD,bl2,e,dw,S2,hK⟩:=h_ (n0:=n0) h1 (by simp;omega) S' hK;rw[List.take_append_of_le_length hn]at e dw S2;exact⟨v2,cD,bl2,e,dw,S2,hK⟩
 |e::_,_,_=>nomatch e
theorem aqA {q r k:Nat} {x:Int} {pre post:List ab} {w:ae} {f1 f2:Nat×Nat} (u7:f1=(0,0)) (u9:f2=(0,0)) (hq:w.heap[q]?=some (.cells #[.pointer (some ⟨r,k,none⟩)] 220 f1)) (hr:w.heap[r]?=some (.cells (pre++(.int .u8 x::post)).toArray 40 f2)) (hk:k=pre.length) (h:0<=x/\x<=255):
 aQ prog 118 #[.agg #[.int .i64 1,.int .i64 0,.int .i64 255,.func (.func 173) #[] #[.pointer (some ⟨q,0,none⟩)],.func (.func 174) #[] #[.pointer (some ⟨q,0,none⟩)]]] w λv w1=>∃b,v=.tuple #[.slice (some ⟨b,0,none⟩) 1 1,.bool true]/\St [] w [⟨b,true,.cells #[.int .u8 x] 5 (0,0)⟩] w1:=by
 subst u7 u9;have S:St [] w (lits [q,r] [q,r] (pr k x pre post)++[]) w:=by
  have:=St.given (w:=w) [(q,.cells #[.pointer (some ⟨r,k,none⟩)] 220 (0,0)),(r,.cells (pre++(.int .u8 x::post)).toArray 40 (0,0))] (by
   intro p hp;simp only[bY,n9,or_false]at hp;rcases hp with rfl|rfl
   ·exact hq
   ·exact hr)
  have e:lits [q,r] [q,r] (pr k x pre post)=[⟨q,false,.cells #[.pointer (some ⟨r,k,none⟩)] 220 (0,0)⟩,⟨r,false,.cells (pre++(.int .u8 x::post)).toArray 40 (0,0)⟩]:=by
   simp[lits,ay,pr,ah,cl,den,Ba]
  rw[e];exact this
 have hx:oI (Dp 60 118 [.agg [.int .i64 1,.int .i64 0,.int .i64 255,.fn 173 [] [.ptr 0 0],.fn 174 [] [.ptr 0 0]]] (pr k x pre post) (bm 2 λv b _=>v=.ao [.sl 2 0 1 1,.bool true]/\b=pr k x pre post++[⟨true,⟨5,(0,0)⟩,[.int .u8 x]⟩])):=⟨by rw[aqx];exact aqz hk h ⟨rfl,rfl⟩⟩;have fl:=Tn hx (ids:=[q,r]) rfl (by simp) S;clear hx;refine fl.mono ?_;rintro v w' ⟨y,more,b,rfl,hl,S',rfl,rfl⟩
 match more,hl with
 |[b],_=>
  refine⟨b,rfl,?_⟩;have e:lits ([q,r].take 2++[b]) ([q,r].take 2++[b]) (pr k x pre post++[⟨true,⟨5,(0,0)⟩,[.int .u8 x]⟩])=lits [q,r,b] [q,r] (pr k x pre post)++[⟨b,true,.cells #[.int .u8 x] 5 (0,0)⟩]:=rfl;rw[e]at S';exact(S'.sub (List.sublist_append_left _ _)).sub (n8 _ _)
def To {G:Type}:cP G:=λargs bl ch K=>match args with
 |[.agg [.int .i64 1,.int .i64 0,.int .i64 255,.fn 173 [] [.ptr q 0],.fn 174 [] [.ptr q' 0]]]=>(match bl[q]?with
  |some ⟨_,⟨220,(0,0)⟩,[.ptr r k]⟩=>(match bl[r]?with
   |some ⟨_,⟨40,(0,0)⟩,c⟩=>(match takeN c k with
    |some (_,.int .u8 x::_)=>cond (ax q q'&&bI bl.length bl) ((0<=x/\x<=255)/\K (.ao [.sl bl.length 0 1 1,.bool true]) (bl++[⟨true,⟨5,(0,0)⟩,[.int .u8 x]⟩]) ch) False
    |_=>False)
   |_=>False)
  |_=>False)
 |_=>False
theorem aqB {G:Type} [Bl G] (gl:Nat->Option Nat):Sound (G:=G) prog gl 118 To:=by
 intro args ids bl ch R ms w0 w K hg hl S hc;unfold To at hc;split at hc
 ·rename_i q q';split at hc
  ·rename_i w1 r k oF;split at hc
   ·rename_i w2 c hbr;split at hc
    ·rename_i a x b ht;cases hq:ax q q'&&bI bl.length bl with
     |false=>rw[hq]at hc;exact hc.elim
     |true=>
      rw[hq]at hc;simp only[a_]at hq;obtain⟨hx,hK⟩:=hc;obtain rfl:=b9 hq.1;have h1:=(fp hl S oF).2;have h2:=(fp hl S hbr).2;obtain⟨t1,t2⟩:=Ej (ids:=ids) ht;rw[t1]at h2;have e2:ah ids (.int .u8 x::b)=.int .u8 x::ah ids b:=rfl;rw[e2]at h2;have e0:(aA ids [.agg [.int .i64 1,.int .i64 0,.int .i64 255,.fn 173 [] [.ptr q 0],.fn 174 [] [.ptr q 0]]]).toArray=#[.agg #[.int .i64 1,.int .i64 0,.int .i64 255,.func (.func 173) #[] #[.pointer (some ⟨ids.getD q 0,0,none⟩)],.func (.func 174) #[] #[.pointer (some ⟨ids.getD q 0,0,none⟩)]]]:=rfl;rw[e0];refine(aqA (q:=ids.getD q 0) (r:=ids.getD r 0) (k:=k) rfl rfl h1 h2 t2.symm hx).mono ?_;rintro v w' ⟨b',rfl,T⟩;have S2:=S.beside T (Wr.cons rfl Wr.nil);refine⟨_,[b'],_,ch,?_,by simp[hl],?_,hK⟩
      ·simp only[den,aA,<-hl,j7]
      ·rw[eZ _ _ _ _ hl,e_ _ _ (by rw[hl];exact hq.2)];rw[bN];exact S2.perm (qV [_] (lits ids ids bl) (av ch R))
    ·exact hc.elim
   ·exact hc.elim
  ·exact hc.elim
 ·exact hc.elim
def Tp (P:aC):(aZ->V)->Op->List VB->List bO->VK bO->Prop:=λe op bl ch K=>match op with
 |.call c=>(match c.callee,c.args.toList,c.argTypes.toList with
  |.builtin .append,[s,xs],[t,tx]=>(match P.underlying t,P.underlying tx with
   |some (.slice T),some (.slice _)=>(match rG P T,e s,e xs with
    |some (z,bG),.sl j 0 n c,.sl i 0 (m+1) _=>(match bl[j]?,bl[i]?with
     |some ⟨_,⟨_,(0,0)⟩,ac⟩,some b=>(match wV ac 0 (n*z)with
      |some C=>cond (ax n c&&(ax (bW ac) (c*z)&&(ax (bW b.c) ((m+1)*z)&&(lF b.c&&(bA bG 10000000&&(bA (n+(m+1)) 1000000&&(ba 0 C&&ba 0 b.c)))))))
       (∀(x:Option aI) (c':Nat) (bk:List ai) (h:eI z T (ah [] C++ah [] b.c) x (n+(m+1)) c' bk),K (.raw (.slice x (n+(m+1)) c')) bl (⟨T,z,ah [] C++ah [] b.c,x,n+(m+1),c',bk,h⟩::ch)) False
      |none=>False)
     |_,_=>False)
    |_,_,_=>False)
   |_,_=>False)
  |_,_,_=>False)
 |_=>False
theorem aqC {P:aC} {gl:Nat->Option Nat}:fC P gl (Tp P):=by
 intro e op ids bl ch R ms w0 w K ρ o hg hl S aW ho h;unfold Tp at h;split at h
 ·rename_i c;split at h
  ·rename_i s xs t tx eb cC dr;split at h
   ·rename_i T T' ht fH;split at h
    ·rename_i z bG j n cc i m mf bS fQ fk;split at h
     ·rename_i wr Ta ac b ha hb;split at h
      ·rename_i C hC;cases hq:ax n cc&&(ax (bW ac) (cc*z)&&(ax (bW b.c) ((m+1)*z)&&(lF b.c&&(bA bG 10000000&&(bA (n+(m+1)) 1000000&&(ba 0 C&&ba 0 b.c))))))with
       |false=>rw[hq]at h;exact h.elim
       |true=>
        rw[hq]at h;simp only[cond_true]at h;simp only[a_]at hq;obtain⟨q1,q2,q3,q4,q5,q6,q8,q9⟩:=hq;obtain rfl:=b9 q1;have q2:=b9 q2;have q3:=b9 q3;have q5:=dz q5;have q6:=dz q6;have aK:=(fp hl S hb).2;have Om:=(fp hl S ha).2;obtain⟨g1,g2,g3⟩:=wW (ids:=ids) hC;rw[List.drop_zero]at g1;have e1:∀l:List V,ba 0 l=true->ah ids l=ah [] l:=λl hw=>jO (ids:=[]) (more:=ids) l hw;have Tq:ah ids ac=ah [] C:=by rw[<-e1 C q8,<-g1,List.take_of_length_le (by rw[j6,q2];exact dE _)]
        obtain⟨inf,rH,hi⟩:=gH.1 (EL bS);simp only[bd]at hi;obtain⟨hz,di,gW⟩:=hi;obtain⟨z0,kV,mL⟩:=gH.1 hz;have va:(ah ids b.c).length=(m+1)*z:=by rw[j6,q3]
        have eY:Src P z tx (.slice (some ⟨ids.getD i 0,0,none⟩) (m+1) mf) (m+1) (ah [] b.c) w:=by
         rw[<-e1 b.c q9];refine qR w fH ⟨ids.getD i 0,0,none⟩ (m+1) mf _ va (λj u hj=>?_) (λu hu=>zi q4 u hu);rw[hU,cell_of aK];simpa using hj
        have On:w.heap[ids.getD j 0]?=some (.cells (ah [] C++[]).toArray Ta (0,0)):=by rw[cI,<-Tq];exact Om
        have lJ:(n+(m+1))*bG<=140737488355328:=iH (Nat.mul_le_mul q6 q5) (by decide);have hold:(Builtin.firstCells inf.size n (.slice (some ⟨ids.getD j 0,0,none⟩) n n)).run P w.drew=.ok (ah [] C).toArray w.drew:=by
         refine run_firstCells_some (P:=P) w.drew inf.size n ⟨ids.getD j 0,0,none⟩ n n (ah [] C) (by rw[<-Tq,j6,q2,di]) (λk v hk=>?_);rw[hU];have:w.drew.cell? ⟨ids.getD j 0,0+k,none⟩=w.cell? ⟨ids.getD j 0,k,none⟩:=by simp
         rw[this,cell_of On,cI];simpa using hk
        have bE:=run_append_grow_src (P:=P) w t tx o.type T inf z0 ht rH kV (some ⟨ids.getD j 0,0,none⟩) n n (ah [] C) hold (.slice (some ⟨ids.getD i 0,0,none⟩) (m+1) mf) (m+1) (ah [] b.c) (by rw[di];exact eY) (by omega) (by omega) (by rw[gW];exact growslice_fits (by omega) lJ);have eo:=grownCap_ge w (n+(m+1)) n T;obtain⟨l9,ar,gA⟩:=c;simp only at eb cC dr;have e2:ar=#[s,xs]:=by rw[<-cC]
        have e3:gA=#[t,tx]:=by rw[<-dr]
        subst eb e2 e3;have gx:ρ s=.slice (some ⟨ids.getD j 0,0,none⟩) n n:=by rw[aW,fQ];simp only[den]
        have mV:ρ xs=.slice (some ⟨ids.getD i 0,0,none⟩) (m+1) mf:=by rw[aW,fk];simp only[den]
        let tl:=(nz z0.cells (grownCap w (n+(m+1)) n T-(n+(m+1)))).toList
        have ju:eI z T (ah [] C++ah [] b.c) (some ⟨w.heap.size,0,none⟩) (n+(m+1)) (grownCap w (n+(m+1)) n T) [⟨w.heap.size,true,.cells ((ah [] C++ah [] b.c)++tl).toArray T (0,0)⟩]:=by
         have l1:(ah [] C).length=n*z:=by rw[<-Tq,j6,q2]
         have l2:(ah [] b.c).length=(m+1)*z:=by rw[<-e1 b.c q9,va]
         refine⟨by rw[fi,l1,l2,<-lU],eo,.inr ⟨_,tl,rfl,rfl,?_⟩⟩;rw[fi,fi,l1,l2,Array.length_toList,size_zeroCells,mL,<-lU,<-lU];congr 1;omega
        refine⟨.raw (.slice (some ⟨w.heap.size,0,none⟩) (n+(m+1)) (grownCap w (n+(m+1)) n T)),[],bl,_,_,.inl (iR (P:=P) (ρ:=ρ) (o:=o) ho gx mV bE),by simpa using hl,?_,h _ _ _ ju⟩;rw[cI];have hn:=mC w.drew (.cells ((ah [] C++ah [] b.c).toArray++nz z0.cells (grownCap w (n+(m+1)) n T-(n+(m+1)))) T);have hce:(ah [] C++ah [] b.c).toArray++nz z0.cells (grownCap w (n+(m+1)) n T-(n+(m+1)))=((ah [] C++ah [] b.c)++tl).toArray:=by apply eO;simp[tl]
        rw[hce]at hn⊢;have S2:=S.new (((Ch.refl [] w).drew).trans (Ch.alloc [] w.drew _) (λx hx=>.inl hx)) (dE _) hn;refine S2.perm ?_;exact qV [_] (lits ids ids bl) (av ch R)
      ·exact h.elim
     ·exact h.elim
    ·exact h.elim
   ·exact h.elim
  ·exact h.elim
 ·exact h.elim
def abo (e:aZ->V) (op:Op):Bool:=match op with
 |.call c=>(match c.args.toList with
  |s::_=>(match e s with|.raw _=>true|_=>false)
  |_=>false)
 |_=>false
def Tr (P:aC):(aZ->V)->Op->List VB->List bO->VK bO->Prop:=λe op bl ch K=>cond (abo e op) (I4 P e op bl ch K) (Tp P e op bl ch K)
theorem abp {P:aC} {gl:Nat->Option Nat}:fC P gl (Tr P):=xq abo Wv aqC
def Ts:List (bK bO):=[⟨118,false,To⟩]
theorem abq:aG prog (λ_=>none) Ts:=aG.cons ⟨aqB _,λe=>by cases e⟩ aG.nil
def Tt (n:Nat) (f:eN) (args:List V) (bl:List VB) (K:VK bO):Prop:=bu (fE prog (λ_=>none) Ts (Tr prog) abp) n f args bl [] K
def ap9 (g:bO) (x:Int) (k:bO->Prop):Prop:=(g.v=g.v/\g.n+1<=1000000)/\∀(xa:Option aI) (c:Nat) (bk:List ai) (h:eI g.z g.T (g.os++[.int .u8 x]) xa (g.n+1) c bk),k ⟨g.T,g.z,g.os++[.int .u8 x],xa,g.n+1,c,bk,h⟩
def Tu (nc:Nat->Int) (E:bO->Prop):Nat->Nat->bO->Prop
 |0,_,g=>E g
 |k+1,i,g=>(0<=nc i/\nc i<=255)/\ap9 g (nc i) (Tu nc E k (i+1))
def aqD (nc:Nat->Int) (E:bO->Prop):Prop:=(0<=nc 0/\nc 0<=255)/\∀(x:Option aI) (c:Nat) (bk:List ai) (h:eI 1 5 ([.int .u8 129]++[.int .u8 (nc 0)]) x 2 c bk),Tu nc E 7 1 ⟨5,1,[.int .u8 129]++[.int .u8 (nc 0)],x,2,c,bk,h⟩
theorem aqE (nc:Nat->Int) (c:Nat) (u:List ab) (K:VK bO):Tt 90 72 [.int .i64 129,.sl 1 0 8 c] (lu nc u) (bm 10 K)=aqD nc λg=>K (.ao [g.v,.bool true]) (lu nc u) [g]:=by kernel_rfl
theorem abr (nc:Nat->Int) (K:VK Empty):Dp 60 76 [.ptr 0 0] [wm nc] (bm 1 K)=∀(c:Nat) (u:List ab),1<=c->AV 1 u c->Hp (λc u=>K (.ao [.sl 1 0 8 c,.bool true]) (lu nc u) []) 7 1 c u:=by kernel_rfl
theorem aqF {n f n0:Nat} {args:List V} {bl:List VB} {K:VK bO} (h:oI (Tt n f args bl (bm n0 K))) {ids:List Nat} (hl:ids.length=bl.length) (hn:n0<=ids.length) {bs:List ai} {ms:List Nat} {w0 w:ae} (S:St ms w0 (lits ids ids bl++bs) w):
 aQ prog f (aA ids args).toArray w λv w1=>∃x more b ch,v=den (ids.take n0++more) x/\(ids.take n0++more).length=b.length/\St ms w0 (lits (ids.take n0++more) (ids.take n0++more) b++av ch bs) w1/\K x b ch:=by
 refine(eD abq.T abq.Q n (C:=fE prog (λ_=>none) Ts (Tr prog) abp) (ids:=ids) (bl:=bl) (ch:=[]) (R:=bs) Gl.none hl S h.h).mono ?_;rintro v w' ⟨y,more,bl',ch',rfl,h1,S',hK⟩;obtain⟨v2,cD,bl2,e,dw,S2,hK⟩:=h_ (n0:=n0) h1 (by simp;omega) S' hK;rw[List.take_append_of_le_length hn]at e dw S2;exact⟨v2,cD,bl2,ch',e,dw,S2,hK⟩
def f9 (nc:Nat->Int):Nat->Int:=cZ [129,nc 0,nc 1,nc 2,nc 3,nc 4,nc 5,nc 6,nc 7]
structure LX (nc:Nat->Int) (g:bO):Prop where
 T:g.T=5
 z:g.z=1
 n:g.n=9
 os:g.os=(bh 9).map λj=>.int .u8 (f9 nc j)
def Tv:cP bO:=λargs bl ch K=>match args,bl with
 |[.ptr 0 0],[⟨true,⟨40,(0,0)⟩,c⟩]=>∃nc,c=nu nc/\∀(k:Nat) (u:List ab),8<=k->K (.ao [.sl 1 0 8 k,.bool true]) (lu nc u) ch
 |_,_=>False
def Tw:cP bO:=λargs bl ch K=>match args with
 |[.int .i64 129,.sl 1 0 8 _]=>∃nc u,bl=lu nc u/\(∀j,0<=nc j/\nc j<=255)/\∀g:bO,LX nc g->K (.ao [g.v,.bool true]) bl (g::ch)
 |_=>False
theorem aqG:Sound prog (λ_=>none) 76 Tv:=by
 intro args ids bl ch R ms w0 w K hg hl S hc;unfold Tv at hc;split at hc
 ·rename_i c;obtain⟨nc,rfl,hK⟩:=hc
  match ids,hl with
  |[r],_=>
   have hv:oI (Dp 60 76 [.ptr 0 0] [wm nc] (bm 1 λv b _=>∃k u,v=.ao [.sl 1 0 8 k,.bool true]/\b=lu nc u/\8<=k)):=⟨by rw[abr];exact λc u h1 h2=>Tl 7 1 c u h1 h2 λk u h _=>⟨k,u,rfl,rfl,h⟩⟩;have hr:=Tn hv (ids:=[r]) (bs:=av ch R) rfl (by simp) S;clear hv;refine hr.mono ?_;rintro v w' ⟨x,more,b,rfl,h1,S2,k,u,rfl,rfl,h8⟩;exact⟨_,more,_,ch,rfl,h1,S2,hK k u h8⟩
 ·exact hc.elim
theorem abt {nc:Nat->Int} (jc:∀j,0<=nc j/\nc j<=255) {E:bO->Prop}:∀(k i:Nat) (g:bO),g.T=5->g.z=1->g.n=i+1->g.os=.int .u8 129::(bh i).map (λj=>.int .u8 (nc j))->i+k<=100->
 (∀g:bO,g.T=5->g.z=1->g.n=i+k+1->g.os=.int .u8 129::(bh (i+k)).map (λj=>.int .u8 (nc j))->E g)->Tu nc E k i g
 |0,i,g,h1,h2,h3,h4,_,hE=>hE g h1 h2 h3 h4
 |k+1,i,g,h1,h2,h3,h4,hb,hE=>⟨jc i,⟨rfl,by omega⟩,λxa c bk h=>abt jc k (i+1) _ h1 h2 (by show g.n+1=_;omega) (by show g.os++_=_;rw[h4,Ba,qT];rfl) (by omega) λg a b c d=>hE g a b (by omega) (by rw[d,show i+1+k=i+(k+1) by omega])⟩
theorem aqH:Sound prog (λ_=>none) 72 Tw:=by
 intro args ids bl ch R ms w0 w K hg hl S hc;unfold Tw at hc;split at hc
 ·rename_i c;obtain⟨nc,u,rfl,jc,hK⟩:=hc;have hv:oI (Tt 90 72 [.int .i64 129,.sl 1 0 8 c] (lu nc u) (bm 10 λv b ch=>∃g,v=.ao [g.v,.bool true]/\b=lu nc u/\ch=[g]/\LX nc g)):=⟨by
   rw[aqE];exact⟨jc 0,λx c bk h=>abt jc 7 1 _ rfl rfl rfl rfl (by omega) λg a b c d=>⟨g,rfl,rfl,rfl,a,b,c,by rw[d];rfl⟩⟩⟩
  have hr:=aqF hv (ids:=ids) (bs:=av ch R) hl (by rw[hl];simp[lu,Ho]) S;clear hv;refine hr.mono ?_;rintro v w' ⟨x,more,b,ch',rfl,h1,S2,g,rfl,rfl,rfl,h9⟩;have hlen:ids.length=10:=by rw[hl];simp[lu,Ho]
  have hm:more=[]:=by
   have:(ids.take 10++more).length=10:=by rw[h1];simp[lu,Ho]
   rw[fi,uk,hlen]at this;exact mE (by simpa using this)
  subst hm;rw[List.take_of_length_le (by omega)]at S2 h1;refine⟨_,[],_,_,?_,h1,S2,hK g h9⟩;rw[List.take_of_length_le (by omega)]
 ·exact hc.elim
def Tx:List (bK bO):=[⟨76,false,Tv⟩,⟨72,false,Tw⟩]
theorem abu:aG prog (λ_=>none) Tx:=aG.cons ⟨aqG,λe=>by cases e⟩ (aG.cons ⟨aqH,λe=>by cases e⟩ aG.nil)
def Tz (n:Nat) (f:eN) (args:List V) (K:VK bO):Prop:=bu (bQ prog (λ_=>none) Tx) n f args [] [] K
theorem aqI {n f:Nat} {args:List V} {K:VK bO} (h:oI (Tz n f args (bm 0 K))) {w:ae}:
 aQ prog f (aA [] args).toArray w λv w1=>∃x b ch,(b=[]->v=den [] x)/\(b=[]->St [] w (av ch []) w1)/\K x b ch:=by
 refine(eD abu.T abu.Q n (C:=bQ prog (λ_=>none) Tx) (ids:=[]) (bl:=[]) (ch:=[]) (R:=[]) (ms:=[]) (w0:=w) (w:=w) Gl.none rfl (St.nil [] w) h.h).mono ?_;rintro v w' ⟨y,more,bl',ch',rfl,h1,S',hK⟩;obtain⟨v2,cD,bl2,e,dw,S2,hK⟩:=h_ (n0:=0) (ids:=more) h1 (by simp) S' hK;refine⟨v2,bl2,ch',λhb=>?_,λhb=>?_,hK⟩
 ·subst hb;obtain rfl:cD=[]:=by simpa using dw
  exact e
 ·subst hb;obtain rfl:cD=[]:=by simpa using dw
  exact S2
theorem aqJ (nc:Nat->Int) (K:VK bO):Tz 60 190 [.agg (nu nc)] (bm 0 K)=∃nc1,nu nc=nu nc1/\∀(k:Nat) (u:List ab),8<=k->∃LY u2,lu nc1 u=lu LY u2/\(∀j,0<=LY j/\LY j<=255)/\∀g:bO,LX LY g->K (.ao [g.v,.int .i64 0]) [] [g]:=by kernel_rfl
theorem aqK (nc:Nat->Int) (h:∀j,0<=nc j/\nc j<=255) (w:ae):aQ prog 190 (aA [] [.agg (nu nc)]).toArray w λv w1=>∃b c1,v=.tuple #[.slice (some ⟨b,0,none⟩) 9 c1,.int .i64 0]/\9<=c1/\w.heap.size<=b/\bV w1 b 0 9 (f9 nc)/\Ch [] w w1:=by
 have hv:oI (Tz 60 190 [.agg (nu nc)] (bm 0 λv b ch=>∃g,v=.ao [g.v,.int .i64 0]/\b=[]/\ch=[g]/\LX nc g)):=⟨by rw[aqJ];exact⟨nc,rfl,λk u _=>⟨nc,u,rfl,h,λg hg=>⟨g,rfl,rfl,rfl,hg⟩⟩⟩⟩;have hr:=aqI hv (w:=w);clear hv;refine hr.mono ?_;rintro v w' ⟨x,b,ch',e,S2,g,rfl,rfl,rfl,h1,h2,h3,h4⟩;have e:=e rfl;have S2:=S2 rfl;have hg:=g.h;rw[h1,h2,h3,h4]at hg;obtain⟨_,hc,hx⟩:=hg;rcases hx with⟨_,h0,_⟩|⟨b,t,hx,hb,_⟩
 ·cases h0
 ·have S3:St [] w ([⟨b,true,.cells (((bh 9).map λj=>dT .u8 (f9 nc j))++t).toArray 5 (0,0)⟩]++[]) w':=by
   have:St [] w (g.bl++[]) w':=S2;rw[hb]at this;exact this
  refine⟨b,g.c,?_,hc,(S3.own 0 _ rfl rfl).resolve_left (by simp),λj hj=>?_,S3.ch⟩
  ·rw[e];simp only[den,aA,bO.v,hx,h3]
  ·rw[eh,cell_of (S3.at_ 0 _ rfl)];simp only[iX];rw[gI (by simpa using hj)];simp[mF hj]
end
section
open Go Go.RowKit Go.BigFrame Sx
def TA (r:Sd.aF):Array ab:=#[.int .i64 r.kind,.int .i64 r.seq,.int .i64 r.role,.int .i64 r.c_,.int .i64 r.af,.int .i64 r.code,.int .u8 (r.au 0),.int .u8 (r.au 1),.int .u8 (r.au 2),.int .u8 (r.au 3),.int .u8 (r.au 4),.int .u8 (r.au 5),.int .u8 (r.au 6),.int .u8 (r.au 7)]
def cB (r:Sd.aF):Nat:=if r.kind=129 then 9 else if r.kind=130\/r.kind=131 then 5 else if r.kind=132 then 6 else if r.kind=133\/r.kind=136 then 3 else 4
def j4 (r:Sd.aF):Nat->Int:=if r.kind=129 then f9 r.au else if r.kind=130 then cZ [130,aU 1 (u64.wrap r.role) 0,aU 1 (u64.wrap r.c_) 0,aU 2 (u64.wrap r.af) 0,aU 2 (u64.wrap r.af) 1]
 else if r.kind=131 then cZ [131,aU 4 (u64.wrap r.seq) 0,aU 4 (u64.wrap r.seq) 1,aU 4 (u64.wrap r.seq) 2,aU 4 (u64.wrap r.seq) 3]else if r.kind=132 then cZ [132,aU 4 (u64.wrap r.seq) 0,aU 4 (u64.wrap r.seq) 1,aU 4 (u64.wrap r.seq) 2,aU 4 (u64.wrap r.seq) 3,aU 1 (u64.wrap r.code) 0]
 else if r.kind=133 then cZ [133,aU 2 (u64.wrap r.af) 0,aU 2 (u64.wrap r.af) 1]else if r.kind=134 then cZ [134,aU 1 (u64.wrap r.c_) 0,aU 2 (u64.wrap r.af) 0,aU 2 (u64.wrap r.af) 1]
 else if r.kind=135 then cZ [135,aU 1 (u64.wrap r.c_) 0,aU 2 (u64.wrap r.af) 0,aU 2 (u64.wrap r.af) 1]else cZ [136,aU 1 (u64.wrap r.c_) 0,aU 1 (u64.wrap r.code) 0]
theorem abv (r:Sd.aF):cB r=3\/cB r=4\/cB r=5\/cB r=6\/cB r=9:=by
 unfold cB;repeat' split
 all_goals simp
theorem aqL (r:Sd.aF) (h:RB r) (w:ae):aQ prog 190 #[.agg (TA r)] w λv w1=>∃b c1,v=.tuple #[.slice (some ⟨b,0,none⟩) (cB r) c1,.int .i64 0]/\cB r<=c1/\w.heap.size<=b/\bV w1 b 0 (cB r) (j4 r)/\Ch [] w w1:=by
 have hk:r.kind=129\/r.kind=130\/r.kind=131\/r.kind=132\/r.kind=133\/r.kind=134\/r.kind=135\/r.kind=136:=by have:=h.kind;omega
 obtain⟨k,sq,ro,wh,ep,co,nc⟩:=r;obtain⟨_,⟨s1,s2⟩,⟨r1,r2⟩,⟨w1,w2⟩,⟨e1,e2⟩,⟨c1,c2⟩,⟨n1,n2⟩⟩:=h;simp only at*;rcases hk with rfl|rfl|rfl|rfl|rfl|rfl|rfl|rfl<;>simp at s2 r2 w2 e2 c2 n2<;>subst_vars
 ·exact aqK nc n1 w
 ·exact aqr ro wh ep r1 w1 e1 w
 ·exact aqq sq s1 w
 ·exact aqs sq co s1 c1 w
 ·exact aqt ep e1 w
 ·exact aqu wh ep w1 e1 w
 ·exact aqv wh ep w1 e1 w
 ·exact aqp wh co w1 c1 w
theorem aqM (n:Nat) (hn:n=3\/n=4\/n=5\/n=6\/n=9) (b o c:Nat) (f:Nat->Int) (w:ae) (hB:bV w b o n f):
 aQ prog 191 #[.slice (some ⟨b,o,none⟩) n c] w λv w1=>∃b c1,v=.tuple #[.slice (some ⟨b,0,none⟩) (n+5) c1,.int .i64 0]/\n+5<=c1/\w.heap.size<=b/\w1.heap[b]?=some (.cells (bw (n+5) (mX n f) c1) 5 (0,0))/\Ch [] w w1:=by
 exact ahZ b o n c f (by omega) w hB
theorem aqN (xs:Option aI) (ns cs:Nat) (dy bc:Nat) (x:Option aI) (n c:Nat) (bl:List ai) (so:List ab) (l:Int) (r:Sd.aF) (wo:RB r) (w:ae) {ms:List Nat} {w0:ae} {bs:List ai} (S0:St ms w0 ([⟨dy,true,.cells #[.pointer (some ⟨bc,0,none⟩),.slice xs ns cs,.slice x n c] 128 (0,0)⟩]++(bl++bs)) w) (hR:eI 2 85 so xs ns cs bl) (hn:ns<=1000):
 aQ prog 147 #[.pointer (some ⟨dy,0,none⟩),.int .i64 l,.agg #[.int .i64 r.kind,.int .i64 r.seq,.int .i64 r.role,.int .i64 r.c_,.int .i64 r.af,.int .i64 r.code,.int .u8 (r.au 0),.int .u8 (r.au 1),.int .u8 (r.au 2),.int .u8 (r.au 3),.int .u8 (r.au 4),.int .u8 (r.au 5),.int .u8 (r.au 6),.int .u8 (r.au 7)]] w λv w1=>∃x1 c1 jC bf cf,v=.tuple #[]/\eI 2 85 (so++[.int .i64 l,.slice (some ⟨bf,0,none⟩) (cB r+5) cf]) x1 (ns+1) c1 jC/\cB r+5<=cf/\St ms w0 ([⟨dy,true,.cells #[.pointer (some ⟨bc,0,none⟩),.slice x1 (ns+1) c1,.slice x n c] 128 (0,0)⟩]++(jC++(⟨bf,true,.cells (bw (cB r+5) (mX (cB r) (j4 r)) cf) 5 (0,0)⟩::bs))) w1:=by
 refine il Tryz.func147 rfl ?_;refine aM (aT ?_);refine ei S0 (λb=>.pointer (some ⟨b,0,none⟩)) (.cells #[.int .i64 r.kind,.int .i64 r.seq,.int .i64 r.role,.int .i64 r.c_,.int .i64 r.af,.int .i64 r.code,.int .u8 (r.au 0),.int .u8 (r.au 1),.int .u8 (r.au 2),.int .u8 (r.au 3),.int .u8 (r.au 4),.int .u8 (r.au 5),.int .u8 (r.au 6),.int .u8 (r.au 7)] 40) ?_;intro bx gP du;refine aR (aL (aM (aT ?_)));refine jI du 0 14 #[.int .i64 r.kind,.int .i64 r.seq,.int .i64 r.role,.int .i64 r.c_,.int .i64 r.af,.int .i64 r.code,.int .u8 (r.au 0),.int .u8 (r.au 1),.int .u8 (r.au 2),.int .u8 (r.au 3),.int .u8 (r.au 4),.int .u8 (r.au 5),.int .u8 (r.au 6),.int .u8 (r.au 7)] bx 0 ?_;refine fe 190 #[.agg #[.int .i64 r.kind,.int .i64 r.seq,.int .i64 r.role,.int .i64 r.c_,.int .i64 r.af,.int .i64 r.code,.int .u8 (r.au 0),.int .u8 (r.au 1),.int .u8 (r.au 2),.int .u8 (r.au 3),.int .u8 (r.au 4),.int .u8 (r.au 5),.int .u8 (r.au 6),.int .u8 (r.au 7)]] ?_;refine(aqL r wo _).mono ?_;rintro _ E9 ⟨rK,TD,rfl,vn,kE,jT,E_⟩;have cM:=du.quiet E_;refine dF ?_;refine ak (.slice (some ⟨rK,0,none⟩) (cB r) TD) ?_;refine ak (.int .i64 0) ?_;refine fL ?_;refine ak (.int .i64 0) ?_;refine aR (aL (aM (aT ?_)));refine dF ?_;refine fe 191 #[.slice (some ⟨rK,0,none⟩) (cB r) TD] ?_;refine(aqM (cB r) (abv r) rK 0 TD (j4 r) _ jT).mono ?_;rintro _ O0 ⟨lN,ki,rfl,Ce,E4,xy,mg⟩;have nI:=cM.new mg E4 xy;refine dF ?_;refine ak (.slice (some ⟨lN,0,none⟩) (cB r+5) ki) ?_;refine ak (.int .i64 0) ?_;refine fL ?_;refine ak (.int .i64 0) ?_;refine aR (aL (aT ?_));refine dF ?_;refine dF ?_;refine ak (.pointer (some ⟨dy,0,none⟩)) ?_;refine ak (.pointer (some ⟨dy,1,none⟩)) ?_;refine oe nI 2 (.slice xs ns cs) dy 1 ?_;refine ak (.int .i64 l) ?_;refine dF ?_;refine ak (.agg #[.int .i64 l,.slice (some ⟨lN,0,none⟩) (cB r+5) ki]) ?_;refine ei nI (λb=>.slice (some ⟨b,0,none⟩) 1 1) (.cells #[.int .i64 l,.slice (some ⟨lN,0,none⟩) (cB r+5) ki] 85) ?_;intro Hq PH tD;have aqO:St ms w0 ([⟨Hq,true,.cells #[.int .i64 l,.slice (some ⟨lN,0,none⟩) (cB r+5) ki] 85 (0,0)⟩,⟨lN,true,.cells (bw (cB r+5) (mX (cB r) (j4 r)) ki) 5 (0,0)⟩,⟨bx,true,.cells #[.int .i64 r.kind,.int .i64 r.seq,.int .i64 r.role,.int .i64 r.c_,.int .i64 r.af,.int .i64 r.code,.int .u8 (r.au 0),.int .u8 (r.au 1),.int .u8 (r.au 2),.int .u8 (r.au 3),.int .u8 (r.au 4),.int .u8 (r.au 5),.int .u8 (r.au 6),.int .u8 (r.au 7)] 40 (0,0)⟩,⟨dy,true,.cells #[.pointer (some ⟨bc,0,none⟩),.slice xs ns cs,.slice x n c] 128 (0,0)⟩]++(bl++bs)) PH:=tD.re (R:=bs) [[⟨Hq,true,.cells #[.int .i64 l,.slice (some ⟨lN,0,none⟩) (cB r+5) ki] 85 (0,0)⟩],[⟨lN,true,.cells (bw (cB r+5) (mX (cB r) (j4 r)) ki) 5 (0,0)⟩],[⟨bx,true,.cells #[.int .i64 r.kind,.int .i64 r.seq,.int .i64 r.role,.int .i64 r.c_,.int .i64 r.af,.int .i64 r.code,.int .u8 (r.au 0),.int .u8 (r.au 1),.int .u8 (r.au 2),.int .u8 (r.au 3),.int .u8 (r.au 4),.int .u8 (r.au 5),.int .u8 (r.au 6),.int .u8 (r.au 7)] 40 (0,0)⟩],[⟨dy,true,.cells #[.pointer (some ⟨bc,0,none⟩),.slice xs ns cs,.slice x n c] 128 (0,0)⟩],bl] [0,1,2,3,4];refine acV (z:=2) (T:=85) (olds:=so) (xs:=xs) (n:=ns) (c:=cs) (m:=1) (news:=[.int .i64 l,.slice (some ⟨lN,0,none⟩) (cB r+5) ki]) (xv:=.slice (some ⟨Hq,0,none⟩) 1 1) (A:=[⟨Hq,true,.cells #[.int .i64 l,.slice (some ⟨lN,0,none⟩) (cB r+5) ki] 85 (0,0)⟩,⟨lN,true,.cells (bw (cB r+5) (mX (cB r) (j4 r)) ki) 5 (0,0)⟩,⟨bx,true,.cells #[.int .i64 r.kind,.int .i64 r.seq,.int .i64 r.role,.int .i64 r.c_,.int .i64 r.af,.int .i64 r.code,.int .u8 (r.au 0),.int .u8 (r.au 1),.int .u8 (r.au 2),.int .u8 (r.au 3),.int .u8 (r.au 4),.int .u8 (r.au 5),.int .u8 (r.au 6),.int .u8 (r.au 7)] 40 (0,0)⟩,⟨dy,true,.cells #[.pointer (some ⟨bc,0,none⟩),.slice xs ns cs,.slice x n c] 128 (0,0)⟩]) (bl:=bl) (R:=bs) aqO hR (acU tD 0 1 2 [.int .i64 l,.slice (some ⟨lN,0,none⟩) (cB r+5) ki] (tx:=59) (e':=85) (by kernel_rfl) (by kernel_rfl) (by kernel_rfl) (by rfl)) 32 (hbd:=(by omega)) (h63:=(by unfold maxLen;omega)) (k:=?_);intro TE TF abw auh xC aqP;refine ak (.pointer (some ⟨dy,0,none⟩)) ?_;refine ak (.pointer (some ⟨dy,1,none⟩)) ?_;refine store_ aqP 3 (.slice TE (ns+1) TF) dy 1 ?_;intro Jk OM;refine aR ?_;refine end_ rfl (fu [] [] (.tuple #[]) trivial) ?_;refine⟨TE,TF,abw,lN,ki,rfl,?_,Ce,?_⟩
 ·exact xC
 ·exact OM.re (R:=bs) [[⟨Hq,true,.cells #[.int .i64 l,.slice (some ⟨lN,0,none⟩) (cB r+5) ki] 85 (0,0)⟩],[⟨lN,true,.cells (bw (cB r+5) (mX (cB r) (j4 r)) ki) 5 (0,0)⟩],[⟨bx,true,.cells #[.int .i64 r.kind,.int .i64 r.seq,.int .i64 r.role,.int .i64 r.c_,.int .i64 r.af,.int .i64 r.code,.int .u8 (r.au 0),.int .u8 (r.au 1),.int .u8 (r.au 2),.int .u8 (r.au 3),.int .u8 (r.au 4),.int .u8 (r.au 5),.int .u8 (r.au 6),.int .u8 (r.au 7)] 40 (0,0)⟩],[⟨dy,true,.cells #[.pointer (some ⟨bc,0,none⟩),.slice TE (ns+1) TF,.slice x n c] 128 (0,0)⟩],abw] [3,4,1]
end
section
open Go Go.RowKit Go.BigFrame Sx Vx
def cL (r:Sd.aF):Nat×Sd.aw:=(cB r+5,mX (cB r) (j4 r))
theorem aqQ {l:List V} {r:Sd.aF} (h:Ri l=some r) (ids:List Nat):(ah ids l).toArray=TA r:=by
 unfold Ri at h;split at h
 ·split at h
  ·obtain rfl:=ck h;kernel_rfl
  ·obtain rfl:=ck h;kernel_rfl
  ·cases h
 ·cases h
theorem abx (r c s k t:ai) (A B E R:List ai):([r,c,s,k,t]++((A++(B++E))++R)).Perm ([s]++(B++(r::c::k::t::(A++(E++R))))):=by
 have h1:([r,c,s,k,t]++((A++(B++E))++R)).Perm (s::r::c::k::t::((A++(B++E))++R)):=by
  refine((Mw s c _).cons r).trans ?_;exact Mw s r _
 refine h1.trans (ui s ?_);have h2:([r,c,k,t]++(A++(B++(E++R)))).Perm (B++([r,c,k,t]++(A++(E++R)))):=by
  have e1:[r,c,k,t]++(A++(B++(E++R)))=([r,c,k,t]++A)++(B++(E++R)):=by simp
  have e2:B++([r,c,k,t]++(A++(E++R)))=B++(([r,c,k,t]++A)++(E++R)):=by simp
  rw[e1,e2];exact qV _ _ _
 simpa[bN]using h2
def a9.tell {fr:Sd.aF->Nat×Sd.aw} {k:LK} {s:Sd.aa} (F:a9 fr (aY k s)) (l:Int) (r:Sd.aF) {x1:Option aI} {c1:Nat} {jC Bf:List ai} {so:List ab} (hs:eI 2 85 so x1 (s.tell l r).bz.length c1 jC) (hf:Ad fr (s.tell l r).bz so Bf):a9 fr (aY k (s.tell l r)):=
 ⟨x1,c1,F.xr,F.cr,F.Bq,F.Br,jC,Bf,F.Bk,so,F.hq,F.hr,hs,hf,F.hk⟩
theorem TG:Body (fr:=cL) 147 dR:=by
 intro ar k s F Kb a b c R ms w0 w h0 hq hM S;unfold dR at hM;split at hM
 ·rename_i l rl;split at hM
  ·rename_i r hr;have hrm:=hM.1.1;have wo:=hM.1.2;have hK:=hM.2;have e1:lits (bJ a b c) (bJ a b c) (bC k s F)=[ay (bJ a b c) 1 (bU k),ay (bJ a b c) 0 (g_ k),⟨a,true,.cells #[.pointer (some ⟨b,0,none⟩),F.vs,F.vr] 128 (0,0)⟩,ay (bJ a b c) b (gC k 4 s),ay (bJ a b c) c (gp s)]:=by kernel_rfl
   rw[e1,Q7]at S;have S1:=S.perm (abx _ _ _ _ _ _ _ _ _);have e2:(aA (bJ a b c) (.ptr 2 0::[.int .i64 l,.agg rl])).toArray=#[.pointer (some ⟨a,0,none⟩),.int .i64 l,.agg (TA r)]:=by
    have:=aqQ hr (bJ a b c);simp only[aA,den,this];rfl
   rw[e2];have hn:s.bz.length<=1000:=by have:=hrm.1;omega
   refine(aqN _ _ _ _ _ _ _ _ _ _ l r wo w S1 F.hs hn).mono ?_;rintro v w1 ⟨x1,c1,jC,bf,cf,rfl,gx,hcf,S2⟩;have hl:(s.tell l r).bz.length=s.bz.length+1:=by simp[Sd.aa.tell]
   have iQ:eI 2 85 (F.so++[.int .i64 l,.slice (some ⟨bf,0,none⟩) (cL r).1 cf]) x1 (s.tell l r).bz.length c1 jC:=by rw[hl];exact gx
   have Ep:Ad cL (s.tell l r).bz (F.so++[.int .i64 l,.slice (some ⟨bf,0,none⟩) (cL r).1 cf]) (F.Bf++[⟨bf,true,.cells (bw (cL r).1 (cL r).2 cf) 5 (0,0)⟩]):=F.hf.snoc l r (some ⟨bf,0,none⟩) cf _ ⟨hcf,.inr ⟨bf,rfl,rfl⟩⟩
   let F':a9 cL (aY k (s.tell l r)):=F.tell l r iQ Ep
   refine⟨.ao [],_,F',rfl,rfl,rfl,hK F',?_⟩;have e3:lits (bJ a b c) (bJ a b c) (bC k (s.tell l r) F')=[ay (bJ a b c) 1 (bU k),ay (bJ a b c) 0 (g_ k),⟨a,true,.cells #[.pointer (some ⟨b,0,none⟩),.slice x1 (s.tell l r).bz.length c1,F.vr] 128 (0,0)⟩,ay (bJ a b c) b (gC k 4 s),ay (bJ a b c) c (gp s)]:=by kernel_rfl
   have e4:F'.B=F.Br++(jC++((F.Bf++[⟨bf,true,.cells (bw (cL r).1 (cL r).2 cf) 5 (0,0)⟩])++(F.Bq++F.Bk))):=rfl;rw[e3,e4,hl];refine(S2.perm ?_).perm (abx _ _ _ _ _ _ _ _ _).symm;refine pI _ (pI _ ?_);have p:∀(f x1 x2 x3 x4:ai) (A E D R:List ai),(f::x1::x2::x3::x4::(A++((E++D)++R))).Perm (x1::x2::x3::x4::(A++(((E++[f])++D)++R))):=by
    intro f x1 x2 x3 x4 A E D R;have q1:f::x1::x2::x3::x4::(A++((E++D)++R))=[f]++(([x1,x2,x3,x4]++(A++E))++(D++R)):=by simp
    have q2:x1::x2::x3::x4::(A++(((E++[f])++D)++R))=([x1,x2,x3,x4]++(A++E))++([f]++(D++R)):=by simp
    rw[q1,q2];exact qV _ _ _
   exact p _ _ _ _ _ _ _ _ _
  ·exact hM.elim
 ·exact hM.elim
end
end Go.Proofs.YtggfpcggakghnaaGreatDoor
namespace Sx
open Go Go.RowKit Go.BigFrame
theorem St.LZ {w:ae} {bs:List ai} (h:∀y∈bs,y.wr=false/\w.heap[y.id]?=some y.obj):St [] w bs w:=by
 refine St.mk' (Ch.refl _ _) (λy hy=>(h y hy).2) (λy hy e=>by rw[(h y hy).1]at e;cases e) ?_;refine List.pairwise_of_forall_mem_list (λx hx y hy hc=>?_);rcases hc with hc|hc
 ·rw[(h x hx).1]at hc;cases hc
 ·rw[(h y hy).1]at hc;cases hc
end Sx
namespace Go.Proofs.YtggfpcggakghnaaGreatDoor
open Go Go.RowKit Go.BigFrame Go.WideShapes Sx Vx
theorem aqR (u:ae):∀y∈dv u,y.wr=false/\u.heap[y.id]?=some y.obj:=by
 intro y hy;unfold dv at hy;rw[ny]at hy;obtain⟨⟨o,i⟩,hp,rfl⟩:=hy;refine⟨rfl,?_⟩;rw[List.mk_mem_zipIdx_iff_getElem?]at hp;simpa using hp
theorem aby {cs:List ab} {off z:Nat} (g:Nat->List ab) (hz:∀j,(g j).length=z):∀n,(∀k,k<n->∀j,j<z->cs[off+k*z+j]?=(g k)[j]?)->cs.drop off=(bh n).flatMap g++cs.drop (off+n*z)
 |0,_=>by simp
 |n+1,h=>by
  rw[aby g hz n (λk hk=>h k (by omega)),Ba,DM,bN];congr 1;have e:(cs.drop (off+n*z)).take z=g n:=by
   apply um;intro j;by_cases hj:j<z
   ·rw[Uy hj,DN];exact h n (by omega) j hj
   ·rw[ig (by simp;omega),ig (by rw[hz];omega)]
  have e2:=iZ z (cs.drop (off+n*z));rw[e,List.drop_drop]at e2;rw[List.flatMap_cons,List.flatMap_nil,cI,<-e2];congr 2;rw[lU];omega
structure L9 (W:ae) (v:ab) (z:Nat) (g:Nat->List ab) (i o n c:Nat) (a:Option aI) (ty:BT) (pre post:List ab):Prop where
 v:v=.slice (bif ax n 0 then a else some ⟨i,o,none⟩) n c
 le:n<=c
 po:∀j,j<n->o=pre.length
 at_:W.heap[i]?=some (.cells (pre++((bh n).flatMap g++post)).toArray ty.t ty.fz)
theorem L9.nil {W:ae} {z:Nat} {g:Nat->List ab} {cs:Array ab} {t:aD} {f:Nat×Nat} {i:Nat} (h:W.heap[i]?=some (.cells cs t f)):L9 W (.slice none 0 0) z g i 0 0 0 none ⟨t,f⟩ [] cs.toList:=
 ⟨rfl,dE _,(λj hj=>absurd hj (by omega)),by simpa using h⟩
theorem L9.some {W:ae} {z b o n c:Nat} {g:Nat->List ab} {cs:Array ab} {t:aD} {f:Nat×Nat} (hle:n<=c) (hz:∀j,(g j).length=z) (aK:W.heap[b]?=some (.cells cs t f)) (h:∀k,k<n->∀j,j<z->W.cell? ⟨b,o+k*z+j,none⟩=(g k)[j]?) (hp:0<z):
 ∃pre post,L9 W (.slice (some ⟨b,o,none⟩) n c) z g b o n c (some ⟨b,o,none⟩) ⟨t,f⟩ pre post:=by
 have hc:∀k,k<n->∀j,j<z->cs.toList[o+k*z+j]?=(g k)[j]?:=λk hk j hj=>by
  have:=h k hk j hj;rw[cell_of aK]at this;simpa using this
 have hs:=aby g hz n hc;by_cases hn:n=0
 ·subst hn;exact⟨[],cs.toList,by cases ax 0 0<;>rfl,hle,(λj hj=>absurd hj (by omega)),by simpa using aK⟩
 ·refine⟨cs.toList.take o,cs.toList.drop (o+n*z),by cases ax n 0<;>rfl,hle,λj hj=>?_,?_⟩
  ·have h0:=hc 0 (by omega) 0 hp;have:o<cs.toList.length:=by
    rcases cE o cs.toList.length with h1|h1
    ·exact h1
    ·exfalso;rw[ig (by omega)]at h0;have h2:=hz 0;rw[iK (by omega)]at h0;cases h0
   rw[uk];omega
  ·rw[<-hs,iZ];exact aK
end Go.Proofs.YtggfpcggakghnaaGreatDoor
namespace Go.Proofs.YtggfpcggakghnaaGreatDoor
section
open Go Go.RowKit Go.BigFrame Sx Vx
def nW (l:List Int):Int:=i64.wrap (l.foldl (λs b=>bits .or .u64 (u64.wrap (s*2^8)) (u64.wrap b)) 0)
def Hr (bad:Prop) (Hs:List Int->Prop):List (List Int×Int×Int)->List Int->Prop
 |[],acc=>Hs acc
 |(bs,lo,hi)::l,acc=>cond (decide (nW bs<lo)) bad (cond (decide (nW bs>hi)) bad (Hr bad Hs l (acc++[nW bs])))
def ym (l:List Int) (us:List ab):List VB:=[⟨false,⟨5,(0,0)⟩,l.map (λx=>V.int .u8 x)++[.rest us]⟩]
def yn (n:Nat) (l:List Int) (us:List ab) (e:Nat) (K:VK Empty):Prop:=bu (fE prog cR ([]:List (bK Empty)) (Dm prog) LV) 60 49 [.sl 0 0 n (e+n)] (ym l us) [] (bm 1 K)
def yq (k a b c d e:Int) (code:Int):V:=.ao [.agg [.int .i64 k,.int .i64 a,.int .i64 b,.int .i64 c,.int .i64 d,.int .i64 e,.int .u8 0,.int .u8 0,.int .u8 0,.int .u8 0,.int .u8 0,.int .u8 0,.int .u8 0,.int .u8 0],.int .i64 code]
def yr (l:List Int) (us:List ab) (K:VK Empty) (fs:List (List Int×Int×Int)) (g:List Int->V):Prop:=Hr (K (yq 0 0 0 0 0 0 13) (ym l us) []) (λx=>K (g x) (ym l us) []) fs []
section
variable(a b c d x:Int) (us:List ab) (e:Nat) (K:VK Empty)
theorem aqS:yn 5 [131,a,b,c,d] us e K=yr [131,a,b,c,d] us K [([a,b,c,d],0,4294967295)] (λl=>yq 131 (l.getD 0 0) 0 0 0 0 0):=by kernel_rfl
theorem aqT:yn 5 [130,a,b,c,d] us e K=yr [130,a,b,c,d] us K [([a],0,3),([b],0,4),([c,d],0,65535)] (λl=>yq 130 0 (l.getD 0 0) (l.getD 1 0) (l.getD 2 0) 0 0):=by kernel_rfl
theorem aqU:yn 6 [132,a,b,c,d,x] us e K=yr [132,a,b,c,d,x] us K [([a,b,c,d],0,4294967295),([x],0,255)] (λl=>yq 132 (l.getD 0 0) 0 0 0 (l.getD 1 0) 0):=by kernel_rfl
theorem aqV:yn 3 [133,a,b] us e K=yr [133,a,b] us K [([a,b],0,65535)] (λl=>yq 133 0 0 0 (l.getD 0 0) 0 0):=by kernel_rfl
theorem aqW:yn 4 [134,a,b,c] us e K=yr [134,a,b,c] us K [([a],0,4),([b,c],0,65535)] (λl=>yq 134 0 0 (l.getD 0 0) (l.getD 1 0) 0 0):=by kernel_rfl
theorem aqX:yn 4 [135,a,b,c] us e K=yr [135,a,b,c] us K [([a],0,4),([b,c],0,65535)] (λl=>yq 135 0 0 (l.getD 0 0) (l.getD 1 0) 0 0):=by kernel_rfl
theorem aqY:yn 3 [136,a,b] us e K=yr [136,a,b] us K [([a],0,4),([b],0,255)] (λl=>yq 136 0 0 (l.getD 0 0) 0 (l.getD 1 0) 0):=by kernel_rfl
end
theorem AW {s b:Int} (hs:0<=s/\s<2^56) (hb:0<=b/\b<=255):bits .or .u64 (u64.wrap (s*2^8)) (u64.wrap b)=s*256+b:=by
 rw[show u64.wrap b=b by rw[qW];omega];exact CB s b hs (by omega)
theorem abz {a:Int} (ha:0<=a/\a<=255):nW [a]=a:=by
 unfold nW;simp only[uv,UB];rw[AW (by omega) ha,qI (by omega)];omega
theorem aqZ {a b:Int} (ha:0<=a/\a<=255) (hb:0<=b/\b<=255):nW [a,b]=a*256+b:=by
 unfold nW;simp only[uv,UB];rw[AW (by omega) ha,AW (by omega) hb,qI (by omega)];omega
theorem aq0 {a b c d:Int} (ha:0<=a/\a<=255) (hb:0<=b/\b<=255) (hc:0<=c/\c<=255) (hd:0<=d/\d<=255):nW [a,b,c,d]=((a*256+b)*256+c)*256+d:=by
 unfold nW;simp only[uv,UB];rw[AW (by omega) ha,AW (by omega) hb,AW (by omega) hc,AW (by omega) hd,qI (by omega)];omega
theorem AX (k:Nat) (x:Int) (j:Nat):0<=aU k x j/\aU k x j<=255:=by
 unfold aU;rw[wA];omega
theorem AY {v:Int} (h:0<=v/\v<=255):nW [aU 1 (u64.wrap v) 0]=v:=by
 rw[abz (AX _ _ _)];unfold aU;rw[show u64.wrap v=v by rw[qW];omega,wA,sL _ (by decide)];show v/1%256=v;omega
theorem L_ {v:Int} (h:0<=v/\v<=65535):nW [aU 2 (u64.wrap v) 0,aU 2 (u64.wrap v) 1]=v:=by
 rw[aqZ (AX _ _ _) (AX _ _ _)];unfold aU;rw[show u64.wrap v=v by rw[qW];omega,wA,wA,sL _ (by decide),sL _ (by decide)];show v/256%256*256+v/1%256=v;omega
theorem abA {v:Int} (h:0<=v/\v<=4294967295):nW [aU 4 (u64.wrap v) 0,aU 4 (u64.wrap v) 1,aU 4 (u64.wrap v) 2,aU 4 (u64.wrap v) 3]=v:=by
 rw[aq0 (AX _ _ _) (AX _ _ _) (AX _ _ _) (AX _ _ _)];unfold aU;rw[show u64.wrap v=v by rw[qW];omega];simp only[wA];rw[sL _ (by decide),sL _ (by decide),sL _ (by decide),sL _ (by decide)];show((v/16777216%256*256+v/65536%256)*256+v/256%256)*256+v/1%256=v;omega
def trP:List (List Int×Int×Int)->List Int->Prop
 |[],[]=>True
 |(bs,lo,hi)::fs,v::vs=>(nW bs=v/\lo<=v/\v<=hi)/\trP fs vs
 |_,_=>False
theorem wq {bad:Prop} {Hs:List Int->Prop}:∀(fs:List (List Int×Int×Int)) (vs acc:List Int),trP fs vs->Hs (acc++vs)->Hr bad Hs fs acc
 |[],[],acc,_,hg=>by
  unfold Hr;simpa using hg
 |[],v::vs,acc,h,_=>h.elim
 |(bs,lo,hi)::fs,[],acc,h,_=>h.elim
 |(bs,lo,hi)::fs,v::vs,acc,h,hg=>by
  obtain⟨⟨h1,h2,h3⟩,hf⟩:=h;unfold Hr;rw[h1];refine aH (λe=>?_) (λ_=>aH (λe=>?_) (λ_=>wq fs vs _ hf (by simpa using hg)))
  ·have:=of_decide_eq_true e;omega
  ·have:=of_decide_eq_true e;omega
def Ma (r:Sd.aF):List Int:=(bh (cB r)).map (j4 r)
def jn (r:Sd.aF):List V:=[.int .i64 r.kind,.int .i64 r.seq,.int .i64 r.role,.int .i64 r.c_,.int .i64 r.af,.int .i64 r.code,.int .u8 (r.au 0),.int .u8 (r.au 1),.int .u8 (r.au 2),.int .u8 (r.au 3),.int .u8 (r.au 4),.int .u8 (r.au 5),.int .u8 (r.au 6),.int .u8 (r.au 7)]
theorem AZ {n:Nat} {l:List Int} {us:List ab} {e:Nat} {v0:V} (qO:cz 0 v0=true) (h:Hd (yn n l us e λv b c=>v=v0)) {w:ae} {b:Nat} (aK:w.heap[b]?=some (.cells (l.map (λx=>dT .u8 x)++us).toArray 5 (0,0))):
 aQ prog 49 #[.slice (some ⟨b,0,none⟩) n (e+n)] w λv w'=>v=den [] v0/\Ch [] w w':=by
 have hd:∀l:List Int,ah [b] (l.map (λx=>V.int .u8 x)++[.rest us])=l.map (λx=>dT .u8 x)++us:=by
  intro l;induction l with
  |nil=>simp only[uw,fc,ah,cl,cI]
  |cons x l ih=>simp only[eQ,fb,ah,cl,den,ih,fc]
 have S:St [] w (lits [b] [b] (ym l us)++av ([]:List Empty) []) w:=by
  refine St.LZ ?_;intro y hy;simp only[ym,lits,av,cI,bY,n9,or_false]at hy;subst hy;refine⟨rfl,aK.trans ?_⟩;simp only[ay,hd]
 have hok:aG (G:=Empty) prog cR []:=aG.nil;refine(eD (C:=fE prog cR ([]:List (bK Empty)) (Dm prog) LV) hok.T hok.Q 60 (ids:=[b]) (λg i h=>by cases h) rfl S h.h).mono ?_;rintro v w' ⟨y,more,bl',ch',rfl,h1,S',hK⟩;obtain⟨v2,cD,bl2,yu,-,S2,oO⟩:=h_ (n0:=1) h1 (by simp) S' hK;obtain rfl:v2=v0:=oO;refine⟨?_,S2.ch⟩;rw[yu];have:=fy (ids:=[]) (more:=List.take 1 ([b]++more)++cD) v2 qO;simpa using this
theorem aq1 (r:Sd.aF) (h:RB r) (h9:r.kind≠129) {us:List ab} {e:Nat} {w:ae} {b:Nat} (aK:w.heap[b]?=some (.cells ((Ma r).map (λx=>dT .u8 x)++us).toArray 5 (0,0))):
 aQ prog 49 #[.slice (some ⟨b,0,none⟩) (cB r) (e+cB r)] w λv w'=>v=den [] (.ao [.agg (jn r),.int .i64 0])/\Ch [] w w':=by
 have hk:r.kind=130\/r.kind=131\/r.kind=132\/r.kind=133\/r.kind=134\/r.kind=135\/r.kind=136:=by have:=h.kind;omega
 obtain⟨k,sq,ro,wh,ep,co,nc⟩:=r;obtain⟨_,⟨s1,s2⟩,⟨r1,r2⟩,⟨w1,w2⟩,⟨e1,e2⟩,⟨c1,c2⟩,⟨n1,n2⟩⟩:=h;simp only at*;rcases hk with rfl|rfl|rfl|rfl|rfl|rfl|rfl<;>simp at s2 r2 w2 e2 c2 n2<;>subst_vars
 ·exact AZ (n:=5) (l:=[130,aU 1 (u64.wrap ro) 0,aU 1 (u64.wrap wh) 0,aU 2 (u64.wrap ep) 0,aU 2 (u64.wrap ep) 1]) rfl ⟨by rw[aqT];exact wq _ [ro,wh,ep] [] ⟨⟨AY (by omega),r1⟩,⟨AY ⟨w1.1,by have:=w1.2;omega⟩,w1⟩,⟨L_ e1,e1⟩,trivial⟩ rfl⟩ aK
 ·exact AZ (n:=5) (l:=[131,aU 4 (u64.wrap sq) 0,aU 4 (u64.wrap sq) 1,aU 4 (u64.wrap sq) 2,aU 4 (u64.wrap sq) 3]) rfl ⟨by rw[aqS];exact wq _ [sq] [] ⟨⟨abA s1,s1⟩,trivial⟩ rfl⟩ aK
 ·exact AZ (n:=6) (l:=[132,aU 4 (u64.wrap sq) 0,aU 4 (u64.wrap sq) 1,aU 4 (u64.wrap sq) 2,aU 4 (u64.wrap sq) 3,aU 1 (u64.wrap co) 0]) rfl ⟨by rw[aqU];exact wq _ [sq,co] [] ⟨⟨abA s1,s1⟩,⟨AY c1,c1⟩,trivial⟩ rfl⟩ aK
 ·exact AZ (n:=3) (l:=[133,aU 2 (u64.wrap ep) 0,aU 2 (u64.wrap ep) 1]) rfl ⟨by rw[aqV];exact wq _ [ep] [] ⟨⟨L_ e1,e1⟩,trivial⟩ rfl⟩ aK
 ·exact AZ (n:=4) (l:=[134,aU 1 (u64.wrap wh) 0,aU 2 (u64.wrap ep) 0,aU 2 (u64.wrap ep) 1]) rfl ⟨by rw[aqW];exact wq _ [wh,ep] [] ⟨⟨AY ⟨w1.1,by have:=w1.2;omega⟩,w1⟩,⟨L_ e1,e1⟩,trivial⟩ rfl⟩ aK
 ·exact AZ (n:=4) (l:=[135,aU 1 (u64.wrap wh) 0,aU 2 (u64.wrap ep) 0,aU 2 (u64.wrap ep) 1]) rfl ⟨by rw[aqX];exact wq _ [wh,ep] [] ⟨⟨AY ⟨w1.1,by have:=w1.2;omega⟩,w1⟩,⟨L_ e1,e1⟩,trivial⟩ rfl⟩ aK
 ·exact AZ (n:=3) (l:=[136,aU 1 (u64.wrap wh) 0,aU 1 (u64.wrap co) 0]) rfl ⟨by rw[aqY];exact wq _ [wh,co] [] ⟨⟨AY ⟨w1.1,by have:=w1.2;omega⟩,w1⟩,⟨AY c1,c1⟩,trivial⟩ rfl⟩ aK
def yv (j:Nat):List V:=[.int .i64 1,.int .i64 0,.int .i64 255,.fn 173 [] [.ptr j 0],.fn 174 [] [.ptr j 0]]
def TH (u:List ab):VB:=⟨true,⟨175,(0,0)⟩,yv 4++(yv 5++(yv 6++(yv 7++(yv 8++(yv 9++(yv 10++(yv 11++[.rest u])))))))⟩
def TI:List VB:=(bh 8).map λj=>⟨true,⟨220,(0,0)⟩,[.ptr 2 (6+j)]⟩
def Ht:cP Empty:=λargs bl ch K=>match args,bl with
 |[.ptr 2 0],[b0,b1,⟨true,⟨40,(0,0)⟩,c⟩]=>cond (bI 3 [b0,b1]) (∃nc,c=nu nc/\∀(k:Nat) (u:List ab),8<=k->K (.ao [.sl 3 0 8 k,.bool true]) ([b0,b1]++(wm nc::TH u::TI)) ch) False
 |_,_=>False
theorem aq2:Sound prog (λ_=>none) 76 Ht:=by
 intro args ids bl ch R ms w0 w K hg hl S hc;unfold Ht at hc;split at hc
 ·rename_i b0 b1 c;cases hw:bI 3 [b0,b1]with
  |false=>rw[hw]at hc;exact hc.elim
  |true=>
   rw[hw]at hc;obtain⟨nc,rfl,hK⟩:=hc
   match ids,hl with
   |[x0,x1,r],Mb=>
    have S1:St ms w0 (lits [r] [r] [wm nc]++([ay [x0,x1,r] x0 b0,ay [x0,x1,r] x1 b1]++av ch R)) w:=by
     have e:lits [x0,x1,r] [x0,x1,r] [b0,b1,⟨true,⟨40,(0,0)⟩,nu nc⟩]=[ay [x0,x1,r] x0 b0,ay [x0,x1,r] x1 b1,ay [r] r (wm nc)]:=rfl;rw[e]at S;exact S.perm (hJ λf=>by simp only[lits,ik,yL,DQ];omega)
    have hv:oI (Dp 60 76 [.ptr 0 0] [wm nc] (bm 1 λv b _=>∃k u,v=.ao [.sl 1 0 8 k,.bool true]/\b=lu nc u/\8<=k)):=⟨by rw[abr];exact λc u h1 h2=>Tl 7 1 c u h1 h2 λk u h _=>⟨k,u,rfl,rfl,h⟩⟩;have hr:=Tn hv (ids:=[r]) rfl (by simp) S1;clear hv;refine hr.mono ?_;rintro v w' ⟨x,more,b,rfl,h1,S2,k,u,rfl,rfl,h8⟩;have hm:more.length=9:=by simpa[lu,Ho]using h1
    match more,hm with
    |[m0,m1,m2,m3,m4,m5,m6,m7,m8],_=>
     refine⟨.ao [.sl 3 0 8 k,.bool true],[m0,m1,m2,m3,m4,m5,m6,m7,m8],[b0,b1]++(wm nc::TH u::TI),ch,rfl,rfl,?_,hK k u h8⟩;have e2:lits ([x0,x1,r]++[m0,m1,m2,m3,m4,m5,m6,m7,m8]) ([x0,x1,r]++[m0,m1,m2,m3,m4,m5,m6,m7,m8]) ([b0,b1]++(wm nc::TH u::TI))=lits ([x0,x1,r]++[m0,m1,m2,m3,m4,m5,m6,m7,m8]) [x0,x1] [b0,b1]++lits ([r]++[m0,m1,m2,m3,m4,m5,m6,m7,m8]) ([r]++[m0,m1,m2,m3,m4,m5,m6,m7,m8]) (lu nc u):=rfl;rw[e2,e_ (ids:=[x0,x1,r]) [x0,x1] [b0,b1] hw];have S3:St ms w0 (lits ([r]++[m0,m1,m2,m3,m4,m5,m6,m7,m8]) ([r]++[m0,m1,m2,m3,m4,m5,m6,m7,m8]) (lu nc u)++([ay [x0,x1,r] x0 b0,ay [x0,x1,r] x1 b1]++av ch R)) w':=S2;generalize lits ([r]++[m0,m1,m2,m3,m4,m5,m6,m7,m8]) ([r]++[m0,m1,m2,m3,m4,m5,m6,m7,m8]) (lu nc u)=L at S3⊢;refine S3.perm (hJ λf=>?_);simp only[lits,ik,yL,DQ];omega
 ·exact hc.elim
def trU (n:Nat) (l:List Int) (us:List ab) (e:Nat) (K:VK Empty):Prop:=bu (bQ prog (λ_=>none) [⟨76,false,Ht⟩]) 60 49 [.sl 0 0 n (e+n)] (ym l us) [] (bm 1 K)
def TJ (l:List Int):V:=.ao [.agg ([.int .i64 129,.int .i64 0,.int .i64 0,.int .i64 0,.int .i64 0,.int .i64 0]++l.map λx=>.int .u8 (u8.wrap x)),.int .i64 0]
section
variable(a b c d a' b' c' d':Int) (us:List ab) (e:Nat) (K:VK Empty)
theorem aq3:trU 9 [129,a,b,c,d,a',b',c',d'] us e K=∃nc,nu (λ_=>0)=nu nc/\∀(k:Nat) (u:List ab),8<=k->yr [129,a,b,c,d,a',b',c',d'] us K [([a],0,255),([b],0,255),([c],0,255),([d],0,255),([a'],0,255),([b'],0,255),([c'],0,255),([d'],0,255)] TJ:=by kernel_rfl
end
theorem aq4 {n:Nat} {l:List Int} {us:List ab} {e:Nat} {v0:V} (qO:cz 0 v0=true) (h:Hd (trU n l us e λv b c=>v=v0)) {w:ae} {b:Nat} (aK:w.heap[b]?=some (.cells (l.map (λx=>dT .u8 x)++us).toArray 5 (0,0))):
 aQ prog 49 #[.slice (some ⟨b,0,none⟩) n (e+n)] w λv w'=>v=den [] v0/\Ch [] w w':=by
 have hd:∀l:List Int,ah [b] (l.map (λx=>V.int .u8 x)++[.rest us])=l.map (λx=>dT .u8 x)++us:=by
  intro l;induction l with
  |nil=>simp only[uw,fc,ah,cl,cI]
  |cons x l ih=>simp only[eQ,fb,ah,cl,den,ih,fc]
 have S:St [] w (lits [b] [b] (ym l us)++av ([]:List Empty) []) w:=by
  refine St.LZ ?_;intro y hy;simp only[ym,lits,av,cI,bY,n9,or_false]at hy;subst hy;refine⟨rfl,aK.trans ?_⟩;simp only[ay,hd]
 have hok:aG (G:=Empty) prog (λ_=>none) [⟨76,false,Ht⟩]:=aG.cons ⟨aq2,λe=>by cases e⟩ aG.nil;refine(eD (C:=bQ prog (λ_=>none) [⟨76,false,Ht⟩]) hok.T hok.Q 60 (ids:=[b]) (λg i h=>by cases h) rfl S h.h).mono ?_;rintro v w' ⟨y,more,bl',ch',rfl,h1,S',hK⟩;obtain⟨v2,cD,bl2,yu,-,S2,oO⟩:=h_ (n0:=1) h1 (by simp) S' hK;obtain rfl:v2=v0:=oO;refine⟨?_,S2.ch⟩;rw[yu];have:=fy (ids:=[]) (more:=List.take 1 ([b]++more)++cD) v2 qO;simpa using this
theorem aq5 (r:Sd.aF) (h:RB r) {us:List ab} {e:Nat} {w:ae} {b:Nat} (aK:w.heap[b]?=some (.cells ((Ma r).map (λx=>dT .u8 x)++us).toArray 5 (0,0))):
 aQ prog 49 #[.slice (some ⟨b,0,none⟩) (cB r) (e+cB r)] w λv w'=>v=den [] (.ao [.agg (jn r),.int .i64 0])/\Ch [] w w':=by
 by_cases h9:r.kind=129
 ·obtain⟨k,sq,ro,wh,ep,co,nc⟩:=r;obtain⟨_,⟨s1,s2⟩,⟨r1,r2⟩,⟨w1,w2⟩,⟨e1,e2⟩,⟨c1,c2⟩,⟨n1,n2⟩⟩:=h;simp only at*;subst h9;simp at s2 r2 w2 e2 c2 n2
  subst_vars
  have hw:∀j,u8.wrap (nc j)=nc j:=λj=>by have:=n1 j;rw[wA];omega
  have hn:∀j,nW [nc j]=nc j/\0<=nc j/\nc j<=255:=λj=>⟨abz (n1 j),n1 j⟩;exact aq4 (n:=9) (l:=[129,nc 0,nc 1,nc 2,nc 3,nc 4,nc 5,nc 6,nc 7]) rfl ⟨by
   rw[aq3];exact⟨λ_=>0,rfl,λ_ _ _=>wq _ [nc 0,nc 1,nc 2,nc 3,nc 4,nc 5,nc 6,nc 7] [] ⟨hn 0,hn 1,hn 2,hn 3,hn 4,hn 5,hn 6,hn 7,trivial⟩ (by
    show TJ _=_;simp only[TJ,fc,eQ,uw,hw];rfl)⟩⟩ aK
 ·exact aq1 r h h9 aK
theorem aq6 (op:BinOp) (a b:Int):0<=bits op .u16 a b/\bits op .u16 a b<=65535:=by
 unfold bits;rw[H3];omega
theorem aq7 (x:Int):0<=xF x/\xF x<=65535:=by
 unfold xF;cases(bits .and .u16 x 32768!=0)with
 |true=>exact aq6 .xor (u16.wrap (x*2^1)) 4129
 |false=>
  simp only[cond_false];rw[H3];omega
theorem aq8 (f:Nat->Int):∀n,0<=jh f n/\jh f n<=65535
 |0=>⟨(by decide:(0:Int)<=65535),(by decide:(65535:Int)<=65535)⟩
 |n+1=>aq7 _
theorem abB {f g:Nat->Int}:∀n,(∀j,j<n->f j=g j)->jh f n=jh g n
 |0,_=>rfl
 |n+1,h=>by
  show Cx (jh f n) (f n)=Cx (jh g n) (g n);rw[abB n (λj hj=>h j (by omega)),h n (by omega)]
theorem aq9 {x:Int} (hx:0<=x/\x<=65535):bits .or .u16 (u16.wrap (u16.wrap (u8.wrap (iM x (2^8)))*2^8)) (u16.wrap (u8.wrap x))=x:=by
 have e1:u8.wrap (iM x (2^8))=x/256:=by
  rw[wA,sL _ (by decide)];show x/256%256=x/256;omega
 have e2:u8.wrap x=x%256:=wA x;have e3:u16.wrap (u16.wrap (x/256)*2^8)=x/256*256:=by
  rw[H3,H3];omega
 have e4:u16.wrap (x%256)=x%256:=by rw[H3];omega
 rw[e1,e2,e3,e4];obtain⟨a,ha⟩:∃a:Nat,x/256=a:=⟨(x/256).toNat,by omega⟩;obtain⟨b,hb⟩:∃b:Nat,x%256=b:=⟨(x%256).toNat,by omega⟩;have sY:a<256:=by omega
 have uL:b<256:=by omega
 rw[ha,hb];unfold bits;have h1:(jq 16 ((a:Int)*256)).toNat=a*256:=by simp only[A7];omega
 have h2:(jq 16 (b:Int)).toNat=b:=by simp only[A7];omega
 have h3:(a*256|||b)=a*256+b:=by
  have:=Nat.shiftLeft_add_eq_or_of_lt (i:=8) (b:=b) (by omega) a;rw[Nat.shiftLeft_eq]at this;exact this.symm
 show u16.wrap (((jq 16 ((a:Int)*256)|||jq 16 (b:Int)).toNat:Nat):Int)=_;rw[BitVec.toNat_or,h1,h2,h3,H3];omega
def Hu (n:Nat) (f:Nat->Int):Int:=jh (y_ (ca 3 (cZ [165,1,n]) f) 1) (3+n-1)
def py (n:Nat) (f:Nat->Int):Int:=u8.wrap (iM (Hu n f) (2^8))
def pz (n:Nat) (f:Nat->Int):Int:=u8.wrap (Hu n f)
def yw (n:Nat):Prop:=n=3\/n=4\/n=5\/n=6\/n=9
theorem aq_ {n:Nat} (h:yw n) (cr:(Nat->Int)->Nat->Int) (f:Nat->Int) (hi lo:Int) (us:List ab) (d:Nat) (K:VK Empty):AP cr n f hi lo us d K=AO cr n f hi lo us d K:=by
 rcases h with rfl|rfl|rfl|rfl|rfl
 ·exact aqa ..
 ·exact aqb ..
 ·exact aqc ..
 ·exact aqd ..
 ·exact aqe ..
theorem ara {n:Nat} (h:yw n) (f:Nat->Int):(bh (n+5)).map (mX n f)=LW n f (py n f) (pz n f):=by
 rcases h with rfl|rfl|rfl|rfl|rfl<;>rfl
theorem arb {n:Nat} (h:yw n) (f:Nat->Int) (hi lo:Int) (us:List ab):∀j,j<n+2->lr (nq n f hi lo us) 1 j=y_ (ca 3 (cZ [165,1,n]) f) 1 j:=by
 have e:(bh (n+2)).map (lr (nq n f hi lo us) 1)=(bh (n+2)).map (y_ (ca 3 (cZ [165,1,n]) f) 1):=by
  rcases h with rfl|rfl|rfl|rfl|rfl<;>rfl
 intro j hj;have:=congrArg (λl=>l[j]?) e;simpa[mF hj]using this
theorem arc {n:Nat} (h:yw n) (f:Nat->Int) (hi lo:Int) (us:List ab):∀j,j<n->lr (nq n f hi lo us) 3 j=f j:=by
 have e:(bh n).map (lr (nq n f hi lo us) 3)=(bh n).map f:=by
  rcases h with rfl|rfl|rfl|rfl|rfl<;>rfl
 intro j hj;have:=congrArg (λl=>l[j]?) e;simpa[mF hj]using this
theorem ard {n:Nat} (h:yw n) (f:Nat->Int) (us:List ab) (d:Nat) {K:VK Empty} (hK:∀e:Nat,K (.agg [.int .i64 2,.int .i64 ((n+5:Nat):Int),.int .i64 0,.sl 1 0 n (n+e)]) (yk n f (py n f) (pz n f) us++[eg n e (lr (nq n f (py n f) (pz n f) us) 3)]) []):AO jh n f (py n f) (pz n f) us d K:=by
 have e1:jh (lr (nq n f (py n f) (pz n f) us) 1) (n+2)=Hu n f:=by
  unfold Hu;rw[abB (n+2) (arb h f _ _ us),show 3+n-1=n+2 by omega]
 have e2:=aq9 (aq8 (y_ (ca 3 (cZ [165,1,n]) f) 1) (3+n-1));have hn:0<n/\n<=9:=by unfold yw at h;omega
 refine⟨trivial,aH (λe=>?_) (λ_=>⟨⟨hn.1,by omega,by omega⟩,hK⟩)⟩;rw[e1]at e;have:(bits .or .u16 (u16.wrap (u16.wrap (py n f)*2^8)) (u16.wrap (pz n f)))=Hu n f:=e2;rw[this]at e;simp at e
theorem are (r:Sd.aF):yw (cB r):=abv r
theorem arf {n c:Nat} {f g:Nat->Int} (h:∀j,j<n->f j=g j):bw n f c=bw n g c:=by
 have e:bP n f=bP n g:=pH λj hj=>by rw[h j (List.mem_range.1 hj)]
 unfold bw;rw[e]
theorem arh {ids:List Nat} (n:Nat) (f:Nat->Int) (hi lo:Int) (us:List ab):ah ids (nq n f hi lo us)=(LW n f hi lo).map (λx=>dT .u8 x)++us:=by
 unfold nq;generalize LW n f hi lo=l;induction l with
 |nil=>simp only[uw,fc,ah,cl,cI]
 |cons x l ih=>simp only[eQ,fb,ah,cl,den,ih,fc]
theorem ari {n:Nat} (hn:yw n) (f:Nat->Int) {w:ae} {b c:Nat} (hc:n+5<=c) (aK:w.heap[b]?=some (.cells (bw (n+5) (mX n f) c) 5 (0,0))):
 aQ prog 48 #[.slice (some ⟨b,0,none⟩) (n+5) c] w λv w'=>∃b2 e,v=.agg #[.int .i64 2,.int .i64 ((n+5:Nat):Int),.int .i64 0,.slice (some ⟨b2,0,none⟩) n (n+e)]/\w.heap.size<=b2/\w'.heap[b2]?=some (.cells (bw n f (n+e)) 5 (0,0))/\Ch [] w w':=by
 obtain⟨d,rfl⟩:∃d,c=d+(n+5):=⟨c-(n+5),by omega⟩
 let us:List ab:=kO (d+(n+5)-(n+5)) (.int .u8 0)
 have S:St [] w (lits [b] [b] (yk n f (py n f) (pz n f) us)++av ([]:List Empty) []) w:=by
  refine St.LZ ?_;intro y hy;simp only[yk,lits,av,cI,bY,n9,or_false]at hy;subst hy;refine⟨rfl,aK.trans ?_⟩;simp only[ay,arh,<-ara hn f];unfold bw bP;rw[mG];rfl
 have cJ:Hd (AP jh n f (py n f) (pz n f) us d λv bl _=>∃e,v=.agg [.int .i64 2,.int .i64 ((n+5:Nat):Int),.int .i64 0,.sl 1 0 n (n+e)]/\bl=yk n f (py n f) (pz n f) us++[eg n e (lr (nq n f (py n f) (pz n f) us) 3)]):=⟨by
  rw[aq_ hn];exact ard hn f us d λe=>⟨e,rfl,rfl⟩⟩
 have hok:aG (G:=Empty) prog cR (qL Empty [Hn jh]):=kD (bF.cons (ap_ _) bF.nil);refine(eD (C:=fE prog cR (qL Empty [Hn jh]) (Dm prog) LV) hok.T hok.Q 60 (ids:=[b]) (λg i h=>by cases h) rfl S cJ.h).mono ?_;rintro v w' ⟨y,more,bl',ch',rfl,h1,S',hK⟩;obtain⟨v2,cD,bl2,yu,dw,S2,e,rfl,rfl⟩:=h_ (n0:=1) h1 (by simp) S' hK;have ht:List.take 1 ([b]++more)=[b]:=rfl;rw[ht]at yu dw S2;have hm:cD.length=1:=by simpa[yk]using dw
 match cD,hm with
 |[x],_=>
  have j8:ay ([b]++[x]) x (eg n e (lr (nq n f (py n f) (pz n f) us) 3))=⟨x,true,.cells (bw n f (n+e)) 5 (0,0)⟩:=by
   unfold ay;rw[yg,arf (arc hn f _ _ us)];rfl
  have S3:St [] w ([ay ([b]++[x]) b ⟨false,⟨5,(0,0)⟩,nq n f (py n f) (pz n f) us⟩,ay ([b]++[x]) x (eg n e (lr (nq n f (py n f) (pz n f) us) 3))]++av ch' []) w':=S2;rw[j8]at S3;refine⟨x,e,?_,(S3.own 1 _ rfl rfl).resolve_left (by simp),S3.at_ 1 _ rfl,S3.ch⟩;rw[yu];rfl
def C8:cP (LG cL):=λargs bl ch K=>match args,ch with
 |[.raw (.slice x n c)],.aX u::.core g fB::rest=>cond (bI bl.length bl) (∃(r:Sd.aF) (b:List ai),(n=cB r+5/\eA 5 n (mX (cB r) (j4 r)) x c b/\∀y∈b,y∈fB)/\
  ∀d:Nat,K (.agg [.int .i64 2,.int .i64 ((cB r+5:Nat):Int),.int .i64 0,.sl bl.length 0 (cB r) (cB r+d)]) (bl++[eg (cB r) d (j4 r)]) (.aX u::.core g fB::rest)) False
 |_,_=>False
theorem arj {gl:Nat->Option Nat}:Sound prog gl 48 C8:=by
 intro args ids bl ch R ms w0 w K hg hl S hc;unfold C8 at hc;split at hc
 ·rename_i x n c u g fB rest;cases hq:bI bl.length bl with
  |false=>rw[hq]at hc;exact hc.elim
  |true=>
   rw[hq]at hc;obtain⟨r,b,⟨rfl,hr,hb⟩,hK⟩:=hc;rcases hr.2 with⟨_,h0,_,_⟩|⟨bk,rfl,rfl⟩
   ·omega
   ·have aK:w.heap[bk]?=some (.cells (bw (cB r+5) (mX (cB r) (j4 r)) c) 5 (0,0)):=S.at' (x:=⟨bk,true,.cells (bw (cB r+5) (mX (cB r) (j4 r)) c) 5 (0,0)⟩) (by
     have:=hb _ Bb;refine qU _ ?_;show _∈dv u++((g.F.B++fB)++av rest R);exact qU _ (mH _ (qU _ this)))
    have ha:(aA ids [.raw (.slice (some ⟨bk,0,none⟩) (cB r+5) c)]).toArray=#[.slice (some ⟨bk,0,none⟩) (cB r+5) c]:=rfl;rw[ha];refine(ari (are r) (j4 r) hr.1 aK).mono ?_;rintro v w' ⟨b2,e,rfl,eo,qm,bT⟩;refine⟨_,[b2],_,_,?_,by simp[hl],?_,hK e⟩
    ·simp only[den,ah,cl,fb,fc,cI];rw[<-hl,j7]
    ·have em:ay (ids++[b2]) b2 (eg (cB r) e (j4 r))=⟨b2,true,.cells (bw (cB r) (j4 r) (cB r+e)) 5 (0,0)⟩:=by
      unfold ay;rw[yg];rfl
     rw[eZ _ _ _ _ hl,e_ _ _ (by rw[hl];exact hq)];simp only[lits,em];refine(S.new bT eo qm).perm ?_;rw[bN];exact jH.symm
 ·exact hc.elim
def Hv {G:Type}:cP G:=λargs bl ch K=>match args with
 |[.sl i 0 n c]=>(match bl[i]?with
  |some ⟨_,⟨5,(0,0)⟩,[.bH .u8 n' f,.bH .u8 d z]⟩=>∃r:Sd.aF,(RB r/\n=cB r/\n'=cB r/\f=j4 r/\c=cB r+d/\z=lq)/\K (.ao [.agg (jn r),.int .i64 0]) bl ch
  |_=>False)
 |_=>False
theorem ark (r:Sd.aF):cz 0 (.ao [.agg (jn r),.int .i64 0])=true:=rfl
theorem arl {G:Type} [Bl G] {gl:Nat->Option Nat}:Sound (G:=G) prog gl 49 Hv:=by
 intro args ids bl ch R ms w0 w K hg hl S hc;unfold Hv at hc;split at hc
 ·rename_i i n c;split at hc
  ·rename_i wr n' f d z hb;obtain⟨r,⟨hr,rfl,rfl,rfl,rfl,rfl⟩,hK⟩:=hc;have aK:=(fp hl S hb).2;have hd:ah ids [V.bH .u8 (cB r) (j4 r),.bH .u8 d lq]=(Ma r).map (λx=>dT .u8 x)++(bh d).map (λj=>dT .u8 (lq j)):=by
    simp only[ah,cl,cI,Ma,mG];rfl
   rw[hd]at aK;have ha:(aA ids [.sl i 0 (cB r) (cB r+d)]).toArray=#[.slice (some ⟨ids.getD i 0,0,none⟩) (cB r) (d+cB r)]:=by
    rw[Nat.add_comm d];rfl
   rw[ha];refine(aq5 r hr aK).mono ?_;rintro v w' ⟨rfl,bT⟩;refine⟨.ao [.agg (jn r),.int .i64 0],[],bl,ch,?_,by simpa using hl,by simpa using S.quiet bT,hK⟩;have:=fy (ids:=[]) (more:=ids++[]) (.ao [.agg (jn r),.int .i64 0]) (ark r);simpa using this.symm
  ·exact hc.elim
 ·exact hc.elim
theorem arn {G:Type}:gO (Hv (G:=G)):=by
 intro args bl ch K hc;unfold Hv at hc⊢;split at hc
 ·split at hc
  ·obtain⟨r,h,hK⟩:=hc;exact⟨r,h,hK,[],by simp⟩
  ·exact hc.elim
 ·exact hc.elim
theorem aro:gO C8:=by
 intro args bl ch K hc;unfold C8 at hc⊢;split at hc
 ·revert hc;cases bI bl.length bl with
  |false=>exact λh=>h.elim
  |true=>
   rintro⟨r,b,h,hK⟩;exact⟨r,b,h,λd=>⟨hK d,_,rfl⟩⟩
 ·exact hc.elim
end
end Go.Proofs.YtggfpcggakghnaaGreatDoor
namespace Sd
variable{C:aN} {s:aa} {c:Core} {l:List (Int×aF)}
def aa.at_ (s:aa) (c:Core) (l:List (Int×aF)):Prop:=(∃x,s.c={c with head:=x})/\s.bz=l
theorem Dq (h:s.at_ c l):∃x r,s=⟨{c with head:=x},l,r⟩:=by
 obtain⟨⟨x,hx⟩,hl⟩:=h;obtain⟨sc,ss,sr⟩:=s;simp only at hx hl;exact⟨x,sr,by rw[hx,hl]⟩
theorem TK (h:s.at_ c l) (k:Int) (r:aF):(s.tell k r).at_ c (l++[(k,r)]):=by
 obtain⟨x,q,rfl⟩:=Dq h;exact⟨⟨x,rfl⟩,rfl⟩
theorem Mc (h:s.at_ c l) (k so n co w:Int):(s.record C k so n co w).at_ c l:=by
 obtain⟨x,q,rfl⟩:=Dq h;exact⟨⟨_,rfl⟩,rfl⟩
theorem abC (h:s.at_ c l) (k n e:Int):(s.refuse C k n e).at_ c (l++[(k,{kind:=132,seq:=n,code:=e})]):=Mc (TK h _ _) _ _ _ _ _
theorem arp (h:s.at_ c l) (k e:Int):(s.gY C k e).at_ c l:=Mc h _ _ _ _ _
def heard (ag:az) (k:Int) (r:aF):List (Int×aF):=if linked k&&ag.on k then[(k,r)]else[]
def pB (c:Core) (k:Int) (d:dG):Core:={c with doors:=λj=>if j=k.toNat-1 then d else c.doors j}
theorem arq (h:s.at_ c l) {k:Int} {m:bo} {N:Nat} {f:aw} (ht:C.take N f=some m) (hr:eJ c.p k m.role=true) (hm:(c.doors (k.toNat-1)).many<4294967295):
 (s.jw C k N f).at_ (pB c k ⟨(c.doors (k.toNat-1)).many+1,true,C.au (c.p.k 3) k ((c.doors (k.toNat-1)).many+1)⟩) (l++[(k,{kind:=129,au:=C.au (c.p.k 3) k ((c.doors (k.toNat-1)).many+1)})]):=by
 obtain⟨x,q,rfl⟩:=Dq h;unfold aa.jw;rw[ht];dsimp only;rw[if_neg (by rw[hr];decide),if_neg (by omega)];exact Mc (TK ⟨⟨x,rfl⟩,rfl⟩ _ _) _ _ _ _ _
theorem ars (h:s.at_ c l) {k:Int} {m:bo} {N:Nat} {f:aw} (ht:C.take N f=some m) (hr:eJ c.p k m.role=false):(s.jw C k N f).at_ c (l++[(k,{kind:=132,seq:=0,code:=18})]):=by
 obtain⟨x,q,rfl⟩:=Dq h;unfold aa.jw;rw[ht];dsimp only;rw[if_pos hr];exact abC ⟨⟨x,rfl⟩,rfl⟩ _ _ _
theorem art (h:s.at_ c l) {k:Int} {m:bo} {f:aw} (ht:C.take 2 f=some m) (ho:(c.doors (k.toNat-1)).gy=true) (hr:C.right (c.p.k (k.toNat-1)) k m.role (c.doors (k.toNat-1)).au (λj=>f (2+j))=false):
 (s.prove C k 10 f).at_ (pB c k ⟨(c.doors (k.toNat-1)).many,false,λ_=>0⟩) l:=by
 obtain⟨x,q,rfl⟩:=Dq h;unfold aa.prove;rw[if_neg (by decide),ht];dsimp only;rw[if_neg (by rw[ho];decide),if_pos hr];exact arp ⟨⟨x,rfl⟩,rfl⟩ _ _
theorem aru (h:s.at_ c l) {k:Int} {m:bo} {f:aw} (ht:C.take 2 f=some m) (ho:(c.doors (k.toNat-1)).gy=true) (hr:C.right (c.p.k (k.toNat-1)) k m.role (c.doors (k.toNat-1)).au (λj=>f (2+j))=true)
 (hk:eJ c.p k m.role=true) {ag:az} {e:Int} (hb:az.dU c.p c.ag k m.role (C.key (c.p.k (k.toNat-1)) k m.role (c.doors (k.toNat-1)).au)=(ag,e)):
 (s.prove C k 10 f).at_ (if e≠0 then pB c k ⟨(c.doors (k.toNat-1)).many,false,λ_=>0⟩else{pB c k ⟨(c.doors (k.toNat-1)).many,false,λ_=>0⟩with ag:=ag})
  (l++[(k,if e≠0 then{kind:=132,seq:=0,code:=e}else{kind:=130,role:=m.role,c_:=c.t.aE,af:=c.t.af})]):=by
 obtain⟨x,q,rfl⟩:=Dq h;unfold aa.prove;rw[if_neg (by decide),ht];dsimp only;rw[if_neg (by rw[ho];decide),if_neg (by rw[hr];decide),if_neg (by rw[hk];decide),hb];dsimp only;split
 ·exact abC ⟨⟨x,rfl⟩,rfl⟩ _ _ _
 ·exact Mc (TK ⟨⟨x,rfl⟩,rfl⟩ _ _) _ _ _ _ _
def az.su (C:aN) (p:aJ) (t:az) (k n:Int):az:=t.dW (k.toNat-1) {(t.aj (k.toNat-1))with seen:=C.fh (t.aj (k.toNat-1)).seen n,on:=true,eB:=.start p.b_}
abbrev Hw:=Core×List (Int×aF)
def arv (c:Core) (k n e:Int):Hw:=(c,[(k,{kind:=132,seq:=n,code:=e})])
def goC (c:Core) (t:Tok):Hw:=({c with t:=t,q:=Q.drop c.q t.aE},heard c.ag c.t.aE {kind:=134,c_:=t.aE,af:=t.af}++heard c.ag t.aE {kind:=133,af:=t.af})
def okC (x:Hw) (k n:Int):Hw:=(x.1,x.2++[(k,{kind:=131,seq:=n})])
def Fv (c:Core) (k:Int) (m:bo):Hw:=
 let r:=fI c.p c.t c.p.queue c.q k m.now
 if r.2.2.1≠0 then arv c k m.seq r.2.2.1
 else okC (if 0<r.2.1 then goC {c with q:=r.2.2.2} r.1 else({c with q:=r.2.2.2,t:=r.1},[])) k m.seq
def ft (l:List (Int×aF)) (k:Int):List aF:=(l.filter λy=>decide (y.1=k)).map (·.2)
def lR (l:List aF):aF:=l.getLastD {kind:=0}
theorem arw (a b:List (Int×aF)) (k:Int):ft (a++b) k=ft a k++ft b k:=by simp[ft]
theorem arx (k:Int) (r:aF):ft [(k,r)] k=[r]:=by simp[ft]
theorem Yz (s:aa) (t:Tok) (how n:Int):(s.goes C t how n).c.t=t:=by
 obtain⟨x,e⟩:=aa.FJ C s t how n;rw[e]
end Sd
namespace Sd
variable{C:aN} {s:aa} {c:Core} {l:List (Int×aF)} {k:Int} {m:bo}
theorem ary {ag:az} (hk:1<=k/\k<=3):ag.on k=ag.dt k:=by unfold az.on;rw[if_neg (by omega),if_neg (by omega)]
structure A0 (C:aN):Prop where
 jw:∀(r:Int) (f:aw),0<=r/\r<=3->f 0=1->f 1=r->∃m,C.take 2 f=some m/\m.role=r
 prove:∀(r:Int) (f:aw),0<=r/\r<=3->f 0=2->f 1=r->∃m,C.take 2 f=some m/\m.role=r
 fh:∀(w:gi) (n:Int),0<=n/\n<=4294967295->0<=w.high->(w.any=false\/w.high<n)->C.fh w n≠w/\(C.fh w n).high=n
structure sw (c:Core) (k:Int) (key:aw) (role hi:Int):Prop where
 lk:1<=k/\k<=3
 on:c.ag.dt k=true
 key:(c.ag.aj (k.toNat-1)).key=key
 role:(c.ag.aj (k.toNat-1)).role=role
 any:(c.ag.aj (k.toNat-1)).seen.any=false\/(c.ag.aj (k.toNat-1)).seen.high<=hi
 hi:0<=(c.ag.aj (k.toNat-1)).seen.high
theorem Dr (hk:1<=k/\k<=3) (t:az):t.dt k=(t.aj (k.toNat-1)).on:=by unfold az.dt;simp[hk.1,hk.2]
theorem sw.CA {c c':Core} {key:aw} {role hi:Int} (h:sw c k key role hi) (e:c'.ag=c.ag):sw c' k key role hi:=by
 obtain⟨a1,a2,a3,a4,a5,a6⟩:=h;exact⟨a1,by rw[e];exact a2,by rw[e];exact a3,by rw[e];exact a4,by rw[e];exact a5,by rw[e];exact a6⟩
theorem sw.b_ {key:aw} {role hi n:Int} (hT:A0 C) (h:sw c k key role hi) (hn:hi<n/\0<=n/\n<=4294967295):C.fh (c.ag.aj (k.toNat-1)).seen n≠(c.ag.aj (k.toNat-1)).seen/\sw {c with ag:=c.ag.su C c.p k n} k key role n:=by
 have hs:=hT.fh (c.ag.aj (k.toNat-1)).seen n hn.2 h.hi (by rcases h.any with e|e;exact .inl e;exact .inr (by omega));refine⟨hs.1,⟨h.lk,?_,?_,?_,?_,?_⟩⟩
 ·rw[Dr h.lk];simp[az.su,az.dW]
 ·simpa[az.su,az.dW]using h.key
 ·simpa[az.su,az.dW]using h.role
 ·right;simp[az.su,az.dW,hs.2]
 ·simp[az.su,az.dW,hs.2,hn.2.1]
theorem sw.other {key:aw} {role hi n k':Int} (h:sw c k key role hi) (hk:1<=k'/\k'<=3) (bZ:k'≠k):sw {c with ag:=c.ag.su C c.p k' n} k key role hi:=by
 have hl:=h.lk;have e:((c.ag.su C c.p k' n).aj (k.toNat-1))=c.ag.aj (k.toNat-1):=by
  unfold az.su az.dW;dsimp only;rw[if_neg (by omega)]
 refine⟨h.lk,?_,by rw[<-h.key];exact congrArg _ e,by rw[<-h.role];exact congrArg _ e,?_,?_⟩
 ·rw[Dr h.lk];have:=h.on;rw[Dr h.lk]at this;rw[<-this];exact congrArg _ e
 ·have:=h.any;rwa [<-e]at this
 ·have:=h.hi;rwa [<-e]at this
end Sd
namespace Sd
variable{C:aN}
structure HS (p:aJ) (a b:Int) (ka kb:aw) (ra rb:Int) (c:Core) (ha hb:Int) (t:Tok) (mode:Int) (bG:Label) (q:List Ask):Prop where
 p:c.p=p
 sa:sw c a ka ra ha
 sb:sw c b kb rb hb
 t:c.t=t
 q:c.q=q
 m:c.mode=mode
 mb:c.fm=bG
variable{p:aJ} {a b:Int} {ka kb:aw} {ra rb:Int} {c:Core} {ha hb:Int} {t:Tok} {mode:Int} {bG:Label} {q:List Ask} {m:bo}
theorem HS.swap (h:HS p a b ka kb ra rb c ha hb t mode bG q):HS p b a kb ka rb ra c hb ha t mode bG q:=⟨h.p,h.sb,h.sa,h.t,h.q,h.m,h.mb⟩
theorem HS.b_ (hT:A0 C) (h:HS p a b ka kb ra rb c ha hb t mode bG q) (hab:a≠b) {n:Int} (hn:ha<n/\0<=n/\n<=4294967295):
 C.fh (c.ag.aj (a.toNat-1)).seen n≠(c.ag.aj (a.toNat-1)).seen/\HS p a b ka kb ra rb {c with ag:=c.ag.su C c.p a n} n hb t mode bG q:=by
 have h1:=h.sa.b_ hT hn;exact⟨h1.1,⟨h.p,h1.2,h.sb.other h.sa.lk hab,h.t,h.q,h.m,h.mb⟩⟩
abbrev bt (C:aN) (c:Core) (k:Int) (m:bo):Core:={c with ag:=c.ag.su C c.p k m.seq}
end Sd
namespace Sd
variable{C:aN} {s:aa} {c:Core} {k r:Int}
def aa.clear (s:aa):aa:=⟨s.c,[],[]⟩
def iW (C:aN) (c:Core) (k:Int):aw:=C.au (c.p.k 3) k ((c.doors (k.toNat-1)).many+1)
def qP (C:aN) (c:Core) (k:Int):Core:=pB c k ⟨(c.doors (k.toNat-1)).many+1,true,iW C c k⟩
def Ds (c:Core) (k:Int):Core:=pB c k ⟨(c.doors (k.toNat-1)).many+1,false,λ_=>0⟩
def A1 (C:aN) (c:Core) (k r:Int):Core:={Ds c k with ag:=c.ag.dW (k.toNat-1) ⟨true,.start c.p.b_,r,C.key (c.p.k (k.toNat-1)) k r (iW C c k),⟨false,0,0⟩⟩}
theorem abD (c:Core) (k:Int) (d:dG):pB (pB c k d) k ⟨((pB c k d).doors (k.toNat-1)).many,false,λ_=>0⟩=pB c k ⟨d.many,false,λ_=>0⟩:=by
 unfold pB;simp only[if_true];congr 1;funext j;split<;>rfl
theorem abE {N:Nat} {f:aw} (h0:f 0=1) (hN:0<N):s.item C k 0 N f=s.jw C k N f:=by
 unfold aa.item;rw[if_neg (by decide),if_pos ⟨hN,h0⟩]
theorem abF {N:Nat} {f:aw} (h0:f 0=2) (hN:0<N):s.item C k 0 N f=s.prove C k N f:=by
 unfold aa.item;rw[if_neg (by decide),if_neg (by omega),if_pos ⟨hN,h0⟩]
variable{f1 f2:aw}
theorem arz (hT:A0 C) (h:s.at_ c []) (hr:0<=r/\r<=3) (ht:eJ c.p k r=true) (hm:(c.doors (k.toNat-1)).many<4294967295) (h0:f1 0=1) (h1:f1 1=r):
 (s.item C k 0 2 f1).at_ (qP C c k) [(k,{kind:=129,au:=iW C c k})]:=by
 obtain⟨m,e1,e2⟩:=hT.jw r f1 hr h0 h1;rw[abE h0 (by decide)];exact arq h e1 (by rw[e2];exact ht) hm
theorem TM (hT:A0 C) (h:s.at_ c []) (hr:0<=r/\r<=3) (ht:eJ c.p k r=false) (h0:f1 0=1) (h1:f1 1=r):
 (s.item C k 0 2 f1).at_ c [(k,{kind:=132,seq:=0,code:=18})]:=by
 obtain⟨m,e1,e2⟩:=hT.jw r f1 hr h0 h1;rw[abE h0 (by decide)];exact ars h e1 (by rw[e2];exact ht)
theorem arA {p:aJ} {t:az} {key:aw} (hk:1<=k/\k<=3) (hr:0<=r/\r<=3) (hs:t.dt k=true\/t.many<p.eS):az.dU p t k r key=(t.dW (k.toNat-1) ⟨true,.start p.b_,r,key,⟨false,0,0⟩⟩,0):=by
 unfold az.dU;rw[if_neg (by omega),if_neg (by rintro⟨a,b⟩;rcases hs with e|e;rw[e]at a;cases a;omega)]
theorem abG (hT:A0 C) (h:s.at_ (qP C c k) []) (hk:1<=k/\k<=3) (hr:0<=r/\r<=3) (ht:eJ c.p k r=true) (h0:f2 0=2) (h1:f2 1=r) (hp:C.right (c.p.k (k.toNat-1)) k r (iW C c k) (λj=>f2 (2+j))=true)
 (hs:c.ag.dt k=true\/c.ag.many<c.p.eS):(s.item C k 0 10 f2).at_ (A1 C c k r) [(k,{kind:=130,role:=r,c_:=c.t.aE,af:=c.t.af})]:=by
 obtain⟨m,e1,rfl⟩:=hT.prove r f2 hr h0 h1;rw[abF h0 (by decide)];have hd:(qP C c k).doors (k.toNat-1)=⟨(c.doors (k.toNat-1)).many+1,true,iW C c k⟩:=if_pos rfl;have:=aru h e1 (by rw[hd]) (by rw[hd];exact hp) ht (arA (key:=C.key ((qP C c k).p.k (k.toNat-1)) k m.role ((qP C c k).doors (k.toNat-1)).au) hk hr hs);rw[if_neg (by decide),if_neg (by decide)]at this;have e:pB (qP C c k) k ⟨((qP C c k).doors (k.toNat-1)).many,false,λ_=>0⟩=Ds c k:=abD c k _;rw[e,hd]at this;exact this
theorem arB (hT:A0 C) (h:s.at_ (qP C c k) []) (hr:0<=r/\r<=3) (h0:f2 0=2) (h1:f2 1=r) (hp:C.right (c.p.k (k.toNat-1)) k r (iW C c k) (λj=>f2 (2+j))=false):(s.item C k 0 10 f2).at_ (Ds c k) []:=by
 obtain⟨m,e1,rfl⟩:=hT.prove r f2 hr h0 h1;rw[abF h0 (by decide)];have hd:(qP C c k).doors (k.toNat-1)=⟨(c.doors (k.toNat-1)).many+1,true,iW C c k⟩:=if_pos rfl;have:=art h e1 (by rw[hd]) (by rw[hd];exact hp);have e:pB (qP C c k) k ⟨((qP C c k).doors (k.toNat-1)).many,false,λ_=>0⟩=Ds c k:=abD c k _;rw[e]at this;exact this
theorem Md {k':Int} (hk:1<=k/\k<=3) (yY:1<=k'/\k'<=3) (bZ:k≠k') (h:c.ag.dt k'=false):(A1 C c k r).ag.dt k'=false:=by
 rw[Dr yY]at h⊢;unfold A1 az.dW;dsimp only;rw[if_neg (by omega)];exact h
end Sd
namespace Go.Proofs.YtggfpcggakghnaaGreatDoor
section
open Go Go.RowKit Go.BigFrame Sx Vx
theorem arC {f g:Nat->Int} {n j:Nat} (h:j<n):ca n f g j=f j:=by unfold ca;rw[Il h];rfl
theorem arD {f g:Nat->Int} {n j:Nat}:ca n f g (n+j)=g j:=by unfold ca;rw[M5 (by omega)];simp
theorem xor_self (kd:eE) (x:Int):bits .xor kd x x=kd.wrap 0:=by simp[bits]
theorem abH {f g:Nat->Int}:∀n,(∀j,j<n->f j=g j)->mI f g n=0
 |0,_=>rfl
 |n+1,h=>by
  show bits .or .u8 (mI f g n) (bits .xor .u8 (f n) (g n))=0;rw[abH n λj hj=>h j (by omega),h n (by omega),xor_self];rfl
theorem abI {f g:Nat->Int} {n:Nat} (h:∀j,j<n->f j=g j):mh n f g=true:=by
 unfold mh;rw[abH n h];rfl
theorem arE (kn:Nat) (kf nc pf:Nat->Int) (s r:Int) (h:∀j,j<8->pf j=fq kn kf s r nc j):oT kn kf s r nc pf=true:=abI h
theorem abJ {k r:Int} (hk:k=1\/k=2) {f:Nat->Int} (hr:0<=r/\r<=3) (h0:f 0=k) (h1:f 1=r):aP 2 f=some {Sd.l5 k with role:=r}:=by
 unfold aP;rw[if_neg (by decide),h0];have e:pd k=some [tL]:=by unfold pd;rw[if_pos hk]
 rw[e];show runM 2 f [tL] 1 (Sd.l5 k)=_;unfold runM;have en:tL.num (λj=>f (1+j))=r:=h1;rw[if_neg (by decide),en,if_neg (by show¬(r<0\/3<r);omega)];rfl
theorem arF {w:Sd.gi} {n:Int} (h:w.any=false\/w.high<n):dH w n≠w/\(dH w n).high=n:=by
 unfold dH;by_cases ha:w.any=false
 ·rw[if_pos ha];exact⟨(λe=>by rw[<-e]at ha;cases ha),rfl⟩
 ·rw[if_neg ha,if_pos (h.resolve_left ha)];exact⟨(λe=>by have h1:=congrArg Sd.gi.high e;have:=h.resolve_left ha;simp only at h1;omega),rfl⟩
theorem Hx:Sd.A0 (aO aP):=
 ⟨λr f hr h0 h1=>⟨_,abJ (.inl rfl) hr h0 h1,rfl⟩,λr f hr h0 h1=>⟨_,abJ (.inr rfl) hr h0 h1,rfl⟩,λw n _ _ h=>arF h⟩
variable{fr:Sd.aF->Nat×Sd.aw}
def A2 (bl:List VB) (x:V):Option ((Nat×Nat)×Nat×(Nat->Int)):=match x with
 |.sl i 0 n c=>(match bl[i]?with
  |some ⟨_,⟨5,(0,0)⟩,.bH .u8 n' f::_⟩=>some ((n,c),n',f)
  |_=>none)
 |_=>none
theorem abK {ids:List Nat} {bl:List VB} {X:List ai} {ms:List Nat} {w0 w:ae} (hl:ids.length=bl.length) (S:St ms w0 (lits ids ids bl++X) w) {x:V} {n c n':Nat} {f:Nat->Int} (h:A2 bl x=some ((n,c),n',f)) (hn:n<=n'):
 ∃b,den ids x=.slice (some ⟨b,0,none⟩) n c/\bV w b 0 n f:=by
 unfold A2 at h;split at h
 ·rename_i i n1 c1;split at h
  ·rename_i wr n2 f2 r hb;cases h;refine⟨_,rfl,λj hj=>?_⟩;have aK:=(fp hl S hb).2;rw[cell_of aK,eh];simp only[ah,cl,iX];rw[gI (by simp;omega)];simp[mF (show j<n' by omega)]
  ·cases h
 ·cases h
theorem abL {w:ae} {b n c:Nat} {f:Nat->Int} (h:bV w b 0 n f) (hn:n<=1000000) (hc:n<=c):dD w (some ⟨b,0,none⟩) n c f:=
 ⟨hn,hc,(λe=>nomatch e),λx e j hj=>by
  obtain rfl:=ck e;rw[hU];exact h j hj⟩
def Hy (bl:List VB):Prop:=∃tg,bl[0]?=some (j3 tg)
theorem abM {ids:List Nat} {bl:List VB} {X:List ai} {ms:List Nat} {w0 w:ae} (hg:Gl gS ids) (hl:ids.length=bl.length) (S:St ms w0 (lits ids ids bl++X) w) (h:Hy bl):∃tg,w.heap[1]?=some (.cells (aq .u32 64 cx) tg (0,0)):=by
 obtain⟨tg,h⟩:=h;have aK:=(fp hl S h).2;rw[(hg 1 0 rfl).2]at aK;refine⟨tg,?_⟩;rw[aK];simp only[j3,ah,cl,cI];rfl
theorem arG {l:List V} {q:List Int} {m:Nat} {g:Nat->Int} (h:k7 l=some q) (hq:q.length=m) (hg:∀j,j<m->cZ q j=g j) (ids:List Nat):den ids (.agg l)=.agg (aq .u8 m g):=by
 simp only[den,xA ids h,hq];rw[Ef hg];rfl
def wu (N:Nat) (F:Nat->(Nat->Int)->Int->Int->(Nat->Int)->Nat->Int):cP (LG fr):=λargs bl ch K=>match args with
 |[x,.int .i64 s,.int .i64 r,.agg l]=>(match A2 bl x,k7 l with
  |some ((n,c),n',f),some q=>∃nc:Nat->Int,((n=n'/\n<=c/\n<=64)/\(0<=s/\s<4294967296)/\(0<=r/\r<4294967296)/\q.length=8/\(∀j,j<8->cZ q j=nc j)/\Hy bl)/\K (.agg (ints N (F n f s r nc))) bl ch
  |_,_=>False)
 |_=>False
theorem abN (ids:List Nat) (N:Nat) (g:Nat->Int):den ids (.agg (ints N g))=.agg (aq .u8 N g):=by
 simp only[den,xB]
theorem abO {N:Nat} {F:Nat->(Nat->Int)->Int->Int->(Nat->Int)->Nat->Int} {f:eN} (hF:∀(ka:Option aI) (kn kc:Nat) (kf:Nat->Int) (s r:Int) (nc:Nat->Int),vg ka kn->0<=s/\s<4294967296->0<=r/\r<4294967296->∀{tG:aD} (w:ae),w.heap[1]?=some (.cells (aq .u32 64 cx) tG (0,0))->dD w ka kn kc kf->
 aQ prog f #[.slice ka kn kc,.int .i64 s,.int .i64 r,.agg (aq .u8 8 nc)] w λv w1=>v=.agg (aq .u8 N (F kn kf s r nc))/\Ch [] w w1):Sound prog gS f (wu (fr:=fr) N F):=by
 intro args ids bl ch R ms w0 w K hg hl S hc;unfold wu at hc;split at hc
 ·rename_i x s r l;split at hc
  ·rename_i n c n' g q hb hlq;obtain⟨nc,⟨⟨rfl,A3,hn⟩,hs,hr,hq,jc,kr⟩,hK⟩:=hc;obtain⟨b,hx,h8⟩:=abK hl S hb (dE _);obtain⟨tg,hG⟩:=abM hg hl S kr;have ea:(aA ids [x,.int .i64 s,.int .i64 r,.agg l]).toArray=#[.slice (some ⟨b,0,none⟩) n c,.int .i64 s,.int .i64 r,.agg (aq .u8 8 nc)]:=by
    simp only[aA,hx,arG hlq hq jc];rfl
   rw[ea];refine(hF _ n c g s r nc ⟨.inr ⟨_,rfl⟩,hn⟩ hs hr w hG (abL h8 (by omega) A3)).mono ?_;rintro v w' ⟨rfl,bT⟩;exact⟨.agg (ints N (F n g s r nc)),[],bl,_,(abN _ _ _).symm,by simpa using hl,by simpa using S.quiet bT,hK⟩
  ·exact hc.elim
 ·exact hc.elim
theorem TN {N:Nat} {F:Nat->(Nat->Int)->Int->Int->(Nat->Int)->Nat->Int}:gO (wu (fr:=fr) N F):=by
 intro args bl ch K hc;unfold wu at hc⊢;split at hc
 ·split at hc
  ·obtain⟨nc,h,hK⟩:=hc;exact⟨nc,h,hK,[],by simp⟩
  ·exact hc.elim
 ·exact hc.elim
theorem abP:Sound prog gS 16 (wu (fr:=fr) 8 fq):=abO λka kn kc kf s r nc h1 h2 h3 _ w hG hk=>Xz ka kn kc kf s r nc h1 h2 h3 w hG hk
theorem arH:Sound prog gS 37 (wu (fr:=fr) 32 gQ):=abO λka kn kc kf s r nc h1 h2 h3 _ w hG hk=>XA ka kn kc kf s r nc h1 h2 h3 w hG hk
def Hz:cP (LG fr):=λargs bl ch K=>match args with
 |[x,.int .i64 s,.int .i64 m]=>(match A2 bl x with
  |some ((n,c),n',f)=>((n=n'/\n<=c/\(1<=n/\n<=64))/\(0<=s/\s<4294967296)/\(0<=m/\m<4294967296)/\Hy bl)/\K (.agg (ints 8 (fG n f s m))) bl ch
  |_=>False)
 |_=>False
theorem arI:Sound prog gS 15 (Hz (fr:=fr)):=by
 intro args ids bl ch R ms w0 w K hg hl S hc;unfold Hz at hc;split at hc
 ·rename_i x s m;split at hc
  ·rename_i n c n' g hb;obtain⟨⟨⟨rfl,A3,hn⟩,hs,hm,kr⟩,hK⟩:=hc;obtain⟨b,hx,h8⟩:=abK hl S hb (dE _);obtain⟨tg,hG⟩:=abM hg hl S kr;have ea:(aA ids [x,.int .i64 s,.int .i64 m]).toArray=#[.slice (some ⟨b,0,none⟩) n c,.int .i64 s,.int .i64 m]:=by
    simp only[aA,hx];rfl
   rw[ea];refine(Xq _ n c g s m hn hs hm w hG (abL h8 (by omega) A3)).mono ?_;rintro v w' ⟨rfl,bT⟩;exact⟨.agg (ints 8 (fG n g s m)),[],bl,_,(abN _ _ _).symm,by simpa using hl,by simpa using S.quiet bT,hK⟩
  ·exact hc.elim
 ·exact hc.elim
theorem arJ:gO (Hz (fr:=fr)):=by
 intro args bl ch K hc;unfold Hz at hc⊢;split at hc
 ·split at hc
  ·exact⟨hc.1,hc.2,[],by simp⟩
  ·exact hc.elim
 ·exact hc.elim
def TO:(aZ->V)->Op->List VB->List (LG fr)->VK (LG fr)->Prop:=λe op bl ch K=>match op with
 |.call c=>(match c.callee,c.args.toList,c.argTypes.toList with
  |.builtin .append,[s,xs],[t,tx]=>(match prog.underlying t,prog.underlying tx with
   |some (.slice T),some (.slice _)=>(match e xs with
    |.sl i 0 m cc=>(match bl[i]?with
     |some ⟨_,_,l⟩=>(match e s with
      |.sl j 0 n c=>(match bl[j]?with
       |some ⟨true,⟨5,(0,0)⟩,l0⟩=>(match k7 l0,k7 l with
        |some q0,some q=>cond (ax T 5&&(ax q0.length n&&(ax n c&&(ax q.length m&&(bA 1 m&&(bA (n+m) 1000000&&bI bl.length bl))))))
         (∀d:Nat,K (.sl bl.length 0 (n+m) (n+m+d)) (bl++[eg (n+m) d (cZ (q0++q))]) ch) False
        |_,_=>False)
       |_=>False)
      |_=>(match rG prog T,ch with
       |some (z,bG),.aX u::.core g fB::.row r::rest=>cond (ax (bW l) (m*z)&&(ba 0 l&&(lF l&&bA bG 10000000)))
        ((e s=r.v/\r.T=T/\r.z=z/\r.n+m<=1000000)/\∀r2:bO,r2.T=r.T->r2.z=r.z->r2.os=r.os++ah [] l->r2.n=r.n+m->K r2.v bl (.aX u::.core g fB::.row r2::rest)) False
       |_,_=>False))
     |_=>False)
    |_=>False)
   |_,_=>False)
  |_,_,_=>False)
 |_=>False
theorem arK {P:aC} {w:ae} {T n c m:Nat} {f g:Nat->Int} {b:Nat} (jc:n<=c) (aK:w.heap[b]?=some (.cells (bw n f c) T (0,0)))
 {t tx ty:aD} {xv:ab} (hs:Src P 1 tx xv m (bP m g) w) (ht:P.underlying t=some (.slice T)) (hi:(P.info? T).map (λi=>(i.zero.map (·.cells),i.size,i.bytes))=some (some #[.int .u8 0],1,1))
 (hb:n+m<=140737488355328) (hg:c<n+m):
 ∃b' c' w',(mD #[t,tx] ty #[.slice (some ⟨b,0,none⟩) n c,xv]).run P w=.ok (.slice (some ⟨b',0,none⟩) (n+m) c') w'/\Ch [] w w'/\n+m<=c'/\w.heap.size<=b'/\w'.heap[b']?=some (.cells (bw (n+m) (ca n f g) c') T (0,0)):=by
 obtain⟨i,bS,hi⟩:=gH.1 hi;simp only[bd]at hi;obtain⟨hz,di,gW⟩:=hi;obtain⟨z0,kV,mL⟩:=gH.1 hz;have iQ:Src P i.size tx xv m (bP m g) w:=by rw[di];exact hs
 have h63:n+m<=maxLen:=by unfold maxLen;omega
 have hold:(Builtin.firstCells i.size n (.slice (some ⟨b,0,none⟩) n c)).run P w.drew=.ok (bP n f).toArray w.drew:=by
  refine run_firstCells_some (P:=P) w.drew i.size n ⟨b,0,none⟩ n c (bP n f) (by rw[fY,di,Nat.mul_one]) (λj v hj=>?_);obtain⟨jM,rfl⟩:=wP hj;rw[hU];have:w.drew.cell? ⟨b,0+j,none⟩=w.cell? ⟨b,j,none⟩:=by simp
  rw[this,cell_of aK];simp only[bw,iX];rw[gI (by rw[fY];exact jM),qa f jM]
 have bE:=run_append_grow_src (P:=P) w t tx ty T i z0 ht bS kV (some ⟨b,0,none⟩) n c (bP n f) hold xv m (bP m g) iQ hg (by simp only[maxLen]at h63;omega) (by rw[gW];exact growslice_fits hg (by omega));refine⟨_,_,_,bE,((Ch.refl [] w).drew).trans (Ch.alloc [] w.drew _) (λx hx=>.inl hx),grownCap_ge w (n+m) c T,dE _,?_⟩;refine(mC w.drew (.cells ((bP n f++bP m g).toArray++nz z0.cells (grownCap w (n+m) c T-(n+m))) T)).trans ?_;congr 2;apply eO;rw[mL,Array.toList_append,Iq];show bP n f++bP m g++_=bP (n+m) (ca n f g)++_;rw[<-Im]
theorem arL (q0 q:List Int):∀j,j<q0.length+q.length->ca q0.length (cZ q0) (cZ q) j=cZ (q0++q) j:=by
 intro j hj;unfold cZ;by_cases h:j<q0.length
 ·rw[arC h,n7,n7,gI h]
 ·have e:j=q0.length+(j-q0.length):=by omega
  rw[e,arD,n7,n7,yB (by omega)];simp
theorem arM {gl:Nat->Option Nat}:fC prog gl (TO (fr:=fr)):=by
 intro e op ids bl ch R ms w0 w K ρ o hg hl S aW ho h;unfold TO at h;split at h
 ·rename_i c;split at h
  ·rename_i s xs t tx eb cC dr;split at h
   ·rename_i T T' ht fH;split at h
    ·rename_i i m cc fk;split at h
     ·rename_i wr ty l hb;obtain⟨l9,ar,gA⟩:=c;simp only at eb cC dr;have e2:ar=#[s,xs]:=by rw[<-cC]
      have e3:gA=#[t,tx]:=by rw[<-dr]
      subst eb e2 e3;have aK:=(fp hl S hb).2;split at h
      ·rename_i j n c fQ;split at h
       ·rename_i l0 uP;split at h
        ·rename_i q0 q K5 hq;cases Me:ax T 5&&(ax q0.length n&&(ax n c&&(ax q.length m&&(bA 1 m&&(bA (n+m) 1000000&&bI bl.length bl)))))with
         |false=>rw[Me]at h;exact h.elim
         |true=>
          rw[Me]at h;simp only[a_]at Me;obtain⟨a1,a2,a3,a4,a5,a6,a7⟩:=Me;obtain rfl:=b9 a1;obtain rfl:=b9 a2;obtain rfl:=b9 a3;obtain rfl:=b9 a4;have a5:=dz a5;have a6:=dz a6;have Dt:=(fp hl S uP).2;rw[xA ids K5]at Dt;rw[xA ids hq]at aK;have rp:w.heap[ids.getD j 0]?=some (.cells (bw q0.length (cZ q0) q0.length) 5 (0,0)):=by
           rw[Dt];simp[bw]
          have h8:bV w (ids.getD i 0) 0 q.length (cZ q):=λk hk=>by
           rw[cell_of aK,eh];simp only[iX];exact qa _ hk
          obtain⟨b',c',w',bE,bT,hle,eo,me⟩:=arK (P:=prog) (ty:=o.type) (dE _) rp (y9 (c:=cc) h8 fH) ht (by kernel_rfl) (by omega) (by omega);obtain⟨d,rfl⟩:=Nat.le.dest hle;have Fc:=iR (P:=prog) (ρ:=ρ) (o:=o) ho (by rw[aW,fQ];simp only[den]) (by rw[aW,fk];simp only[den]) bE;refine⟨_,[b'],_,ch,w',.inl ?_,by simp[hl],?_,h d⟩
          ·rw[Fc];simp only[den];rw[<-hl,j7]
          ·have em:ay (ids++[b']) b' (eg (q0.length+q.length) d (cZ (q0++q)))=⟨b',true,.cells (bw (q0.length+q.length) (ca q0.length (cZ q0) (cZ q)) (q0.length+q.length+d)) 5 (0,0)⟩:=by
            unfold ay;rw[yg,<-OJ rfl (arL q0 q)];rfl
           rw[eZ _ _ _ _ hl,e_ _ _ (by rw[hl];exact a7)];simp only[lits,em];refine(S.new bT eo me).perm ?_;rw[bN];exact jH.symm
        ·exact h.elim
       ·exact h.elim
      ·split at h
       ·rename_i z bG u g fB r rest bS;cases hq:ax (bW l) (m*z)&&(ba 0 l&&(lF l&&bA bG 10000000))with
        |false=>rw[hq]at h;exact h.elim
        |true=>
         rw[hq]at h;simp only[cond_true]at h;simp only[a_]at hq;obtain⟨q1,q2,q3,q4⟩:=hq;have q1:=b9 q1;have q4:=dz q4;obtain⟨⟨hs,rfl,rfl,hn⟩,hK⟩:=h;have hi:(prog.info? r.T).map (λi=>(i.zero.map (·.cells.size),i.size,i.bytes))=some (some r.z,r.z,bG):=EL bS;have hd:ah ids l=ah [] l:=by have:=jO (ids:=[]) (more:=ids) l q2;simpa using this
         have hlen:(ah [] l).length=m*r.z:=by rw[<-q1];exact j6 l
         have eY:Src prog r.z tx (.slice (some ⟨ids.getD i 0,0,none⟩) m cc) m (ah [] l) w:=by
          refine qR w fH ⟨ids.getD i 0,0,none⟩ m cc _ hlen (λj u hj=>?_) (λu hu=>zi q3 u hu);rw[hU,cell_of aK,hd];simpa using hj
         have e1:lits ids ids bl++av (LG.aX u::LG.core g fB::LG.row r::rest) R=(lits ids ids bl++(dv u++(g.F.B++fB)))++(r.bl++av rest R):=by
          simp only[LU,bN]
         rw[e1]at S;have lJ:(r.n+m)*bG<=140737488355328:=iH (Nat.mul_le_mul hn q4) (by decide);obtain⟨v,w',bE,hc,x',c',bl',rfl,fl,me⟩:=Bp (P:=prog) (ty:=o.type) r.h (λy hy=>S.at' (by simp[hy])) bG eY ht hi lJ (iH hn (by decide));have S2:=S.sQ r.h.wr hc (λy hy=>(me y hy).1) (λy hy=>(me y hy).2) fl.pw;refine⟨_,[],bl,_,w',.inl ?_,by simpa using hl,?_,hK ⟨r.T,r.z,_,x',r.n+m,c',bl',fl⟩ rfl rfl rfl rfl⟩
         ·have:=iR (P:=prog) (ρ:=ρ) (o:=o) ho (sv:=.slice r.x r.n r.c) (xv:=.slice (some ⟨ids.getD i 0,0,none⟩) m cc) (by rw[aW,hs];simp only[bO.v,den]) (by rw[aW,fk];simp only[den]) bE;simpa[den,bO.v]using this
         ·rw[cI];have e4:lits ids ids bl++av (LG.aX u::LG.core g fB::LG.row ⟨r.T,r.z,r.os++ah [] l,x',r.n+m,c',bl',fl⟩::rest) R=(lits ids ids bl++(dv u++(g.F.B++fB)))++(bl'++av rest R):=by
           simp only[LU,bN]
          rw[e4];exact S2
       ·exact h.elim
     ·exact h.elim
    ·exact h.elim
   ·exact h.elim
  ·exact h.elim
 ·exact h.elim
def abQ (m:Sd.bo):Prop:=(0<=m.seq/\m.seq<=4294967295)/\(((m.kind=3\/m.kind=9)/\m={Sd.l5 m.kind with seq:=m.seq})\/(m.kind=5/\m={Sd.l5 5 with seq:=m.seq,now:=m.now})\/(m.kind=6/\(0<=m.aV/\m.aV<=4)/\m={Sd.l5 6 with seq:=m.seq,aV:=m.aV})\/
 (m.kind=7/\(0<=m.af/\m.af<=65535)/\m={Sd.l5 7 with seq:=m.seq,af:=m.af})\/(m.kind=10/\(0<=m.af/\m.af<=65535)/\(0<=m.mode/\m.mode<=4)/\m={Sd.l5 10 with seq:=m.seq,af:=m.af,mode:=m.mode}))
end
end Go.Proofs.YtggfpcggakghnaaGreatDoor
namespace Sd
variable{C:aN} {s:aa} {c:Core} {k:Int}
structure Still (t:az) (m j:Int):Prop where
 st:t.cO.1=false
 aj:∀i,i<3->(t.aj i).on=true->(t.aj i).eB.most=m/\0<=(t.aj i).eB.n/\(t.aj i).eB.n<=j
structure TS (p:aJ) (a b E off ask:Int) (j:Nat) (c:Core):Prop where
 cp:c.p=p
 ct:c.t=⟨a,E,if(j:Int)<off then b else-1,if(j:Int)<off then⟨j,off⟩else .zero,.zero,false⟩
 cq:c.q=if(j:Int)<ask then[⟨b,bD p b,⟨j,ask⟩⟩]else[]
 still:Still c.ag 900 j
 a:c.ag.dt a=true
 b:c.ag.dt b=true
end Sd
namespace Sd
variable{C:aN} {s:aa} {c:Core} {l:List (Int×aF)} {k:Int}
structure arN (t:az) (B:Int) (a b d:Int) (ja:Int) (ona:Bool):Prop where
 st:t.cO.1=false
 oa:t.dt a=ona
 sa:ona=true->(t.aj (a.toNat-1)).eB=⟨ja,B⟩
 ob:t.dt b=true
 sb:(t.aj (b.toNat-1)).eB=⟨0,B⟩
 od:t.dt d=true
 sd:(t.aj (d.toNat-1)).eB=⟨0,B⟩
def arO (p:aJ) (x y j:Int):List Ask:=[⟨x,bD p x,⟨j,900⟩⟩,⟨y,bD p y,⟨j,900⟩⟩]
structure RS (p:aJ) (a b d x y E B L m:Int) (bG:Label) (j:Nat) (c:Core):Prop where
 cp:c.p=p
 ct:c.t=⟨a,E,-1,.zero,if(j:Int)<B then .zero else⟨(j:Int)-B+1,L⟩,false⟩
 cq:c.q=arO p x y j
 ag:arN c.ag B a b d j (decide ((j:Int)<B))
 cm:c.mode=m
 cb:c.fm=bG
end Sd
namespace Sd
variable{C:aN} {s:aa} {c:Core} {l:List (Int×aF)} {k:Int} {m:bo}
structure Du (p:aJ):Prop where
 BD:∀i,10<=i/\i<=12->p.i i=14
 table:∀i,14<=i/\i<=33->p.i i=15
 graph:∀i,34<=i/\i<=38->p.i i=31
theorem Du.eJ {p:aJ} (h:Du p) {r:Int} (hk:1<=k/\k<=3) (hr:1<=r/\r<=3):eJ p k r=true:=by
 have e:p.BD k.toNat=14:=h.BD (9+k.toNat) (by omega);unfold Sd.eJ;rw[e];rcases(by omega:k=1\/k=2\/k=3)with rfl|rfl|rfl<;>rcases(by omega:r=1\/r=2\/r=3)with rfl|rfl|rfl<;>decide
theorem Du.may {p:aJ} (h:Du p) {mo r:Int} (hm:0<=mo/\mo<=4) (hr:0<=r/\r<=3):may p mo r 0=true:=by
 have e:p.table mo.toNat r.toNat=15:=h.table (14+4*mo.toNat+r.toNat) (by omega);unfold Sd.may;rw[e];rcases(by omega:mo=0\/mo=1\/mo=2\/mo=3\/mo=4)with rfl|rfl|rfl|rfl|rfl<;>rcases(by omega:r=0\/r=1\/r=2\/r=3)with rfl|rfl|rfl|rfl<;>decide
theorem Du.goes {p:aJ} (h:Du p) {mo m2:Int} (hm:0<=mo/\mo<=4) (hr:0<=m2/\m2<=4):goes p mo m2=true:=by
 have e:p.graph mo.toNat=31:=h.graph (34+mo.toNat) (by omega);unfold Sd.goes;rw[e];rcases(by omega:mo=0\/mo=1\/mo=2\/mo=3\/mo=4)with rfl|rfl|rfl|rfl|rfl<;>rcases(by omega:m2=0\/m2=1\/m2=2\/m2=3\/m2=4)with rfl|rfl|rfl|rfl|rfl<;>decide
variable{p:aJ} {a b:Int} {ka kb:aw} {ra rb:Int} {ha hb:Int} {t:Tok} {mode:Int} {bG:Label} {q:List Ask}
end Sd
namespace Go.Proofs.YtggfpcggakghnaaGreatDoor
section
open Go Go.RowKit Go.BigFrame Sx Vx
section
variable{G:Type} [Bl G]
theorem arP {C:Ctx G} {f n:Nat} {ids:List Nat} {bl:List VB} {ch0 rest:List G} {R:List ai} {ms:List Nat} {w0 w:ae} (hT:∀f c,C.T f=some c->Sound C.P C.gl f c) (hQ:oE C) (hl:ids.length=bl.length) (S:St ms w0 (lits ids ids bl++av (ch0++rest) R) w)
 (is:List Nat) (hn:is.Nodup) (hg:Gl C.gl (is.map λi=>ids.getD i 0)) (bs:List VB) (hb:is.map (bl[·]?)=bs.map some) (hw:bI 0 bs=true) {args args':List V} (cC:aA ids args=aA (is.map λi=>ids.getD i 0) args') {P:V->List G->Prop}
 (cJ:bu C n f args' bs ch0 (bm bs.length λv b c=>cz 0 v=true/\b.take bs.length=bs/\∃c2,c=ch0++c2/\P v c2)):aQ C.P f (aA ids args).toArray w λv w'=>∃v0 c2,v=den [] v0/\P v0 c2/\St ms w0 (lits ids ids bl++av (ch0++(c2++rest)) R) w':=by
 have hlen:is.length=bs.length:=by have:=congrArg List.length hb;simpa using this
 have pM:∀(k i:Nat),is[k]?=some i->∃b,bs[k]?=some b/\bl[i]?=some b:=by
  intro k i hk;have:=congrArg (λl=>l[k]?) hb;simp only[iI,hk,lx]at this;cases Hj:bs[k]?with
  |none=>rw[Hj]at this;simp at this
  |some b=>rw[Hj]at this;simp only[lx,aS]at this;exact⟨b,rfl,this⟩
 have dh:∀i∈is,i<bl.length:=by
  intro i hi;obtain⟨k,hk⟩:=yC hi;obtain⟨b,_,h2⟩:=pM k i hk;exact ia h2
 obtain⟨r,hr,hp⟩:=xT (bl:=bl) (ids:=ids) hl hn dh;have gD:=hp bl rfl;have BO:∀(AL:List Nat),(is.map λj=>ay ids (ids.getD j 0) (bl.getD j cX))=lits AL (is.map λi=>ids.getD i 0) bs:=by
  intro AL;clear hr hp gD cC cJ dh hg;induction is generalizing bs with
  |nil=>simp[lits]
  |cons i is ih=>
   cases bs with
   |nil=>simp at hlen
   |cons b bs=>
    simp only[eQ,List.cons.injEq]at hb;simp only[bI,a_]at hw;simp only[eQ,lits,iT hb.1];rw[mn (ids':=AL) hw.1,ih (pF.1 hn).2 bs hb.2 hw.2 (by simpa using hlen) (λk i hk=>pM (k+1) i (by simpa using hk))]
 rw[BO (is.map λi=>ids.getD i 0)]at gD;have S1:St ms w0 (lits (is.map λi=>ids.getD i 0) (is.map λi=>ids.getD i 0) bs++av ch0 ((r.map λj=>ay ids (ids.getD j 0) (bl.getD j cX))++av rest R)) w:=by
  refine S.perm ((gD.append_right _).trans ?_);rw[ma,hY (av rest R) ch0,hY ((r.map λj=>ay ids (ids.getD j 0) (bl.getD j cX))++av rest R) ch0];exact hJ λf=>by simp only[ik];omega
 rw[cC];refine(eD hT hQ n hg (by simpa using hlen) S1 cJ).mono ?_;rintro v w' ⟨x,Hk,bl0,ch',rfl,s8,S0,hK⟩;obtain⟨v2,more,bl',hv,ng,S2,qO,Th,c2,rfl,hP⟩:=h_ (n0:=bs.length) s8 (by simp[hlen]) S0 hK;have C2:((is.map λi=>ids.getD i 0)++Hk).take bs.length=is.map λi=>ids.getD i 0:=by rw[<-hlen];have:=List.take_left (l₁:=is.map λi=>ids.getD i 0) (l₂:=Hk);simpa using this
 rw[C2]at hv ng S2;refine⟨v2,c2,by rw[hv];have:=fy (ids:=[]) (more:=(is.map λi=>ids.getD i 0)++more) v2 qO;simpa using this,hP,?_⟩;have ni:bl'=bs++bl'.drop bs.length:=by have:=iZ bs.length bl';rw[Th]at this;exact this.symm
 rw[ni,eZ _ _ _ _ (by simpa using hlen),AB (ids':=is.map λi=>ids.getD i 0) (is.map λi=>ids.getD i 0) bs hw]at S2;rw[ma,hY _ ch0,hY _ c2]at S2;have S3:St ms w0 (lits (is.map λi=>ids.getD i 0) (is.map λi=>ids.getD i 0) bs++(av ch0 []++(av c2 []++((r.map λj=>ay ids (ids.getD j 0) (bl.getD j cX))++av rest R)))) w':=by
  refine S2.sub ?_;rw[bN];refine yE ?_ _;exact n8 _ _
 refine S3.perm (DO ?_ (gD.symm.append_right _));rw[ma,hY (av (c2++rest) R) ch0,ma,hY (av rest R) c2];exact hJ λf=>by simp only[ik];omega
end
def lS (l:List Sd.aF) (j:Nat):List ab:=let r:=l.getD j default
 [.int .i64 r.kind,.int .i64 r.seq,.int .i64 r.role,.int .i64 r.c_,.int .i64 r.af,.int .i64 r.code,.int .u8 (r.au 0),.int .u8 (r.au 1),.int .u8 (r.au 2),.int .u8 (r.au 3),.int .u8 (r.au 4),.int .u8 (r.au 5),.int .u8 (r.au 6),.int .u8 (r.au 7)]
theorem arQ (l:List Sd.aF):(bh l.length).flatMap (lS l)=l.flatMap λr=>ah [] (jn r):=by
 induction l with
 |nil=>rfl
 |cons r l ih=>
  rw[ly,uu,List.flatMap_cons,List.flatMap_map,List.flatMap_cons];have e:(λj=>lS (r::l) (Nat.succ j))=lS l:=by funext j;rfl
  rw[e,ih];rfl
theorem arR {ms:List Nat} {w0 w:ae} {z T n c:Nat} {olds:List ab} {x:Option aI} {B R:List ai} {g:Nat->List ab} {o:Obj} {z0:Nat} (h:eI z T olds x n c B) (S:St ms w0 (B++R) w) {tg:aD} {cs:List ab} (ho:o=.cells cs.toArray tg (0,0)) (kr:(⟨z0,false,o⟩:ai)∈R) (hg:olds=(bh n).flatMap g):
 ∃(i ty:Nat) (us:List ab),DP x n c=.slice (bif ax n 0 then x else some ⟨i,0,none⟩) n c/\St ms w0 (⟨i,false,.cells ((bh n).flatMap g++us).toArray ty (0,0)⟩::R) w:=by
 subst ho;rcases h.2.2 with⟨rfl,rfl,rfl,rfl⟩|⟨b,tail,rfl,rfl,_⟩
 ·exact⟨z0,tg,cs,rfl,by simpa using S.dup kr rfl⟩
 ·refine⟨b,T,tail,?_,?_⟩
  ·cases ax n 0<;>rfl
  ·rw[<-hg];exact S.kp
def HA:cP (LG cL):=λargs bl ch K=>match args,ch with
 |[.fS i 0 n c x,.int .i64 k],.aX u::.core g fB::rest=>(match bl[i]?with
  |some ⟨_,⟨_,(0,0)⟩,[.eU 2 n' G,.rest _]⟩=>cond (bI bl.length bl) (∃(s:List (Int×Sd.aF)) (fv:Nat->t_),(n=s.length/\n'=s.length/\G=nn s fv/\(∀y∈s,Sd.tJ y)/\s.length<=1000/\nQ cL s fv fB/\Hy bl)/\
   ∀(rs:List Sd.aF),rs=Sd.ft s k->∀(x':Option aI) (c' ty:Nat) (us:List ab),K (.fS bl.length 0 rs.length c' x') (bl++[⟨false,⟨ty,(0,0)⟩,[.eU 14 rs.length (lS rs),.rest us]⟩]) (.aX u::.core g fB::rest)) False
  |_=>False)
 |_,_=>False
def TP {G:Type}:(aZ->V)->Op->List VB->List G->VK G->Prop:=λe op bl ch K=>match op with
 |.binOp .rem t x (.const (.int .i64 (.ofNat 3))) t2=>(match e x,e (.const (.int .i64 (.ofNat 3)))with
  |.int .i64 n,.int .i64 (.ofNat 3)=>0<=n/\cond (n.tmod 3==0) (K (.int .i64 0) bl ch) (cond (n.tmod 3==1) (K (.int .i64 1) bl ch) (K (.int .i64 2) bl ch))
  |_,_=>False)
 |_=>False
theorem arS {G:Type} [Bl G] {P:aC} {gl:Nat->Option Nat}:fC (G:=G) P gl TP:=by
 intro e op ids bl ch R ms w0 w K ρ o hg hl S aW ho h;unfold TP at h;split at h
 ·rename_i t x t2;split at h
  ·rename_i n hx hy;obtain⟨h0,h⟩:=h;have bE:(execOp ρ o).run P w=.ok (.value (.int .i64 (n.tmod 3))) w:=by
    have hb:El P .rem t (e x) (e (.const (.int .i64 (.ofNat 3))))=some (.int .i64 (n.tmod (.ofNat 3))):=by rw[hx,hy];rfl
    unfold execOp;simp only[ho,aW];rw[bj,Nw hb];rfl
   have dh:=Int.tmod_lt_of_pos n (show(0:Int)<3 by decide);have eo:=Int.tmod_nonneg 3 h0;have go:∀m:Int,n.tmod 3=m->K (.int .i64 m) bl ch->∃x more bl' ch' w',((execOp ρ o).run P w=.ok (.value (den (ids++more) x)) w'\/((execOp ρ o).run P w=.ok .skip w'/\x=fA))/\(ids++more).length=bl'.length/\St ms w0 (lits (ids++more) (ids++more) bl'++av ch' R) w'/\K x bl' ch':=λm hm hK=>⟨_,[],bl,ch,w,.inl (by rw[bE,hm];simp[den]),by simpa using hl,by simpa using S,hK⟩;cases h1:n.tmod 3==0 with
   |true=>rw[h1]at h;exact go 0 (eq_of_beq h1) h
   |false=>
    rw[h1]at h;cases h2:n.tmod 3==1 with
    |true=>rw[h2]at h;exact go 1 (eq_of_beq h2) h
    |false=>
     rw[h2]at h;exact go 2 (by have:=beq_eq_false_iff_ne.1 h1;have:=beq_eq_false_iff_ne.1 h2;omega) h
  ·exact h.elim
 ·exact h.elim
end
end Go.Proofs.YtggfpcggakghnaaGreatDoor
namespace Sd
def Gr (n:Nat) (s t:aa):Prop:=t.br.length<=s.br.length+n/\t.bz.length<=s.bz.length+n
theorem Gr.trans {n m:Nat} {s t u:aa} (h:Gr n s t) (k:Gr m t u):Gr (n+m) s u:=⟨by have:=h.1;have:=k.1;omega,by have:=h.2;have:=k.2;omega⟩
theorem Gr.le {n m:Nat} {s t:aa} (h:Gr n s t) (k:n<=m):Gr m s t:=⟨by have:=h.1;omega,by have:=h.2;omega⟩
theorem Gr.of {n m:Nat} {s s0 t:aa} (h:Gr n s0 t) (h1:s0.br=s.br) (h2:s0.bz=s.bz) (k:n<=m):Gr m s t:=⟨by have:=h.1;rw[h1]at this;omega,by have:=h.2;rw[h2]at this;omega⟩
theorem Gr.fin {n:Nat} {s t t':aa} (h:Gr n s t) (h1:t'.br=t.br) (h2:t'.bz=t.bz):Gr n s t':=⟨by rw[h1];exact h.1,by rw[h2];exact h.2⟩
theorem Gr.c0 {s t:aa} (h1:t.br=s.br) (h2:t.bz=s.bz):Gr 0 s t:=⟨by rw[h1];exact dE _,by rw[h2];exact dE _⟩
section
variable(C:aN) (s:aa)
theorem HB (l:Int) (r:aF):Gr 1 s (s.tell l r):=⟨by simp[aa.tell],by simp[aa.tell]⟩
theorem Mf (l:Int) (r:aF):Gr 1 s (s.dI l r):=by
 unfold aa.dI;split
 ·exact HB s l r
 ·exact(Gr.c0 rfl rfl).le (by omega)
theorem qQ (k a n e h:Int):Gr 1 s (s.record C k a n e h):=⟨by simp[aa.record],by simp[aa.record]⟩
theorem yx (l n e:Int):Gr 2 s (s.refuse C l n e):=(HB s _ _).trans (qQ C _ _ _ _ _ _)
theorem Mg (l e:Int):Gr 1 s (s.gY C l e):=qQ C _ _ _ _ _ _
theorem uc (l n:Int):Gr 1 s (s.done l n):=HB s _ _
theorem abR (l w e:Int):Gr 1 s (s.gone l w e):=Mf s _ _
theorem TQ (t:Tok) (how n:Int):Gr 3 s (s.goes C t how n):=
 ((Gr.c0 (s:=s) (t:={s with c:={s.c with t:=t,q:=Q.drop s.c.q t.aE}}) rfl rfl).trans (((Mf _ _ _).trans (Mf _ _ _)).trans (qQ C _ _ _ _ _ _))).le (by omega)
theorem arT (a:Int):Gr 2 s (s.leave C a):=by
 unfold aa.leave;dsimp only;split
 ·exact(Gr.c0 rfl rfl).le (by omega)
 ·exact(Gr.of ((abR _ _ _ _).trans (qQ C _ _ _ _ _ _)) rfl rfl (by omega))
theorem arU (l:Int) (n:Nat) (f:aw):Gr 10 s (s.jw C l n f):=by
 unfold aa.jw;dsimp only
 repeat' split
 all_goals first
  |exact(Mg C s _ _).le (by omega)
  |exact(yx C s _ _ _).le (by omega)
  |exact Gr.of ((HB _ _ _).trans (qQ C _ _ _ _ _ _)) rfl rfl (by omega)
theorem arV (l:Int) (n:Nat) (f:aw):Gr 10 s (s.prove C l n f):=by
 unfold aa.prove;dsimp only
 repeat' split
 all_goals first
  |exact Gr.of (Mg C _ _ _) rfl rfl (by omega)
  |exact Gr.of (yx C _ _ _ _) rfl rfl (by omega)
  |exact Gr.of ((HB _ _ _).trans (qQ C _ _ _ _ _ _)) rfl rfl (by omega)
theorem arW (l:Int) (m:bo):Gr 10 s (s.jN C l m):=by
 unfold aa.jN;split
 ·exact(uc s _ _).le (by omega)
 split
 ·exact(Gr.of ((arT C _ _).trans ((qQ C _ _ _ _ _ _).trans (uc _ _ _))) rfl rfl (by omega))
 split
 ·unfold aa.ask;dsimp only;split
  ·exact(yx C s _ _ _).le (by omega)
  ·split
   ·exact(Gr.of ((TQ C _ _ _ _).trans (uc _ _ _)) rfl rfl (by omega))
   ·exact(Gr.of ((qQ C _ _ _ _ _ _).trans (uc _ _ _)) rfl rfl (by omega))
 split
 ·unfold aa.offer;dsimp only;split
  ·exact(yx C s _ _ _).le (by omega)
  ·exact(Gr.of ((Mf _ _ _).trans ((qQ C _ _ _ _ _ _).trans (uc _ _ _))) rfl rfl (by omega))
 split
 ·unfold aa.accept;dsimp only;split
  ·exact(yx C s _ _ _).le (by omega)
  ·exact((TQ C _ _ _ _).trans (uc _ _ _)).le (by omega)
 split
 ·unfold aa.fg;dsimp only;split
  ·exact(yx C s _ _ _).le (by omega)
  ·exact(Gr.of ((abR _ _ _ _).trans ((qQ C _ _ _ _ _ _).trans (uc _ _ _))) rfl rfl (by omega))
 split
 ·unfold aa.release;dsimp only;split
  ·exact(yx C s _ _ _).le (by omega)
  ·exact(Gr.of ((TQ C _ _ _ _).trans (uc _ _ _)) rfl rfl (by omega))
 split
 ·unfold aa.command;dsimp only;split
  ·exact(yx C s _ _ _).le (by omega)
  ·split
   ·exact(Gr.of ((qQ C _ _ _ _ _ _).trans (uc _ _ _)) rfl rfl (by omega))
   ·exact(Gr.of ((qQ C _ _ _ _ _ _).trans (uc _ _ _)) rfl rfl (by omega))
 ·exact(Gr.c0 rfl rfl).le (by omega)
theorem arX (l code:Int) (n:Nat) (f:aw):Gr 10 s (s.item C l code n f):=by
 unfold aa.item;split
 ·exact(Mg C s _ _).le (by omega)
 split
 ·exact arU C s _ _ _
 split
 ·exact arV C s _ _ _
 split
 ·exact(Mg C s _ _).le (by omega)
 ·exact(Gr.of (arW C _ _ _) rfl rfl (by omega))
end
def Ql (s t:aa):Prop:=t.c.q.length<=s.c.q.length
theorem Ql.trans {s t u:aa} (h:Ql s t) (k:Ql t u):Ql s u:=iH k h
theorem Ql.of {s t:aa} (h:t.c.q=s.c.q):Ql s t:=by unfold Ql;rw[h];exact dE _
end Sd
namespace Go.Proofs.YtggfpcggakghnaaGreatDoor
section
open Go Go.RowKit Go.BigFrame Sx Vx
variable{fr:Sd.aF->Nat×Sd.aw}
def TT (C:Sd.aN):cP (LG fr):=λargs bl ch K=>match args with
 |[.ptr ic 0,.int .i64 l,.agg [.int .i64 code,.sl ip 0 n c]]=>(match bl[ip]?with
  |some ⟨true,⟨5,(0,0)⟩,[.int .u8 a,.int .u8 b]⟩=>Ly C [.ptr ic 0,.int .i64 l,.agg [.int .i64 code,.sl ip 0 n c]] bl ch K
  |_=>Lg C [.ptr ic 0,.int .i64 l,.agg [.int .i64 code,.sl ip 0 n c]] bl ch K)
 |_=>False
theorem arY (ht:Body (fr:=fr) 147 dR):Sound prog gS 24 (TT (fr:=fr) (aO aP)):=by
 intro args ids bl ch R ms w0 w K hg hl S hc;unfold TT at hc;split at hc
 ·split at hc
  ·exact aa6 ht _ ids bl ch R ms w0 w K hg hl S hc
  ·exact aaL ht _ ids bl ch R ms w0 w K hg hl S hc
 ·exact hc.elim
def abS (_:aZ->V) (op:Op):Bool:=match op with|.buildSlice _ _ _=>true|_=>false
def Mh (_:aZ->V) (op:Op):Bool:=match op with|.binOp _ _ _ _ _=>true|_=>false
def A4:(aZ->V)->Op->List VB->List (LG fr)->VK (LG fr)->Prop:=λe op bl ch K=>cond (abS e op) (Tj prog e op bl ch K) (cond (Mh e op) (TP e op bl ch K) (TO e op bl ch K))
theorem Dv {gl:Nat->Option Nat}:fC prog gl (A4 (fr:=fr)):=xq abS ap5 (xq Mh arS arM)
def yy {G:Type} [Bl G] (P:aC) (gl:Nat->Option Nat) (L:List (bK G)) (h:(aZ->V)->Op->List VB->List G->VK G->Prop) (hok:fC P gl h) (lp:Nat->List V->Option (Lp G)):Ctx G:=⟨P,qk L,gl,tm L,h,hok,lp⟩
def abT (j n:Nat):Prop:=0<=(j:Int)/\(j:Int)<(n:Int)
theorem arZ {j n:Nat} (h:j<n):abT j n:=⟨by omega,by omega⟩
structure Dw (s:List (Int×Sd.aF)) (k:Int) where
 j:Nat
 hj:j<=s.length
 r:bO
 hT:r.T=40
 hz:r.z=14
 xR:r.os=(Sd.ft (s.take j) k).flatMap λr=>ah [] (jn r)
 hn:r.n=(Sd.ft (s.take j) k).length
section
variable(u:ae) (g:Gh cL) (fB:List ai) (s:List (Int×Sd.aF)) (fv:Nat->t_) (k:Int) (wr:Bool) (ty:BT) (us:List ab) (c:Nat) (x:Option aI)
def TU (y:Dw s k):List V:=[.fS 0 0 s.length c x,.int .i64 k,y.r.v,.int .i64 y.j]
def mB:List VB:=[⟨wr,ty,[.eU 2 s.length (nn s fv),.rest us]⟩]
def TV (y:Dw s k):List (LG cL):=[.aX u,.core g fB,.row y.r]
def ar0:Lp (LG cL):=Jd (X:=Dw s k) (λy=>s.length-y.j) 45 1 [0,1,5,6] (TU s k c x) (λ_=>mB s fv wr ty us) (TV u g fB s k) (λ_=>rfl) (λ_=>rfl) (λ_=>rfl)
def TW:Nat->List V->Option (Lp (LG cL)):=λi _=>bif ax i 0 then some (ar0 u g fB s fv k wr ty us c x)else none
def Mi:List (bK (LG cL)):=[⟨48,true,C8⟩,⟨49,true,Hv⟩]
theorem abU:aG prog cR Mi:=aG.cons ⟨arj,λ_=>aro⟩ (aG.cons ⟨arl,λ_=>arn⟩ aG.nil)
section
variable(K:VK (LG cL))
def abV (y:Dw s k) (r:bO):Prop:=true=true/\E0 (λy=>s.length-y.j) (TU s k c x) (λ_=>mB s fv wr ty us) (TV u g fB s k) y [.fS 0 0 s.length c x,.int .i64 k,r.v,.int .i64 (i64.wrap ((y.j:Int)+1))] (mB s fv wr ty us) [.aX u,.core g fB,.row r]
def abW (y:Dw s k):Prop:=
 let e:=s.getD (y.j:Int).toNat default
 let v:=fv (y.j:Int).toNat
 let I:=abT y.j s.length
 let L:=(y.j:Int).toNat<s.length/\∀j,(nn s fv j).length=2
 I/\L/\∃(r:Sd.aF) (b:List ai),(v.n=cB r+5/\eA 5 v.n (mX (cB r) (j4 r)) v.x v.c b/\∀y∈b,y∈fB)/\∀d:Nat,
  ∃r2:Sd.aF,(RB r2/\cB r=cB r2/\cB r=cB r2/\j4 r=j4 r2/\cB r+d=cB r2+d/\lq=lq)/\I/\L/\cond (e.1==k)
   ((y.r.v=y.r.v/\y.r.T=40/\y.r.z=14/\y.r.n+1<=1000000)/\∀r3:bO,r3.T=y.r.T->r3.z=y.r.z->r3.os=y.r.os++ah [] (jn r2)->r3.n=y.r.n+1->abV u g fB s fv k wr ty us c x y r3) (abV u g fB s fv k wr ty us c x y y.r)
def rqX:Prop:=∀r:bO,r.T=40->r.z=14->r.os=[]->r.n=0->(true=true/\EZ (TU s k c x) (λ_=>mB s fv wr ty us) (TV u g fB s k) [.fS 0 0 s.length c x,.int .i64 k,r.v,.int .i64 0] (mB s fv wr ty us) [.aX u,.core g fB,.row r])/\
 ∀(y:Dw s k) (g':Nat->ab),cond (decide ((y.j:Int)<(s.length:Int))) (abW u g fB s fv k wr ty us c x y) (K y.r.v (mB s fv wr ty us) [.aX u,.core g fB,.row y.r])
theorem ar1:bu (yy prog cR Mi A4 Dv (TW u g fB s fv k wr ty us c x)) 60 19 [.fS 0 0 s.length c x,.int .i64 k] (mB s fv wr ty us) [.aX u,.core g fB] (bm 1 K)=rqX u g fB s fv k wr ty us c x (bm 1 K):=by kernel_rfl
end
end
theorem rbZ {r:Sd.aF} (h:Sd.rN r):RB r:=by
 have b1:=h.kind;refine⟨h.kind,⟨h.seq,?_⟩,⟨h.role,?_⟩,⟨h.c_,?_⟩,⟨h.af,?_⟩,⟨h.code,?_⟩,⟨h.au,?_⟩⟩
 ·by_cases e:r.kind=131\/r.kind=132
  ·exact .inl e
  ·exact .inr (h.ain (by omega))
 ·by_cases e:r.kind=130
  ·exact .inl e
  ·exact .inr (h.aio e)
 ·by_cases e:r.kind=130\/r.kind=134\/r.kind=135\/r.kind=136
  ·exact .inl e
  ·exact .inr (h.aip (by omega))
 ·by_cases e:r.kind=130\/r.kind=133\/r.kind=134\/r.kind=135
  ·exact .inl e
  ·exact .inr (h.aiq (by omega))
 ·by_cases e:r.kind=132\/r.kind=136
  ·exact .inl e
  ·exact .inr (h.air (by omega))
 ·by_cases e:r.kind=129
  ·exact .inl e
  ·exact .inr (h.ais e)
theorem ar2 {l:List (Int×Sd.aF)} {j:Nat} (h:j<l.length):l.take (j+1)=l.take j++[l.getD j default]:=by
 rw[List.take_add_one,n7,iK h];rfl
theorem ar3 {l:List (Int×Sd.aF)} {j:Nat} (h:j<l.length):l.getD j default∈l:=by
 rw[n7,iK h];exact List.getElem_mem h
theorem abX (l:List (Int×Sd.aF)) (k:Int):(Sd.ft l k).length<=l.length:=by
 unfold Sd.ft;rw[HV];exact List.length_filter_le _ _
theorem ar4 {l:List (Int×Sd.aF)} {j:Nat} (h:j<l.length) (k:Int):Sd.ft (l.take (j+1)) k=Sd.ft (l.take j) k++if(l.getD j default).1=k then[(l.getD j default).2]else[]:=by
 rw[ar2 h,Sd.arw];congr 1;unfold Sd.ft;by_cases e:(l.getD j default).1=k
 ·rw[if_pos e];simp only[List.filter_cons,e,decide_true,if_true,List.filter_nil,eQ,uw]
 ·rw[if_neg e];simp only[List.filter_cons,e,decide_false,Bool.false_eq_true,if_false,List.filter_nil,uw]
section
variable{u:ae} {g:Gh cL} {fB:List ai} {s:List (Int×Sd.aF)} {fv:Nat->t_} {k:Int} {wr:Bool} {ty:BT} {us:List ab} {c:Nat} {x:Option aI} {K:VK (LG cL)}
theorem ar5 (hf:nQ cL s fv fB) (hs:∀y∈s,Sd.tJ y) (hl:s.length<=1000) (hK:∀r:bO,r.T=40->r.z=14->r.os=(Sd.ft s k).flatMap (λr=>ah [] (jn r))->r.n=(Sd.ft s k).length->K r.v (mB s fv wr ty us) [.aX u,.core g fB,.row r]):rqX u g fB s fv k wr ty us c x K:=by
 intro r h1 h2 h3 h4;refine⟨⟨rfl,⟨0,Nat.zero_le _,r,h1,h2,by rw[h3];rfl,by rw[h4];rfl⟩,rfl,rfl,rfl⟩,λy g'=>aH (λe=>?_) (λe=>?_)⟩
 ·have dh:y.j<s.length:=by simpa using e
  obtain⟨xx,cc,b,e1,e2,e3⟩:=hf y.j dh;have hB:=hs _ (ar3 dh);have hR:=rbZ hB.2;have hI:=arZ dh;have hL:y.j<s.length/\∀j,(nn s fv j).length=2:=⟨dh,λj=>rfl⟩;have hlen:=abX (s.take y.j) k;have aui:(s.take y.j).length<=s.length:=by rw[uk];omega
  have hS:=ar4 dh k;have hw:i64.wrap ((y.j:Int)+1)=((y.j+1:Nat):Int):=by rw[qI (by omega)];rfl
  unfold abW;dsimp only;rw[show((y.j:Int)).toNat=y.j from ux _];refine⟨hI,hL,(s.getD y.j default).2,b,⟨by rw[e1];rfl,by rw[e1];exact e2,e3⟩,λd=>⟨(s.getD y.j default).2,⟨hR,rfl,rfl,rfl,rfl,rfl⟩,hI,hL,aH (λe=>?_) (λe=>?_)⟩⟩
  ·rw[if_pos (eq_of_beq e)]at hS;refine⟨⟨rfl,y.hT,y.hz,by rw[y.hn];omega⟩,λr3 q1 q2 q3 q4=>⟨rfl,⟨y.j+1,dh,r3,by rw[q1,y.hT],by rw[q2,y.hz],?_,?_⟩,by show s.length-(y.j+1)<s.length-y.j;omega,?_,rfl,rfl⟩⟩
   ·rw[q3,y.xR,hS,DM];simp
   ·rw[q4,y.hn,hS];simp
   ·rw[hw];rfl
  ·rw[if_neg (beq_eq_false_iff_ne.1 e),cI]at hS;refine⟨rfl,⟨y.j+1,dh,y.r,y.hT,y.hz,by rw[hS];exact y.xR,by rw[hS];exact y.hn⟩,by show s.length-(y.j+1)<s.length-y.j;omega,?_,rfl,rfl⟩;rw[hw];rfl
 ·have eo:s.length<=y.j:=by have:¬y.j<s.length:=by simpa using e
                            omega
  have e0:s.take y.j=s:=List.take_of_length_le eo;exact hK y.r y.hT y.hz (by rw[y.xR,e0]) (by rw[y.hn,e0])
end
theorem ar6 (K:VK (LG cL)) (r:bO) (s:List (Int×Sd.aF)) (fv:Nat->t_) (wr:Bool) (ty:BT) (us:List ab) (ch:List (LG cL)):bm 1 K r.v (mB s fv wr ty us) ch=K r.v (mB s fv wr ty us) ch:=by kernel_rfl
theorem ar7:Sound prog gS 19 HA:=by
 intro args ids bl ch R ms w0 w K hg hl S hc;unfold HA at hc;split at hc
 ·rename_i i n c x k u g fB rest;split at hc
  ·rename_i wr ty n' G us hb;cases hq:bI bl.length bl with
   |false=>rw[hq]at hc;exact hc.elim
   |true=>
    rw[hq]at hc;obtain⟨s,fv,⟨rfl,rfl,rfl,hs,S9,Lc,Mj,kr⟩,hK⟩:=hc;have cC:aA ids [.fS i 0 s.length c x,.int .i64 k]=aA ([i].map λi=>ids.getD i 0) [.fS 0 0 s.length c x,.int .i64 k]:=rfl;have cJ:bu (yy prog cR Mi A4 Dv (TW u g fB s fv k wr ⟨ty,(0,0)⟩ us c x)) 60 19 [.fS 0 0 s.length c x,.int .i64 k] (mB s fv wr ⟨ty,(0,0)⟩ us) [.aX u,.core g fB] (bm (mB s fv wr ⟨ty,(0,0)⟩ us).length λv b c=>cz 0 v=true/\b.take (mB s fv wr ⟨ty,(0,0)⟩ us).length=mB s fv wr ⟨ty,(0,0)⟩ us/\∃c2,c=[.aX u,.core g fB]++c2/\∃r:bO,v=r.v/\c2=[.row r]/\r.z=14/\r.os=(Sd.ft s k).flatMap (λr=>ah [] (jn r))/\r.n=(Sd.ft s k).length):=by
     show bu _ _ _ _ _ _ (bm 1 _);rw[ar1];exact ar5 Lc hs S9 λr h1 h2 h3 h4=>by
      rw[ar6];exact⟨rfl,rfl,[.row r],rfl,r,rfl,rfl,h2,h3,h4⟩
    refine(arP (C:=yy prog cR Mi A4 Dv (TW u g fB s fv k wr ⟨ty,(0,0)⟩ us c x)) abU.T abU.Q hl (ch0:=[.aX u,.core g fB]) (rest:=rest) S [i] (by simp) (λg i h=>by cases h) (mB s fv wr ⟨ty,(0,0)⟩ us) (by simp[hb,mB]) rfl cC cJ).mono ?_;rintro v w' ⟨v0,c2,rfl,⟨r,rfl,rfl,hz,xR,hn⟩,S2⟩;have h0:ay ids 1 (j3 Mj)∈lits ids ids bl:=by
     have hm:=nx (BK (ids:=ids) ids bl hl kr);rw[(hg 1 0 rfl).2]at hm;exact hm
    have hh:=r.h;obtain⟨rT,rz,ros,rx,rn,rc,TX,rh⟩:=r;simp only at hz xR hn hh;subst hz hn;have S3:St ms w0 (TX++(lits ids ids bl++av (.aX u::.core g fB::rest) R)) w':=S2.perm (by
     show List.Perm (lits ids ids bl++(dv u++((g.F.B++fB)++(TX++av rest R)))) (TX++(lits ids ids bl++(dv u++((g.F.B++fB)++av rest R))));exact hJ λf=>by simp only[ik];omega)
    obtain⟨i2,TY,TZ,hv,S4⟩:=arR hh S3 (z0:=1) (o:=(ay ids 1 (j3 Mj)).obj) rfl (mH _ h0) (xR.trans (arQ _).symm);refine⟨.fS bl.length 0 (Sd.ft s k).length rc rx,[i2],_,_,?_,by simp[hl],?_,hK _ rfl rx rc TY TZ⟩
    ·have yu:(ids++[i2]).getD bl.length 0=i2:=by rw[<-hl];simp[ij]
     simp only[bO.v,den,yu];exact hv
    ·have em:ay (ids++[i2]) i2 ⟨false,⟨TY,(0,0)⟩,[.eU 14 (Sd.ft s k).length (lS (Sd.ft s k)),.rest TZ]⟩=⟨i2,false,.cells ((bh (Sd.ft s k).length).flatMap (lS (Sd.ft s k))++TZ).toArray TY (0,0)⟩:=by
      unfold ay;simp only[ah,cl,cI]
     rw[eZ _ _ _ _ hl,e_ _ _ (by rw[hl];exact hq)];simp only[lits,em];refine S4.perm ?_;rw[bN];exact jH.symm
  ·exact hc.elim
 ·exact hc.elim
theorem ar8:gO HA:=by
 intro args bl ch K hc;unfold HA at hc⊢;split at hc
 ·split at hc
  ·revert hc;cases bI bl.length bl with
   |false=>exact λh=>h.elim
   |true=>
    rintro⟨s,fv,h,hK⟩;exact⟨s,fv,h,λrs e x' c' ty us=>⟨hK rs e x' c' ty us,_,rfl⟩⟩
  ·exact hc.elim
 ·exact hc.elim
end
section
open Go Go.RowKit Go.BigFrame Sx Vx
def nX (r:Int) (p:Nat->Int):Sd.aw:=cZ [2,r,p 0,p 1,p 2,p 3,p 4,p 5,p 6,p 7]
def lT (C:Sd.aN) (s:Sd.aa) (l r:Int) (n:Nat) (f:Sd.aw):Sd.aa×Sd.aw×Sd.aF:=
 let s1:=gU C s l 0 2 (f2 1 r)
 let a:=Sd.lR (Sd.ft s1.bz l)
 if a.kind=129 then
  let s2:=gU C (eM s1) l 0 10 (nX r (fq n f l r a.au))
  (eM s2,gQ n f l r a.au,Sd.lR (Sd.ft s2.bz l))
 else(eM s1,lq,a)
theorem HC {C:Sd.aN} {s:Sd.aa} {l:Int} {n:Nat} {f:Sd.aw} (h:1<=l/\l<=3):gU C s l 0 n f=s.item C l 0 n f:=if_pos h
theorem abQ.kinds {m:Sd.bo} (h:abQ m):m.kind=3\/m.kind=5\/m.kind=6\/m.kind=7\/m.kind=9\/m.kind=10:=by
 obtain⟨_,⟨h|h,_⟩|⟨h,_⟩|⟨h,_⟩|⟨h,_⟩|⟨h,_⟩⟩:=h<;>omega
variable{s:Sd.aa} {c:Sd.Core} {l r:Int}
theorem abY (r:Int) (p:Nat->Int):∀j,j<8->nX r p (2+j)=p j:=by
 intro j hj;rcases(by omega:j=0\/j=1\/j=2\/j=3\/j=4\/j=5\/j=6\/j=7)with rfl|rfl|rfl|rfl|rfl|rfl|rfl|rfl<;>rfl
theorem Mk (k:Int) (r:Sd.aF):Sd.lR (Sd.ft [(k,r)] k)=r:=by rw[Sd.arx];rfl
theorem T0 {n:Nat} {f:Sd.aw} (h:s.at_ c []) (hr:0<=r/\r<=3) (hl:1<=l/\l<=3) (ht:Sd.eJ c.p l r=true) (hd:(c.doors (l.toNat-1)).many<4294967295):∃s1:Sd.aa,s1.at_ (Sd.qP (aO aP) c l) []/\
 lT (aO aP) s l r n f=(eM (gU (aO aP) s1 l 0 10 (nX r (fq n f l r (Sd.iW (aO aP) c l)))),gQ n f l r (Sd.iW (aO aP) c l),Sd.lR (Sd.ft (gU (aO aP) s1 l 0 10 (nX r (fq n f l r (Sd.iW (aO aP) c l)))).bz l)):=by
 have h1:=Sd.arz (f1:=f2 1 r) Hx h hr ht hd rfl rfl;rw[<-HC (n:=2) (C:=aO aP) (s:=s) (f:=f2 1 r) hl]at h1;refine⟨eM (gU (aO aP) s l 0 2 (f2 1 r)),⟨h1.1,rfl⟩,?_⟩;unfold lT;dsimp only;rw[h1.2,Mk,if_pos rfl]
theorem ar9 {n:Nat} {f:Sd.aw} (h:s.at_ c []) (hr:0<=r/\r<=3) (hl:1<=l/\l<=3) (hk:c.p.k (l.toNat-1)=(n,f)) (ht:Sd.eJ c.p l r=true) (hd:(c.doors (l.toNat-1)).many<4294967295) (hs:c.ag.dt l=true\/c.ag.many<c.p.eS):
 ∃s':Sd.aa,lT (aO aP) s l r n f=(s',gQ n f l r (Sd.iW (aO aP) c l),{kind:=130,role:=r,c_:=c.t.aE,af:=c.t.af})/\s'.at_ (Sd.A1 (aO aP) c l r) []:=by
 obtain⟨s1,h1,e⟩:=T0 (n:=n) (f:=f) h hr hl ht hd;have h2:=Sd.abG (f2:=nX r (fq n f l r (Sd.iW (aO aP) c l))) Hx h1 hl hr ht rfl rfl (by rw[hk];exact arE n f _ _ l r (abY _ _)) hs;rw[<-HC hl]at h2;rw[e,h2.2,Mk];exact⟨_,rfl,h2.1,rfl⟩
theorem ar_ {n:Nat} {f:Sd.aw} (h:s.at_ c []) (hr:0<=r/\r<=3) (hl:1<=l/\l<=3) (ht:Sd.eJ c.p l r=true) (hd:(c.doors (l.toNat-1)).many<4294967295)
 (hw:oT (c.p.k (l.toNat-1)).1 (c.p.k (l.toNat-1)).2 l r (Sd.iW (aO aP) c l) (λj=>nX r (fq n f l r (Sd.iW (aO aP) c l)) (2+j))=false):
 ∃(s':Sd.aa),lT (aO aP) s l r n f=(s',gQ n f l r (Sd.iW (aO aP) c l),{kind:=0})/\s'.at_ (Sd.Ds c l) []:=by
 obtain⟨s1,h1,e⟩:=T0 (n:=n) (f:=f) h hr hl ht hd;have h2:=Sd.arB (f2:=nX r (fq n f l r (Sd.iW (aO aP) c l))) Hx h1 hr rfl rfl hw;rw[<-HC hl]at h2;rw[e,h2.2];exact⟨_,rfl,h2.1,rfl⟩
theorem asa {n:Nat} {f:Sd.aw} (h:s.at_ c []) (hr:0<=r/\r<=3) (hl:1<=l/\l<=3) (ht:Sd.eJ c.p l r=false):
 ∃(s':Sd.aa),lT (aO aP) s l r n f=(s',lq,{kind:=132,seq:=0,code:=18})/\s'.at_ c []:=by
 have h1:=Sd.TM (f1:=f2 1 r) Hx h hr ht rfl rfl;rw[<-HC hl]at h1;unfold lT;dsimp only;rw[h1.2,Mk,if_neg (by decide)];exact⟨_,rfl,h1.1,rfl⟩
end
section
open Go Go.RowKit Go.BigFrame Sx Vx
def HD {G:Type}:cP G:=λargs bl ch K=>match args with
 |[.fS i 0 n c x]=>(match bl[i]?with
  |some ⟨_,⟨_,(0,0)⟩,[.eU 14 n' g,.rest _]⟩=>∃rs:List Sd.aF,(n=rs.length/\n'=rs.length/\g=lS rs/\rs.length<=1000000)/\K (.agg (jn (Sd.lR rs))) bl ch
  |_=>False)
 |_=>False
def laX (rs:List Sd.aF) (wr:Bool) (ty:BT) (us:List ab) (c:Nat) (x:Option aI) (K:VK Empty):Prop:=
 let B:List VB:=[⟨wr,ty,[.eU 14 rs.length (lS rs),.rest us]⟩]
 let j:=i64.wrap ((rs.length:Int)-1)
 cond ((rs.length:Int)==0) (K (.agg (jn {kind:=0})) B []) ((0<=j/\j<(rs.length:Int))/\(j.toNat<rs.length/\∀i,(lS rs i).length=14)/\K (.agg (jn (rs.getD j.toNat default))) B [])
theorem asb (rs:List Sd.aF) (wr:Bool) (ty:BT) (us:List ab) (c:Nat) (x:Option aI) (K:VK Empty):bu (bQ prog cR ([]:List (bK Empty))) 60 36 [.fS 0 0 rs.length c x] [⟨wr,ty,[.eU 14 rs.length (lS rs),.rest us]⟩] [] (bm 1 K)=laX rs wr ty us c x K:=by kernel_rfl
theorem asc {rs:List Sd.aF} (h:0<rs.length):rs.getD (rs.length-1) default=Sd.lR rs:=by
 unfold Sd.lR
 match rs,h with
 |a::l,_=>
  rw[List.getLastD_cons];clear h;show(a::l).getD l.length default=_;induction l generalizing a with
  |nil=>rfl
  |cons b l ih=>rw[List.getLastD_cons,<-ih b (by simp)];rfl
theorem asd {G:Type} [Bl G] {gl:Nat->Option Nat}:Sound (G:=G) prog gl 36 HD:=by
 intro args ids bl ch R ms w0 w K hg hl S hc;unfold HD at hc;split at hc
 ·rename_i i n c x;split at hc
  ·rename_i wr ty n' g us hb;obtain⟨rs,⟨rfl,rfl,rfl,hle⟩,hK⟩:=hc;have cJ:bu (bQ prog cR ([]:List (bK Empty))) 60 36 [.fS 0 0 rs.length c x] [⟨wr,⟨ty,(0,0)⟩,[.eU 14 rs.length (lS rs),.rest us]⟩] [] (bm ([⟨wr,⟨ty,(0,0)⟩,[.eU 14 rs.length (lS rs),.rest us]⟩]:List VB).length λv b c=>v=.agg (jn (Sd.lR rs))/\b.take ([⟨wr,⟨ty,(0,0)⟩,[.eU 14 rs.length (lS rs),.rest us]⟩]:List VB).length=[⟨wr,⟨ty,(0,0)⟩,[.eU 14 rs.length (lS rs),.rest us]⟩]/\∃c2,c=[]++c2):=by
    show bu _ _ _ _ _ _ (bm 1 _);rw[asb];refine aH (λe=>⟨?_,rfl,[],rfl⟩) (λe=>?_)
    ·have:rs=[]:=List.length_eq_zero_iff.1 (by simpa using e);rw[this];rfl
    ·have hp:0<rs.length:=by
      rcases uh rs.length with h|h
      ·rw[h]at e;cases e
      ·exact h
     have hw:i64.wrap ((rs.length:Int)-1)=((rs.length-1:Nat):Int):=by rw[qI (by omega)];omega
     rw[hw,ux];exact⟨⟨by omega,by omega⟩,⟨by omega,λi=>rfl⟩,by rw[asc hp],rfl,[],rfl⟩
   refine(ap0 (C:=bQ prog cR ([]:List (bK Empty))) (aG.nil (P:=prog) (gl:=cR)).T (aG.nil (P:=prog) (gl:=cR)).Q rfl hl S [i] (by simp) [⟨wr,⟨ty,(0,0)⟩,[.eU 14 rs.length (lS rs),.rest us]⟩] (by simp[hb]) rfl (args:=[.fS i 0 rs.length c x]) rfl rfl cJ).mono ?_;rintro v w' ⟨rfl,S2⟩;exact⟨.agg (jn (Sd.lR rs)),[],bl,ch,rfl,by simpa using hl,by simpa using S2,hK⟩
  ·exact hc.elim
 ·exact hc.elim
theorem ase {G:Type}:gO (HD (G:=G)):=by
 intro args bl ch K hc;unfold HD at hc⊢;split at hc
 ·split at hc
  ·obtain⟨rs,h,hK⟩:=hc;exact⟨rs,h,hK,[],by simp⟩
  ·exact hc.elim
 ·exact hc.elim
def abZ {fr:Sd.aF->Nat×Sd.aw} {k:LK} (sv:Sd.aa) (X:(s':Sd.aa)->TR->List ai->a9 fr (aY k (eM s'))->Prop):Prop:=∀s',s'=sv->∀(r:TR) (fn:List ai) (F0:a9 fr (aY k (eM s'))),cV=F0.vs->cV=F0.vr->nQ fr s'.bz r.fv fn->X s' r fn F0
def CoZ {fr:Sd.aF->Nat×Sd.aw} (k:LK) (s:Sd.aa) (F:a9 fr (aY k s)) (n:Nat) (f:Sd.aw):Prop:=ew k (bR s)/\cV=F.vs/\cV=F.vr/\n<=58/\By f
def ab0 (k:LK):Prop:=∃tg,some (bU k)=some (j3 tg)
def T4 (k:LK) (s':Sd.aa) (r:TR) (fB:List ai) (l:Int) (X:Sd.aF->Prop):Prop:=∃(s0:List (Int×Sd.aF)) (fv:Nat->t_),(s'.bz.length=s0.length/\s'.bz.length=s0.length/\nn s'.bz r.fv=nn s0 fv/\(∀y∈s0,Sd.tJ y)/\s0.length<=1000/\nQ cL s0 fv fB/\ab0 k)/\
 ∀(rs:List Sd.aF),rs=Sd.ft s0 l->∀(x':Option aI) (c' ty:Nat) (us:List ab),∃B7:List Sd.aF,(rs.length=B7.length/\rs.length=B7.length/\lS rs=lS B7/\B7.length<=1000000)/\X (Sd.lR B7)
section
variable(C:Sd.aN) (k:LK) (s:Sd.aa) (F:a9 cL (aY k s)) (u:ae) (fB:List ai) (kf:Nat->Int) (l:Int) (m:Sd.bo) (K:VK (LG cL))
end
def Ml (C:Sd.aN):List (bK (LG cL)):=[⟨16,true,wu 8 fq⟩,⟨37,true,wu 32 gQ⟩,⟨24,false,TT C⟩,⟨19,true,HA⟩,⟨36,true,HD⟩]
theorem ab3:aG prog gS (Ml (aO aP)):=aG.cons ⟨abP,λ_=>TN⟩ (aG.cons ⟨arH,λ_=>TN⟩ (aG.cons ⟨arY TG,λe=>by cases e⟩ (aG.cons ⟨ar7,λ_=>ar8⟩ (aG.cons ⟨asd,λ_=>ase⟩ aG.nil))))
def sD (wr:Bool) (n:Nat) (f:Sd.aw) (us:List ab):VB:=⟨wr,⟨5,(0,0)⟩,[.bH .u8 n f,.rest us]⟩
def HE (r:Int):Int:=u8.wrap (bits .and .i64 r 255)
def T5 (k:LK) (n c:Nat) (l r:Int) (a:Sd.aF) (nc:Nat->Int):Prop:=(n=n/\n<=c/\n<=64)/\(0<=l/\l<4294967296)/\(0<=r/\r<4294967296)/\8=8/\(∀j,j<8->cZ [a.au 0,a.au 1,a.au 2,a.au 3,a.au 4,a.au 5,a.au 6,a.au 7] j=nc j)/\ab0 k
section
variable(C:Sd.aN) (k:LK) (s:Sd.aa) (F:a9 cL (aY k s)) (u:ae) (fB:List ai) (wr:Bool) (n:Nat) (f:Sd.aw) (us:List ab) (c:Nat) (l r:Int) (K:VK (LG cL))
def T6:Prop:=
 let B (s':Sd.aa):=dc k (eM s')++[sD wr n f us]
 SN k s/\(2=2/\2+0=2/\lq=lq)/\si k/\CoZ k s F 2 (f2 1 (HE r))/\abZ (fr:=cL) (k:=k) (gU C (bR s) l 0 2 (f2 1 (HE r))) λs1 r1 Dx F1=>T4 k s1 r1 (Dx++fB) l λa=>
  cond (a.kind !=129) (let Z:=K (.ao [.agg (ints 32 lq),.agg (jn a)]) (B s1) [.aX u,.core (bb k (eM s1) F1) (Dx++fB)];Z/\Z)
   (∃nc:Nat->Int,T5 k n c l r a nc/\∀d:Nat,SN k (eM s1)/\(10=10/\10+d=10+d/\lq=lq)/\si k/\CoZ k (eM s1) F1 10 (nX (HE r) (fq n f l r nc))/\abZ (fr:=cL) (k:=k) (gU C (bR (eM s1)) l 0 10 (nX (HE r) (fq n f l r nc))) λs2 r2 T7 F2=>
    ∃nc:Nat->Int,T5 k n c l r a nc/\T4 k s2 r2 (T7++(Dx++fB)) l λb=>K (.ao [.agg (ints 32 (gQ n f l r nc)),.agg (jn b)]) (B s2) [.aX u,.core (bb k (eM s2) F2) (T7++(Dx++fB))])
theorem asf:bu (yy prog gS (Ml C) A4 Dv λ_ _=>none) 60 13 [.ptr 2 0,.sl 4 0 n c,.int .i64 l,.int .i64 r] (dc k s++[sD wr n f us]) [.aX u,.core (bb k s F) fB] (bm 5 K)=T6 C k s F u fB wr n f us c l r K:=by kernel_rfl
end
end
end Go.Proofs.YtggfpcggakghnaaGreatDoor
namespace Sd
def ab4 (l:List Rec):Int:=l.foldl (λa r=>if r.kind=8 then a+1 else a) 0
def ab5 (l:List Rec):Int:=l.foldl (λa r=>if r.kind=8 then r.how else a) 0
structure Wn where
 p:aJ
 xh:Int
 xe:Int
 xo:Int
 asg:Bool
 n:Nat
 q:Nat->Int
 yh:Int
 ye:Int
 yo:Int
 ash:Bool
 on:Int->Bool
 l:List Rec
 kind:Int
 link:Int
def asi (w:Wn) (how:Int):Prop:=
 (how=1/\w.kind=0/\w.xo=w.yh/\w.link=w.yh)\/
 (how=2/\w.kind<2/\0<w.n/\w.q 0=w.yh/\(w.kind=1↔w.xh=0))\/
 (how=3/\w.kind=0/\w.link=w.yh/\ff w.p w.yh w.xh=true/\w.asg=false)\/
 (how=4/\w.kind=1/\w.yh=0)\/
 (how=5/\w.kind=3/\w.on w.xh=false/\w.on w.yh=true)\/
 (how=6/\w.yh=4/\((w.kind=2/\w.ash=true)\/(w.kind=3/\w.xe=65535/\w.on w.xh=false)))
structure auj (w:Wn):Prop where
 hx:0<=w.xh/\w.xh<=4
 hy:0<=w.yh/\w.yh<=4
 ex:0<=w.xe/\w.xe<=65535
 kd:0<=w.kind/\w.kind<=3
 len:w.l.length<=1000
 auk:∀j,j<w.l.length->(w.l.getD j default).kind=8->(w.l.getD j default).source=w.yh/\(w.l.getD j default).af=w.ye
 how:(w.yh=w.xh/\w.ye=w.xe/\ab4 w.l=0)\/(w.yh≠w.xh/\ab4 w.l=1/\w.yo=-1/\((w.ye=w.xe+1)\/(w.xe=65535/\w.ye=w.xe/\ab5 w.l=6))/\asi w (ab5 w.l))
theorem tK.link {a b:Core} {k l l' how:Int} (h:tK a b k l how) (hk:k≠0):tK a b k l' how:=by
 unfold tK at h⊢;rcases h with h|h|h|h|h|h
 ·exact absurd h.2.1 hk
 ·exact .inr (.inl h)
 ·exact absurd h.2.1 hk
 ·exact .inr (.inr (.inr (.inl h)))
 ·exact .inr (.inr (.inr (.inr (.inl h))))
 ·exact .inr (.inr (.inr (.inr (.inr h))))
theorem eL.link {C:aN} {b:Prop} {s s':aa} {k l l':Int} (h:eL C b s s' k l) (hk:k≠0):eL C b s s' k l':=
 ⟨h.inv,h.z6.imp id λ⟨how,g,w⟩=>⟨how,g,w.link hk⟩⟩
structure aul (C:aN) (s s':aa):Prop where
 head:s'.c.head=s'.br.foldl C.next s.c.head
 lo:∀r∈s'.br,s.c.t.af<=r.af
 hi:∀r∈s'.br,r.af<=s'.c.t.af
 up:s'.br.Pairwise λa b=>a.af<=b.af
 ep:s.c.t.af<=s'.c.t.af
def T8 (k:Int):Bool:=k==129||(k==130||(k==131||k==132))
theorem asj {k:Int} (h:132<k):T8 k=false:=by
 unfold T8;simp only[Bool.or_eq_false_iff,beq_eq_false_iff_ne];omega
inductive ab6 (s':aa) (l:Int):Prop
 |no (h1:0<s'.br.length) (h2:(s'.br.getD 0 default).kind=1) (h3:s'.bz=[])
 |yes (h1:(s'.br.getD 0 default).kind≠1\/s'.br=[]) (xs ys:List (Int×aF)) (r:aF) (h2:s'.bz=xs++(l,r)::ys) (h3:129<=r.kind/\r.kind<=132) (h4:∀x∈xs++ys,132<x.2.kind)
theorem ab6.link {s':aa} {l:Int} (h:ab6 s' l) {x:Int×aF} (hx:x∈s'.bz) (ha:T8 x.2.kind=true):x.1=l:=by
 cases h with
 |no h1 h2 h3=>rw[h3]at hx;cases hx
 |yes h1 xs ys r h2 h3 h4=>
  rw[h2]at hx;have no:∀y,y∈xs++ys->y=x->False:=λy hy e=>by rw[<-e,asj (h4 y hy)]at ha;cases ha
  rcases ez.1 hx with hx|hx
  ·exact(no x (mH _ hx) rfl).elim
  ·rcases bY.1 hx with rfl|hx
   ·rfl
   ·exact(no x (qU _ hx) rfl).elim
theorem eL.asl {C:aN} {b:Prop} {s s':aa} {k l:Int} (h:eL C b s s' k l) (hs:s.bz=[]):∀x∈s'.bz,tJ x:=by
 rcases h.z6 with q|⟨how,g,w⟩
 ·obtain⟨ts,t1,t2⟩:=q.bz;rw[hs,fc]at t1;rw[t1];exact t2
 ·obtain⟨ts,t1,t2⟩:=g.bz;rw[hs,fc]at t1;rw[t1];exact t2
end Sd
namespace Go.Proofs.YtggfpcggakghnaaGreatDoor
section
open Go Go.RowKit Go.BigFrame Sx Vx
theorem asm {q:List Int} (h:∀x∈q,0<=x/\x<=255):By (cZ q):=by
 intro j;unfold cZ;rw[n7];cases hq:q[j]?with
 |none=>exact⟨by decide,by decide⟩
 |some x=>exact h x (nx hq)
theorem T9 (kn:Nat) (kf:Nat->Int) (n:Nat) (d:Nat->Int):By (fU kn kf n d):=by unfold fU;exact ZS _ _
theorem asn {r:Int} (h:0<=r/\r<=3):By (f2 1 r):=λj=>by unfold f2;split<;>omega
theorem aso {r:Int} (h:0<=r/\r<=3) {p:Nat->Int} (hp:By p):By (nX r p):=asm (by
 intro x hx;simp only[bY,n9,or_false]at hx;rcases hx with rfl|rfl|rfl|rfl|rfl|rfl|rfl|rfl|rfl|rfl
 ·omega
 ·omega
 all_goals exact hp _)
theorem asp {r:Int} (h:0<=r/\r<=3):HE r=r:=by
 rcases(by omega:r=0\/r=1\/r=2\/r=3)with rfl|rfl|rfl|rfl<;>decide
theorem nQ.app {l:List (Int×Sd.aF)} {fv:Nat->t_} {fn:List ai} (h:nQ cL l fv fn) (fB:List ai):nQ cL l fv (fn++fB):=λj hj=>by
 obtain⟨x,c,b,h1,h2,h3⟩:=h j hj;exact⟨x,c,b,h1,h2,λy hy=>mH _ (h3 y hy)⟩
theorem ab7 {k:LK} {s:Sd.aa} (h:ew k s) (l code:Int) (n:Nat) (f:Sd.aw):Sd.eL (aO aP) False s (gU (aO aP) s l code n f) 0 l:=by
 unfold gU;split
 ·rename_i hl;exact Sd.YM C3 h.i hl (λe=>e.elim)
 ·exact .jF h.i (Sd.Quiet.refl ..)
theorem T_ {k:LK} {s:Sd.aa} (h:ew k s) (l code:Int) (n:Nat) (f:Sd.aw):(gU (aO aP) s l code n f).c.p=s.c.p:=aaJ (ab7 h l code n f)
theorem ab8 {k:LK} {s:Sd.aa} (h:ew k s) (l code:Int) (n:Nat) (f:Sd.aw):(∀y∈(gU (aO aP) s l code n f).bz,Sd.tJ y)/\(gU (aO aP) s l code n f).bz.length<=10:=by
 refine⟨(ab7 h l code n f).asl h.e1,?_⟩;have h1:Sd.Gr 10 s (gU (aO aP) s l code n f):=by
  unfold gU;split
  ·exact Sd.arX _ _ _ _ _ _
  ·exact(Sd.Gr.c0 rfl rfl).le (by decide)
 have:=h1.2;rw[h.e1]at this;simpa using this
theorem ab9 {k:LK} {s':Sd.aa} {r:TR} {fB:List ai} {l:Int} {X:Sd.aF->Prop} (hf:nQ cL s'.bz r.fv fB) (hs:∀y∈s'.bz,Sd.tJ y) (hl:s'.bz.length<=1000) (hX:X (Sd.lR (Sd.ft s'.bz l))):T4 k s' r fB l X:=
 ⟨s'.bz,r.fv,⟨rfl,rfl,rfl,hs,hl,hf,k.tg,rfl⟩,λrs e x' c' ty us=>⟨rs,⟨rfl,rfl,rfl,by rw[e];have:=abX s'.bz l;omega⟩,by rw[e];exact hX⟩⟩
theorem ab_ {k:LK} {s:Sd.aa} (h:s.c.p.queue=k.most):SN k s:=⟨rfl,rfl,rfl,rfl,rfl,h⟩
theorem ls8 (g:Nat->Int):∀j,j<8->cZ [g 0,g 1,g 2,g 3,g 4,g 5,g 6,g 7] j=g j:=by
 intro j hj;rcases(by omega:j=0\/j=1\/j=2\/j=3\/j=4\/j=5\/j=6\/j=7)with rfl|rfl|rfl|rfl|rfl|rfl|rfl|rfl<;>rfl
section
variable{k:LK} {s:Sd.aa} {F:a9 cL (aY k s)} {u:ae} {fB:List ai} {kf:Nat->Int} {l r:Int} {m:Sd.bo} {K:VK (LG cL)} {wr:Bool} {n c:Nat} {f:Sd.aw} {us:List ab}
theorem asq (hC:ew k s) (v1:cV=F.vs) (v2:cV=F.vr) (hN:si k) (hq:s.c.p.queue=k.most) (hl:1<=l/\l<=3) (hr:0<=r/\r<=3) (hc:n<=c) (hn:n<=64)
 (hK:∀s' key rep,(s',key,rep)=lT (aO aP) s l r n f->∀(F':a9 cL (aY k s')) (kz:List ai),cV=F'.vs->cV=F'.vr->K (.ao [.agg (ints 32 key),.agg (jn rep)]) (dc k s'++[sD wr n f us]) [.aX u,.core (bb k s' F') kz]):T6 (aO aP) k s F u fB wr n f us c l r K:=by
 unfold T6;dsimp only;rw[vP,asp hr];refine⟨ab_ hq,⟨rfl,rfl,rfl⟩,hN,⟨by rw[vP];exact hC,v1,v2,by decide,asn hr⟩,?_⟩;intro s1 gx r1 Dx F1 w1 w2 u7;have hC1:ew k (eM s1):=by rw[gx];exact hC.item _ _ _ _
 have EF:s1.c.p=s.c.p:=by rw[gx];exact T_ hC _ _ _ _
 have hI:=ab8 hC l 0 2 (f2 1 r);rw[<-gx]at hI;refine ab9 (u7.app fB) hI.1 (by have:=hI.2;omega) (aH (λe=>?_) (λe=>?_))
 ·have e1:¬(Sd.lR (Sd.ft s1.bz l)).kind=129:=by simpa using e
  have hz:=hK (eM s1) lq (Sd.lR (Sd.ft s1.bz l)) (by
   unfold lT;dsimp only;rw[<-gx,if_neg e1]) F1 (Dx++fB) w1 w2
  exact⟨hz,hz⟩
 ·have e1:(Sd.lR (Sd.ft s1.bz l)).kind=129:=by simpa using e
  have sp:T5 k n c l r (Sd.lR (Sd.ft s1.bz l)) (Sd.lR (Sd.ft s1.bz l)).au:=⟨⟨rfl,hc,hn⟩,by omega,by omega,rfl,ls8 _,k.tg,rfl⟩;refine⟨_,sp,λd=>⟨ab_ (by show s1.c.p.queue=k.most;rw[EF];exact hq),⟨rfl,rfl,rfl⟩,hN,⟨by rw[vP];exact hC1,w1,w2,by decide,aso hr (T9 _ _ _ _)⟩,?_⟩⟩;rw[vP];intro s2 yZ r2 T7 F2 z1 z2 u9;have Ua:=ab8 hC1 l 0 10 (nX r (fq n f l r (Sd.lR (Sd.ft s1.bz l)).au));rw[<-yZ]at Ua;refine⟨_,sp,ab9 (u9.app _) Ua.1 (by have:=Ua.2;omega) (hK (eM s2) _ _ ?_ F2 _ z1 z2)⟩;unfold lT;dsimp only;rw[<-gx,if_pos e1,<-yZ]
end
theorem asr (a b:Nat):Gl gS (cK a b):=by
 intro g i dp;unfold gS at dp;split at dp
 ·obtain rfl:=ck dp;exact⟨by simp,rfl⟩
 ·obtain rfl:=ck dp;exact⟨by simp,rfl⟩
 ·cases dp
def Ub (C:Sd.aN):cP (LG cL):=λargs bl ch K=>match args,ch with
 |[.ptr ic 0,.sl ip 0 n c,.int .i64 l,.int .i64 r],.aX u::.core g fB::rest=>(match A2 bl (.sl ip 0 n c)with
  |some (_,n',f)=>(match bl[ic]?with
   |some ⟨true,⟨105,(0,0)⟩,cc⟩=>(match Ae cc with
    |some x=>(match bl[x.it]?with
     |some ⟨true,⟨157,(0,0)⟩,tc⟩=>(match rS tc with
      |some y=>cond (bI bl.length bl&&(cj 1 ip&&(cj 1 ic&&(cj 1 x.it&&(!(ax ic x.it)&&(!(ax ic ip)&&!(ax x.it ip)))))))
       ((bl[0]?=some (bU g.d.k)/\bl[1]?=some (g_ g.d.k)/\x=lg g.d.k x.it (eV x y g.d g.dx g.sx)/\y.b=x.p.b_/\y.m=x.p.eS/\x.p.queue=g.d.k.most)/\
         (n=n'/\n<=c/\n<=64)/\si g.d.k/\(ew g.d.k (eV x y g.d g.dx g.sx)/\cV=g.F.vs/\cV=g.F.vr)/\((1<=l/\l<=3)/\0<=r/\r<=3)/\
         ∀(s':Sd.aa) (key:Sd.aw) (rep:Sd.aF),(s',key,rep)=lT C (eV x y g.d g.dx g.sx) l r n f->∀(F':a9 cL (aY g.d.k s')) (kz:List ai),cV=F'.vs->cV=F'.vr->
          K (.ao [.agg (ints 32 key),.agg (jn rep)]) (ef bl ic x.it g.d.k s') (.aX u::.core (bb g.d.k s' F') kz::rest)) False
      |none=>False)
     |_=>False)
    |none=>False)
   |_=>False)
  |none=>False)
 |_,_=>False
theorem ass (a b c:Nat):Gl gS (cK a b++[c]):=(asr a b).app [c]
theorem ast {ids:List Nat} {bl:List VB} {k:LK} {s:Sd.aa} {F:a9 cL (aY k s)} {u:ae} {fB:List ai} {rest:List (LG cL)} {R:List ai} {ms:List Nat} {w0 w:ae} {ic it ip n c:Nat} {wr:Bool} {f:Sd.aw} {rs:List V} {l r:Int} {K:VK (LG cL)}
 (hg:Gl gS ids) (hl:ids.length=bl.length) (S:St ms w0 (lits ids ids bl++av (.aX u::.core (bb k s F) fB::rest) R) w) (H:AA bl ic it k s) (v9:bl[ip]?=some ⟨wr,⟨5,(0,0)⟩,.bH .u8 n f::rs⟩) (qw:bI bl.length bl=true) (q1:1<ip) (q2:1<ic) (q3:1<it) (n4:ic≠it) (n5:ic≠ip) (n6:it≠ip)
 (hC:ew k s) (v1:cV=F.vs) (v2:cV=F.vr) (Dd:si k) (hqm:s.c.p.queue=k.most) (Mb:1<=l/\l<=3) (Uc:0<=r/\r<=3) (A3:n<=c) (hn:n<=64)
 (hK:∀s' key rep,(s',key,rep)=lT (aO aP) s l r n f->∀(F':a9 cL (aY k s')) (kz:List ai),cV=F'.vs->cV=F'.vr->K (.ao [.agg (ints 32 key),.agg (jn rep)]) (ef bl ic it k s') (.aX u::.core (bb k s' F') kz::rest)):
 aQ prog 13 (aA ids [.ptr ic 0,.sl ip 0 n c,.int .i64 l,.int .i64 r]).toArray w λv w'=>∃x more bl' ch',v=den (ids++more) x/\(ids++more).length=bl'.length/\St ms w0 (lits (ids++more) (ids++more) bl'++av ch' R) w'/\K x bl' ch':=by
 have l1:=ia v9;have l2:=ia H.hc;have l3:=ia H.ht;obtain⟨r',hr,hp⟩:=xT (bl:=bl) (ids:=ids) hl (is:=[0,1,ic,it,ip]) (by simp;omega) (by
  intro i hi;simp only[bY,n9,or_false]at hi;rcases hi with rfl|rfl|rfl|rfl|rfl<;>omega)
 have emp:∀(bl':List VB),[0,1,ic,it,ip].map (λj=>ay ids (ids.getD j 0) (bl'.getD j cX))=([0,1,ic,it].map λj=>ay ids (ids.getD j 0) (bl'.getD j cX))++[ay ids (ids.getD ip 0) (bl'.getD ip cX)]:=λ_=>rfl;generalize hI:cK (ids.getD ic 0) (ids.getD it 0)=I at*;have HF:I.length=4:=by rw[<-hI];rfl
 have G0:ay ids (ids.getD ip 0) ⟨wr,⟨5,(0,0)⟩,.bH .u8 n f::rs⟩=ay [] (ids.getD ip 0) (sD wr n f (ah ids rs)):=by
  unfold ay sD;simp only[ah,cl,cI]
 have gD:=hp bl rfl;rw[emp,Db H hg,iT v9,hI]at gD;have aca:∀s':Sd.aa,lits (I++[ids.getD ip 0]) (I++[ids.getD ip 0]) (dc k s'++[sD wr n f (ah ids rs)])=lits I I (dc k s')++[ay [] (ids.getD ip 0) (sD wr n f (ah ids rs))]:=λs'=>by
  rw[eZ _ _ _ _ (by rw[HF];rfl),e_ (ids:=I) (more:=[ids.getD ip 0]) _ (dc k s') (by rw[HF];rfl),AB (ids':=[]) [ids.getD ip 0] [sD wr n f (ah ids rs)] rfl];rfl
 have S1:St ms w0 (lits (I++[ids.getD ip 0]) (I++[ids.getD ip 0]) (dc k s++[sD wr n f (ah ids rs)])++av [LG.aX u,LG.core (bb k s F) fB] ((r'.map λj=>ay ids (ids.getD j 0) (bl.getD j cX))++av rest R)) w:=S.perm (by
  refine(gD.append_right _).trans ?_;rw[aca,<-G0];show(_++(dv u++((F.B++fB)++av rest R))).Perm (_++(dv u++((F.B++fB)++((r'.map λj=>ay ids (ids.getD j 0) (bl.getD j cX))++av rest R))));exact hJ λf=>by simp only[ik];omega)
 have cJ:bu (yy prog gS (Ml (aO aP)) A4 Dv λ_ _=>none) 60 13 [.ptr 2 0,.sl 4 0 n c,.int .i64 l,.int .i64 r] (dc k s++[sD wr n f (ah ids rs)]) [.aX u,.core (bb k s F) fB] (bm 5 λv b c=>∃(s':Sd.aa) (key:Sd.aw) (rep:Sd.aF) (F':a9 cL (aY k s')) (kz:List ai),(s',key,rep)=lT (aO aP) s l r n f/\cV=F'.vs/\cV=F'.vr/\v=.ao [.agg (ints 32 key),.agg (jn rep)]/\b=dc k s'++[sD wr n f (ah ids rs)]/\c=[.aX u,.core (bb k s' F') kz]):=by
  rw[asf];exact asq hC v1 v2 Dd hqm Mb Uc A3 hn λs' key rep e F' kz z1 z2=>⟨s',key,rep,F',kz,e,z1,z2,rfl,rfl,rfl⟩
 have cC:aA ids [.ptr ic 0,.sl ip 0 n c,.int .i64 l,.int .i64 r]=aA (I++[ids.getD ip 0]) [.ptr 2 0,.sl 4 0 n c,.int .i64 l,.int .i64 r]:=by rw[<-hI];rfl
 rw[cC];refine(eD ab3.T ab3.Q 60 (C:=yy prog gS (Ml (aO aP)) A4 Dv λ_ _=>none) (by rw[<-hI];exact ass _ _ _) (by rw[fi,HF];rfl) S1 cJ).mono ?_;rintro v w' ⟨xv,more,bl',ch',rfl,h1,S',rL⟩;obtain⟨v2',cD,bl2,hv,dw,S2,s',key,rep,F',kz,asu,z1,z2,rfl,rfl,rfl⟩:=h_ (n0:=5) h1 (by rw[fi,fi,HF];simp) S' rL;have ht5:(I++[ids.getD ip 0]++more).take 5=I++[ids.getD ip 0]:=by rw[<-hI];rfl
 rw[ht5]at hv dw S2;have hm2:cD=[]:=by
  have:(I++[ids.getD ip 0]++cD).length=5:=dw;rw[fi,fi,HF]at this;simp at this;exact this
 subst hm2;rw[cI,aca]at S2;refine⟨.ao [.agg (ints 32 key),.agg (jn rep)],[],ef bl ic it k s',.aX u::.core (bb k s' F') kz::rest,?_,?_,?_,hK s' key rep asu F' kz z1 z2⟩
 ·rw[hv];simp only[den,aA,cI,xB];rfl
 ·simp[ef,hl]
 ·have H':=SH H q2 q3 n4 s';have nh:=hp (ef bl ic it k s') (by simp[ef]);have BY:(ef bl ic it k s').getD ip cX=⟨wr,⟨5,(0,0)⟩,.bH .u8 n f::rs⟩:=by
   have:(ef bl ic it k s')[ip]?=some ⟨wr,⟨5,(0,0)⟩,.bH .u8 n f::rs⟩:=by
    unfold ef;rw[kq n6,kq n5];exact v9
   exact iT this
  rw[emp,Db H' hg,BY,hI]at nh;have Ag:(r'.map λj=>ay ids (ids.getD j 0) ((ef bl ic it k s').getD j cX))=r'.map λj=>ay ids (ids.getD j 0) (bl.getD j cX):=by
   unfold ef;refine SI ?_;intro j hj;have:=hr j hj;simp only[bY,n9,or_false,not_or]at this;omega
  rw[Ag]at nh;rw[cI];rw[<-G0]at S2;refine S2.perm ?_;show List.Perm ((_++_)++(dv u++((F'.B++kz)++((r'.map λj=>ay ids (ids.getD j 0) (bl.getD j cX))++av rest R)))) (lits ids ids (ef bl ic it k s')++(dv u++((F'.B++kz)++av rest R)));refine DO ?_ (nh.symm.append_right _);exact hJ λf=>by simp only[ik];omega
theorem asv:Sound prog gS 13 (Ub (aO aP)):=by
 intro args ids bl ch R ms w0 w K hg hl S hc;unfold Ub at hc;split at hc
 ·rename_i ic ip n c l r u g fB rest;split at hc
  ·rename_i nc n' f gW;split at hc
   ·rename_i cc qf;split at hc
    ·rename_i x hx;split at hc
     ·rename_i tc tQ;split at hc
      ·rename_i y hy;cases hq:bI bl.length bl&&(cj 1 ip&&(cj 1 ic&&(cj 1 x.it&&(!(ax ic x.it)&&(!(ax ic ip)&&!(ax x.it ip))))))with
       |false=>rw[hq]at hc;exact hc.elim
       |true=>
        rw[hq]at hc;simp only[a_,lv,gV]at hq;obtain⟨qw,q1,q2,q3,q4,q5,q6⟩:=hq;have nb:∀{a b:Nat},ax a b=false->a≠b:=λh e=>by rw[e,qS]at h;cases h
        obtain⟨⟨e3,e4,e5,e6,e7,e8⟩,⟨rfl,A3,hn⟩,Dd,⟨hC,v1,v2⟩,⟨Mb,Uc⟩,hK⟩:=hc;obtain rfl:=F_ hx;obtain rfl:=xS hy;have H:AA bl ic x.it g.d.k (eV x y g.d g.dx g.sx):=by
         refine⟨e3,e4,?_,?_⟩
         ·rw[qf];congr 1;unfold gC;rw[<-e5]
         ·rw[tQ];congr 1;unfold gp;have:y=tP (eV x y g.d g.dx g.sx):=by
           obtain⟨y1,y2,y3,y4,y5,y6,y7,y8⟩:=y;simp only at e6 e7;subst e6 e7;rfl
          rw[<-this]
        obtain⟨wr,rs,v9⟩:∃wr rs,bl[ip]?=some ⟨wr,⟨5,(0,0)⟩,.bH .u8 n f::rs⟩:=by
         unfold A2 at gW;split at gW
         ·rename_i i n1 c1 hsl;cases hsl;split at gW
          ·rename_i wr n2 f2 r hb;cases gW;exact⟨wr,r,hb⟩
          ·cases gW
         ·cases gW
        exact ast (k:=g.d.k) (s:=eV x y g.d g.dx g.sx) (F:=g.F) hg hl S H v9 qw q1 q2 q3 (nb q4) (nb q5) (nb q6) hC v1 v2 Dd e8 Mb Uc A3 hn hK
      ·exact hc.elim
     ·exact hc.elim
    ·exact hc.elim
   ·exact hc.elim
  ·exact hc.elim
 ·exact hc.elim
variable{fr:Sd.aF->Nat×Sd.aw}
theorem asw:Sound prog gS 14 (Hm (fr:=cL)):=by
 intro args ids bl ch R ms w0 w K hg hl S hc;have key:Da (λ_=>Ld) args bl ch λv b c=>∃ex,b=bl++ex/\(∀Y,av c Y=av ch Y)/\K v (bl++ex) ch:=by
  unfold Hm at hc;unfold Da;split at hc
  ·rename_i ic u g fB rest;split at hc
   ·rename_i cc qf;try simp only[qf]
    split at hc
    ·rename_i x hx;try simp only[hx]
     split at hc
     ·rename_i tc tQ;try simp only[tQ]
      split at hc
      ·rename_i y hy;try simp only[hy]
       cases hq:bI bl.length bl&&(cj 1 ic&&(cj 1 x.it&&!(ax ic x.it)))with
       |false=>rw[hq]at hc;exact hc.elim
       |true=>
        rw[hq]at hc;obtain⟨⟨e3,e4,e5,e6,e7,e8⟩,hK⟩:=hc;simp only[ba,Bool.true_and,cond_true];refine⟨⟨e3,e4,e5,e6,e7,e8⟩,λz c ty us=>?_⟩;have lJ:bl[ic]?=some (gC g.d.k x.it (eV x y g.d g.dx g.sx)):=by
         rw[qf,F_ hx];congr 1;unfold gC;rw[<-e5]
        have j8:bl[x.it]?=some (gp (eV x y g.d g.dx g.sx)):=by
         rw[tQ,xS hy];congr 1;unfold gp;have:y=tP (eV x y g.d g.dx g.sx):=by
          obtain⟨y1,y2,y3,y4,y5,y6,y7,y8⟩:=y;simp only at e6 e7;subst e6 e7;rfl
         rw[<-this]
        have hs:ef bl ic x.it g.d.k (eV x y g.d g.dx g.sx)=bl:=by
         unfold ef;rw[abl lJ,abl j8]
        exact⟨_,congrArg (·++_) hs,λY=>rfl,hK z c ty us⟩
      ·exact hc.elim
     ·exact hc.elim
    ·exact hc.elim
   ·exact hc.elim
  ·exact hc.elim
 refine(aaB (aaI TG) args ids bl ch R ms w0 w _ hg hl S key).mono ?_;rintro v w' ⟨x,more,bl',ch',hv,h1,S',ex,rfl,hn,hK⟩;exact⟨x,more,_,ch,hv,h1,by rw[hn]at S';exact S',hK⟩
section
variable(C:Sd.aN) (tg tc:aD) (it:Nat)
def nwP (u:ae) (x:j1) (L:List V) (m:Nat->Nat) (X:(p2:Sd.aJ)->(k:LK)->a9 cL (aY k (ib p2))->Prop):Prop:=G8 L (n4 m)/\∀(p2:Sd.aJ) (k:LK) (F:a9 cL (aY k (ib p2))),G9 L (kM x u) tg tc p2 k->cV=F.vs->cV=F.vr->X p2 k F
variable(k:LK) (s:Sd.aa) (F:a9 cL (aY k s))
def CoY:Prop:=ew k (bR s)/\cV=F.vs/\cV=F.vr
def Mm (n c:Nat) (f:Sd.aw) (l r:Int) (X:(s':Sd.aa)->Sd.aw->Sd.aF->a9 cL (aY k s')->List ai->Prop):Prop:=
 AK tg tc it k s/\(n=n/\n<=c/\n<=64)/\si k/\CoY k s F/\((1<=l/\l<=3)/\0<=r/\r<=3)/\∀s' key rep,(s',key,rep)=lT C (bR s) l r n f->∀(F':a9 cL (aY k s')) (kz:List ai),cV=F'.vs->cV=F'.vr->X s' key rep F' kz
def HG (X:Prop):Prop:=AK tg tc it k s/\∀(z:Option aI) (c ty:Nat) (us:List ab),X
end
def Ud {G:Type} (g:Nat->Nat):(aZ->V)->Op->List VB->List G->VK G->Prop:=λe op bl ch K=>match op with
 |.binOp .rem t (.tmp i) (.const (.int .i64 (.ofNat 3))) t2=>(match e (.tmp i),e (.const (.int .i64 (.ofNat 3)))with
  |.int .i64 n,.int .i64 (.ofNat 3)=>n.tmod 3=cU (g i)/\K (.int .i64 (cU (g i))) bl ch
  |_,_=>False)
 |_=>False
theorem asx {G:Type} [Bl G] {P:aC} {gl:Nat->Option Nat} {g:Nat->Nat}:fC (G:=G) P gl (Ud g):=by
 intro e op ids bl ch R ms w0 w K ρ o hg hl S aW ho h;unfold Ud at h;split at h
 ·rename_i t i t2;split at h
  ·rename_i n hx hy;obtain⟨h0,h⟩:=h;have bE:(execOp ρ o).run P w=.ok (.value (.int .i64 (n.tmod 3))) w:=by
    have hb:El P .rem t (e (.tmp i)) (e (.const (.int .i64 (.ofNat 3))))=some (.int .i64 (n.tmod (.ofNat 3))):=by rw[hx,hy];rfl
    unfold execOp;simp only[ho,aW];rw[bj,Nw hb];rfl
   exact⟨_,[],bl,ch,w,.inl (by rw[bE,h0];simp[den]),by simpa using hl,by simpa using S,h⟩
  ·exact h.elim
 ·exact h.elim
theorem yz {b:Bool} {X Y:Prop} (h:b=true) (k:X):cond b X Y:=by rw[h];exact k
theorem Dy {b:Bool} {X Y:Prop} (h:b=false) (k:Y):cond b X Y:=by rw[h];exact k
section
variable{tg tc:aD} {it:Nat} {k:LK} {s:Sd.aa} {F:a9 cL (aY k s)} {l r:Int}
theorem asy {n:Nat} {f:Sd.aw} {s':Sd.aa} {key:Sd.aw} {rep:Sd.aF} (h:ew k s) (e:(s',key,rep)=lT (aO aP) s l r n f):ew k s'/\s'.c.p=s.c.p:=by
 unfold lT at e;dsimp only at e;have h1:=h.item l 0 2 (f2 1 r);have p1:=T_ h l 0 2 (f2 1 r);split at e
 ·simp only[bd]at e;obtain⟨rfl,_,_⟩:=e;exact⟨h1.item _ _ _ _,(T_ h1 _ _ _ _).trans p1⟩
 ·simp only[bd]at e;obtain⟨rfl,_,_⟩:=e;exact⟨h1,p1⟩
structure ud (tg tc:aD) (k:LK) (s:Sd.aa) (F:a9 cL (aY k s)):Prop where
 tg:k.tg=tg
 tc:k.tc=tc
 q:s.c.p.queue=k.most
 ln:si k
 c:ew k s
 v1:cV=F.vs
 v2:cV=F.vr
theorem ud.co (h:ud tg tc k s F):CoY k s F:=⟨by rw[vP];exact h.c,h.v1,h.v2⟩
theorem ud.cF (h:ud tg tc k s F):AK tg tc it k s:=Hl h.tg h.tc h.q
theorem acb {n c:Nat} {f:Sd.aw} {X:(s':Sd.aa)->Sd.aw->Sd.aF->a9 cL (aY k s')->List ai->Prop} (h:ud tg tc k s F) (hc:n<=c) (hn:n<=64) (hl:1<=l/\l<=3) (hr:0<=r/\r<=3)
 (hX:∀s' key rep,(s',key,rep)=lT (aO aP) s l r n f->∀(F':a9 cL (aY k s')) (kz:List ai),ud tg tc k s' F'->X s' key rep F' kz):Mm (aO aP) tg tc it k s F n c f l r X:=by
 refine⟨h.cF,⟨rfl,hc,hn⟩,h.ln,h.co,⟨hl,hr⟩,λs' key rep e F' kz v1 v2=>?_⟩;rw[vP]at e;have hC:=asy h.c e;exact hX s' key rep e F' kz ⟨h.tg,h.tc,by rw[hC.2];exact h.q,h.ln,hC.1,v1,v2⟩
theorem Mn {X:Prop} (h:ud tg tc k s F) (hX:X):HG tg tc it k s X:=⟨h.cF,λ_ _ _ _=>hX⟩
theorem nQ.mem {l:List (Int×Sd.aF)} {fv:Nat->t_} {fn fB:List ai} (h:nQ cL l fv fn) (hm:∀y∈fn,y∈fB):nQ cL l fv fB:=λj hj=>by
 obtain⟨x,c,b,h1,h2,h3⟩:=h j hj;exact⟨x,c,b,h1,h2,λy hy=>hm y (h3 y hy)⟩
end
structure AQ (p q:Nat->Int):Prop where
 lo:∀i,i<=4->q i=p i
 r9:q 9=1/\q 13=0
 HH:∀i,10<=i/\i<=12->q i=14
 ag:∀i,14<=i/\i<=33->q i=15
 gr:∀i,34<=i/\i<=38->q i=31
 mo:∀i,39<=i/\i<=41->q i=p i
 ti:∀i,42<=i->i<=46->1<=q i/\q i<=1000
 be:q 47=p 47
 qs:∀i,48<=i->i<=49->1<=q i/\q i<=3
 li:∀i,50<=i/\i<=54->q i=p i
 ep:0<=q 55/\q 55<=65535
theorem AQ.code {x:j1} {p q:Nat->Int} {m:Nat->Nat} (h:AQ p q) (hM:Made x p m) {kn:Nat->Nat} (hk:∀j,j<4->1<=kn j/\kn j<=64):k_ q kn=0/\∀ks,Sd.eF ⟨q,ks⟩:=by
 have g:=λi hi=>hM.I.lo i hi;have md:=λ(i:Nat) (m:Int) (h1:0<m) (h2:m<=1000000)=>Df (x.q i) h1 h2;have nu:na 14=true:=by decide
 refine aa3 ?_ ⟨(h.lo 0 (by decide)).trans (g 0 (by decide)),(h.lo 4 (by decide)).trans (g 4 (by decide)),h.r9.1,h.r9.2,(h.li 50 (by decide)).trans (g 50 (by decide))⟩ hk ⟨by rw[h.HH 10 (by decide)];exact nu,by rw[h.HH 11 (by decide)];exact nu,by rw[h.HH 12 (by decide)];exact nu⟩ (λi h1 h2=>by rw[h.ag i ⟨h1,h2⟩];decide) (λi h1 h2=>by rw[h.gr i ⟨h1,h2⟩];decide) ?_ h.ti ?_ h.qs ?_ ?_ h.ep
 ·rw[h.lo 1 (by decide),h.lo 2 (by decide),h.lo 3 (by decide)];exact hM.o.perm
 ·intro i h1 h2;rw[h.mo i ⟨h1,h2⟩,g i (by omega)];have:mz (p 1) (p 2) (p 3) x.q i=cY (x.q i) 5:=by
   have:i=39\/i=40\/i=41:=by omega
   rcases this with rfl|rfl|rfl<;>rfl
  rw[this];have:=md i 5 (by decide) (by decide);omega
 ·rw[h.be,g 47 (by decide)];have:=md 47 1001 (by decide) (by decide);show 0<=cY (x.q 47) 1001/\cY (x.q 47) 1001<=1000;omega
 ·intro i h1 h2;rw[h.li i (by omega),g i (by omega)];have:mz (p 1) (p 2) (p 3) x.q i=cY (x.q i) 1001:=by
   have:i=51\/i=52\/i=53:=by omega
   rcases this with rfl|rfl|rfl<;>rfl
  rw[this];have:=md i 1001 (by decide) (by decide);omega
 ·rw[h.li 54 (by decide),g 54 (by decide)];show 1<=i64.wrap (1+cY (x.q 54) 1000)/\i64.wrap (1+cY (x.q 54) 1000)<=1000;rw[one_mod _ (by decide) (by decide)];have:=md 54 1000 (by decide) (by decide);omega
theorem AQ.at {p q q':Nat->Int} (h:AQ p q) (e:∀i,i<56->iF i=false->q' i=q i):AQ p q' where
 lo i hi:=by rw[e i (by omega) (nT (by omega))];exact h.lo i hi
 r9:=by rw[e 9 (by decide) rfl,e 13 (by decide) rfl];exact h.r9
 HH i hi:=by rw[e i (by omega) (nT (by omega))];exact h.HH i hi
 ag i hi:=by rw[e i (by omega) (nT (by omega))];exact h.ag i hi
 gr i hi:=by rw[e i (by omega) (nT (by omega))];exact h.gr i hi
 mo i hi:=by rw[e i (by omega) (nT (by omega))];exact h.mo i hi
 ti i h1 h2:=by rw[e i (by omega) (nT (by omega))];exact h.ti i h1 h2
 be:=by rw[e 47 (by decide) rfl];exact h.be
 qs i h1 h2:=by rw[e i (by omega) (nT (by omega))];exact h.qs i h1 h2
 li i hi:=by rw[e i (by omega) (nT (by omega))];exact h.li i hi
 ep:=by rw[e 55 (by decide) rfl];exact h.ep
end
section
open Go Go.RowKit Go.BigFrame Sx Vx
theorem atE {s:Sd.aa} {c:Sd.Core} {l:List (Int×Sd.aF)} (h:s.at_ c l):s.c.t=c.t/\s.c.q=c.q/\s.c.mode=c.mode/\s.c.fm=c.fm/\s.c.ag=c.ag/\s.c.p=c.p/\s.c.pt=c.pt:=by
 obtain⟨⟨x,e⟩,_⟩:=h;rw[e];exact⟨rfl,rfl,rfl,rfl,rfl,rfl,rfl⟩
section
variable{tg tc:aD} {it:Nat} {k:LK} {s:Sd.aa} {F:a9 cL (aY k s)} {l r:Int} {c:Sd.Core}
end
theorem asz {W:ae} {tg tc:aD} (hG:W.heap[1]?=some (.cells (aq .u32 64 cx) tg (0,0))) (hC:W.heap[0]?=some (.cells #[.bool false,.bool false,.bool false,.bool false,.bool false,.bool false,.bool false,.bool false,.bool false,.bool false,.bool true,.bool true] tc (0,0))):
 St [] W (lits [1,0] [1,0] [j3 tg,nU tc]++av [LG.aX (fr:=cL) W] []) W:=by
 refine St.LZ ?_;intro y hy;rcases ez.1 hy with hy|hy
 ·simp only[lits,bY,n9,or_false]at hy;rcases hy with rfl|rfl
  ·exact⟨rfl,hG.trans (by kernel_rfl)⟩
  ·exact⟨rfl,hC.trans (by kernel_rfl)⟩
 ·have:y∈dv W:=by
   rcases ez.1 (show y∈dv W++[]from hy)with h|h
   ·exact h
   ·cases h
  exact aqR W y this
theorem asA:Gl gS [1,0]:=by
 intro g j hg;unfold gS at hg;split at hg
 ·obtain rfl:=ck hg;exact⟨by simp,rfl⟩
 ·obtain rfl:=ck hg;exact⟨by simp,rfl⟩
 ·cases hg
theorem asB {x:Int} (h:0<=x/\x<=255):(i64.wrap x).tmod 3=cU 0\/(i64.wrap x).tmod 3=cU 1\/(i64.wrap x).tmod 3=cU 2:=by
 rw[qI (by omega),Int.tmod_eq_emod_of_nonneg h.1];simp only[DK];omega
def Dz (x:Int):Int:=i64.wrap (Int.tdiv x 2)
def DA:Nat->Int->Int
 |0,x=>x
 |n+1,x=>DA n (Dz x)
def acd (s r:Nat) (p:Sd.aJ) (ka:Nat->Option aI) (kn kc:Nat->Nat) (X:V->Prop):Prop:=dL prog [] 60 12 [.agg [.dS p ka kn kc],.int .i64 (.ofNat s),.int .i64 (.ofNat r)] X
def asC (s r:Nat) (p:Sd.aJ) (X:V->Prop):Prop:=cond (decide (p.i (9+s)<0)) (X (.bool false)) (X (.bool ((DA r (p.i (9+s))).tmod 2==1)))
theorem asD (p:Sd.aJ) (ka:Nat->Option aI) (kn kc:Nat->Nat) (X:V->Prop):∀s r:Nat,1<=s/\s<=3->r<=3->acd s r p ka kn kc X=asC s r p X
 |1,0,_,_=>by kernel_rfl
 |1,1,_,_=>by kernel_rfl
 |1,2,_,_=>by kernel_rfl
 |1,3,_,_=>by kernel_rfl
 |2,0,_,_=>by kernel_rfl
 |2,1,_,_=>by kernel_rfl
 |2,2,_,_=>by kernel_rfl
 |2,3,_,_=>by kernel_rfl
 |3,0,_,_=>by kernel_rfl
 |3,1,_,_=>by kernel_rfl
 |3,2,_,_=>by kernel_rfl
 |3,3,_,_=>by kernel_rfl
 |0,_,h,_=>absurd h.1 (by omega)
 |_+4,_,h,_=>absurd h.2 (by omega)
 |_,_+4,_,h=>absurd h (by omega)
theorem ace {x:Int} (h:0<=x/\x<65536):Dz x=x/2:=by
 unfold Dz;rw[Int.tdiv_eq_ediv_of_nonneg h.1,qI (by omega)]
theorem acf:∀(r:Nat) {x:Int},r<=4->0<=x/\x<65536->DA r x=x/2^r/\0<=DA r x
 |0,x,_,h=>by show x=x/1/\0<=x;omega
 |r+1,x,hr,h=>by
  have h2:0<=Dz x/\Dz x<65536:=by rw[ace h];omega
  obtain⟨a,b⟩:=acf r (by omega) h2;refine⟨?_,b⟩;show DA r (Dz x)=_;rw[a,ace h,Int.pow_succ];rcases(show r<=3\/3<r from by omega)with h3|h3
  ·match r,h3 with
   |0,_=>omega
   |1,_=>omega
   |2,_=>omega
   |3,_=>omega
  ·exact absurd hr (by omega)
theorem asE {x:Int} {r:Nat} (h:0<=x/\x<65536) (hr:r<=3):((DA r x).tmod 2==1)=Sd.has x r:=by
 obtain⟨a,b⟩:=acf r (by omega) h;unfold Sd.has;rw[Int.tmod_eq_emod_of_nonneg b,a,decide_eq_true h.1,decide_eq_true (show(0:Int)<=(r:Int) by omega),decide_eq_true (show(r:Int)<=62 by omega),ux];simp only[Bool.true_and];rfl
def HI {G:Type}:cP G:=λargs bl ch K=>match args with
 |[.agg pl,.int .i64 s,.int .i64 r]=>cond (wc pl 0) (((1<=s/\s<=3)/\(0<=r/\r<=3)/\∀i,10<=i/\i<=12->0<=iN (nth pl i)/\iN (nth pl i)<65536)/\K (.bool (Sd.eJ (nP pl AR) s r)) bl ch) False
 |_=>False
theorem asF {p:Sd.aJ} {ka:Nat->Option aI} {kn kc:Nat->Nat} {s r:Int} (hs:1<=s/\s<=3) (hr:0<=r/\r<=3) (hp:∀i,10<=i/\i<=12->0<=p.i i/\p.i i<65536) (ids:List Nat) (w:ae):
 aQ prog 12 (aA ids [.agg [.dS p ka kn kc],.int .i64 s,.int .i64 r]).toArray w λv w1=>v=.bool (Sd.eJ p s r)/\Ch [] w w1:=by
 obtain⟨a,rfl⟩:=Int.eq_ofNat_of_zero_le (show 0<=s by omega);obtain⟨b,rfl⟩:=Int.eq_ofNat_of_zero_le hr.1;have ha:1<=a/\a<=3:=by omega
 have hb:b<=3:=by omega
 have hx:=hp (9+a) (by omega);have h:dL prog [] 60 12 [.agg [.dS p ka kn kc],.int .i64 (.ofNat a),.int .i64 (.ofNat b)] (·=.bool (Sd.eJ p (a:Int) (b:Int))):=by
  show acd a b p ka kn kc _;rw[asD p ka kn kc _ a b ha hb];have e:Sd.eJ p (a:Int) (b:Int)=Sd.has (p.i (9+a)) (b:Int):=by
   unfold Sd.eJ;rw[vE (by omega) (by omega),vE (by omega) (by omega)];simp only[Bool.true_and];show Sd.has (p.i (9+((a:Nat):Int).toNat)) _=_;rw[ux]
  refine aH (λh=>?_) (λh=>?_)
  ·exact absurd (of_decide_eq_true h) (by omega)
  ·show V.bool _=V.bool _;rw[e,asE hx hb]
 have:=zB bF.nil 60 h rfl rfl ids w;exact this
theorem asG {G:Type} [Bl G] {gl:Nat->Option Nat}:Sound (G:=G) prog gl 12 HI:=by
 intro args ids bl ch R ms w0 w K hg hl S hc;unfold HI at hc;split at hc
 ·rename_i pl a b;cases Ue:wc pl 0 with
  |false=>rw[Ue]at hc;exact hc.elim
  |true=>
   rw[Ue]at hc;obtain⟨⟨h1,h2,h3⟩,hK⟩:=hc;have:=asF (p:=nP pl AR) (ka:=Dj ids pl) (kn:=iG pl) (kc:=we pl) h1 h2 h3 ids w;have e:aA ids [.agg pl,.int .i64 a,.int .i64 b]=aA ids [.agg [.dS (nP pl AR) (Dj ids pl) (iG pl) (we pl)],.int .i64 a,.int .i64 b]:=by
    simp only[aA,den,aa0 Ue AR ids,ah,cl,cI];rfl
   rw[e];refine this.mono ?_;rintro v w' ⟨rfl,bT⟩;exact⟨.bool (Sd.eJ (nP pl AR) a b),[],bl,ch,rfl,by simpa using hl,by simpa using S.quiet bT,hK⟩
 ·exact hc.elim
theorem asH {G:Type}:gO (HI (G:=G)):=by
 intro args bl ch K hc;unfold HI at hc⊢;split at hc
 ·revert hc;cases wc _ 0 with
  |false=>exact λh=>h.elim
  |true=>exact λhc=>⟨hc.1,hc.2,[],by simp⟩
 ·exact hc.elim
def zC {fr:Sd.aF->Nat×Sd.aw} (P:aC):(aZ->V)->Op->List VB->List (LG fr)->VK (LG fr)->Prop:=λe op bl ch K=>match op with
 |.call c=>(match c.callee,c.args.toList,c.argTypes.toList with
  |.builtin .append,[s,xs],[t,tx]=>(match P.underlying t,P.underlying tx with
   |some (.slice 5),some (.slice _)=>(match e s,e xs,ch with
    |.sl i 0 0 0,.raw (.slice a m c),.aX u::rest=>(match bl[i]?with
     |some ⟨true,⟨5,(0,0)⟩,[]⟩=>cond (bI bl.length bl) ((im u a m c (da u a)/\m<=1000000)/\∀(d:Nat) (us:List ab),K (.sl bl.length 0 m (m+d)) (bl.set i ⟨false,⟨5,(0,0)⟩,[]⟩++[⟨false,⟨5,(0,0)⟩,[.bH .u8 m (da u a),.rest us]⟩]) (.aX u::rest)) False
     |_=>False)
    |_,_,_=>False)
   |_,_=>False)
  |_,_,_=>False)
 |_=>False
theorem acg {b:ai}:∀{L:List ai} {i:Nat},L[i]?=some b->∃r:List ai,L.Perm (b::r)/\∀c,(L.set i c).Perm (c::r)
 |[],i,h=>by simp at h
 |a::L,0,h=>by
  simp only[List.getElem?_cons_zero,aS]at h;subst h;exact⟨L,.refl _,λc=>.refl _⟩
 |a::L,i+1,h=>by
  obtain⟨r,h1,h2⟩:=acg (L:=L) (i:=i) (by simpa using h);refine⟨a::r,(h1.cons a).trans (.swap _ _ _),λc=>?_⟩;rw[List.set_cons_succ];exact((h2 c).cons a).trans (.swap _ _ _)
theorem asI {ms:List Nat} {w0 w:ae} {L X:List ai} {i:Nat} {b:ai} (S:St ms w0 (L++X) w) (h:L[i]?=some b):St ms w0 (L.set i ⟨b.id,false,b.obj⟩++X) w:=by
 obtain⟨r,h1,h2⟩:=acg h;have S1:St ms w0 (b::(r++X)) w:=S.perm (h1.append_right X);exact(St.kp S1).perm ((h2 _).append_right X).symm
theorem Oz {fr:Sd.aF->Nat×Sd.aw} {gl:Nat->Option Nat}:fC (G:=LG fr) prog gl (zC prog):=by
 intro e op ids bl ch R ms w0 w K ρ o hg hl S aW ho h;unfold zC at h;split at h
 ·rename_i c;split at h
  ·rename_i s xs t tx eb cC dr;split at h
   ·rename_i T ht fH;split at h
    ·rename_i i a m c' u rest fQ fk;split at h
     ·rename_i Bv;cases hq:bI bl.length bl with
      |false=>rw[hq]at h;exact h.elim
      |true=>
       rw[hq]at h;obtain⟨⟨hk,hm⟩,hK⟩:=h;have rA:∀y∈dv u,y∈lits ids ids bl++av (.aX u::rest) R:=λy hy=>by
        refine qU _ ?_;show y∈dv u++av rest R;exact mH _ hy
       have eY:=Ir (P:=prog) (⟨hm,SL S rA hk⟩:dD w a m c' (da u a)) fH;obtain⟨l9,ar,gA⟩:=c;simp only at eb cC dr;have e2:ar=#[s,xs]:=by rw[<-cC]
       have e3:gA=#[t,tx]:=by rw[<-dr]
       subst eb e2 e3;have gx:ρ s=.slice (some ⟨ids.getD i 0,0,none⟩) 0 0:=by rw[aW,fQ];simp only[den]
       have mV:ρ xs=.slice a m c':=by rw[aW,fk];simp only[den]
       have gw:i<bl.length:=ia Bv
       let B0:VB:=⟨false,⟨5,(0,0)⟩,[]⟩
       have GZ:bI bl.length (bl.set i B0)=true:=ZT rfl i hq;have aK:=BK (ids:=ids) ids bl hl Bv;have s7:(lits ids ids bl).set i (ay ids (ids.getD i 0) B0)=lits ids ids (bl.set i B0):=uN ids bl i B0 hl;have S1:St ms w0 (lits ids ids (bl.set i B0)++av (.aX u::rest) R) w:=by
        rw[<-s7];exact asI S aK
       have fin:∀(b:Nat) (d:Nat) (us:List ab) (w2:ae),St ms w0 (⟨b,false,.cells (bP m (da u a)++us).toArray 5 (0,0)⟩::(lits ids ids (bl.set i B0)++av (.aX u::rest) R)) w2->St ms w0 (lits (ids++[b]) (ids++[b]) (bl.set i B0++[⟨false,⟨5,(0,0)⟩,[.bH .u8 m (da u a),.rest us]⟩])++av (.aX u::rest) R) w2:=by
        intro b d us w2 S2;have em:ay (ids++[b]) b ⟨false,⟨5,(0,0)⟩,[.bH .u8 m (da u a),.rest us]⟩=⟨b,false,.cells (bP m (da u a)++us).toArray 5 (0,0)⟩:=by
         unfold ay;simp only[ah,cl,cI];rfl
        rw[eZ _ _ _ _ (by simpa using hl),e_ _ _ (by rw[hl];exact GZ)];simp only[lits,em];refine S2.perm ?_;rw[bN];exact jH.symm
       have hlen:∀b:Nat,(ids++[b]).length=(bl.set i B0++[(⟨false,⟨5,(0,0)⟩,[.bH .u8 m (da u a),.rest []]⟩:VB)]).length:=λb=>by simp[hl]
       have KW:∀(b d:Nat),den (ids++[b]) (.sl bl.length 0 m (m+d))=.slice (some ⟨b,0,none⟩) m (m+d):=λb d=>by
        simp only[den];rw[<-hl,j7]
       by_cases jL:m=0
       ·subst jL;refine⟨_,[ids.getD i 0],_,_,w,.inl ?_,by simp[hl],fin (ids.getD i 0) 0 [] w ?_,hK 0 []⟩
        ·rw[iR (P:=prog) (ρ:=ρ) (o:=o) ho gx mV (aaK (g:=da u a) eY ht ⟨ids.getD i 0,0,none⟩),KW]
        ·refine S1.dup (b:=⟨ids.getD i 0,false,.cells (bP 0 (da u a)++[]).toArray 5 (0,0)⟩) ?_ rfl;refine mH _ ?_;have h3:=BK (ids:=ids) ids (bl.set i B0) (k:=i) (b:=B0) (by simpa using hl) (by simp[gw]);exact nx h3
       ·obtain⟨c2,w2,bE,bT,hle,AF⟩:=Lf (g:=da u a) (x:=a) (ty:=o.type) (t:=t) eY ht (by omega) (by omega) ⟨ids.getD i 0,0,none⟩;have h2:=hK (c2-m) (kO (c2-m) (.int .u8 0));rw[show m+(c2-m)=c2 by omega]at h2;refine⟨_,[w.heap.size],_,_,w2,.inl ?_,by simp[hl],fin w.heap.size (c2-m) _ w2 ?_,h2⟩
        ·have hd:=KW w.heap.size (c2-m);rw[show m+(c2-m)=c2 by omega]at hd;rw[iR (P:=prog) (ρ:=ρ) (o:=o) ho gx mV bE,hd]
        ·have S2:=S1.new bT (dE _) AF;have S3:=St.kp S2;exact S3
     ·exact h.elim
    ·exact h.elim
   ·exact h.elim
  ·exact h.elim
 ·exact h.elim
def ach (N:Nat->(Nat->Int)->Int->Int->Nat->Int):cP (LG cL):=λargs bl ch K=>match args with
 |[x,.int .i64 s,.int .i64 m]=>(match A2 bl x with
  |some ((n,c),n',f)=>((n=n'/\n<=c/\(1<=n/\n<=64))/\(0<=s/\s<4294967296)/\(0<=m/\m<4294967296)/\Hy bl)/\K (.agg (ints 8 (N n f s m))) bl ch
  |_=>False)
 |_=>False
theorem aci:ach fG=Hz:=rfl
abbrev Uf:=Nat->(Nat->Int)->Int->Int->(Nat->Int)->Nat->Int
abbrev Ug:=Nat->(Nat->Int)->Int->Int->Nat->Int
def Uh (C:Sd.aN) (P:Uf) (N:Ug):List (bK (LG cL)):=[⟨9,false,Ti⟩,⟨10,false,Lk⟩,⟨11,false,Lv⟩,⟨12,true,HI⟩,⟨13,false,Ub C⟩,⟨14,true,Hm⟩,⟨15,true,ach N⟩,⟨16,true,wu 8 P⟩]
theorem acj:aG prog gS (Uh (aO aP) fq fG):=
 have n:∀{c:cP (LG cL)},(false=true->gO c):=λe=>by cases e
 aG.cons ⟨ap4 TG,n⟩ (aG.cons ⟨aaT,n⟩ (aG.cons ⟨aa1,n⟩ (aG.cons ⟨asG,λ_=>asH⟩ (aG.cons ⟨asv,n⟩ (aG.cons ⟨asw,λ_=>ap6⟩ (aG.cons ⟨by rw[aci];exact arI,λ_=>by rw[aci];exact arJ⟩ (aG.cons ⟨abP,λ_=>TN⟩ aG.nil)))))))
def Ui (g:Nat->Nat):(aZ->V)->Op->List VB->List (LG cL)->VK (LG cL)->Prop:=λe op bl ch K=>cond (Mh e op) (Ud g e op bl ch K) (zC prog e op bl ch K)
theorem ack {gl:Nat->Option Nat} {g:Nat->Nat}:fC prog gl (Ui g):=xq Mh asx Oz
def gLg (r0:Nat) (i:Nat):Nat:=r0
def ue (K:V->Prop):Prop:=K (.bool false)
def asJ (tg tc:aD):Prop->Prop:=λX=>(false=false/\(j3 tg).c=(j3 tg).c/\false=false/\(nU tc).c=(nU tc).c)/\X
def wv (a b:Nat->Int):Bool:=a 0==b 0&&(a 1==b 1&&(a 2==b 2&&(a 3==b 3&&(a 4==b 4&&(a 5==b 5&&(a 6==b 6&&(a 7==b 7&&true)))))))
section
variable(C:Sd.aN) (P:Uf) (N:Ug) (tg tc:aD) (u:ae) (x:j1) (f:Nat->Nat×Sd.aw) (x0 x1:Int) (oa:Option aI) (on oc:Nat) (K:V->Prop)
def Mo (r0:Nat):Prop:=bu (yy prog gS (Uh C P N) (Ui (gLg r0)) ack λ_ _=>none) 60 3 [.agg [.dS ⟨x.q,f⟩ x.ka x.kn x.kc],.agg [.int .u8 x0,.int .u8 x1],.raw (.slice oa on oc)] [j3 tg,nU tc] [.aX u] (λv _ _=>K v)
def jo (x1:Int):Int:=(i64.wrap x1).tmod 4
def uf (on:Nat):Int:=if(60:Int)<((on:Nat):Int)then 60 else((on:Nat):Int)
def acm (tg:aD):Prop:=∃Mj,some (j3 tg)=some (j3 Mj)
def Uj (tg:aD) (n c:Nat) (l r:Int) (nf:Nat->Int) (X:(Nat->Int)->Prop):Prop:=∃nc:Nat->Int,((n=n/\n<=c/\n<=64)/\(0<=l/\l<4294967296)/\(0<=r/\r<4294967296)/\8=8/\(∀j,j<8->cZ [nf 0,nf 1,nf 2,nf 3,nf 4,nf 5,nf 6,nf 7] j=nc j)/\acm tg)/\X nc
def HJ (i:Int) (X:Prop):Prop:=(0<=i/\i<((5:Nat):Int))/\i.toNat<5/\X
section
variable(p:Nat->Int) (s2:Sd.aa) (b:Sd.aF) (l:Int)
def HK (o:Int):Prop:=cond (b.kind==130) (cond (b.role==jo x1) (cond (b.c_==4) (cond (b.af==p 55) (HJ l (cond ((dV s2.c.ag).on l) (cond ((dV s2.c.ag).role l==jo x1) (K (.bool (o==0))) (ue K)) (ue K))) (ue K)) (ue K)) (ue K)) (ue K)
def lgO (i j:Int):Prop:=HJ i (cond ((dV s2.c.ag).on i) (HJ j (cond ((dV s2.c.ag).on j) (HK x1 K p s2 b l 2) (HK x1 K p s2 b l 1))) (HJ j (cond ((dV s2.c.ag).on j) (HK x1 K p s2 b l 1) (HK x1 K p s2 b l 0))))
end
def Mp (r0:Nat) (l i j:Int) (jl:Nat):Prop:=asJ tg tc ((mA x u 0/\mA x u 1/\mA x u 2/\mA x u 3)/\∀(p:Nat->Int) (m d:Nat->Nat),Made x p m->
 ((i64.wrap x0).tmod 3=cU r0/\nwP tg tc u x (ie 4 p m d) m λp2 k F=>
   ((1<=l/\l<=3)/\(0<=jo x1/\jo x1<=3)/\∀i,10<=i/\i<=12->0<=iN (nth (ie 4 p m d) i)/\iN (nth (ie 4 p m d) i)<65536)/\
   (0<=uf on/\uf on<=(oc:Int))/\(im u oa (uf on).toNat oc (da u oa)/\(uf on).toNat<=1000000)/\∀(e:Nat) (us:List ab),
   Mm C tg tc 10 k (ib p2) F (uf on).toNat ((uf on).toNat+e) (da u oa) l (jo x1) λs1 k1 a F1 fB1=>
   cond (!(Sd.eJ (nP (ie 4 p m d) AR) l (jo x1)))
    (cond (a.kind==132) (cond (a.code==18) (HG tg tc 10 k s1 (K (.bool (!((dV s1.c.ag).on l))))) (ue K)) (ue K))
    (((m 3=m 3/\m 3<=m 3+d 3/\(1<=m 3/\m 3<=64))/\(0<=l/\l<4294967296)/\(0<=(1:Int)/\(1:Int)<4294967296)/\acm tg)/\
     Uj tg (uf on).toNat ((uf on).toNat+e) l (jo x1) (N (m 3) (kM x u 3) l 1) λn1=>
     Uj tg (m jl) (m jl+d jl) l (jo x1) (N (m 3) (kM x u 3) l 1) λn2=>
     let lk:=wv (P (uf on).toNat (da u oa) l (jo x1) n1) (P (m jl) (kM x u jl) l (jo x1) n2)
     HG tg tc 10 k s1 (cond (!((dV s1.c.ag).on l==lk)) (ue K) (cond ((a.kind==0)==lk) (ue K)
      (Mm C tg tc 10 k s1 F1 (m jl) (m jl+d jl) (kM x u jl) l (jo x1) λs2 k2 b F2 fB2=>HG tg tc 10 k s2 (lgO x1 K p s2 b l i j)))))))
end
end
end Go.Proofs.YtggfpcggakghnaaGreatDoor
