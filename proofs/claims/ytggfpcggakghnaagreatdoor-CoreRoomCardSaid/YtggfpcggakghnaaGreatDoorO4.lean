/- Part 4 of the proof. -/
import Derived.Test.YtggfpcggakghnaaGreatDoorO3
set_option linter.all false
set_option maxRecDepth 100000
set_option maxHeartbeats 4000000
noncomputable section
open Go.Proofs.Tryz
open Go.IntKind (u8 u16 u32 u64 i64)
open Array renaming ext'->fe
open Bool renaming and_eq_true->bg,not_eq_true'->lN
open Go renaming Program->aF,TypeId->aG,Addr->aO,Value->ab,World->ae,Operand->ba,FuncId->fc,heap_alloc_new->mX,MapEntry->va
open Go.Addr renaming add_lit->iE
open Go.Builtin renaming append_->mY,zeroCells->n9
open Go.Instr renaming findNow->NF
open Go.IntKind renaming bits->tI,signed->tJ,wrap_u8->xA,wrap->xw
open Go.Result renaming andThen_ok->cz
open Go.Sem renaming run_bind->bx,run_pure->dg
open Go.Value renaming slice->EB,int->eg
open Go.World renaming cell?->xu
open Int renaming le_trans->Ci
open List renaming range_succ->Cf,mem_cons_self->Cg,length_map->Eu,flatMap_append->Ey,getElem?_set_ne->IB,length_singleton->V4,take_zero->V9,foldl_nil->Wa,append_assoc->bR,range->bd,append_nil->cQ,mem_cons->ca,map_cons->eH,mem_append->eJ,nil_append->fl,length_append->fq,cons_append->ft,getElem?_append_left->gV,getElem?_map->iZ,getD->ij,countP_append->ik,perm_middle->jH,getElem?_toArray->jt,take_append_drop->jv,length_cons->kN,replicate->lP,getElem?_range->m9,eq_nil_of_length_eq_zero->mZ,mem_map->mn,map_map->mr,getD_eq_getElem?_getD->oS,sublist_append_right->oT,mem_append_left->oU,not_mem_nil->oV,map_congr_left->qD,perm_append_comm_assoc->rW,mem_append_right->tH,ext_getElem?->u_,range_succ_eq_map->vd,foldl_cons->ve,map_nil->vf,mem_cons_of_mem->xz,getElem?_append_right->zL,getElem?_of_mem->zM,pairwise_cons->zR,countP_cons->zW,countP_nil->zX
open List.Perm renaming trans->EA,append_left->qG,cons->u7
open List.Sublist renaming cons_cons->IS,append_left->zO
open Nat renaming beq->aq,ble->bu,lt_or_ge->cN,eq_of_beq_eq_true->ck,blt->cu,le_refl->dE,le_of_ble_eq_true->du,zero_add->eD,blt_eq->ie,add_zero->oR,beq_refl->rV,le_add_right->rX,eq_zero_or_pos->u6
open Option renaming map_eq_some_iff->gU
open Option.some renaming injEq->aV,inj->cA
open Prod.mk renaming inj->Cj,injEq->bw
namespace Go.Proofs.YtggfpcggakghnaaGreatDoor
section
open Go Go.RowKit Go.BigFrame Sx
theorem aoE (x:Int):0<=u8.wrap x/\u8.wrap x<=255:=by rw[xA];omega
theorem abc (H:Nat->Int):By (yx H):=λj=>by unfold yx;split<;>exact aoE _
theorem abd (n:Nat) (f:Nat->Int):By (iP n f):=by
 unfold iP;cases bu n 55
 ·exact abc _
 ·exact abc _
theorem aoF (kn:Nat) (kf:Nat->Int) (s n:Int):By (jk kn kf s n):=by unfold jk fm;exact abd _ _
end
section
open Go Go.RowKit Go.BigFrame Sx Vx
variable{fr:Sd.aE->Nat×Sd.av}
theorem aoG (C:Sd.aL):hJ (BD (fr:=fr) C):=by
 intro args bl ch K h;unfold BD at h⊢;split at h
 ·exact⟨h.1,λm e=>⟨h.2.1 m e,[],by simp⟩,λe m c hc=>⟨h.2.2 e m c hc,[],by simp⟩⟩
 ·exact h.elim
theorem aoH:hJ (Hk (fr:=fr)):=by
 intro args bl ch K h;unfold Hk at h⊢;split at h
 ·rename_i m o nc vk s' g rest;refine⟨h.1,?_⟩;have h2:=h.2;by_cases hm:4294967295<=m
  ·rw[show decide (4294967295<=m)=true by simp[hm]]at h2⊢;exact⟨h2,[],by simp⟩
  ·rw[show decide (4294967295<=m)=false by simp[hm]]at h2⊢;exact⟨h2,[],by simp⟩
 ·exact h.elim
theorem aoI (tk:Nat->Sd.av->Option Sd.aY) (ht:Body (fr:=fr) 147 dI) (h1:Sound prog gS 143 (BD (fr:=fr) (aJ tk))):aC prog gS (LH fr (aJ tk)):=
 aC.cons ⟨h1,λ_=>aoG _⟩ (aC.cons ⟨aoz,λ_=>aoH⟩ (DN tk ht))
structure Th (k:LK) (s:Sd.aa) (l:Int):Prop where
 r:Rm s 8
 d:∀i,i<3->0<=(s.c.doors i).many/\(s.c.doors i).many<=9223372036854775807
 key:1<=k.kn 3/\k.kn 3<=64
 ke:s.c.p.k 3=(k.kn 3,k.kf 3)
 kj:k.pn<=1000/\By k.pf
 l:1<=l/\l<=3
def DP (C:Sd.aL):SM fr:=λar k s F K=>match ar with
 |[.int .i64 l,.raw vp]=>(vp=eA k/\Th k s l)/\∀F',K (.an []) (s.kQ C l k.pn k.pf) F'
 |_=>False
theorem aoJ {C:Sd.aL} {s:Sd.aa} {l:Int} {n:Nat} {f:Sd.av} (h:C.take n f=none):s.kQ C l n f=s.iF C l 13:=by unfold Sd.aa.kQ;rw[h]
theorem aoK {C:Sd.aL} {s:Sd.aa} {l:Int} {n:Nat} {f:Sd.av} {m:Sd.aY} (h:C.take n f=some m):s.kQ C l n f=if Sd.iq s.c.p l m.role=false then s.refuse C l 0 18 else if 4294967295<=(s.c.doors (l.toNat-1)).many then s.refuse C l 0 24 else
 ((qj s (l.toNat-1) ⟨(s.c.doors (l.toNat-1)).many+1,true,C.aw (s.c.p.k 3) l ((s.c.doors (l.toNat-1)).many+1)⟩).tell l ⟨129,0,0,0,0,0,C.aw (s.c.p.k 3) l ((s.c.doors (l.toNat-1)).many+1)⟩).record C 2 l 0 0 0:=by unfold Sd.aa.kQ;rw[h];rfl
theorem DQ (tk:Nat->Sd.av->Option Sd.aY) {k:LK} {s:Sd.aa} {F:aW fr (aR k s)} {Kb:SK fr k} {l:Int} {i:Nat} {D:Sd.dT->Sd.aa} (hD:∀e,aR k (D e)=aR k s) (zb:∀e,D e=qj s i e) (hi:l.toNat-1=i) (h3:i<3) (hq:s.c.p.queue=k.most) (hP:Th k s l)
 (m:Sd.aY) (c:Int) (hm:(c=0/\(aJ tk).take k.pn k.pf=some m)\/(c≠0/\(aJ tk).take k.pn k.pf=none)) (hK:∀F',Kb (.an []) (s.kQ (aJ tk) l k.pn k.pf) F'):Lz (aJ tk) k s F Kb l (s.c.doors i) D hD m c:=by
 subst hi;unfold Lz;refine aI (λe=>⟨cy hq,G4 hP.r.r1 λF1=>ee ?_ hK F1⟩) (λe=>⟨trivial,aI (λe1=>⟨cy hq,yY ⟨hP.r.le (by decide),wP,⟨by decide,by decide⟩⟩ λF1=>ee ?_ hK F1⟩) (λe1=>⟨⟨rfl,rfl,⟨by have:=hP.l;omega,by have:=hP.l;omega⟩,hP.d _ h3,hP.key⟩,aI (λe2=>⟨cy hq,yY ⟨hP.r.le (by decide),wP,⟨by decide,by decide⟩⟩ λF1=>ee ?_ hK F1⟩) (λe2=>?_)⟩)⟩)
 ·have hc:c≠0:=qg e;rcases hm with⟨h,_⟩|⟨_,h⟩
  ·exact absurd h hc
  ·exact(aoJ h).symm
 all_goals
  have hc:c=0:=by simpa using e
  have aoL:(aJ tk).take k.pn k.pf=some m:=by
   rcases hm with⟨_,h⟩|⟨h,_⟩
   ·exact h
   ·exact absurd hc h
  rw[aoK aoL]at*
 ·exact(if_pos (by simpa using e1)).symm
 ·rw[if_neg (by simpa using e1),if_pos (by simpa using e2)]
 ·rw[if_neg (by simpa using e1),if_neg (by simpa using e2)]at hK;have hn:(aJ tk).aw (s.c.p.k 3) l ((s.c.doors (l.toNat-1)).many+1)=jk (k.kn 3) (k.kf 3) l ((s.c.doors (l.toNat-1)).many+1):=by rw[hP.ke];rfl
  rw[hn]at hK;have key:∀(x:Sd.aa) (hx:aR k x=aR k s),x=qj s (l.toNat-1) (wU k l (s.c.doors (l.toNat-1)))->(cv k x (hx▸F)/\dI [.int .i64 l,.agg [.int .i64 129,.int .i64 0,.int .i64 0,.int .i64 0,.int .i64 0,.int .i64 0,.bJ .u8 8 (wU k l (s.c.doors (l.toNat-1))).aw]] k x (hx▸F) λv s2 F2=>
   cv k s2 F2/\jn (aJ tk) [.int .i64 2,.int .i64 l,.int .i64 0,.int .i64 0,.int .i64 0] k (bQ s2) F2 λv s' F'=>cx k s Kb (.an []) (bz k s' F'++[⟨true,⟨66,(0,0)⟩,cI m⟩,⟨true,⟨102,(0,0)⟩,Td (wU k l (s.c.doors (l.toNat-1)))⟩]) [a_ k s' F']):=by
   rintro x hx rfl;refine⟨cy hq,⟨⟨(show Rm (qj s _ _) 8 from hP.r).le (by decide),⟨(show(129:Int)<=129/\(129:Int)<=136 by decide),⟨wP,.inr rfl⟩,⟨(show(0:Int)<=0/\(0:Int)<=3 by decide),.inr rfl⟩,⟨z4,.inr rfl⟩,⟨Lc,.inr rfl⟩,⟨z8,.inr rfl⟩,⟨aoF _ _ _ _,.inl rfl⟩⟩⟩,λF1=>⟨cy hq,nJ ?_ λF2=>ee rfl hK F2⟩⟩⟩;have:=hP.r.2;simp only[Sd.aa.tell,qj];omega
  exact key _ (hD _) (zb _)
theorem aoM (tk:Nat->Sd.av->Option Sd.aY) (ht:Body (fr:=fr) 147 dI) (h1:Sound prog gS 143 (BD (fr:=fr) (aJ tk))):Body (fr:=fr) 98 (DP (aJ tk)):=by
 refine lH (n:=90) (aoI tk ht h1) ?_;intro ar k s F Kb h0 hq hM;unfold DP at hM;split at hM
 ·rename_i l vp;have hP:=hM.1.2;have hK:=hM.2;have hv:vp=eA k:=hM.1.1;subst hv;have hl:l=1\/l=2\/l=3:=by have:=hP.l;omega
  rcases hl with rfl|rfl|rfl
  ·rw[aoA];exact⟨⟨rfl,hP.kj.1,hP.kj.2⟩,λm e=>DQ tk _ (λe=>wV (i:=0) (by decide) rfl rfl rfl) rfl (by decide) hq hP m 0 (.inl ⟨rfl,e⟩) hK,λe m c hc=>DQ tk _ (λe=>wV (i:=0) (by decide) rfl rfl rfl) rfl (by decide) hq hP m c (.inr ⟨hc,e⟩) hK⟩
  ·rw[aoB];exact⟨⟨rfl,hP.kj.1,hP.kj.2⟩,λm e=>DQ tk _ (λe=>wV (i:=1) (by decide) rfl rfl rfl) rfl (by decide) hq hP m 0 (.inl ⟨rfl,e⟩) hK,λe m c hc=>DQ tk _ (λe=>wV (i:=1) (by decide) rfl rfl rfl) rfl (by decide) hq hP m c (.inr ⟨hc,e⟩) hK⟩
  ·rw[aoC];exact⟨⟨rfl,hP.kj.1,hP.kj.2⟩,λm e=>DQ tk _ (λe=>wV (i:=2) (by decide) rfl rfl rfl) rfl (by decide) hq hP m 0 (.inl ⟨rfl,e⟩) hK,λe m c hc=>DQ tk _ (λe=>wV (i:=2) (by decide) rfl rfl rfl) rfl (by decide) hq hP m c (.inr ⟨hc,e⟩) hK⟩
 ·exact hM.elim
def TB3 (t:Sd.aA):Prop:=(b_ t.c9.2.n/\b_ t.c9.2.most)/\(b_ (t.aj 0).eL.n/\b_ (t.aj 0).eL.most)/\(b_ (t.aj 1).eL.n/\b_ (t.aj 1).eL.most)/\(b_ (t.aj 2).eL.n/\b_ (t.aj 2).eL.most)
section
variable(C:Sd.aL) (k:LK) (s0:Sd.aa) (Kb:SK fr k)
def PtB (p:Sd.eF):Prop:=b_ p.aU.a/\b_ p.aU.b/\b_ p.aU.c/\b_ p.aU.d/\b_ p.now.a/\b_ p.now.b/\b_ p.now.c/\b_ p.now.d
def aoN (s:Sd.aa):Sd.aa:={s with c:={s.c with pt:=s.c.pt.step s.c.p}}
end
def gN:Nat->Option Nat:=λ_=>none
section
variable(most came:Int) (gq:bU) (es:List One) (K:VK bU)
end
def iW (n:Nat) (f:Nat->Int):Sd.aY:=match aH n f with
 |some m=>m
 |none=>Sd.eT 0
def tj (n:Nat) (f:Nat->Int):Int:=match aH n f with
 |some _=>0
 |none=>13
def wW (n:Nat) (f:Nat->Int):V:=.an [.agg (cI (iW n f)),.int .i64 (tj n f)]
theorem Ti (n:Nat) (f:Nat->Int):nL n f=wW n f:=by
 unfold nL wW iW tj;cases aH n f<;>rfl
theorem Tj (n:Nat) (f:Nat->Int):cK 0 (wW n f)=true:=rfl
theorem aoO (x:Option aO) (c:Nat) (X:V->Prop):bo (rk prog lC DK) 90 143 [.raw (.slice x 0 c)] [] [] (λv _ _=>X v)=X nD:=by kernel_rfl
theorem take_nil (x:Option aO) (c:Nat) (f:Nat->Int) (w:ae):aS prog 143 #[.slice x 0 c] w λv w1=>v=den [] (nL 0 f)/\Ch [] w w1:=by
 have cS:bo (rk prog lC DK) 90 143 [.raw (.slice x 0 c)] [] [] (λv _ _=>v=nD):=by rw[aoO]
 refine(eG Lr.TS Lr.QS 90 (C:=rk prog lC DK) (ids:=[]) (bl:=[]) (ch:=[]) (R:=[]) (ms:=[]) (w0:=w) (args:=[.raw (.slice x 0 c)]) (λg i h=>by cases h) rfl (St.nil [] w) cS).mono ?_;rintro v w' ⟨x,more,bl',ch',rfl,nF,S2,rfl⟩;refine⟨?_,S2.ch⟩;have:=fI (ids:=[]) (more:=[]++more) nD rfl;have e:nL 0 f=nD:=rfl;rw[e];simpa using this
theorem abe {b m n c:Nat} {f:Nat->Int} {t:List ab} {w:ae} (hf:By f) (hn:n<=m) (hc:n<=c) (hB:w.heap[b]?=some (.cells ((bd m).map (λj=>eg .u8 (f j))++t).toArray 5 (0,0))):
 aS prog 143 #[.slice (some ⟨b,0,none⟩) n c] w λv w1=>v=den [] (nL n f)/\Ch [] w w1:=by
 refine an1 b n c f (((bd m).map (λj=>eg .u8 (f j))).drop n++t) hf hc w ?_;have e:(bd n).map (λj=>eg .u8 (f j))=((bd m).map (λj=>eg .u8 (f j))).take n:=by
  rw[<-List.map_take,List.take_range,Nat.min_eq_left hn]
 rw[e,<-bR,jv];exact hB
def LC:QF:=⟨143,λargs bl=>match args with
 |[.sl i 0 n c]=>(match bl[i]?with
  |some b=>(match b.c with
   |[.bJ .u8 m f,.rest t]=>bif xY b.ty 5 then some ((n<=m/\n<=c/\By f),wW n f)else none
   |_=>none)
  |none=>none)
 |[.raw (.slice x 0 c)]=>some (True,wW 0 λ_=>0)
 |_=>none⟩
theorem abf (gl:Nat->Option Nat):LC.Ok prog gl:=by
 intro args bl p v h hp ids w hg hm;unfold LC at h;dsimp only at h;split at h
 ·rename_i i n c;split at h
  ·rename_i b hb;split at h
   ·rename_i m f t hc;cases hq:xY b.ty 5 with
    |false=>rw[hq]at h;cases h
    |true=>
     rw[hq]at h;simp only[cond_true,aV,bw]at h;obtain⟨rfl,rfl⟩:=h;have aM:=hm.2 i b hb;rw[hc,OM hq]at aM;have e:(ah ids [V.bJ .u8 m f,.rest t]).toArray=((bd m).map (λj=>eg .u8 (f j))++t).toArray:=by simp[ah,cl]
     rw[e]at aM;refine(abe hp.2.2 hp.1 hp.2.1 aM).mono ?_;rintro x w' ⟨rfl,cn⟩;refine⟨?_,cn⟩;rw[Ti];have:=fI (ids:=[]) (more:=ids) (wW n f) (Tj n f);simpa using this.symm
   ·cases h
  ·cases h
 ·rename_i x c;obtain⟨rfl,rfl⟩:True=p/\wW 0 (λ_=>0)=v:=by simpa using h
  refine(take_nil x c (λ_=>0) w).mono ?_;rintro y w' ⟨rfl,cn⟩;refine⟨?_,cn⟩;rw[Ti];have:=fI (ids:=[]) (more:=ids) (wW 0 λ_=>0) (Tj 0 _);simpa using this.symm
 ·cases h
theorem aoP:Sound prog gS 143 (BD (fr:=fr) (aJ aH)):=by
 intro args ids bl ch R ms w0 w K hg hl S hc;unfold BD at hc;split at hc
 ·rename_i vp g rest;obtain⟨⟨rfl,hn,hf⟩,h1,h2⟩:=hc;have e0:ax (g::rest) R=g.F.B++ax rest R:=rfl;have S':=S;rw[e0]at S';have main:aS prog 143 #[.slice g.d.k.px g.d.k.pn g.d.k.pc] w λv w1=>v=den [] (nL g.d.k.pn g.d.k.pf)/\Ch [] w w1:=by
   obtain⟨b0,b1,b2,b3,b4,hB,k0,k1,k2,k3,k4⟩:=g.F.hk;have aM:∀y∈g.F.Bk,w.heap[y.id]?=some y.obj:=λy hy=>S'.at' (by rw[s9];simp[hy]);rw[hB]at aM;obtain⟨hle,h|⟨b,hx,hb⟩⟩:=k4
   ·obtain⟨_,hz,_,_⟩:=h;rw[hz];exact take_nil _ _ _ w
   ·have h4:=aM ⟨b,true,.cells (bD g.d.k.pn g.d.k.pf g.d.k.pc) 5 (0,0)⟩ (by simp[hb]);rw[hx];have e:∃t,bD g.d.k.pn g.d.k.pf g.d.k.pc=((bd g.d.k.pn).map (λj=>eg .u8 (g.d.k.pf j))++t).toArray:=by
     exact⟨lP (g.d.k.pc-g.d.k.pn) (.int .u8 0),by unfold bD;congr 2⟩
    obtain⟨t,e⟩:=e;rw[e]at h4;exact abe hf (dE _) hle h4
  have ea:(aD ids [.raw (eA g.d.k)]).toArray=#[.slice g.d.k.px g.d.k.pn g.d.k.pc]:=rfl;rw[ea];refine main.mono ?_;rintro v w1 ⟨rfl,cn⟩;refine⟨nL g.d.k.pn g.d.k.pf,[],bl,g::rest,?_,by simpa using hl,by simpa using S.quiet cn,?_⟩
  ·rw[Ti];have:=fI (ids:=[]) (more:=ids++[]) (wW g.d.k.pn g.d.k.pf) (Tj _ _);simpa using this.symm
  ·unfold nL;cases h:aH g.d.k.pn g.d.k.pf with
   |some m=>exact h1 m h
   |none=>exact h2 h (Sd.eT 0) 13 (by decide)
 ·exact hc.elim
theorem aoQ (ht:Body (fr:=fr) 147 dI):Body (fr:=fr) 98 (DP (aJ aH)):=aoM aH ht aoP
def pY (b m:Int):Sd.aN:=⟨λi=>if i=42 then b else if i=49 then m else 0,λ_=>(0,λ_=>0)⟩
def abg:QT:=⟨149,λar y=>match ar with
 |[.int .i64 s,.int .i64 r,.agg [.bJ .u8 32 key]]=>some ((0<=y.b/\y.b<=1000)/\1<=s/\s<=3,.int .i64 (Sd.aA.dV (pY y.b y.m) (bS y) s r key).2,(Sd.aA.dV (pY y.b y.m) (bS y) s r key).1)
 |_=>none⟩
theorem aoR:abg.Ok:=by
 intro ar y p v t hm hp bt bs ms w0 w S;replace hm:(match(generalizing:=false) ar with
  |[.int .i64 s,.int .i64 r,.agg [.bJ .u8 32 key]]=>some ((0<=y.b/\y.b<=1000)/\1<=s/\s<=3,V.int .i64 (Sd.aA.dV (pY y.b y.m) (bS y) s r key).2,(Sd.aA.dV (pY y.b y.m) (bS y) s r key).1)
  |_=>none)=some (p,v,t):=hm
 split at hm
 ·rename_i s r key;simp only[aV,bw]at hm;obtain⟨rfl,rfl,rfl⟩:=hm;obtain⟨hb,h1,h3⟩:=hp;rcases(by omega:s=1\/s=2\/s=3)with rfl|rfl|rfl
  ·exact Su y 0 (by omega) r key (pY y.b y.m) rfl rfl S
  ·exact Su y 1 (by omega) r key (pY y.b y.m) rfl rfl S
  ·exact Su y 2 (by omega) r key (pY y.b y.m) rfl rfl S
 ·cases hm
def Hm:c_ (Gh fr):=λargs bl ch K=>match args,ch with
 |[.agg [.int .i64 m,.bool o,.bJ .u8 8 nc],.raw vk,.int .i64 s,.int .i64 r,.agg [.bJ .u8 8 pf]],g::rest=>
  (vk=.slice (g.d.k.ka (s.toNat-1)) (g.d.k.kn (s.toNat-1)) (g.d.k.kc (s.toNat-1))/\bl[0]?=some (b9 g.d.k)/\(1<=s/\s<=3)/\(0<=r/\r<4294967296)/\(1<=g.d.k.kn (s.toNat-1)/\g.d.k.kn (s.toNat-1)<=64))/\
  cond (!o) (K (.an [.agg [.int .i64 m,.bool o,.bJ .u8 8 nc],.agg [.bJ .u8 32 λ_=>0],.int .i64 17]) bl (g::rest))
   (cond (wA (g.d.k.kn (s.toNat-1)) (g.d.k.kf (s.toNat-1)) s r nc pf)
    (K (.an [.agg [.int .i64 m,.bool false,.bJ .u8 8 λ_=>0],.agg [.bJ .u8 32 (iz (g.d.k.kn (s.toNat-1)) (g.d.k.kf (s.toNat-1)) s r nc)],.int .i64 0]) bl (g::rest))
    (K (.an [.agg [.int .i64 m,.bool false,.bJ .u8 8 λ_=>0],.agg [.bJ .u8 32 λ_=>0],.int .i64 14]) bl (g::rest)))
 |_,_=>False
theorem aoS:hJ (Hm (fr:=fr)):=by
 intro args bl ch K h;unfold Hm at h⊢;split at h
 ·rename_i m o nc vk s r pf g rest;refine⟨h.1,?_⟩;have h2:=h.2;cases o with
  |false=>exact⟨h2,[],by simp⟩
  |true=>
   cases hr:wA (g.d.k.kn (s.toNat-1)) (g.d.k.kf (s.toNat-1)) s r nc pf with
   |true=>rw[hr]at h2;exact⟨h2,[],by simp⟩
   |false=>rw[hr]at h2;exact⟨h2,[],by simp⟩
 ·exact h.elim
theorem aoT:Sound prog gS 148 (Hm (fr:=fr)):=by
 intro args ids bl ch R ms w0 w K hg hl S hc;unfold Hm at hc;split at hc
 ·rename_i m o nc vk s r pf g rest;obtain⟨⟨rfl,hr,hs,LD,hk⟩,hK⟩:=hc;have e0:ax (g::rest) R=g.F.B++ax rest R:=rfl;have S':=S;rw[e0]at S';have hi:s.toNat-1<4:=by omega
  have y9:=aba g.F S' (s.toNat-1) hi (by omega) (by omega);have kI:=abb hg hl S hr;generalize hI:s.toNat-1=i at*;have e:(aD ids [.agg [.int .i64 m,.bool o,.bJ .u8 8 nc],.raw (.slice (g.d.k.ka i) (g.d.k.kn i) (g.d.k.kc i)),.int .i64 s,.int .i64 r,.agg [.bJ .u8 8 pf]]).toArray=#[.agg #[.int .i64 m,.bool o,.int .u8 (nc 0),.int .u8 (nc 1),.int .u8 (nc 2),.int .u8 (nc 3),.int .u8 (nc 4),.int .u8 (nc 5),.int .u8 (nc 6),.int .u8 (nc 7)],.slice (g.d.k.ka i) (g.d.k.kn i) (g.d.k.kc i),.int .i64 s,.int .i64 r,.agg (au .u8 8 pf)]:=by kernel_rfl
  rw[e];have xP:0<=s/\s<4294967296:=by omega
  cases o with
  |false=>
   refine(ajD (g.d.k.ka i) (g.d.k.kn i) (g.d.k.kc i) (g.d.k.kf i) s r ⟨m,false,nc⟩ pf rfl w).mono ?_;rintro v w1 ⟨rfl,cn⟩;exact⟨_,[],bl,g::rest,by kernel_rfl,by simpa using hl,by simpa using S.quiet cn,hK⟩
  |true=>
   cases hq:wA (g.d.k.kn i) (g.d.k.kf i) s r nc pf with
   |true=>
    rw[hq]at hK;refine(ajF (g.d.k.ka i) (g.d.k.kn i) (g.d.k.kc i) (g.d.k.kf i) s r ⟨m,true,nc⟩ pf hk xP LD rfl hq w kI y9).mono ?_;rintro v w1 ⟨rfl,cn⟩;exact⟨.an [.agg [.int .i64 m,.bool false,.bJ .u8 8 λ_=>0],.agg [.bJ .u8 32 (iz (g.d.k.kn i) (g.d.k.kf i) s r nc)],.int .i64 0],[],bl,g::rest,by kernel_rfl,by simpa using hl,by simpa using S.quiet cn,hK⟩
   |false=>
    rw[hq]at hK;refine(ajE (g.d.k.ka i) (g.d.k.kn i) (g.d.k.kc i) (g.d.k.kf i) s r ⟨m,true,nc⟩ pf hk xP LD rfl hq w kI y9).mono ?_;rintro v w1 ⟨rfl,cn⟩;exact⟨.an [.agg [.int .i64 m,.bool false,.bJ .u8 8 λ_=>0],.agg [.bJ .u8 32 λ_=>0],.int .i64 14],[],bl,g::rest,by kernel_rfl,by simpa using hl,by simpa using S.quiet cn,hK⟩
 ·exact hc.elim
def LP (fr:Sd.aE->Nat×Sd.av) (C:Sd.aL):List (bK (Gh fr)):=qE (Gh fr) LC::⟨148,true,Hm⟩::⟨149,false,DG abg⟩::L8 fr C
theorem aoU (tk:Nat->Sd.av->Option Sd.aY) (ht:Body (fr:=fr) 147 dI):aC prog gS (LP fr (aJ tk)):=
 aC.cons ⟨JM (abf gS),λ_=>JL _⟩ (aC.cons ⟨aoT,λ_=>aoS⟩ (aC.cons (SQ aoR) (DN tk ht)))
def eM (n:Nat) (f:Nat->Int) (t:List ab):VB:=⟨true,⟨5,(0,0)⟩,[.bJ .u8 n f,.rest t]⟩
def Tk (k:LK) (s:Sd.aa) (n:Nat) (f:Nat->Int) (t:List ab) (Kb:SK fr k):V->List VB->List (Gh fr)->Prop:=λv bl ch=>∃s' F',cK 0 v=true/\s'.c.p=s.c.p/\Kb v s' F'/\bl.take 6=bz k s' F'++[eM n f t]/\ch=[a_ k s' F']
def Hn (s:Sd.aa) (a b c:Sd.dT) (E:Sd.aA):Sd.aa:={s with c:={s.c with doors:=r3 a b c s.c.doors,ag:=⟨E.c9,r3 (E.aj 0) (E.aj 1) (E.aj 2) s.c.ag.aj⟩}}
def DR (s:Sd.aa) (l r:Int) (key:Nat->Int):Sd.aA×Int:=Sd.aA.dV (pY s.c.p.bW s.c.p.d_) (eB s.c.ag) l r key
section
variable(C:Sd.aL) (k:LK) (s:Sd.aa) (F:aW fr (aR k s)) (Kb:SK fr k) (l:Int) (i:Nat) (e:Nat) (f:Nat->Int) (t:List ab) (D:Sd.dT->Sd.aa) (DT:Sd.dT->Sd.aA->Sd.aa)
def lf (s0:Sd.aa) (s':Sd.aa) (F':aW fr (aR k s')):Prop:=Tk k s0 10 f t Kb (.an []) (bz k s' F'++[eM 10 f t]) [a_ k s' F']
def km (d:Sd.dT):Sd.dT:=⟨d.many,false,λ_=>0⟩
def Tl (hD:∀e,aR k (D e)=aR k s) (uJ:∀e E,aR k (DT e E)=aR k s):Prop:=
 let d:=s.c.doors i
 let m:=iW 2 f
 let key:=iz (k.kn i) (k.kf i) l m.role d.aw
 let E:=DR s l m.role key
 (2<=10/\2<=e+10/\By f)/\cond (tj 2 f !=0) (cv k s F/\qe C [.int .i64 l,.int .i64 13] k (bQ s) F λv s' F'=>lf k Kb f t s s' F')
 ((EB (k.ka i) (k.kn i) (k.kc i)=.slice (k.ka i) (k.kn i) (k.kc i)/\some (b9 k)=some (b9 k)/\(1<=l/\l<=3)/\(0<=m.role/\m.role<4294967296)/\(1<=k.kn i/\k.kn i<=64))/\
   cond (!d.g_) (cv k (D d) (hD d▸F)/\lJ C [.int .i64 l,.int .i64 0,.int .i64 17] k (D d) (hD d▸F) λv s' F'=>lf k Kb f t s s' F')
   (cond (wA (k.kn i) (k.kf i) l m.role d.aw λj=>f (2+j))
    (True/\cond (!(Sd.iq s.c.p l m.role)) (cv k (D (km d)) (hD (km d)▸F)/\lJ C [.int .i64 l,.int .i64 0,.int .i64 18] k (D (km d)) (hD (km d)▸F) λv s' F'=>lf k Kb f t s s' F')
     (((0<=s.c.p.bW/\s.c.p.bW<=1000)/\1<=l/\l<=3)/\cond (E.2!=0) (cv k (DT (km d) E.1) (uJ (km d) E.1▸F)/\lJ C [.int .i64 l,.int .i64 0,.int .i64 E.2] k (DT (km d) E.1) (uJ (km d) E.1▸F) λv s' F'=>lf k Kb f t s s' F')
       (cv k (DT (km d) E.1) (uJ (km d) E.1▸F)/\dI [.int .i64 l,.agg (lI 130 0 m.role s.c.t.ay s.c.t.af 0)] k (DT (km d) E.1) (uJ (km d) E.1▸F) λv s2 F2=>
        cv k s2 F2/\jn C [.int .i64 3,.int .i64 l,.int .i64 0,.int .i64 0,.int .i64 0] k (bQ s2) F2 λv s' F'=>lf k Kb f t s s' F')))
    (cv k (D (km d)) (hD (km d)▸F)/\qe C [.int .i64 l,.int .i64 14] k (D (km d)) (hD (km d)▸F) λv s' F'=>lf k Kb f t s s' F')))
end
def Tm (fr:Sd.aE->Nat×Sd.av) (C:Sd.aL) (l:Int) (i:Nat) (D:Sd.aa->Sd.dT->Sd.aa) (DT:Sd.aa->Sd.dT->Sd.aA->Sd.aa) (hD:∀k s e,aR k (D s e)=aR k s) (uJ:∀k s e E,aR k (DT s e E)=aR k s):Prop:=∀(k:LK) (s:Sd.aa) (F:aW fr (aR k s)) (Kb:SK fr k) (e:Nat) (f:Nat->Int) (t:List ab),
 bo (bP prog gS (LP fr C)) 90 99 [.ptr 2 0,.int .i64 l,.sl 5 0 10 (e+10)] (bz k s F++[eM 10 f t]) [a_ k s F] (Tk k s 10 f t Kb)=Tl C k s F Kb l i e f t (D s) (DT s) (hD k s) (uJ k s)
theorem aoV (fr:Sd.aE->Nat×Sd.av) (C:Sd.aL):Tm fr C 1 0 (λs e=>y_ s e (s.c.doors 1) (s.c.doors 2)) (λs e E=>Hn s e (s.c.doors 1) (s.c.doors 2) E) (λ_ _ _=>rfl) (λ_ _ _ _=>rfl):=λk s F Kb e f t=>by kernel_rfl
theorem aoW (fr:Sd.aE->Nat×Sd.av) (C:Sd.aL):Tm fr C 2 1 (λs e=>y_ s (s.c.doors 0) e (s.c.doors 2)) (λs e E=>Hn s (s.c.doors 0) e (s.c.doors 2) E) (λ_ _ _=>rfl) (λ_ _ _ _=>rfl):=λk s F Kb e f t=>by kernel_rfl
theorem aoX (fr:Sd.aE->Nat×Sd.av) (C:Sd.aL):Tm fr C 3 2 (λs e=>y_ s (s.c.doors 0) (s.c.doors 1) e) (λs e E=>Hn s (s.c.doors 0) (s.c.doors 1) e E) (λ_ _ _=>rfl) (λ_ _ _ _=>rfl):=λk s F Kb e f t=>by kernel_rfl
theorem aoY (fr:Sd.aE->Nat×Sd.av) (C:Sd.aL) (k:LK) (s:Sd.aa) (F:aW fr (aR k s)) (Kb:SK fr k) (l:Int):bo (bP prog gS (LP fr C)) 90 99 [.ptr 2 0,.int .i64 l,.raw (eA k)] (bz k s F) [a_ k s F] (cx k s Kb)
 =cond ((k.pn:Int)!=10) (cv k s F/\qe C [.int .i64 l,.int .i64 13] k (bQ s) F λv s' F'=>cx k s Kb (.an []) (bz k s' F') [a_ k s' F']) (((0:Int)<=2/\(2:Int)<=(k.pc:Int))/\False):=by kernel_rfl
structure LF (k:LK) (s:Sd.aa) (l:Int):Prop where
 r:Rm s 8
 lo:1<=l/\l<=3
 key:1<=k.kn (l.toNat-1)/\k.kn (l.toNat-1)<=64
 ke:s.c.p.k (l.toNat-1)=(k.kn (l.toNat-1),k.kf (l.toNat-1))
 bW:0<=s.c.p.bW/\s.c.p.bW<=1000
 dh:N4 s.c.t.ay
 ep:uC s.c.t.af
def BE (s:Sd.aa) (i:Nat) (e:Sd.dT) (t:Sd.aA):Sd.aa:={s with c:={s.c with doors:=λj=>if j=i then e else s.c.doors j,ag:=t}}
theorem Ho (s:Sd.aa) (l r:Int) (key:Nat->Int):(DR s l r key).2=(Sd.aA.dV s.c.p s.c.ag l r key).2/\(DR s l r key).1.c9=(Sd.aA.dV s.c.p s.c.ag l r key).1.c9/\(1<=l/\l<=3->(∀j,j<3->(DR s l r key).1.aj j=(Sd.aA.dV s.c.p s.c.ag l r key).1.aj j)/\∀j,(Sd.aA.dV s.c.p s.c.ag l r key).1.aj (j+3)=s.c.ag.aj (j+3)):=by
 have hm:(eB s.c.ag).many=s.c.ag.many:=rfl;have hp:(pY s.c.p.bW s.c.p.d_).d_=s.c.p.d_:=rfl;have hb:(pY s.c.p.bW s.c.p.d_).bW=s.c.p.bW:=rfl;have q3:∀j,j<3->(eB s.c.ag).aj j=s.c.ag.aj j:=by
  intro j hj;have:j=0\/j=1\/j=2:=by omega
  rcases this with rfl|rfl|rfl<;>rfl
 unfold DR Sd.aA.dV;rw[G1,hm,hp,hb];split
 ·exact⟨rfl,rfl,λ_=>⟨q3,λ_=>rfl⟩⟩
 ·split
  ·exact⟨rfl,rfl,λ_=>⟨q3,λ_=>rfl⟩⟩
  ·refine⟨rfl,rfl,λhl=>⟨λj hj=>?_,λj=>?_⟩⟩
   ·simp only[Sd.aA.ei];split
    ·rfl
    ·exact q3 j hj
   ·simp only[Sd.aA.ei];rw[if_neg (by omega)]
theorem Tn {s:Sd.aa} {a b c:Sd.dT} {i:Nat} {e:Sd.dT} {E t:Sd.aA} (hi:i<3) (ha:a=if 0=i then e else s.c.doors 0) (hb:b=if 1=i then e else s.c.doors 1) (hc:c=if 2=i then e else s.c.doors 2) (h1:E.c9=t.c9) (h2:∀j,j<3->E.aj j=t.aj j) (h3:∀j,t.aj (j+3)=s.c.ag.aj (j+3)):Hn s a b c E=BE s i e t:=by
 unfold Hn BE;have h:r3 a b c s.c.doors=λj=>if j=i then e else s.c.doors j:=by
  funext j
  match j with
  |0=>exact ha
  |1=>exact hb
  |2=>exact hc
  |j+3=>exact(if_neg (by omega)).symm
 have e:r3 (E.aj 0) (E.aj 1) (E.aj 2) s.c.ag.aj=t.aj:=by
  funext j
  match j with
  |0=>exact h2 0 (by decide)
  |1=>exact h2 1 (by decide)
  |2=>exact h2 2 (by decide)
  |j+3=>exact(h3 j).symm
 rw[h,e,h1]
theorem LJ {k:LK} {s0:Sd.aa} {Kb:SK fr k} {f:Nat->Int} {t:List ab} {s' sF:Sd.aa} (e:s'=sF) (hK:∀F,Kb (.an []) sF F) (F':aW fr (aR k s')) (hp:s'.c.p=s0.c.p:=by rfl):lf k Kb f t s0 s' F':=by
 subst e;exact⟨s',F',rfl,hp,hK F',rfl,rfl⟩
theorem LN {n:Nat} {f:Nat->Int} (P:Sd.aY->Prop):∀(l:List Fd) (off:Nat) (m r:Sd.aY),(∀d∈l,∀v,d.low<=v->v<=d.high->∀m,P m->P (d.set v m))->P m->runM n f l off m=some r->P r
 |[],off,m,r,_,hm,h=>by
  unfold runM at h;split at h
  ·cases h;exact hm
  ·cases h
 |d::l,off,m,r,hd,hm,h=>by
  unfold runM at h;split at h
  ·cases h
  ·split at h
   ·cases h
   ·rename_i hv;exact LN P l _ _ r (λx hx=>hd x (by simp[hx])) (hd d (by simp) _ (by omega) (by omega) m hm) h
structure LQ (k:Int) (m:Sd.aY):Prop where
 kind:m.kind=k
 seq:0<=m.seq/\m.seq<=4294967295
 role:0<=m.role/\m.role<=3
 aU:0<=m.aU/\m.aU<=4
 af:0<=m.af/\m.af<=65535
 mode:0<=m.mode/\m.mode<=4
 cls:0<=m.cls/\m.cls<=3
def okB (d:Fd):Prop:=∀v,d.low<=v->v<=d.high->∀k m,LQ k m->LQ k (d.set v m)
theorem aoZ:okB uv:=λv h1 h2 k m h=>⟨h.kind,h.seq,⟨h1,h2⟩,h.aU,h.af,h.mode,h.cls⟩
theorem ao0:okB h_:=λv h1 h2 k m h=>⟨h.kind,⟨h1,h2⟩,h.role,h.aU,h.af,h.mode,h.cls⟩
theorem ao1:okB yO:=λv h1 h2 k m h=>⟨h.kind,h.seq,h.role,⟨h1,h2⟩,h.af,h.mode,h.cls⟩
theorem ao2:okB mJ:=λv h1 h2 k m h=>⟨h.kind,h.seq,h.role,h.aU,⟨h1,h2⟩,h.mode,h.cls⟩
theorem ao3:okB wH:=λv h1 h2 k m h=>⟨h.kind,h.seq,h.role,h.aU,h.af,⟨h1,h2⟩,h.cls⟩
theorem ao4:okB uw:=λv h1 h2 k m h=>⟨h.kind,h.seq,h.role,h.aU,h.af,h.mode,⟨Ci (by decide) h1,h2⟩⟩
theorem ao5:okB yP:=λv h1 h2 k m h=>⟨h.kind,h.seq,h.role,h.aU,h.af,h.mode,h.cls⟩
theorem abh (i:Nat) (hi:i<4) (v:Int) (m:Sd.aY):((fX i).set v m).kind=m.kind/\((fX i).set v m).seq=m.seq/\((fX i).set v m).role=m.role/\((fX i).set v m).aU=m.aU/\((fX i).set v m).af=m.af/\((fX i).set v m).mode=m.mode/\((fX i).set v m).cls=m.cls:=by
 have:i=0\/i=1\/i=2\/i=3:=by omega
 rcases this with rfl|rfl|rfl|rfl<;>exact⟨rfl,rfl,rfl,rfl,rfl,rfl,rfl⟩
theorem LR (i:Nat) (hi:i<4):okB (fX i):=λv h1 h2 k m h=>by
 obtain⟨a,b,c,d,e,g,j⟩:=abh i hi v m;exact⟨a.trans h.kind,by rw[b];exact h.seq,by rw[c];exact h.role,by rw[d];exact h.aU,by rw[e];exact h.af,by rw[g];exact h.mode,by rw[j];exact h.cls⟩
theorem z0 (n:Int) (h:0<=n):(0:Int)<=0/\(0:Int)<=n:=⟨Int.le_refl 0,h⟩
theorem ao6 (k:Int):LQ k (Sd.eT k):=⟨rfl,z0 _ (by decide),z0 _ (by decide),z0 _ (by decide),z0 _ (by decide),z0 _ (by decide),z0 _ (by decide)⟩
theorem ao7 {k:Int} {l:List Fd} (h:oA k=some l):∀d∈l,okB d:=by
 have a1:=aoZ;have a2:=ao0;have a3:=ao1;have a4:=ao2;have a5:=ao3;have a6:=ao4;have a7:=ao5
 have b0:=LR 0 (by decide);have b1:=LR 1 (by decide);have b2:=LR 2 (by decide);have b3:=LR 3 (by decide)
 unfold oA at h
 repeat' split at h
 all_goals first|(cases h;done)|(obtain rfl:=cA h;intro d hd;simp at hd;rcases hd with rfl|rfl|rfl|rfl|rfl|rfl|rfl<;>assumption)|(obtain rfl:=cA h;intro d hd;simp at hd;rcases hd with rfl|rfl|rfl<;>assumption)|(obtain rfl:=cA h;intro d hd;simp at hd;rcases hd with rfl|rfl<;>assumption)|(obtain rfl:=cA h;intro d hd;simp at hd;subst hd;assumption)
theorem ao8 {k:Int} {l:List Fd} (h:oA k=some l):1<=k/\k<=11:=by
 unfold oA at h
 repeat' split at h
 all_goals first|(cases h;done)|omega
theorem To {n:Nat} {f:Nat->Int} {m:Sd.aY} (h:aH n f=some m):Sd.sV m:=by
 unfold aH at h;split at h
 ·cases h
 ·split at h
  ·rename_i l hl;have hb:=LN (LQ (f 0)) l 1 _ m (λd hd v h1 h2 m hm=>ao7 hl d hd v h1 h2 _ m hm) (ao6 _) h;have hk:=ao8 hl;refine⟨by rw[hb.kind];exact hk,hb.seq,hb.role,hb.aU,hb.af,hb.mode,hb.cls,?_⟩;intro G_;rw[hb.kind]at G_;have ao9:l=[h_,mJ,uw,fX 0,fX 1,fX 2,fX 3]:=by
    rw[G_]at hl;exact(cA hl).symm
   subst ao9;unfold runM at h;split at h
   ·cases h
   split at h
   ·cases h
   unfold runM at h;split at h
   ·cases h
   split at h
   ·cases h
   unfold runM at h;split at h
   ·cases h
   split at h
   ·cases h
   rename_i hv;refine LN (λm=>1<=m.cls) _ _ _ m ?_ ?_ h
   ·intro d hd v _ _ m hm;have:∃i,i<4/\d=fX i:=by
     simp at hd;rcases hd with rfl|rfl|rfl|rfl
     ·exact⟨0,by decide,rfl⟩
     ·exact⟨1,by decide,rfl⟩
     ·exact⟨2,by decide,rfl⟩
     ·exact⟨3,by decide,rfl⟩
    obtain⟨i,hi,rfl⟩:=this;show 1<=((fX i).set v m).cls;rw[(abh i hi v m).2.2.2.2.2.2];exact hm
   ·have h1:uw.low=1:=rfl;have:∀v m,(uw.set v m).cls=v:=λv m=>rfl;show 1<=(uw.set _ _).cls;rw[this];omega
  ·cases h
theorem ao_ {n:Nat} {f:Nat->Int} (h:aH n f≠none):0<=(iW n f).role/\(iW n f).role<=3:=by
 unfold iW;cases hh:aH n f with
 |some m=>exact(To hh).role
 |none=>exact absurd hh h
theorem abi {n:Nat} {f:Nat->Int} (h:(tj n f !=0)=false):aH n f=some (iW n f):=by
 unfold tj at h;unfold iW;cases hh:aH n f with
 |some m=>rfl
 |none=>rw[hh]at h;simp at h
theorem abj {n:Nat} {f:Nat->Int} (h:(tj n f !=0)=true):aH n f=none:=by
 unfold tj at h;cases hh:aH n f with
 |some m=>rw[hh]at h;simp at h
 |none=>rfl
theorem Tp {k:LK} {s:Sd.aa} {F:aW fr (aR k s)} {Kb:SK fr k} {l:Int} {i e:Nat} {f:Nat->Int} {t:List ab} {D:Sd.dT->Sd.aa} {DT:Sd.dT->Sd.aA->Sd.aa} {hD:∀e,aR k (D e)=aR k s} {uJ:∀e E,aR k (DT e E)=aR k s}
 (zb:∀e,D e=qj s i e) (Tq:∀e r key,DT e (DR s l r key).1=BE s i e (Sd.aA.dV s.c.p s.c.ag l r key).1) (hi:l.toNat-1=i) (h3:i<3) (hq:s.c.p.queue=k.most) (hP:LF k s l) (hf:By f) (hK:∀F',Kb (.an []) (s.prove (aJ aH) l 10 f) F'):
 Tl (aJ aH) k s F Kb l i e f t D DT hD uJ:=by
 subst hi;have Tr:=hP.r;have hKk:s.c.p.k (l.toNat-1)=(k.kn (l.toNat-1),k.kf (l.toNat-1)):=hP.ke;have Ts:∀(x:Sd.aa) (hx:aR k x=aR k s) (c:Int) (sF:Sd.aa),x.c.p=s.c.p->N8 c->x.refuse (aJ aH) l 0 c=sF->(∀F,Kb (.an []) sF F)->cv k x (hx▸F)/\lJ (aJ aH) [.int .i64 l,.int .i64 0,.int .i64 c] k x (hx▸F) λv s' F'=>lf k Kb f t s s' F':=by
  intro x hx c sF hp hc hE Tt;have hs:x.bh=s.bh:=congrArg FD.bh hx;have hr:x.bA=s.bA:=congrArg FD.bA hx;refine⟨cy (by rw[hp];exact hq),⟨⟨by rw[hs];have:=Tr.1;omega,by rw[hr];have:=Tr.2;omega⟩,wP,hc⟩,λF1=>LJ hE Tt F1 hp⟩
 have apa:∀(x:Sd.aa) (hx:aR k x=aR k s) (c:Int) (sF:Sd.aa),x.c.p=s.c.p->x.iF (aJ aH) l c=sF->(∀F,Kb (.an []) sF F)->cv k x (hx▸F)/\qe (aJ aH) [.int .i64 l,.int .i64 c] k x (hx▸F) λv s' F'=>lf k Kb f t s s' F':=by
  intro x hx c sF hp hE Tt;have hr:x.bA=s.bA:=congrArg FD.bA hx;exact⟨cy (by rw[hp];exact hq),by show x.bA.length<=1000;rw[hr];have:=Tr.2;omega,λF1=>LJ hE Tt F1 hp⟩
 have hpr:s.prove (aJ aH) l 10 f=match aH 2 f with
  |none=>s.iF (aJ aH) l 13
  |some m=>if(s.c.doors (l.toNat-1)).g_=false then s.refuse (aJ aH) l 0 17
   else if wA (k.kn (l.toNat-1)) (k.kf (l.toNat-1)) l m.role (s.c.doors (l.toNat-1)).aw (λj=>f (2+j))=false then(qj s (l.toNat-1) (km (s.c.doors (l.toNat-1)))).iF (aJ aH) l 14
   else if Sd.iq s.c.p l m.role=false then(qj s (l.toNat-1) (km (s.c.doors (l.toNat-1)))).refuse (aJ aH) l 0 18
   else if(Sd.aA.dV s.c.p s.c.ag l m.role (iz (k.kn (l.toNat-1)) (k.kf (l.toNat-1)) l m.role (s.c.doors (l.toNat-1)).aw)).2≠0 then(qj s (l.toNat-1) (km (s.c.doors (l.toNat-1)))).refuse (aJ aH) l 0 (Sd.aA.dV s.c.p s.c.ag l m.role (iz (k.kn (l.toNat-1)) (k.kf (l.toNat-1)) l m.role (s.c.doors (l.toNat-1)).aw)).2
   else((BE s (l.toNat-1) (km (s.c.doors (l.toNat-1))) (Sd.aA.dV s.c.p s.c.ag l m.role (iz (k.kn (l.toNat-1)) (k.kf (l.toNat-1)) l m.role (s.c.doors (l.toNat-1)).aw)).1).tell l ⟨130,0,m.role,s.c.t.ay,s.c.t.af,0,λ_=>0⟩).record (aJ aH) 3 l 0 0 0:=by
  unfold Sd.aa.prove;rw[if_neg (by decide)];show(match aH 2 f with|none=>_|some m=>_)=_;cases aH 2 f with
  |none=>rfl
  |some m=>
   simp only[aJ,hKk];rfl
 unfold Tl;refine⟨⟨by decide,by omega,hf⟩,aI (λe=>?_) (λe=>?_)⟩
 ·rw[hpr,abj e]at hK;exact⟨cy hq,G4 hP.r.r1 λF1=>LJ rfl hK F1⟩
 ·have hm:=abi e;have abk:=ao_ (n:=2) (f:=f) (by rw[hm];simp);rw[hpr,hm]at hK;simp only at hK;refine⟨⟨rfl,rfl,hP.lo,⟨abk.1,by omega⟩,hP.key⟩,aI (λe1=>?_) (λe1=>aI (λe2=>⟨trivial,aI (λe3=>?_) (λe3=>⟨⟨hP.bW,hP.lo⟩,aI (λe4=>?_) (λe4=>?_)⟩)⟩) (λe2=>?_))⟩
  ·rw[if_pos (by simpa using e1)]at hK;refine Ts _ (hD _) 17 _ (by rw[zb];rfl) ⟨by decide,by decide⟩ ?_ hK;rw[zb];have:qj s (l.toNat-1) (s.c.doors (l.toNat-1))=s:=by
    unfold qj;have:(λj=>if j=l.toNat-1 then s.c.doors (l.toNat-1)else s.c.doors j)=s.c.doors:=by funext j;split<;>simp_all
    rw[this]
   rw[this]
  ·rw[if_neg (by simpa using e1),if_neg (by rw[e2];decide),if_pos (by simpa using e3)]at hK;exact Ts _ (hD _) 18 _ (by rw[zb];rfl) ⟨by decide,by decide⟩ (by rw[zb]) hK
  ·obtain⟨b2,b1,b3⟩:=Ho s l (iW 2 f).role (iz (k.kn (l.toNat-1)) (k.kf (l.toNat-1)) l (iW 2 f).role (s.c.doors (l.toNat-1)).aw);rw[b2]at e4⊢;have e4':(Sd.aA.dV s.c.p s.c.ag l (iW 2 f).role (iz (k.kn (l.toNat-1)) (k.kf (l.toNat-1)) l (iW 2 f).role (s.c.doors (l.toNat-1)).aw)).2≠0:=by simpa using e4
   rw[if_neg (by simpa using e1),if_neg (by rw[e2];decide),if_neg (by simpa using e3),if_pos e4']at hK;have hbg:(Sd.aA.dV s.c.p s.c.ag l (iW 2 f).role (iz (k.kn (l.toNat-1)) (k.kf (l.toNat-1)) l (iW 2 f).role (s.c.doors (l.toNat-1)).aw)).1=s.c.ag/\N8 (Sd.aA.dV s.c.p s.c.ag l (iW 2 f).role (iz (k.kn (l.toNat-1)) (k.kf (l.toNat-1)) l (iW 2 f).role (s.c.doors (l.toNat-1)).aw)).2:=by
    revert e4';unfold Sd.aA.dV;split
    ·intro _;exact⟨rfl,(show N8 1 from⟨by decide,by decide⟩)⟩
    ·split
     ·intro _;exact⟨rfl,(show N8 19 from⟨by decide,by decide⟩)⟩
     ·intro h;exact absurd rfl h
   refine Ts _ (uJ _ _) _ _ (by rw[Tq];rfl) hbg.2 ?_ hK;rw[Tq,hbg.1];rfl
  ·obtain⟨b2,b1,b3⟩:=Ho s l (iW 2 f).role (iz (k.kn (l.toNat-1)) (k.kf (l.toNat-1)) l (iW 2 f).role (s.c.doors (l.toNat-1)).aw);rw[b2]at e4;rw[if_neg (by simpa using e1),if_neg (by rw[e2];decide),if_neg (by simpa using e3),if_neg (by simpa using e4)]at hK;have key:∀(x:Sd.aa) (hx:aR k x=aR k s),x=BE s (l.toNat-1) (km (s.c.doors (l.toNat-1))) (Sd.aA.dV s.c.p s.c.ag l (iW 2 f).role (iz (k.kn (l.toNat-1)) (k.kf (l.toNat-1)) l (iW 2 f).role (s.c.doors (l.toNat-1)).aw)).1->
    (cv k x (hx▸F)/\dI [.int .i64 l,.agg (lI 130 0 (iW 2 f).role s.c.t.ay s.c.t.af 0)] k x (hx▸F) λv s2 F2=>cv k s2 F2/\jn (aJ aH) [.int .i64 3,.int .i64 l,.int .i64 0,.int .i64 0,.int .i64 0] k (bQ s2) F2 λv s' F'=>lf k Kb f t s s' F'):=by
    rintro x hx rfl;refine⟨cy hq,⟨⟨(show Rm (BE s _ _ _) 8 from hP.r).le (by decide),⟨(show(129:Int)<=130/\(130:Int)<=136 by decide),⟨wP,.inr rfl⟩,⟨abk,.inl rfl⟩,⟨hP.dh,.inl (.inl rfl)⟩,⟨hP.ep,.inl (.inl rfl)⟩,⟨(show N8 0 from⟨by decide,by decide⟩),.inr rfl⟩,⟨λj=>(show(0:Int)<=0/\(0:Int)<=255 from⟨by decide,by decide⟩),.inr rfl⟩⟩⟩,λF2=>⟨cy hq,nJ ?_ λF3=>LJ rfl hK F3⟩⟩⟩;have:=hP.r.2;simp only[Sd.aa.tell,BE];omega
   exact key _ (uJ _ _) (Tq _ _ _)
  ·rw[if_neg (by simpa using e1),if_pos e2]at hK;exact apa _ (hD _) 14 _ (by rw[zb];rfl) (by rw[zb]) hK
def kJ (k:LK):LK:={k with px:=none,pn:=0,pc:=0}
def Hp (C:Sd.aL):SM fr:=λar k s F K=>match ar with
 |[.int .i64 l,.raw vp]=>(vp=eA k/\LF k s l/\By k.pf)/\∀F',K (.an []) (s.prove C l k.pn k.pf) F'
 |_=>False
theorem abl (a b c:Nat) (more:List Nat):Gl gS (bN a b c++more):=by
 intro g i dz;unfold gS at dz;split at dz
 ·obtain rfl:=cA dz;exact⟨by simp,rfl⟩
 ·obtain rfl:=cA dz;exact⟨by simp,rfl⟩
 ·cases dz
theorem apb {k:LK} {s:Sd.aa} (F:aW fr (aR k s)) (h0:0<k.pn):∃(bp:Nat) (t:List ab) (F0:aW fr (aR (kJ k) s)),k.px=some ⟨bp,0,none⟩/\k.pn<=k.pc/\F0.vs=F.vs/\F0.vr=F.vr/\F.B=F0.B++[⟨bp,true,.cells (ah [] (eM k.pn k.pf t).c).toArray 5 (0,0)⟩]/\
 (ah [] (eM k.pn k.pf t).c).toArray=bD k.pn k.pf k.pc:=by
 obtain⟨b0,b1,b2,b3,b4,hB,k0,k1,k2,k3,k4⟩:=F.hk;obtain⟨hle,h|⟨bp,hx,hb⟩⟩:=k4
 ·have:=h.2.1;simp only[aR]at this;omega
 ·have e:(ah [] (eM k.pn k.pf (lP (k.pc-k.pn) (.int .u8 0))).c).toArray=bD k.pn k.pf k.pc:=by
   simp[eM,ah,cl,bD,bV]
  refine⟨bp,lP (k.pc-k.pn) (.int .u8 0),{F with Bk:=b0++(b1++(b2++(b3++[]))),hk:=⟨b0,b1,b2,b3,[],rfl,k0,k1,k2,k3,⟨dE _,.inl ⟨rfl,rfl,rfl,rfl⟩⟩⟩},hx,hle,rfl,rfl,?_,e⟩;rw[e,s9,s9];show _=(F.Br++(F.Bs++(F.Bf++(F.Bq++(b0++(b1++(b2++(b3++[]))))))))++_;rw[hB,hb];simp[bR,aR]
theorem apc {k:LK} {s:Sd.aa} (F0:aW fr (aR (kJ k) s)) {bp:Nat} (hx:k.px=some ⟨bp,0,none⟩) (hle:k.pn<=k.pc):∃F:aW fr (aR k s),F.vs=F0.vs/\F.vr=F0.vr/\F.B=F0.B++[⟨bp,true,.cells (bD k.pn k.pf k.pc) 5 (0,0)⟩]:=by
 obtain⟨b0,b1,b2,b3,b4,hB,k0,k1,k2,k3,k4⟩:=F0.hk;have h4:b4=[]:=by
  obtain⟨_,h|⟨b,hx,_⟩⟩:=k4
  ·exact h.2.2.2
  ·cases hx
 subst h4;refine⟨{F0 with Bk:=b0++(b1++(b2++(b3++[⟨bp,true,.cells (bD k.pn k.pf k.pc) 5 (0,0)⟩]))),hk:=⟨b0,b1,b2,b3,_,rfl,k0,k1,k2,k3,⟨hle,.inr ⟨bp,hx,rfl⟩⟩⟩},rfl,rfl,?_⟩;rw[s9,s9];show(F0.Br++(F0.Bs++(F0.Bf++(F0.Bq++(b0++(b1++(b2++(b3++[(⟨bp,true,.cells (bD k.pn k.pf k.pc) 5 (0,0)⟩:ai)]))))))))=_;rw[hB];simp[bR]
theorem abm {k:LK} {s:Sd.aa} (F:aW fr (aR k s)) (F0:aW fr (aR (kJ k) s)) (h1:F0.vs=F.vs) (h2:F0.vr=F.vr):bz (kJ k) s F0=bz k s F:=by
 have e:s8 3 F0=s8 3 F:=by unfold s8;rw[h1,h2]
 show[b9 (kJ k),iB (kJ k),s8 3 F0,gL (kJ k) 4 s,gE s]=_;rw[e];rfl
theorem apd (ht:Body (fr:=fr) 147 dI):Body (fr:=fr) 99 (Hp (aJ aH)):=by
 intro ar k s F Kb a b c R ms w0 w h0 hq hM S;unfold Hp at hM;split at hM
 ·rename_i l vp;obtain⟨⟨rfl,hP,hf⟩,hK⟩:=hM;have Tu:=aoU (fr:=fr) aH ht;by_cases hn:k.pn=10
  ·obtain⟨bp,t,F0,hx,hle,v1,v2,hB,mN⟩:=apb F (by omega);obtain⟨e,he⟩:∃e,k.pc=e+10:=⟨k.pc-10,by omega⟩;rw[hn]at hB mN hK;have eP:lits (bN a b c++[bp]) (bN a b c++[bp]) (bz (kJ k) s F0++[eM 10 k.pf t])=lits (bN a b c) (bN a b c) (bz k s F)++[⟨bp,true,.cells (ah [] (eM 10 k.pf t).c).toArray 5 (0,0)⟩]:=by
    rw[abm F F0 v1 v2,eZ _ _ _ _ rfl,e_ (ids:=bN a b c) (more:=[bp]) (bN a b c) (bz k s F) rfl];rfl
   have S1:St ms w0 (lits (bN a b c++[bp]) (bN a b c++[bp]) (bz (kJ k) s F0++[eM 10 k.pf t])++ax [a_ (kJ k) s F0] R) w:=by
    rw[eP];have en:ax [a_ (kJ k) s F0] R=F0.B++R:=rfl;rw[en];rw[hB]at S;refine S.perm ?_;rw[bR,bR];refine qG _ ?_;exact rW _ _ _
   have cS:bo (bP prog gS (LP fr (aJ aH))) 90 99 [.ptr 2 0,.int .i64 l,.sl 5 0 10 (e+10)] (bz (kJ k) s F0++[eM 10 k.pf t]) [a_ (kJ k) s F0] (Tk (kJ k) s 10 k.pf t λv s' _=>∀F',Kb v s' F'):=by
    have Tv:LF (kJ k) s l:=⟨hP.r,hP.lo,hP.key,hP.ke,hP.bW,hP.dh,hP.ep⟩;have hl:l=1\/l=2\/l=3:=by have:=hP.lo;omega
    have sS:∀F0':aW fr (aR (kJ k) (s.prove (aJ aH) l 10 k.pf)),∀F',Kb (.an []) (s.prove (aJ aH) l 10 k.pf) F':=λ_=>hK;rcases hl with rfl|rfl|rfl
    ·rw[aoV];refine Tp (λe=>wV (i:=0) (by decide) rfl rfl rfl) (λe r key=>?_) rfl (by decide) hq Tv hf sS;obtain⟨_,b1,b3⟩:=Ho s 1 r key;exact Tn (i:=0) (by decide) rfl rfl rfl b1 (b3 (by decide)).1 (b3 (by decide)).2
    ·rw[aoW];refine Tp (λe=>wV (i:=1) (by decide) rfl rfl rfl) (λe r key=>?_) rfl (by decide) hq Tv hf sS;obtain⟨_,b1,b3⟩:=Ho s 2 r key;exact Tn (i:=1) (by decide) rfl rfl rfl b1 (b3 (by decide)).1 (b3 (by decide)).2
    ·rw[aoX];refine Tp (λe=>wV (i:=2) (by decide) rfl rfl rfl) (λe r key=>?_) rfl (by decide) hq Tv hf sS;obtain⟨_,b1,b3⟩:=Ho s 3 r key;exact Tn (i:=2) (by decide) rfl rfl rfl b1 (b3 (by decide)).1 (b3 (by decide)).2
   have ea:(aD (bN a b c) (.ptr 2 0::[.int .i64 l,.raw (eA k)])).toArray=(aD (bN a b c++[bp]) [.ptr 2 0,.int .i64 l,.sl 5 0 10 (e+10)]).toArray:=by
    have:eA k=.slice (some ⟨bp,0,none⟩) 10 (e+10):=by unfold eA;rw[hx,hn,he]
    rw[this];rfl
   rw[ea];refine(eG Tu.T Tu.Q 90 (C:=bP prog gS (LP fr (aJ aH))) (abl a b c [bp]) rfl S1 cS).mono ?_;rintro v w' ⟨x,more,bl',ch',rfl,h1,S',s',F',hv,hp,Tw,hb,rfl⟩;have ev:den (bN a b c++[bp]++more) x=den [] x:=by have:=fI (ids:=[]) (more:=bN a b c++[bp]++more) x hv;simpa using this
   rw[<-hn]at mN;obtain⟨F2,u1,u2,F9⟩:=apc F' hx hle;refine⟨x,s',F2,ev,hv,hp,Tw F2,?_⟩;have nH:bl'=(bz (kJ k) s' F'++[eM 10 k.pf t])++bl'.drop 6:=by rw[<-hb,jv]
   rw[nH]at S';have e2:lits (bN a b c++[bp]++more) (bN a b c++[bp]++more) ((bz (kJ k) s' F'++[eM 10 k.pf t])++bl'.drop 6)=(lits (bN a b c) (bN a b c) (bz k s' F2)++[⟨bp,true,.cells (ah [] (eM 10 k.pf t).c).toArray 5 (0,0)⟩])++lits (bN a b c++[bp]++more) more (bl'.drop 6):=by
    rw[eZ _ _ _ _ rfl,e_ (ids:=bN a b c++[bp]) (more:=more) (bN a b c++[bp]) _ rfl];rw[<-abm F2 F' u1.symm u2.symm,eZ _ _ _ _ rfl,e_ (ids:=bN a b c) (more:=[bp]) (bN a b c) (bz (kJ k) s' F') rfl];rfl
   rw[e2]at S';have e3:ax [a_ (kJ k) s' F'] R=F'.B++R:=rfl;rw[e3]at S';have S2:=S'.sub (bs':=(lits (bN a b c) (bN a b c) (bz k s' F2)++[⟨bp,true,.cells (ah [] (eM 10 k.pf t).c).toArray 5 (0,0)⟩])++(F'.B++R)) (by
    rw[bR (lits _ _ _++_)];exact zO (oT _ _) _)
   rw[F9];rw[hn]at mN⊢;rw[mN]at S2;refine S2.perm ?_;rw[bR,bR];refine qG _ ?_;exact rW _ _ _
  ·refine lH (M:=λar k s F K=>(ar=[.int .i64 l,.raw (eA k)]/\k.pn≠10/\s.bA.length<=1000)/\∀F',K (.an []) (s.iF (aJ aH) l 13) F') (n:=90) Tu ?_ _ k s F Kb a b c R ms w0 w h0 hq ⟨⟨rfl,hn,by have:=hP.r.2;omega⟩,?_⟩ S
   ·rintro ar k s F Kb _ hq ⟨⟨rfl,hn,hr⟩,hK⟩;rw[aoY];refine aI (λe=>⟨cy hq,G4 hr λF1=>ee rfl hK F1⟩) (λe=>?_);have:(k.pn:Int)=10:=by simpa using e
    omega
   ·have:s.prove (aJ aH) l k.pn k.pf=s.iF (aJ aH) l 13:=by unfold Sd.aa.prove;rw[if_pos hn]
    rw[this]at hK;exact hK
 ·exact hM.elim
end
section
open Go Go.RowKit Go.BigFrame Sx Vx
def gR:Nat->Option Nat
 |1=>some 0
 |_=>none
def Tx:QF:=⟨151,λargs _=>match args with
 |[.agg wl,.int .i64 n]=>(match Rr wl with
  |some z=>some ((0<=z.high/\z.high<=4294967295)/\(0<=n/\n<=4294967295),.an [.agg (aao (dM z n)),.bool (Gx (dM z n) z)])
  |none=>none)
 |_=>none⟩
theorem ape (gl:Nat->Option Nat):Tx.Ok prog gl:=by
 intro args bl p v h hp ids w _ _;unfold Tx at h;dsimp only at h;split at h
 ·rename_i wl n;split at h
  ·rename_i z hz;simp only[aV,bw]at h;obtain⟨rfl,rfl⟩:=h;obtain rfl:=akx hz;exact told (ajO z n hp.1 hp.2 w)
  ·cases h
 ·cases h
def Tz {G:Type} (k:LK):c_ G:=λargs bl ch K=>match args with
 |[.agg [.bJ .u8 32 key],.int .i64 l,.sl i 0 n c]=>(match bl[i]?with
  |some b=>(match b.c with
   |[.bJ .u8 n' f,.rest t]=>cond (xY b.ty 5&&bM bl.length bl) ((bl[0]?=some (b9 k)/\n=n'/\n<=58/\n<=c/\(0<=l/\l<4294967296))/\
    ((n<8\/kD key l (n-8) f=false)->K (.an [.raw (.slice none 0 0),.int .i64 14]) bl ch)/\
    (8<=n->kD key l (n-8) f=true->(n=8->∀(x:Option aO) (c':Nat),K (.an [.raw (.slice x 0 c'),.int .i64 0]) bl ch)/\
     (8<n->∀(c':Nat) (t':List ab),n-8<=c'->K (.an [.sl bl.length 0 (n-8) c',.int .i64 0]) (bl++[eM (n-8) f t']) ch))) False
   |_=>False)
  |none=>False)
 |[.agg [.bJ .u8 32 key],.int .i64 l,.raw (.slice x 0 c)]=>K (.an [.raw (.slice none 0 0),.int .i64 14]) bl ch
 |_=>False
theorem apf {G:Type} [Bl G] (k:LK):Sound (G:=G) prog gR 150 (Tz k):=by
 intro args ids bl ch R ms w0 w K hg hl S hc;unfold Tz at hc;split at hc
 ·rename_i key l i n c;split at hc
  ·rename_i b hb;split at hc
   ·rename_i n' f t hbc;cases hq:xY b.ty 5&&bM bl.length bl with
    |false=>rw[hq]at hc;exact hc.elim
    |true=>
     rw[hq]at hc;simp only[cond_true]at hc;simp only[bg]at hq;obtain⟨⟨hr,rfl,hn,jx,tU⟩,ri,abn⟩:=hc;have aM:=(fE hl S hb).2;rw[hbc,OM hq.1]at aM;have kI:w.heap[1]?=some (.cells (au .u32 64 cH) k.tg (0,0)):=by
      have h1:=(fE hl S hr).2;rw[(hg 1 0 rfl).2]at h1;have e:(ah ids (b9 k).c).toArray=au .u32 64 cH:=by kernel_rfl
      rw[e]at h1;exact h1
     have h8:cd w (ids.getD i 0) 0 n f:=by
      intro j hj;rw[cell_of aM];have e:(ah ids [V.bJ .u8 n f,.rest t]).toArray=((bd n).map (λj=>eg .u8 (f j))++t).toArray:=by simp[ah,cl]
      rw[e];simp only[eD,jt];rw[gV (by simpa using hj),iZ,m9 hj];rfl
     have ea:(aD ids [.agg [.bJ .u8 32 key],.int .i64 l,.sl i 0 n c]).toArray=#[.agg (au .u8 32 key),.int .i64 l,.slice (some ⟨ids.getD i 0,0,none⟩) n c]:=by kernel_rfl
     rw[ea];have fin:∀{v:ab} {w1:ae},v=.tuple #[.slice none 0 0,.int .i64 14]->Ch [] w w1->K (.an [.raw (.slice none 0 0),.int .i64 14]) bl ch->∃x more bl' ch',v=den (ids++more) x/\(ids++more).length=bl'.length/\St ms w0 (lits (ids++more) (ids++more) bl'++ax ch' R) w1/\K x bl' ch':=by
      rintro v w1 rfl cn hk;exact⟨_,[],bl,ch,by simp[den,aD],by simpa using hl,by simpa using S.quiet cn,hk⟩
     rcases cN n 8 with h|h
     ·exact(Zp key l _ n c h w).mono λv w1 ⟨hv,cn⟩=>fin hv cn (ri (.inl h))
     ·obtain⟨m,rfl⟩:∃m,n=m+8:=⟨n-8,by omega⟩;rw[Nat.add_sub_cancel]at ri abn;cases ho:kD key l m f with
      |false=>exact(air key l _ 0 m c f (by omega) jx tU ho w kI h8).mono λv w1 ⟨hv,cn⟩=>fin hv cn (ri (.inr ho))
      |true=>
       refine(ais key l _ 0 m c f (by omega) jx tU ho w kI h8).mono ?_;rintro v w1 ⟨x1,c1,jQ,rfl,TA,S1⟩;obtain⟨y0,y1⟩:=abn h ho;have hS:=S.quiet S1.ch;rcases u6 m with rfl|h0
       ·exact⟨_,[],bl,ch,by simp[den,aD],by simpa using hl,by simpa using hS,y0 rfl x1 c1⟩
       ·obtain⟨bn,hle,rfl,rfl⟩:=E2 TA h0;refine⟨_,[bn],_,ch,?_,by simp[hl],?_,y1 (by omega) c1 (lP (c1-m) (.int .u8 0)) hle⟩
        ·simp only[den,aD];rw[<-hl,kS]
        ·rw[eZ _ _ _ _ hl,e_ _ _ (by rw[hl];exact hq.2)];have e2:lits (ids++[bn]) [bn] [eM m f (lP (c1-m) (.int .u8 0))]=[⟨bn,true,.cells (bD m f c1) 5 (0,0)⟩]:=by
          simp[lits,az,eM,ah,cl,bD,bV]
         rw[e2];have apg:=S1.oe (x:=⟨bn,true,.cells (bD m f c1) 5 (0,0)⟩) (by simp) rfl;have dY:w.heap.size<=bn:=by rcases apg with h|h;cases h;exact h
         have:=S.new S1.ch dY (S1.at' (x:=⟨bn,true,.cells (bD m f c1) 5 (0,0)⟩) (by simp));refine this.perm ?_;rw[bR];exact jH.symm
   ·exact hc.elim
  ·exact hc.elim
 ·rename_i key l x c;have ea:(aD ids [.agg [.bJ .u8 32 key],.int .i64 l,.raw (.slice x 0 c)]).toArray=#[.agg (au .u8 32 key),.int .i64 l,.slice x 0 c]:=by kernel_rfl
  rw[ea];refine(Zp key l x 0 c (by decide) w).mono ?_;rintro v w1 ⟨rfl,cn⟩;exact⟨_,[],bl,ch,by simp[den,aD],by simpa using hl,by simpa using S.quiet cn,hc⟩
 ·exact hc.elim
def LO (k:LK):List (bK Empty):=⟨150,false,Tz k⟩::qL Empty (LC::Tx::QV)
theorem LS (k:LK):aC prog gR (LO k):=aC.cons ⟨apf k,λe=>by cases e⟩ (kU (bH.cons (abf gR) (bH.cons (ape gR) (GM gR))))
def gn (e:Int):V:=.an [.agg (cI (Sd.eT 0)),.int .i64 e]
def Hq (w:Sd.gx) (b:Int) (m:Sd.aY) (e:Int) (X:V->Option (Sd.gx×Sd.Timer)->Prop):Prop:=
 cond (e !=0) (X (gn 13) none) (cond (m.kind==1) (X (gn 13) none) (cond (m.kind==2) (X (gn 13) none)
  (((0<=w.high/\w.high<=4294967295)/\(0<=m.seq/\m.seq<=4294967295))/\cond (!(Gx (dM w m.seq) w)) (X (gn 15) none)
    ((-9223372036854775808<=b/\b<=9223372036854775807)/\X (.an [.agg (cI m),.int .i64 0]) (some (dM w m.seq,Sd.Timer.start b))))))
def Hr (k:LK) (s:Sd.gy) (b l:Int) (n c:Nat) (f:Nat->Int) (X:V->Option (Sd.gx×Sd.Timer)->Prop):Prop:=
 cond (!s.on) (X (gn 16) none) ((some (b9 k)=some (b9 k)/\n=n/\n<=58/\n<=c/\(0<=l/\l<4294967296))/\
  ((n<8\/kD s.key l (n-8) f=false)->X (gn 14) none)/\
  (8<=n->kD s.key l (n-8) f=true->(n=8->∀(x:Option aO) (c':Nat),True/\Hq s.seen b (iW 0 λ_=>0) (tj 0 λ_=>0) X)/\
   (8<n->∀(c':Nat) (t':List ab),n-8<=c'->(n-8<=n-8/\n-8<=c'/\By f)/\Hq s.seen b (iW (n-8) f) (tj (n-8) f) X)))
def rM (s:Sd.gy):Option (Sd.gx×Sd.Timer)->Sd.gy
 |none=>s
 |some (w,t)=>{s with seen:=w,on:=true,eL:=t}
def kT (X:V->List VB->Prop):VK Empty:=λv bl _=>X v (bl.take 3)
section
variable(k:LK) (y:TC) (n c:Nat) (f:Nat->Int) (t:List ab) (X:V->List VB->Prop)
theorem aph:bo (bP prog gR (LO k)) 60 100 [.ptr 1 0,.int .i64 1,.sl 2 0 n c] [b9 k,⟨true,⟨157,(0,0)⟩,db y⟩,eM n f t] [] (kT X)=Hr k y.s0 y.b 1 n c f λv o=>X v [b9 k,⟨true,⟨157,(0,0)⟩,db {y with s0:=rM y.s0 o}⟩,eM n f t]:=by kernel_rfl
theorem api:bo (bP prog gR (LO k)) 60 100 [.ptr 1 0,.int .i64 2,.sl 2 0 n c] [b9 k,⟨true,⟨157,(0,0)⟩,db y⟩,eM n f t] [] (kT X)=Hr k y.sa y.b 2 n c f λv o=>X v [b9 k,⟨true,⟨157,(0,0)⟩,db {y with sa:=rM y.sa o}⟩,eM n f t]:=by kernel_rfl
theorem apj:bo (bP prog gR (LO k)) 60 100 [.ptr 1 0,.int .i64 3,.sl 2 0 n c] [b9 k,⟨true,⟨157,(0,0)⟩,db y⟩,eM n f t] [] (kT X)=Hr k y.sb y.b 3 n c f λv o=>X v [b9 k,⟨true,⟨157,(0,0)⟩,db {y with sb:=rM y.sb o}⟩,eM n f t]:=by kernel_rfl
def k_ (y:TC) (l:Int):Sd.gy:=if l=1 then y.s0 else if l=2 then y.sa else y.sb
theorem apk (x:Option aO):bo (bP prog gR (LO k)) 60 100 [.ptr 1 0,.int .i64 1,.raw (.slice x 0 c)] [b9 k,⟨true,⟨157,(0,0)⟩,db y⟩] [] (λv bl _=>X v (bl.take 2))=cond (!y.s0.on) (X (gn 16) [b9 k,⟨true,⟨157,(0,0)⟩,db y⟩]) (X (gn 14) [b9 k,⟨true,⟨157,(0,0)⟩,db y⟩]):=by kernel_rfl
theorem apl (x:Option aO):bo (bP prog gR (LO k)) 60 100 [.ptr 1 0,.int .i64 2,.raw (.slice x 0 c)] [b9 k,⟨true,⟨157,(0,0)⟩,db y⟩] [] (λv bl _=>X v (bl.take 2))=cond (!y.sa.on) (X (gn 16) [b9 k,⟨true,⟨157,(0,0)⟩,db y⟩]) (X (gn 14) [b9 k,⟨true,⟨157,(0,0)⟩,db y⟩]):=by kernel_rfl
theorem apm (x:Option aO):bo (bP prog gR (LO k)) 60 100 [.ptr 1 0,.int .i64 3,.raw (.slice x 0 c)] [b9 k,⟨true,⟨157,(0,0)⟩,db y⟩] [] (λv bl _=>X v (bl.take 2))=cond (!y.sb.on) (X (gn 16) [b9 k,⟨true,⟨157,(0,0)⟩,db y⟩]) (X (gn 14) [b9 k,⟨true,⟨157,(0,0)⟩,db y⟩]):=by kernel_rfl
end
variable{fr:Sd.aE->Nat×Sd.av}
def lb (s:Sd.gy) (b l:Int) (n:Nat) (f:Nat->Int):V×Option (Sd.gx×Sd.Timer):=
 if s.on=false then(gn 16,none)else if n<8\/kD s.key l (n-8) f=false then(gn 14,none)else match aH (n-8) f with
 |none=>(gn 13,none)
 |some m=>if m.kind=1\/m.kind=2 then(gn 13,none)else if dM s.seen m.seq=s.seen then(gn 15,none)else(.an [.agg (cI m),.int .i64 0],some (dM s.seen m.seq,Sd.Timer.start b))
theorem apn {w:Sd.gx} {b:Int} {n:Nat} {f:Nat->Int} {X:V->Option (Sd.gx×Sd.Timer)->Prop} (hw:0<=w.high/\w.high<=4294967295) (hb:0<=b/\b<=1000)
 (h0:aH n f=none->X (gn 13) none) (h1:∀m,aH n f=some m->if m.kind=1\/m.kind=2 then X (gn 13) none else if dM w m.seq=w then X (gn 15) none else X (.an [.agg (cI m),.int .i64 0]) (some (dM w m.seq,Sd.Timer.start b))):
 Hq w b (iW n f) (tj n f) X:=by
 unfold Hq;refine aI (λe=>h0 (abj e)) (λe=>?_);have hm:=abi e;have h2:=h1 _ hm;have ji:=To hm;refine aI (λe1=>?_) (λe1=>aI (λe2=>?_) (λe2=>⟨⟨hw,ji.seq⟩,aI (λe3=>?_) (λe3=>⟨by omega,?_⟩)⟩))
 ·rw[if_pos (.inl (by simpa using e1))]at h2;exact h2
 ·rw[if_pos (.inr (by simpa using e2))]at h2;exact h2
 ·rw[if_neg (by simp at e1 e2;simp[e1,e2]),if_pos ((Z3 _ _).1 (by simpa using e3))]at h2;exact h2
 ·rw[if_neg (by simp at e1 e2;simp[e1,e2]),if_neg (λh=>by rw[(Z3 _ _).2 h]at e3;simp at e3)]at h2;exact h2
theorem TD {k:LK} {s:Sd.gy} {b l:Int} {n c:Nat} {f:Nat->Int} {X:V->Option (Sd.gx×Sd.Timer)->Prop} (hw:s.on=true->0<=s.seen.high/\s.seen.high<=4294967295) (hb:0<=b/\b<=1000) (hn:n<=58) (hc:n<=c) (hl:1<=l/\l<=3) (hf:By f)
 (h:X (lb s b l n f).1 (lb s b l n f).2):Hr k s b l n c f X:=by
 unfold lb at h;unfold Hr;refine aI (λe=>?_) (λe=>⟨⟨rfl,rfl,hn,hc,by omega,by omega⟩,λHa=>?_,λh8 ho=>?_⟩)
 ·rw[if_pos (by simpa using e)]at h;exact h
 ·rw[if_neg (by simpa using e),if_pos Ha]at h;exact h
 ·rw[if_neg (by simpa using e),if_neg (by rw[ho];simp;omega)]at h;have main:∀g:Nat->Int,aH (n-8) g=aH (n-8) f->Hq s.seen b (iW (n-8) g) (tj (n-8) g) X:=by
   intro g hg;refine apn (hw (by simpa using e)) hb (λh0=>?_) (λm hm=>?_)
   ·rw[hg]at h0;rw[h0]at h;exact h
   ·rw[hg]at hm;rw[hm]at h;simp only at h;split
    ·rename_i h1;rw[if_pos h1]at h;exact h
    ·rename_i h1;rw[if_neg h1]at h;split
     ·rename_i h2;rw[if_pos h2]at h;exact h
     ·rename_i h2;rw[if_neg h2]at h;exact h
  refine⟨λTA x c'=>⟨trivial,?_⟩,λTA c' t' yb=>⟨⟨dE _,yb,hf⟩,main f rfl⟩⟩;have h0:n-8=0:=by omega
  have:=main (λ_=>0) (by rw[h0];rfl);rw[h0]at this;exact this
theorem apo (t:Sd.aA) (p:Sd.aN) (l:Int) (n:Nat) (f:Nat->Int) (hl:1<=l/\l<=3):
 (∃e,Sd.aA.take (aJ aH) p t l n f=(t,.error e)/\lb (t.aj (l.toNat-1)) p.bW l n f=(gn e,none))\/
 (∃m w,Sd.aA.take (aJ aH) p t l n f=(t.ei (l.toNat-1) {(t.aj (l.toNat-1))with seen:=w,on:=true,eL:=.start p.bW},.ok m)/\lb (t.aj (l.toNat-1)) p.bW l n f=(.an [.agg (cI m),.int .i64 0],some (w,Sd.Timer.start p.bW))):=by
 have iT:t.de l=(t.aj (l.toNat-1)).on:=by
  unfold Sd.aA.de;simp[hl.1,hl.2]
 unfold Sd.aA.take lb;rw[iT];by_cases h1:(t.aj (l.toNat-1)).on=false
 ·rw[if_pos h1,if_pos h1];exact .inl ⟨16,rfl,rfl⟩
 ·rw[if_neg h1,if_neg h1];by_cases h2:n<8\/kD (t.aj (l.toNat-1)).key l (n-8) f=false
  ·rw[if_pos h2];have:n<8\/(aJ aH).opens (t.aj (l.toNat-1)).key l n f=false:=h2;rw[if_pos this];exact .inl ⟨14,rfl,rfl⟩
  ·rw[if_neg h2];have:¬(n<8\/(aJ aH).opens (t.aj (l.toNat-1)).key l n f=false):=h2;rw[if_neg this];rw[show(aJ aH).take (n-8) f=aH (n-8) f from rfl];cases LU:aH (n-8) f with
   |none=>exact .inl ⟨13,rfl,rfl⟩
   |some m=>
    simp only;by_cases h3:m.kind=1\/m.kind=2
    ·rw[if_pos h3,if_pos h3];exact .inl ⟨13,rfl,rfl⟩
    ·rw[if_neg h3,if_neg h3];by_cases h4:dM (t.aj (l.toNat-1)).seen m.seq=(t.aj (l.toNat-1)).seen
     ·rw[if_pos h4];have:(aJ aH).eh (t.aj (l.toNat-1)).seen m.seq=(t.aj (l.toNat-1)).seen:=h4;rw[if_pos this];exact .inl ⟨15,rfl,rfl⟩
     ·rw[if_neg h4];have:¬(aJ aH).eh (t.aj (l.toNat-1)).seen m.seq=(t.aj (l.toNat-1)).seen:=h4;rw[if_neg this];exact .inr ⟨m,dM (t.aj (l.toNat-1)).seen m.seq,rfl,rfl⟩
theorem abo {d:FD} (F:aW fr d) (h0:0<d.k.pn):∃(bp:Nat) (t:List ab) (X:List ai),d.k.px=some ⟨bp,0,none⟩/\d.k.pn<=d.k.pc/\F.B=X++[⟨bp,true,.cells (ah [] (eM d.k.pn d.k.pf t).c).toArray 5 (0,0)⟩]:=by
 obtain⟨b0,b1,b2,b3,b4,hB,k0,k1,k2,k3,k4⟩:=F.hk;obtain⟨hle,h|⟨bp,hx,hb⟩⟩:=k4
 ·have:=h.2.1;omega
 ·have e:(ah [] (eM d.k.pn d.k.pf (lP (d.k.pc-d.k.pn) (.int .u8 0))).c).toArray=bD d.k.pn d.k.pf d.k.pc:=by
   simp[eM,ah,cl,bD,bV]
  refine⟨bp,lP (d.k.pc-d.k.pn) (.int .u8 0),F.Br++(F.Bs++(F.Bf++(F.Bq++(b0++(b1++(b2++b3)))))),hx,hle,?_⟩;rw[e,s9,hB,hb];simp[bR]
def TE (C:Sd.aL):c_ (Gh fr):=λargs bl ch K=>match args,ch with
 |[.ptr it 0,.int .i64 l,.raw vp],g::rest=>(match bl[it]?with
  |some ⟨true,⟨157,(0,0)⟩,tc⟩=>(match s7 tc with
   |some y=>cond (!(aq it 0)) ((vp=eA g.d.k/\bl[0]?=some (b9 g.d.k)/\g.d.k.pn<=58/\By g.d.k.pf/\(1<=l/\l<=3)/\(0<=y.b/\y.b<=1000)/\(∀i,i<3->((bS y).aj i).on=true->0<=((bS y).aj i).seen.high/\((bS y).aj i).seen.high<=4294967295))/\
    (∀e,Sd.aA.take C (pY y.b y.m) (bS y) l g.d.k.pn g.d.k.pf=(bS y,.error e)->K (gn e) bl ch)/\
    (∀t' m,Sd.aA.take C (pY y.b y.m) (bS y) l g.d.k.pn g.d.k.pf=(t',.ok m)->K (.an [.agg (cI m),.int .i64 0]) (bl.set it ⟨true,⟨157,(0,0)⟩,db (Bw t' y.b y.m)⟩) ch)) False
   |none=>False)
  |_=>False)
 |_,_=>False
theorem apq {bl:List VB} {i:Nat} {b:VB} (h:bl[i]?=some b):bl.set i b=bl:=by
 apply u_;intro j;rw[List.getElem?_set];split
 ·rename_i e;subst e;have:=iU h;rw[if_pos this];exact h.symm
 ·rfl
theorem apr:Sound prog gS 100 (TE (fr:=fr) (aJ aH)):=by
 intro args ids bl ch R ms w0 w K hg hl S hc;unfold TE at hc;split at hc
 ·rename_i it l vp g rest;split at hc
  ·rename_i tc hb;split at hc
   ·rename_i y hy;cases hq:!(aq it 0)with
    |false=>rw[hq]at hc;exact hc.elim
    |true=>
     rw[hq]at hc;simp only[cond_true]at hc;obtain⟨⟨rfl,hr,hn,hf,OS,TF,hwn⟩,hE,hO⟩:=hc;obtain rfl:=yV hy;have sZ:it≠0:=by rintro rfl;simp at hq
     have hi:=iU hb;have hi0:=iU hr;have abp:ids.getD 0 0=1:=(hg 1 0 rfl).2;obtain⟨r,LD,gM⟩:=yW hl (is:=[0,it]) (by simp[Ne.symm sZ]) (by simp[hi,hi0]);have abq:(pY y.b y.m).bW=y.b:=rfl;have p1:=gM bl rfl;simp only[eH,vf,ft,fl]at p1;rw[jm hb,jm hr,abp]at p1;have LV:(bS y).aj (l.toNat-1)=k_ y l:=by
      have:l=1\/l=2\/l=3:=by omega
      rcases this with rfl|rfl|rfl<;>rfl
     have uK:=apo (bS y) (pY y.b y.m) l g.d.k.pn g.d.k.pf OS;rw[LV,abq]at uK;have hw:(k_ y l).on=true->0<=(k_ y l).seen.high/\(k_ y l).seen.high<=4294967295:=by rw[<-LV];exact hwn _ (by omega)
     have e0:ax (g::rest) R=g.F.B++ax rest R:=rfl;rw[e0]at S;have er:∀is:List Nat,az is 1 (b9 g.d.k)=az [] 1 (b9 g.d.k):=λis=>by
      have:=j4 (ids:=[]) (more:=is) (b9 g.d.k).c rfl;simp only[fl]at this;simp only[az,this]
     have et:∀(is:List Nat) (i:Nat) (y:TC),az is i ⟨true,⟨157,(0,0)⟩,db y⟩=az [] i ⟨true,⟨157,(0,0)⟩,db y⟩:=λis i y=>by
      have:=j4 (ids:=[]) (more:=is) (db y) rfl;simp only[fl]at this;simp only[az,this]
     have ep:∀(is:List Nat) (i n:Nat) (f:Nat->Int) (t:List ab),az is i (eM n f t)=az [] i (eM n f t):=λis i n f t=>by
      have:=j4 (ids:=[]) (more:=is) (eM n f t).c rfl;simp only[fl]at this;simp only[az,this]
     have back:∀(y':TC) (w':ae) (Z:List ai),St ms w0 (az [] 1 (b9 g.d.k)::az [] (ids.getD it 0) ⟨true,⟨157,(0,0)⟩,db y'⟩::((r.map λj=>az ids (ids.getD j 0) (bl.getD j di))++Z)) w'->St ms w0 (lits ids ids (bl.set it ⟨true,⟨157,(0,0)⟩,db y'⟩)++Z) w':=by
      intro y' w' Z hS;have p2:=gM (bl.set it ⟨true,⟨157,(0,0)⟩,db y'⟩) (by simp);simp only[eH,vf,ft,fl]at p2;have e3:(r.map λj=>az ids (ids.getD j 0) ((bl.set it ⟨true,⟨157,(0,0)⟩,db y'⟩).getD j di))=r.map λj=>az ids (ids.getD j 0) (bl.getD j di):=by
       apply qD;intro j hj;have:=LD j hj;simp only[ij];rw[kH (λh=>this (by simp[h]))]
      rw[e3,jm (Be hi),jm (i:=0) (b:=b9 g.d.k) (by rw[IB sZ];exact hr),abp,er,et]at p2;exact hS.perm (p2.symm.append_right Z)
     have done:∀{w':ae} (y':TC) (v:V) (o:Option (Sd.gx×Sd.Timer)),cK 0 v=true->lb (k_ y l) y.b l g.d.k.pn g.d.k.pf=(v,o)->y'=(if l=1 then{y with s0:=rM y.s0 o}else if l=2 then{y with sa:=rM y.sa o}else{y with sb:=rM y.sb o})->
      St ms w0 (lits ids ids (bl.set it ⟨true,⟨157,(0,0)⟩,db y'⟩)++(g.F.B++ax rest R)) w'->∃x more bl' ch',den [] v=den (ids++more) x/\(ids++more).length=bl'.length/\St ms w0 (lits (ids++more) (ids++more) bl'++ax ch' R) w'/\K x bl' ch':=by
      intro w' y' v o hv ht LW hS;have ev:∀is,den is v=den [] v:=λis=>by have:=fI (ids:=[]) (more:=is) v hv;simpa using this
      rcases uK with⟨e,h1,h2⟩|⟨m,w2,h1,h2⟩
      ·rw[h2]at ht;obtain⟨rfl,rfl⟩:=Cj ht;have TG:y'=y:=by
        rw[LW];split
        ·rfl
        ·split<;>rfl
       rw[TG]at hS;have yc:bl.set it ⟨true,⟨157,(0,0)⟩,db y⟩=bl:=apq hb;rw[yc]at hS;exact⟨gn e,[],bl,g::rest,(ev _).symm,by simpa using hl,by rw[cQ,e0];exact hS,hE e h1⟩
      ·rw[h2]at ht;obtain⟨rfl,rfl⟩:=Cj ht;refine⟨.an [.agg (cI m),.int .i64 0],[],_,g::rest,(ev _).symm,by simpa using hl,?_,hO _ m h1⟩;rw[cQ,e0];have TG:Bw ((bS y).ei (l.toNat-1) {k_ y l with seen:=w2,on:=true,eL:=.start y.b}) y.b y.m=y':=by
        rw[LW];have:l=1\/l=2\/l=3:=by omega
        rcases this with rfl|rfl|rfl<;>rfl
       rw[TG];exact hS
     have hX:∀(y':TC) (o:Option (Sd.gx×Sd.Timer)) (v:V),lb (k_ y l) y.b l g.d.k.pn g.d.k.pf=(v,o)->cK 0 v=true:=by
      intro y' o v hv;rcases uK with⟨e,h1,h2⟩|⟨m,w2,h1,h2⟩<;>(rw[h2]at hv;obtain⟨rfl,rfl⟩:=Cj hv;rfl)
     rcases u6 g.d.k.pn with hz|AS
     ·
      have Gu:Gl gR [1,ids.getD it 0]:=by
       intro gg i dz;unfold gR at dz;split at dz
       ·obtain rfl:=cA dz;exact⟨by simp,rfl⟩
       ·cases dz
      have S1:=S.perm (p1.append_right _);simp only[ft]at S1;rw[er,et]at S1;have S2:St ms w0 (lits [1,ids.getD it 0] [1,ids.getD it 0] [b9 g.d.k,⟨true,⟨157,(0,0)⟩,db y⟩]++ax ([]:List Empty) ((r.map λj=>az ids (ids.getD j 0) (bl.getD j di))++(g.F.B++ax rest R))) w:=by
       simp only[lits,ax,er,et,ft,fl];exact S1
      let X:V->List VB->Prop:=λv b=>v=(lb (k_ y l) y.b l g.d.k.pn g.d.k.pf).1/\b=[b9 g.d.k,⟨true,⟨157,(0,0)⟩,db y⟩]
      have hT:lb (k_ y l) y.b l g.d.k.pn g.d.k.pf=if(k_ y l).on=false then(gn 16,none)else(gn 14,none):=by
       unfold lb;rw[hz];split
       ·rfl
       ·rw[if_pos (.inl (by decide))]
      have cS:bo (bP prog gR (LO g.d.k)) 60 100 [.ptr 1 0,.int .i64 l,.raw (.slice g.d.k.px 0 g.d.k.pc)] [b9 g.d.k,⟨true,⟨157,(0,0)⟩,db y⟩] [] (λv bl _=>X v (bl.take 2)):=by
       have TH:cond (!(k_ y l).on) (X (gn 16) [b9 g.d.k,⟨true,⟨157,(0,0)⟩,db y⟩]) (X (gn 14) [b9 g.d.k,⟨true,⟨157,(0,0)⟩,db y⟩]):=by
        refine aI (λe=>⟨?_,rfl⟩) (λe=>⟨?_,rfl⟩)
        ·rw[hT,if_pos (by simpa using e)]
        ·rw[hT,if_neg (by simpa using e)]
       have:l=1\/l=2\/l=3:=by omega
       rcases this with rfl|rfl|rfl
       ·rw[apk];exact TH
       ·rw[apl];exact TH
       ·rw[apm];exact TH
      have ea:(aD ids [.ptr it 0,.int .i64 l,.raw (eA g.d.k)]).toArray=(aD [1,ids.getD it 0] [.ptr 1 0,.int .i64 l,.raw (.slice g.d.k.px 0 g.d.k.pc)]).toArray:=by
       have:eA g.d.k=.slice g.d.k.px 0 g.d.k.pc:=by unfold eA;rw[hz]
       rw[this];rfl
      rw[ea];refine(eG (LS g.d.k).T (LS g.d.k).Q 60 (C:=bP prog gR (LO g.d.k)) Gu rfl S2 cS).mono ?_;rintro v w' ⟨x,more,bl',ch',rfl,h1,S3,hv,ji⟩;have wY:cK 0 x=true:=by
       rw[hv];exact hX y _ _ rfl
      have nH:bl'=[b9 g.d.k,⟨true,⟨157,(0,0)⟩,db y⟩]++bl'.drop 2:=by rw[<-ji,jv]
      rw[nH]at S3;have e2:lits ([1,ids.getD it 0]++more) ([1,ids.getD it 0]++more) ([b9 g.d.k,⟨true,⟨157,(0,0)⟩,db y⟩]++bl'.drop 2)=az [] 1 (b9 g.d.k)::az [] (ids.getD it 0) ⟨true,⟨157,(0,0)⟩,db y⟩::lits ([1,ids.getD it 0]++more) more (bl'.drop 2):=by
       simp only[ft,fl,lits,er,et]
      rw[e2]at S3;have e3:ax ch' ((r.map λj=>az ids (ids.getD j 0) (bl.getD j di))++(g.F.B++ax rest R))=(r.map λj=>az ids (ids.getD j 0) (bl.getD j di))++(g.F.B++ax rest R):=by cases ch' with
       |nil=>rfl
       |cons c _=>cases c
      rw[e3]at S3;have S4:=S3.sub (bs':=az [] 1 (b9 g.d.k)::az [] (ids.getD it 0) ⟨true,⟨157,(0,0)⟩,db y⟩::((r.map λj=>az ids (ids.getD j 0) (bl.getD j di))++(g.F.B++ax rest R))) (by
       simp only[ft];exact IS _ (IS _ (oT _ _)))
      have ex:den ([1,ids.getD it 0]++more) x=den [] x:=by have:=fI (ids:=[]) (more:=[1,ids.getD it 0]++more) x wY;simpa using this
      rw[ex];have ho:(lb (k_ y l) y.b l g.d.k.pn g.d.k.pf).2=none:=by rw[hT];split<;>rfl
      refine done y x none wY ?_ ?_ (back y w' _ S4)
      ·rw[hv,<-ho]
      ·split
       ·rfl
       ·split<;>rfl
     ·
      obtain⟨bp,t,XX,hx,hle,TI⟩:=abo g.F AS;have Gu:Gl gR [1,ids.getD it 0,bp]:=by
       intro gg i dz;unfold gR at dz;split at dz
       ·obtain rfl:=cA dz;exact⟨by simp,rfl⟩
       ·cases dz
      have aps:(⟨bp,true,.cells (ah [] (eM g.d.k.pn g.d.k.pf t).c).toArray 5 (0,0)⟩:ai)=az [] bp (eM g.d.k.pn g.d.k.pf t):=rfl;rw[aps]at TI;have S1:=S.perm (p1.append_right _);rw[TI]at S1;simp only[ft]at S1;rw[er,et]at S1;have pm:∀(a b c:ai) (A B Z:List ai),(a::b::(A++((B++[c])++Z))).Perm (a::b::c::(A++(B++Z))):=by
       intro a b c A B Z;refine u7 a (u7 b ?_);have:=jH (a:=c) (l₁:=A++B) (l₂:=Z);simpa[bR]using this
      have S2:St ms w0 (lits [1,ids.getD it 0,bp] [1,ids.getD it 0,bp] [b9 g.d.k,⟨true,⟨157,(0,0)⟩,db y⟩,eM g.d.k.pn g.d.k.pf t]++ax ([]:List Empty) ((r.map λj=>az ids (ids.getD j 0) (bl.getD j di))++(XX++ax rest R))) w:=by
       simp only[lits,ax,er,et,ep,ft,fl];exact S1.perm (pm _ _ _ _ _ _)
      let X:V->List VB->Prop:=λv b=>v=(lb (k_ y l) y.b l g.d.k.pn g.d.k.pf).1/\b=[b9 g.d.k,⟨true,⟨157,(0,0)⟩,db (if l=1 then{y with s0:=rM y.s0 (lb (k_ y l) y.b l g.d.k.pn g.d.k.pf).2}else if l=2 then{y with sa:=rM y.sa (lb (k_ y l) y.b l g.d.k.pn g.d.k.pf).2}else{y with sb:=rM y.sb (lb (k_ y l) y.b l g.d.k.pn g.d.k.pf).2})⟩,eM g.d.k.pn g.d.k.pf t]
      have cS:bo (bP prog gR (LO g.d.k)) 60 100 [.ptr 1 0,.int .i64 l,.sl 2 0 g.d.k.pn g.d.k.pc] [b9 g.d.k,⟨true,⟨157,(0,0)⟩,db y⟩,eM g.d.k.pn g.d.k.pf t] [] (kT X):=by
       have:l=1\/l=2\/l=3:=by omega
       rcases this with rfl|rfl|rfl
       ·rw[aph];exact TD hw TF hn hle (by decide) hf ⟨rfl,rfl⟩
       ·rw[api];exact TD hw TF hn hle (by decide) hf ⟨rfl,rfl⟩
       ·rw[apj];exact TD hw TF hn hle (by decide) hf ⟨rfl,rfl⟩
      have ea:(aD ids [.ptr it 0,.int .i64 l,.raw (eA g.d.k)]).toArray=(aD [1,ids.getD it 0,bp] [.ptr 1 0,.int .i64 l,.sl 2 0 g.d.k.pn g.d.k.pc]).toArray:=by
       have:eA g.d.k=.slice (some ⟨bp,0,none⟩) g.d.k.pn g.d.k.pc:=by unfold eA;rw[hx]
       rw[this];rfl
      rw[ea];refine(eG (LS g.d.k).T (LS g.d.k).Q 60 (C:=bP prog gR (LO g.d.k)) Gu rfl S2 cS).mono ?_;rintro v w' ⟨x,more,bl',ch',rfl,h1,S3,hv,ji⟩;generalize LW:(if l=1 then{y with s0:=rM y.s0 (lb (k_ y l) y.b l g.d.k.pn g.d.k.pf).2}else if l=2 then{y with sa:=rM y.sa (lb (k_ y l) y.b l g.d.k.pn g.d.k.pf).2}else{y with sb:=rM y.sb (lb (k_ y l) y.b l g.d.k.pn g.d.k.pf).2}:TC)=y' at ji;have wY:cK 0 x=true:=by
       rw[hv];exact hX y _ _ rfl
      have nH:bl'=[b9 g.d.k,⟨true,⟨157,(0,0)⟩,db y'⟩,eM g.d.k.pn g.d.k.pf t]++bl'.drop 3:=by rw[<-ji,jv]
      rw[nH]at S3;have e2:lits ([1,ids.getD it 0,bp]++more) ([1,ids.getD it 0,bp]++more) ([b9 g.d.k,⟨true,⟨157,(0,0)⟩,db y'⟩,eM g.d.k.pn g.d.k.pf t]++bl'.drop 3)=az [] 1 (b9 g.d.k)::az [] (ids.getD it 0) ⟨true,⟨157,(0,0)⟩,db y'⟩::az [] bp (eM g.d.k.pn g.d.k.pf t)::lits ([1,ids.getD it 0,bp]++more) more (bl'.drop 3):=by
       simp only[ft,fl,lits,er,et,ep]
      rw[e2]at S3;have e3:∀Z,ax ch' Z=Z:=by
       intro Z;cases ch' with
       |nil=>rfl
       |cons c _=>cases c
      rw[e3]at S3;have S4:=S3.sub (bs':=az [] 1 (b9 g.d.k)::az [] (ids.getD it 0) ⟨true,⟨157,(0,0)⟩,db y'⟩::az [] bp (eM g.d.k.pn g.d.k.pf t)::((r.map λj=>az ids (ids.getD j 0) (bl.getD j di))++(XX++ax rest R))) (by
       simp only[ft];exact IS _ (IS _ (IS _ (oT _ _))))
      have S5:=S4.perm (pm _ _ _ _ _ _).symm;rw[<-TI]at S5;have ex:den ([1,ids.getD it 0,bp]++more) x=den [] x:=by have:=fI (ids:=[]) (more:=[1,ids.getD it 0,bp]++more) x wY;simpa using this
      rw[ex];exact done y' x _ wY (by rw[hv]) LW.symm (back y' w' _ S5)
   ·exact hc.elim
  ·exact hc.elim
 ·exact hc.elim
def rN (a:Nat) (f:fc):ab:=.func (.func f) #[.pointer (some ⟨a,0,none⟩)] #[]
def oC (a:Nat):List (Int×ab):=[(3,rN a 152),(4,rN a 153),(5,rN a 154),(6,rN a 155),(7,rN a 156),(8,rN a 157),(9,rN a 158),(10,rN a 159),(11,rN a 159)]
def abr:Nat->Prop->Prop->Prop
 |0,_,q=>q
 |n+1,p,q=>p/\abr n p q
theorem apt (a:Nat) (K:VK yu):bo (PC prog gN []) 60 101 [.raw (.pointer (some ⟨a,0,none⟩))] [] [] K=∀id:Nat,abr 9 (Value.map (some id)=.map (some id)) (K (.raw (.map (some id))) [] [⟨id,oC a⟩]):=by kernel_rfl
theorem apu (a:Nat) {ms:List Nat} {w0 w:ae} {B:List ai} (S:St ms w0 B w):aS prog 101 #[.pointer (some ⟨a,0,none⟩)] w λv w1=>∃id,v=.map (some id)/\St ms w0 (⟨id,true,my .i64 (oC a)⟩::B) w1:=by
 have cS:bo (PC prog gN []) 60 101 [.raw (.pointer (some ⟨a,0,none⟩))] [] [] (λv bl ch=>∃id,v=.raw (.map (some id))/\bl=[]/\ch=[⟨id,oC a⟩]):=by
  rw[apt];exact λid=>⟨rfl,rfl,rfl,rfl,rfl,rfl,rfl,rfl,rfl,id,rfl,rfl,rfl⟩
 refine(eG (G:=yu) (aC.nil (P:=prog) (gl:=gN)).T (aC.nil (P:=prog) (gl:=gN)).Q 60 (C:=PC prog gN []) (ids:=[]) (bl:=[]) (ch:=[]) (R:=B) (args:=[.raw (.pointer (some ⟨a,0,none⟩))]) (λg i h=>by cases h) rfl S cS).mono ?_;rintro v w' ⟨x,more,bl',ch',rfl,nF,S2,id,rfl,rfl,rfl⟩;have hm:more=[]:=by cases more with
  |nil=>rfl
  |cons=>simp at nF
 subst hm;exact⟨id,by simp[den],S2⟩
def tm (a:Nat):Nat->Option Nat:=λg=>match gS g with
 |some i=>some i
 |none=>bif aq g a then some 2 else none
theorem apv {a:Nat} {ids:List Nat} (h:Gl (tm a) ids):Gl gS ids:=λg i hi=>h g i (by unfold tm;rw[hi])
theorem abt {a:Nat} {ids:List Nat} (h:Gl (tm a) ids) (ha:gS a=none):2<ids.length/\ids.getD 2 0=a:=h a 2 (by unfold tm;rw[ha];simp)
def Hs (a:Nat):c_ (Sm (Gh fr)):=λargs bl ch K=>match args with
 |[.ptr 2 0]=>gS a=none/\∀id:Nat,K (.raw (.map (some id))) bl (ch++[.m ⟨id,oC a⟩])
 |_=>False
theorem apw (a:Nat):Sound prog (tm a) 101 (Hs (fr:=fr) a):=by
 intro args ids bl ch R ms w0 w K hg hl S hc;unfold Hs at hc;split at hc
 ·obtain⟨ha,hK⟩:=hc;have h2:=(abt hg ha).2;have ea:(aD ids [.ptr 2 0]).toArray=#[.pointer (some ⟨a,0,none⟩)]:=by simp only[aD,den,h2]
  rw[ea];refine(apu a S).mono ?_;rintro v w1 ⟨id,rfl,S1⟩;refine⟨_,[],bl,_,?_,by simpa using hl,?_,hK id⟩
  ·simp[den]
  ·rw[cQ,mD,iI _ ch];have e:ax [(.m ⟨id,oC a⟩:Sm (Gh fr))] R=⟨id,true,my .i64 (oC a)⟩::R:=rfl;rw[e];rw[iI R ch]at S1;refine S1.perm ?_;rw[<-bR,<-bR];exact jH.symm
 ·exact hc.elim
theorem apx (a:Nat):hJ (Hs (fr:=fr) a):=by
 intro args bl ch K h;unfold Hs at h⊢;split at h
 ·exact⟨h.1,λid=>⟨h.2 id,[],by simp⟩⟩
 ·exact h.elim
def rO (f:fc):V:=.an [.fn f [.ptr 2 0] [],.bool true]
def LX (a:Nat):(ba->V)->Op->List VB->List (Sm (Gh fr))->VK (Sm (Gh fr))->Prop:=λe op bl ch K=>match op with
 |.lookup mt m k true=>(match ch,e m,e k with
  |[.g x,.m g],.raw mv,.int .i64 kd=>(match prog.underlying mt with
   |some (.map kt _)=>(match prog.underlying kt with
    |some (.int .i64)=>(mv=.map (some g.id)/\g.tb=oC a/\gS a=none/\3<=kd/\kd<=11)/\
     cond (kd==3) (K (rO 152) bl ch) (cond (kd==4) (K (rO 153) bl ch) (cond (kd==5) (K (rO 154) bl ch) (cond (kd==6) (K (rO 155) bl ch) (cond (kd==7) (K (rO 156) bl ch) (cond (kd==8) (K (rO 157) bl ch) (cond (kd==9) (K (rO 158) bl ch) (K (rO 159) bl ch)))))))
    |_=>False)
   |_=>False)
  |_,_,_=>False)
 |_=>False
theorem abu (a:Nat):fP prog (tm a) (LX (fr:=fr) a):=by
 intro e op ids bl ch R ms w0 w K ρ o hg hl S a9 ho h;unfold LX at h;split at h
 ·rename_i mt m k;split at h
  ·rename_i x g mv kd hm hk;split at h
   ·rename_i kt et hu;split at h
    ·rename_i PB;obtain⟨⟨rfl,TJ,ha,h3,G_⟩,hK⟩:=h;have h2:=(abt hg ha).2;have e0:ax [(.g x:Sm (Gh fr)),.m g] R=Bl.B x++(⟨g.id,true,my .i64 g.tb⟩::R):=rfl;have S':=S;rw[e0,TJ]at S';have aM:=S'.at' (x:=⟨g.id,true,my .i64 (oC a)⟩) (by simp);have run:∀f,(∃j,NF (.int .i64) (.int .i64 kd) (((oC a).zipIdx.map λx=>(⟨.int .i64 x.1.1,x.1.2,x.2⟩:va)).toArray).toList 0=some (some (j,rN a f)))->K (rO f) bl [(.g x:Sm (Gh fr)),.m g]->
      ∃TK more bl' ch' w',((execOp ρ o).run prog w=.ok (.value (den (ids++more) TK)) w'\/((execOp ρ o).run prog w=.ok .skip w'/\TK=fJ))/\(ids++more).length=bl'.length/\St ms w0 (lits (ids++more) (ids++more) bl'++ax ch' R) w'/\K TK bl' ch':=by
      intro f hf hkf;refine⟨rO f,[],bl,_,w,.inl ?_,by simpa using hl,by simpa using S,hkf⟩;have bG:=afO (P:=prog) hu PB aM hf;unfold execOp;simp only[ho,a9,hm,hk,den]at bG⊢;have apy:den ids (rO f)=.tuple #[rN a f,.bool true]:=by simp only[rO,den,aD,h2,rN]
      rw[cQ,apy];simp only[bx,bG,cz,dg]
     have hkd:kd=3\/kd=4\/kd=5\/kd=6\/kd=7\/kd=8\/kd=9\/kd=10\/kd=11:=by omega
     rcases hkd with rfl|rfl|rfl|rfl|rfl|rfl|rfl|rfl|rfl
     ·exact run 152 ⟨0,by kernel_rfl⟩ hK
     ·exact run 153 ⟨1,by kernel_rfl⟩ hK
     ·exact run 154 ⟨2,by kernel_rfl⟩ hK
     ·exact run 155 ⟨3,by kernel_rfl⟩ hK
     ·exact run 156 ⟨4,by kernel_rfl⟩ hK
     ·exact run 157 ⟨5,by kernel_rfl⟩ hK
     ·exact run 158 ⟨6,by kernel_rfl⟩ hK
     ·exact run 159 ⟨7,by kernel_rfl⟩ hK
     ·exact run 159 ⟨8,by kernel_rfl⟩ hK
    ·exact h.elim
   ·exact h.elim
  ·exact h.elim
 ·exact h.elim
def Ht:c_ (Gh fr):=λargs bl ch K=>match args,ch with
 |[.raw vp,.int .u8 kd],g::rest=>vp=eA g.d.k/\K (.bool (decide (0<g.d.k.pn)&&(g.d.k.pf 0==kd))) bl (g::rest)
 |_,_=>False
theorem apz:hJ (Ht (fr:=fr)):=by
 intro args bl ch K h;unfold Ht at h⊢;split at h
 ·exact⟨h.1,h.2,[],by simp⟩
 ·exact h.elim
def Hu:List (bK Empty):=[]
theorem apA (x:Option aO) (c:Nat) (kd:Int) (X:V->Prop):bo (bP (G:=Empty) prog lC Hu) 40 97 [.raw (.slice x 0 c),.int .u8 kd] [] [] (λv _ _=>X v)=X (.bool false):=by kernel_rfl
theorem apB (n c:Nat) (kd:Int) (f:Nat->Int) (t:List ab) (X:V->Prop):bo (bP (G:=Empty) prog lC Hu) 40 97 [.sl 0 0 (n+1) c,.int .u8 kd] [⟨false,⟨5,(0,0)⟩,[.bJ .u8 (n+1) f,.rest t]⟩] [] (λv _ _=>X v)=cond (decide (((n+1:Nat):Int)>0)) (X (.bool (f 0==kd))) (X (.bool false)):=by kernel_rfl
theorem LY:aC (G:=Empty) prog lC Hu:=aC.nil
theorem apC:Sound prog gS 97 (Ht (fr:=fr)):=by
 intro args ids bl ch R ms w0 w K hg hl S hc;unfold Ht at hc;split at hc
 ·rename_i vp kd g rest;obtain⟨rfl,hK⟩:=hc;have e0:ax (g::rest) R=g.F.B++ax rest R:=rfl;have S':=S;rw[e0]at S';have main:aS prog 97 #[eA g.d.k,.int .u8 kd] w λv w1=>v=.bool (decide (0<g.d.k.pn)&&(g.d.k.pf 0==kd))/\Ch [] w w1:=by
   rcases u6 g.d.k.pn with hz|AS
   ·have ep:eA g.d.k=.slice g.d.k.px 0 g.d.k.pc:=by unfold eA;rw[hz]
    rw[ep];refine(eG (G:=Empty) LY.T LY.Q 40 (C:=bP prog lC Hu) (ids:=[]) (bl:=[]) (ch:=[]) (R:=[]) (ms:=[]) (w0:=w) (args:=[.raw (.slice g.d.k.px 0 g.d.k.pc),.int .u8 kd]) (λg i h=>by cases h) rfl (St.nil [] w) (K:=λv _ _=>v=.bool false) (f:=97) (by rw[apA])).mono ?_;rintro v w' ⟨x,more,bl',ch',rfl,nF,S2,rfl⟩;exact⟨by simp[den,hz],S2.ch⟩
   ·obtain⟨bp,t,X,hx,hle,hB⟩:=abo g.F AS;rw[hB]at S';have aM:=S'.at' (x:=⟨bp,true,.cells (ah [] (eM g.d.k.pn g.d.k.pf t).c).toArray 5 (0,0)⟩) (by simp);obtain⟨n,hn⟩:∃n,g.d.k.pn=n+1:=⟨g.d.k.pn-1,by omega⟩;have ep:eA g.d.k=.slice (some ⟨bp,0,none⟩) (n+1) g.d.k.pc:=by unfold eA;rw[hx,hn]
    rw[ep];rw[hn]at aM;have S0:=St.given (w:=w) [(bp,.cells (ah [] (eM (n+1) g.d.k.pf t).c).toArray 5 (0,0))] (all_cons aM all_nil);have S1:St [] w (lits [bp] [bp] [⟨false,⟨5,(0,0)⟩,[.bJ .u8 (n+1) g.d.k.pf,.rest t]⟩]++ax ([]:List Empty) []) w:=by
     simpa[lits,az,ah,cl,ax,eM]using S0
    refine(eG (G:=Empty) LY.T LY.Q 40 (C:=bP prog lC Hu) (args:=[.sl 0 0 (n+1) g.d.k.pc,.int .u8 kd]) (λg i h=>by cases h) rfl S1 (K:=λv _ _=>v=.bool (g.d.k.pf 0==kd)) (f:=97) (by rw[apB];exact aI (λ_=>rfl) (λe=>by have:=of_decide_eq_false e;omega))).mono ?_;rintro v w' ⟨x,more,bl',ch',rfl,nF,S2,rfl⟩;refine⟨?_,S2.ch⟩;have:decide (0<g.d.k.pn)=true:=by simp[AS]
    simp[den,this]
  have ea:(aD ids [.raw (eA g.d.k),.int .u8 kd]).toArray=#[eA g.d.k,.int .u8 kd]:=rfl;rw[ea];refine main.mono ?_;rintro v w1 ⟨rfl,cn⟩;exact⟨_,[],bl,g::rest,by simp only[den],by simpa using hl,by simpa using S.quiet cn,hK⟩
 ·exact hc.elim
def TM (C:Sd.aL):c_ (Gh fr):=λargs bl ch K=>match args,ch with
 |[.ptr it 0,.int .i64 l,.raw vp],g::rest=>(match bl[it]?with
  |some ⟨true,⟨157,(0,0)⟩,tc⟩=>(match s7 tc with
   |some y=>cond (!(aq it 0)) ((vp=eA g.d.k/\bl[0]?=some (b9 g.d.k)/\g.d.k.pn<=58/\By g.d.k.pf/\(1<=l/\l<=3)/\(0<=y.b/\y.b<=1000)/\(∀i,i<3->((bS y).aj i).on=true->0<=((bS y).aj i).seen.high/\((bS y).aj i).seen.high<=4294967295))/\
    (Sd.aA.take C (pY y.b y.m) (bS y) l g.d.k.pn g.d.k.pf=(bS y,.error 16)->K (gn 16) bl ch)/\
    (Sd.aA.take C (pY y.b y.m) (bS y) l g.d.k.pn g.d.k.pf=(bS y,.error 14)->K (gn 14) bl ch)/\
    (Sd.aA.take C (pY y.b y.m) (bS y) l g.d.k.pn g.d.k.pf=(bS y,.error 13)->K (gn 13) bl ch)/\
    (Sd.aA.take C (pY y.b y.m) (bS y) l g.d.k.pn g.d.k.pf=(bS y,.error 15)->K (gn 15) bl ch)/\
    (∀t' m,Sd.aA.take C (pY y.b y.m) (bS y) l g.d.k.pn g.d.k.pf=(t',.ok m)->K (.an [.agg (cI m),.int .i64 0]) (bl.set it ⟨true,⟨157,(0,0)⟩,db (Bw t' y.b y.m)⟩) ch)) False
   |none=>False)
  |_=>False)
 |_,_=>False
theorem Rh {C:Sd.aL} {p:Sd.aN} {t t':Sd.aA} {l:Int} {n:Nat} {f:Nat->Int} {e:Int} (h:Sd.aA.take C p t l n f=(t',.error e)):e=16\/e=14\/e=13\/e=15:=by
 unfold Sd.aA.take at h
 repeat' split at h
 all_goals first|(cases h;done)|(obtain⟨_,h2⟩:=Cj h;cases h2;simp)
theorem apD:Sound prog gS 100 (TM (fr:=fr) (aJ aH)):=by
 intro args ids bl ch R ms w0 w K hg hl S hc;refine apr args ids bl ch R ms w0 w K hg hl S ?_;unfold TM at hc;unfold TE;split at hc
 ·rename_i it l vp g rest;split at hc
  ·rename_i tc hb;try simp only[hb]
   split at hc
   ·rename_i y hy;try simp only[hy]
    cases hq:!(aq it 0)with
    |false=>rw[hq]at hc;exact hc.elim
    |true=>
     rw[hq]at hc;obtain⟨hp,SW,Ha,SV,DL,hok⟩:=hc;refine⟨hp,λe he=>?_,hok⟩;rcases Rh he with rfl|rfl|rfl|rfl
     ·exact SW he
     ·exact Ha he
     ·exact SV he
     ·exact DL he
   ·exact hc.elim
  ·exact hc.elim
 ·exact hc.elim
def LIg (fr:Sd.aE->Nat×Sd.av) (C:Sd.aL):List (bK (Gh fr)):=⟨98,false,gF (DP C)⟩::⟨99,false,gF (Hp C)⟩::⟨100,false,TM C⟩::⟨97,true,Ht⟩::⟨152,false,gF (iV λs l m=>s.done l m.seq)⟩::⟨153,false,gF (iV λs l m=>s.Ao C l m)⟩::⟨154,false,gF (iV λs l m=>s.ask C l m)⟩::
 ⟨155,false,gF (iV λs l m=>s.offer C l m)⟩::⟨156,false,gF (iV λs l m=>s.accept C l m)⟩::⟨157,false,gF (iV λs l m=>s.fy C l m)⟩::⟨158,false,gF (iV λs l m=>s.release C l m)⟩::⟨159,false,gF (Hb C)⟩::L8 fr C
theorem apE (ht:Body (fr:=fr) 147 dI):aC prog gS (LIg fr (aJ aH)):=
 aC.cons (iC (aoQ ht)) (aC.cons (iC (apd ht)) (aC.cons ⟨apD,λe=>by cases e⟩ (aC.cons ⟨apC,λ_=>apz⟩ (aC.cons (iC (anm aH ht)) (aC.cons (iC (an9 aH ht)) (aC.cons (iC (anr aH ht)) (aC.cons (iC (anp aH ht)) (aC.cons (iC (ann aH ht)) (aC.cons (iC (ano aH ht)) (aC.cons (iC (anq aH ht)) (aC.cons (iC (an_ aH ht)) (DN aH ht))))))))))))
def LI (fr:Sd.aE->Nat×Sd.av) (a:Nat) (C:Sd.aL):List (bK (Sm (Gh fr))):=⟨101,true,Hs a⟩::PD (LIg fr C)
theorem apF (a:Nat) (ht:Body (fr:=fr) 147 dI):aC prog (tm a) (LI fr a (aJ aH)):=aC.cons ⟨apw a,λ_=>apx a⟩ (Ye (λids h=>apv h) (apE ht))
def TN (k:LK) (s:Sd.aa) (Kb:SK fr k):V->List VB->List (Sm (Gh fr))->Prop:=λv bl ch=>∃s' F' r,cK 0 v=true/\s'.c.p=s.c.p/\Kb v s' F'/\bl.take 5=bz k s' F'/\ch=.g (a_ k s' F')::r
section
variable(a:Nat) (C:Sd.aL) (k:LK) (s:Sd.aa) (F:aW fr (aR k s)) (Kb:SK fr k) (l code:Int)
def zd (r:List (Sm (Gh fr))) (s':Sd.aa) (F':aW fr (aR k s')):Prop:=TN k s Kb (.an []) (bz k s' F') (.g (a_ k s' F')::r)
def Hv (e:Int):Prop:=Sd.aA.take C (pY s.c.p.bW s.c.p.d_) (eB s.c.ag) l k.pn k.pf=(eB s.c.ag,.error e)->cv k s F/\qe C [.int .i64 l,.int .i64 e] k (bQ s) F λv s' F'=>zd k s Kb [] s' F'
def wZ (M:SM fr) (t':Sd.aA) (m:Sd.aY) (id:Nat):Prop:=cv k s F/\M [.int .i64 l,.agg (cI m)] k (tf s t') F λv s' F'=>zd k s Kb [.m ⟨id,oC a⟩] s' F'
def itO (t':Sd.aA) (m:Sd.aY):Prop:=gS a=none/\∀id:Nat,(Value.map (some id)=.map (some id)/\oC a=oC a/\gS a=none/\3<=m.kind/\m.kind<=11)/\
 cond (m.kind==3) (wZ a k s F Kb l (iV λs l m=>s.done l m.seq) t' m id) (cond (m.kind==4) (wZ a k s F Kb l (iV λs l m=>s.Ao C l m) t' m id) (cond (m.kind==5) (wZ a k s F Kb l (iV λs l m=>s.ask C l m) t' m id) (cond (m.kind==6) (wZ a k s F Kb l (iV λs l m=>s.offer C l m) t' m id)
 (cond (m.kind==7) (wZ a k s F Kb l (iV λs l m=>s.accept C l m) t' m id) (cond (m.kind==8) (wZ a k s F Kb l (iV λs l m=>s.fy C l m) t' m id) (cond (m.kind==9) (wZ a k s F Kb l (iV λs l m=>s.release C l m) t' m id) (wZ a k s F Kb l (Hb C) t' m id)))))))
def TO:Prop:=
 cond (code !=0) (cv k s F/\qe C [.int .i64 l,.int .i64 code] k (bQ s) F λv s' F'=>zd k s Kb [] s' F')
 (eA k=eA k/\cond (decide (0<k.pn)&&(k.pf 0==1)) (cv k s F/\DP C [.int .i64 l,.raw (eA k)] k (bQ s) F λv s' F'=>zd k s Kb [] s' F')
 (eA k=eA k/\cond (decide (0<k.pn)&&(k.pf 0==2)) (cv k s F/\Hp C [.int .i64 l,.raw (eA k)] k (bQ s) F λv s' F'=>zd k s Kb [] s' F')
 ((eA k=eA k/\some (b9 k)=some (b9 k)/\k.pn<=58/\By k.pf/\(1<=l/\l<=3)/\(0<=s.c.p.bW/\s.c.p.bW<=1000)/\(∀i,i<3->((bS (uz s)).aj i).on=true->0<=((bS (uz s)).aj i).seen.high/\((bS (uz s)).aj i).seen.high<=4294967295))/\
   Hv C k s F Kb l 16/\Hv C k s F Kb l 14/\Hv C k s F Kb l 13/\Hv C k s F Kb l 15/\∀t' m,Sd.aA.take C (pY s.c.p.bW s.c.p.d_) (eB s.c.ag) l k.pn k.pf=(t',.ok m)->itO a C k s F Kb l t' m)))
theorem apG:bo (fA prog (tm a) (LI fr a C) (LX a) (abu a)) 90 56 [.ptr 2 0,.int .i64 l,.agg [.int .i64 code,.raw (eA k)]] (bz k s F) [.g (a_ k s F)] (TN k s Kb)=TO a C k s F Kb l code:=by kernel_rfl
end
theorem apH {w:Sd.gx} {n:Int} (h:0<=w.high/\w.high<=4294967295) (hn:0<=n/\n<=4294967295):0<=(dM w n).high/\(dM w n).high<=4294967295:=by
 unfold dM
 repeat' split
 all_goals first|exact hn|exact h
theorem abv (H:Nat->Int):By (yx H):=by
 intro j;have hw:∀n:Int,0<=u8.wrap n/\u8.wrap n<=255:=by intro n;simp[xw,tI,tJ];omega
 unfold yx;split<;>exact hw _
theorem apI (n:Nat) (f:Nat->Int):By (iP n f):=by
 unfold iP;cases bu n 55
 ·exact abv _
 ·exact abv _
theorem DS:Sd.GG (aJ aH):=⟨λk s n j=>by
 show 0<=jk k.1 k.2 s n j/\jk k.1 k.2 s n j<=255;unfold jk fm;exact apI _ _ j,λn f m h=>To h,λw n h1 h2=>apH h1 h2⟩
structure DU (k:LK) (s:Sd.aa) (l:Int):Prop where
 r:Rm s 8
 i:Sd.Inv s.c
 lo:1<=l/\l<=3
 d:∀i,i<3->(s.c.doors i).many<=9223372036854775807
 key:∀i,i<4->1<=k.kn i/\k.kn i<=64
 ke:∀i,i<4->s.c.p.k i=(k.kn i,k.kf i)
 kj:k.pn<=58/\By k.pf
def Hw (C:Sd.aL):SM fr:=λar k s F K=>match ar with
 |[.int .i64 l,.agg [.int .i64 code,.raw vp]]=>(vp=eA k/\DU k s l)/\∀F',K (.an []) (s.item C l code k.pn k.pf) F'
 |_=>False
theorem DU.om {k:LK} {s:Sd.aa} {l:Int} (h:DU k s l):Th k s l:=⟨h.r,λi hi=>⟨h.i.doors i hi,h.d i hi⟩,h.key 3 (by decide),h.ke 3 (by decide),⟨by have:=h.kj.1;omega,h.kj.2⟩,h.lo⟩
theorem DU.prv {k:LK} {s:Sd.aa} {l:Int} (h:DU k s l):LF k s l:=⟨h.r,h.lo,h.key _ (by have:=h.lo;omega),h.ke _ (by have:=h.lo;omega),by have:=h.i.p.bW;omega,h.i.tok.ay,h.i.kF⟩
theorem abw (C:Sd.aL) (s:Sd.aa) (l:Int) (n:Nat) (f:Nat->Int) (hl:1<=l/\l<=3):
 (∃e,Sd.aA.take C (pY s.c.p.bW s.c.p.d_) (eB s.c.ag) l n f=(eB s.c.ag,.error e)/\Sd.aA.take C s.c.p s.c.ag l n f=(s.c.ag,.error e))\/
 (∃m E t,Sd.aA.take C (pY s.c.p.bW s.c.p.d_) (eB s.c.ag) l n f=(E,.ok m)/\Sd.aA.take C s.c.p s.c.ag l n f=(t,.ok m)/\tf s E=k9 s t):=by
 have LV:(eB s.c.ag).aj (l.toNat-1)=s.c.ag.aj (l.toNat-1):=by
  have:l=1\/l=2\/l=3:=by omega
  rcases this with rfl|rfl|rfl<;>rfl
 have hb:(pY s.c.p.bW s.c.p.d_).bW=s.c.p.bW:=rfl;unfold Sd.aA.take;rw[G1,LV,hb];by_cases h1:s.c.ag.de l=false
 ·rw[if_pos h1,if_pos h1];exact .inl ⟨16,rfl,rfl⟩
 rw[if_neg h1,if_neg h1];by_cases h2:n<8\/C.opens (s.c.ag.aj (l.toNat-1)).key l n f=false
 ·rw[if_pos h2,if_pos h2];exact .inl ⟨14,rfl,rfl⟩
 rw[if_neg h2,if_neg h2];cases C.take (n-8) f with
 |none=>exact .inl ⟨13,rfl,rfl⟩
 |some m=>
  simp only;by_cases h3:m.kind=1\/m.kind=2
  ·rw[if_pos h3,if_pos h3];exact .inl ⟨13,rfl,rfl⟩
  rw[if_neg h3,if_neg h3];by_cases h4:C.eh (s.c.ag.aj (l.toNat-1)).seen m.seq=(s.c.ag.aj (l.toNat-1)).seen
  ·rw[if_pos h4,if_pos h4];exact .inl ⟨15,rfl,rfl⟩
  rw[if_neg h4,if_neg h4];refine .inr ⟨m,_,_,rfl,rfl,Ls rfl (λj hj=>?_) (λj=>?_)⟩
  ·simp only[Sd.aA.ei];split
   ·rfl
   ·have:j=0\/j=1\/j=2:=by omega
    rcases this with rfl|rfl|rfl<;>rfl
  ·simp only[Sd.aA.ei];rw[if_neg (by omega)]
theorem TP {C:Sd.aL} {b:Prop} {s s':Sd.aa} {kd l:Int} (h:Sd.fb C b s s' kd l):s'.c.p=s.c.p:=by
 rcases h.A5 with q|⟨how,g,_⟩
 ·exact q.p
 ·exact g.p
theorem apJ {a:Nat} {k:LK} {s:Sd.aa} {F:aW fr (aR k s)} {Kb:SK fr k} {l code:Int} (ha:gS a=none) (hq:s.c.p.queue=k.most) (hP:DU k s l) (hK:∀F',Kb (.an []) (s.item (aJ aH) l code k.pn k.pf) F'):TO a (aJ aH) k s F Kb l code:=by
 have leaf:∀(r:List (Sm (Gh fr))) (s':Sd.aa) (F':aW fr (aR k s')),s'=s.item (aJ aH) l code k.pn k.pf->s'.c.p=s.c.p->zd k s Kb r s' F':=by
  intro r s' F' e hp;subst e;exact⟨_,F',r,rfl,hp,hK F',rfl,rfl⟩
 have LZ:∀e,code=0->¬(0<k.pn/\k.pf 0=1)->¬(0<k.pn/\k.pf 0=2)->Hv (aJ aH) k s F Kb l e:=by
  intro e hc h1 h2 he;refine⟨cy hq,G4 (hP.r.r1) λF1=>leaf _ _ F1 ?_ rfl⟩;unfold Sd.aa.item;rw[if_neg (by simp[hc]),if_neg h1,if_neg h2];rcases abw (aJ aH) s l k.pn k.pf hP.lo with⟨e',h3,h4⟩|⟨m,E,t,h3,_,_⟩
  ·rw[h4];rw[h3]at he;have:=(Cj he).2;cases this;rfl
  ·rw[h3]at he;have:=(Cj he).2;cases this
 unfold TO;refine aI (λe=>⟨cy hq,G4 hP.r.r1 λF1=>leaf _ _ F1 ?_ rfl⟩) (λe=>⟨rfl,aI (λe1=>⟨cy hq,nI (M:=DP (aJ aH)) ⟨⟨rfl,hP.om⟩,λF1=>leaf _ _ F1 ?_ ?_⟩⟩) (λe1=>⟨rfl,aI (λe2=>⟨cy hq,nI (M:=Hp (aJ aH)) ⟨⟨rfl,hP.prv,hP.kj.2⟩,λF1=>leaf _ _ F1 ?_ ?_⟩⟩) (λe2=>?_)⟩)⟩)
 ·unfold Sd.aa.item;rw[if_pos (by simpa using e)]
 ·unfold Sd.aa.item;rw[if_neg (by simpa using e),if_pos (by simpa using e1)]
 ·exact TP (b:=False) (Sd.aae DS hP.i hP.lo)
 ·unfold Sd.aa.item;rw[if_neg (by simpa using e),if_neg (by simpa using e1),if_pos (by simpa using e2)]
 ·exact TP (b:=False) (Sd.aaf DS hP.i hP.lo)
 ·have hc:code=0:=by simpa using e
  have n1:¬(0<k.pn/\k.pf 0=1):=by simpa using e1
  have n2:¬(0<k.pn/\k.pf 0=2):=by simpa using e2
  refine⟨⟨rfl,rfl,hP.kj.1,hP.kj.2,hP.lo,by have:=hP.i.p.bW;omega,λi hi iT=>?_⟩,LZ 16 hc n1 n2,LZ 14 hc n1 n2,LZ 13 hc n1 n2,LZ 15 hc n1 n2,λt' m ht=>⟨ha,λid=>?_⟩⟩
  ·have hs:(bS (uz s)).aj i=s.c.ag.aj i:=by
    have:i=0\/i=1\/i=2:=by omega
    rcases this with rfl|rfl|rfl<;>rfl
   rw[hs]at iT⊢;have:=hP.i.ag.aj i hi iT;exact⟨this.2.2.2.2.2.1,this.2.2.2.2.2.2⟩
  ·rcases abw (aJ aH) s l k.pn k.pf hP.lo with⟨e',h3,h4⟩|⟨m',E,t,h3,h4,h5⟩
   ·rw[h3]at ht;have:=(Cj ht).2;cases this
   ·rw[h3]at ht;obtain⟨rfl,hm⟩:=Cj ht;cases hm;obtain⟨g1,g2,g3,g4,g5⟩:=Sd.aag DS h4;have hkd:=g2.kind;have abq:=hP.i.p.bW;have KC:s.c.ag.on l=true:=by rw[Sd.Ri hP.lo];exact g1
    have iT:(s.c.ag.aj (l.toNat-1)).on=true:=by unfold Sd.aA.de at g1;simp at g1;exact g1.2
    have i1:Sd.Inv (k9 s t).c:=by
     have:=hP.i.ei (i:=l.toNat-1) (x:={(s.c.ag.aj (l.toNat-1))with seen:=(aJ aH).eh (s.c.ag.aj (l.toNat-1)).seen m.seq,on:=true,eL:=.start s.c.p.bW}) rfl
      (by
       have:=hP.i.ag.aj (l.toNat-1) (by have:=hP.lo;omega) iT;have h9:=DS.eh (s.c.ag.aj (l.toNat-1)).seen m.seq ⟨by omega,by omega⟩ g2.seq;simp[Sd.Timer.start];omega)
     rw[<-g5]at this;exact this
    have hS:Sy (k9 s t) l m:=⟨hP.r,i1,g2.seq,hP.lo.1,hP.lo.2⟩;have apL:(k9 s t).c.ag.on l=true:=by
     show t.on l=true;rw[g5];exact Sd.KB KC rfl
    have sZ:s.item (aJ aH) l code k.pn k.pf=(k9 s t).jh (aJ aH) l m:=by
     unfold Sd.aa.item;rw[if_neg (by simp[hc]),if_neg n1,if_neg n2,h4];rfl
    have abx:((k9 s t).jh (aJ aH) l m).c.p=s.c.p:=(TP (C:=aJ aH) (b:=False) (Sd.aah i1 hP.lo g2 apL g3 g4)).trans rfl;have go:∀(act:Sd.aa->Int->Sd.aY->Sd.aa),act (k9 s t) l m=(k9 s t).jh (aJ aH) l m->wZ a k s F Kb l (iV act) E m id:=by
     intro act Hx;refine⟨cy hq,Bh (M:=λs' F'=>iV act [.int .i64 l,.agg (cI m)] k s' F' λv s' F'=>zd k s Kb [.m ⟨id,oC a⟩] s' F') h5 F ?_⟩;exact⟨hS,λF1=>leaf _ _ F1 (by rw[sZ,Hx]) (by rw[Hx];exact abx)⟩
    refine⟨⟨rfl,rfl,ha,by omega,by omega⟩,?_⟩;have sy:∀j:Int,m.kind=j->(k9 s t).jh (aJ aH) l m=(k9 s t).jh (aJ aH) l m:=λ_ _=>rfl;refine aI (λe=>go _ ?_) (λx3=>aI (λe=>go _ ?_) (λx4=>aI (λe=>go _ ?_) (λx5=>aI (λe=>go _ ?_) (λx6=>aI (λe=>go _ ?_) (λx7=>aI (λe=>go _ ?_) (λx8=>aI (λe=>go _ ?_) (λx9=>?_)))))))
    ·unfold Sd.aa.jh;rw[if_pos (by simpa using e)]
    ·unfold Sd.aa.jh;rw[if_neg (by simpa using x3),if_pos (by simpa using e)]
    ·unfold Sd.aa.jh;rw[if_neg (by simpa using x3),if_neg (by simpa using x4),if_pos (by simpa using e)]
    ·unfold Sd.aa.jh;rw[if_neg (by simpa using x3),if_neg (by simpa using x4),if_neg (by simpa using x5),if_pos (by simpa using e)]
    ·unfold Sd.aa.jh;rw[if_neg (by simpa using x3),if_neg (by simpa using x4),if_neg (by simpa using x5),if_neg (by simpa using x6),if_pos (by simpa using e)]
    ·unfold Sd.aa.jh;rw[if_neg (by simpa using x3),if_neg (by simpa using x4),if_neg (by simpa using x5),if_neg (by simpa using x6),if_neg (by simpa using x7),if_pos (by simpa using e)]
    ·unfold Sd.aa.jh;rw[if_neg (by simpa using x3),if_neg (by simpa using x4),if_neg (by simpa using x5),if_neg (by simpa using x6),if_neg (by simpa using x7),if_neg (by simpa using x8),if_pos (by simpa using e)]
    ·have Lq:m.kind=10\/m.kind=11:=by simp at x3 x4 x5 x6 x7 x8 x9;omega
     have Hx:(k9 s t).command (aJ aH) l m=(k9 s t).jh (aJ aH) l m:=by
      unfold Sd.aa.jh;rw[if_neg (by simpa using x3),if_neg (by simpa using x4),if_neg (by simpa using x5),if_neg (by simpa using x6),if_neg (by simpa using x7),if_neg (by simpa using x8),if_neg (by simpa using x9),if_pos Lq]
     refine⟨cy hq,Bh (M:=λs' F'=>Hb (aJ aH) [.int .i64 l,.agg (cI m)] k s' F' λv s' F'=>zd k s Kb [.m ⟨id,oC a⟩] s' F') h5 F ?_⟩;exact⟨⟨hS,Lq⟩,λF1=>leaf _ _ F1 (by rw[sZ,Hx]) (by rw[Hx];exact abx)⟩
theorem apM (ht:Body (fr:=fr) 147 dI):Body (fr:=fr) 56 (Hw (aJ aH)):=by
 intro ar k s F Kb a b c R ms w0 w h0 hq hM S;unfold Hw at hM;split at hM
 ·rename_i l code vp;obtain⟨⟨rfl,hP⟩,hK⟩:=hM;have apN:bN a b c=[1,0,a,b,c]:=rfl;have ha:gS a=none:=by
   have h1:(lits (bN a b c) (bN a b c) (bz k s F)++(F.B++R))[0]?=some (az (bN a b c) 1 (b9 k)):=rfl;have h2:(lits (bN a b c) (bN a b c) (bz k s F)++(F.B++R))[1]?=some (az (bN a b c) 0 (iB k)):=rfl;have h3:(lits (bN a b c) (bN a b c) (bz k s F)++(F.B++R))[2]?=some (az (bN a b c) a (s8 3 F)):=rfl;have n0:a≠1:=S.apart 2 0 _ _ h3 h1 (by decide) rfl;have n2:a≠0:=S.apart 2 1 _ _ h3 h2 (by decide) rfl;unfold gS;split
   ·exact absurd rfl n0
   ·exact absurd rfl n2
   ·rfl
  have hg:Gl (tm a) (bN a b c):=by
   intro g i dz;unfold tm at dz;split at dz
   ·rename_i j hj;obtain rfl:=cA dz;have:=abl a b c [] g j hj;simpa using this
   ·cases hb:aq g a with
    |false=>rw[hb]at dz;cases dz
    |true=>
     rw[hb]at dz;obtain rfl:=cA dz;obtain rfl:=ck hb;exact⟨by simp[apN],rfl⟩
  have S1:St ms w0 (lits (bN a b c) (bN a b c) (bz k s F)++ax [(.g (a_ k s F):Sm (Gh fr))] R) w:=S;have hL:=apF (fr:=fr) a ht;refine(eG (G:=Sm (Gh fr)) hL.T hL.Q 90 (C:=fA prog (tm a) (LI fr a (aJ aH)) (LX a) (abu a)) (f:=56) (args:=[.ptr 2 0,.int .i64 l,.agg [.int .i64 code,.raw (eA k)]]) (K:=TN k s Kb) hg rfl S1 (by
   rw[apG];exact apJ ha hq hP hK)).mono ?_
  rintro v w' ⟨x,more,bl',ch',rfl,h1,S',s',F',r,hv,hp,Tw,hb,rfl⟩;have ev:den (bN a b c++more) x=den [] x:=by have:=fI (ids:=[]) (more:=bN a b c++more) x hv;simpa using this
  refine⟨x,s',F',ev,hv,hp,Tw,?_⟩;have nH:bl'=bz k s' F'++bl'.drop 5:=by rw[<-hb,jv]
  rw[nH]at S';have e2:lits (bN a b c++more) (bN a b c++more) (bz k s' F'++bl'.drop 5)=lits (bN a b c) (bN a b c) (bz k s' F')++lits (bN a b c++more) more (bl'.drop 5):=by
   rw[eZ _ _ _ _ rfl,e_ (ids:=bN a b c) (more:=more) (bN a b c) (bz k s' F') rfl]
  rw[e2]at S';have e3:ax (.g (a_ k s' F')::r:List (Sm (Gh fr))) R=F'.B++ax r R:=rfl;rw[e3,iI R r]at S';refine S'.sub ?_;rw[bR];refine zO ?_ _;refine List.Sublist.trans ?_ (oT _ _);exact zO (oT _ _) _
 ·exact hM.elim
end
section
open Go Go.RowKit Go.BigFrame Sx Vx
variable{fr:Sd.aE->Nat×Sd.av}
structure gH (c:Sd.Core):Prop where
 p:Sd.eO c.p
 t:TB c.t
 o1:b_ c.t.oa.n
 o2:b_ c.t.oa.most
 l1:b_ c.t.la.n
 l2:b_ c.t.la.most
 vZ:c.t.offer<=4
 q:∀a∈c.q,N4 a.source/\b_ a.gj.n/\b_ a.gj.most
 pt:PtB c.pt
theorem b0:b_ 0:=⟨by decide,by decide⟩
theorem apO {n m:Int} (h1:b_ n) (h2:b_ m):b_ (Sd.sat n m):=by
 obtain⟨a,b⟩:=h1;obtain⟨c,d⟩:=h2;unfold Sd.sat;split
 ·exact⟨by omega,by omega⟩
 ·exact⟨c,d⟩
theorem gH.tok {c:Sd.Core} (h:gH c) {t:Sd.Tok} (ht:TB t) (o1:b_ t.oa.n) (o2:b_ t.oa.most) (vZ:t.offer<=4) (hl:t.la=c.t.la):gH {c with t:=t}:=⟨h.p,ht,o1,o2,hl▸h.l1,hl▸h.l2,vZ,h.q,h.pt⟩
theorem gH.drop {c:Sd.Core} (h:gH c) (l:Int):gH {c with t:=(c.t.drop l).1}:=by
 unfold Sd.Tok.drop;split
 ·exact h
 ·exact h.tok ⟨h.t.h,h.t.e⟩ b0 b0 (by simp[Sd.Tok.ir]) rfl
theorem gH.tick {c:Sd.Core} (h:gH c):gH {c with t:=c.t.tick.1}/\c.t.tick.2<=4:=by
 unfold Sd.Tok.tick;split
 ·exact⟨h,by simp⟩
 ·split
  ·exact⟨h.tok ⟨h.t.h,h.t.e⟩ b0 b0 (by simp[Sd.Tok.ir]) rfl,h.vZ⟩
  ·exact⟨h.tok ⟨h.t.h,h.t.e⟩ (apO h.o1 h.o2) h.o2 h.vZ rfl,by simp⟩
theorem gH.qs {c:Sd.Core} (h:gH c) {q:List Sd.Ask} (hq:∀a∈q,N4 a.source/\b_ a.gj.n/\b_ a.gj.most):gH {c with q:=q}:=⟨h.p,h.t,h.o1,h.o2,h.l1,h.l2,h.vZ,hq,h.pt⟩
theorem gH.head {c:Sd.Core} (h:gH c) (x:Sd.av):gH {c with head:=x}:=⟨h.p,h.t,h.o1,h.o2,h.l1,h.l2,h.vZ,h.q,h.pt⟩
theorem gH.TQ {s:Sd.aa} (h:gH s.c) (C:Sd.aL) (a b c d e:Int):gH (s.record C a b c d e).c:=h.head _
theorem gH.gone {s:Sd.aa} (h:gH s.c) (l w c:Int):gH (s.gone l w c).c:=by rw[pV];exact h
theorem gH.leave {s:Sd.aa} (h:gH s.c) (C:Sd.aL) (l:Int):gH (s.leave C l).c:=by
 have h1:gH (qd s l).c:=h.qs λa ha=>h.q a (List.mem_filter.1 ha).1;rw[SY];split
 ·exact h1
 ·exact((show gH (iD (qd s l) (s.c.t.drop l).1).c from h1.drop l).gone _ _ _).TQ _ _ _ _ _ _
def apP (C:Sd.aL) (s:Sd.aa) (a:Sd.Ask):Sd.aa:=(s.gone a.source a.source 30).record C 12 a.source 0 30 0
def BF (C:Sd.aL) (s:Sd.aa) (x:Int):Sd.aa:=if Sd.linked x then(s.record C 5 x 0 0 0).leave C x else s.record C 5 x 0 0 0
def apQ (C:Sd.aL) (s:Sd.aa):Sd.aa:=if 0<=s.c.t.tick.2 then((iD s s.c.t.tick.1).gone s.c.t.tick.1.ay s.c.t.tick.2 30).record C 12 s.c.t.tick.2 0 30 0 else iD s s.c.t.tick.1
section
variable{tk:Nat->Sd.av->Option Sd.aY} {k:LK} {s0:Sd.aa} {Kb:SK fr k}
theorem gH.BF {s:Sd.aa} (h:gH s.c) (C:Sd.aL) (x:Int):gH (BF C s x).c:=by
 unfold Go.Proofs.YtggfpcggakghnaaGreatDoor.BF;split
 ·exact(h.TQ C _ _ _ _ _).leave C x
 ·exact h.TQ C _ _ _ _ _
theorem Rm.BF {C:Sd.aL} {s:Sd.aa} {x:Int} {n:Nat} (h:Rm s (n+3)):Rm (BF C s x) n:=by
 unfold Go.Proofs.YtggfpcggakghnaaGreatDoor.BF;have h1:Rm (s.record C 5 x 0 0 0) (n+2):=Rm.rec h;split
 ·exact h1.leave
 ·exact h1.le (by omega)
end
def Hi (s:Sd.aa):Prop:=∀j,(s.c.ag.aj (j+3)).on=false
def TT (C:Sd.aL) (s:Sd.aa):Sd.aa:=apQ C (s.c.ag.ended.foldl (BF C) (k9 s s.c.ag.tick))
theorem TU (C:Sd.aL) (s:Sd.aa):s.tick C=aoN (((Sd.Q.gone (TT C s).c.q).foldl (apP C) (cT (TT C s) (Sd.Q.kept (TT C s).c.q))).dU C):=by kernel_rfl
structure TkP (s:Sd.aa):Prop where
 c:gH s.c
 r:Rm s 28
 h:Hi s
 b:TB3 s.c.ag
def cO:ab:=.slice none 0 0
def cP (k:LK) (s:Sd.aa):List VB:=[b9 k,iB k,gL k 3 s,gE s]
def L9 (k:LK) (s:Sd.aa) (F:aW fr (aR k s)):Prop:=cO=F.vs/\cO=F.vr/\some (b9 k)=some (b9 k)/\some (iB k)=some (iB k)/\lG k 3 s=lG k 3 (bQ s)/\s.c.p.bW=s.c.p.bW/\s.c.p.d_=s.c.p.d_/\s.c.p.queue=k.most
def Hy (s:Sd.aa) (vs vr:ab):List V:=[.int .i64 s.c.mode,.int .i64 s.c.pt.cls,.int .i64 s.c.pt.now.a,.int .i64 s.c.pt.now.b,.int .i64 s.c.pt.now.c,.int .i64 s.c.pt.now.d,.int .i64 s.c.ff.mz,.int .i64 s.c.ff.source,.int .i64 s.c.ff.seq,
 .int .i64 s.c.pt.bI.mz,.int .i64 s.c.pt.bI.source,.int .i64 s.c.pt.bI.seq,.raw vs,.raw vr,.bJ .u8 32 s.c.head]
def BG (k:LK) (s:Sd.aa) (Kb:(s':Sd.aa)->aW fr (aR k s')->Prop):VK (Gh fr):=λv bl ch=>∃(s':Sd.aa) (F':aW fr (aR k s')),v=.agg (Hy s' F'.vs F'.vr)/\bl.take 4=cP k s'/\ch=[a_ k s' F']/\Kb s' F'
def LCs (fr:Sd.aE->Nat×Sd.av) (C:Sd.aL):List (bK (Gh fr)):=[⟨50,false,gF (Hf C)⟩]
theorem apR (ht:Body (fr:=fr) 147 dI):aC prog gS (LCs fr (aJ aH)):=aC.cons (iC (aoi aH ht)) aC.nil
def LCh (fr:Sd.aE->Nat×Sd.av) (C:Sd.aL):List (bK (Gh fr)):=[⟨52,false,gF (Hj C)⟩]
theorem apS (ht:Body (fr:=fr) 147 dI):aC prog gS (LCh fr (aJ aH)):=aC.cons (iC (aox aH ht)) aC.nil
def LCi (fr:Sd.aE->Nat×Sd.av) (C:Sd.aL):List (bK (Gh fr)):=[⟨56,false,gF (Hw C)⟩]
theorem apT (ht:Body (fr:=fr) 147 dI):aC prog gS (LCi fr (aJ aH)):=aC.cons (iC (apM ht)) aC.nil
section
variable(C:Sd.aL) (k:LK) (s:Sd.aa) (F:aW fr (aR k s)) (Kb:(s':Sd.aa)->aW fr (aR k s')->Prop)
def TV (s':Sd.aa) (F':aW fr (aR k s')):Prop:=BG k s Kb (.agg (Hy s' F'.vs F'.vr)) (cP k s') [a_ k s' F']
theorem apU (b:Bool):bo (bP prog gS (LCh fr C)) 60 21 [.ptr 2 0,.bool b] (cP k s) [a_ k s F] (BG k s Kb)=(L9 k s F/\Hj C [.bool b] k (bQ s) F λv s' F'=>TV k s Kb s' F'):=by kernel_rfl
theorem apV (x:Sd.g9):bo (bP prog gS (LCs fr C)) 60 20 [.ptr 2 0,.agg (oz x)] (cP k s) [a_ k s F] (BG k s Kb)=(L9 k s F/\Hf C [.agg (oz x)] k (bQ s) F λv s' F'=>TV k s Kb s' F'):=by kernel_rfl
def aby (l code:Int):Prop:=
 let no:Prop:=BG k s Kb (.agg (Hy s cO cO)) (cP k s) [a_ k s F]
 cond (decide (l>=1)) (cond (decide (l<=3)) (L9 k s F/\Hw C [.int .i64 l,.agg [.int .i64 code,.raw (eA k)]] k (bQ s) F λv s' F'=>TV k s Kb s' F') no) no
theorem apW (l code:Int):bo (bP prog gS (LCi fr C)) 60 24 [.ptr 2 0,.int .i64 l,.agg [.int .i64 code,.raw (eA k)]] (cP k s) [a_ k s F] (BG k s Kb)=aby C k s F Kb l code:=by kernel_rfl
end
def uL (s:Sd.aa) (qv:V):List V:=[.int .i64 s.c.t.ay,.int .i64 s.c.t.af,.int .i64 s.c.t.offer,.int .i64 s.c.mode]++(mI s.c.ff++(yL s.c.pt++(qv::([.bool ((eB s.c.ag).on 0),.bool ((eB s.c.ag).on 1),.bool ((eB s.c.ag).on 2),.bool ((eB s.c.ag).on 3),.bool ((eB s.c.ag).on 4)]++
 [.int .i64 ((eB s.c.ag).role 0),.int .i64 ((eB s.c.ag).role 1),.int .i64 ((eB s.c.ag).role 2),.int .i64 ((eB s.c.ag).role 3),.int .i64 ((eB s.c.ag).role 4),.bool s.c.t.bad]))))
def tn:List Sd.Ask->List V
 |[]=>[]
 |a::l=>.int .i64 a.source::tn l
def BH (l:List Sd.Ask) (u:List ab):VB:=⟨true,⟨3,(0,0)⟩,tn l++[.rest u]⟩
def L_:Nat->Nat->Prop->Prop
 |0,_,q=>q
 |n+1,j,q=>True/\(0<=(j:Int)/\(j:Int)<(5:Nat))/\True/\True/\L_ n (j+1) q
section
variable(C:Sd.aL) (k:LK) (s:Sd.aa) (F:aW fr (aR k s)) (K:VK (Gh fr))
def apX:Prop:=L_ 5 0 (K (.agg (uL s (.raw cO))) (cP k s) [a_ k s F])
def TW (l:List Sd.Ask) (c:Nat) (u:List ab):Prop:=L_ 5 0 (K (.agg (uL s (.sl 4 0 l.length c))) (cP k s++[BH l u]) [a_ k s F])
def TX (n:Nat) (l:List Sd.Ask) (P:Prop) (k:Nat->List ab->Prop):Prop:=P/\(∀(c:Nat) (u:List ab),n+1<=c->bY (tn l++[.rest u])=c*1->k c u)/\(∀(c:Nat) (u:List ab),n+1<=c->bY (tn l++[.rest u])=c*1->k c u)
def TY (a:Sd.Ask) (k:Nat->List ab->Prop):Prop:=∀(c:Nat) (u:List ab),0+1<=c->bY (tn [a]++[.rest u])=c*1->k c u
def apY:Prop:=vq k=vq k/\(s.c.q=[]->∀(x:Option aO) (c:Nat),apX k s F K)/\
 (∀a,s.c.q=[a]->∀(c:Nat) (t:List ab),TY a λc u=>TW k s F K [a] c u)/\
 (∀a b,s.c.q=[a,b]->∀(c:Nat) (t:List ab),TY a λc u=>TX 1 [a,b] (1<=c/\bY (tn [a]++[.rest u])=c*1) λc u=>TW k s F K [a,b] c u)/\
 (∀a b d,s.c.q=[a,b,d]->∀(c:Nat) (t:List ab),TY a λc u=>TX 1 [a,b] (1<=c/\bY (tn [a]++[.rest u])=c*1) λc u=>TX 2 [a,b,d] (2<=c/\bY (tn [a,b]++[.rest u])=c*1) λc u=>TW k s F K [a,b,d] c u)
theorem apZ:bo (fA prog gS (L8 fr C) (FG prog) JW) 60 14 [.ptr 2 0] (cP k s) [a_ k s F] (br 4 K)=apY k s F K:=by kernel_rfl
end
end
end Go.Proofs.YtggfpcggakghnaaGreatDoor
namespace Sd
variable{C:aL} {b:Prop} {s:aa} {l:Int} {m:aY}
theorem Ma {X:aa} {k a n e w:Int} (h:Quiet C b s X) (hk:k≠8) (hb:A4 b ⟨k,a,n,X.c.t.af,e,w⟩):Quiet C b s (X.record C k a n e w):=
 h.trans (aa.nB hk hb)
theorem Inv.ap0 {c:Core} (h:Inv c) {n y:Int} (hn:0<=n/\n<=4294967295):Inv {c with samples:=n,ag:=c.ag.fO c.p,beyond:=y}:=by
 have hb:=h.p.bW;have h1:=Inv.KA (T:=c.ag) (T':=c.ag.fO c.p) h ⟨λ_=>by simp[aA.fO,Timer.start];omega,h.ag.aj⟩
  (λa ha=>by
   have:=(h.q.each a ha).2.2.2.1;unfold aA.on at*;split
   ·rfl
   ·rename_i h4;rw[if_neg h4]at this;split
    ·rfl
    ·rename_i h0;rw[if_neg h0]at this;exact this)
  (λho=>by
   have:c.ag.on c.t.offer=true:=by
    rcases h.tok.offer with h1|⟨_,_,_,h1,_⟩
    ·omega
    ·exact h1
   unfold aA.on at*;split
   ·rfl
   ·rename_i h4;rw[if_neg h4]at this;split
    ·rfl
    ·rename_i h0;rw[if_neg h0]at this;exact this)
 exact⟨h1.p,h1.tok,h1.q,h1.ag,hn,h1.mode,h1.doors⟩
theorem fb.ap1 {t:aa} {c:Core} {kind link:Int} (k:fb C b ({s with c:=c}:aa) t kind link) (h1:c.t=s.c.t) (h2:c.q=s.c.q) (h3:c.p=s.c.p) (h4:c.head=s.c.head):fb C b s t kind link:=by
 have q0:Quiet C b s ({s with c:=c}:aa):=aa.iA (by rw[h1]) (by rw[h1]) h3 h4;refine⟨k.inv,?_⟩;rcases k.A5 with q|⟨how,g,w⟩
 ·exact .inl (q0.trans q)
 ·refine .inr ⟨how,q0.goes g,?_⟩;unfold uu at*;simpa only[h1,h2,h3]using w
theorem abz {x:g9} (h:Inv s.c):fb C b s (s.fO C x) 1 0:=by
 have e0:=h.kF;unfold aa.fO;split
 ·exact .jT ⟨h.p,h.tok,h.q,h.ag,h.samples,h.mode,h.doors⟩ (aa.iA rfl rfl rfl rfl)
 dsimp only;have hn:=aeL h.samples.1 (m:=4294967295) (by omega) h.samples.2;have i1:=h.ap0 (y:=(eh s.c.p s.c.beyond x).1) hn;have q1:Quiet C b s ({s with c:={s.c with samples:=sat s.c.samples 4294967295,ag:=s.c.ag.fO s.c.p,beyond:=(eh s.c.p s.c.beyond x).1}}:aa):=aa.iA rfl rfl rfl rfl;split
 ·rename_i hg;split
  ·have h2:=Z_ s.c.t s.c.q 0;refine .jT (i1.head _) (Ma q1 (by simp) ?_);exact⟨by simp,by simp,hn,e0,λ_=>⟨h2.1,Ci h2.2 (by decide)⟩,by simp⟩
  ·rename_i hz;obtain⟨g0,a,r,g1,g2,g3,g4,g5,g6⟩:=aaa (by simpa using hz);rw[g2];refine fb.ap1 (c:={s.c with samples:=sat s.c.samples 4294967295,ag:=s.c.ag.fO s.c.p,beyond:=(eh s.c.p s.c.beyond x).1}) (GD (s:=⟨_,s.bh,s.bA⟩) i1 ⟨g3,g4⟩ ⟨_,rfl⟩ g5 g6 (by simp) hn ?_) rfl rfl rfl rfl;refine .inr (.inl ⟨rfl,by simp,⟨a,r,g1,by simp[Tok.pass]⟩,?_⟩);simp;exact g0.symm
 split
 ·rename_i h0;split
  ·have h2:=Rf s.c.p s.c.t 0 0 s.c.mode {eT 11 with af:=s.c.t.af,cls:=1};refine .jT (i1.head _) (Ma q1 (by simp) ?_);exact⟨by simp,by simp,hn,e0,λ_=>⟨h2.1,Ci h2.2 (by decide)⟩,by simp⟩
  ·refine .jT (Inv.head (c:={s.c with samples:=sat s.c.samples 4294967295,ag:=s.c.ag.fO s.c.p,beyond:=(eh s.c.p s.c.beyond x).1,pt:=s.c.pt.set s.c.p 1 x.x ⟨1,0,sat s.c.samples 4294967295⟩}) ⟨i1.p,i1.tok,i1.q,i1.ag,i1.samples,i1.mode,i1.doors⟩ _) (Ma (q1.trans (aa.iA rfl rfl rfl rfl)) (by simp) ?_);exact⟨by simp,by simp,hn,e0,by simp,by simp⟩
 split
 ·rename_i h0;split
  ·have h2:=Kx s.c.t 0;refine .jT (i1.head _) (Ma q1 (by simp) ?_);exact⟨by simp,by simp,hn,e0,λ_=>⟨h2.1,Ci h2.2 (by decide)⟩,by simp⟩
  ·rename_i hz;obtain⟨g1,g2,g3,g4,g5⟩:=Kw (by simpa using hz);rw[g1];refine⟨Inv.goes (s:=⟨_,s.bh,s.bA⟩) i1 (lU.pass h.p ⟨g2,g3⟩ (by have:=h.tok.af;omega)),.inr ⟨4,?_,.inr (.inr (.inr (.inl ⟨rfl,rfl,by simp[Tok.pass]⟩)))⟩⟩;exact q1.goes (aa.GB (by simp[Tok.pass]) (by simpa[Tok.pass]using g4) rfl (.inl ⟨g5,rfl⟩) e0.1 (by simp) hn)
 ·exact .jT i1 q1
theorem Inv.Hz {c:Core} (h:Inv c) {mo:Int} (hm:0<=mo/\mo<=4) (y:Label) (pt:eF):Inv {c with mode:=mo,ff:=y,pt:=pt}:=
 ⟨h.p,h.tok,h.q,h.ag,h.samples,hm,h.doors⟩
theorem BI {mo:Int} {y:Label}:Quiet C b s (s.dW mo y):=aa.iA rfl rfl rfl rfl
def mO (s:aa) (a:Ask):aa:=({s with c:={s.c with q:=Q.drop s.c.q a.source}}:aa).gone a.source 4 29
theorem ap2 {a:Ask}:Quiet C b s (mO s a):=
 Quiet.trans (t:=({s with c:={s.c with q:=Q.drop s.c.q a.source}}:aa)) (aa.iA rfl rfl rfl rfl) (aa.yI (aa.GA (by omega) (by omega)))
theorem Mb {a:Ask}:(mO s a).c={s.c with q:=Q.drop s.c.q a.source}:=by unfold mO;rw[aa.pV]
theorem Inv.mO {a:Ask} (h:Inv s.c):Inv (Sd.mO s a).c:=by
 rw[Mb];exact⟨h.p,h.tok,h.q.drop a.source (λx hx _=>(h.q.each x hx).2.2.2.2.1),h.ag,h.samples,h.mode,h.doors⟩
theorem abA (q:List Ask):∀s:aa,Inv s.c->Inv (q.foldl mO s).c/\Quiet C b s (q.foldl mO s)/\(q.foldl mO s).c.t=s.c.t/\(q.foldl mO s).c.ag=s.c.ag/\
 (∀x∈(q.foldl mO s).c.q,x∈s.c.q/\∀a∈q,x.source≠a.source)/\∃q',(q.foldl mO s).c={s.c with q:=q'}:=by
 induction q with
 |nil=>intro s h;exact⟨h,Quiet.refl ..,rfl,rfl,λx hx=>⟨hx,by simp⟩,s.c.q,rfl⟩
 |cons a q ih=>
  intro s h;obtain⟨h1,h2,h3,h4,h5,q',h6⟩:=ih (mO s a) h.mO;rw[Mb]at h3 h4 h5 h6;refine⟨h1,ap2.trans h2,h3,h4,λx hx=>?_,q',h6⟩;obtain⟨h7,h8⟩:=h5 x hx;simp only[Q.drop,List.mem_filter,decide_eq_true_eq]at h7;exact⟨h7.1,λy hy=>by
   rcases ca.1 hy with rfl|hy
   ·exact h7.2
   ·exact h8 y hy⟩
theorem abB (bad:Bool) (hb:bad=true):s.qV C bad=
 ((((if s.c.t.ay≠4 then(s.dX {s.c.t with bad:=bad}).goes C ({s.c.t with bad:=bad}:Tok).fY 6 0 else(s.dX {s.c.t with bad:=bad}).dX ({s.c.t with bad:=bad}:Tok).fY):aa).c.q.foldl mO
   (if s.c.t.ay≠4 then(s.dX {s.c.t with bad:=bad}).goes C ({s.c.t with bad:=bad}:Tok).fY 6 0 else(s.dX {s.c.t with bad:=bad}).dX ({s.c.t with bad:=bad}:Tok).fY)).dW
    s.c.p.safe nj):=by
 unfold aa.qV;rw[if_neg (by simp[hb])];dsimp only;congr 1;have:∀(q:List Ask) (s:aa),(q.foldl mO s).c.p=s.c.p:=by
  intro q;induction q with
  |nil=>intro s;rfl
  |cons a q ih=>intro s;rw[ve,ih,Mb]
 refine Eq.trans (congrArg aN.safe (this _ _)) ?_;split<;>simp[aa.dX]
theorem ap3 {bad:Bool} (h:Inv s.c):fb C b s (s.qV C bad) 2 0:=by
 have e0:=h.kF;have he:=h.tok.af;have hh:=h.tok.ay;have i0:Inv {s.c with t:={s.c.t with bad:=bad}}:=⟨h.p,⟨h.tok.ay,h.tok.af,h.tok.offer,h.tok.lost⟩,h.q,h.ag,h.samples,h.mode,h.doors⟩;have q0:Quiet C b s (s.dX {s.c.t with bad:=bad}):=aa.iA rfl rfl rfl rfl;cases bad
 ·exact .jT i0 q0
 rw[abB true rfl];split
 ·rename_i h4;have hs:sat s.c.t.af 65535=if s.c.t.af<65535 then s.c.t.af+1 else 65535:=rfl
  have et:({s.c.t with bad:=true}:Tok).fY=Tok.pass {s.c.t with bad:=true} 4 (sat s.c.t.af 65535):=by simp[Tok.fY,h4]
  rw[et];have i1:Inv ((s.dX {s.c.t with bad:=true}).goes C (Tok.pass {s.c.t with bad:=true} 4 (sat s.c.t.af 65535)) 6 0).c:=
   Inv.goes (s:=s.dX _) i0 (lU.pass h.p (by omega) (by show s.c.p.af<=_/\_;rw[hs];split<;>omega))
  obtain⟨h1,h2,h3,h5,h6,q',h7⟩:=abA (C:=C) (b:=b) ((s.dX {s.c.t with bad:=true}).goes C (Tok.pass {s.c.t with bad:=true} 4 (sat s.c.t.af 65535)) 6 0).c.q _ i1;refine⟨h1.Hz h.p.safe _ _,.inr ⟨6,?_,?_⟩⟩
  ·refine wD.quiet (Quiet.goes q0 (aa.GB (by simp[Tok.pass]) (by simpa[Tok.pass,aa.dX]using λe=>h4 e.symm) rfl ?_ e0.1 (by simp) (by simp))) (h2.trans BI) ?_
   ·show(s.c.t.af<65535/\sat s.c.t.af 65535=s.c.t.af+1)\/(s.c.t.af=65535/\sat s.c.t.af 65535=65535/\(6:Int)=6);rw[hs];split<;>omega
   ·show(aa.dW _ _ _).c.t.offer=-1;simp only[aa.dW];rw[h3];simp[Tok.pass]
  ·refine .inr (.inr (.inr (.inr (.inr ⟨rfl,?_,.inl ⟨rfl,?_⟩⟩))))
   ·simp only[aa.dW];rw[h3];simp[Tok.pass]
   ·simp only[aa.dW];rw[h3];simp[Tok.pass]
 ·rename_i h4;have TZ:s.c.t.ay=4:=by simpa using h4
  have et:({s.c.t with bad:=true}:Tok).fY=Tok.pass {s.c.t with bad:=true} 4 s.c.t.af:=by simp[Tok.fY,TZ]
  rw[et];have i1:Inv ((s.dX {s.c.t with bad:=true}).dX (Tok.pass {s.c.t with bad:=true} 4 s.c.t.af)).c:=
   ⟨h.p,lU.pass h.p (by omega) he,⟨λa ha=>by have:=h.q.each a ha;simpa[Tok.pass,aa.dX,TZ]using this,h.q.sorted,h.q.len⟩,h.ag,h.samples,h.mode,h.doors⟩
  obtain⟨h1,h2,h3,h5,h6,q',h7⟩:=abA (C:=C) (b:=b) ((s.dX {s.c.t with bad:=true}).dX (Tok.pass {s.c.t with bad:=true} 4 s.c.t.af)).c.q _ i1;refine .jT (h1.Hz h.p.safe _ _) ?_;exact Quiet.trans (Quiet.trans (t:=(s.dX {s.c.t with bad:=true}).dX (Tok.pass {s.c.t with bad:=true} 4 s.c.t.af)) (aa.iA (by simp[Tok.pass,TZ]) rfl rfl rfl) h2) BI
def oD (C:aL) (s:aa) (x:Int):aa:=let s:=s.record C 5 x 0 0 0;if linked x then s.leave C x else s
def w5 (q:List Ask) (xs:List Int):List Ask:=xs.foldl (λq x=>if linked x then Q.drop q x else q) q
def kK (t:Tok) (xs:List Int):Tok:=xs.foldl (λt x=>if linked x then(t.drop x).1 else t) t
theorem abC (C:aL) (s:aa) (x:Int):∃hd,(oD C s x).c={s.c with q:=w5 s.c.q [x],t:=kK s.c.t [x],head:=hd}:=by
 unfold oD w5 kK;simp only[ve,Wa];split
 ·obtain⟨hd,e⟩:=Rg C (s.record C 5 x 0 0 0) x;exact⟨hd,by rw[e];rfl⟩
 ·exact⟨_,rfl⟩
theorem ap4 {x:Int} (hx:0<=x/\x<=3) (he:0<=s.c.t.af/\s.c.t.af<=65535):Quiet C b s (oD C s x):=by
 unfold oD;have q1:Quiet C b s (s.record C 5 x 0 0 0):=aa.nB (by simp) ⟨by simp,by simp;omega,by simp,he,by simp,by simp⟩;dsimp only;split
 ·rename_i h;simp[linked]at h;exact q1.trans (aab (by omega) he)
 ·exact q1
theorem Inv.oD {T:aA} {x:Int} (hx:0<=x/\x<=3) (h:Inv {s.c with ag:=T}):Inv {(Sd.oD C s x).c with ag:=T}:=by
 unfold Sd.oD;dsimp only;split
 ·rcases Inv.leave (C:=C) (s:=s.record C 5 x 0 0 0) (T:=T) (x:=x) (h.head _)with⟨h1,_⟩|h1
  ·exact h1
  ·omega
 ·exact h.head _
theorem abD (xs:List Int):∀t:Tok,(kK t xs).ay=t.ay/\(kK t xs).af=t.af/\(kK t xs).la=t.la/\(kK t xs).bad=t.bad/\
 (((kK t xs)=t/\∀x∈xs,linked x=true->t.offer≠x)\/(kK t xs=t.ir/\t.offer∈xs)\/t.offer=-1/\kK t xs=t):=by
 induction xs with
 |nil=>intro t;exact⟨rfl,rfl,rfl,rfl,.inl ⟨rfl,by simp⟩⟩
 |cons x xs ih=>
  intro t;unfold kK;simp only[ve];by_cases hl:linked x=true
  ·simp only[hl,if_true];have hd:=Kz t x;obtain⟨h1,h2,h3,h4,h5⟩:=ih (t.drop x).1;unfold kK at h1 h2 h3 h4 h5;refine⟨h1.trans hd.1,h2.trans hd.2.1,h3.trans hd.2.2.1,h4.trans hd.2.2.2.1,?_⟩;have hx:1<=x:=by simp[linked]at hl;exact hl.1
   rcases hd.2.2.2.2 with⟨e,_,e2⟩|⟨e,_,e2⟩
   ·rw[e]at h5⊢;rcases h5 with⟨h5,h6⟩|⟨h5,h6⟩|⟨h5,h6⟩
    ·refine .inl ⟨h5,λy hy Mc=>?_⟩;rcases ca.1 hy with rfl|hy
     ·omega
     ·exact h6 y hy Mc
    ·exact .inr (.inl ⟨h5,by simp[h6]⟩)
    ·exact .inr (.inr ⟨h5,h6⟩)
   ·rw[e]at h5⊢;refine .inr (.inl ⟨?_,by simp[e2]⟩);rcases h5 with⟨h5,h6⟩|⟨h5,h6⟩|⟨h5,h6⟩
    ·exact h5
    ·rw[h5];rfl
    ·exact h6
  ·simp only[hl];obtain⟨h1,h2,h3,h4,h5⟩:=ih t;unfold kK at h1 h2 h3 h4 h5;refine⟨h1,h2,h3,h4,?_⟩;rcases h5 with⟨h5,h6⟩|⟨h5,h6⟩|⟨h5,h6⟩
   ·refine .inl ⟨h5,λy hy Mc=>?_⟩;rcases ca.1 hy with rfl|hy
    ·exact absurd Mc hl
    ·exact h6 y hy Mc
   ·exact .inr (.inl ⟨h5,by simp[h6]⟩)
   ·exact .inr (.inr ⟨h5,h6⟩)
theorem ap5 (xs:List Int):∀(q:List Ask) (a:Ask),a∈w5 q xs↔a∈q/\∀x∈xs,linked x=true->a.source≠x:=by
 induction xs with
 |nil=>intro q a;simp[w5]
 |cons x xs ih=>
  intro q a;have:=ih (if linked x then Q.drop q x else q) a;unfold w5 at*;simp only[ve];rw[this];by_cases hl:linked x=true
  ·simp[hl,Q.drop,and_assoc]
  ·simp[hl]
theorem ap6 (xs:List Int):∀(s:aa) (T:aA),(∀x∈xs,0<=x/\x<=3)->Inv {s.c with ag:=T}->
 Inv {(xs.foldl (oD C) s).c with ag:=T}/\Quiet C b s (xs.foldl (oD C) s)/\∃hd,(xs.foldl (oD C) s).c={s.c with q:=w5 s.c.q xs,t:=kK s.c.t xs,head:=hd}:=by
 induction xs with
 |nil=>intro s T _ h;exact⟨h,Quiet.refl ..,s.c.head,rfl⟩
 |cons x xs ih=>
  intro s T hx h;have CA:=hx x (by simp);have e0:0<=s.c.t.af/\s.c.t.af<=65535:=Inv.kF (c:={s.c with ag:=T}) h;obtain⟨h1,h2,hd,h3⟩:=ih (oD C s x) T (λy hy=>hx y (by simp[hy])) (h.oD CA);obtain⟨DV,h4⟩:=abC C s x;refine⟨h1,(ap4 CA e0).trans h2,hd,?_⟩;simp only[ve];rw[h3,h4];rfl
theorem DW {t:Timer} {m:Int} (h:t.most=m/\0<=t.n/\t.n<m):t.step=⟨t.n+1,m⟩/\(t.step.due=true↔t.n+1=m):=by
 obtain⟨h1,h2,h3⟩:=h;have:t.step=⟨t.n+1,m⟩:=by unfold Timer.step sat;rw[if_pos (by omega),h1]
 rw[this];refine⟨rfl,?_⟩;simp[Timer.due];omega
theorem ap7 {p:aN} {t:aA} (hp:eO p) (h:CD p t):CD p t.tick:=by
 have hb:=hp.bW;constructor
 ·intro ho;unfold aA.tick at*;dsimp only at*;split at ho
  ·rename_i h1;rw[if_pos h1];obtain⟨h2,h3⟩:=DW (h.c9 h1);split at ho
   ·cases ho
   ·rename_i h4;rw[if_neg h4,h2];have:=h.c9 h1;simp at h4;have:t.c9.2.n+1≠p.bW:=λe=>by rw[h3.2 e]at h4;cases h4
    dsimp only;omega
  ·rename_i h1;exact absurd ho h1
 ·intro i hi ho;unfold aA.tick at*;dsimp only at*;split at ho
  ·rename_i h1;rw[if_pos h1];have h0:=h.aj i hi h1;obtain⟨h2,h3⟩:=DW (m:=p.bW) ⟨h0.1,h0.2.1,h0.2.2.1⟩;split at ho
   ·cases ho
   ·rename_i h4;rw[if_neg h4];dsimp only;rw[h2];simp at h4;have:(t.aj i).eL.n+1≠p.bW:=λe=>by rw[h3.2 e]at h4;cases h4
    dsimp only;omega
  ·rename_i h1;exact absurd ho h1
theorem ap_ {t:aA} {x:Int} (h:x∈t.ended):0<=x/\x<=3:=by
 unfold aA.ended at h;simp only[eJ]at h;rcases h with((h|h)|h)|h<;>split at h<;>simp at h<;>omega
theorem abE {t:aA} {x:Int} (hx:1<=x/\x<=3) (h:t.on x=true) (hn:x∉t.ended):t.tick.on x=true:=by
 have e:x=1\/x=2\/x=3:=by omega
 rw[Ri hx]at*;unfold aA.de aA.tick at*;rcases e with rfl|rfl|rfl<;>simp[aA.ended,aA.Je]at*<;>simp[h]<;>simp[h]at hn<;>simp[hn,h]
theorem aqa {q:List Ask} {a:Ask} (h:a∈Q.kept q):∃x∈q,a={x with gj:=x.gj.step}/\a.gj.due=false:=by
 unfold Q.kept Q.An at h;simp only[List.mem_filter,mn]at h;obtain⟨⟨x,hx,rfl⟩,h2⟩:=h;exact⟨x,hx,rfl,by simpa using h2⟩
theorem aqb {q:List Ask} {a:Ask} (h:a∈Q.gone q):∃x∈q,a={x with gj:=x.gj.step}/\a.gj.due=true:=by
 unfold Q.gone Q.An at h;simp only[List.mem_filter,mn]at h;obtain⟨⟨x,hx,rfl⟩,h2⟩:=h;exact⟨x,hx,rfl,by simpa using h2⟩
theorem pk.kept {p:aN} {t:aA} {h:Int} {q:List Ask} (k:pk p t h q):pk p t h (Q.kept q) where
 each:=by
  intro a ha;obtain⟨x,hx,rfl,hd⟩:=aqa ha;obtain⟨a1,a2,a3,a4,a5,a6,a7,a8⟩:=k.each x hx;obtain⟨e1,e2⟩:=DW ⟨a6,a7,a8⟩;refine⟨a1,a2,a3,a4,a5,by dsimp only;rw[e1],by dsimp only;rw[e1];dsimp only;omega,?_⟩;dsimp only at*;rw[e1];have:x.gj.n+1≠p.ask:=λe=>by rw[e2.2 e]at hd;cases hd
  dsimp only;omega
 sorted:=by
  unfold Q.kept Q.An;refine List.Pairwise.filter _ ?_;rw[List.pairwise_map];exact k.sorted
 len:=by
  have:=List.length_filter_le (λa:Ask=>!a.gj.due) (Q.An q);have h2:=k.len;unfold Q.kept;simp only[Q.An,Eu]at*;omega
def zf (C:aL) (s:aa) (a:Ask):aa:=(s.gone a.source a.source 30).record C 12 a.source 0 30 0
theorem aqc (q:List Ask):∀s:aa,(∀a∈q,1<=a.source/\a.source<=3)->0<=s.c.t.af/\s.c.t.af<=65535->
 Quiet C b s (q.foldl (zf C) s)/\∃hd,(q.foldl (zf C) s).c={s.c with head:=hd}:=by
 induction q with
 |nil=>intro s _ _;exact⟨Quiet.refl ..,s.c.head,rfl⟩
 |cons a q ih=>
  intro s hq he;have ha:=hq a (by simp);have e1:(zf C s a).c={s.c with head:=C.next s.c.head ⟨12,a.source,0,s.c.t.af,30,0⟩}:=by
   unfold zf;rw[show∀(y:aa) (k a n e w:Int),(y.record C k a n e w).c={y.c with head:=C.next y.c.head ⟨k,a,n,y.c.t.af,e,w⟩}from λ_ _ _ _ _ _=>rfl,aa.pV]
  have q1:Quiet C b s (zf C s a):=by
   refine Quiet.trans (aa.yI (aa.GA (by omega) (by omega))) (aa.nB (by simp) ?_);refine⟨by simp,by dsimp only;omega,by simp,?_,by simp,by simp⟩;dsimp only;rw[aa.k8];exact he
  obtain⟨h1,hd,h2⟩:=ih (zf C s a) (λx hx=>hq x (by simp[hx])) (by rw[e1];exact he);refine⟨q1.trans h1,hd,?_⟩;simp only[ve];rw[h2,e1]
theorem aqd {p:aN} {ag:aA} {t:Tok} (h:lU p ag t):t.tick.1.ay=t.ay/\t.tick.1.af=t.af/\t.tick.1.la=t.la/\t.tick.1.bad=t.bad/\
 lU p ag t.tick.1/\((t.tick.2=-1/\t.tick.1.offer=t.offer)\/(t.tick.2=t.offer/\1<=t.offer/\t.offer<=3/\t.tick.1.offer=-1)):=by
 unfold Tok.tick;rcases h.offer with ho|⟨o1,o2,o3,o4,o5,o6,o7⟩
 ·rw[if_pos (by omega)];exact⟨rfl,rfl,rfl,rfl,h,.inl ⟨rfl,rfl⟩⟩
 ·rw[if_neg (by omega)];obtain⟨e1,e2⟩:=DW ⟨o5,o6,o7⟩;split
  ·exact⟨rfl,rfl,rfl,rfl,⟨h.ay,h.af,.inl rfl,h.lost⟩,.inr ⟨rfl,o1,o2,rfl⟩⟩
  ·rename_i hd;refine⟨rfl,rfl,rfl,rfl,⟨h.ay,h.af,.inr ⟨o1,o2,o3,o4,?_⟩,h.lost⟩,.inl ⟨rfl,rfl⟩⟩;have:t.oa.n+1≠p.offer:=λe=>hd (e2.2 e);dsimp only;rw[e1];dsimp only;omega
inductive zg (p:aN) (t:Tok) (q:List Ask) (there:Bool):Tok->Int->List Ask->Prop
 |here (h:t.ay=4\/there=true):zg p t q there {t with la:=.zero} 0 q
 |abF (la:Timer) (h1:t.ay≠4) (h2:there=false) (hm:la.most=p.dU) (hn:la.n=t.la.n+1) (dv:la.n<p.dU):zg p t q there {t with la:=la} 0 q
 |safe (h1:t.ay≠4) (h2:there=false) (hn:t.la.n+1=p.dU) (he:t.af=65535):zg p t q there (t.pass 4 65535) 6 q
 |first (a:Ask) (l:List Ask) (h1:t.ay≠4) (h2:there=false) (hn:t.la.n+1=p.dU) (he:t.af<65535) (hq:q=a::l):zg p t q there (t.pass a.source (t.af+1)) 5 (Q.drop q a.source)
 |none (h1:t.ay≠4) (h2:there=false) (hn:t.la.n+1=p.dU) (he:t.af<65535) (hq:q=[]):zg p t q there (t.pass 4 (t.af+1)) 5 q
theorem aqe {p:aN} {ag:aA} {t:Tok} {q:List Ask} {there:Bool} (hp:eO p) (h:lU p ag t) (hq:pk p ag t.ay q):
 zg p t q there (fZ p t q there).1 (fZ p t q there).2.1 (fZ p t q there).2.2:=by
 unfold fZ;have hb:=hp.dU;split
 ·rename_i h1;exact .here h1
 rename_i h1;have DX:t.ay≠4:=λe=>h1 (.inl e);have Md:there=false:=by
  cases there
  ·rfl
  ·exact absurd (.inr rfl) h1
 have su:∃la:Timer,(if t.la.most=0 then Timer.start p.dU else t.la).step=la/\la.most=p.dU/\la.n=t.la.n+1/\(la.due=true↔t.la.n+1=p.dU):=by
  rcases h.lost with⟨l1,l2⟩|⟨l1,l2,l3⟩
  ·rw[if_pos l1];obtain⟨e1,e2⟩:=DW (t:=Timer.start p.dU) (m:=p.dU) (by simp[Timer.start];omega);have e0:(Timer.start p.dU).n=0:=rfl;refine⟨_,rfl,by rw[e1],by rw[e1,e0,l2],?_⟩;rw[e2,e0,l2]
  ·rw[if_neg (by omega)];obtain⟨e1,e2⟩:=DW ⟨l1,l2,l3⟩;exact⟨_,rfl,by rw[e1],by rw[e1],e2⟩
 obtain⟨la,e0,e1,e2,e3⟩:=su;simp only[e0];split
 ·rename_i hd;refine .abF la DX Md e1 e2 ?_;have cw:t.la.n+1≠p.dU:=λe=>by rw[e3.2 e]at hd;cases hd
  rcases h.lost with⟨l1,l2⟩|⟨l1,l2,l3⟩<;>omega
 rename_i hd;have hn:t.la.n+1=p.dU:=e3.1 (by simpa using hd);have he:=h.af;split
 ·rename_i h6;have h6':t.af=65535:=by omega
  have:({t with la:=la}:Tok).fY=t.pass 4 65535:=by
   simp only[Tok.fY,Tok.pass];rw[if_pos DX,h6'];rfl
  rw[this];exact .safe DX Md hn h6'
 rename_i h6;have dv:t.af<65535:=by omega
 have g4:({t with la:=la}:Tok).cY 4=(t.pass 4 (t.af+1),0):=by
  unfold Tok.cY;rw[if_neg (by omega),if_neg (λe=>DX e.symm),if_neg (by dsimp only;omega)];rfl
 cases q with
 |nil=>
  have:(fg ({t with la:=la}:Tok) []).2.1≠0:=by simp[fg]
  rw[if_pos this,g4];exact .none DX Md hn dv rfl
 |cons a r=>
  have ha:=hq.each a (by simp);have ga:({t with la:=la}:Tok).cY a.source=(t.pass a.source (t.af+1),0):=by
   unfold Tok.cY;rw[if_neg (by omega),if_neg ha.2.2.2.2.1,if_neg (by dsimp only;omega)];rfl
  have e:fg ({t with la:=la}:Tok) (a::r)=(t.pass a.source (t.af+1),0,Q.drop (a::r) a.source):=by
   unfold fg;simp only[ga];rw[if_neg (by simp)]
  rw[e,if_neg (by simp)];exact .first a r DX Md hn dv rfl
theorem aqf (h:Inv s.c):fb C b s (s.dU C) 3 0/\(s.dU C).c.ag=s.c.ag/\(s.dU C).c.p=s.c.p/\
 zg s.c.p s.c.t s.c.q (s.c.ag.on s.c.t.ay) (s.dU C).c.t (fZ s.c.p s.c.t s.c.q (s.c.ag.on s.c.t.ay)).2.1 (s.dU C).c.q/\
 ((fZ s.c.p s.c.t s.c.q (s.c.ag.on s.c.t.ay)).2.1=5->(s.dU C).c.mode=s.c.p.lost/\(s.dU C).c.ff=⟨3,4,0⟩/\(s.dU C).c.pt=s.c.pt.hold ⟨3,4,0⟩)/\
 ((fZ s.c.p s.c.t s.c.q (s.c.ag.on s.c.t.ay)).2.1=0->(s.dU C).c.mode=s.c.mode/\(s.dU C).c.ff=s.c.ff/\(s.dU C).c.pt=s.c.pt):=by
 have e0:=h.kF;have he:=h.tok.af;have hh:=h.tok.ay;have hb:=h.p.dU;have hL:=aqe (there:=s.c.ag.on s.c.t.ay) h.p h.tok h.q;unfold aa.dU;dsimp only;generalize ht:(fZ s.c.p s.c.t s.c.q (s.c.ag.on s.c.t.ay)).1=t at hL⊢;generalize hw:(fZ s.c.p s.c.t s.c.q (s.c.ag.on s.c.t.ay)).2.1=how at hL⊢;generalize hq:(fZ s.c.p s.c.t s.c.q (s.c.ag.on s.c.t.ay)).2.2=q at hL⊢;have HA:=hL;cases hL with
 |here h1=>
  rw[if_pos (by omega)];refine⟨.jT ⟨h.p,⟨h.tok.ay,h.tok.af,h.tok.offer,.inl ⟨rfl,rfl⟩⟩,h.q,h.ag,h.samples,h.mode,h.doors⟩ (aa.iA rfl rfl rfl rfl),rfl,rfl,HA,by simp,λ_=>⟨rfl,rfl,rfl⟩⟩
 |abF la h1 h2 hm hn dv=>
  rw[if_pos (by omega)];have:0<=la.n:=by rcases h.tok.lost with⟨_,l2⟩|⟨_,l2,_⟩<;>omega
  refine⟨.jT ⟨h.p,⟨h.tok.ay,h.tok.af,h.tok.offer,.inr ⟨hm,this,dv⟩⟩,h.q,h.ag,h.samples,h.mode,h.doors⟩ (aa.iA rfl rfl rfl rfl),rfl,rfl,HA,by simp,λ_=>⟨rfl,rfl,rfl⟩⟩
 |safe h1 h2 hn h6=>
  rw[if_neg (by omega),if_neg (by omega)];have i1:Inv (aa.goes C ({s with c:={s.c with q:=s.c.q}}:aa) (s.c.t.pass 4 65535) 6 0).c:=Inv.goes (s:=s) h (lU.pass h.p (by omega) (by omega));have hd:Q.drop s.c.q 4=s.c.q:=by
   unfold Q.drop;rw[List.filter_eq_self];intro a ha;have:=(h.q.each a ha).2.2.1;simp;omega
  have BJ:(aa.goes C ({s with c:={s.c with q:=s.c.q}}:aa) (s.c.t.pass 4 65535) 6 0).c.q=s.c.q:=by
   rw[aa.Rc];exact hd
  refine⟨⟨i1.Hz (by simpa using h.p.safe) _ _,.inr ⟨6,?_,?_⟩⟩,by simp[aa.dW],by simp[aa.dW],?_,by simp,by simp⟩
  ·refine wD.quiet (aa.GB (s:=s) (by simp[Tok.pass]) (by simpa[Tok.pass]using λe=>h1 e.symm) rfl (.inr ⟨h6,rfl,rfl⟩) e0.1 (by simp) (by simp)) BI ?_;simp[aa.dW,Tok.pass]
  ·refine .inr (.inr (.inr (.inr (.inr ⟨rfl,by simp[aa.dW,Tok.pass],.inr ⟨rfl,h6,?_⟩⟩))));simpa[aa.dW]using h2
  ·have e1:(aa.dW (aa.goes C ({s with c:={s.c with q:=s.c.q}}:aa) (s.c.t.pass 4 65535) 6 0) (aa.goes C ({s with c:={s.c with q:=s.c.q}}:aa) (s.c.t.pass 4 65535) 6 0).c.p.safe nj).c.t=s.c.t.pass 4 65535:=by simp[aa.dW]
   rw[e1];have e2:(aa.dW (aa.goes C ({s with c:={s.c with q:=s.c.q}}:aa) (s.c.t.pass 4 65535) 6 0) (aa.goes C ({s with c:={s.c with q:=s.c.q}}:aa) (s.c.t.pass 4 65535) 6 0).c.p.safe nj).c.q=s.c.q:=BJ;rw[e2];exact HA
 |first a r h1 h2 hn dv T0=>
  rw[if_neg (by omega),if_pos rfl];have ha:=h.q.each a (by rw[T0];simp);obtain⟨g1,g2⟩:=GD (C:=C) (b:=b) (s:=s) (kind:=3) (link:=0) (how:=5) (n:=0) (f:=a.source) (q:=Q.drop s.c.q a.source) h (by omega) ⟨_,rfl⟩ ha.2.2.2.2.1 dv (by simp) (by simp)
   (.inr (.inr (.inr (.inr (.inl ⟨rfl,rfl,by simpa using h2,by simpa[Tok.pass]using ha.2.2.2.1⟩)))))
  have hdd:Q.drop (Q.drop s.c.q a.source) a.source=Q.drop s.c.q a.source:=by
   unfold Q.drop;rw[List.filter_filter];congr 1;funext x;simp
  have BJ:(aa.goes C ({s with c:={s.c with q:=Q.drop s.c.q a.source}}:aa) (s.c.t.pass a.source (s.c.t.af+1)) 5 0).c.q=Q.drop s.c.q a.source:=by
   rw[aa.Rc];exact hdd
  generalize hX:aa.goes C ({s with c:={s.c with q:=Q.drop s.c.q a.source}}:aa) (s.c.t.pass a.source (s.c.t.af+1)) 5 0=X at g1 g2 BJ;have eX:X.c.t=s.c.t.pass a.source (s.c.t.af+1)/\X.c.p=s.c.p/\X.c.ag=s.c.ag:=by subst hX;simp
  have T4:X.c.pt=s.c.pt:=by
   subst hX;obtain⟨x,e⟩:=aa.Gz C ({s with c:={s.c with q:=Q.drop s.c.q a.source}}:aa) (s.c.t.pass a.source (s.c.t.af+1)) 5 0;rw[e]
  refine⟨⟨g1.Hz (by rw[eX.2.1];exact h.p.lost) _ _,?_⟩,by simp[aa.dW,eX],by simp[aa.dW,eX],by simpa[aa.dW,eX,BJ]using HA,λ_=>⟨by simp[aa.dW,eX],rfl,by simp[aa.dW,T4]⟩,by simp⟩;rcases g2 with g2|⟨how,g2,g3⟩
  ·exact .inl (g2.trans BI)
  ·exact .inr ⟨how,g2.quiet BI (by simp[aa.dW,eX,Tok.pass]),by simpa[uu,aa.dW]using g3⟩
 |none h1 h2 hn dv T0=>
  rw[if_neg (by omega),if_pos rfl];have Me:s.c.q=Q.drop s.c.q 4:=by rw[T0];rfl
  obtain⟨g1,g2⟩:=GD (C:=C) (b:=b) (s:=s) (kind:=3) (link:=0) (how:=5) (n:=0) (f:=4) (q:=s.c.q) h (by omega) ⟨4,Me⟩ (λe=>h1 e.symm) dv (by simp) (by simp)
   (.inr (.inr (.inr (.inr (.inl ⟨rfl,rfl,by simpa using h2,by simp[Tok.pass,aA.on]⟩)))))
  have BJ:(aa.goes C ({s with c:={s.c with q:=s.c.q}}:aa) (s.c.t.pass 4 (s.c.t.af+1)) 5 0).c.q=s.c.q:=by
   rw[aa.Rc];exact Me.symm
  generalize hX:aa.goes C ({s with c:={s.c with q:=s.c.q}}:aa) (s.c.t.pass 4 (s.c.t.af+1)) 5 0=X at g1 g2 BJ;have eX:X.c.t=s.c.t.pass 4 (s.c.t.af+1)/\X.c.p=s.c.p/\X.c.ag=s.c.ag:=by subst hX;simp
  have T4:X.c.pt=s.c.pt:=by
   subst hX;obtain⟨x,e⟩:=aa.Gz C ({s with c:={s.c with q:=s.c.q}}:aa) (s.c.t.pass 4 (s.c.t.af+1)) 5 0;rw[e]
  refine⟨⟨g1.Hz (by rw[eX.2.1];exact h.p.lost) _ _,?_⟩,by simp[aa.dW,eX],by simp[aa.dW,eX],by simpa[aa.dW,eX,BJ]using HA,λ_=>⟨by simp[aa.dW,eX],rfl,by simp[aa.dW,T4]⟩,by simp⟩;rcases g2 with g2|⟨how,g2,g3⟩
  ·exact .inl (g2.trans BI)
  ·exact .inr ⟨how,g2.quiet BI (by simp[aa.dW,eX,Tok.pass]),by simpa[uu,aa.dW]using g3⟩
structure Mid (c c':Core):Prop where
 inv:Inv c'
 p:c'.p=c.p
 ag:c'.ag=c.ag.tick
 ay:c'.t.ay=c.t.ay
 af:c'.t.af=c.t.af
 la:c'.t.la=c.t.la
 bad:c'.t.bad=c.t.bad
 q:c'.q=Q.kept (w5 c.q c.ag.ended)
 offer:c'.t.offer=(kK c.t c.ag.ended).tick.1.offer
 mode:c'.mode=c.mode/\c'.ff=c.ff/\c'.pt=c.pt
 rest:c'.samples=c.samples/\c'.beyond=c.beyond/\c'.doors=c.doors
def qk (C:aL) (s:aa):aa:=s.c.ag.ended.foldl (oD C) ({s with c:={s.c with ag:=s.c.ag.tick}}:aa)
def qm (C:aL) (s:aa):aa:=
 let s2:=s.dX s.c.t.tick.1
 if 0<=s.c.t.tick.2 then(s2.gone s.c.t.tick.1.ay s.c.t.tick.2 30).record C 12 s.c.t.tick.2 0 30 0 else s2
def w6 (C:aL) (s:aa):aa:=(Q.gone s.c.q).foldl (zf C) ({s with c:={s.c with q:=Q.kept s.c.q}}:aa)
theorem TU (C:aL) (s:aa):s.tick C=(let s6:=(w6 C (qm C (qk C s))).dU C;{s6 with c:={s6.c with pt:=s6.c.pt.step s6.c.p}}):=rfl
theorem abG (h:Inv s.c):Quiet C b s (w6 C (qm C (qk C s)))/\Mid s.c (w6 C (qm C (qk C s))).c:=by
 have e0:=h.kF;obtain⟨a1,a2,DV,a3⟩:=ap6 (C:=C) (b:=b) s.c.ag.ended ({s with c:={s.c with ag:=s.c.ag.tick}}:aa) s.c.ag (λx hx=>ap_ hx) h;have q1:Quiet C b s (qk C s):=Quiet.trans (t:=({s with c:={s.c with ag:=s.c.ag.tick}}:aa)) (aa.iA rfl rfl rfl rfl) a2;have i1:Inv (qk C s).c:=by
  have e3:(qk C s).c={s.c with ag:=s.c.ag.tick,q:=w5 s.c.q s.c.ag.ended,t:=kK s.c.t s.c.ag.ended,head:=DV}:=a3;refine Inv.A6 (T:=s.c.ag.tick) (Inv.KA (T:=s.c.ag) a1 (by rw[e3];exact ap7 h.p h.ag) ?_ ?_) (by rw[e3])
  ·rw[e3];intro x hx;obtain⟨rp,AF⟩:=(ap5 _ _ _).1 hx;have:=h.q.each x rp;refine abE ⟨this.2.1,this.2.2.1⟩ this.2.2.2.1 (λhm=>AF x.source hm ?_ rfl);simp[linked];omega
  ·rw[e3];intro ho;have hf:=abD s.c.ag.ended s.c.t;show s.c.ag.tick.on (kK s.c.t s.c.ag.ended).offer=true;have jZ:0<=(kK s.c.t s.c.ag.ended).offer:=ho;rcases hf.2.2.2.2 with⟨e,cw⟩|⟨e,_⟩|⟨e,e'⟩
   ·rw[e]at jZ⊢;rcases h.tok.offer with h1|⟨h1,h2,_,h3,_⟩
    ·omega
    ·refine abE ⟨h1,h2⟩ h3 (λhm=>cw _ hm ?_ rfl);simp[linked];omega
   ·rw[e]at jZ;simp[Tok.ir]at jZ
   ·rw[e',e]at jZ;omega
 have e1:(qk C s).c={s.c with ag:=s.c.ag.tick,q:=w5 s.c.q s.c.ag.ended,t:=kK s.c.t s.c.ag.ended,head:=DV}:=a3;have hf:=abD s.c.ag.ended s.c.t;generalize qk C s=s1 at*;have SU:=i1.kF;have hk:=aqd i1.tok;have i2:Inv {s1.c with t:=s1.c.t.tick.1}:=⟨i1.p,hk.2.2.2.2.1,by show pk _ _ s1.c.t.tick.1.ay _;rw[hk.1];exact i1.q,i1.ag,i1.samples,i1.mode,i1.doors⟩;have q2:Quiet C b s1 (qm C s1)/\∃hd,(qm C s1).c={s1.c with t:=s1.c.t.tick.1,head:=hd}:=by
  have q20:Quiet C b s1 (s1.dX s1.c.t.tick.1):=aa.iA hk.1 hk.2.1 rfl rfl;unfold qm;dsimp only;split
  ·rename_i hw;have hw':1<=s1.c.t.tick.2/\s1.c.t.tick.2<=3:=by rcases hk.2.2.2.2.2 with⟨e,_⟩|⟨e,_,_,_⟩<;>omega
   refine⟨q20.trans (Quiet.trans (aa.yI (aa.GA (by omega) (by omega))) (aa.nB (by simp) ?_)),?_⟩
   ·refine⟨by simp,by dsimp only;omega,by simp,?_,by simp,by simp⟩;dsimp only;rw[aa.k8];show 0<=s1.c.t.tick.1.af/\s1.c.t.tick.1.af<=65535;rw[hk.2.1];exact SU
   ·refine⟨C.next s1.c.head ⟨12,s1.c.t.tick.2,0,s1.c.t.tick.1.af,30,0⟩,?_⟩;rw[show∀(y:aa) (k a n e w:Int),(y.record C k a n e w).c={y.c with head:=C.next y.c.head ⟨k,a,n,y.c.t.af,e,w⟩}from λ_ _ _ _ _ _=>rfl,aa.pV];rfl
  ·exact⟨q20,s1.c.head,rfl⟩
 obtain⟨q2,Gw,e2⟩:=q2;have w7:Inv (qm C s1).c:=by rw[e2];exact i2.head _
 generalize qm C s1=s2 at*;have e20:=w7.kF;obtain⟨a4,hd3,e3⟩:=aqc (C:=C) (b:=b) (Q.gone s2.c.q) ({s2 with c:={s2.c with q:=Q.kept s2.c.q}}:aa)
  (λa ha=>by
   obtain⟨x,hx,rfl,_⟩:=aqb ha;have:=w7.q.each x hx;exact⟨this.2.1,this.2.2.1⟩) e20
 have q3:Quiet C b s2 (w6 C s2):=Quiet.trans (t:=({s2 with c:={s2.c with q:=Q.kept s2.c.q}}:aa)) (aa.iA rfl rfl rfl rfl) a4;have tp:(w6 C s2).c={s2.c with q:=Q.kept s2.c.q,head:=hd3}:=e3;have i3:Inv (w6 C s2).c:=by
  rw[tp];exact⟨w7.p,w7.tok,w7.q.kept,w7.ag,w7.samples,w7.mode,w7.doors⟩
 refine⟨q1.trans (q2.trans q3),i3,?_,?_,?_,?_,?_,?_,?_,?_,?_,?_⟩
 ·rw[tp,e2,e1]
 ·rw[tp,e2,e1]
 ·rw[tp,e2];show s1.c.t.tick.1.ay=_;rw[hk.1,e1];exact hf.1
 ·rw[tp,e2];show s1.c.t.tick.1.af=_;rw[hk.2.1,e1];exact hf.2.1
 ·rw[tp,e2];show s1.c.t.tick.1.la=_;rw[hk.2.2.1,e1];exact hf.2.2.1
 ·rw[tp,e2];show s1.c.t.tick.1.bad=_;rw[hk.2.2.2.1,e1];exact hf.2.2.2.1
 ·rw[tp,e2,e1]
 ·rw[tp,e2,e1]
 ·rw[tp,e2,e1];exact⟨rfl,rfl,rfl⟩
 ·rw[tp,e2,e1];exact⟨rfl,rfl,rfl⟩
structure aqg (c m c':Core) (how:Int):Prop where
 p:c'.p=c.p
 ag:c'.ag=c.ag.tick
 lost:zg c.p m.t m.q (m.ag.on m.t.ay) c'.t how c'.q
 awx:how=5->c'.mode=c.p.lost/\c'.ff=⟨3,4,0⟩/\c'.pt=(c.pt.hold ⟨3,4,0⟩).step c.p
 stays:how=0->c'.mode=c.mode/\c'.ff=c.ff/\c'.pt=c.pt.step c.p
theorem aqh (h:Inv s.c):fb C b s (s.tick C) 3 0/\∃m how,Mid s.c m/\aqg s.c m (s.tick C).c how:=by
 obtain⟨q3,hm⟩:=abG (C:=C) (b:=b) h;rw[TU];generalize w6 C (qm C (qk C s))=s3 at*;obtain⟨⟨i4,w4⟩,t4,p4,l4,r4,cP⟩:=aqf (C:=C) (b:=b) hm.inv;generalize hs4:s3.dU C=s4 at*;dsimp only;have i5:Inv {s4.c with pt:=s4.c.pt.step s4.c.p}:=⟨i4.p,i4.tok,i4.q,i4.ag,i4.samples,i4.mode,i4.doors⟩;have q5:Quiet C b s4 ({s4 with c:={s4.c with pt:=s4.c.pt.step s4.c.p}}:aa):=aa.iA rfl rfl rfl rfl;refine⟨⟨i5,?_⟩,s3.c,(fZ s3.c.p s3.c.t s3.c.q (s3.c.ag.on s3.c.t.ay)).2.1,hm,p4.trans hm.p,t4.trans hm.ag,?_,?_,?_⟩
 ·rcases w4 with w4|⟨how,g4,w4⟩
  ·exact .inl (q3.trans (w4.trans q5))
  ·refine .inr ⟨how,(q3.goes g4).quiet q5 g4.offer,?_⟩;unfold uu at*;simp only[hm.ay,hm.af]at w4;rcases w4 with⟨e,k,_⟩|⟨e,k,_⟩|⟨e,k,_⟩|⟨e,k,_⟩|w4|⟨e,k,w4⟩
   ·omega
   ·omega
   ·omega
   ·omega
   ·exact .inr (.inr (.inr (.inr (.inl ⟨w4.1,rfl,w4.2.2⟩))))
   ·refine .inr (.inr (.inr (.inr (.inr ⟨e,k,?_⟩))));rcases w4 with⟨e',_⟩|w4
    ·omega
    ·exact .inr ⟨rfl,w4.2⟩
 ·rw[hm.p]at l4;rw[hm.p];exact l4
 ·intro e;obtain⟨r1,r2,r3⟩:=r4 e;refine⟨by rw[<-hm.p];exact r1,r2,?_⟩;show s4.c.pt.step s4.c.p=_;rw[r3,p4,hm.p,hm.mode.2.2]
 ·intro e;obtain⟨r1,r2,r3⟩:=cP e;refine⟨by rw[<-hm.mode.1];exact r1,by rw[<-hm.mode.2.1];exact r2,?_⟩;show s4.c.pt.step s4.c.p=_;rw[r3,p4,hm.p,hm.mode.2.2]
structure Calm (s s':aa):Prop where
 bA:∃rs:List Rec,s'.bA=s.bA++rs/\∀r∈rs,r.kind≠1/\r.kind≠7
 bh:∃ts:List (Int×aE),s'.bh=s.bh++ts/\∀x∈ts,132<x.2.kind
theorem Calm.refl (s:aa):Calm s s:=⟨⟨[],by simp,by simp⟩,⟨[],by simp,by simp⟩⟩
theorem Calm.trans {s t u:aa} (h:Calm s t) (k:Calm t u):Calm s u:=by
 obtain⟨⟨rs,r1,r2⟩,⟨ts,t1,t2⟩⟩:=h;obtain⟨⟨qs,q1,q2⟩,⟨us,u1,u2⟩⟩:=k;exact⟨⟨rs++qs,by rw[q1,r1,bR],λr hr=>(eJ.1 hr).elim (r2 r) (q2 r)⟩,⟨ts++us,by rw[u1,t1,bR],λx hx=>(eJ.1 hx).elim (t2 x) (u2 x)⟩⟩
structure Mf (c c':Core):Prop where
 p:c'.p=c.p
 t:c'.t=c.t
 q:c'.q=c.q
 on:∀x,c'.ag.on x=c.ag.on x
 role:∀x,c'.ag.role x=c.ag.role x
 mode:c'.mode=c.mode
 ff:c'.ff=c.ff
 pt:c'.pt=c.pt
inductive Class (s s':aa) (l:Int):Prop
 |rejected (e:Int) (he:e≠0) (hr:s'.bA=s.bA++[⟨1,l,0,s.c.t.af,e,0⟩]) (hs:s'.bh=s.bh) (hc:Mf s.c s'.c)
 |refused (n e:Int) (he:e≠0) (hr:s'.bA=s.bA++[⟨7,l,n,s.c.t.af,e,0⟩]) (hs:s'.bh=s.bh++[(l,{kind:=132,seq:=n,code:=e})]) (hc:Mf s.c s'.c)
 |done (r:aE) (hr:129<=r.kind/\r.kind<=131) (rs:List Rec) (h1:s'.bA=s.bA++rs) (h2:∀r∈rs,r.kind≠1/\r.kind≠7) (xs ys:List (Int×aE)) (h3:s'.bh=s.bh++(xs++(l,r)::ys)) (h4:∀x∈xs++ys,132<x.2.kind)
theorem Mf.refl (c:Core):Mf c c:=⟨rfl,rfl,rfl,λ_=>rfl,λ_=>rfl,rfl,rfl,rfl⟩
theorem Class.A6 {T:aA} {t:aa} (k:Class ({s with c:={s.c with ag:=T}}:aa) t l) (iT:∀x,T.on x=s.c.ag.on x) (hr:∀x,T.role x=s.c.ag.role x):Class s t l:=by
 cases k with
 |rejected e he fD hs hc=>exact .rejected e he fD hs ⟨hc.p,hc.t,hc.q,λx=>(hc.on x).trans (iT x),λx=>(hc.role x).trans (hr x),hc.mode,hc.ff,hc.pt⟩
 |refused n e he fD hs hc=>exact .refused n e he fD hs ⟨hc.p,hc.t,hc.q,λx=>(hc.on x).trans (iT x),λx=>(hc.role x).trans (hr x),hc.mode,hc.ff,hc.pt⟩
 |done r hr rs h1 h2 xs ys h3 h4=>exact .done r hr rs h1 h2 xs ys h3 h4
end Sd
namespace Sd
variable{C:aL}
def DY (C:aL) (c:Core):Core:=((⟨c,[],[]⟩:aa).tick C).c
end Sd
namespace Sd
variable{C:aL} {s:aa}
def Bd (n:Int):Prop:=-9223372036854775808<=n/\n<=9223372036854775807
def uM (t:Timer):Prop:=Bd t.n/\Bd t.most
structure oE (t:aA):Prop where
 hi:∀j,(t.aj (j+3)).on=false
 st:uM t.c9.2
 ss:∀j,uM (t.aj j).eL
structure gQ (t:Tok):Prop where
 oa:uM t.oa
 la:uM t.la
def nM (x:X4):Prop:=Bd x.a/\Bd x.b/\Bd x.c/\Bd x.d
structure HB (p:eF):Prop where
 aU:nM p.aU
 now:nM p.now
structure Ext (c:Core):Prop where
 ag:oE c.ag
 t:gQ c.t
 pt:HB c.pt
 d:∀i,(c.doors i).many<=4294967295
 be:Bd c.beyond
theorem uN:Bd 0:=⟨by decide,by decide⟩
theorem rP:uM Timer.zero:=⟨uN,uN⟩
theorem HC:nM X4.zero:=⟨uN,uN,uN,uN⟩
theorem abH {n m:Int} (h:Bd n) (k:Bd m):Bd (sat n m):=by
 unfold Bd sat at*;split<;>omega
theorem DZ {n a b:Int} (h:a<=n/\n<=b) (ha:-9223372036854775808<=a) (hb:b<=9223372036854775807):Bd n:=⟨by omega,by omega⟩
theorem HD {m:Int} (h:Bd m):uM (Timer.start m):=⟨uN,by unfold Timer.start Bd at*;dsimp only;omega⟩
theorem HE {t:Timer} (h:uM t):uM t.step:=⟨abH h.1 h.2,h.2⟩
theorem Ext.eq {c c':Core} (h:Ext c) (h1:c'.ag=c.ag) (h2:c'.t=c.t) (h3:c'.pt=c.pt) (h4:c'.doors=c.doors) (h5:c'.beyond=c.beyond):Ext c':=
 ⟨h1▸h.ag,h2▸h.t,h3▸h.pt,h4▸h.d,h5▸h.be⟩
theorem Ext.new {p:aN}:Ext (Core.new p):=⟨⟨λ_=>rfl,rP,λ_=>rP⟩,⟨rP,rP⟩,⟨HC,HC⟩,λ_=>show(0:Int)<=4294967295 by decide,uN⟩
theorem Mg {t:Tok} {a b:Int}:gQ (t.pass a b):=⟨rP,rP⟩
theorem HF {t:Tok} (h:gQ t) {a:Int}:gQ (t.cY a).1:=by
 unfold Tok.cY;split
 ·exact h
 split
 ·exact h
 split
 ·exact h
 exact Mg
theorem abI {t:Tok} (h:gQ t):gQ t.ir:=⟨rP,h.la⟩
theorem aqi {p:aN} (hp:eO p) {t:Tok} (h:gQ t) {a b:Int} {th:Bool}:gQ (t.make p a b th).1:=by
 unfold Tok.make;split
 ·exact h
 split
 ·exact h
 split
 ·exact h
 split
 ·exact h
 split
 ·exact h
 exact⟨HD (DZ hp.offer (by decide) (by decide)),h.la⟩
theorem aqj {t:Tok} (h:gQ t) {a b:Int}:gQ (t.accept a b).1:=by
 unfold Tok.accept;split
 ·exact h
 split
 ·exact h
 exact HF h
theorem aqk {t:Tok} (h:gQ t) {a:Int}:gQ (t.fy a).1:=by
 unfold Tok.fy;split
 ·exact h
 exact abI h
theorem abJ {t:Tok} (h:gQ t) {a:Int}:gQ (t.drop a).1:=by
 unfold Tok.drop;split
 ·exact h
 exact abI h
theorem abK {t:Tok} (h:gQ t):gQ t.tick.1:=by
 unfold Tok.tick;split
 ·exact h
 split
 ·exact⟨rP,h.la⟩
 exact⟨HE h.oa,h.la⟩
theorem abL {p:aN} {t:Tok} {m:Int} {q:List Ask} {f:Int} {now:Bool} (h:gQ t):gQ (eY p t m q f now).1:=by
 unfold eY;split
 ·exact h
 split
 ·exact h
 split
 ·exact h
 split
 ·split
  ·exact h
  ·exact HF h
 split
 ·exact h
 exact h
theorem abM {t:Tok} (h:gQ t) {q:List Ask}:gQ (fg t q).1:=by
 unfold fg;split
 ·exact h
 split
 ·exact h
 exact HF h
theorem abN {t:Tok} (h:gQ t) {q:List Ask} {f:Int}:gQ (cZ t q f).1:=by
 unfold cZ;split
 ·exact h
 split
 ·exact h
 exact abM h
theorem T5 {p:aN} (hp:eO p) {t:Tok} (h:gQ t) {q:List Ask} {th:Bool}:gQ (fZ p t q th).1:=by
 unfold fZ;split
 ·exact⟨h.oa,rP⟩
 have su:uM (if t.la.most=0 then Timer.start p.dU else t.la).step:=by
  split
  ·exact HE (HD (DZ hp.dU (by decide) (by decide)))
  ·exact HE h.la
 dsimp only;generalize (if t.la.most=0 then Timer.start p.dU else t.la).step=la at*;have h1:gQ {t with la:=la}:=⟨h.oa,su⟩;split
 ·exact h1
 split
 ·exact Mg
 split
 ·exact HF h1
 exact abM h1
theorem Ext.record {k a n e w:Int} (h:Ext s.c):Ext (s.record C k a n e w).c:=⟨h.ag,h.t,h.pt,h.d,h.be⟩
theorem Ext.dH {l:Int} {r:aE} (h:Ext s.c):Ext (s.dH l r).c:=by rw[aa.k8];exact h
theorem Ext.gone {l w e:Int} (h:Ext s.c):Ext (s.gone l w e).c:=h.dH
theorem Ext.tell {l:Int} {r:aE} (h:Ext s.c):Ext (s.tell l r).c:=h
theorem Ext.done {l n:Int} (h:Ext s.c):Ext (s.done l n).c:=h
theorem Ext.refuse {l n e:Int} (h:Ext s.c):Ext (s.refuse C l n e).c:=Ext.record (s:=s.tell l _) h
theorem Ext.iF {l e:Int} (h:Ext s.c):Ext (s.iF C l e).c:=h.record
theorem Ext.goes {t:Tok} {how n:Int} (h:Ext s.c) (ht:gQ t):Ext (s.goes C t how n).c:=by
 obtain⟨x,e⟩:=aa.Gz C s t how n;rw[e];exact⟨h.ag,ht,h.pt,h.d,h.be⟩
theorem Ext.leave {x:Int} (h:Ext s.c):Ext (s.leave C x).c:=by
 obtain⟨hd,e⟩:=Rg C s x;rw[e];exact⟨h.ag,abJ h.t,h.pt,h.d,h.be⟩
theorem Ext.dX {t:Tok} (h:Ext s.c) (ht:gQ t):Ext (s.dX t).c:=⟨h.ag,ht,h.pt,h.d,h.be⟩
theorem Ext.HG {q:List Ask} (h:Ext s.c):Ext ({s with c:={s.c with q:=q}}:aa).c:=⟨h.ag,h.t,h.pt,h.d,h.be⟩
theorem Ext.dW {m:Int} {y:Label} (h:Ext s.c):Ext (s.dW m y).c:=⟨h.ag,h.t,⟨HC,h.pt.now⟩,h.d,h.be⟩
theorem T6 {t:aA} (h:oE t) {i:Nat} (hi:i<3) {x:gy} (hx:uM x.eL):oE (t.ei i x) where
 hi:=by
  intro j;unfold aA.ei;dsimp only;rw[if_neg (by omega)];exact h.hi j
 st:=h.st
 ss:=by
  intro j;unfold aA.ei;dsimp only;split
  ·exact hx
  ·exact h.ss j
theorem aql {t:aA} (h:oE t) {l:Int} (hl:1<=l/\l<=3):oE (t.end_ l):=by
 unfold aA.end_;split
 ·exact T6 h (by omega) rP
 ·exact h
theorem aqm {p:aN} (hp:eO p) {t:aA} (h:oE t) {l r:Int} {key:av}:oE (aA.dV p t l r key).1:=by
 unfold aA.dV;split
 ·exact h
 split
 ·exact h
 exact T6 h (by omega) (HD (DZ hp.bW (by decide) (by decide)))
theorem aqn {p:aN} (hp:eO p) {t:aA} (h:oE t) {l:Int} (hl:1<=l/\l<=3) {n:Nat} {f:av}:oE (aA.take C p t l n f).1:=by
 unfold aA.take;split
 ·exact h
 split
 ·exact h
 split
 ·exact h
 split
 ·exact h
 split
 ·exact h
 exact T6 h (by omega) (HD (DZ hp.bW (by decide) (by decide)))
theorem aqo {p:aN} (hp:eO p) {t:aA} (h:oE t):oE (t.fO p):=⟨h.hi,HD (DZ hp.bW (by decide) (by decide)),h.ss⟩
theorem aqp {t:aA} (h:oE t):oE t.tick where
 hi:=by
  intro j;simp only[aA.tick,h.hi j];simp[h.hi j]
 st:=by
  unfold aA.tick;dsimp only;split
  ·split
   ·exact rP
   ·exact HE h.st
  ·exact h.st
 ss:=by
  intro j;unfold aA.tick;dsimp only;split
  ·split
   ·exact rP
   ·exact HE (h.ss j)
  ·exact h.ss j
theorem Mh {n a b:Int} (ha:Bd a) (hb:Bd b) (h:Bd n):Bd (tR n a b):=by
 unfold tR;split
 ·exact ha
 split
 ·exact hb
 exact h
theorem abO {p:aN} (hp:eO p) {pt:eF} (h:HB pt) {c:Int} {x:X4} (hx:nM x) {y:Label}:HB (pt.set p c x y) where
 aU:=by
  unfold eF.set;dsimp only;split
  ·exact HC
  ·have hm:=hp.most c.toNat (by omega);have h1:Bd (-(p.most c.toNat)):=⟨by omega,by omega⟩;have h2:Bd (p.most c.toNat):=⟨by omega,by omega⟩;exact⟨Mh h1 h2 hx.1,Mh h1 h2 hx.2.1,Mh h1 h2 hx.2.2.1,Mh h1 h2 hx.2.2.2⟩
 now:=h.now
theorem Mi {a b r:Int} (ha:Bd a) (hb:Bd b):Bd (qU a b r):=by
 unfold qU Bd at*;split
 ·exact ha
 split
 ·split<;>omega
 ·split<;>omega
theorem aqq {p:aN} {pt:eF} (h:HB pt):HB (pt.step p) where
 aU:=h.aU
 now:=⟨Mi h.now.1 h.aU.1,Mi h.now.2.1 h.aU.2.1,Mi h.now.2.2.1 h.aU.2.2.1,Mi h.now.2.2.2 h.aU.2.2.2⟩
theorem aqr {m:aY} {l:Int} (hl:1<=l/\l<=3) (hp:eO s.c.p) (hx:nM m.x) (h:Ext s.c):Ext (s.jh C l m).c:=by
 unfold aa.jh;split
 ·exact h.done
 split
 ·unfold aa.Ao;refine Ext.done (Ext.record (Ext.leave ?_));exact⟨aql h.ag hl,h.t,h.pt,h.d,h.be⟩
 split
 ·unfold aa.ask;dsimp only;split
  ·exact h.refuse
  refine Ext.done ?_;split
  ·exact Ext.goes (h.HG) (abL h.t)
  ·exact Ext.record (Ext.dX h.HG (abL h.t))
 split
 ·unfold aa.offer;dsimp only;split
  ·exact h.refuse
  exact Ext.done (Ext.record (Ext.dH (Ext.dX h (aqi hp h.t))))
 split
 ·unfold aa.accept;dsimp only;split
  ·exact h.refuse
  exact Ext.done (Ext.goes h (aqj h.t))
 split
 ·unfold aa.fy;dsimp only;split
  ·exact h.refuse
  exact Ext.done (Ext.record (Ext.gone (Ext.dX h (aqk h.t))))
 split
 ·unfold aa.release;dsimp only;split
  ·exact h.refuse
  exact Ext.done (Ext.goes h.HG (abN h.t))
 split
 ·unfold aa.command;dsimp only;split
  ·exact h.refuse
  refine Ext.done (Ext.record ?_);split
  ·exact⟨h.ag,h.t,h.pt,h.d,h.be⟩
  ·exact⟨h.ag,h.t,abO hp h.pt hx,h.d,h.be⟩
 ·exact h
theorem aqs {l code:Int} {n:Nat} {f:av} (hx:∀n f m,C.take n f=some m->nM m.x) (hl:1<=l/\l<=3) (hp:eO s.c.p) (h:Ext s.c):Ext (s.item C l code n f).c:=by
 unfold aa.item;split
 ·exact h.iF
 split
 ·unfold aa.kQ;split
  ·exact h.iF
  split
  ·exact h.refuse
  dsimp only;split
  ·exact h.refuse
  refine Ext.record (Ext.tell ?_);refine⟨h.ag,h.t,h.pt,?_,h.be⟩;intro i;dsimp only;split
  ·dsimp only;omega
  ·exact h.d i
 split
 ·unfold aa.prove;split
  ·exact h.iF
  split
  ·exact h.iF
  dsimp only;split
  ·exact h.refuse
  have h1:∀{b:Bool} {x:av},Ext ({s.c with doors:=λj=>if j=l.toNat-1 then⟨(s.c.doors (l.toNat-1)).many,b,x⟩else s.c.doors j}:Core):=by
   intro b x;refine⟨h.ag,h.t,h.pt,?_,h.be⟩;intro i;dsimp only;split
   ·exact h.d _
   ·exact h.d i
  split
  ·exact Ext.iF (s:=({s with c:=_}:aa)) h1
  split
  ·exact Ext.refuse (s:=({s with c:=_}:aa)) h1
  split
  ·exact Ext.refuse (s:=({s with c:=_}:aa)) h1
  refine Ext.record (Ext.tell ?_);exact⟨aqm hp h.ag,h.t,h.pt,(@h1 false λ_=>0).d,h.be⟩
 split
 ·exact h.iF
 ·rename_i ag m heq;have h1:oE ag:=by have:=aqn (C:=C) hp h.ag hl (n:=n) (f:=f);rw[heq]at this;exact this
  have hm:nM m.x:=by
   unfold aA.take at heq;split at heq
   ·cases heq
   split at heq
   ·cases heq
   split at heq
   ·cases heq
   ·rename_i m' vB;split at heq
    ·cases heq
    split at heq
    ·cases heq
    cases heq;exact hx _ _ _ vB
  exact aqr hl hp hm ⟨h1,h.t,h.pt,h.d,h.be⟩
theorem aqt {x:g9} (hx:nM x.x) (hp:eO s.c.p) (h:Ext s.c):Ext (s.fO C x).c:=by
 have hs:Bd (eh s.c.p s.c.beyond x).1:=by
  unfold eh;split
  ·exact uN
  ·exact abH (by have:=h.be;unfold Bd at*;omega) (DZ hp.pj (by decide) (by decide))
 unfold aa.fO;split
 ·exact⟨h.ag,h.t,h.pt,h.d,uN⟩
 dsimp only;have h1:Ext ({s.c with samples:=sat s.c.samples 4294967295,ag:=s.c.ag.fO s.c.p,beyond:=(eh s.c.p s.c.beyond x).1}:Core):=⟨aqo hp h.ag,h.t,h.pt,h.d,hs⟩;split
 ·split
  ·exact Ext.record (s:=({s with c:=_}:aa)) h1
  ·exact Ext.goes ⟨h1.ag,h1.t,h1.pt,h1.d,h1.be⟩ (abN h.t)
 split
 ·split
  ·exact Ext.record (s:=({s with c:=_}:aa)) h1
  ·exact Ext.record (s:=({s with c:=_}:aa)) ⟨h1.ag,h1.t,abO hp h.pt hx,h1.d,h1.be⟩
 split
 ·split
  ·exact Ext.record (s:=({s with c:=_}:aa)) h1
  ·exact Ext.goes (s:=({s with c:=_}:aa)) h1 (HF h.t)
 ·exact h1
theorem aqu (q:List Ask):∀s:aa,Ext s.c->Ext (q.foldl mO s).c:=by
 induction q with
 |nil=>intro s h;exact h
 |cons a q ih=>intro s h;exact ih _ (by rw[Mb];exact⟨h.ag,h.t,h.pt,h.d,h.be⟩)
theorem aqv {bad:Bool} (h:Ext s.c):Ext (s.qV C bad).c:=by
 cases bad with
 |false=>exact⟨h.ag,⟨h.t.oa,h.t.la⟩,h.pt,h.d,h.be⟩
 |true=>
  rw[abB true rfl];refine Ext.dW (aqu _ _ ?_);have h0:Ext (s.dX {s.c.t with bad:=true}).c:=Ext.dX h ⟨h.t.oa,h.t.la⟩;split
  ·exact Ext.goes h0 Mg
  ·exact Ext.dX h0 Mg
theorem aqw (xs:List Int):∀t:Tok,gQ t->gQ (kK t xs):=by
 induction xs with
 |nil=>intro t h;exact h
 |cons x xs ih=>
  intro t h;unfold kK at*;rw[ve];refine ih _ ?_;split
  ·exact abJ h
  ·exact h
theorem aqx (xs:List Int):∀s:aa,Ext s.c->Ext (xs.foldl (oD C) s).c:=by
 induction xs with
 |nil=>intro s h;exact h
 |cons x xs ih=>
  intro s h;refine ih _ ?_;obtain⟨hd,e⟩:=abC C s x;rw[e];exact⟨h.ag,aqw _ _ h.t,h.pt,h.d,h.be⟩
theorem aqy (q:List Ask):∀s:aa,Ext s.c->Ext (q.foldl (zf C) s).c:=by
 induction q with
 |nil=>intro s h;exact h
 |cons a q ih=>intro s h;exact ih _ (Ext.record (Ext.gone h))
theorem aqz (hp:eO s.c.p) (h:Ext s.c):Ext (s.dU C).c:=by
 unfold aa.dU;dsimp only;split
 ·exact Ext.dX h (T5 hp h.t)
 split
 ·exact Ext.dW (Ext.goes h.HG (T5 hp h.t))
 ·exact Ext.dW (Ext.goes h.HG (T5 hp h.t))
theorem aqA (hi:Inv s.c) (h:Ext s.c):Ext (s.tick C).c:=by
 rw[TU];have h1:Ext (qk C s).c:=aqx _ _ ⟨aqp h.ag,h.t,h.pt,h.d,h.be⟩;have h2:Ext (qm C (qk C s)).c:=by
  unfold qm;dsimp only;split
  ·exact Ext.record (Ext.gone (Ext.dX h1 (abK h1.t)))
  ·exact Ext.dX h1 (abK h1.t)
 have h3:Ext (w6 C (qm C (qk C s))).c:=aqy _ _ ⟨h2.ag,h2.t,h2.pt,h2.d,h2.be⟩;have hp:eO (w6 C (qm C (qk C s))).c.p:=by rw[(abG (b:=True) hi).2.p];exact hi.p
 have h4:=aqz (C:=C) hp h3;exact⟨h4.ag,h4.t,aqq h4.pt,h4.d,h4.be⟩
end Sd
namespace Sx
open Go Go.RowKit Go.BigFrame
theorem St.dup {ms:List Nat} {w0 w:ae} {bs:List ai} {b:ai} (S:St ms w0 bs w) (hb:b∈bs) (hw:b.wr=false):St ms w0 (b::bs) w:=by
 refine St.mk' S.ch ?_ ?_ ?_
 ·intro x hx;rcases ca.1 hx with rfl|hx
  ·exact S.at' hb
  ·exact S.at' hx
 ·intro x hx h;rcases ca.1 hx with rfl|hx
  ·rw[hw]at h;cases h
  ·exact S.oe hx h
 ·refine zR.2 ⟨?_,S.pw⟩;intro y hy;obtain⟨i,hi⟩:=zM hb;obtain⟨j,hj⟩:=zM hy;intro h;have T7:y.wr=true:=by
   rcases h with h|h
   ·rw[hw]at h;cases h
   ·exact h
  have cw:j≠i:=λe=>by
   rw[e,hi]at hj;have:=cA hj;rw[this]at hw;rw[hw]at T7;cases T7
  exact(S.apart j i y b hj hi cw T7).symm
end Sx
namespace Go.Proofs.YtggfpcggakghnaaGreatDoor
open Go Go.RowKit Go.BigFrame Sx Vx
variable{fr:Sd.aE->Nat×Sd.av}
inductive LG (fr:Sd.aE->Nat×Sd.av) where
 |aZ (u:ae)
 |core (g:Gh fr) (fB:List ai)
 |row (r:bU)
instance:Bl (LG fr):=⟨λg=>match g with|.aZ u=>dC u|.core g fB=>g.F.B++fB|.row r=>r.bl⟩
mutual
def gI (n:Nat):V->V
 |.ptr i o=>.ptr (i+n) o
 |.sl i o m c=>.sl (i+n) o m c
 |.f_ i o m c x=>.f_ (i+n) o m c x
 |.pe i o j z k=>.pe (i+n) o j z k
 |.fn f a b=>.fn f (oF n a) (oF n b)
 |.lV t v=>.lV t (gI n v)
 |.agg l=>.agg (oF n l)
 |.an l=>.an (oF n l)
 |v=>v
def oF (n:Nat):List V->List V
 |[]=>[]
 |v::l=>gI n v::oF n l
end
theorem Mj {ids xs:List Nat} (i:Nat):(ids++xs).getD (i+ids.length) 0=xs.getD i 0:=by
 simp[ij,zL (show ids.length<=i+ids.length by omega)]
mutual
theorem D0 {ids xs:List Nat}:∀v:V,den (ids++xs) (gI ids.length v)=den xs v
 |.ptr i _=>by simp only[gI,den,Mj]
 |.sl i _ _ _=>by simp only[gI,den,Mj]
 |.f_ i _ _ _ _=>by simp only[gI,den,Mj]
 |.pe i _ _ _ _=>by simp only[gI,den,Mj]
 |.fn _ a b=>by simp only[gI,den,Mk a,Mk b]
 |.lV _ v=>by simp only[gI,den,D0 v]
 |.agg l=>by simp only[gI,den,T8 l]
 |.an l=>by simp only[gI,den,Mk l]
 |.int _ _=>by simp[gI,den]
 |.bool _=>by simp[gI,den]
 |.bJ _ _ _=>by simp[gI,den]
 |.arr _ _ _=>by simp[gI,den]
 |.eo _ _ _ _=>by simp[gI,den]
 |.rest _=>by simp[gI,den]
 |.fh _ _ _=>by simp[gI,den]
 |.raw _=>by simp[gI,den]
theorem Mk {ids xs:List Nat}:∀l:List V,aD (ids++xs) (oF ids.length l)=aD xs l
 |[]=>by simp[oF,aD]
 |v::l=>by simp only[oF,aD,D0 v,Mk l]
theorem T8 {ids xs:List Nat}:∀l:List V,ah (ids++xs) (oF ids.length l)=ah xs l
 |[]=>by simp[oF,ah]
 |v::l=>by
  simp only[oF,ah,T8 l];congr 1;have h:=D0 (ids:=ids) (xs:=xs) v;cases v<;>simp only[gI,cl]at h⊢<;>first|rfl|rw[h]
end
def w8 (n:Nat):List VB->List VB
 |[]=>[]
 |b::l=>⟨b.wr,b.ty,oF n b.c⟩::w8 n l
theorem abP (n:Nat):∀l:List VB,(w8 n l).length=l.length
 |[]=>rfl
 |_::l=>by simp[w8,abP n l]
theorem abQ {ids xs:List Nat}:∀(is:List Nat) (bl:List VB),lits (ids++xs) is (w8 ids.length bl)=lits xs is bl
 |[],_=>by simp[lits]
 |_::_,[]=>by simp[lits,w8]
 |i::is,b::bl=>by
  simp only[w8,lits,abQ is bl];unfold az;simp only[T8]
abbrev HH (fr:Sd.aE->Nat×Sd.av) (k:LK):=V->(s':Sd.aa)->aW fr (aR k s')->List ai->List VB->Prop
abbrev LM (fr:Sd.aE->Nat×Sd.av):=List V->(k:LK)->(s:Sd.aa)->aW fr (aR k s)->HH fr k->Prop
def eC (bl:List VB) (ic it:Nat) (k:LK) (s:Sd.aa):List VB:=(bl.set ic (gL k it s)).set it (gE s)
def w9 (M:ae->LM fr):c_ (LG fr):=λargs bl ch K=>match args,ch with
 |.ptr ic 0::ar,.aZ u::.core g fB::rest=>(match bl[ic]?with
  |some ⟨true,⟨105,(0,0)⟩,cc⟩=>(match Bc cc with
   |some x=>(match bl[x.it]?with
    |some ⟨true,⟨157,(0,0)⟩,tc⟩=>(match s7 tc with
     |some y=>cond (bj 0 ar&&(bM bl.length bl&&(cu 1 ic&&(cu 1 x.it&&!(aq ic x.it)))))
      ((bl[0]?=some (b9 g.d.k)/\bl[1]?=some (iB g.d.k)/\x=lG g.d.k x.it (fi x y g.d g.dx g.sx)/\y.b=x.p.bW/\y.m=x.p.d_/\x.p.queue=g.d.k.most)/\
        M u ar g.d.k (fi x y g.d g.dx g.sx) g.F λvv s' F' fn ex=>K (gI bl.length vv) (eC bl ic x.it g.d.k s'++ex) (.aZ u::.core (a_ g.d.k s' F') (fn++fB)::rest)) False
     |none=>False)
    |_=>False)
   |none=>False)
  |_=>False)
 |_,_=>False
abbrev cF (a b:Nat):List Nat:=[1,0,a,b]
def zh (f:fc) (M:ae->LM fr):Prop:=∀(u:ae) (ar:List V) (k:LK) (s:Sd.aa) (F:aW fr (aR k s)) (Kb:HH fr k) (a b:Nat) (R:List ai) (ms:List Nat) (w0 w:ae),bj 0 ar=true->s.c.p.queue=k.most->M u ar k s F Kb->
 St ms w0 (lits (cF a b) (cF a b) (cP k s)++(F.B++(dC u++R))) w->
 aS prog f (aD (cF a b) (.ptr 2 0::ar)).toArray w λv w'=>∃(vv:V) (s':Sd.aa) (F':aW fr (aR k s')) (fn:List ai) (ex:List VB) (xs:List Nat),xs.length=ex.length/\den xs vv=v/\bM 0 ex=true/\Kb vv s' F' fn ex/\
  St ms w0 (lits (cF a b) (cF a b) (cP k s')++(lits xs xs ex++(F'.B++(fn++(dC u++R))))) w'
theorem abR {ids:List Nat} {it a b:Nat} (n:Nat) {k:LK} {s:Sd.aa} (h:ids.getD it 0=b):az ids n (gL k it s)=az (cF a b) n (gL k 3 s):=by
 have e:(cF a b).getD 3 0=b:=rfl;simp only[az,gL,DD,lG,ah,cl,den,h,e]
structure BK (bl:List VB) (ic it:Nat) (k:LK) (s:Sd.aa):Prop where
 h0:bl[0]?=some (b9 k)
 h1:bl[1]?=some (iB k)
 hc:bl[ic]?=some (gL k it s)
 ht:bl[it]?=some (gE s)
theorem D4 {ids:List Nat} {bl:List VB} {ic it:Nat} {k:LK} {s:Sd.aa} (H:BK bl ic it k s) (hg:Gl gS ids):
 ([0,1,ic,it].map λj=>az ids (ids.getD j 0) (bl.getD j di))=lits (cF (ids.getD ic 0) (ids.getD it 0)) (cF (ids.getD ic 0) (ids.getD it 0)) (cP k s):=by
 have g0:=(hg 1 0 rfl).2;have g1:=(hg 0 1 rfl).2;simp only[eH,vf,jm H.h0,jm H.h1,jm H.hc,jm H.ht,g0,g1,cP,lits];rw[mL (ids':=cF (ids.getD ic 0) (ids.getD it 0)) (GZ k),mL (ids':=cF (ids.getD ic 0) (ids.getD it 0)) (aaE k),mL (ids':=cF (ids.getD ic 0) (ids.getD it 0)) (GY s),
  abR (a:=ids.getD ic 0) _ rfl]
theorem T9 {bl:List VB} {ic it:Nat} {k:LK} {s:Sd.aa} (H:BK bl ic it k s) (h2:1<ic) (h3:1<it) (n3:ic≠it) (s':Sd.aa):BK (eC bl ic it k s') ic it k s':=by
 have l2:=iU H.hc;have l3:=iU H.ht;unfold eC;refine⟨?_,?_,?_,?_⟩
 ·rw[kH (by omega),kH (by omega)];exact H.h0
 ·rw[kH (by omega),kH (by omega)];exact H.h1
 ·rw[kH (by omega),Be l2]
 ·rw[Be (by simpa using l3)]
theorem T_ {bl:List VB} {ids r:List Nat} {a b:Nat} {x y:VB} (hr:∀j∈r,j≠a/\j≠b):
 (r.map λj=>az ids (ids.getD j 0) (((bl.set a x).set b y).getD j di))=r.map λj=>az ids (ids.getD j 0) (bl.getD j di):=by
 apply qD;intro j hj;obtain⟨h1,h2⟩:=hr j hj;simp only[ij,List.getElem?_set];rw[if_neg (Ne.symm h2),if_neg (Ne.symm h1)]
theorem HI {n:Nat} {b:VB} (hb:bj n b.c=true):∀(bl:List VB) (i:Nat),bM n bl=true->bM n (bl.set i b)=true
 |[],_,_=>by simp[bM]
 |c::l,0,h=>by simp only[bM,bg,List.set_cons_zero]at h⊢;exact⟨hb,h.2⟩
 |c::l,i+1,h=>by simp only[bM,bg,List.set_cons_succ]at h⊢;exact⟨h.1,HI hb l i h.2⟩
theorem zi {ids ids':List Nat}:∀(xs:List Nat) (ex:List VB),bM 0 ex=true->lits ids xs ex=lits ids' xs ex
 |[],_,_=>by simp[lits]
 |_::_,[],_=>by simp[lits]
 |i::is,b::bl,h=>by
  simp only[bM,bg]at h;simp only[lits];rw[mL (ids':=ids') h.1,zi is bl h.2]
theorem abS {f:Nat} {M:ae->LM fr} (h:zh f M):Sound prog gS f (w9 M):=by
 intro args ids bl ch R ms w0 w K hg hl S hc;unfold w9 at hc;split at hc
 ·rename_i ic ar u g fB rest;split at hc
  ·rename_i cc qY;split at hc
   ·rename_i x hx;split at hc
    ·rename_i tc uA;split at hc
     ·rename_i y hy;cases hq:bj 0 ar&&(bM bl.length bl&&(cu 1 ic&&(cu 1 x.it&&!(aq ic x.it))))with
      |false=>rw[hq]at hc;exact hc.elim
      |true=>
       rw[hq]at hc;simp only[bg,lN,ie]at hq;obtain⟨q0,qw,q2,q3,q6⟩:=hq;have n3:ic≠x.it:=λe=>by rw[e,rV]at q6;cases q6
       obtain⟨⟨e3,e4,e5,e6,e7,e8⟩,hM⟩:=hc;obtain rfl:=GW hx;obtain rfl:=yV hy;have H:BK bl ic x.it g.d.k (fi x y g.d g.dx g.sx):=by
        refine⟨e3,e4,?_,?_⟩
        ·rw[qY];congr 1;unfold gL;rw[<-e5]
        ·rw[uA];congr 1;unfold gE;have:y=uz (fi x y g.d g.dx g.sx):=by
          obtain⟨y1,y2,y3,y4,y5,y6,y7,y8⟩:=y;simp only at e6 e7;subst e6 e7;rfl
         rw[<-this]
       have l2:=iU H.hc;have l3:=iU H.ht;obtain⟨r,hr,hp⟩:=yW (bl:=bl) (ids:=ids) hl (is:=[0,1,ic,x.it]) (by simp;omega) (by
        intro i hi;simp only[ca,oV,or_false]at hi;rcases hi with rfl|rfl|rfl|rfl<;>omega)
       have gM:=hp bl rfl;rw[D4 H hg]at gM;have S1:=S.perm (bs':=lits (cF (ids.getD ic 0) (ids.getD x.it 0)) (cF (ids.getD ic 0) (ids.getD x.it 0)) (cP g.d.k (fi x y g.d g.dx g.sx))++(g.F.B++(dC u++((r.map λj=>az ids (ids.getD j 0) (bl.getD j di))++(fB++ax rest R))))) (by
        refine(gM.append_right _).trans ?_;rw[bR];refine qG _ ?_;show((r.map λj=>az ids (ids.getD j 0) (bl.getD j di))++(dC u++((g.F.B++fB)++ax rest R))).Perm _;exact gO λf=>by simp only[ik];omega)
       have G0:=h u ar g.d.k (fi x y g.d g.dx g.sx) g.F _ _ _ _ ms w0 w q0 e8 hM S1;have cR:aD ids (.ptr ic 0::ar)=aD (cF (ids.getD ic 0) (ids.getD x.it 0)) (.ptr 2 0::ar):=by
        have a1:aD ids ar=aD [] ar:=by have:=nk (ids:=[]) (more:=ids) ar q0;simpa using this
        have a2:aD (cF (ids.getD ic 0) (ids.getD x.it 0)) ar=aD [] ar:=by have:=nk (ids:=[]) (more:=cF (ids.getD ic 0) (ids.getD x.it 0)) ar q0;simpa using this
        simp only[aD,den,a1,a2];rfl
       rw[cR];refine G0.mono ?_;rintro v w' ⟨vv,s',F',fn,ex,xs,fN,Ua,wY,hK,S2⟩;refine⟨gI bl.length vv,xs,eC bl ic x.it g.d.k s'++ex,.aZ u::.core (a_ g.d.k s' F') (fn++fB)::rest,?_,?_,?_,hK⟩
       ·rw[<-hl,D0];exact Ua.symm
       ·simp[eC,hl,fN]
       ·have H':=T9 H q2 q3 n3 s';have nG:=hp (eC bl ic x.it g.d.k s') (by simp[eC]);rw[D4 H' hg]at nG;have Bg:(r.map λj=>az ids (ids.getD j 0) ((eC bl ic x.it g.d.k s').getD j di))=r.map λj=>az ids (ids.getD j 0) (bl.getD j di):=by
         unfold eC;refine T_ ?_;intro j hj;have:=hr j hj;simp only[ca,oV,or_false,not_or]at this;omega
        rw[Bg]at nG;have cW:ids.length=(eC bl ic x.it g.d.k s').length:=by simp[eC,hl]
        have Ub:bM ids.length (eC bl ic x.it g.d.k s')=true:=by
         unfold eC;rw[<-hl]at qw l3;refine HI ?_ _ _ (HI ?_ _ _ qw)
         ·exact vK (Nat.zero_le _) _ (GY s')
         ·simp only[gL,DD,lG,bj,cK,bg,ie,Bool.true_and,Bool.and_true];exact l3
        rw[eZ _ _ _ _ cW,e_ _ _ Ub,zi (ids':=xs) xs ex wY];refine S2.perm ?_;show List.Perm _ ((lits ids ids (eC bl ic x.it g.d.k s')++lits xs xs ex)++(dC u++((F'.B++(fn++fB))++ax rest R)));refine EA ?_ ((nG.symm.append_right _).append_right _);exact gO λf=>by simp only[ik];omega
     ·exact hc.elim
    ·exact hc.elim
   ·exact hc.elim
  ·exact hc.elim
 ·exact hc.elim
theorem Ml {f:Nat} {M:ae->LM fr} (h:zh f M):ud prog gS ⟨f,false,w9 M⟩:=⟨abS h,λe=>by cases e⟩
end Go.Proofs.YtggfpcggakghnaaGreatDoor
namespace Sx
open Go Go.RowKit Go.BigFrame
theorem St.lF {ms:List Nat} {w0 w:ae} {b:ai} {bs:List ai} (S:St ms w0 (b::bs) w):St ms w0 (⟨b.id,false,b.obj⟩::bs) w:=by
 refine St.mk' S.ch ?_ ?_ ?_
 ·intro x hx;rcases ca.1 hx with rfl|hx
  ·exact S.at' (x:=b) (Cg)
  ·exact S.at' (xz _ hx)
 ·intro x hx h;rcases ca.1 hx with rfl|hx
  ·cases h
  ·exact S.oe (xz _ hx) h
 ·have:=zR.1 S.pw;refine zR.2 ⟨?_,this.2⟩;intro y hy h;refine this.1 y hy ?_;rcases h with h|h
  ·cases h
  ·exact .inr h
end Sx
namespace Go.Proofs.YtggfpcggakghnaaGreatDoor
open Go Go.RowKit Go.BigFrame Sx Vx
variable{fr:Sd.aE->Nat×Sd.av}
def cE (s:Sd.aa):Sd.aa:=⟨s.c,[],[]⟩
def BL (l:List Sd.Rec) (j:Nat):List ab:=[.int .i64 (l.getD j default).kind,.int .i64 (l.getD j default).source,.int .i64 (l.getD j default).seq,.int .i64 (l.getD j default).af,.int .i64 (l.getD j default).code,.int .i64 (l.getD j default).how]
theorem abT:∀(l:List Sd.Rec),(bd l.length).flatMap (BL l)=ux l
 |[]=>rfl
 |r::l=>by
  rw[kN,vd,List.flatMap_cons,List.flatMap_map];have e:(λj=>BL (r::l) (Nat.succ j))=BL l:=by funext j;rfl
  rw[e,abT l];rfl
def BM (ty:aG) (z n:Nat) (g:Nat->List ab) (us:List ab):VB:=⟨false,ty,[.fh z n g,.rest us]⟩
theorem abU (ids:List Nat) (ty z n:Nat) (g:Nat->List ab) (us:List ab):ah ids (BM ty z n g us).c=(bd n).flatMap g++us:=by
 simp only[BM,ah,cl,cQ]
structure uO where
 x:Option aO
 n:Nat
 c:Nat
def nN (l:List (Int×Sd.aE)) (fv:Nat->uO) (j:Nat):List ab:=[.int .i64 (l.getD j default).1,.slice (fv j).x (fv j).n (fv j).c]
def mf (fr:Sd.aE->Nat×Sd.av) (l:List (Int×Sd.aE)) (fv:Nat->uO) (fn:List ai):Prop:=∀j,j<l.length->∃x c b,fv j=⟨x,(fr (l.getD j default).2).1,c⟩/\eK 5 (fr (l.getD j default).2).1 (fr (l.getD j default).2).2 x c b/\∀y∈b,y∈fn
theorem aqB {l:List (Int×Sd.aE)} {so:List ab} {B:List ai} (h:Bb fr l so B):∃fv,so=(bd l.length).flatMap (nN l fv)/\mf fr l fv B:=by
 induction h with
 |nil=>exact⟨λ_=>⟨none,0,0⟩,rfl,λj hj=>absurd hj (by simp)⟩
 |@snoc l olds bl h k r x c b hb ih=>
  obtain⟨fv,e,hf⟩:=ih;refine⟨λj=>if j=l.length then⟨x,(fr r).1,c⟩else fv j,?_,?_⟩
  ·rw[fq,V4,Cf,Ey,e];congr 1
   ·simp only[List.flatMap_def];congr 1;apply qD;intro j hj;have hj:=List.mem_range.1 hj;unfold nN;dsimp only;rw[if_neg (show¬j=l.length by omega),oS,oS,gV hj]
   ·simp[nN,ij]
  ·intro j hj;by_cases h1:j=l.length
   ·subst h1;have e2:(l++[(k,r)]).getD l.length default=(k,r):=by simp[ij]
    rw[e2];exact⟨x,c,b,by simp,hb,λy hy=>by simp[hy]⟩
   ·have xK:j<l.length:=by simp at hj;omega
    obtain⟨x',c',b',h2,h3,h4⟩:=hf j xK;have e2:(l++[(k,r)]).getD j default=l.getD j default:=by rw[oS,oS,gV xK]
    rw[e2];exact⟨x',c',b',by simp only[if_neg h1];exact h2,h3,λy hy=>by simp[h4 y hy]⟩
def Uc (s:Sd.aa) (vs vr:V):V:=.agg [.int .i64 s.c.mode,.int .i64 s.c.pt.cls,.int .i64 s.c.pt.now.a,.int .i64 s.c.pt.now.b,.int .i64 s.c.pt.now.c,.int .i64 s.c.pt.now.d,.int .i64 s.c.ff.mz,.int .i64 s.c.ff.source,.int .i64 s.c.ff.seq,
 .int .i64 s.c.pt.bI.mz,.int .i64 s.c.pt.bI.source,.int .i64 s.c.pt.bI.seq,vs,vr,.bJ .u8 32 s.c.head]
structure TR where
 xs:Option aO
 cs:Nat
 ts:Nat
 us:List ab
 fv:Nat->uO
 xr:Option aO
 cr:Nat
 tr:Nat
 ur:List ab
def TR.sB (r:TR) (s:Sd.aa):VB:=BM r.ts 2 s.bh.length (nN s.bh r.fv) r.us
def TR.rB (r:TR) (s:Sd.aa):VB:=BM r.tr 6 s.bA.length (BL s.bA) r.ur
def TR.v (r:TR) (s:Sd.aa) (i:Nat):V:=Uc s (.f_ i 0 s.bh.length r.cs r.xs) (.f_ (i+1) 0 s.bA.length r.cr r.xr)
def D5 (k:LK) (sv:Sd.aa) (K:HH fr k):Prop:=∀(s':Sd.aa),s'=sv->∀(r:TR) (fn:List ai) (F0:aW fr (aR k (cE s'))),cO=F0.vs->cO=F0.vr->mf fr s'.bh r.fv fn->K (r.v s' 0) (cE s') F0 fn [r.sB s',r.rB s']
theorem aqC {k:LK} {s':Sd.aa} (F':aW fr (aR k s')):∃F0:aW fr (aR k (cE s')),cO=F0.vs/\cO=F0.vr/\F0.B=F'.Bq++F'.Bk:=
 ⟨⟨none,0,none,0,F'.Bq,[],[],[],F'.Bk,[],F'.hq,xN 6 75,xN 2 85,.nil,F'.hk⟩,rfl,rfl,rfl⟩
theorem abV {ms:List Nat} {w0 w:ae} {z T n c:Nat} {olds:List ab} {x:Option aO} {B R:List ai} {k:LK} {g:Nat->List ab} (h:eW z T olds x n c B) (S:St ms w0 (B++R) w) (kI:(⟨1,false,.cells (ah [] (b9 k).c).toArray k.tg (0,0)⟩:ai)∈R) (hg:olds=(bd n).flatMap g):
 ∃(i ty:Nat) (us:List ab),EB x n c=.slice (bif aq n 0 then x else some ⟨i,0,none⟩) n c/\St ms w0 (⟨i,false,.cells ((bd n).flatMap g++us).toArray ty (0,0)⟩::R) w:=by
 rcases h.2.2 with⟨rfl,rfl,rfl,rfl⟩|⟨b,tail,rfl,rfl,_⟩
 ·exact⟨1,k.tg,ah [] (b9 k).c,rfl,by simpa using S.dup kI rfl⟩
 ·refine⟨b,T,tail,?_,?_⟩
  ·cases aq n 0<;>rfl
  ·rw[<-hg];exact S.lF
theorem Ud {f n:Nat} {M:ae->LM fr} {L:List (bK (Gh fr))} (hL:aC prog gS L)
 (h:∀(u:ae) (ar:List V) (k:LK) (s:Sd.aa) (F:aW fr (aR k s)) (Kb:HH fr k),bj 0 ar=true->s.c.p.queue=k.most->M u ar k s F Kb->bo (bP prog gS L) n f (.ptr 2 0::ar) (cP k s) [a_ k s F] (BG k s λs' F'=>D5 k s' Kb)):zh f M:=by
 intro u ar k s F Kb a b R0 ms w0 w h0 hq hM S;generalize hR:dC u++R0=R at S⊢;have hg:Gl gS (cF a b):=by
  intro g i dz;unfold gS at dz;split at dz
  ·obtain rfl:=cA dz;exact⟨by simp,rfl⟩
  ·obtain rfl:=cA dz;exact⟨by simp,rfl⟩
  ·cases dz
 refine(eG hL.T hL.Q n (C:=bP prog gS L) (ids:=cF a b) (bl:=cP k s) (ch:=[a_ k s F]) (R:=R) (ms:=ms) (w0:=w0) (w:=w) hg rfl (by
  have e:ax [a_ k s F] R=F.B++R:=rfl;rw[e];exact S) (h u ar k s F Kb h0 hq hM)).mono ?_
 rintro v w' ⟨x,more,bl',ch',rfl,h1,S',s',F',rfl,hb,rfl,hT⟩;have hl4:(cP k s').length=4:=rfl;have nH:bl'=cP k s'++bl'.drop 4:=by rw[<-hb,jv]
 rw[nH]at S';have e2:lits (cF a b++more) (cF a b++more) (cP k s'++bl'.drop 4)=lits (cF a b) (cF a b) (cP k s')++lits (cF a b++more) more (bl'.drop 4):=by
  rw[eZ _ _ _ _ (by rw[hl4];rfl)];rw[e_ (ids:=cF a b) (more:=more) (cF a b) (cP k s') rfl]
 rw[e2]at S';obtain⟨F0,v1,v2,hB⟩:=aqC F';have e3:ax [a_ k s' F'] R=F'.Br++(F'.Bs++(F'.Bf++(F'.Bq++F'.Bk)))++R:=rfl;rw[e3]at S';have fG:cP k (cE s')=cP k s':=rfl;have S1:St ms w0 (F'.Br++(F'.Bs++(lits (cF a b) (cF a b) (cP k (cE s'))++(F0.B++(F'.Bf++R))))) w':=by
  rw[fG,hB];have S2:St ms w0 (lits (cF a b) (cF a b) (cP k s')++(F'.Br++(F'.Bs++(F'.Bf++(F'.Bq++F'.Bk)))++R)) w':=by
   refine S'.sub ?_;simp only[bR];exact zO (oT _ _) _
  exact S2.perm (gO λf=>by simp only[ik];omega)
 have kI:(⟨1,false,.cells (ah [] (b9 k).c).toArray k.tg (0,0)⟩:ai)∈lits (cF a b) (cF a b) (cP k (cE s')):=by
  have:az (cF a b) 1 (b9 k)=az [] 1 (b9 k):=mL (GZ k);show _∈az (cF a b) 1 (b9 k)::_;rw[this];exact Cg
 obtain⟨fv,hso,Mm⟩:=aqB F'.hf;have S2:=S1.perm (bs':=F'.Bs++(F'.Br++(lits (cF a b) (cF a b) (cP k (cE s'))++(F0.B++(F'.Bf++R))))) (gO λf=>by simp only[ik];omega);obtain⟨i1,t1,u1,q1,S3⟩:=abV (k:=k) F'.hs S2 (by simp[kI]) hso;have S3':St ms w0 (⟨i1,false,.cells ((bd s'.bh.length).flatMap (nN s'.bh fv)++u1).toArray t1 (0,0)⟩::(F'.Br++(lits (cF a b) (cF a b) (cP k (cE s'))++(F0.B++(F'.Bf++R))))) w':=S3;have S4:=S3'.perm (bs':=F'.Br++(⟨i1,false,.cells ((bd s'.bh.length).flatMap (nN s'.bh fv)++u1).toArray t1 (0,0)⟩::(lits (cF a b) (cF a b) (cP k (cE s'))++(F0.B++(F'.Bf++R))))) (gO λf=>by simp only[ik,zW];omega);obtain⟨i2,t2,u2,q2,S5⟩:=abV (k:=k) F'.hr S4 (by simp[kI]) (abT s'.bA).symm
 let r:TR:=⟨F'.xs,F'.cs,t1,u1,fv,F'.xr,F'.cr,t2,u2⟩
 refine⟨_,_,F0,F'.Bf,_,[i1,i2],rfl,?_,rfl,hT _ rfl r F'.Bf F0 v1 v2 Mm,?_⟩
 ·simp only[TR.v,Uc,Hy,aW.vs,aW.vr,den,ah,cl];have e1:EB F'.xs (aR k s').bh.length F'.cs=_:=q1;have e2:EB F'.xr (aR k s').bA.length F'.cr=_:=q2;rw[e1,e2];rfl
 ·have e1:lits [i1,i2] [i1,i2] [r.sB s',r.rB s']=[⟨i1,false,.cells ((bd s'.bh.length).flatMap (nN s'.bh fv)++u1).toArray t1 (0,0)⟩,⟨i2,false,.cells ((bd s'.bA.length).flatMap (BL s'.bA)++u2).toArray t2 (0,0)⟩]:=by
   simp only[lits,az,TR.rB,TR.sB,abU,r];rfl
  rw[e1];have S6:St ms w0 (⟨i2,false,.cells ((bd s'.bA.length).flatMap (BL s'.bA)++u2).toArray t2 (0,0)⟩::(⟨i1,false,.cells ((bd s'.bh.length).flatMap (nN s'.bh fv)++u1).toArray t1 (0,0)⟩::(lits (cF a b) (cF a b) (cP k (cE s'))++(F0.B++(F'.Bf++R))))) w':=S5;refine S6.perm ?_;exact gO λf=>by simp only[ik,zW,zX];omega
structure ef (k:LK) (s:Sd.aa):Prop where
 i:Sd.Inv s.c
 x:Sd.Ext s.c
 key:∀i,i<4->1<=k.kn i/\k.kn i<=64
 ke:∀i,i<4->s.c.p.k i=(k.kn i,k.kf i)
 e1:s.bh=[]
 e2:s.bA=[]
theorem ef.rm {k:LK} {s:Sd.aa} (h:ef k s) (n:Nat) (hn:n<=1000):Rm s n:=⟨by rw[h.e1];simpa using hn,by rw[h.e2];simpa using hn⟩
theorem ef.tb {k:LK} {s:Sd.aa} (h:ef k s):TB s.c.t:=⟨h.i.tok.ay,h.i.kF⟩
theorem ef.tk {k:LK} {s:Sd.aa} (h:ef k s):TkP s where
 c:=⟨h.i.p,h.tb,h.x.t.oa.1,h.x.t.oa.2,h.x.t.la.1,h.x.t.la.2,by rcases h.i.tok.offer with e|e<;>omega,
  λa ha=>by
   obtain⟨_,h1,h2,_,_,h3,h4,h5⟩:=h.i.q.each a ha;have:=h.i.p.ask;exact⟨⟨by omega,by omega⟩,⟨by omega,by omega⟩,⟨by omega,by omega⟩⟩,
  ⟨h.x.pt.aU.1,h.x.pt.aU.2.1,h.x.pt.aU.2.2.1,h.x.pt.aU.2.2.2,h.x.pt.now.1,h.x.pt.now.2.1,h.x.pt.now.2.2.1,h.x.pt.now.2.2.2⟩⟩
 r:=h.rm 28 (by decide)
 h:=h.x.ag.hi
 b:=⟨h.x.ag.st,h.x.ag.ss 0,h.x.ag.ss 1,h.x.ag.ss 2⟩
def Ue (C:Sd.aL):LM fr:=λar k s F K=>match ar with
 |[.bool b]=>(ef k s/\cO=F.vs/\cO=F.vr)/\D5 k (s.qV C b) K
 |_=>False
def Uf (C:Sd.aL):LM fr:=λar k s F K=>match ar with
 |[.agg xl]=>(match Dw xl with
  |some x=>(ef k s/\cO=F.vs/\cO=F.vr)/\D5 k (s.fO C x) K
  |none=>False)
 |_=>False
def fM (C:Sd.aL) (s:Sd.aa) (l code:Int) (n:Nat) (f:Sd.av):Sd.aa:=if 1<=l/\l<=3 then s.item C l code n f else s
def abW (C:Sd.aL):LM fr:=λar k s F K=>match ar with
 |[.int .i64 l,.agg [.int .i64 code,.raw vp]]=>(ef k s/\cO=F.vs/\cO=F.vr/\vp=eA k/\k.pn<=58/\By k.pf)/\D5 k (fM C s l code k.pn k.pf) K
 |_=>False
theorem Ug {k:LK} {s:Sd.aa} {F:aW fr (aR k s)} (hq:s.c.p.queue=k.most) (h1:cO=F.vs) (h2:cO=F.vr):L9 k s F:=⟨h1,h2,rfl,rfl,rfl,rfl,rfl,hq⟩
section
variable(k:LK) (s:Sd.aa) (F:aW fr (aR k s)) (Kb:(s':Sd.aa)->aW fr (aR k s')->Prop)
end
end Go.Proofs.YtggfpcggakghnaaGreatDoor
namespace Go.Proofs.YtggfpcggakghnaaGreatDoor
section
open Go Go.RowKit Go.BigFrame Sx Vx
variable{fr:Sd.aE->Nat×Sd.av}
section
variable(ht:Body (fr:=fr) 147 dI)
include ht
theorem aqD:zh (fr:=fr) 21 (λ_=>Ue (aJ aH)):=by
 refine Ud (n:=60) (apS ht) ?_;intro u ar k s F Kb h0 hq hM;unfold Ue at hM;split at hM
 ·rename_i b;rw[apU];exact⟨Ug hq hM.1.2.1 hM.1.2.2,nI (M:=Hj (aJ aH)) ⟨⟨hM.1.1.rm 8 (by decide),hM.1.1.tb⟩,λF'=>⟨_,F',rfl,rfl,rfl,hM.2⟩⟩⟩
 ·exact hM.elim
theorem aqE:zh (fr:=fr) 20 (λ_=>Uf (aJ aH)):=by
 refine Ud (n:=60) (apR ht) ?_;intro u ar k s F Kb h0 hq hM;unfold Uf at hM;split at hM
 ·rename_i xl;split at hM
  ·rename_i x hx;obtain rfl:=KG hx;rw[apV];have hb:b_ s.c.samples:=⟨by have:=hM.1.1.i.samples;omega,by have:=hM.1.1.i.samples;omega⟩;refine⟨Ug hq hM.1.2.1 hM.1.2.2,nI (M:=Hf (aJ aH)) ?_⟩;show(Hc s/\b_ s.c.samples/\b_ s.c.beyond)/\_;exact⟨⟨⟨hM.1.1.rm 8 (by decide),hM.1.1.i.p,hM.1.1.tb⟩,hb,hM.1.1.x.be⟩,λF'=>⟨_,F',rfl,rfl,rfl,hM.2⟩⟩
  ·exact hM.elim
 ·exact hM.elim
theorem aqF:zh (fr:=fr) 24 (λ_=>abW (aJ aH)):=by
 refine Ud (n:=60) (apT ht) ?_;intro u ar k s F Kb h0 hq hM;unfold abW at hM;split at hM
 ·rename_i l code vp;have hC:=hM.1.1;have v1:=hM.1.2.1;have v2:=hM.1.2.2.1;have p1:=hM.1.2.2.2.2.1;have p2:=hM.1.2.2.2.2.2;have hT:=hM.2;rw[hM.1.2.2.2.1,apW];unfold aby;have ri:¬(1<=l/\l<=3)->BG k s (λs' F'=>D5 k s' Kb) (.agg (Hy s cO cO)) (cP k s) [a_ k s F]:=λh=>⟨s,F,by rw[<-v1,<-v2],rfl,rfl,by unfold fM at hT;rw[if_neg h]at hT;exact hT⟩;refine aI (λe1=>aI (λe2=>?_) (λe2=>ri (by simp at e1 e2;omega))) (λe1=>ri (by simp at e1;omega));have hl:1<=l/\l<=3:=by simp at e1 e2;omega
  unfold fM at hT;rw[if_pos hl]at hT;have hd:∀i,i<3->(s.c.doors i).many<=9223372036854775807:=λi _=>by have:=hC.x.d i;omega
  exact⟨Ug hq v1 v2,nI (M:=Hw (aJ aH)) ⟨⟨rfl,⟨hC.rm 8 (by decide),hC.i,hl,hd,hC.key,hC.ke,p1,p2⟩⟩,λF'=>⟨_,F',rfl,rfl,rfl,hT⟩⟩⟩
 ·exact hM.elim
end
def uP (l:List Sd.Ask) (j:Nat):List ab:=[.int .i64 (l.getD j default).source]
theorem abX:∀(l:List Sd.Ask) (ids:List Nat),(bd l.length).flatMap (uP l)=ah ids (tn l)
 |[],_=>rfl
 |r::l,ids=>by
  rw[kN,vd,List.flatMap_cons,List.flatMap_map];have e:(λj=>uP (r::l) (Nat.succ j))=uP l:=by funext j;rfl
  rw[e,abX l ids];rfl
def aqG (k:LK) (s:Sd.aa) (F:aW fr (aR k s)) (K:HH fr k):Prop:=
 ∀(x:Option aO) (c ty:Nat) (us:List ab),K (.agg (uL s (.f_ 0 0 s.c.q.length c x))) s F [] [BM ty 1 s.c.q.length (uP s.c.q) us]
def Mn:LM fr:=λar k s F K=>match ar with
 |[]=>aqG k s F K
 |_=>False
theorem aqH (l:List Sd.Ask) (u:List ab):bM 0 [BH l u]=true:=by
 have:∀l:List Sd.Ask,bj 0 (tn l++[.rest u])=true:=by
  intro l;induction l with
  |nil=>rfl
  |cons a l ih=>simp only[tn,ft,bj,cK,ih,Bool.and_self]
 simp only[bM,BH,this,Bool.and_self]
theorem w_ {Q:Prop} (hq:Q):∀(n j:Nat),n+j<=5->L_ n j Q
 |0,_,_=>hq
 |n+1,j,h=>⟨trivial,⟨by omega,by omega⟩,trivial,trivial,w_ hq n (j+1) (by omega)⟩
theorem abY (ht:Body (fr:=fr) 147 dI):zh (fr:=fr) 14 (λ_=>Mn (fr:=fr)):=by
 intro u0 ar k s F Kb a b R0 ms w0 w h0 hq hM S;generalize hR:dC u0++R0=R at S⊢;unfold Mn at hM;split at hM
 ·have hg:Gl gS (cF a b):=by
   intro g i dz;unfold gS at dz;split at dz
   ·obtain rfl:=cA dz;exact⟨by simp,rfl⟩
   ·obtain rfl:=cA dz;exact⟨by simp,rfl⟩
   ·cases dz
  let K:VK (Gh fr):=λv bl ch=>ch=[a_ k s F]/\((s.c.q=[]/\v=.agg (uL s (.raw cO))/\bl=cP k s)\/(s.c.q≠[]/\∃c u,v=.agg (uL s (.sl 4 0 s.c.q.length c))/\bl=cP k s++[BH s.c.q u]))
  have k0:s.c.q=[]->K (.agg (uL s (.raw cO))) (cP k s) [a_ k s F]:=λe=>⟨rfl,.inl ⟨e,rfl,rfl⟩⟩;have k1:s.c.q≠[]->∀c u,K (.agg (uL s (.sl 4 0 s.c.q.length c))) (cP k s++[BH s.c.q u]) [a_ k s F]:=λe c u=>⟨rfl,.inr ⟨e,c,u,rfl,rfl⟩⟩;have cS:bo (fA prog gS (L8 fr (aJ aH)) (FG prog) JW) 60 14 [.ptr 2 0] (cP k s) [a_ k s F] (br 4 K):=by
   rw[apZ];refine⟨rfl,λe x c=>w_ (k0 e) 5 0 (by decide),λa1 e c t c1 u1 _ _=>?_,λa1 b1 e c t c1 u1 h1 h2=>?_,λa1 b1 d1 e c t c1 u1 h1 h2=>?_⟩
   ·have:=k1 (by rw[e];simp) c1 u1;rw[e]at this;exact w_ this 5 0 (by decide)
   ·have hk:=k1 (by rw[e];simp);rw[e]at hk;exact⟨⟨h1,h2⟩,λc2 u2 _ _=>w_ (hk c2 u2) 5 0 (by decide),λc2 u2 _ _=>w_ (hk c2 u2) 5 0 (by decide)⟩
   ·have hk:=k1 (by rw[e];simp);rw[e]at hk;exact⟨⟨h1,h2⟩,λc2 u2 g1 g2=>⟨⟨g1,g2⟩,λc3 u3 _ _=>w_ (hk c3 u3) 5 0 (by decide),λc3 u3 _ _=>w_ (hk c3 u3) 5 0 (by decide)⟩,λc2 u2 g1 g2=>⟨⟨g1,g2⟩,λc3 u3 _ _=>w_ (hk c3 u3) 5 0 (by decide),λc3 u3 _ _=>w_ (hk c3 u3) 5 0 (by decide)⟩⟩
  refine(eG (DN aH ht).T (DN aH ht).Q 60 (C:=fA prog gS (L8 fr (aJ aH)) (FG prog) JW) (ids:=cF a b) (bl:=cP k s) (ch:=[a_ k s F]) (R:=R) (ms:=ms) (w0:=w0) (w:=w) hg rfl (by
   have e:ax [a_ k s F] R=F.B++R:=rfl;rw[e];exact S) cS).mono ?_
  rintro v w' ⟨x,more,bl',ch',rfl,h1,S',hK⟩;obtain⟨v2,cB,bl2,hv,cW,S2,rfl,pP⟩:=hU (n0:=4) h1 (by simp) S' hK;have Uh:(cF a b++more).take 4=cF a b:=rfl;rw[Uh]at hv cW S2;have eR:ax [a_ k s F] R=F.B++R:=rfl;rw[eR]at S2;rw[hv];have jK:∀(i ty:Nat) (us:List ab),lits [i] [i] [BM ty 1 s.c.q.length (uP s.c.q) us]=[⟨i,false,.cells ((bd s.c.q.length).flatMap (uP s.c.q)++us).toArray ty (0,0)⟩]:=λi ty us=>by
   simp only[lits,az,abU];rfl
  rcases pP with⟨e,rfl,rfl⟩|⟨e,c,u,rfl,rfl⟩
  ·obtain rfl:cB=[]:=mZ (by simpa[cP]using cW);refine⟨_,s,F,[],_,[1],rfl,?_,rfl,hM none 0 k.tg (ah [] (b9 k).c),?_⟩
   ·simp only[uL,mI,yL,den,ah,cl,cQ,ft,fl,e];rfl
   ·simp only[cQ]at S2;have S3:=S2.dup (b:=az [0] 1 (b9 k)) (by
     refine oU _ ?_;rw[mL (ids':=cF a b) (GZ k)];exact Cg) rfl
    rw[jK];have e2:(⟨1,false,.cells ((bd s.c.q.length).flatMap (uP s.c.q)++ah [] (b9 k).c).toArray k.tg (0,0)⟩:ai)=az [0] 1 (b9 k):=by
     rw[e,mL (ids':=[]) (GZ k)];rfl
    rw[e2];exact S3.perm jH.symm
  ·match cB,cW with
   |[x],_=>
    refine⟨_,s,F,[],_,[x],rfl,?_,rfl,hM none c 3 u,?_⟩
    ·have hn:aq s.c.q.length 0=false:=by
      cases hb:aq s.c.q.length 0 with
      |false=>rfl
      |true=>exact absurd (mZ (ck hb)) e
     have hg4:(cF a b++[x]).getD 4 0=x:=rfl;have Mo:([x]:List Nat).getD 0 0=x:=rfl;simp only[uL,mI,yL,den,ah,cl,cQ,ft,fl,hn,cond_false,hg4,Mo];rfl
    ·have e2:lits (cF a b++[x]) (cF a b++[x]) (cP k s++[BH s.c.q u])=lits (cF a b) (cF a b) (cP k s)++[⟨x,true,.cells ((bd s.c.q.length).flatMap (uP s.c.q)++u).toArray 3 (0,0)⟩]:=by
      rw[eZ _ _ _ _ rfl,e_ (ids:=cF a b) (more:=[x]) (cF a b) (cP k s) rfl,zi (ids':=[x]) [x] _ (aqH _ _)];simp only[lits,az,BH,iG,ah,cl,cQ,abX s.c.q [x]]
     rw[e2]at S2;have S3:=(S2.perm (bs':=⟨x,true,.cells ((bd s.c.q.length).flatMap (uP s.c.q)++u).toArray 3 (0,0)⟩::(lits (cF a b) (cF a b) (cP k s)++(F.B++R))) (gO λf=>by simp only[ik,zW,zX];omega)).lF;rw[jK];exact S3.perm (gO λf=>by simp only[ik,zW,zX];omega)
   |[],h=>simp[cP]at h
   |_::_::_,h=>simp[cP]at h
 ·exact hM.elim
theorem aqI (d:Fd) (h:(∃i,i<4/\d=fX i)\/∀v m,(d.set v m).x=m.x):∀v,d.low<=v->v<=d.high->∀m:Sd.aY,Sd.nM m.x->Sd.nM (d.set v m).x:=by
 intro v h1 h2 m hm;rcases h with⟨i,hi,rfl⟩|h
 ·have hv:Sd.Bd v:=⟨by have:(-32768:Int)<=v:=h1;omega,by have:v<=(32767:Int):=h2;omega⟩;have:i=0\/i=1\/i=2\/i=3:=by omega
  rcases this with rfl|rfl|rfl|rfl
  ·exact⟨hv,hm.2.1,hm.2.2.1,hm.2.2.2⟩
  ·exact⟨hm.1,hv,hm.2.2.1,hm.2.2.2⟩
  ·exact⟨hm.1,hm.2.1,hv,hm.2.2.2⟩
  ·exact⟨hm.1,hm.2.1,hm.2.2.1,hv⟩
 ·rw[h];exact hm
theorem aqJ {n:Nat} {f:Nat->Int} {m:Sd.aY} (h:aH n f=some m):Sd.nM m.x:=by
 unfold aH at h;split at h
 ·cases h
 split at h
 ·rename_i l hl;refine LN (λm=>Sd.nM m.x) l 1 _ m ?_ Sd.HC h;intro d hd;refine aqI d ?_;have fx:∀i,i<4->(∃j,j<4/\fX i=fX j)\/∀v m,((fX i).set v m).x=m.x:=λi hi=>.inl ⟨i,hi,rfl⟩;have b0:=fx 0 (by decide);have b1:=fx 1 (by decide);have b2:=fx 2 (by decide);have b3:=fx 3 (by decide)
  have fo:∀d:Fd,(∀v m,(d.set v m).x=m.x)->(∃i,i<4/\d=fX i)\/∀v m,(d.set v m).x=m.x:=λd h=>.inr h;have a1:=fo uv λ_ _=>rfl;have a2:=fo h_ λ_ _=>rfl;have a3:=fo yO λ_ _=>rfl;have a4:=fo mJ λ_ _=>rfl;have a5:=fo wH λ_ _=>rfl;have a6:=fo uw λ_ _=>rfl;have a7:=fo yP λ_ _=>rfl
  unfold oA at hl
  repeat' split at hl
  all_goals first|(cases hl;done)|(obtain rfl:=cA hl;simp at hd;rcases hd with rfl|rfl|rfl|rfl|rfl|rfl|rfl<;>assumption)|(obtain rfl:=cA hl;simp at hd;rcases hd with rfl|rfl|rfl|rfl|rfl|rfl<;>assumption)|(obtain rfl:=cA hl;simp at hd;rcases hd with rfl|rfl|rfl|rfl|rfl<;>assumption)|(obtain rfl:=cA hl;simp at hd;rcases hd with rfl|rfl|rfl|rfl<;>assumption)|(obtain rfl:=cA hl;simp at hd;rcases hd with rfl|rfl|rfl<;>assumption)|(obtain rfl:=cA hl;simp at hd;rcases hd with rfl|rfl<;>assumption)|(obtain rfl:=cA hl;simp at hd;subst hd;assumption)|(obtain rfl:=cA hl;simp at hd)
 ·cases h
section
variable{k:LK} {s:Sd.aa} {b:Prop}
theorem Ui {C:Sd.aL} {s':Sd.aa} {kind l:Int} (e:Sd.fb C b s s' kind l):s'.c.p=s.c.p:=by
 rcases e.A5 with h|⟨how,h,_⟩
 ·exact h.p
 ·exact h.p
theorem ef.of {C:Sd.aL} {s':Sd.aa} {kind l:Int} (h:ef k s) (e:Sd.fb C b s s' kind l) (x:Sd.Ext s'.c):ef k (cE s'):=⟨e.1,x,h.key,λi hi=>by show s'.c.p.k i=_;rw[Ui e];exact h.ke i hi,rfl,rfl⟩
theorem ef.tick (h:ef k s):ef k (cE (s.tick (aJ aH))):=h.of (b:=False) (Sd.aqh h.i).1 (Sd.aqA h.i h.x)
theorem ef.qV (h:ef k s) (x:Bool):ef k (cE (s.qV (aJ aH) x)):=h.of (b:=False) (Sd.ap3 h.i) (Sd.aqv h.x)
theorem ef.fO (h:ef k s) {x:Sd.g9} (hx:Sd.nM x.x):ef k (cE (s.fO (aJ aH) x)):=h.of (b:=False) (Sd.abz h.i) (Sd.aqt hx h.i.p h.x)
theorem ef.item (h:ef k s) (l code:Int) (n:Nat) (f:Sd.av):ef k (cE (fM (aJ aH) s l code n f)):=by
 unfold fM;split
 ·rename_i hl;exact h.of (b:=False) (Sd.aai DS h.i hl (λe=>e.elim)) (Sd.aqs (λ_ _ _ hm=>aqJ hm) hl h.i.p h.x)
 ·exact⟨h.i,h.x,h.key,h.ke,rfl,rfl⟩
end
def fk (u:ae) (a:Option aO):Sd.av:=λj=>match a with
 |some x=>(match u.cell? (x.add j)with|some (.int _ v)=>if 0<=v/\v<=255 then v else 0|_=>0)
 |none=>0
theorem aqK {u:ae} {a:Option aO} {n c:Nat} {f:Nat->Int} (h:kq u a n c f) (hb:∀j,j<n->0<=f j/\f j<=255):kq u a n c (fk u a):=by
 refine⟨h.1,h.2.1,λx e j hj=>?_⟩;have hc:=h.2.2 x e j hj;have:fk u a j=f j:=by
  unfold fk;rw[e];simp only[hc];rw[if_pos (hb j hj)]
 rw[this];exact hc
def lg:Sd.av:=λ_=>0
def dN (n d:Nat) (f:Sd.av):VB:=⟨true,⟨5,(0,0)⟩,[.bJ .u8 n f,.bJ .u8 d lg]⟩
theorem xb (ids:List Nat) (n d:Nat) (f:Sd.av):(ah ids (dN n d f).c).toArray=bD n f (n+d):=by
 have e:(bd d).map (λj=>eg .u8 (lg j))=lP d (.int .u8 0):=by
  show(bd d).map (λ_=>eg .u8 0)=_;rw[List.map_const'];simp
 simp only[dN,ah,cl,bD,bV,cQ,e];rw[show n+d-n=d by omega]
theorem aqL {u w:ae} {B:List ai} {ms:List Nat} {w0:ae} (S:St ms w0 B w) (h:∀y∈dC u,y∈B) {x:aO} {v:ab} (hc:u.cell? x=some v):w.cell? x=some v:=by
 unfold xu at hc⊢;split at hc
 ·rename_i cs ty fr' hb;have:=S.at' (h _ (J9 hb));simp only at this;rw[this];exact hc
 ·cases hc
theorem abZ {u w:ae} {B:List ai} {ms:List Nat} {w0:ae} (S:St ms w0 B w) (h:∀y∈dC u,y∈B) {a:Option aO} {n c:Nat} {f:Nat->Int} (hk:kq u a n c f):kq w a n c f:=
 ⟨hk.1,hk.2.1,λx e j hj=>aqL S h (hk.2.2 x e j hj)⟩
theorem Uj {w:ae} {m:Nat} {g:Nat->Int} {x:Option aO} {t tx ty:aG} {xv:ab} (hs:Src prog 1 tx xv m (bV m g) w) (ht:prog.underlying t=some (.slice 5)) (hm:0<m) (hb:m<=140737488355328) (x:aO):
 ∃c' w',(mY #[t,tx] ty #[.slice (some x) 0 0,xv]).run prog w=.ok (.slice (some ⟨w.heap.size,0,none⟩) m c') w'/\Ch [] w w'/\m<=c'/\w'.heap[w.heap.size]?=some (.cells (bD m g c') 5 (0,0)):=by
 have hi:(prog.info? 5).map (λi=>(i.zero.map (·.cells),i.size,i.bytes))=some (some #[.int .u8 0],1,1):=by kernel_rfl
 obtain⟨i,bZ,hi⟩:=gU.1 hi;simp only[bw]at hi;obtain⟨hz,dw,im⟩:=hi;obtain⟨z0,lx,ng⟩:=gU.1 hz;have jg:Src prog i.size tx xv m (bV m g) w:=by rw[dw];exact hs
 have hold:(Builtin.firstCells i.size 0 (.slice (some x) 0 0)).run prog w.drew=.ok (([]:List ab).toArray) w.drew:=
  run_firstCells_some (P:=prog) w.drew i.size 0 x 0 0 [] (by rw[Nat.zero_mul];rfl) (λj v hj=>nomatch hj)
 have bG:=run_append_grow_src (P:=prog) w t tx ty 5 i z0 ht bZ lx (some x) 0 0 [] hold xv m (bV m g) jg (by omega) (by omega) (by rw[im];exact growslice_fits (by omega) (by omega));have dY:=grownCap_ge w (0+m) 0 5;rw[eD]at bG dY;refine⟨_,_,bG,((Ch.refl [] w).drew).trans (Ch.alloc [] w.drew _) (λx hx=>.inl hx),dY,?_⟩;have:=mX w.drew (.cells (([]++bV m g).toArray++n9 z0.cells (grownCap w m 0 5-m)) 5);refine Eq.trans this ?_;congr 2;apply fe;rw[ng,Array.toList_append,Jd];rfl
theorem aqM {w:ae} {g:Nat->Int} {t tx ty:aG} {xv:ab} (hs:Src prog 1 tx xv 0 (bV 0 g) w) (ht:prog.underlying t=some (.slice 5)) (x:aO):
 (mY #[t,tx] ty #[.slice (some x) 0 0,xv]).run prog w=.ok (.slice (some x) 0 0) w:=by
 have hi:(prog.info? 5).map (λi=>(i.zero.map (·.cells),i.size,i.bytes))=some (some #[.int .u8 0],1,1):=by kernel_rfl
 obtain⟨i,bZ,hi⟩:=gU.1 hi;simp only[bw]at hi;obtain⟨hz,dw,im⟩:=hi;exact run_append_nothing (P:=prog) w t tx ty 5 i ht bZ (some x) 0 0 (dE _) xv (by rw[dw];exact hs)
def D6 (k:LK) (x:Option aO) (n c:Nat) (f:Sd.av):LK:={k with px:=x,pn:=n,pc:=c,pf:=f}
def nO (k:LK):Prop:=k.px=none/\k.pn=0/\k.pc=0
theorem aqN {k:LK} {s:Sd.aa} (F:aW fr (aR k s)) (h:nO k) {b n c:Nat} {f:Sd.av} (hle:n<=c):∃F1:aW fr (aR (D6 k (some ⟨b,0,none⟩) n c f) s),F1.vs=F.vs/\F1.vr=F.vr/\F1.B=F.B++[⟨b,true,.cells (bD n f c) 5 (0,0)⟩]:=by
 refine⟨⟨F.xs,F.cs,F.xr,F.cr,F.Bq,F.Br,F.Bs,F.Bf,F.Bk++[⟨b,true,.cells (bD n f c) 5 (0,0)⟩],F.so,F.hq,F.hr,F.hs,F.hf,?_⟩,rfl,rfl,?_⟩
 ·obtain⟨b0,b1,b2,b3,b4,hB,h0,h1,h2,h3,h4⟩:=F.hk;have e4:b4=[]:=by
   rcases h4.2 with⟨_,_,_,e⟩|⟨y,e,_⟩
   ·exact e
   ·have:k.px=some ⟨y,0,none⟩:=e;rw[h.1]at this;cases this
  subst e4;exact⟨b0,b1,b2,b3,[⟨b,true,.cells (bD n f c) 5 (0,0)⟩],by rw[hB];simp,h0,h1,h2,h3,hle,.inr ⟨b,rfl,rfl⟩⟩
 ·simp only[aW.B,bR]
theorem aqO {k:LK} {s:Sd.aa} (h:nO k) {b n c:Nat} {f:Sd.av} (F1:aW fr (aR (D6 k (some ⟨b,0,none⟩) n c f) s)):∃F:aW fr (aR k s),F.vs=F1.vs/\F.vr=F1.vr/\F1.B=F.B++[⟨b,true,.cells (bD n f c) 5 (0,0)⟩]:=by
 obtain⟨b0,b1,b2,b3,b4,hB,h0,h1,h2,h3,h4⟩:=F1.hk;have e4:b4=[⟨b,true,.cells (bD n f c) 5 (0,0)⟩]:=by
  rcases h4.2 with⟨e,_,_,_⟩|⟨y,e,e2⟩
  ·cases e
  ·have:(some ⟨b,0,none⟩:Option aO)=some ⟨y,0,none⟩:=e;obtain rfl:b=y:=by simpa using this
   exact e2
 subst e4;refine⟨⟨F1.xs,F1.cs,F1.xr,F1.cr,F1.Bq,F1.Br,F1.Bs,F1.Bf,b0++(b1++(b2++(b3++[]))),F1.so,F1.hq,F1.hr,F1.hs,F1.hf,⟨b0,b1,b2,b3,[],rfl,h0,h1,h2,h3,by show k.pn<=k.pc;rw[h.2.1,h.2.2];exact dE _,.inl ⟨h.1,h.2.1,h.2.2,rfl⟩⟩⟩,rfl,rfl,?_⟩;simp only[aW.B,hB,bR,cQ]
def Mp (C:Sd.aL):c_ (LG fr):=λargs bl ch K=>match args,ch with
 |[.ptr ic 0,.int .i64 l,.agg [.int .i64 code,.sl ip 0 n c]],.aZ u::.core g fB::rest=>(match bl[ip]?with
  |some ⟨true,⟨5,(0,0)⟩,[.bJ .u8 n' f,.bJ .u8 d z]⟩=>(match bl[ic]?with
   |some ⟨true,⟨105,(0,0)⟩,cc⟩=>(match Bc cc with
    |some x=>(match bl[x.it]?with
     |some ⟨true,⟨157,(0,0)⟩,tc⟩=>(match s7 tc with
      |some y=>cond (bM bl.length bl&&(cu 1 ip&&(cu 1 ic&&(cu 1 x.it&&(!(aq ic x.it)&&(!(aq ic ip)&&!(aq x.it ip)))))))
       ((bl[0]?=some (b9 g.d.k)/\bl[1]?=some (iB g.d.k)/\x=lG g.d.k x.it (fi x y g.d g.dx g.sx)/\y.b=x.p.bW/\y.m=x.p.d_/\x.p.queue=g.d.k.most)/\
         (n'=n/\n+d=c/\z=lg)/\nO g.d.k/\(ef g.d.k (fi x y g.d g.dx g.sx)/\cO=g.F.vs/\cO=g.F.vr/\n<=58/\By f)/\
         D5 g.d.k (fM C (fi x y g.d g.dx g.sx) l code n f) λvv s' F' fn ex=>K (gI bl.length vv) (eC bl ic x.it g.d.k s'++ex) (.aZ u::.core (a_ g.d.k s' F') (fn++fB)::rest)) False
      |none=>False)
     |_=>False)
    |none=>False)
   |_=>False)
  |_=>False)
 |_,_=>False
theorem ab0 (ht:Body (fr:=fr) 147 dI):Sound prog gS 24 (Mp (fr:=fr) (aJ aH)):=by
 intro args ids bl ch R ms w0 w K hg hl S hc;unfold Mp at hc;split at hc
 ·rename_i ic l code ip n c u g fB rest;split at hc
  ·rename_i n' f d z xd;split at hc
   ·rename_i cc qY;split at hc
    ·rename_i x hx;split at hc
     ·rename_i tc uA;split at hc
      ·rename_i y hy;cases hq:bM bl.length bl&&(cu 1 ip&&(cu 1 ic&&(cu 1 x.it&&(!(aq ic x.it)&&(!(aq ic ip)&&!(aq x.it ip))))))with
       |false=>rw[hq]at hc;exact hc.elim
       |true=>
        rw[hq]at hc;simp only[bg,lN,ie]at hq;obtain⟨qw,q1,q2,q3,q4,q5,q6⟩:=hq;have nb:∀{a b:Nat},aq a b=false->a≠b:=λh e=>by rw[e,rV]at h;cases h
        have n4:=nb q4;have n5:=nb q5;have n6:=nb q6;obtain⟨⟨e3,e4,e5,e6,e7,e8⟩,⟨rfl,rfl,rfl⟩,D7,⟨hC,v1,v2,p1,p2⟩,hT⟩:=hc;obtain rfl:=GW hx;obtain rfl:=yV hy;have H:BK bl ic x.it g.d.k (fi x y g.d g.dx g.sx):=by
         refine⟨e3,e4,?_,?_⟩
         ·rw[qY];congr 1;unfold gL;rw[<-e5]
         ·rw[uA];congr 1;unfold gE;have:y=uz (fi x y g.d g.dx g.sx):=by
           obtain⟨y1,y2,y3,y4,y5,y6,y7,y8⟩:=y;simp only at e6 e7;subst e6 e7;rfl
          rw[<-this]
        have l1:=iU xd;have l2:=iU H.hc;have l3:=iU H.ht;obtain⟨r,hr,hp⟩:=yW (bl:=bl) (ids:=ids) hl (is:=[0,1,ic,x.it,ip]) (by simp;omega) (by
         intro i hi;simp only[ca,oV,or_false]at hi;rcases hi with rfl|rfl|rfl|rfl|rfl<;>omega)
        have emp:∀(bl':List VB),[0,1,ic,x.it,ip].map (λj=>az ids (ids.getD j 0) (bl'.getD j di))=([0,1,ic,x.it].map λj=>az ids (ids.getD j 0) (bl'.getD j di))++[az ids (ids.getD ip 0) (bl'.getD ip di)]:=λ_=>rfl;have HJ:az ids (ids.getD ip 0) (dN n' d f)=⟨ids.getD ip 0,true,.cells (bD n' f (n'+d)) 5 (0,0)⟩:=by
         unfold az;rw[xb];rfl
        have gM:=hp bl rfl;rw[emp,D4 H hg,jm (show bl[ip]?=some (dN n' d f)from xd)]at gM;obtain⟨F1,f1,f2,f3⟩:=aqN (k:=g.d.k) (s:=fi x y g.d g.dx g.sx) g.F D7 (b:=ids.getD ip 0) (f:=f) (rX n' d);have S1:=S.perm (bs':=lits (cF (ids.getD ic 0) (ids.getD x.it 0)) (cF (ids.getD ic 0) (ids.getD x.it 0)) (cP g.d.k (fi x y g.d g.dx g.sx))++(F1.B++(dC u++((r.map λj=>az ids (ids.getD j 0) (bl.getD j di))++(fB++ax rest R))))) (by
         refine(gM.append_right _).trans ?_;rw[show F1.B=aW.B (d:=g.d) g.F++[⟨ids.getD ip 0,true,.cells (bD n' f (n'+d)) 5 (0,0)⟩]from f3,<-HJ];show(_++(dC u++((g.F.B++fB)++ax rest R))).Perm _;exact gO λf=>by simp only[ik];omega)
        have hC':ef (D6 g.d.k (some ⟨ids.getD ip 0,0,none⟩) n' (n'+d) f) (fi x y g.d g.dx g.sx):=⟨hC.i,hC.x,hC.key,hC.ke,hC.e1,hC.e2⟩;have G0:=aqF ht u [.int .i64 l,.agg [.int .i64 code,.raw (eA (D6 g.d.k (some ⟨ids.getD ip 0,0,none⟩) n' (n'+d) f))]] (D6 g.d.k (some ⟨ids.getD ip 0,0,none⟩) n' (n'+d) f) (fi x y g.d g.dx g.sx) F1
         (λvv s' Mq fn ex=>cO=Mq.vs/\cO=Mq.vr/\∀F':aW fr (aR g.d.k s'),cO=F'.vs->cO=F'.vr->K (gI bl.length vv) (eC bl ic x.it g.d.k s'++ex) (.aZ u::.core (a_ g.d.k s' F') (fn++fB)::rest))
         _ _ _ ms w0 w rfl e8 ⟨⟨hC',by rw[f1];exact v1,by rw[f2];exact v2,rfl,p1,p2⟩,λs2 e2 tr fn F0 w1 w2 hf=>⟨w1,w2,λF' z1 z2=>hT s2 e2 tr fn F' z1 z2 hf⟩⟩ S1
        have cR:aD ids [.ptr ic 0,.int .i64 l,.agg [.int .i64 code,.sl ip 0 n' (n'+d)]]=aD (cF (ids.getD ic 0) (ids.getD x.it 0)) (.ptr 2 0::[.int .i64 l,.agg [.int .i64 code,.raw (eA (D6 g.d.k (some ⟨ids.getD ip 0,0,none⟩) n' (n'+d) f))]]):=rfl;rw[cR];refine G0.mono ?_;rintro v w' ⟨vv,s',Mq,fn,ex,xs,fN,Ua,wY,⟨w1,w2,hK⟩,S2⟩;obtain⟨F',g1,g2,g3⟩:=aqO D7 Mq;refine⟨gI bl.length vv,xs,eC bl ic x.it g.d.k s'++ex,.aZ u::.core (a_ g.d.k s' F') (fn++fB)::rest,?_,?_,?_,hK F' (by rw[g1];exact w1) (by rw[g2];exact w2)⟩
        ·rw[<-hl,D0];exact Ua.symm
        ·simp[eC,hl,fN]
        ·have H':=T9 H q2 q3 n4 s';have nG:=hp (eC bl ic x.it g.d.k s') (by simp[eC]);have CV:(eC bl ic x.it g.d.k s').getD ip di=dN n' d f:=by
          have:(eC bl ic x.it g.d.k s')[ip]?=some (dN n' d f):=by
           unfold eC;rw[kH n6,kH n5];exact xd
          exact jm this
         rw[emp,D4 H' hg,CV]at nG;have Bg:(r.map λj=>az ids (ids.getD j 0) ((eC bl ic x.it g.d.k s').getD j di))=r.map λj=>az ids (ids.getD j 0) (bl.getD j di):=by
          unfold eC;refine T_ ?_;intro j hj;have:=hr j hj;simp only[ca,oV,or_false,not_or]at this;omega
         rw[Bg]at nG;have cW:ids.length=(eC bl ic x.it g.d.k s').length:=by simp[eC,hl]
         have Ub:bM ids.length (eC bl ic x.it g.d.k s')=true:=by
          unfold eC;rw[<-hl]at qw l3;refine HI ?_ _ _ (HI ?_ _ _ qw)
          ·exact vK (Nat.zero_le _) _ (GY s')
          ·simp only[gL,DD,lG,bj,cK,bg,ie,Bool.true_and,Bool.and_true];exact l3
         rw[eZ _ _ _ _ cW,e_ _ _ Ub,zi (ids':=xs) xs ex wY];rw[g3,<-HJ]at S2;have S3:St ms w0 (lits (cF (ids.getD ic 0) (ids.getD x.it 0)) (cF (ids.getD ic 0) (ids.getD x.it 0)) (cP g.d.k s')++(lits xs xs ex++((F'.B++[az ids (ids.getD ip 0) (dN n' d f)])++(fn++(dC u++((r.map λj=>az ids (ids.getD j 0) (bl.getD j di))++(fB++ax rest R))))))) w':=S2;refine S3.perm ?_;show List.Perm _ ((lits ids ids (eC bl ic x.it g.d.k s')++lits xs xs ex)++(dC u++((F'.B++(fn++fB))++ax rest R)));refine EA ?_ ((nG.symm.append_right _).append_right _);exact gO λf=>by simp only[ik];omega
      ·exact hc.elim
     ·exact hc.elim
    ·exact hc.elim
   ·exact hc.elim
  ·exact hc.elim
 ·exact hc.elim
end
section
open Go Go.RowKit Go.BigFrame Sx Vx
variable{fr:Sd.aE->Nat×Sd.av}
structure D8 where
 kind:Int
 link:Int
 code:Int
 x:Option aO
 n:Nat
 c:Nat
 s:Sd.g9
 bad:Bool
def ab3 (C:Sd.aL) (u:ae) (s:Sd.aa) (o:D8):Sd.aa:=
 if o.kind.tmod 4=1 then s.fO C o.s else if o.kind.tmod 4=2 then s.qV C o.bad else if o.kind.tmod 4=3 then s.tick C else fM C s o.link o.code (ph 40 o.n) (fk u o.x)
def Mr (k:LK) (s:Sd.aa):Prop:=some (b9 k)=some (b9 k)/\some (iB k)=some (iB k)/\lG k 3 s=lG k 3 (bQ s)/\s.c.p.bW=s.c.p.bW/\s.c.p.d_=s.c.p.d_/\s.c.p.queue=k.most
section
variable(C:Sd.aL) (k:LK) (s:Sd.aa) (F:aW fr (aR k s)) (u:ae) (fB:List ai) (o:D8) (X:VK (LG fr))
end
theorem ef.step {k:LK} {s:Sd.aa} (h:ef k s) (u:ae) (o:D8) (hx:Sd.nM o.s.x):ef k (cE (ab3 (aJ aH) u s o)):=by
 unfold ab3;split
 ·exact h.fO hx
 split
 ·exact h.qV _
 split
 ·exact h.tick
 ·exact h.item _ _ _ _
end
section
open Go Go.RowKit Go.BigFrame Sx Vx
section
variable{G:Type} [Bl G]
end
section
variable(n c c':Nat) (y y':Option aO) (q:Nat->Int) (a b:Bool) (ty ty':BT) (u u':List ab) (K:VK Empty)
end
variable{fr:Sd.aE->Nat×Sd.av}
def HK (P:aF):(ba->V)->Op->List VB->List (LG fr)->VK (LG fr)->Prop:=λe op bl ch K=>match op with
 |.call c=>(match c.callee,c.args.toList,c.argTypes.toList with
  |.builtin .append,[s,xs],[t,tx]=>(match P.underlying t,P.underlying tx with
   |some (.slice 5),some (.slice _)=>(match e s,e xs,ch with
    |.sl i 0 0 0,.raw (.slice a m c),.aZ u::rest=>cond (bM bl.length bl) ((kq u a m c (fk u a)/\m<=1000000)/\(m=0->K (.sl i 0 0 0) bl (.aZ u::rest))/\(0<m->∀d:Nat,K (.sl bl.length 0 m (m+d)) (bl++[dN m d (fk u a)]) (.aZ u::rest))) False
    |_,_,_=>False)
   |_,_=>False)
  |_,_,_=>False)
 |_=>False
theorem Uk {gl:Nat->Option Nat}:fP (G:=LG fr) prog gl (HK prog):=by
 intro e op ids bl ch R ms w0 w K ρ o hg hl S a9 ho h;unfold HK at h;split at h
 ·rename_i c;split at h
  ·rename_i s xs t tx eQ cR dO;split at h
   ·rename_i T ht gh;split at h
    ·rename_i i a m c' u rest gw fN;cases hq:bM bl.length bl with
     |false=>rw[hq]at h;exact h.elim
     |true=>
      rw[hq]at h;obtain⟨⟨hk,hm⟩,h0,h1⟩:=h;have vB:∀y∈dC u,y∈lits ids ids bl++ax (.aZ u::rest) R:=λy hy=>by
       refine tH _ ?_;show y∈dC u++ax rest R;exact oU _ hy
      have fH:=Oh (P:=prog) (⟨hm,abZ S vB hk⟩:dL w a m c' (fk u a)) gh;obtain⟨nq,ar,iy⟩:=c;simp only at eQ cR dO;have e2:ar=#[s,xs]:=by rw[<-cR]
      have e3:iy=#[t,tx]:=by rw[<-dO]
      subst eQ e2 e3;have gY:ρ s=.slice (some ⟨ids.getD i 0,0,none⟩) 0 0:=by rw[a9,gw];simp only[den]
      have rp:ρ xs=.slice a m c':=by rw[a9,fN];simp only[den]
      by_cases kP:m=0
      ·subst kP;refine⟨_,[],bl,_,w,.inl ?_,by simpa using hl,by simpa using S,h0 rfl⟩;rw[jL (P:=prog) (ρ:=ρ) (o:=o) ho gY rp (aqM (g:=fk u a) fH ht ⟨ids.getD i 0,0,none⟩)];simp only[den,cQ]
      ·obtain⟨c2,w2,bG,cn,hle,HL⟩:=Uj (g:=fk u a) (x:=a) (ty:=o.type) (t:=t) fH ht (by omega) (by omega) ⟨ids.getD i 0,0,none⟩;have h2:=h1 (by omega) (c2-m);rw[show m+(c2-m)=c2 by omega]at h2;refine⟨_,[w.heap.size],_,_,w2,.inl ?_,by simp[hl],?_,h2⟩
       ·rw[jL (P:=prog) (ρ:=ρ) (o:=o) ho gY rp bG];simp only[den];rw[<-hl,kS]
       ·have e:az (ids++[w.heap.size]) w.heap.size (dN m (c2-m) (fk u a))=⟨w.heap.size,true,.cells (bD m (fk u a) c2) 5 (0,0)⟩:=by
         unfold az;rw[xb,show m+(c2-m)=c2 by omega];rfl
        rw[eZ _ _ _ _ hl,e_ _ _ (by rw[hl];exact hq)];simp only[lits,e];refine(S.new cn (dE _) HL).perm ?_;rw[bR];exact jH.symm
    ·exact h.elim
   ·exact h.elim
  ·exact h.elim
 ·exact h.elim
theorem CX {G:Type} [Bl G] {C:Ctx G} {f n:Nat} {args:List V} {ch0:List G} {K:VK G} (hT:∀f c,C.T f=some c->Sound C.P C.gl f c) (hQ:pD C) (HM:C.gl=cU) (cS:bo C n f args [] ch0 K)
 {Y:List ai} {ms:List Nat} {w0 w:ae} (S:St ms w0 (ax ch0 Y) w):
 aS C.P f (aD [] args).toArray w λv w'=>∃(x:V) (more:List Nat) (bl':List VB) (ch':List G),v=den more x/\more.length=bl'.length/\St ms w0 (lits more more bl'++ax ch' Y) w'/\K x bl' ch':=
 eG hT hQ n (ids:=[]) (bl:=[]) (λg i h=>by rw[HM]at h;cases h) rfl S cS
theorem ab4 {G:Type} [Bl G] {C:Ctx G} {f n:Nat} {ids:List Nat} {bl:List VB} {args args':List V} {ch0 rest:List G} {R:List ai} {ms:List Nat} {w0 w:ae} {K:VK G} (hT:∀f c,C.T f=some c->Sound C.P C.gl f c) (hQ:pD C) (HM:C.gl=cU) (hl:ids.length=bl.length)
 (hw:bM bl.length bl=true) (ha:aD ids args=aD [] args') (S:St ms w0 (lits ids ids bl++ax (ch0++rest) R) w) (cS:bo C n f args' [] ch0 (br 0 λv b c=>K (gI bl.length v) (bl++w8 bl.length b) (c++rest))):
 aS C.P f (aD ids args).toArray w λv w'=>∃x more bl' ch',v=den (ids++more) x/\(ids++more).length=bl'.length/\St ms w0 (lits (ids++more) (ids++more) bl'++ax ch' R) w'/\K x bl' ch':=by
 have S1:St ms w0 (ax ch0 (lits ids ids bl++ax rest R)) w:=S.perm (by
  rw[mD,iI (ax rest R) ch0,iI (lits ids ids bl++ax rest R) ch0];exact gO λf=>by simp only[ik];omega)
 rw[ha];refine(CX hT hQ HM cS S1).mono ?_;rintro v w' ⟨x,more,bl',ch',rfl,h1,S',hK⟩;obtain⟨v2,cB,bl2,hv,cW,S2,pP⟩:=hU (n0:=0) h1 (Nat.zero_le _) S' hK;simp only[V9,fl]at hv cW S2;refine⟨_,cB,_,_,?_,?_,?_,pP⟩
 ·rw[hv,<-hl,D0]
 ·rw[fq,fq,abP,hl,cW]
 ·rw[eZ _ _ _ _ hl,e_ _ _ (by rw[hl];exact hw),<-hl,abQ];refine S2.perm ?_;rw[mD,iI (ax rest R) ch',iI (lits ids ids bl++ax rest R) ch'];exact gO λf=>by simp only[ik];omega
theorem aqP {ids:List Nat} {args:List V} (ha:bj 0 args=true):aD ids args=aD [] args:=by have:=nk (ids:=[]) (more:=ids) args ha;simpa using this
def oG (n:Nat):Nat:=if n=0 then 1 else ph 64 n
def kL (n:Nat) (f:Sd.av):Sd.av:=if n=0 then λ_=>7 else f
theorem ab5 (n:Nat):1<=oG n/\oG n<=64:=by unfold oG ph;split<;>omega
def HN:c_ (LG fr):=λargs bl ch K=>match args,ch with
 |[.raw (.slice a n c)],.aZ u::rest=>cond (bM bl.length bl) (kq u a n c (fk u a)/\∀d:Nat,K (.sl bl.length 0 (oG n) (oG n+d)) (bl++[dN (oG n) d (kL n (fk u a))]) (.aZ u::rest)) False
 |_,_=>False
def aqQ (u:ae) (a:Option aO) (n c:Nat) (K:VK (LG fr)):Prop:=
 let m:Int:=if(64:Int)<((n:Nat):Int)then 64 else((n:Nat):Int)
 cond ((n:Int)==0) (K (.sl 0 0 1 1) [⟨true,⟨5,(0,0)⟩,[.int .u8 7]⟩] [.aZ u])
  ((0<=m/\m<=(c:Int))/\(kq u a m.toNat c (fk u a)/\m.toNat<=1000000)/\(m.toNat=0->K (.sl 0 0 0 0) [⟨true,⟨5,(0,0)⟩,[]⟩] [.aZ u])/\(0<m.toNat->∀d:Nat,K (.sl 0 0 m.toNat (m.toNat+d)) [dN m.toNat d (fk u a)] [.aZ u]))
theorem aqR (u:ae) (a:Option aO) (n c:Nat) (K:VK (LG fr)):bo (fA prog cU ([]:List (bK (LG fr))) (HK prog) Uk) 60 25 [.raw (.slice a n c)] [] [.aZ u] (br 0 K)=aqQ u a n c K:=by kernel_rfl
theorem aqS {gl:Nat->Option Nat}:Sound prog gl 25 (HN (fr:=fr)):=by
 intro args ids bl ch R ms w0 w K hg hl S hc;unfold HN at hc;split at hc
 ·rename_i a n c u rest;cases hq:bM bl.length bl with
  |false=>rw[hq]at hc;exact hc.elim
  |true=>
   rw[hq]at hc;obtain⟨hk,hK⟩:=hc
   let K0:VK (LG fr):=λv b ch=>ch=[.aZ u]/\∃m d,oG n=m/\v=.sl 0 0 m (m+d)/\∃B,b=[B]/\az [0] 0 B=az [0] 0 (dN m d (kL n (fk u a)))/\bj 0 B.c=true
   have cS:bo (fA prog cU ([]:List (bK (LG fr))) (HK prog) Uk) 60 25 [.raw (.slice a n c)] [] [.aZ u] (br 0 K0):=by
    rw[aqR];refine aI (λe=>?_) (λe=>?_)
    ·have e:n=0:=by simpa using e
     subst e;exact⟨rfl,1,0,rfl,rfl,_,rfl,rfl,rfl⟩
    ·have e:n≠0:=by simpa using e
     have hm:(if(64:Int)<((n:Nat):Int)then 64 else((n:Nat):Int))=((ph 64 n:Nat):Int):=aeF 64 n;rw[hm];have hn:oG n=ph 64 n:=by unfold oG;rw[if_neg e]
     have hf:kL n (fk u a)=fk u a:=by unfold kL;rw[if_neg e]
     have h1:=hk.1;have hle:ph 64 n<=n:=by unfold ph;omega
     have AS:0<ph 64 n:=by unfold ph;omega
     have h64:ph 64 n<=64:=by unfold ph;omega
     refine⟨⟨by omega,by omega⟩,?_⟩;rw[Int.toNat_natCast];exact⟨⟨(hk.cut hle (by omega)).2,by omega⟩,λh0=>absurd h0 (by omega),λ_ d=>⟨rfl,_,d,hn,rfl,_,rfl,by rw[hf],rfl⟩⟩
   rw[aqP (ids:=ids) (args:=[.raw (.slice a n c)]) rfl];refine(CX (C:=fA prog cU ([]:List (bK (LG fr))) (HK prog) Uk) (aC.nil (P:=prog) (gl:=cU)).T (aC.nil (P:=prog) (gl:=cU)).Q rfl cS (Y:=lits ids ids bl++ax rest R) (S.perm (gO λf=>by simp only[ax,ik];show _+(List.countP f (dC u)+_)=List.countP f (dC u)+_;omega))).mono ?_;rintro v w' ⟨x,more,bl',ch',rfl,h1,S',sS⟩;obtain⟨v2,cB,bl2,hv,cW,S2,rfl,m,d,hm,rfl,B,rfl,hB,hwB⟩:=hU (n0:=0) h1 (Nat.zero_le _) S' sS
   match cB,cW with
   |[b],_=>
    have hd:=hK d;rw[hm]at hd;refine⟨_,[b],_,_,?_,by simp[hl],?_,hd⟩
    ·rw[hv];have:(ids++[b]).getD bl.length 0=b:=by rw[<-hl];simp[ij]
     simp only[den,this,V9,fl];rfl
    ·have e1:az [b] b B=az (ids++[b]) b (dN m d (kL n (fk u a))):=by
      have q1:az [b] b B=az [0] b B:=mL hwB;have q2:az (ids++[b]) b (dN m d (kL n (fk u a)))=az [0] b (dN m d (kL n (fk u a))):=mL rfl;rw[q1,q2];unfold az at hB⊢;simp only[ai.mk.injEq,Obj.cells.injEq]at hB⊢;exact⟨trivial,hB.2⟩
     rw[eZ _ _ _ _ hl,e_ _ _ (by rw[hl];exact hq)];simp only[V9,fl,lits]at S2;rw[e1]at S2;refine S2.perm ?_;show List.Perm ([_]++(dC u++(lits ids ids bl++ax rest R))) ((lits ids ids bl++[_])++(dC u++ax rest R));exact gO λf=>by simp only[ik,zW,zX];omega
   |[],h=>simp at h
   |_::_::_,h=>simp at h
 ·exact hc.elim
theorem aqT:hJ (HN (fr:=fr)):=by
 intro args bl ch K hc;unfold HN at hc⊢;split at hc
 ·cases hq:bM bl.length bl with
  |false=>rw[hq]at hc;exact hc.elim
  |true=>rw[hq]at hc;exact⟨hc.1,λd=>⟨hc.2 d,_,rfl⟩⟩
 ·exact hc.elim
def dk (a m:Int):Int:=(i64.wrap (a.tmod m+m)).tmod m
theorem D9 (a:Int) {m:Int} (h:0<m) (h2:m<=1000000):0<=dk a m/\dk a m<m:=by
 unfold dk;have h1:=Int.tmod_lt_of_pos a h;have h3:-m<a.tmod m:=by
  have:=Int.lt_tmod_of_pos a h;omega
 have hw:i64.wrap (a.tmod m+m)=a.tmod m+m:=te (by omega);rw[hw];exact⟨Int.tmod_nonneg _ (by omega),Int.tmod_lt_of_pos _ h⟩
def HO:c_ (LG fr):=λargs bl ch K=>match args with
 |[.int .i64 a,.int .i64 (.ofNat 3)]=>cond (cu bl.length 5) ((dk a 3=0->K (.int .i64 0) bl ch)/\(dk a 3=1->K (.int .i64 1) bl ch)/\(dk a 3=2->K (.int .i64 2) bl ch)) (K (.int .i64 (dk a 3)) bl ch)
 |[.int .i64 a,.int .i64 (.ofNat 2)]=>(dk a 2=0->K (.int .i64 0) bl ch)/\(dk a 2=1->K (.int .i64 1) bl ch)
 |[.int .i64 a,.int .i64 (.ofNat (m+1))]=>K (.int .i64 (dk a (.ofNat (m+1)))) bl ch
 |_=>False
theorem aqU (a:Int) (m:Nat) (X:V->Prop):eb prog [] 60 26 [.int .i64 a,.int .i64 (.ofNat (m+1))] X=X (.int .i64 (dk a (.ofNat (m+1)))):=by kernel_rfl
theorem aqV (a:Int) (m:Nat) (ids:List Nat) (w:ae):aS prog 26 (aD ids [.int .i64 a,.int .i64 (.ofNat (m+1))]).toArray w λx w'=>x=den ids (.int .i64 (dk a (.ofNat (m+1))))/\Ch [] w w':=
 C2 bH.nil 60 (by rw[aqU]) rfl rfl ids w
theorem aqW {gl:Nat->Option Nat}:Sound prog gl 26 (HO (fr:=fr)):=by
 intro args ids bl ch R ms w0 w K hg hl S hc;have go:∀(a:Int) (m:Nat),K (.int .i64 (dk a (.ofNat (m+1)))) bl ch->aS prog 26 (aD ids [.int .i64 a,.int .i64 (.ofNat (m+1))]).toArray w λv w'=>∃x more bl' ch',v=den (ids++more) x/\(ids++more).length=bl'.length/\St ms w0 (lits (ids++more) (ids++more) bl'++ax ch' R) w'/\K x bl' ch':=by
  intro a m hK;refine(aqV a m ids w).mono ?_;rintro v w' ⟨rfl,cn⟩;exact⟨_,[],bl,ch,by simp,by simpa using hl,by simpa using S.quiet cn,hK⟩
 have cast:∀(a:Int) (m:Nat) (r:Int),dk a (.ofNat (m+1))=r->K (.int .i64 r) bl ch->K (.int .i64 (dk a (.ofNat (m+1)))) bl ch:=λa m r e h=>by rw[e];exact h
 unfold HO at hc;split at hc
 ·rename_i a;refine go a 2 ?_;have hb:=D9 a (m:=3) (by decide) (by decide);cases hq:cu bl.length 5 with
  |false=>rw[hq]at hc;exact hc
  |true=>
   rw[hq]at hc;have h3:dk a (.ofNat (2+1))=dk a 3:=rfl;have:dk a 3=0\/dk a 3=1\/dk a 3=2:=by omega
   rcases this with e|e|e
   ·exact cast a 2 _ e (hc.1 e)
   ·exact cast a 2 _ e (hc.2.1 e)
   ·exact cast a 2 _ e (hc.2.2 e)
 ·rename_i a;refine go a 1 ?_;have hb:=D9 a (m:=2) (by decide) (by decide);have:dk a 2=0\/dk a 2=1:=by omega
  rcases this with e|e
  ·exact cast a 1 _ e (hc.1 e)
  ·exact cast a 1 _ e (hc.2 e)
 ·rename_i a m _ _;exact go a m hc
 ·exact hc.elim
theorem aqX:hJ (HO (fr:=fr)):=by
 intro args bl ch K hc;unfold HO at hc⊢;split at hc
 ·cases hq:cu bl.length 5 with
  |false=>rw[hq]at hc;exact⟨hc,[],by simp⟩
  |true=>rw[hq]at hc;exact⟨λe=>⟨hc.1 e,[],by simp⟩,λe=>⟨hc.2.1 e,[],by simp⟩,λe=>⟨hc.2.2 e,[],by simp⟩⟩
 ·exact⟨λe=>⟨hc.1 e,[],by simp⟩,λe=>⟨hc.2 e,[],by simp⟩⟩
 ·exact⟨hc,[],by simp⟩
 ·exact hc.elim
def iN:V->Int|.int .i64 n=>n|_=>0
def sA:V->Option aO|.raw (.slice a _ _)=>a|_=>none
def sN:V->Nat|.raw (.slice _ n _)=>n|_=>0
def sC:V->Nat|.raw (.slice _ _ c)=>c|_=>0
def iJ (i:Nat):Bool:=bu 5 i&&bu i 8
def ab6 (i:Nat) (v:V):Bool:=match v with
 |.int .i64 _=>!iJ i
 |.raw (.slice _ _ _)=>iJ i
 |_=>false
def HP:List V->Nat->Bool
 |[],i=>aq i 56
 |v::l,i=>ab6 i v&&HP l (i+1)
structure gp where
 q:Nat->Int
 ka:Nat->Option aO
 kn:Nat->Nat
 kc:Nat->Nat
def Ms (l:List V):Option gp:=match l with
 |[.eo p ka kn kc]=>some ⟨p.i,ka,kn,kc⟩
 |l=>bif HP l 0 then some ⟨λi=>iN (nth l i),λj=>sA (nth l (j+5)),λj=>sN (nth l (j+5)),λj=>sC (nth l (j+5))⟩else none
def xf (i:Nat) (v:V):ab:=bif iJ i then .slice (sA v) (sN v) (sC v)else .int .i64 (iN v)
theorem ab7 (ids:List Nat):∀(l:List V) (i:Nat),HP l i=true->i+l.length=56/\ah ids l=(bd l.length).map λj=>xf (i+j) (nth l j)
 |[],i,h=>⟨ck h,rfl⟩
 |v::l,i,h=>by
  unfold HP at h;rw[bg]at h;obtain⟨h1,h2⟩:=ab7 ids l (i+1) h.2;refine⟨by simp;omega,?_⟩;rw[kN,vd,eH,mr];simp only[ah,h2];have e:ah ids l=(bd l.length).map ((λj=>xf (i+j) (nth (v::l) j))∘Nat.succ):=by
   rw[h2];apply qD;intro j _;show xf (i+1+j) (nth l j)=xf (i+(j+1)) (nth l j);rw[show i+1+j=i+(j+1) by omega]
  rw[<-h2,e];have hv:cl v (den ids v)=[xf (i+0) (nth (v::l) 0)]:=by
   have h3:=h.1;unfold ab6 at h3;split at h3
   ·have:iJ i=false:=by simpa using h3
    simp only[cl,den,jM,jN,jy,xf,oR,this,cond_false,iN]
   ·simp only[cl,den,jM,jN,jy,xf,oR,h3,cond_true,sA,sN,sC]
   ·cases h3
  rw[hv];rfl
theorem ab8 {l:List V} {x:gp} (h:Ms l=some x) (k:Nat->Nat×Sd.av) (ids:List Nat):ah ids l=qW ⟨x.q,k⟩ x.ka x.kn x.kc:=by
 unfold Ms at h;split at h
 ·cases h;simp only[ah,cl,cQ];rfl
 ·cases hb:HP l 0 with
  |false=>rw[hb]at h;cases h
  |true=>
   rw[hb]at h;cases h;obtain⟨h1,h2⟩:=ab7 ids l 0 hb;rw[h2,show l.length=56 by omega];unfold qW;apply qD;intro j hj;have hj:=List.mem_range.1 hj;show xf (0+j) (nth l j)=_;rw[eD];unfold xf iJ;cases hk:bu 5 j&&bu j 8 with
   |false=>rfl
   |true=>
    rw[bg]at hk;have:=du hk.1;simp only[cond_true];rw[show j-5+5=j by omega]
def nQ (o1 o2 o3:Int) (q:Nat->Int) (i:Nat):Int:=
 bif bu i 13 then(bif aq i 1 then o1 else bif aq i 2 then o2 else bif aq i 3 then o3 else bif aq i 4 then 4 else bif aq i 9 then 1 else bif bu 10 i&&bu i 12 then bits .and .i64 (q i) 14 else 0)
 else bif bu i 33 then bits .and .i64 (q i) 15
 else bif bu i 38 then bits .and .i64 (q i) 31
 else bif bu i 41 then dk (q i) 5
 else bif bu i 46 then i64.wrap (1+dk (q i) 1000)
 else bif aq i 47 then dk (q i) 1001
 else bif bu i 49 then i64.wrap (1+dk (q i) 3)
 else bif aq i 50 then 0
 else bif bu i 53 then dk (q i) 1001
 else bif aq i 54 then i64.wrap (1+dk (q i) 1000)
 else bits .and .i64 (q i) 65535
def BN (q:Nat->Int) (o1 o2 o3:Int):Prop:=
 (dk (q 1) 3=0/\((dk (q 2) 2=0/\o1=1/\o2=2/\o3=3)\/(dk (q 2) 2=1/\o1=1/\o2=3/\o3=2)))\/
 (dk (q 1) 3=1/\((dk (q 2) 2=0/\o1=2/\o2=1/\o3=3)\/(dk (q 2) 2=1/\o1=2/\o2=3/\o3=1)))\/
 (dk (q 1) 3=2/\((dk (q 2) 2=0/\o1=3/\o2=2/\o3=1)\/(dk (q 2) 2=1/\o1=3/\o2=1/\o3=2)))
def k4 {α:Type} (a b c d:α):Nat->α:=λj=>match j with|0=>a|1=>b|2=>c|_=>d
def aqY (o1 o2 o3:Int) (q:Nat->Int) (kn d:Nat->Nat):List V:=(bd 56).map λi=>bif iJ i then .sl (i-5) 0 (oG (kn (i-5))) (oG (kn (i-5))+d (i-5))else .int .i64 (nQ o1 o2 o3 q i)
def HR (p:Nat->Int) (n d:Nat->Nat):List V:=(bd 56).map λi=>bif iJ i then .sl (i-5) 0 (n (i-5)) (n (i-5)+d (i-5))else .int .i64 (p i)
section
variable(x:gp) (f:Nat->Nat×Sd.av) (u:ae) (K:VK (LG fr))
def Mt (i d:Nat):VB:=dN (oG (x.kn i)) d (kL (x.kn i) (fk u (x.ka i)))
def kM (i:Nat):Prop:=kq u (x.ka i) (x.kn i) (x.kc i) (fk u (x.ka i))
def Ul (d3:Nat) (o1 o2 o3:Int):Prop:=kM x u 0/\∀d0:Nat,kM x u 1/\∀d1:Nat,kM x u 2/\∀d2:Nat,K (.agg (aqY o1 o2 o3 x.q x.kn (k4 d0 d1 d2 d3))) [Mt x u 0 d0,Mt x u 1 d1,Mt x u 2 d2,Mt x u 3 d3] [.aZ u]
def Um (d3:Nat) (o1 o2 o3:Int):Prop:=(dk (x.q 2) 2=0->Ul x u K d3 o1 o2 o3)/\(dk (x.q 2) 2=1->Ul x u K d3 o1 o3 o2)
def ab9:Prop:=kM x u 3/\∀d3:Nat,(dk (x.q 1) 3=0->Um x u K d3 1 2 3)/\(dk (x.q 1) 3=1->Um x u K d3 2 1 3)/\(dk (x.q 1) 3=2->Um x u K d3 3 2 1)
def Un (fr:Sd.aE->Nat×Sd.av):List (bK (LG fr)):=[⟨25,true,HN⟩,⟨26,true,HO⟩]
theorem ab_:aC prog cU (Un fr):=aC.cons ⟨aqS,λ_=>aqT⟩ (aC.cons ⟨aqW,λ_=>aqX⟩ aC.nil)
theorem aqZ:bo (bP prog cU (Un fr)) 60 10 [.agg [.eo ⟨x.q,f⟩ x.ka x.kn x.kc]] [] [.aZ u] (br 0 K)=ab9 x u K:=by kernel_rfl
end
structure Made (x:gp) (p:Nat->Int) (n:Nat->Nat):Prop where
 o:BN x.q (p 1) (p 2) (p 3)
 p:∀i,i<56->iJ i=false->p i=nQ (p 1) (p 2) (p 3) x.q i
 n:∀j,n j=oG (x.kn j)
def aca (x:gp) (u:ae) (K:VK (LG fr)):Prop:=(kM x u 0/\kM x u 1/\kM x u 2/\kM x u 3)/\∀(p:Nat->Int) (n d:Nat->Nat),Made x p n->
 K (.agg (HR p n d)) [dN (n 0) (d 0) (kL (x.kn 0) (fk u (x.ka 0))),dN (n 1) (d 1) (kL (x.kn 1) (fk u (x.ka 1))),dN (n 2) (d 2) (kL (x.kn 2) (fk u (x.ka 2))),dN (n 3) (d 3) (kL (x.kn 3) (fk u (x.ka 3)))] [.aZ u]
theorem aq0 {x:gp} {u:ae} {K:VK (LG fr)} (h:aca x u K):ab9 x u K:=by
 obtain⟨⟨r0,r1,r2,r3⟩,hK⟩:=h;have g:∀(d3:Nat) (o1 o2 o3:Int),BN x.q o1 o2 o3->Ul x u K d3 o1 o2 o3:=λd3 o1 o2 o3 h=>⟨r0,λd0=>⟨r1,λd1=>⟨r2,λd2=>hK (nQ o1 o2 o3 x.q) (λj=>oG (x.kn j)) (k4 d0 d1 d2 d3) ⟨h,λ_ _ _=>rfl,λ_=>rfl⟩⟩⟩⟩;refine⟨r3,λd3=>⟨λe=>⟨λe2=>g d3 _ _ _ ?_,λe2=>g d3 _ _ _ ?_⟩,λe=>⟨λe2=>g d3 _ _ _ ?_,λe2=>g d3 _ _ _ ?_⟩,λe=>⟨λe2=>g d3 _ _ _ ?_,λe2=>g d3 _ _ _ ?_⟩⟩⟩<;>(unfold BN;omega)
def Mu:c_ (LG fr):=λargs bl ch K=>match args,ch with
 |[.agg l],.aZ u::rest=>(match Ms l with
  |some x=>cond (bM bl.length bl) (aca x u λv b c=>K (gI bl.length v) (bl++w8 bl.length b) (c++rest)) False
  |none=>False)
 |_,_=>False
theorem acb {gl:Nat->Option Nat}:Sound prog gl 10 (Mu (fr:=fr)):=by
 intro args ids bl ch R ms w0 w K hg hl S hc;unfold Mu at hc;split at hc
 ·rename_i l u rest;split at hc
  ·rename_i x hx;cases hq:bM bl.length bl with
   |false=>rw[hq]at hc;exact hc.elim
   |true=>
    rw[hq]at hc;refine ab4 (C:=bP prog cU (Un fr)) (n:=60) (args':=[.agg [.eo ⟨x.q,λ_=>(0,λ_=>0)⟩ x.ka x.kn x.kc]]) (ch0:=[.aZ u]) (rest:=rest) ab_.T ab_.Q rfl hl hq ?_ S (by rw[aqZ];exact aq0 hc);simp only[aD,den,ab8 hx (λ_=>(0,λ_=>0)) ids,ah,cl,cQ]
  ·exact hc.elim
 ·exact hc.elim
def acd (i:Nat) (v:V):Bool:=match v with
 |.int .i64 _=>!iJ i
 |.raw (.slice _ _ _)=>iJ i
 |.sl _ _ _ _=>iJ i
 |_=>false
def tq:List V->Nat->Bool
 |[],i=>aq i 56
 |v::l,i=>acd i v&&tq l (i+1)
def Mv (ids:List Nat):V->Option aO|.raw (.slice a _ _)=>a|.sl i o _ _=>some ⟨ids.getD i 0,o,none⟩|_=>none
def D_:V->Nat|.raw (.slice _ n _)=>n|.sl _ _ n _=>n|_=>0
def Mw:V->Nat|.raw (.slice _ _ c)=>c|.sl _ _ _ c=>c|_=>0
def xg (ids:List Nat) (i:Nat) (v:V):ab:=bif iJ i then .slice (Mv ids v) (D_ v) (Mw v)else .int .i64 (iN v)
theorem ace (ids:List Nat):∀(l:List V) (i:Nat),tq l i=true->i+l.length=56/\ah ids l=(bd l.length).map λj=>xg ids (i+j) (nth l j)
 |[],i,h=>⟨ck h,rfl⟩
 |v::l,i,h=>by
  unfold tq at h;rw[bg]at h;obtain⟨h1,h2⟩:=ace ids l (i+1) h.2;refine⟨by simp;omega,?_⟩;rw[kN,vd,eH,mr];simp only[ah,h2];have e:(bd l.length).map (λj=>xg ids (i+1+j) (nth l j))=(bd l.length).map ((λj=>xg ids (i+j) (nth (v::l) j))∘Nat.succ):=by
   apply qD;intro j _;show xg ids (i+1+j) (nth l j)=xg ids (i+(j+1)) (nth l j);rw[show i+1+j=i+(j+1) by omega]
  rw[e];have hv:cl v (den ids v)=[xg ids (i+0) (nth (v::l) 0)]:=by
   have h3:=h.1;unfold acd at h3;split at h3
   ·have:iJ i=false:=by simpa using h3
    simp only[cl,den,jM,jN,jy,xg,oR,this,cond_false,iN]
   ·simp only[cl,den,jM,jN,jy,xg,oR,h3,cond_true,Mv,D_,Mw]
   ·simp only[cl,den,jM,jN,jy,xg,oR,h3,cond_true,Mv,D_,Mw]
   ·cases h3
  rw[hv];rfl
def Ea (l:List V) (f:Nat->Nat×Sd.av):Sd.aN:=⟨λi=>iN (nth l i),f⟩
theorem Uo {l:List V} (h:tq l 0=true) (f:Nat->Nat×Sd.av) (ids:List Nat):(aD ids [.agg l]).toArray=#[.agg (j_ (Ea l f) (λj=>Mv ids (nth l (j+5))) (λj=>D_ (nth l (j+5))) (λj=>Mw (nth l (j+5))))]:=by
 obtain⟨h1,h2⟩:=ace ids l 0 h;simp only[aD,den];rw[h2,show l.length=56 by omega];rfl
def zj:Nat->Nat×Sd.av:=λ_=>(0,λ_=>0)
def Up:QF:=⟨27,λargs _=>match args with
 |[.agg l]=>bif tq l 0 then some (True,.int .i64 (lD (λi=>iN (nth l i)) (λj=>D_ (nth l (j+5)))))else none
 |_=>none⟩
def Uq:QF:=⟨30,λargs _=>match args with
 |[.agg l]=>bif tq l 0 then some (True,.agg (cX (Sd.Tok.new (Ea l zj))))else none
 |_=>none⟩
def Ur:QF:=⟨33,λargs _=>match args with
 |[.raw (.slice none 0 0)]=>some (True,.agg [.bJ .u8 32 λ_=>0])
 |_=>none⟩
theorem aq1 (gl:Nat->Option Nat):Up.Ok prog gl:=by
 intro args bl p_ v_ h hp ids w _ _;unfold Up at h;dsimp only at h;split at h
 ·rename_i l;cases hq:tq l 0 with
  |false=>rw[hq]at h;cases h
  |true=>
   rw[hq]at h;simp only[cond_true,aV,bw]at h;obtain⟨rfl,rfl⟩:=h;rw[Uo hq zj ids];exact ald (Ea l zj) _ _ _ w
 ·cases h
theorem aq2 (gl:Nat->Option Nat):Uq.Ok prog gl:=by
 intro args bl p_ v_ h hp ids w _ _;unfold Uq at h;dsimp only at h;split at h
 ·rename_i l;cases hq:tq l 0 with
  |false=>rw[hq]at h;cases h
  |true=>
   rw[hq]at h;simp only[cond_true,aV,bw]at h;obtain⟨rfl,rfl⟩:=h;rw[Uo hq zj ids];exact ZL (Ea l zj) _ _ _ w
 ·cases h
theorem aq3 (gl:Nat->Option Nat):Ur.Ok prog gl:=by
 intro args bl p_ v_ h hp ids w _ _;unfold Ur at h;dsimp only at h;split at h
 ·simp only[aV,bw]at h;obtain⟨rfl,rfl⟩:=h;exact told (alg w)
 ·cases h
def Eb (p:Sd.aN):Sd.aa:=⟨.new p,[],[]⟩
def Mx:c_ (LG fr):=λargs bl ch K=>match args with
 |[.agg l]=>cond (tq l 0&&bM bl.length bl) (K (.ptr bl.length 0) (bl++[gE (Eb (Ea l zj))]) ch) False
 |_=>False
theorem HT (p:Sd.aN) (bt:Nat) (ids:List Nat):az ids bt (gE (Eb p))=⟨bt,true,.cells (jl (false,⟨0,0⟩) (f3 ⟨false,⟨0,0⟩,0,(λ_=>0),⟨false,0,0⟩⟩ ⟨false,⟨0,0⟩,0,(λ_=>0),⟨false,0,0⟩⟩ ⟨false,⟨0,0⟩,0,(λ_=>0),⟨false,0,0⟩⟩) (p.i 42) (p.i 49)) 157 (0,0)⟩:=by kernel_rfl
def Us:List V:=[.bool false,.int .i64 0,.int .i64 0,.int .i64 0]++(lP 32 (.int .u8 0)++[.bool false,.int .i64 0,.int .u64 0])
def My (b m:Int):List V:=[.bool false,.int .i64 0,.int .i64 0]++(Us++(Us++(Us++[.int .i64 b,.int .i64 m])))
theorem aq4 (p:Sd.aN) (ka:Nat->Option aO) (kn kc:Nat->Nat) (K:VK Empty):bo (bP prog cU ([]:List (bK Empty))) 30 31 [.agg (fa p ka kn kc)] [] [] (br 0 K)=K (.ptr 0 0) [⟨true,⟨157,(0,0)⟩,My (p.i 42) (p.i 49)⟩] []:=by kernel_rfl
theorem aq5 (p:Sd.aN) (bt:Nat) (ids:List Nat):az ids bt ⟨true,⟨157,(0,0)⟩,My (p.i 42) (p.i 49)⟩=az ids bt (gE (Eb p)):=by kernel_rfl
theorem acf {G:Type} [Bl G] {C:Ctx G} {f n:Nat} {args:List V} {ch0:List G} {K:VK G} (hT:∀f c,C.T f=some c->Sound C.P C.gl f c) (hQ:pD C) (HM:C.gl=cU) (cS:Hd (bo C n f args [] ch0 K))
 {Y:List ai} {ms:List Nat} {w0 w:ae} (S:St ms w0 (ax ch0 Y) w):
 aS C.P f (aD [] args).toArray w λv w'=>∃(x:V) (more:List Nat) (bl':List VB) (ch':List G),v=den more x/\more.length=bl'.length/\St ms w0 (lits more more bl'++ax ch' Y) w'/\K x bl' ch':=CX hT hQ HM cS.h S
theorem aq6 (p:Sd.aN) (ka:Nat->Option aO) (kn kc:Nat->Nat) {Y:List ai} {ms:List Nat} {w0 w:ae} (S:St ms w0 Y w):aS prog 31 #[.agg (j_ p ka kn kc)] w λv w1=>∃bt,v=.pointer (some ⟨bt,0,none⟩)/\St ms w0 (az [] bt (gE (Eb p))::Y) w1:=by
 have hv:Hd (bo (bP prog cU ([]:List (bK Empty))) 30 31 [.agg (fa p ka kn kc)] [] [] (br 0 λv b _=>v=.ptr 0 0/\b=[⟨true,⟨157,(0,0)⟩,My (p.i 42) (p.i 49)⟩])):=⟨by rw[aq4];exact⟨rfl,rfl⟩⟩;have hr:=acf (C:=bP prog cU ([]:List (bK Empty))) (aC.nil (P:=prog) (gl:=cU)).T (aC.nil (P:=prog) (gl:=cU)).Q rfl hv (Y:=Y) S;clear hv;refine hr.mono ?_;rintro v w' ⟨y,more,bl',ch',rfl,h1,S',hK⟩;obtain⟨v2,cB,bl2,e,cW,S2,rfl,rfl⟩:=hU (n0:=0) (ids:=more) h1 (by simp) S' hK
 match cB,cW,e,S2 with
 |[bt],_,e,S2=>
  have S3:St ms w0 ([az [bt] bt ⟨true,⟨157,(0,0)⟩,My (p.i 42) (p.i 49)⟩]++Y) w':=match ch',S2 with
   |[],S2=>S2
   |e::_,_=>nomatch e
  rw[aq5,HT,<-HT p bt []]at S3;exact⟨bt,e,S3⟩
theorem aq7:ud prog cU (⟨31,true,Mx⟩:bK (LG fr)):=by
 refine⟨?_,λ_ args bl ch K h=>?_⟩
 ·intro args ids bl ch R ms w0 w K hg hl S hc;simp only at hc;unfold Mx at hc;split at hc
  ·rename_i l;cases hq:tq l 0&&bM bl.length bl with
   |false=>rw[hq]at hc;exact hc.elim
   |true=>
    rw[hq]at hc;simp only[bg]at hq;rw[Uo hq.1 zj ids];refine(aq6 (Ea l zj) _ _ _ S).mono ?_;rintro v w' ⟨bt,rfl,S2⟩;rw[HT]at S2;refine⟨_,[bt],_,ch,?_,by simp[hl],?_,hc⟩
    ·simp only[den];rw[<-hl,kS]
    ·rw[eZ _ _ _ _ hl,e_ _ _ (by rw[hl];exact hq.2)];simp only[lits];rw[HT];refine S2.perm ?_;rw[bR];exact jH.symm
  ·exact hc.elim
 ·simp only at h⊢;unfold Mx at h⊢;split at h
  ·rename_i l;cases hq:tq l 0&&bM bl.length bl with
   |false=>rw[hq]at h;exact h.elim
   |true=>rw[hq]at h;exact⟨h,_,rfl⟩
  ·exact h.elim
def HU (P:aF):(ba->V)->Op->List VB->List (LG fr)->VK (LG fr)->Prop:=λe op bl ch K=>match op with
 |.call c=>(match c.callee,c.args.toList,c.argTypes.toList with
  |.builtin .append,[s,xs],[t,tx]=>(match P.underlying t,P.underlying tx with
   |some (.slice 5),some (.slice _)=>(match e s,e xs,ch with
    |.sl i 0 0 0,.raw (.slice a m c),.aZ u::rest=>cond (bM bl.length bl) (∃f,(kq u a m c f/\m<=1000000/\0<m)/\∀d:Nat,K (.sl bl.length 0 m (m+d)) (bl++[dN m d f]) (.aZ u::rest)) False
    |_,_,_=>False)
   |_,_=>False)
  |_,_,_=>False)
 |_=>False
theorem Ut {gl:Nat->Option Nat}:fP (G:=LG fr) prog gl (HU prog):=by
 intro e op ids bl ch R ms w0 w K ρ o hg hl S a9 ho h;unfold HU at h;split at h
 ·rename_i c;split at h
  ·rename_i s xs t tx eQ cR dO;split at h
   ·rename_i T ht gh;split at h
    ·rename_i i a m c' u rest gw fN;cases hq:bM bl.length bl with
     |false=>rw[hq]at h;exact h.elim
     |true=>
      rw[hq]at h;obtain⟨f,⟨hk,hm,kP⟩,h1⟩:=h;have vB:∀y∈dC u,y∈lits ids ids bl++ax (.aZ u::rest) R:=λy hy=>by
       refine tH _ ?_;show y∈dC u++ax rest R;exact oU _ hy
      have fH:=Oh (P:=prog) (⟨hm,abZ S vB hk⟩:dL w a m c' f) gh;obtain⟨nq,ar,iy⟩:=c;simp only at eQ cR dO;have e2:ar=#[s,xs]:=by rw[<-cR]
      have e3:iy=#[t,tx]:=by rw[<-dO]
      subst eQ e2 e3;have gY:ρ s=.slice (some ⟨ids.getD i 0,0,none⟩) 0 0:=by rw[a9,gw];simp only[den]
      have rp:ρ xs=.slice a m c':=by rw[a9,fN];simp only[den]
      obtain⟨c2,w2,bG,cn,hle,HL⟩:=Uj (g:=f) (x:=a) (ty:=o.type) (t:=t) fH ht kP (by omega) ⟨ids.getD i 0,0,none⟩;have h2:=h1 (c2-m);rw[show m+(c2-m)=c2 by omega]at h2;refine⟨_,[w.heap.size],_,_,w2,.inl ?_,by simp[hl],?_,h2⟩
      ·rw[jL (P:=prog) (ρ:=ρ) (o:=o) ho gY rp bG];simp only[den];rw[<-hl,kS]
      ·have e:az (ids++[w.heap.size]) w.heap.size (dN m (c2-m) f)=⟨w.heap.size,true,.cells (bD m f c2) 5 (0,0)⟩:=by
        unfold az;rw[xb,show m+(c2-m)=c2 by omega];rfl
       rw[eZ _ _ _ _ hl,e_ _ _ (by rw[hl];exact hq)];simp only[lits,e];refine(S.new cn (dE _) HL).perm ?_;rw[bR];exact jH.symm
    ·exact h.elim
   ·exact h.elim
  ·exact h.elim
 ·exact h.elim
def Mz (fr:Sd.aE->Nat×Sd.av):List (bK (LG fr)):=⟨31,true,Mx⟩::qL (LG fr) [Up,Uq,Ur,Lx]
theorem acg:aC prog cU (Mz fr):=aC.cons aq7 (kU (bH.cons (aq1 _) (bH.cons (aq2 _) (bH.cons (aq3 _) (bH.cons (aa5 _) bH.nil)))))
def aq8 (p:Sd.aN) (kn d:Nat->Nat):List V:=(bd 56).map λo=>bif bu 5 o&&bu o 8 then .sl (o-4) 0 (kn (o-5)) (kn (o-5)+d (o-5))else .int .i64 (p.i o)
def Uu:List V:=[.int .i64 0,.bool false]++lP 8 (.int .u8 0)
def Uv (p:Sd.aN) (kn d:Nat->Nat):List V:=aq8 p kn d++(cX (Sd.Tok.new p)++(.ptr 5 0::(Uu++(Uu++(Uu++([.ptr 6 0,.int .i64 0,.int .i64 0,.int .i64 (p.i 39)]++(mI ⟨2,4,0⟩++(yL ⟨1,⟨0,0,0,0⟩,⟨0,0,0,0⟩,⟨2,4,0⟩⟩++[.bJ .u8 32 λ_=>0]))))))))
def MA (p:Sd.aN) (kn d:Nat->Nat) (kf:Nat->Nat->Int):List VB:=[⟨true,⟨105,(0,0)⟩,Uv p kn d⟩,dN (kn 0) (d 0) (kf 0),dN (kn 1) (d 1) (kf 1),dN (kn 2) (d 2) (kf 2),dN (kn 3) (d 3) (kf 3),
 ⟨true,⟨146,(0,0)⟩,[.raw (.slice none 0 0),.int .i64 (p.i 48),.int .u64 0]⟩,gE (Eb p)]
def MB (u:ae) (xa:Nat->aO) (kn kc:Nat->Nat) (i:Nat) (X:(Nat->Int)->Nat->Prop):Prop:=∃f,(kq u (some (xa i)) (kn i) (kc i) f/\kn i<=1000000/\0<kn i)/\∀d,X f d
def MC (p:Sd.aN) (xa:Nat->aO) (kn kc:Nat->Nat):Int:=lD (λi=>iN (nth (fa p (λi=>some (xa i)) kn kc) i)) (λj=>D_ (nth (fa p (λi=>some (xa i)) kn kc) (j+5)))
theorem aq9 (p:Sd.aN) (xa:Nat->aO) (kn kc:Nat->Nat):MC p xa kn kc=lD p.i kn:=by kernel_rfl
def EV (u:ae) (p:Sd.aN) (xa:Nat->aO) (kn kc:Nat->Nat) (K:VK (LG fr)):Prop:=True/\cond (MC p xa kn kc !=0) (K (.an [.raw (.pointer none),.int .i64 (MC p xa kn kc)]) [] [.aZ u])
 (cond (decide (p.i 48<1)) (K (.an [.raw (.pointer none),.int .i64 1]) [] [.aZ u]) (cond (decide (p.i 48>64)) (K (.an [.raw (.pointer none),.int .i64 1]) [] [.aZ u])
  (MB u xa kn kc 0 λf0 d0=>MB u xa kn kc 1 λf1 d1=>MB u xa kn kc 2 λf2 d2=>MB u xa kn kc 3 λf3 d3=>True/\True/\True/\True/\K (.an [.ptr 0 0,.int .i64 0]) (MA p kn (λj=>[d0,d1,d2,d3].getD j 0) λj=>[f0,f1,f2,f3].getD j f0) [.aZ u])))
theorem aq_ (u:ae) (p:Sd.aN) (xa:Nat->aO) (kn kc:Nat->Nat) (K:VK (LG fr)):bo (fA prog cU (Mz fr) (HU prog) Ut) 60 11 [.agg (fa p (λi=>some (xa i)) kn kc)] [] [.aZ u] (br 0 K)=EV u p xa kn kc K:=by kernel_rfl
def KN (u:ae) (p:Sd.aN) (kn:Nat->Nat) (kf:Nat->Nat->Int):VK (LG fr):=λv b ch=>∃d,v=.an [.ptr 0 0,.int .i64 0]/\b=MA p kn d kf/\ch=[.aZ u]
theorem ara {u:ae} {p:Sd.aN} {xa:Nat->aO} {kn kc:Nat->Nat} {kf:Nat->Nat->Int} (h:lD p.i kn=0) (hk:∀i,i<4->dL u (some (xa i)) (kn i) (kc i) (kf i)) (h1:∀i,i<4->0<kn i):EV (fr:=fr) u p xa kn kc (KN u p kn kf):=by
 have hc:MC p xa kn kc=0:=(aq9 p xa kn kc).trans h;have hq:=ale h;refine⟨trivial,aI (λe=>absurd hc (by simpa using e)) λ_=>aI (λe=>absurd (of_decide_eq_true e) (by omega)) λ_=>aI (λe=>absurd (of_decide_eq_true e) (by omega)) λ_=>?_⟩;exact⟨kf 0,⟨(hk 0 (by omega)).2,(hk 0 (by omega)).1,h1 0 (by omega)⟩,λd0=>⟨kf 1,⟨(hk 1 (by omega)).2,(hk 1 (by omega)).1,h1 1 (by omega)⟩,λd1=>⟨kf 2,⟨(hk 2 (by omega)).2,(hk 2 (by omega)).1,h1 2 (by omega)⟩,λd2=>⟨kf 3,⟨(hk 3 (by omega)).2,(hk 3 (by omega)).1,h1 3 (by omega)⟩,
  λd3=>⟨trivial,trivial,trivial,trivial,λj=>[d0,d1,d2,d3].getD j 0,rfl,rfl,rfl⟩⟩⟩⟩⟩
theorem arb (p:Sd.aN) (kn d:Nat->Nat) (b k0 k1 k2 k3 bq bt:Nat):az [b,k0,k1,k2,k3,bq,bt] b ⟨true,⟨105,(0,0)⟩,Uv p kn d⟩=⟨b,true,.cells (rK p (λi=>some ⟨[k0,k1,k2,k3].getD i 0,0,none⟩) kn (λi=>kn i+d i) (⟨4,(p.i 55),(-1),(⟨0,0⟩:Sd.Timer),(⟨0,0⟩:Sd.Timer),false⟩:Sd.Tok) bq
 (f3 (⟨(0:Int),false,(λ_=>0)⟩:Sd.dT) (⟨(0:Int),false,(λ_=>0)⟩:Sd.dT) (⟨(0:Int),false,(λ_=>0)⟩:Sd.dT)) bt (0:Int) (0:Int) (p.i 39) (⟨2,4,0⟩:Sd.Label) (⟨1,(⟨0,0,0,0⟩:Sd.X4),(⟨0,0,0,0⟩:Sd.X4),(⟨2,4,0⟩:Sd.Label)⟩:Sd.eF) (λ_=>0)) 105 (0,0)⟩:=by kernel_rfl
theorem arc (p:Sd.aN) (ka:Nat->Option aO) (kn kc:Nat->Nat) (kf:Nat->Nat->Int) (h:lD p.i kn=0) (w:ae) (hk:∀i,i<4->dL w (ka i) (kn i) (kc i) (kf i)):
 aS prog 11 #[.agg (j_ p ka kn kc)] w λv w1=>∃(b bq bt:Nat) (xa:Nat->Option aO) (xc:Nat->Nat) (B:Nat->List ai),v=.tuple #[.pointer (some ⟨b,0,none⟩),.int .i64 0]/\(∀i,i<4->eK 5 (kn i) (kf i) (xa i) (xc i) (B i))/\St [] w ([⟨b,true,.cells (rK p xa kn xc (⟨4,(p.i 55),(-1),(⟨0,0⟩:Sd.Timer),(⟨0,0⟩:Sd.Timer),false⟩:Sd.Tok) bq (f3 (⟨(0:Int),false,(λ_=>0)⟩:Sd.dT) (⟨(0:Int),false,(λ_=>0)⟩:Sd.dT) (⟨(0:Int),false,(λ_=>0)⟩:Sd.dT)) bt (0:Int) (0:Int) (p.i 39) (⟨2,4,0⟩:Sd.Label) (⟨1,(⟨0,0,0,0⟩:Sd.X4),(⟨0,0,0,0⟩:Sd.X4),(⟨2,4,0⟩:Sd.Label)⟩:Sd.eF) (λ_=>0)) 105 (0,0)⟩,⟨bq,true,.cells #[.slice none 0 0,.int .i64 (p.i 48),.int .u64 0] 146 (0,0)⟩,⟨bt,true,.cells (jl (false,(⟨(0:Int),(0:Int)⟩:Sd.Timer)) (f3 (⟨false,⟨(0:Int),(0:Int)⟩,(0:Int),(λ_=>0),⟨false,(0:Int),(0:Int)⟩⟩:Sd.gy) (⟨false,⟨(0:Int),(0:Int)⟩,(0:Int),(λ_=>0),⟨false,(0:Int),(0:Int)⟩⟩:Sd.gy) (⟨false,⟨(0:Int),(0:Int)⟩,(0:Int),(λ_=>0),⟨false,(0:Int),(0:Int)⟩⟩:Sd.gy)) (p.i 42) (p.i 49)) 157 (0,0)⟩]++(B 0++(B 1++(B 2++(B 3++[]))))) w1:=by
 have xD:∀i,i<4->0<kn i:=by
  have:(yR kn&&sW (kn 3))=true:=by
   cases e:(yR kn&&sW (kn 3))with
   |true=>rfl
   |false=>exfalso;unfold lD at h;repeat' split at h
           all_goals first|omega|(rename_i DA;simp[e]at DA)
  simp only[yR,sW,bg,decide_eq_true_eq]at this;intro i hi
  match i,hi with
  |0,_=>omega
  |1,_=>omega
  |2,_=>omega
  |3,_=>omega
  |i+4,h=>exact absurd h (by omega)
 have hx:∀i,∃x,i<4->ka i=some x:=by
  intro i;by_cases hi:i<4
  ·cases e:ka i with
   |none=>have:=((hk i hi).2.2.1 e).1;have:=xD i hi;omega
   |some x=>exact⟨x,λ_=>rfl⟩
  ·exact⟨⟨0,0,none⟩,λh=>absurd h hi⟩
 let ya:Nat->aO:=λi=>Classical.choose (hx i)
 have hy:∀i,i<4->ka i=some (ya i):=λi=>Classical.choose_spec (hx i);have e0:#[Value.agg (j_ p ka kn kc)]=(aD [] [.agg (fa p (λi=>some (ya i)) kn kc)]).toArray:=by
  have e1:j_ p ka kn kc=j_ p (λi=>some (ya i)) kn kc:=by
   unfold j_;rw[hy 0 (by omega),hy 1 (by omega),hy 2 (by omega),hy 3 (by omega)]
  exact(congrArg (λx=>#[Value.agg x]) e1).trans (by kernel_rfl)
 rw[e0];have hv:Hd (bo (fA prog cU (Mz λ_=>(0,λ_=>0)) (HU prog) Ut) 60 11 [.agg (fa p (λi=>some (ya i)) kn kc)] [] [.aZ w] (br 0 (KN w p kn kf))):=⟨by rw[aq_];exact ara h (λi hi=>by rw[<-hy i hi];exact hk i hi) xD⟩;have hr:=acf (C:=fA prog cU (Mz λ_=>(0,λ_=>0)) (HU prog) Ut) acg.T acg.Q rfl hv (Y:=[]) (show St [] w (ax [LG.aZ w] []) w from YM w);clear hv;refine hr.mono ?_;rintro v w' ⟨y,more,bl',ch',rfl,Uw,S',hK⟩;obtain⟨v2,cB,bl2,e,cW,S2,d,rfl,rfl,rfl⟩:=hU (n0:=0) (ids:=more) Uw (by simp) S' hK
 match cB,cW,e,S2 with
 |[b,k0,k1,k2,k3,bq,bt],_,e,S2=>
  refine⟨b,bq,bt,λi=>some ⟨[k0,k1,k2,k3].getD i 0,0,none⟩,λi=>kn i+d i,λi=>[⟨[k0,k1,k2,k3].getD i 0,true,.cells (bD (kn i) (kf i) (kn i+d i)) 5 (0,0)⟩],e,λi hi=>⟨rX _ _,.inr ⟨_,rfl,rfl⟩⟩,?_⟩;have MD:∀(ids:List Nat) (k i:Nat),az ids k (dN (kn i) (d i) (kf i))=⟨k,true,.cells (bD (kn i) (kf i) (kn i+d i)) 5 (0,0)⟩:=λids k i=>by unfold az;rw[xb];rfl
  have el:lits [b,k0,k1,k2,k3,bq,bt] [b,k0,k1,k2,k3,bq,bt] (MA p kn d kf)=az [b,k0,k1,k2,k3,bq,bt] b ⟨true,⟨105,(0,0)⟩,Uv p kn d⟩::([az [b,k0,k1,k2,k3,bq,bt] k0 (dN (kn 0) (d 0) (kf 0)),az [b,k0,k1,k2,k3,bq,bt] k1 (dN (kn 1) (d 1) (kf 1)),az [b,k0,k1,k2,k3,bq,bt] k2 (dN (kn 2) (d 2) (kf 2)),
   az [b,k0,k1,k2,k3,bq,bt] k3 (dN (kn 3) (d 3) (kf 3))]++[⟨bq,true,.cells #[.slice none 0 0,.int .i64 (p.i 48),.int .u64 0] 146 (0,0)⟩,az [b,k0,k1,k2,k3,bq,bt] bt (gE (Eb p))]):=rfl
  rw[MD,MD,MD,MD,HT,arb]at el;have S3:=S2.sub (List.sublist_append_left _ _);have S4:St [] w (lits [b,k0,k1,k2,k3,bq,bt] [b,k0,k1,k2,k3,bq,bt] (MA p kn d kf)) w':=S3;rw[el]at S4;exact S4.perm (u7 _ List.perm_append_comm)
def ach (i:Nat) (v:V):Bool:=match v with
 |.int .i64 _=>!iJ i
 |.sl _ 0 _ _=>iJ i
 |_=>false
def Ec:List V->Nat->Bool
 |[],i=>aq i 56
 |v::l,i=>ach i v&&Ec l (i+1)
def sI:V->Nat|.sl i _ _ _=>i|_=>0
def sM:V->Nat|.sl _ _ n _=>n|_=>0
def sK:V->Nat|.sl _ _ _ c=>c|_=>0
def BO (ids:List Nat) (i:Nat) (v:V):ab:=bif iJ i then .slice (some ⟨ids.getD (sI v) 0,0,none⟩) (sM v) (sK v)else .int .i64 (iN v)
theorem aci (ids:List Nat):∀(l:List V) (i:Nat),Ec l i=true->i+l.length=56/\ah ids l=(bd l.length).map λj=>BO ids (i+j) (nth l j)
 |[],i,h=>⟨ck h,rfl⟩
 |v::l,i,h=>by
  unfold Ec at h;rw[bg]at h;obtain⟨h1,h2⟩:=aci ids l (i+1) h.2;refine⟨by simp;omega,?_⟩;rw[kN,vd,eH,mr];simp only[ah,h2];have e:ah ids l=(bd l.length).map ((λj=>BO ids (i+j) (nth (v::l) j))∘Nat.succ):=by
   rw[h2];apply qD;intro j _;show BO ids (i+1+j) (nth l j)=BO ids (i+(j+1)) (nth l j);rw[show i+1+j=i+(j+1) by omega]
  rw[<-h2,e];have hv:cl v (den ids v)=[BO ids (i+0) (nth (v::l) 0)]:=by
   have h3:=h.1;unfold ach at h3;split at h3
   ·have:iJ i=false:=by simpa using h3
    simp only[cl,den,jM,jN,jy,BO,oR,this,cond_false,iN]
   ·simp only[cl,den,jM,jN,jy,BO,oR,h3,cond_true,sI,sM,sK]
   ·cases h3
  rw[hv];rfl
def ME (ids:List Nat) (l:List V) (j:Nat):Option aO:=some ⟨ids.getD (sI (nth l (j+5))) 0,0,none⟩
def iX (l:List V) (j:Nat):Nat:=sM (nth l (j+5))
def BP (l:List V) (j:Nat):Nat:=sK (nth l (j+5))
def nP (l:List V) (f:Nat->Sd.av):Sd.aN:=⟨λi=>iN (nth l i),λj=>(iX l j,f j)⟩
theorem ard {l:List V} (h:Ec l 0=true) (f:Nat->Sd.av) (ids:List Nat):(ah ids l).toArray=j_ (nP l f) (ME ids l) (iX l) (BP l):=by
 obtain⟨h1,h2⟩:=aci ids l 0 h;rw[h2,show l.length=56 by omega];rfl
def Ed (bl:List VB) (v:V):Option (Nat×Sd.av):=match v with
 |.sl i _ _ _=>(match bl[i]?with|some ⟨_,⟨5,(0,0)⟩,.bJ .u8 m f::_⟩=>some (m,f)|_=>none)
 |_=>none
def mkK (l:List V) (f:Nat->Sd.av) (ka:Nat->Option aO) (kc:Nat->Nat) (bq tg tc:Nat):LK:=⟨ka,iX l,kc,f,bq,tg,tc,iN (nth l 48),none,0,0,λ_=>0⟩
def gT (p:Sd.aN):Sd.aa:=⟨.new p,[],[]⟩
structure HV (l:List V) (n:Nat->Nat):Prop where
 code:lD (λi=>iN (nth l i)) (iX l)=0
 n:∀j,j<4->n j=iX l j
 k:∀j,j<4->iX l j<=64/\iX l j<=BP l j
structure HW (l:List V) (f:Nat->Sd.av) (tg tc:Nat) (p:Sd.aN) (k:LK):Prop where
 eq:p=nP l f
 kn:k.kn=iX l
 kf:k.kf=f
 tg:k.tg=tg
 tc:k.tc=tc
 most:k.most=p.queue
 kj:k.px=none/\k.pn=0/\k.pc=0
def MF:c_ (LG fr):=λargs bl ch K=>match args,ch,bl with
 |[.agg l],.aZ u::rest,⟨w0,⟨tg,(0,0)⟩,c0⟩::⟨w1,⟨tc,(0,0)⟩,c1⟩::bl2=>(match Ed (⟨w0,⟨tg,(0,0)⟩,c0⟩::⟨w1,⟨tc,(0,0)⟩,c1⟩::bl2) (nth l 5),Ed (⟨w0,⟨tg,(0,0)⟩,c0⟩::⟨w1,⟨tc,(0,0)⟩,c1⟩::bl2) (nth l 6),Ed (⟨w0,⟨tg,(0,0)⟩,c0⟩::⟨w1,⟨tc,(0,0)⟩,c1⟩::bl2) (nth l 7),Ed (⟨w0,⟨tg,(0,0)⟩,c0⟩::⟨w1,⟨tc,(0,0)⟩,c1⟩::bl2) (nth l 8)with
  |some (n0,f0),some (n1,f1),some (n2,f2),some (n3,f3)=>cond (Ec l 0&&bM (bl2.length+2) (⟨w0,⟨tg,(0,0)⟩,c0⟩::⟨w1,⟨tc,(0,0)⟩,c1⟩::bl2))
   (HV l (k4 n0 n1 n2 n3)/\∀(p:Sd.aN) (k:LK) (F:aW fr (aR k (gT p))),HW l (k4 f0 f1 f2 f3) tg tc p k->cO=F.vs->cO=F.vr->
    K (.an [.ptr (bl2.length+2) 0,.int .i64 0]) (⟨w0,⟨tg,(0,0)⟩,c0⟩::⟨w1,⟨tc,(0,0)⟩,c1⟩::(bl2++[gL k (bl2.length+3) (gT p),gE (gT p)])) (.aZ u::.core (a_ k (gT p) F) []::rest)) False
  |_,_,_,_=>False)
 |_,_,_=>False
theorem MG {ids:List Nat} {bl:List VB} {X:List ai} {ms:List Nat} {w0 w:ae} {v:V} {m:Nat} {f:Sd.av} (hl:ids.length=bl.length) (S:St ms w0 (lits ids ids bl++X) w) (h:Ed bl v=some (m,f)) (hm:m<=64) {c:Nat} (hc:m<=c):dL w (some ⟨ids.getD (sI v) 0,0,none⟩) m c f:=by
 unfold Ed at h;split at h
 ·rename_i i o n c';split at h
  ·rename_i wr m' f' r hb;obtain⟨rfl,rfl⟩:m'=m/\f'=f:=by simpa using h
   have aM:=(fE hl S hb).2;refine⟨by omega,hc,(λe=>nomatch e),λx e j hj=>?_⟩;obtain rfl:⟨ids.getD i 0,0,none⟩=x:=by simpa[sI]using e
   rw[iE,cell_of aM,eD];simp only[ah,cl,jt];rw[gV (by simpa using hj)];simp[m9 hj]
  ·cases h
 ·cases h
theorem are (k:LK) (p:Sd.aN) (b bt:Nat):az (cF b bt) b (gL k 3 (gT p))=⟨b,true,.cells (rK p k.ka k.kn k.kc ⟨4,p.i 55,-1,⟨0,0⟩,⟨0,0⟩,false⟩ k.bq (f3 ⟨0,false,λ_=>0⟩ ⟨0,false,λ_=>0⟩ ⟨0,false,λ_=>0⟩) bt 0 0 (p.i 39) ⟨2,4,0⟩ ⟨1,⟨0,0,0,0⟩,⟨0,0,0,0⟩,⟨2,4,0⟩⟩ (λ_=>0)) 105 (0,0)⟩:=by kernel_rfl
theorem arf (p:Sd.aN) (bt:Nat):az [] bt (gE (gT p))=⟨bt,true,.cells (jl (false,⟨0,0⟩) (f3 ⟨false,⟨0,0⟩,0,(λ_=>0),⟨false,0,0⟩⟩ ⟨false,⟨0,0⟩,0,(λ_=>0),⟨false,0,0⟩⟩ ⟨false,⟨0,0⟩,0,(λ_=>0),⟨false,0,0⟩⟩) (p.i 42) (p.i 49)) 157 (0,0)⟩:=by kernel_rfl
theorem acj:Sound prog gS 11 (MF (fr:=fr)):=by
 intro args ids bl ch R ms w0 w K hg hl S hc;unfold MF at hc;split at hc
 ·rename_i l u rest HX tg c0 HY tc c1 bl2;split at hc
  ·rename_i n0 y0 n1 y1 n2 y2 n3 y3 e0 e1 e2 e3;cases hq:Ec l 0&&bM (bl2.length+2) (⟨HX,⟨tg,(0,0)⟩,c0⟩::⟨HY,⟨tc,(0,0)⟩,c1⟩::bl2)with
   |false=>rw[hq]at hc;exact hc.elim
   |true=>
    rw[hq]at hc;simp only[bg]at hq;obtain⟨⟨arh,hn,hk⟩,hK⟩:=hc;have m0:n0=iX l 0:=hn 0 (by decide);have m1:n1=iX l 1:=hn 1 (by decide);have m2:n2=iX l 2:=hn 2 (by decide);have m3:n3=iX l 3:=hn 3 (by decide);have y9:∀i,i<4->dL w (ME ids l i) (iX l i) (BP l i) (k4 y0 y1 y2 y3 i):=by
     intro i hi
     match i,hi with
     |0,_=>subst m0;exact MG hl S e0 (hk 0 (by decide)).1 (hk 0 (by decide)).2
     |1,_=>subst m1;exact MG hl S e1 (hk 1 (by decide)).1 (hk 1 (by decide)).2
     |2,_=>subst m2;exact MG hl S e2 (hk 2 (by decide)).1 (hk 2 (by decide)).2
     |3,_=>subst m3;exact MG hl S e3 (hk 3 (by decide)).1 (hk 3 (by decide)).2
     |i+4,h=>exact absurd h (by omega)
    have cR:(aD ids [.agg l]).toArray=#[.agg (j_ (nP l (k4 y0 y1 y2 y3)) (ME ids l) (iX l) (BP l))]:=by
     simp only[aD,den,ard hq.1 (k4 y0 y1 y2 y3) ids]
    rw[cR];refine(arc (nP l (k4 y0 y1 y2 y3)) (ME ids l) (iX l) (BP l) (k4 y0 y1 y2 y3) arh w y9).mono ?_;rintro v w' ⟨b,bq,bt,xa,xc,B,rfl,hr,T⟩;have S2:=S.beside T (Wr.app (Wr.cons rfl (Wr.cons rfl (Wr.cons rfl Wr.nil))) (Wr.app (hr 0 (by decide)).wr (Wr.app (hr 1 (by decide)).wr (Wr.app (hr 2 (by decide)).wr (Wr.app (hr 3 (by decide)).wr Wr.nil)))))
    let k:LK:=mkK l (k4 y0 y1 y2 y3) xa xc bq tg tc
    let s:Sd.aa:=gT (nP l (k4 y0 y1 y2 y3))
    let F:aW fr (aR k s):=⟨none,0,none,0,[⟨bq,true,.cells #[.slice none 0 0,.int .i64 k.most,.int .u64 0] 146 (0,0)⟩],[],[],[],B 0++(B 1++(B 2++(B 3++[]))),[],⟨[],none,0,0,[],rfl,xN _ _,trivial,rfl⟩,xN 6 75,xN 2 85,.nil,⟨B 0,B 1,B 2,B 3,[],rfl,hr 0 (by decide),hr 1 (by decide),hr 2 (by decide),hr 3 (by decide),Of 5⟩⟩
    have nF:ids.length=bl2.length+2:=by simpa using hl
    refine⟨_,[b,bt],_,_,?_,by simp[nF],?_,hK _ k F ⟨rfl,rfl,rfl,rfl,rfl,rfl,rfl,rfl,rfl⟩ rfl rfl⟩
    ·have h1:(ids++[b,bt]).getD (bl2.length+2) 0=b:=by rw[<-nF];simp[ij]
     simp only[den,aD,h1]
    ·have h2:(ids++[b,bt]).getD (bl2.length+3) 0=bt:=by rw[show bl2.length+3=ids.length+1 by omega];simp[ij]
     have e1:az (ids++[b,bt]) b (gL k (bl2.length+3) s)=⟨b,true,.cells (rK (nP l (k4 y0 y1 y2 y3)) xa (iX l) xc ⟨4,(nP l (k4 y0 y1 y2 y3)).i 55,-1,⟨0,0⟩,⟨0,0⟩,false⟩ bq (f3 ⟨0,false,λ_=>0⟩ ⟨0,false,λ_=>0⟩ ⟨0,false,λ_=>0⟩) bt 0 0 ((nP l (k4 y0 y1 y2 y3)).i 39) ⟨2,4,0⟩ ⟨1,⟨0,0,0,0⟩,⟨0,0,0,0⟩,⟨2,4,0⟩⟩ (λ_=>0)) 105 (0,0)⟩:=by
      rw[abR (a:=b) b h2];exact are k (nP l (k4 y0 y1 y2 y3)) b bt
     have e2:az (ids++[b,bt]) bt (gE s)=⟨bt,true,.cells (jl (false,⟨0,0⟩) (f3 ⟨false,⟨0,0⟩,0,(λ_=>0),⟨false,0,0⟩⟩ ⟨false,⟨0,0⟩,0,(λ_=>0),⟨false,0,0⟩⟩ ⟨false,⟨0,0⟩,0,(λ_=>0),⟨false,0,0⟩⟩) ((nP l (k4 y0 y1 y2 y3)).i 42) ((nP l (k4 y0 y1 y2 y3)).i 49)) 157 (0,0)⟩:=by
      rw[mL (ids':=[]) (GY s)];exact arf (nP l (k4 y0 y1 y2 y3)) bt
     have e3:(⟨HX,⟨tg,(0,0)⟩,c0⟩::⟨HY,⟨tc,(0,0)⟩,c1⟩::(bl2++[gL k (bl2.length+3) s,gE s]))=(⟨HX,⟨tg,(0,0)⟩,c0⟩::⟨HY,⟨tc,(0,0)⟩,c1⟩::bl2)++[gL k (bl2.length+3) s,gE s]:=rfl;rw[e3,eZ _ _ _ _ hl,e_ _ _ (by rw[hl];exact hq.2)];show St ms w0 ((lits ids ids (⟨HX,⟨tg,(0,0)⟩,c0⟩::⟨HY,⟨tc,(0,0)⟩,c1⟩::bl2)++[az (ids++[b,bt]) b (gL k (bl2.length+3) s),az (ids++[b,bt]) bt (gE s)])++(dC u++((F.B++[])++ax rest R))) w';rw[e1,e2];have hF:F.B=⟨bq,true,.cells #[.slice none 0 0,.int .i64 ((nP l (k4 y0 y1 y2 y3)).i 48),.int .u64 0] 146 (0,0)⟩::(B 0++(B 1++(B 2++(B 3++[])))):=rfl;rw[hF];refine S2.perm ?_;show List.Perm (_++(_++(dC u++ax rest R))) _;exact gO λf=>by simp only[ik,zW,zX];omega
  ·exact hc.elim
 ·exact hc.elim
end
end Go.Proofs.YtggfpcggakghnaaGreatDoor
