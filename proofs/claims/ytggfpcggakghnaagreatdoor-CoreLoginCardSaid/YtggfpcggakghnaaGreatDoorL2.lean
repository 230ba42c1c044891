/- Part 2 of the proof. -/
import Derived.Test.YtggfpcggakghnaaGreatDoorProg
import Derived.Test.YtggfpcggakghnaaGreatDoorRows
import Derived.Test.YtggfpcggakghnaaGreatDoorL1
set_option linter.all false
set_option maxRecDepth 100000
set_option maxHeartbeats 4000000
noncomputable section
open Go.Proofs.Tryz
open Go.IntKind (u8 u16 u32 u64 i64)
open Array renaming ext'->eO
open BitVec renaming toNat_ofInt->A7,ofInt->jq
open Bool renaming or_eq_true->A8,and_eq_true->a_
open Go renaming Program->aC,TypeId->aD,Addr->aI,Operand->aZ,Value->ab,World->ae,Oper->an,Exit->dN,run_underlying->dg,IntKind->eE,FuncId->eN,wp_ret->gh,wp_block->iL,wp_skip->jr,heap_alloc_new->mC
open Go.Addr renaming add_lit->hU
open Go.Instr renaming makeSlice->Ux
open Go.IntKind renaming bits->pJ,signed->pL,wrap_u64->qW,wrap->sE
open Go.IntWalk renaming u64_in->uy,i64_in->yK
open Go.Result renaming andThen_ok->cd
open Go.Sem renaming run_bind->bj,run_pure->cW
open Go.Value renaming bool->A_,int->dT
open Go.World renaming cell?->wx
open Int renaming le_trans->Bc,negSucc_lt_zero->HZ,ofNat->cU,fdiv->iM,fdiv_eq_ediv_of_nonneg->sL,toNat_natCast->ux,natCast_nonneg->yI
open List renaming mem_cons_self->Bb,singleton_append->DL,getElem?_drop->DN,getElem?_take->MA,takeWhile_append_dropWhile->as5,append_assoc->bN,mem_cons->bY,range->bh,append_nil->cI,map_cons->eQ,mem_append->ez,length_append->fi,getElem?_append_left->gI,getElem?_map->iI,getElem?_toArray->iX,mem_singleton->i_,getD->ij,perm_middle->jH,length_cons->ly,getElem?_range->mF,map_map->mG,mem_append_left->mH,mem_map->ny,mem_append_right->qU,range_succ_eq_map->uu,mem_cons_of_mem->wy,any_eq_true->yA,pairwise_cons->yH
open List.Mem renaming head->A9
open List.cons renaming inj->uq
open Nat renaming lt_of_lt_of_le->Ms,beq->ax,eq_of_beq_eq_true->b9,ble->bA,lt_or_ge->cE,blt->cj,le_refl->dE,le_of_ble_eq_true->dz,zero_add->eh,le_trans->iH,eq_zero_or_pos->uh,le_add_right->wz
open Option renaming map_eq_some_iff->gH
open Option.some renaming injEq->aS,inj->ck
open Prod.mk renaming injEq->bd
namespace Go.Proofs.YtggfpcggakghnaaGreatDoor
section
open Go Go.RowKit Go.BigFrame Sx Vx
def dv (u:ae):List ai:=u.heap.toList.zipIdx.map λp=>⟨p.2,false,p.1⟩
theorem Jn {u:ae} {i:Nat} {o:Obj} (h:u.heap[i]?=some o):(⟨i,false,o⟩:ai)∈dv u:=by
 unfold dv;rw[ny];exact⟨(o,i),by rw[List.mk_mem_zipIdx_iff_getElem?];simpa using h,rfl⟩
theorem Xe (w:ae):St [] w (dv w++[]) w:=by
 have:=St.given (w:=w) (w.heap.toList.zipIdx.map λp=>(p.2,p.1)) (by
  intro p hp;obtain⟨q,hq,rfl⟩:=ny.1 hp;have:=(List.mem_zipIdx_iff_getElem?.1 (show(q.1,q.2)∈w.heap.toList.zipIdx from hq));simpa using this)
 rw[cI];unfold dv;rw[mG]at this;exact this
structure R8 where
 n:Nat
 f:Nat->Int
 b:Nat
 c:Nat
def R8.bl (r:R8):List ai:=[⟨r.b,true,.cells (bw r.n r.f r.c) 5 (0,0)⟩]
inductive CG where
 |aX (u:ae)
 |row (r:R8)
instance:Bl CG:=⟨λg=>match g with|.aX u=>dv u|.row r=>r.bl⟩
def k7:List V->Option (List Int)
 |[]=>some []
 |.int .u8 x::l=>(match k7 l with
  |some r=>some (x::r)
  |none=>none)
 |_=>none
theorem xA (ids:List Nat):∀{l:List V} {r:List Int},k7 l=some r->ah ids l=bP r.length (cZ r)
 |[],r,h=>by cases h;rfl
 |v::l,r,h=>by
  unfold k7 at h;split at h
  ·rename_i e;cases e
  ·rename_i x l' e;obtain⟨rfl,rfl⟩:=uq e;split at h
   ·rename_i r' hr;cases h;have ih:=xA ids hr;simp only[ah,cl,ih,ly];unfold bP;rw[uu,eQ,mG];rfl
   ·cases h
  ·cases h
def vo (o:Nat) (f:Nat->Int):Nat->Int:=match o with
 |0=>f
 |k+1=>y_ f (k+1)
theorem Xf (o:Nat) (f:Nat->Int) (j:Nat):vo o f j=f (o+j):=by
 cases o with
 |zero=>simp[vo]
 |succ k=>rfl
def Cj:List CG->Option (List CG×R8)
 |[]=>none
 |[.row r]=>some ([],r)
 |g::l=>(match Cj l with
  |some (a,r)=>some (g::a,r)
  |none=>none)
theorem Jo:∀{ch l:List CG} {r:R8},Cj ch=some (l,r)->ch=l++[.row r]
 |[],l,r,h=>by cases h
 |g::t,l,r,h=>by
  unfold Cj at h;split at h
  ·cases h
  ·rename_i e;obtain⟨rfl,rfl⟩:=uq e;cases h;rfl
  ·rename_i g' t' _ e;obtain⟨rfl,rfl⟩:=uq e;split at h
   ·rename_i a r' hr;cases h;rw[Jo hr];rfl
   ·cases h
def Jp (bl:List VB) (ch:List CG) (x:V) (X:Bool->Nat->(Nat->Int)->Prop):Prop:=match x with
 |.sl i o (m+1) _=>(match bl[i]?with
  |some ⟨_,⟨_,(0,0)⟩,l⟩=>(match k7 l with
   |some r=>o+(m+1)<=r.length/\X true (m+1) (vo o (cZ r))
   |none=>False)
  |_=>False)
 |.raw (.slice (some ⟨b,o,none⟩) m _)=>(match ch with
  |.aX u::_=>∃f,bV u b o m f/\X false m f
  |_=>False)
 |_=>False
theorem Jq {u w w0:ae} {ms:List Nat} {B:List ai} (S:St ms w0 B w) (h:∀y∈dv u,y∈B) {b o m:Nat} {f:Nat->Int} (h8:bV u b o m f):bV w b o m f:=λj hj=>by
 have h1:=h8 j hj;unfold wx at h1⊢;cases hh:u.heap[b]?with
 |none=>simp[hh]at h1
 |some ob=>
  have:w.heap[b]?=some ob:=S.at' (h _ (Jn hh));simp only[hh,this]at h1⊢;exact h1
theorem Xg {ids:List Nat} {bl:List VB} {ch:List CG} {R:List ai} {ms:List Nat} {w0 w:ae} (hl:ids.length=bl.length) (S:St ms w0 (lits ids ids bl++av ch R) w) {x:V} {X:Bool->Nat->(Nat->Int)->Prop} (h:Jp bl ch x X):
 ∃b o m c f sure,den ids x=.slice (some ⟨b,o,none⟩) m c/\bV w b o m f/\(sure=true->0<m)/\X sure m f:=by
 unfold Jp at h;split at h
 ·rename_i i o m c;split at h
  ·rename_i wr t l hb;split at h
   ·rename_i r hr;have aK:=(fp hl S hb).2;refine⟨_,_,_,_,_,true,rfl,λj hj=>?_,λ_=>Nat.succ_pos m,h.2⟩;rw[cell_of aK,xA ids hr,Xf];simp only[iX];exact qa _ (by have:=h.1;omega)
   ·exact h.elim
  ·exact h.elim
 ·rename_i b o m c;split at h
  ·rename_i u rest;obtain⟨f,h8,hX⟩:=h;refine⟨b,o,m,c,f,false,rfl,Jq S (λy hy=>?_) h8,(λe=>by cases e),hX⟩;exact qU _ (mH _ hy)
  ·exact h.elim
 ·exact h.elim
def Fa:(aZ->V)->Op->List VB->List CG->VK CG->Prop:=λe op bl ch K=>match op with
 |.call c=>(match c.callee,c.args.toList,c.argTypes.toList with
  |.builtin .append,[s,xs],[t,tx]=>(match prog.underlying t,prog.underlying tx with
   |some (.slice 5),some (.slice _)=>(match e s with
    |.raw (.slice none 0 0)=>Jp bl ch (e xs) λsure m g=>m<=1000000/\
     cond sure (∀b c,m<=c->K (.raw (.slice (some ⟨b,0,none⟩) m c)) bl (ch++[.row ⟨m,g,b,c⟩]))
      ((m=0->K (.raw (.slice none 0 0)) bl ch)/\(0<m->∀b c,m<=c->K (.raw (.slice (some ⟨b,0,none⟩) m c)) bl (ch++[.row ⟨m,g,b,c⟩])))
    |.raw (.slice (some ⟨b,0,none⟩) n c)=>(match Cj ch with
     |some (l,r)=>Jp bl ch (e xs) λ_ m g=>(b=r.b/\n=r.n/\c=r.c/\n<=c/\n+m<=1000000/\0<n+m)/\∀b' c',n+m<=c'->K (.raw (.slice (some ⟨b',0,none⟩) (n+m) c')) bl (l++[.row ⟨n+m,ca n r.f g,b',c'⟩])
     |none=>False)
    |_=>False)
   |_,_=>False)
  |_,_,_=>False)
 |.makeSlice t l c=>(match prog.underlying t,e l,e c with
  |some (.slice 5),.int _ (.ofNat 0),.int _ m=>(1<=m/\m<=1000000)/\∀b,K (.raw (.slice (some ⟨b,0,none⟩) 0 m.toNat)) bl (ch++[.row ⟨0,λ_=>0,b,m.toNat⟩])
  |_,_,_=>False)
 |_=>False
theorem ae8 {P:aC} {ids:List Nat} {w:ae} {t el:aD} {n:Nat} {inf:TypeInfo} {k1 k2:eE} (hu:P.underlying t=some (.slice el)) (hi:P.info? el=some inf) (hz:dX P el=some (0+1)) (h0:l7 P el=some [.int .u8 0]) (h1:1<=n) (hn:n<=1000000) (hb:inf.bytes<=100):
 (Ux t (.int k1 ((0:Nat):Int)) (.int k2 (n:Int))).run P w=.ok (.slice (some ⟨w.heap.size,0,none⟩) 0 n) (w.alloc (.cells (bw 0 (λ_=>0) n) el)):=by
 obtain⟨v0,z1,z2⟩:=zj (P:=P) (w:=w) (ids:=ids) h0;have hv:v0.cells.size=0+1:=by rw[<-Array.length_toList,z2];rfl
 have Er:(Array.range (n*(0+1))).map (λi=>v0.cells[i%v0.cells.size]!)=bw 0 (λ_=>0) n:=by
  apply eO;rw[NB v0.cells 0 hv,z2];simp[ah,cl,bP,bw,den]
 have hm:inf.bytes*n<=100000000:=iH (Nat.mul_le_mul hb hn) (by decide);have e1:(decide ((n:Int)<0)||decide ((inf.bytes:Int)*(n:Int)>2^48))=false:=by
  have:(inf.bytes:Int)*(n:Int)<=100000000:=by
   have q:=Int.ofNat_le.2 hm;rw[Int.natCast_mul]at q;exact q
  rw[decide_eq_false (by omega),decide_eq_false (by omega)];rfl
 have e4:(decide ((((0:Nat):Int))<0)||decide ((inf.bytes:Int)*((0:Nat):Int)>2^48))=false:=by simp
 have e2:¬(n*inf.bytes>roomBytes):=by
  have:n*inf.bytes<=100000000:=by rw[Nat.mul_comm];exact hm
  show¬(n*inf.bytes>_);unfold roomBytes;omega
 have e3:¬n*(0+1)=0:=by omega
 simp only[Ux,bj,dg hu,cd,asInt,asIntOf,cW,IA hi,Oy hn,Oy (Nat.zero_le 1000000),e1,e4,Bool.false_or,askRoom,if_neg e2,ux,gj hz,if_neg e3,z1];simp only[show decide (((0:Nat):Int)<0)=false by simp,show decide (((0:Nat):Int)>(n:Int))=false by simp,Bool.or_self,Bool.false_eq_true,if_false,bj,cW,cd,gj hz,if_neg e3,z1];rw[Er];rfl
theorem Xh {ids:List Nat} {bl:List VB} {l:List CG} {B B' R:List ai} {ms:List Nat} {w0 w w':ae} (S:St ms w0 ((lits ids ids bl++av l [])++(B++R)) w) {n c:Nat} {f:Nat->Int} {x:Option aI} (hr:eA 5 n f x c B') (hB:Wr B) (hc:Ch (B.map ai.id) w w') (aK:∀y∈B',w'.heap[y.id]?=some y.obj/\((∃u∈B,y.id=u.id)\/w.heap.size<=y.id)) (h0:0<n):
 ∃b,x=some ⟨b,0,none⟩/\n<=c/\St ms w0 (lits ids ids bl++av (l++[.row ⟨n,f,b,c⟩]) R) w':=by
 obtain⟨b,hle,rfl,rfl⟩:=Eh hr h0;refine⟨b,rfl,hle,?_⟩;have S2:=S.sQ hB hc (λy hy=>(aK y hy).1) (λy hy=>(aK y hy).2) (by simp);have e:lits ids ids bl++av (l++[.row ⟨n,f,b,c⟩]) R=(lits ids ids bl++av l [])++([⟨b,true,.cells (bw n f c) 5 (0,0)⟩]++R):=by
  rw[ma,hY (av [CG.row ⟨n,f,b,c⟩] R) l,bN];rfl
 rw[e];exact S2
theorem Fb (ids:List Nat) (bl:List VB) (l:List CG) (r:R8) (R:List ai):lits ids ids bl++av (l++[.row r]) R=(lits ids ids bl++av l [])++(r.bl++R):=by
 rw[ma,hY (av [CG.row r] R) l,bN];rfl
theorem O1 (ids:List Nat) (bl:List VB) (l:List CG) (R:List ai):lits ids ids bl++av l R=(lits ids ids bl++av l [])++([]++R):=by
 rw[hY R l,bN];rfl
theorem zN (n:Nat) (f g:Nat->Int):ca 0 f g=g:=by funext j;rfl
theorem O2 {gl:Nat->Option Nat}:fC prog gl Fa:=by
 intro e op ids bl ch R ms w0 w K ρ o hg hl S aW ho h;unfold Fa at h;split at h
 ·rename_i c;split at h
  ·rename_i s xs t tx eb cC dr;split at h
   ·rename_i T' ht fH;obtain⟨l9,ar,gA⟩:=c;simp only at eb cC dr;have e2:ar=#[s,xs]:=by rw[<-cC]
    have e3:gA=#[t,tx]:=by rw[<-dr]
    subst eb e2 e3;have bS:(prog.info? 5).map (λi=>(i.zero.map (·.cells),i.size,i.bytes))=some (some #[.int .u8 0],1,1):=by kernel_rfl
    split at h
    ·rename_i fQ;obtain⟨b,ob,m,c,f,sure,hx,h8,Xi,hm,hK⟩:=Xg hl S h;obtain⟨v,w',bE,bT,x',c',bl',rfl,fl,me⟩:=M9 (P:=prog) (ty:=o.type) (M8 5) (w:=w) (λy hy=>nomatch hy) (y9 h8 fH) ht bS (by omega);rw[eh,zN 0]at fl;have Fc:=iR (P:=prog) (ρ:=ρ) (o:=o) ho (sv:=.slice none 0 0) (by rw[aW,fQ];rfl) (by rw[aW,hx]) bE;have O3:0<m->∀b c,m<=c->K (.raw (.slice (some ⟨b,0,none⟩) m c)) bl (ch++[.row ⟨m,f,b,c⟩]):=by
      cases sure with
      |true=>exact λ_=>hK
      |false=>exact hK.2
     have rL:m=0->K (.raw (.slice none 0 0)) bl ch:=λh0=>by
      cases sure with
      |true=>have:=Xi rfl;omega
      |false=>exact hK.1 h0
     rcases uh m with jL|jL
     ·have h1:=rL jL;subst jL;obtain⟨i,hi,Ih⟩:=gH.1 bS;simp only[bd]at Ih;have ae9:=iR (P:=prog) (ρ:=ρ) (o:=o) ho (sv:=.slice none 0 0) (by rw[aW,fQ];rfl) (by rw[aW,hx]) (run_append_nothing (P:=prog) w t tx o.type 5 i ht hi none 0 0 (dE _) _ (by rw[Ih.2.1];exact y9 h8 fH));exact⟨_,[],bl,_,w,.inl (by rw[ae9];simp[den]),by simpa using hl,by simpa using S,h1⟩
     ·obtain⟨b',rfl,hle,S2⟩:=Xh (l:=ch) (B:=[]) (by rw[<-O1];exact S) fl (λy hy=>nomatch hy) (by simpa using bT) (λy hy=>by simpa using me y hy) jL;exact⟨_,[],bl,_,w',.inl (by rw[Fc,eh];simp[den]),by simpa using hl,by simpa using S2,O3 jL b' c' hle⟩
    ·rename_i b n c fQ;split at h
     ·rename_i l r Fe;obtain rfl:=Jo Fe;obtain⟨b1,ob,m,c1,f,sure,hx,h8,Xi,⟨rfl,rfl,rfl,jc,hb,zO⟩,hK⟩:=Xg hl S h;have S1:=S;rw[Fb]at S1;obtain⟨v,w',bE,bT,x',c',bl',rfl,fl,me⟩:=M9 (P:=prog) (ty:=o.type) (show eA 5 r.n r.f (some ⟨r.b,0,none⟩) r.c r.bl from⟨jc,.inr ⟨_,rfl,rfl⟩⟩) (w:=w) (λy hy=>S1.at' (by simp[hy])) (y9 h8 fH) ht bS (by omega);have Fc:=iR (P:=prog) (ρ:=ρ) (o:=o) ho (sv:=.slice (some ⟨r.b,0,none⟩) r.n r.c) (by rw[aW,fQ];rfl) (by rw[aW,hx]) bE;obtain⟨b',rfl,hle,S2⟩:=Xh S1 fl (Wr.cons rfl Wr.nil) bT me zO;exact⟨_,[],bl,_,w',.inl (by rw[Fc];simp[den]),by simpa using hl,by simpa using S2,hK b' c' hle⟩
     ·exact h.elim
    ·exact h.elim
   ·exact h.elim
  ·exact h.elim
 ·rename_i t l c;split at h
  ·rename_i k1 k2 m hu nE EV;obtain⟨⟨m1,m2⟩,hK⟩:=h;obtain⟨n,rfl⟩:=Int.eq_ofNat_of_zero_le (show 0<=m by omega);obtain⟨inf,rH,gW⟩:∃inf,prog.info? 5=some inf/\inf.bytes<=100:=⟨_,rfl,dz (by kernel_rfl)⟩;have bE:=ae8 (P:=prog) (ids:=ids) (w:=w) (t:=t) (el:=5) (n:=n) (inf:=inf) (k1:=k1) (k2:=k2) hu rH (by kernel_rfl) (by kernel_rfl) (by omega) (by omega) gW;rw[ux]at hK;refine⟨_,[],bl,_,w.alloc (.cells (bw 0 (λ_=>0) n) 5),.inl ?_,by simpa using hl,?_,hK w.heap.size⟩
   ·unfold execOp;have e1:cU 0=((0:Nat):Int):=rfl;simp only[ho,aW,nE,EV,den,bj,e1,bE,cd,cW]
   ·rw[cI,Fb];rw[O1]at S;exact S.sQ (λy hy=>nomatch hy) (Ch.alloc [] w _) (λy hy=>by
     obtain rfl:=i_.1 hy;exact mC w _) (λy hy=>by
     obtain rfl:=i_.1 hy;exact .inr (dE _)) (by simp[R8.bl])
  ·exact h.elim
 ·exact h.elim
def aU (k:Nat) (x:Int):Nat->Int:=λj=>u8.wrap (iM x (2^(8*(k-1-j))))
theorem fdiv_zero (x:Int) (k:Nat) (h0:0<=x) (h1:x<2^k):iM x (2^k)=0:=by
 rw[sL _ (Int.le_of_lt (Int.lt_of_le_of_lt h0 h1))];exact Int.ediv_eq_zero_of_lt h0 h1
def ints (n:Nat) (f:Nat->Int):List V:=(bh n).map λj=>.int .u8 (f j)
theorem O4 {G:Type} [Bl G] {L:List (bK G)} {h:(aZ->V)->Op->List VB->List G->VK G->Prop} {hok:fC prog cR h} (hL:aG prog cR L) {f:eN} {args:List V} {K:VK G} {w:ae} (hv:oI (bu (fE prog cR L h hok) 60 f args [] [] (bm 0 K))):
 aQ prog f (aA [] args).toArray w λv w'=>∃x ids bl ch,v=den ids x/\ids.length=bl.length/\St [] w (lits ids ids bl++av ch []) w'/\K x bl ch:=by
 refine(eD hL.T hL.Q 60 (C:=fE prog cR L h hok) (ids:=[]) (bl:=[]) (ch:=[]) (R:=[]) (λg i h=>by cases h) rfl (St.nil [] w) hv.h).mono ?_;rintro v w' ⟨x,more,bl',ch',rfl,h1,S',hK⟩;obtain⟨v2,cD,bl2,hv,dw,S2,oO⟩:=h_ (n0:=0) h1 (Nat.zero_le _) S' hK;exact⟨v2,_,bl2,ch',hv,dw,S2,oO⟩
def oP (k:Nat) (x:Int):VB:=⟨true,⟨5,(0,0)⟩,ints k (aU k x)⟩
def zP (k:Nat) (x d:Int) (K:VK Empty):Prop:=bu (fE prog cR ([]:List (bK Empty)) (B_ prog) EW) 60 70 [.int .u64 x,.int .i64 k] [] [] (bm 0 K)=cond (iM x d !=0) (K (.ao [.raw (.slice none 0 0),.int .i64 1]) [] []) (K (.ao [.sl 0 0 k k,.int .i64 0]) [oP k x] [])
theorem ae_ (x:Int) (K:VK Empty):zP 1 x (2^8) K:=by
 unfold zP;kernel_rfl
theorem afa (x:Int) (K:VK Empty):zP 2 x (2^16) K:=by
 unfold zP;kernel_rfl
theorem afb (x:Int) (K:VK Empty):zP 4 x (2^32) K:=by
 unfold zP;kernel_rfl
theorem xB (ids:List Nat) (n:Nat) (f:Nat->Int):(ah ids (ints n f)).toArray=aq .u8 n f:=by
 have h:∀l:List Nat,ah ids (l.map λj=>V.int .u8 (f j))=l.map λj=>dT .u8 (f j):=by
  intro l;induction l with
  |nil=>rfl
  |cons j l ih=>simp only[eQ,ah,cl,den,ih,DL]
 unfold ints;rw[h];rfl
theorem O5 {k e:Nat} {x:Int} (hx:0<=x/\x<2^e) (hv:∀K,zP k x (2^e) K) (w:ae):aQ prog 70 #[.int .u64 x,.int .i64 k] w λv w1=>∃b,v=.tuple #[.slice (some ⟨b,0,none⟩) k k,.int .i64 0]/\w.heap.size<=b/\w1.heap[b]?=some (.cells (aq .u8 k (aU k x)) 5 (0,0))/\Ch [] w w1:=by
 have h:bu (fE prog cR ([]:List (bK Empty)) (B_ prog) EW) 60 70 [.int .u64 x,.int .i64 k] [] [] (bm 0 λv bl _=>v=.ao [.sl 0 0 k k,.int .i64 0]/\bl=[oP k x]):=by
  rw[show _=_ from hv _,fdiv_zero x e hx.1 hx.2];exact⟨rfl,rfl⟩
 refine(O4 aG.nil ⟨h⟩).mono ?_;rintro v w' ⟨y,ids,bl,ch,rfl,hl,S,rfl,rfl⟩
 match ids,hl with
 |[b],_=>
  refine⟨b,rfl,(S.own 0 (ay [b] b (oP k x)) rfl rfl).resolve_left (by simp),?_,S.ch⟩;have:=S.at_ 0 (ay [b] b (oP k x)) rfl;simp only[ay,oP,xB]at this;exact this
def Ff {G:Type}:cP G:=λargs bl ch K=>match args with
 |[.int .u64 x,.int .i64 (.ofNat k)]=>cond ((ax k 1||(ax k 2||ax k 4))&&bI bl.length bl) ((0<=x/\x<2^(8*k))/\K (.ao [.sl bl.length 0 k k,.int .i64 0]) (bl++[oP k x]) ch) False
 |_=>False
theorem afc {G:Type} [Bl G] {gl:Nat->Option Nat}:Sound (G:=G) prog gl 70 Ff:=by
 intro args ids bl ch R ms w0 w K hg hl S hc;unfold Ff at hc;split at hc
 ·rename_i x k;cases hq:(ax k 1||(ax k 2||ax k 4))&&bI bl.length bl with
  |false=>rw[hq]at hc;exact hc.elim
  |true=>
   rw[hq]at hc;simp only[a_,A8]at hq;obtain⟨hx,hK⟩:=hc;have hp:aQ prog 70 #[.int .u64 x,.int .i64 k] w λv w1=>∃b,v=.tuple #[.slice (some ⟨b,0,none⟩) k k,.int .i64 0]/\w.heap.size<=b/\w1.heap[b]?=some (.cells (aq .u8 k (aU k x)) 5 (0,0))/\Ch [] w w1:=by
    rcases hq.1 with h|h|h
    ·obtain rfl:=b9 h;exact O5 hx (ae_ x) w
    ·obtain rfl:=b9 h;exact O5 hx (afa x) w
    ·obtain rfl:=b9 h;exact O5 hx (afb x) w
   refine hp.mono ?_;rintro v w' ⟨b,rfl,eo,aK,bT⟩;refine⟨_,[b],_,_,?_,by simp[hl],?_,hK⟩
   ·have:(ids++[b]).getD bl.length 0=b:=by rw[<-hl];simp[ij]
    simp only[den,aA,this]
   ·have e:ay (ids++[b]) b (oP k x)=⟨b,true,.cells (aq .u8 k (aU k x)) 5 (0,0)⟩:=by
     unfold ay oP;rw[xB]
    rw[eZ _ _ _ _ hl,e_ _ _ (by rw[hl];exact hq.2)];simp only[lits,e];refine(S.new bT eo aK).perm ?_;rw[bN];exact jH.symm
 ·exact hc.elim
theorem afd {G:Type}:gO (Ff (G:=G)):=by
 intro args bl ch K hc;unfold Ff at hc⊢;split at hc
 ·revert hc;cases(ax _ 1||(ax _ 2||ax _ 4))&&bI bl.length bl with
  |false=>exact λh=>h.elim
  |true=>exact λh=>⟨h.1,h.2,_,rfl⟩
 ·exact hc.elim
def Ck (G:Type):List (bK G):=[⟨70,true,Ff⟩]
theorem Xj {G:Type} [Bl G] {gl:Nat->Option Nat}:aG (G:=G) prog gl (Ck G):=aG.cons ⟨afc,λ_=>afd⟩ aG.nil
def Fg (k:Nat) (n m:Int) (K:VK Empty):Prop:=bu (bQ prog cR (Ck Empty)) 60 44 [.int .i64 n,.int .i64 k] [] [] (bm 0 K)=((0<=bits .and .u64 (u64.wrap n) m/\bits .and .u64 (u64.wrap n) m<2^(8*k))/\K (.sl 0 0 k k) [oP k (bits .and .u64 (u64.wrap n) m)] [])
theorem afe (n:Int) (K:VK Empty):Fg 1 n 255 K:=by
 unfold Fg;kernel_rfl
theorem aff (n:Int) (K:VK Empty):Fg 4 n 4294967295 K:=by
 unfold Fg;kernel_rfl
theorem Xk {k:Nat} {n m d:Int} (hn:0<=n/\n<4294967296) (hv:∀K,Fg k n m K) (he:bits .and .u64 n m=n%d) (hd:0<d) (h2:d=2^(8*k)) (w:ae):
 aQ prog 44 #[.int .i64 n,.int .i64 k] w λv w1=>∃b,v=.slice (some ⟨b,0,none⟩) k k/\w.heap.size<=b/\w1.heap[b]?=some (.cells (aq .u8 k (aU k (n%d))) 5 (0,0))/\Ch [] w w1:=by
 have h:bu (bQ prog cR (Ck Empty)) 60 44 [.int .i64 n,.int .i64 k] [] [] (bm 0 λv bl _=>v=.sl 0 0 k k/\bl=[oP k (n%d)]):=by
  rw[show _=_ from hv _,uy _ (by omega),he];exact⟨⟨Int.emod_nonneg _ (by omega),h2▸Int.emod_lt_of_pos _ hd⟩,rfl,rfl⟩
 refine(O4 (h:=IH) (hok:=NI) Xj ⟨h⟩).mono ?_;rintro v w' ⟨y,ids,bl,ch,rfl,hl,S,rfl,rfl⟩
 match ids,hl with
 |[b],_=>
  refine⟨b,rfl,(S.own 0 (ay [b] b (oP k (n%d))) rfl rfl).resolve_left (by simp),?_,S.ch⟩;have:=S.at_ 0 (ay [b] b (oP k (n%d))) rfl;simp only[ay,oP,xB]at this;exact this
theorem Jr (n:Int) (hn:0<=n/\n<4294967296) (w:ae):
 aQ prog 44 #[.int .i64 n,.int .i64 1] w λv w1=>∃b,v=.slice (some ⟨b,0,none⟩) 1 1/\w.heap.size<=b/\w1.heap[b]?=some (.cells #[.int .u8 ((aU 1 (n%256)) 0)] 5 (0,0))/\Ch [] w w1:=
 Xk hn (afe n) (pN .u64 n 255 256 8 (by decide) (by decide) (by decide)) (by decide) rfl w
theorem afg (n:Int) (hn:0<=n/\n<4294967296) (w:ae):
 aQ prog 44 #[.int .i64 n,.int .i64 4] w λv w1=>∃b,v=.slice (some ⟨b,0,none⟩) 4 4/\w.heap.size<=b/\w1.heap[b]?=some (.cells #[.int .u8 ((aU 4 (n%4294967296)) 0),.int .u8 ((aU 4 (n%4294967296)) 1),.int .u8 ((aU 4 (n%4294967296)) 2),.int .u8 ((aU 4 (n%4294967296)) 3)] 5 (0,0))/\Ch [] w w1:=
 Xk hn (aff n) (pN .u64 n 4294967295 4294967296 32 (by decide) (by decide) (by decide)) (by decide) rfl w
abbrev JP:=(Nat×Nat×Nat×Nat)×(Nat->Int)
def jP (p:Nat×Nat×Nat×Nat):V:=.raw (.slice (some ⟨p.1,p.2.1,none⟩) p.2.2.1 p.2.2.2)
def jB (ps:List (Nat×Nat×Nat×Nat)):VB:=⟨false,⟨23,(0,0)⟩,ps.map jP⟩
def mi (L:List (bK CG)) (f:eN) (args:List V) (bl:List VB) (ch:List CG) (K:VK CG):Prop:=bu (fE prog cR L Fa O2) 60 f args bl ch K
section
variable(u:ae) (B:VB) (K:VK CG)
def O6:List (Nat×Nat×Nat×Nat)->Nat->Nat->Nat->(Nat->Int)->Prop
 |[],b,n,c,f=>K (.raw (.slice (some ⟨b,0,none⟩) n c)) [B] [.aX u,.row ⟨n,f,b,c⟩]
 |p::ps,b,n,c,f=>∃g,bV u p.1 p.2.1 p.2.2.1 g/\(b=b/\n=n/\c=c/\n<=c/\n+p.2.2.1<=1000000/\0<n+p.2.2.1)/\∀b' c',n+p.2.2.1<=c'->O6 ps b' (n+p.2.2.1) c' (ca n f g)
def O7:List (Nat×Nat×Nat×Nat)->Prop
 |[]=>K (.raw (.slice none 0 0)) [B] [.aX u]
 |p::ps=>∃g,bV u p.1 p.2.1 p.2.2.1 g/\p.2.2.1<=1000000/\(p.2.2.1=0->O7 ps)/\(0<p.2.2.1->∀b c,p.2.2.1<=c->O6 u B K ps b p.2.2.1 c g)
def vt (k:Nat) (ps:List (Nat×Nat×Nat×Nat)):Prop:=mi [] 43 [.sl 0 0 k k] [jB ps] [.aX u] (bm 1 K)=O7 u (jB ps) K ps
theorem afh (p:Nat×Nat×Nat×Nat):vt u K 1 [p]:=by
 unfold vt;kernel_rfl
theorem afi (p q:Nat×Nat×Nat×Nat):vt u K 2 [p,q]:=by
 unfold vt;kernel_rfl
theorem afj (p q r:Nat×Nat×Nat×Nat):vt u K 3 [p,q,r]:=by
 unfold vt;kernel_rfl
theorem afk (p q r s:Nat×Nat×Nat×Nat):vt u K 4 [p,q,r,s]:=by
 unfold vt;kernel_rfl
end
def fF:List JP->Nat->Nat
 |[],n=>n
 |p::ps,n=>fF ps (n+p.1.2.2.1)
def k8:List JP->Nat->(Nat->Int)->Nat->Int
 |[],n,f=>f
 |p::ps,n,f=>k8 ps (n+p.1.2.2.1) (ca n f p.2)
theorem O8:∀(ps:List JP) (n:Nat),n<=fF ps n
 |[],n=>dE n
 |p::ps,n=>iH (wz _ _) (O8 ps _)
theorem Xl {u:ae} {B:VB} {K:VK CG}:∀(ps:List JP) (b n c:Nat) (f:Nat->Int),n<=c->0<n->fF ps n<=1000000->(∀q∈ps,bV u q.1.1 q.1.2.1 q.1.2.2.1 q.2)->
 (∀b c,fF ps n<=c->K (.raw (.slice (some ⟨b,0,none⟩) (fF ps n) c)) [B] [.aX u,.row ⟨fF ps n,k8 ps n f,b,c⟩])->O6 u B K (ps.map (·.1)) b n c f
 |[],b,n,c,f,h1,_,_,_,hK=>hK b c h1
 |p::ps,b,n,c,f,h1,h2,h3,h4,hK=>by
  have:=O8 ps (n+p.1.2.2.1);have Xm:fF ps (n+p.1.2.2.1)<=1000000:=h3;exact⟨p.2,h4 p Bb,⟨rfl,rfl,rfl,h1,iH this Xm,Ms h2 (wz _ _)⟩,λb' c' h=>Xl ps b' _ c' _ h (Ms h2 (wz _ _)) Xm (λq hq=>h4 q (wy _ hq)) hK⟩
theorem Xn:∀(ps:List JP) (n:Nat) (f g:Nat->Int),(∀j,j<n->f j=g j)->∀j,j<fF ps n->k8 ps n f j=k8 ps n g j
 |[],n,f,g,h,j,hj=>h j hj
 |p::ps,n,f,g,h,j,hj=>Xn ps _ _ _ (λi hi=>by
  unfold ca;cases hb:cj i n with
  |false=>rfl
  |true=>exact h i (by unfold cj at hb;exact dz hb)) j hj
theorem Xo {u:ae} {B:VB} {K:VK CG} {z:Nat->Int}:∀(ps:List JP),fF ps 0<=1000000->(∀q∈ps,bV u q.1.1 q.1.2.1 q.1.2.2.1 q.2)->(fF ps 0=0->K (.raw (.slice none 0 0)) [B] [.aX u])->
 (∀F,(∀j,j<fF ps 0->F j=k8 ps 0 z j)->∀b c,0<fF ps 0->fF ps 0<=c->K (.raw (.slice (some ⟨b,0,none⟩) (fF ps 0) c)) [B] [.aX u,.row ⟨fF ps 0,F,b,c⟩])->O7 u B K (ps.map (·.1))
 |[],_,_,h,_=>h rfl
 |p::ps,h1,h2,h3,h4=>by
  have e:fF (p::ps) 0=fF ps p.1.2.2.1:=by show fF ps (0+p.1.2.2.1)=_;rw[eh]
  have hc:k8 (p::ps) 0 z=k8 ps p.1.2.2.1 p.2:=by show k8 ps (0+p.1.2.2.1) (ca 0 z p.2)=_;rw[eh,zN 0]
  rw[e]at h1 h3 h4;rw[hc]at h4;have eo:=O8 ps p.1.2.2.1;refine⟨p.2,h2 p Bb,iH eo h1,λh0=>?_,λh0 b c hle=>Xl ps b _ c _ hle h0 h1 (λq hq=>h2 q (wy _ hq)) λb c h=>h4 _ (λ_ _=>rfl) b c (Ms h0 eo) h⟩;rw[show p.1.2.2.1=0 from h0]at h1 h3 h4;exact Xo (z:=z) ps h1 (λq hq=>h2 q (wy _ hq)) h3 λF hF=>h4 F λj hj=>(hF j hj).trans (Xn ps 0 _ _ (λi hi=>absurd hi (Nat.not_lt_zero i)) j hj)
theorem O9 {ids:List Nat} {bl:List VB} {l:List CG} {r:R8} {w w':ae} (S:St [] w (lits ids ids bl++av (l++[.row r]) []) w'):w.heap.size<=r.b:=by
 rw[Fb]at S;have:=S.nC (x:=⟨r.b,true,.cells (bw r.n r.f r.c) 5 (0,0)⟩) (by simp[R8.bl]) rfl;simpa using this
theorem Fh {ids:List Nat} {bl:List VB} {l:List CG} {r:R8} {R:List ai} {ms:List Nat} {w0 w:ae} (S:St ms w0 (lits ids ids bl++av (l++[.row r]) R) w):w.heap[r.b]?=some (.cells (bw r.n r.f r.c) 5 (0,0)):=by
 rw[Fb]at S;exact S.at' (x:=⟨r.b,true,.cells (bw r.n r.f r.c) 5 (0,0)⟩) (by simp[R8.bl])
theorem Js {k pb:Nat} {ps:List JP} {w:ae} {z:Nat->Int} (hv:∀K,vt w K k (ps.map (·.1))) (hp:w.heap[pb]?=some (.cells (ah [] ((ps.map (·.1)).map jP)).toArray 23 (0,0))) (h1:fF ps 0<=1000000) (hA:∀q∈ps,bV w q.1.1 q.1.2.1 q.1.2.2.1 q.2):
 aQ prog 43 #[.slice (some ⟨pb,0,none⟩) k k] w λv w1=>Ch [] w w1/\((fF ps 0=0/\v=.slice none 0 0)\/(0<fF ps 0/\∃b c,v=.slice (some ⟨b,0,none⟩) (fF ps 0) c/\fF ps 0<=c/\w.heap.size<=b/\w1.heap[b]?=some (.cells (bw (fF ps 0) (k8 ps 0 z) c) 5 (0,0)))):=by
 have h:mi [] 43 [.sl 0 0 k k] [jB (ps.map (·.1))] [.aX w] (bm 1 λv bl ch=>bl=[jB (ps.map (·.1))]/\((fF ps 0=0/\v=.raw (.slice none 0 0))\/(0<fF ps 0/\∃F b c,(∀j,j<fF ps 0->F j=k8 ps 0 z j)/\v=.raw (.slice (some ⟨b,0,none⟩) (fF ps 0) c)/\fF ps 0<=c/\ch=[.aX w,.row ⟨fF ps 0,F,b,c⟩]))):=by
  rw[show _=_ from hv _];exact Xo ps h1 hA (λh=>⟨rfl,.inl ⟨h,rfl⟩⟩) λF hF b c h0 hc=>⟨rfl,.inr ⟨h0,F,b,c,hF,rfl,hc,rfl⟩⟩
 have S:St [] w (lits [pb] [pb] [jB (ps.map (·.1))]++av [CG.aX w] []) w:=by
  have:=St.given (w:=w) ((pb,.cells (ah [] ((ps.map (·.1)).map jP)).toArray 23 (0,0))::w.heap.toList.zipIdx.map λp=>(p.2,p.1)) (by
   intro p h;rcases bY.1 h with rfl|h
   ·exact hp
   obtain⟨q,hq,rfl⟩:=ny.1 h;have:=(List.mem_zipIdx_iff_getElem?.1 (show(q.1,q.2)∈w.heap.toList.zipIdx from hq));simpa using this)
  have e:ah [pb] ((ps.map (·.1)).map jP)=ah [] ((ps.map (·.1)).map jP):=by
   have:∀l:List (Nat×Nat×Nat×Nat),ah [pb] (l.map jP)=ah [] (l.map jP):=λl=>by
    induction l with
    |nil=>rfl
    |cons a l ih=>simp only[eQ,ah,ih,jP,cl,den]
   exact this _
  simp only[lits,ay,jB,e];show St [] w (_::(dv w++[])) w;rw[cI];unfold dv;rw[eQ,mG (l:=w.heap.toList.zipIdx)]at this;exact this
 refine(eD (aG.nil (G:=CG) (P:=prog) (gl:=cR)).T (aG.nil (G:=CG) (P:=prog) (gl:=cR)).Q 60 (C:=fE prog cR [] Fa O2) (λg i h=>by cases h) rfl S h).mono ?_;rintro v w' ⟨x,more,bl',ch',rfl,h1,S',hK⟩;obtain⟨v2,cD,bl2,hv,dw,S2,rfl,oO⟩:=h_ (n0:=1) h1 (by simp) S' hK;refine⟨S2.ch,?_⟩;rcases oO with⟨h0,rfl⟩|⟨h0,F,b,c,hF,rfl,hc,rfl⟩
 ·exact .inl ⟨h0,hv⟩
 ·refine .inr ⟨h0,b,c,hv,hc,O9 (l:=[.aX w]) S2,?_⟩;have:=Fh (l:=[.aX w]) S2;rw[this];congr 2;exact OJ rfl hF
theorem Xp (pb:Nat) (b0 o0 n0 c0:Nat) (f0:Nat->Int) (b1 o1 n1 c1:Nat) (f1:Nat->Int) (b2 o2 n2 c2:Nat) (f2:Nat->Int) (h0:0<n0) (hn:n0+n1+n2<=1000000) (w:ae) (hp:w.heap[pb]?=some (.cells #[.slice (some ⟨b0,o0,none⟩) n0 c0,.slice (some ⟨b1,o1,none⟩) n1 c1,.slice (some ⟨b2,o2,none⟩) n2 c2] 23 (0,0))) (zI:bV w b0 o0 n0 f0) (vd:bV w b1 o1 n1 f1) (Fi:bV w b2 o2 n2 f2):
 aQ prog 43 #[.slice (some ⟨pb,0,none⟩) 3 3] w λv w1=>∃b c1,v=.slice (some ⟨b,0,none⟩) (n0+n1+n2) c1/\n0+n1+n2<=c1/\w.heap.size<=b/\w1.heap[b]?=some (.cells (bw (n0+n1+n2) (jS n0 n1 f0 f1 f2) c1) 5 (0,0))/\Ch [] w w1:=by
 let ps:List JP:=[((b0,o0,n0,c0),f0),((b1,o1,n1,c1),f1),((b2,o2,n2,c2),f2)]
 have et:fF ps 0=n0+n1+n2:=by show 0+n0+n1+n2=_;rw[eh]
 refine(Js (k:=3) (ps:=ps) (z:=λ_=>0) (λK=>afj w K (b0,o0,n0,c0) (b1,o1,n1,c1) (b2,o2,n2,c2)) hp (by rw[et];exact hn) (λq hq=>by
  rcases bY.1 hq with rfl|hq
  ·exact zI
  rcases bY.1 hq with rfl|hq
  ·exact vd
  rcases bY.1 hq with rfl|hq
  ·exact Fi
  cases hq)).mono ?_
 rintro v w1 ⟨bT,⟨h,_⟩|⟨_,b,c,rfl,h1,h2,h3⟩⟩
 ·omega
 ·have ec:k8 ps 0 (λ_=>0)=jS n0 n1 f0 f1 f2:=by
   simp only[ps,k8,eh,zN 0];rfl
  rw[et]at h1 h3⊢;rw[ec]at h3;exact⟨b,c,rfl,h1,h2,h3,bT⟩
theorem afl (pb:Nat) (b0 o0 n0 c0:Nat) (f0:Nat->Int) (b1 o1 n1 c1:Nat) (f1:Nat->Int) (b2 o2 n2 c2:Nat) (f2:Nat->Int) (b3 o3 n3 c3:Nat) (f3:Nat->Int) (h0:0<n0) (hn:n0+n1+n2+n3<=1000000) (w:ae) (hp:w.heap[pb]?=some (.cells #[.slice (some ⟨b0,o0,none⟩) n0 c0,.slice (some ⟨b1,o1,none⟩) n1 c1,.slice (some ⟨b2,o2,none⟩) n2 c2,.slice (some ⟨b3,o3,none⟩) n3 c3] 23 (0,0))) (zI:bV w b0 o0 n0 f0) (vd:bV w b1 o1 n1 f1) (Fi:bV w b2 o2 n2 f2) (hB3:bV w b3 o3 n3 f3):
 aQ prog 43 #[.slice (some ⟨pb,0,none⟩) 4 4] w λv w1=>∃b c1,v=.slice (some ⟨b,0,none⟩) (n0+n1+n2+n3) c1/\n0+n1+n2+n3<=c1/\w.heap.size<=b/\w1.heap[b]?=some (.cells (bw (n0+n1+n2+n3) (E3 n0 n1 n2 f0 f1 f2 f3) c1) 5 (0,0))/\Ch [] w w1:=by
 let ps:List JP:=[((b0,o0,n0,c0),f0),((b1,o1,n1,c1),f1),((b2,o2,n2,c2),f2),((b3,o3,n3,c3),f3)]
 have et:fF ps 0=n0+n1+n2+n3:=by show 0+n0+n1+n2+n3=_;rw[eh]
 refine(Js (k:=4) (ps:=ps) (z:=λ_=>0) (λK=>afk w K (b0,o0,n0,c0) (b1,o1,n1,c1) (b2,o2,n2,c2) (b3,o3,n3,c3)) hp (by rw[et];exact hn) (λq hq=>by
  rcases bY.1 hq with rfl|hq
  ·exact zI
  rcases bY.1 hq with rfl|hq
  ·exact vd
  rcases bY.1 hq with rfl|hq
  ·exact Fi
  rcases bY.1 hq with rfl|hq
  ·exact hB3
  cases hq)).mono ?_
 rintro v w1 ⟨bT,⟨h,_⟩|⟨_,b,c,rfl,h1,h2,h3⟩⟩
 ·omega
 ·have ec:k8 ps 0 (λ_=>0)=E3 n0 n1 n2 f0 f1 f2 f3:=by
   simp only[ps,k8,eh,zN 0];rfl
  rw[et]at h1 h3⊢;rw[ec]at h3;exact⟨b,c,rfl,h1,h2,h3,bT⟩
theorem afm (pb:Nat) (b0 o0 n0 c0:Nat) (f0:Nat->Int) (b1 o1 n1 c1:Nat) (f1:Nat->Int) (h0:0<n1) (hn:n0+n1<=1000000) (w:ae) (hp:w.heap[pb]?=some (.cells #[.slice (some ⟨b0,o0,none⟩) n0 c0,.slice (some ⟨b1,o1,none⟩) n1 c1] 23 (0,0))) (zI:bV w b0 o0 n0 f0) (vd:bV w b1 o1 n1 f1):
 aQ prog 43 #[.slice (some ⟨pb,0,none⟩) 2 2] w λv w1=>∃b c1,v=.slice (some ⟨b,0,none⟩) (n0+n1) c1/\n0+n1<=c1/\w.heap.size<=b/\w1.heap[b]?=some (.cells (bw (n0+n1) (ca n0 f0 f1) c1) 5 (0,0))/\Ch [] w w1:=by
 let ps:List JP:=[((b0,o0,n0,c0),f0),((b1,o1,n1,c1),f1)]
 have et:fF ps 0=n0+n1:=by show 0+n0+n1=_;rw[eh]
 refine(Js (k:=2) (ps:=ps) (z:=λ_=>0) (λK=>afi w K (b0,o0,n0,c0) (b1,o1,n1,c1)) hp (by rw[et];exact hn) (λq hq=>by
  rcases bY.1 hq with rfl|hq
  ·exact zI
  rcases bY.1 hq with rfl|hq
  ·exact vd
  cases hq)).mono ?_
 rintro v w1 ⟨bT,⟨h,_⟩|⟨_,b,c,rfl,h1,h2,h3⟩⟩
 ·omega
 ·have ec:k8 ps 0 (λ_=>0)=ca n0 f0 f1:=by
   simp only[ps,k8,eh,zN 0]
  rw[et]at h1 h3⊢;rw[ec]at h3;exact⟨b,c,rfl,h1,h2,h3,bT⟩
def fG (kn:Nat) (kf:Nat->Int) (s n:Int):Nat->Int:=fU kn kf (1+1+4) (jS 1 1 (λ_=>78) (aU 1 (s%256)) (aU 4 (n%4294967296)))
def qt (y s r:Int) (nc:Nat->Int):Nat->Int:=E3 1 1 1 (λ_=>y) (aU 1 (s%256)) (aU 1 (r%256)) nc
def fq (kn:Nat) (kf:Nat->Int) (s r:Int) (nc:Nat->Int):Nat->Int:=fU kn kf (1+1+1+8) (qt 80 s r nc)
def gQ (kn:Nat) (kf:Nat->Int) (s r:Int) (nc:Nat->Int):Nat->Int:=fU kn kf (1+1+1+8) (qt 75 s r nc)
def tA (k:Nat->Int) (s:Int) (m:Nat) (f:Nat->Int):Nat->Int:=ca m f (fU 32 k (1+1+m) (jS 1 1 (λ_=>77) (aU 1 (s%256)) f))
def lO (k:Nat->Int) (s:Int) (m:Nat) (f:Nat->Int):Bool:=mh (m+8) f (tA k s m f)
theorem Xq (ka:Option aI) (kn kc:Nat) (kf:Nat->Int) (s n:Int) (kj:1<=kn/\kn<=64) (hs:0<=s/\s<4294967296) (hn:0<=n/\n<4294967296) {tG:aD} (w:ae) (hG:w.heap[1]?=some (.cells (aq .u32 64 cx) tG (0,0))) (hk:dD w ka kn kc kf):
 aQ prog 15 #[.slice ka kn kc,.int .i64 s,.int .i64 n] w λv w1=>v=.agg (aq .u8 8 (fG kn kf s n))/\Ch [] w w1:=by
 have S0:=St.given (w:=w) [(1,.cells (aq .u32 64 cx) tG (0,0))] (all_cons hG (all_nil));refine il Tryz.func15 rfl ?_;refine aM (aT ?_);refine ei S0 (λb=>.pointer (some ⟨b,0,none⟩)) (.cells (aq .u8 8 (λ_=>0)) 38) ?_;intro bx gP du;refine aR (aL (aM (aT ?_)));refine ak (.slice ka kn kc) ?_;refine ei du (λb=>.slice (some ⟨b,0,none⟩) 1 1) (.cells #[.int .u8 78] 5) ?_;intro de lL cM;refine ak (.int .i64 s) ?_;refine fe 44 #[.int .i64 s,.int .i64 1] ?_;refine(Jr s (by omega) _).mono ?_;rintro _ Cf ⟨qu,rfl,jT,ve,nH⟩;have iy:=cM.new nH jT ve;refine ak (.int .i64 n) ?_;refine fe 44 #[.int .i64 n,.int .i64 4] ?_;refine(afg n (by omega) _).mono ?_;rintro _ O_ ⟨Xr,rfl,Ce,E4,tz⟩;have Pa:=iy.new tz Ce E4;refine ei Pa (λb=>.slice (some ⟨b,0,none⟩) 3 3) (.cells #[.slice (some ⟨de,0,none⟩) 1 1,.slice (some ⟨qu,0,none⟩) 1 1,.slice (some ⟨Xr,0,none⟩) 4 4] 23) ?_;intro Xs ath vu;refine fe 43 #[.slice (some ⟨Xs,0,none⟩) 3 3] ?_;refine(Xp Xs de 0 1 1 (λ_=>78) qu 0 1 1 (aU 1 (s%256)) Xr 0 4 4 (aU 4 (n%4294967296)) (by omega) (by omega) _ (vu.at_ 0 _ rfl) (St.eA (N:=1) (f:=(λ_=>78)) (wr:=true) (t:=5) (fr:=(0,0)) vu 3) (St.eA (N:=1) (f:=(aU 1 (s%256))) (wr:=true) (t:=5) (fr:=(0,0)) vu 2) (St.eA (N:=4) (f:=(aU 4 (n%4294967296))) (wr:=true) (t:=5) (fr:=(0,0)) vu 1)).mono ?_;rintro _ afn ⟨Jt,Pb,rfl,jU,xC,Pc,qq⟩;have vw:=vu.new qq xC Pc;refine fe 42 #[.slice ka kn kc,.slice (some ⟨Jt,0,none⟩) (1+1+4) Pb] ?_;refine(OZ ka kn kc kf Jt 0 (1+1+4) Pb (jS 1 1 (λ_=>78) (aU 1 (s%256)) (aU 4 (n%4294967296))) (.of (by omega)) (by omega) _ (vw.at_ 6 _ rfl) (dD.quiet hk vw.ch) (St.zb (c:=Pb) (wr:=true) (t:=5) (fr:=(0,0)) vw 0)).mono ?_;rintro _ Jk ⟨rfl,tB⟩;have afo:=vw.quiet tB;refine store_ afo 5 (.agg (aq .u8 8 (fU kn kf (1+1+4) (jS 1 1 (λ_=>78) (aU 1 (s%256)) (aU 4 (n%4294967296)))))) bx 0 ?_;intro ati Ju;refine aR (aL (gh ?_));refine fW rfl (fu [.cell 6 38] [.agg (aq .u8 8 (fU kn kf (1+1+4) (jS 1 1 (λ_=>78) (aU 1 (s%256)) (aU 4 (n%4294967296)))))] (.agg (aq .u8 8 (fU kn kf (1+1+4) (jS 1 1 (λ_=>78) (aU 1 (s%256)) (aU 4 (n%4294967296)))))) ⟨lV Ju 5 8 bx 0,trivial⟩) ?_;exact⟨by(unfold fG)<;>kernel_rfl,Ju.ch⟩
theorem Xt (y s r:Int) (nc:Nat->Int) (hs:0<=s/\s<4294967296) (hr:0<=r/\r<4294967296) (w:ae):
 aQ prog 45 #[.int .u8 y,.int .i64 s,.int .i64 r,.agg (aq .u8 8 nc)] w λv w1=>∃b c1,v=.slice (some ⟨b,0,none⟩) (1+1+1+8) c1/\1+1+1+8<=c1/\w.heap.size<=b/\w1.heap[b]?=some (.cells (bw (1+1+1+8) (qt y s r nc) c1) 5 (0,0))/\Ch [] w w1:=by
 have S0:=St.nil [] w;refine il Tryz.func45 rfl ?_;refine aM (aT ?_);refine ei S0 (λb=>.pointer (some ⟨b,0,none⟩)) (.cells (aq .u8 8 nc) 38) ?_;intro bx gP du;refine ak (.slice none 0 0) ?_;refine aR (aL (aM ?_));refine yT 7 [⟨0,λ_=>.int .u8 y,λ_=>[]⟩,⟨1,λids=>.slice (some ⟨(ids.getD 0 0),0,none⟩) 1 1,λids=>[((ids.getD 0 0),.cells #[.int .u8 y] 5 (0,0))]⟩,⟨0,λ_=>.int .i64 s,λ_=>[]⟩,⟨1,λids=>.slice (some ⟨(ids.getD 0 0),0,none⟩) 1 1,λids=>[((ids.getD 0 0),.cells #[.int .u8 ((aU 1 (s%256)) 0)] 5 (0,0))]⟩,⟨0,λ_=>.int .i64 r,λ_=>[]⟩,⟨1,λids=>.slice (some ⟨(ids.getD 0 0),0,none⟩) 1 1,λids=>[((ids.getD 0 0),.cells #[.int .u8 ((aU 1 (r%256)) 0)] 5 (0,0))]⟩,⟨0,λ_=>.slice (some ⟨bx,0,none⟩) 8 8,λ_=>[]⟩] [[7,1,0],[7,1],[7,3,2],[7,3],[7,5,4],[7,5],[7,6],[8,7,1,0],[8,7,1],[8,7,3,2],[8,7,3],[8,5,4],[8,5],[8,7,6],[8,7],[9,0],[9,1],[9,2],[9,3],[9,4],[9,5],[9,6],[9,7],[9,8]] ?_ ?_
 ·refine step_cons gL ?_;refine step_cons ?_ ?_
  ·intro Cm lL zQ Xu Cn;have vn:Cm 9=.int .u8 y:=(Sp.dq (Cn 0 9 (by kernel_rfl) (by kernel_rfl))).1;have Co:=du.quiet zQ;refine ot ?_;refine lA [(9,.int .u8 y)] (lB vn (om)) ?_;have xz:=Co.loc;refine Y.ei xz (λb=>.slice (some ⟨b,0,none⟩) 1 1) (.cells #[.int .u8 y] 5) ?_;intro Jj O_ nI;exact⟨nI.ch,Sp.oq [Jj] (all_cons (nI.uJ zQ.size 0 (by kernel_rfl)) (all_nil))⟩
  refine step_cons gL ?_;refine step_cons ?_ ?_
  ·intro afp W4 Xv atj afq;have Pd:afp 11=.int .i64 s:=(Sp.dq (afq 2 11 (by kernel_rfl) (by kernel_rfl))).1;have vu:=du.quiet Xv;refine ot ?_;refine lA [(11,.int .i64 s)] (lB Pd (om)) ?_;have tD:=vu.loc;refine Y.fe 44 #[.int .i64 s,.int .i64 1] ?_;refine(Jr s (by omega) _).mono ?_;rintro _ Xw ⟨afr,rfl,jU,xC,rI⟩;have mW:=tD.new rI jU xC;exact⟨mW.ch,Sp.oq [afr] (all_cons (mW.uJ Xv.size 0 (by kernel_rfl)) (all_nil))⟩
  refine step_cons gL ?_;refine step_cons ?_ ?_
  ·intro afs Jk Jv atk aft;have kG:afs 13=.int .i64 r:=(Sp.dq (aft 4 13 (by kernel_rfl) (by kernel_rfl))).1;have Jw:=du.quiet Jv;refine ot ?_;refine lA [(13,.int .i64 r)] (lB kG (om)) ?_;have afu:=Jw.loc;refine Y.fe 44 #[.int .i64 r,.int .i64 1] ?_;refine(Jr r (by omega) _).mono ?_;rintro _ atl ⟨afv,rfl,oQ,Fj,qx⟩;have Xx:=afu.new qx oQ Fj;exact⟨Xx.ch,Sp.oq [afv] (all_cons (Xx.uJ Jv.size 0 (by kernel_rfl)) (all_nil))⟩
  refine step_cons gL ?_;exact yS
 intro zR Pe afw zT;have ON:zR 0=.int .u8 y:=(Sp.dq (zT 0 (by kernel_rfl))).1;have afx:=Sp.uI (zT 1 (by kernel_rfl));obtain⟨Cp,afy,afz⟩:=afx;have afA:zR 1=.slice (some ⟨Cp,0,none⟩) 1 1:=afy;have afB:∀zp∈([(Cp,.cells #[.int .u8 y] 5 (0,0))]:List (Nat×Obj)),gP.heap.size<=zp.1/\Pe.heap[zp.1]?=some zp.2:=afz;have Ci:zR 2=.int .i64 s:=(Sp.dq (zT 2 (by kernel_rfl))).1;have OQ:=Sp.uI (zT 3 (by kernel_rfl));obtain⟨kF,OR,OS⟩:=OQ;have OT:zR 3=.slice (some ⟨kF,0,none⟩) 1 1:=OR;have OU:∀zp∈([(kF,.cells #[.int .u8 ((aU 1 (s%256)) 0)] 5 (0,0))]:List (Nat×Obj)),gP.heap.size<=zp.1/\Pe.heap[zp.1]?=some zp.2:=OS;have OV:zR 4=.int .i64 r:=(Sp.dq (zT 4 (by kernel_rfl))).1;have afC:=Sp.uI (zT 5 (by kernel_rfl));obtain⟨vj,afD,afE⟩:=afC;have afF:zR 5=.slice (some ⟨vj,0,none⟩) 1 1:=afD;have afG:∀zp∈([(vj,.cells #[.int .u8 ((aU 1 (r%256)) 0)] 5 (0,0))]:List (Nat×Obj)),gP.heap.size<=zp.1/\Pe.heap[zp.1]?=some zp.2:=afE;have afH:zR 6=.slice (some ⟨bx,0,none⟩) 8 8:=(Sp.dq (zT 6 (by kernel_rfl))).1;have afI:=du.ro afw (([(Cp,.cells #[.int .u8 y] 5 (0,0))]++([(kF,.cells #[.int .u8 ((aU 1 (s%256)) 0)] 5 (0,0))]++[(vj,.cells #[.int .u8 ((aU 1 (r%256)) 0)] 5 (0,0))]))) (List.forall_mem_append.2 ⟨afB,List.forall_mem_append.2 ⟨OU,afG⟩⟩);refine⟨[.int .u8 y,.slice (some ⟨Cp,0,none⟩) 1 1,.int .i64 s,.slice (some ⟨kF,0,none⟩) 1 1,.int .i64 r,.slice (some ⟨vj,0,none⟩) 1 1,.slice (some ⟨bx,0,none⟩) 8 8],by kernel_rfl,dO ON (dO afA (dO Ci (dO OT (dO OV (dO afF (dO afH (Bo))))))),?_⟩;refine ei afI (λb=>.slice (some ⟨b,0,none⟩) 4 4) (.cells #[.slice (some ⟨Cp,0,none⟩) 1 1,.slice (some ⟨kF,0,none⟩) 1 1,.slice (some ⟨vj,0,none⟩) 1 1,.slice (some ⟨bx,0,none⟩) 8 8] 23) ?_;intro Xy atm Cq;refine fe 43 #[.slice (some ⟨Xy,0,none⟩) 4 4] ?_;refine(afl Xy Cp 0 1 1 (λ_=>y) kF 0 1 1 (aU 1 (s%256)) vj 0 1 1 (aU 1 (r%256)) bx 0 8 8 nc (by omega) (by omega) _ (Cq.at_ 0 _ rfl) (St.eA (N:=1) (f:=(λ_=>y)) (wr:=false) (t:=5) (fr:=(0,0)) Cq 1) (St.eA (N:=1) (f:=(aU 1 (s%256))) (wr:=false) (t:=5) (fr:=(0,0)) Cq 2) (St.eA (N:=1) (f:=(aU 1 (r%256))) (wr:=false) (t:=5) (fr:=(0,0)) Cq 3) (St.eA (N:=8) (f:=nc) (wr:=true) (t:=38) (fr:=(0,0)) Cq 4)).mono ?_;rintro _ atn ⟨Pf,Fk,rfl,afJ,Pg,Ph,OX⟩;have Pj:=Cq.new OX Pg Ph;refine fL ?_;refine aR (aL (gh ?_));refine fW rfl (fu [.tmp 8] [.slice (some ⟨Pf,0,none⟩) (1+1+1+8) Fk] (.slice (some ⟨Pf,0,none⟩) (1+1+1+8) Fk) ⟨iP,trivial⟩) ?_;have ze:bw (1+1+1+8) (E3 1 1 1 (λ_=>y) (aU 1 (s%256)) (aU 1 (r%256)) nc) Fk=bw (1+1+1+8) (qt y s r nc) Fk:=by kernel_rfl
 exact⟨Pf,Fk,by rw[show(1+1+1+8)=1+1+1+8 by omega],by have:=afJ;omega,(Pj.own 0 _ rfl rfl).resolve_left (by simp),by rw[<-ze];exact Pj.at_ 0 _ rfl,Pj.ch⟩
theorem Xz (ka:Option aI) (kn kc:Nat) (kf:Nat->Int) (s r:Int) (nc:Nat->Int) (kj:vg ka kn) (hs:0<=s/\s<4294967296) (hr:0<=r/\r<4294967296) {tG:aD} (w:ae) (hG:w.heap[1]?=some (.cells (aq .u32 64 cx) tG (0,0))) (hk:dD w ka kn kc kf):
 aQ prog 16 #[.slice ka kn kc,.int .i64 s,.int .i64 r,.agg (aq .u8 8 nc)] w λv w1=>v=.agg (aq .u8 8 (fq kn kf s r nc))/\Ch [] w w1:=by
 have S0:=St.given (w:=w) [(1,.cells (aq .u32 64 cx) tG (0,0))] (all_cons hG (all_nil));refine il Tryz.func16 rfl ?_;refine aM (aT ?_);refine ei S0 (λb=>.pointer (some ⟨b,0,none⟩)) (.cells (aq .u8 8 nc) 38) ?_;intro bx gP du;refine ei du (λb=>.pointer (some ⟨b,0,none⟩)) (.cells (aq .u8 8 (λ_=>0)) 38) ?_;intro de lL cM;refine aR (aL (aM (aT ?_)));refine ak (.slice ka kn kc) ?_;refine ak (.int .i64 s) ?_;refine ak (.int .i64 r) ?_;refine jI cM 1 8 (aq .u8 8 nc) bx 0 ?_;refine fe 45 #[.int .u8 80,.int .i64 s,.int .i64 r,.agg (aq .u8 8 nc)] ?_;refine(Xt 80 s r nc (by omega) (by omega) _).mono ?_;rintro _ Cf ⟨qu,zU,rfl,ve,mg,tz,nH⟩;have iy:=cM.new nH mg tz;refine fe 42 #[.slice ka kn kc,.slice (some ⟨qu,0,none⟩) (1+1+1+8) zU] ?_;refine(OZ ka kn kc kf qu 0 (1+1+1+8) zU (qt 80 s r nc) kj (by omega) _ (iy.at_ 3 _ rfl) (dD.quiet hk iy.ch) (St.zb (c:=zU) (wr:=true) (t:=5) (fr:=(0,0)) iy 0)).mono ?_;rintro _ Cd ⟨rfl,kl⟩;have qo:=iy.quiet kl;refine store_ qo 1 (.agg (aq .u8 8 (fU kn kf (1+1+1+8) (qt 80 s r nc)))) de 0 ?_;intro zK oN;refine aR (aL (gh ?_));refine fW rfl (fu [.cell 8 38] [.agg (aq .u8 8 (fU kn kf (1+1+1+8) (qt 80 s r nc)))] (.agg (aq .u8 8 (fU kn kf (1+1+1+8) (qt 80 s r nc)))) ⟨lV oN 1 8 de 0,trivial⟩) ?_;exact⟨by(unfold fq)<;>kernel_rfl,oN.ch⟩
theorem afK (ka:Option aI) (kn kc:Nat) (kf:Nat->Int) (s r:Int) (nc:Nat->Int) (kj:1<=kn/\kn<=64) (hs:0<=s/\s<4294967296) (hr:0<=r/\r<4294967296) {tG:aD} (w:ae) (hG:w.heap[1]?=some (.cells (aq .u32 64 cx) tG (0,0))) (hk:dD w ka kn kc kf):
 aQ prog 16 #[.slice ka kn kc,.int .i64 s,.int .i64 r,.agg (aq .u8 8 nc)] w λv w1=>v=.agg (aq .u8 8 (fq kn kf s r nc))/\Ch [] w w1:=Xz ka kn kc kf s r nc (.of kj) hs hr w hG hk
theorem XA (ka:Option aI) (kn kc:Nat) (kf:Nat->Int) (s r:Int) (nc:Nat->Int) (kj:vg ka kn) (hs:0<=s/\s<4294967296) (hr:0<=r/\r<4294967296) {tG:aD} (w:ae) (hG:w.heap[1]?=some (.cells (aq .u32 64 cx) tG (0,0))) (hk:dD w ka kn kc kf):
 aQ prog 37 #[.slice ka kn kc,.int .i64 s,.int .i64 r,.agg (aq .u8 8 nc)] w λv w1=>v=.agg (aq .u8 32 (gQ kn kf s r nc))/\Ch [] w w1:=by
 have S0:=St.given (w:=w) [(1,.cells (aq .u32 64 cx) tG (0,0))] (all_cons hG (all_nil));refine il Tryz.func37 rfl ?_;refine aM (aT ?_);refine ei S0 (λb=>.pointer (some ⟨b,0,none⟩)) (.cells (aq .u8 8 nc) 38) ?_;intro bx gP du;refine ei du (λb=>.pointer (some ⟨b,0,none⟩)) (.cells (aq .u8 32 (λ_=>0)) 37) ?_;intro de lL cM;refine aR (aL (aM (aT ?_)));refine ak (.slice ka kn kc) ?_;refine ak (.int .i64 s) ?_;refine ak (.int .i64 r) ?_;refine jI cM 1 8 (aq .u8 8 nc) bx 0 ?_;refine fe 45 #[.int .u8 75,.int .i64 s,.int .i64 r,.agg (aq .u8 8 nc)] ?_;refine(Xt 75 s r nc (by omega) (by omega) _).mono ?_;rintro _ Cf ⟨qu,zU,rfl,ve,mg,tz,nH⟩;have iy:=cM.new nH mg tz;refine fe 67 #[.slice ka kn kc,.slice (some ⟨qu,0,none⟩) (1+1+1+8) zU] ?_;refine(vh ka kn kc kf qu 0 (1+1+1+8) zU (qt 75 s r nc) kj (by omega) _ (iy.at_ 3 _ rfl) (dD.quiet hk iy.ch) (St.zb (c:=zU) (wr:=true) (t:=5) (fr:=(0,0)) iy 0)).mono ?_;rintro _ Cd ⟨rfl,kl⟩;have qo:=iy.quiet kl;refine store_ qo 1 (.agg (aq .u8 32 (fU kn kf (1+1+1+8) (qt 75 s r nc)))) de 0 ?_;intro zK oN;refine aR (aL (gh ?_));refine fW rfl (fu [.cell 8 37] [.agg (aq .u8 32 (fU kn kf (1+1+1+8) (qt 75 s r nc)))] (.agg (aq .u8 32 (fU kn kf (1+1+1+8) (qt 75 s r nc)))) ⟨lV oN 1 32 de 0,trivial⟩) ?_;exact⟨by(unfold gQ)<;>kernel_rfl,oN.ch⟩
theorem afL (ka:Option aI) (kn kc:Nat) (kf:Nat->Int) (s r:Int) (nc:Nat->Int) (kj:1<=kn/\kn<=64) (hs:0<=s/\s<4294967296) (hr:0<=r/\r<4294967296) {tG:aD} (w:ae) (hG:w.heap[1]?=some (.cells (aq .u32 64 cx) tG (0,0))) (hk:dD w ka kn kc kf):
 aQ prog 37 #[.slice ka kn kc,.int .i64 s,.int .i64 r,.agg (aq .u8 8 nc)] w λv w1=>v=.agg (aq .u8 32 (gQ kn kf s r nc))/\Ch [] w w1:=XA ka kn kc kf s r nc (.of kj) hs hr w hG hk
theorem close_ (k:Nat->Int) (s:Int) (b o m c:Nat) (f:Nat->Int) (hm:m<=50) (hs:0<=s/\s<4294967296) {tG:aD} (w:ae) (hG:w.heap[1]?=some (.cells (aq .u32 64 cx) tG (0,0))) (hB:bV w b o m f):
 aQ prog 47 #[.agg (aq .u8 32 k),.int .i64 s,.slice (some ⟨b,o,none⟩) m c] w λv w1=>∃b c1,v=.slice (some ⟨b,0,none⟩) (m+8) c1/\m+8<=c1/\w.heap.size<=b/\w1.heap[b]?=some (.cells (bw (m+8) (tA k s m f) c1) 5 (0,0))/\Ch [] w w1:=by
 have S0:=St.given (w:=w) [(1,.cells (aq .u32 64 cx) tG (0,0))] (all_cons hG (all_nil));refine il Tryz.func47 rfl ?_;refine aM (aT ?_);refine ei S0 (λb=>.pointer (some ⟨b,0,none⟩)) (.cells (aq .u8 32 k) 37) ?_;intro bx gP du;refine ak (.slice none 0 0) ?_;refine aR (aL (aM ?_));refine yT 9 [⟨0,λ_=>.slice (some ⟨bx,0,none⟩) 32 32,λ_=>[]⟩,⟨1,λids=>.slice (some ⟨(ids.getD 0 0),0,none⟩) 1 1,λids=>[((ids.getD 0 0),.cells #[.int .u8 77] 5 (0,0))]⟩,⟨0,λ_=>.int .i64 s,λ_=>[]⟩,⟨1,λids=>.slice (some ⟨(ids.getD 0 0),0,none⟩) 1 1,λids=>[((ids.getD 0 0),.cells #[.int .u8 ((aU 1 (s%256)) 0)] 5 (0,0))]⟩,⟨0,λ_=>.slice (some ⟨b,o,none⟩) m c,λ_=>[]⟩,⟨3,λids=>.slice (some ⟨(ids.getD 0 0),0,none⟩) 3 3,λids=>[((ids.getD 0 0),.cells #[.slice (some ⟨(ids.getD 1 0),0,none⟩) 1 1,.slice (some ⟨(ids.getD 2 0),0,none⟩) 1 1,.slice (some ⟨b,o,none⟩) m c] 23 (0,0)),((ids.getD 1 0),.cells #[.int .u8 77] 5 (0,0)),((ids.getD 2 0),.cells #[.int .u8 ((aU 1 (s%256)) 0)] 5 (0,0))]⟩,⟨2,λids=>.slice (some ⟨(ids.getD 0 0),0,none⟩) (1+1+m) (ids.getD 1 0),λids=>[((ids.getD 0 0),.cells (bw (1+1+m) (jS 1 1 (λ_=>77) (aU 1 (s%256)) f) (ids.getD 1 0)) 5 (0,0))]⟩,⟨0,λ_=>.agg (aq .u8 8 (fU 32 k (1+1+m) (jS 1 1 (λ_=>77) (aU 1 (s%256)) f))),λ_=>[]⟩,⟨1,λids=>.pointer (some ⟨(ids.getD 0 0),0,none⟩),λids=>[((ids.getD 0 0),.cells (aq .u8 8 (λ_=>0)) 38 (0,0))]⟩] [[9,0],[9,1],[9,2],[9,3],[9,4],[9,5],[9,6],[9,7],[9,8]] ?_ ?_
 ·refine step_cons gL ?_;refine step_cons ?_ ?_
  ·intro Cm lL zQ Xu Cn;have iy:=du.quiet zQ;refine ot ?_;refine lA [] (om) ?_;have Co:=iy.loc;refine Y.ei Co (λb=>.slice (some ⟨b,0,none⟩) 1 1) (.cells #[.int .u8 77] 5) ?_;intro afM O0 zM;exact⟨zM.ch,Sp.oq [afM] (all_cons (zM.uJ zQ.size 0 (by kernel_rfl)) (all_nil))⟩
  refine step_cons gL ?_;refine step_cons ?_ ?_
  ·intro afN Cd XB ato afO;have xy:afN 10=.int .i64 s:=(Sp.dq (afO 2 10 (by kernel_rfl) (by kernel_rfl))).1;have qp:=du.quiet XB;refine ot ?_;refine lA [(10,.int .i64 s)] (lB xy (om)) ?_;have vu:=qp.loc;refine Y.fe 44 #[.int .i64 s,.int .i64 1] ?_;refine(Jr s (by omega) _).mono ?_;rintro _ afn ⟨Jt,rfl,oR,jU,qq⟩;have vw:=vu.new qq oR jU;exact⟨vw.ch,Sp.oq [Jt] (all_cons (vw.uJ XB.size 0 (by kernel_rfl)) (all_nil))⟩
  refine step_cons gL ?_;refine step_cons ?_ ?_
  ·intro Pk Jx XC atp Pm;have afP:=Sp.uI (Pm 1 9 (by kernel_rfl) (by kernel_rfl));obtain⟨Cr,afQ,afR⟩:=afP;have Jy:Pk 9=.slice (some ⟨Cr,0,none⟩) 1 1:=afQ;have XD:∀zp∈([(Cr,.cells #[.int .u8 77] 5 (0,0))]:List (Nat×Obj)),gP.heap.size<=zp.1/\Jx.heap[zp.1]?=some zp.2:=afR;have afS:=Sp.uI (Pm 3 11 (by kernel_rfl) (by kernel_rfl));obtain⟨Cs,afT,afU⟩:=afS;have vx:Pk 11=.slice (some ⟨Cs,0,none⟩) 1 1:=afT;have XE:∀zp∈([(Cs,.cells #[.int .u8 ((aU 1 (s%256)) 0)] 5 (0,0))]:List (Nat×Obj)),gP.heap.size<=zp.1/\Jx.heap[zp.1]?=some zp.2:=afU;have oQ:Pk 12=.slice (some ⟨b,o,none⟩) m c:=(Sp.dq (Pm 4 12 (by kernel_rfl) (by kernel_rfl))).1;have afV:=du.ro XC (([(Cr,.cells #[.int .u8 77] 5 (0,0))]++[(Cs,.cells #[.int .u8 ((aU 1 (s%256)) 0)] 5 (0,0))])) (List.forall_mem_append.2 ⟨XD,XE⟩);refine ot ?_;refine lA [(9,.slice (some ⟨Cr,0,none⟩) 1 1),(11,.slice (some ⟨Cs,0,none⟩) 1 1),(12,.slice (some ⟨b,o,none⟩) m c)] (lB Jy (lB vx (lB oQ (om)))) ?_;have afW:=afV.loc;refine Y.ei afW (λb=>.slice (some ⟨b,0,none⟩) 3 3) (.cells #[.slice (some ⟨Cr,0,none⟩) 1 1,.slice (some ⟨Cs,0,none⟩) 1 1,.slice (some ⟨b,o,none⟩) m c] 23) ?_;intro afX atq xD;exact⟨xD.ch,Sp.oq [afX,Cr,Cs] (all_cons (xD.uJ XC.size 0 (by kernel_rfl)) (all_cons (xD.UQ 1 (XD _ (A9 _)).1 false (by kernel_rfl)) (all_cons (xD.UQ 2 (XE _ (A9 _)).1 false (by kernel_rfl)) (all_nil))))⟩
  refine step_cons ?_ ?_
  ·intro afY afZ XF atr af0;have af1:=Sp.UP (af0 5 13 (by kernel_rfl) (by kernel_rfl));obtain⟨Ct,kF,Fl,af2,af3⟩:=af1;have Ci:afY 13=.slice (some ⟨Ct,0,none⟩) 3 3:=af2;have af4:∀zp∈([(Ct,.cells #[.slice (some ⟨kF,0,none⟩) 1 1,.slice (some ⟨Fl,0,none⟩) 1 1,.slice (some ⟨b,o,none⟩) m c] 23 (0,0)),(kF,.cells #[.int .u8 77] 5 (0,0)),(Fl,.cells #[.int .u8 ((aU 1 (s%256)) 0)] 5 (0,0))]:List (Nat×Obj)),gP.heap.size<=zp.1/\afZ.heap[zp.1]?=some zp.2:=af3;have Jl:=du.ro XF ([(Ct,.cells #[.slice (some ⟨kF,0,none⟩) 1 1,.slice (some ⟨Fl,0,none⟩) 1 1,.slice (some ⟨b,o,none⟩) m c] 23 (0,0)),(kF,.cells #[.int .u8 77] 5 (0,0)),(Fl,.cells #[.int .u8 ((aU 1 (s%256)) 0)] 5 (0,0))]) (af4);refine ot ?_;refine lA [(13,.slice (some ⟨Ct,0,none⟩) 3 3)] (lB Ci (om)) ?_;have Fm:=Jl.loc;refine Y.fe 43 #[.slice (some ⟨Ct,0,none⟩) 3 3] ?_;refine(Xp Ct kF 0 1 1 (λ_=>77) Fl 0 1 1 (aU 1 (s%256)) b o m c f (by omega) (by omega) _ (Fm.at_ 0 _ rfl) (St.eA (N:=1) (f:=(λ_=>77)) (wr:=false) (t:=5) (fr:=(0,0)) Fm 1) (St.eA (N:=1) (f:=(aU 1 (s%256))) (wr:=false) (t:=5) (fr:=(0,0)) Fm 2) (St.kX Fm (St.kX Jl hB (by simp)) (by simp))).mono ?_;rintro _ ae2 ⟨af5,af6,rfl,att,af7,W_,af8⟩;have XG:=Fm.new af8 af7 W_;exact⟨XG.ch,Sp.oq [af5,af6] (all_cons (XG.uJ XF.size 0 (by kernel_rfl)) (all_nil))⟩
  refine step_cons ?_ ?_
  ·intro XH af9 af_ atu XI;have Pg:XH 8=.slice (some ⟨bx,0,none⟩) 32 32:=(Sp.dq (XI 0 8 (by kernel_rfl) (by kernel_rfl))).1;have aga:=Sp.UO (XI 6 14 (by kernel_rfl) (by kernel_rfl));obtain⟨Cu,zV,agb,agc⟩:=aga;have Ph:XH 14=.slice (some ⟨Cu,0,none⟩) (1+1+m) zV:=agb;have agd:∀zp∈([(Cu,.cells (bw (1+1+m) (jS 1 1 (λ_=>77) (aU 1 (s%256)) f) zV) 5 (0,0))]:List (Nat×Obj)),gP.heap.size<=zp.1/\af9.heap[zp.1]?=some zp.2:=agc;have agf:=du.ro af_ ([(Cu,.cells (bw (1+1+m) (jS 1 1 (λ_=>77) (aU 1 (s%256)) f) zV) 5 (0,0))]) (agd);refine ot ?_;refine lA [(8,.slice (some ⟨bx,0,none⟩) 32 32),(14,.slice (some ⟨Cu,0,none⟩) (1+1+m) zV)] (lB Pg (lB Ph (om))) ?_;have Jz:=agf.loc;refine Y.fe 42 #[.slice (some ⟨bx,0,none⟩) 32 32,.slice (some ⟨Cu,0,none⟩) (1+1+m) zV] ?_;refine(OZ (some ⟨bx,0,none⟩) 32 32 k Cu 0 (1+1+m) zV (jS 1 1 (λ_=>77) (aU 1 (s%256)) f) (.of (by omega)) (by omega) _ (Jz.at_ 2 _ rfl) (dD.M_ (St.eA (N:=32) (f:=k) (wr:=false) (t:=37) (fr:=(0,0)) Jz 1) (by omega) (by omega)) (St.zb (c:=zV) (wr:=false) (t:=5) (fr:=(0,0)) Jz 0)).mono ?_;rintro _ atv ⟨rfl,agh⟩;have agi:=Jz.quiet agh;exact⟨agi.ch,Sp.oq [] (all_nil)⟩
  refine step_cons ?_ ?_
  ·intro atw atx XJ aty atz;have agj:=du.quiet XJ;refine ot ?_;refine lA [] (om) ?_;have agk:=agj.loc;refine Y.ei agk (λb=>.pointer (some ⟨b,0,none⟩)) (.cells (aq .u8 8 (λ_=>0)) 38) ?_;intro agl atA XK;exact⟨XK.ch,Sp.oq [agl] (all_cons (XK.uJ XJ.size 0 (by kernel_rfl)) (all_nil))⟩
  exact yS
 intro vy Fo agm vz;have agn:vy 0=.slice (some ⟨bx,0,none⟩) 32 32:=(Sp.dq (vz 0 (by kernel_rfl))).1;have ago:=Sp.uI (vz 1 (by kernel_rfl));obtain⟨Pn,agp,agq⟩:=ago;have agr:vy 1=.slice (some ⟨Pn,0,none⟩) 1 1:=agp;have atC:∀zp∈([(Pn,.cells #[.int .u8 77] 5 (0,0))]:List (Nat×Obj)),gP.heap.size<=zp.1/\Fo.heap[zp.1]?=some zp.2:=agq;have ags:vy 2=.int .i64 s:=(Sp.dq (vz 2 (by kernel_rfl))).1;have agt:=Sp.uI (vz 3 (by kernel_rfl));obtain⟨Po,agu,agv⟩:=agt;have agw:vy 3=.slice (some ⟨Po,0,none⟩) 1 1:=agu;have atD:∀zp∈([(Po,.cells #[.int .u8 ((aU 1 (s%256)) 0)] 5 (0,0))]:List (Nat×Obj)),gP.heap.size<=zp.1/\Fo.heap[zp.1]?=some zp.2:=agv;have agx:vy 4=.slice (some ⟨b,o,none⟩) m c:=(Sp.dq (vz 4 (by kernel_rfl))).1;have agy:=Sp.UP (vz 5 (by kernel_rfl));obtain⟨Pp,XL,XM,agz,agA⟩:=agy;have agB:vy 5=.slice (some ⟨Pp,0,none⟩) 3 3:=agz;have atF:∀zp∈([(Pp,.cells #[.slice (some ⟨XL,0,none⟩) 1 1,.slice (some ⟨XM,0,none⟩) 1 1,.slice (some ⟨b,o,none⟩) m c] 23 (0,0)),(XL,.cells #[.int .u8 77] 5 (0,0)),(XM,.cells #[.int .u8 ((aU 1 (s%256)) 0)] 5 (0,0))]:List (Nat×Obj)),gP.heap.size<=zp.1/\Fo.heap[zp.1]?=some zp.2:=agA;have agC:=Sp.UO (vz 6 (by kernel_rfl));obtain⟨Pq,Pr,agD,agE⟩:=agC;have agF:vy 6=.slice (some ⟨Pq,0,none⟩) (1+1+m) Pr:=agD;have atG:∀zp∈([(Pq,.cells (bw (1+1+m) (jS 1 1 (λ_=>77) (aU 1 (s%256)) f) Pr) 5 (0,0))]:List (Nat×Obj)),gP.heap.size<=zp.1/\Fo.heap[zp.1]?=some zp.2:=agE;have agG:vy 7=.agg (aq .u8 8 (fU 32 k (1+1+m) (jS 1 1 (λ_=>77) (aU 1 (s%256)) f))):=(Sp.dq (vz 7 (by kernel_rfl))).1;have agH:=Sp.uI (vz 8 (by kernel_rfl));obtain⟨zW,agI,agJ⟩:=agH;have agK:vy 8=.pointer (some ⟨zW,0,none⟩):=agI;have XN:∀zp∈([(zW,.cells (aq .u8 8 (λ_=>0)) 38 (0,0))]:List (Nat×Obj)),gP.heap.size<=zp.1/\Fo.heap[zp.1]?=some zp.2:=agJ;have agL:=du.new agm (XN _ (A9 _)).1 (XN _ (A9 _)).2;refine⟨[.slice (some ⟨bx,0,none⟩) 32 32,.slice (some ⟨Pn,0,none⟩) 1 1,.int .i64 s,.slice (some ⟨Po,0,none⟩) 1 1,.slice (some ⟨b,o,none⟩) m c,.slice (some ⟨Pp,0,none⟩) 3 3,.slice (some ⟨Pq,0,none⟩) (1+1+m) Pr,.agg (aq .u8 8 (fU 32 k (1+1+m) (jS 1 1 (λ_=>77) (aU 1 (s%256)) f))),.pointer (some ⟨zW,0,none⟩)],by kernel_rfl,dO agn (dO agr (dO ags (dO agw (dO agx (dO agB (dO agF (dO agG (dO agK (Bo))))))))),?_⟩;refine store_ agL 0 (.agg (aq .u8 8 (fU 32 k (1+1+m) (jS 1 1 (λ_=>77) (aU 1 (s%256)) f)))) zW 0 ?_;intro atH agM;refine aR (aL (aM (aT ?_)));refine dF ?_;refine ak (.slice (some ⟨zW,0,none⟩) 8 8) ?_;refine ei agM (λb=>.slice (some ⟨b,0,none⟩) 2 2) (.cells #[.slice (some ⟨b,o,none⟩) m c,.slice (some ⟨zW,0,none⟩) 8 8] 23) ?_;intro XO atI JA;refine fe 43 #[.slice (some ⟨XO,0,none⟩) 2 2] ?_;refine(afm XO b o m c f zW 0 8 8 (fU 32 k (1+1+m) (jS 1 1 (λ_=>77) (aU 1 (s%256)) f)) (by omega) (by omega) _ (JA.at_ 0 _ rfl) (St.kX JA hB (by simp)) (St.eA (N:=8) (f:=(fU 32 k (1+1+m) (jS 1 1 (λ_=>77) (aU 1 (s%256)) f))) (wr:=true) (t:=38) (fr:=(0,0)) JA 1)).mono ?_;rintro _ atJ ⟨Ps,Fp,rfl,agN,agO,agP,agQ⟩;have Pt:=JA.new agQ agO agP;refine fL ?_;refine aR (aL (gh ?_));refine fW rfl (fu [.tmp 6] [.slice (some ⟨Ps,0,none⟩) (m+8) Fp] (.slice (some ⟨Ps,0,none⟩) (m+8) Fp) ⟨iP,trivial⟩) ?_;have ze:bw (m+8) (ca m f (fU 32 k (1+1+m) (jS 1 1 (λ_=>77) (aU 1 (s%256)) f))) Fp=bw (m+8) (tA k s m f) Fp:=by kernel_rfl
 exact⟨Ps,Fp,by rw[show(m+8)=m+8 by omega],by have:=agN;omega,(Pt.own 0 _ rfl rfl).resolve_left (by simp),by rw[<-ze];exact Pt.at_ 0 _ rfl,Pt.ch⟩
def Fq:cP CG:=λargs bl ch K=>match args,ch with
 |[.raw (.slice (some ⟨b,o,none⟩) n c),.raw (.slice (some ⟨b2,o2,none⟩) n2 c2)],.aX u::_=>(match Cj ch with
  |some (l,r)=>∃f g:Nat->Int,(bV u b o n f/\b2=r.b/\n=n2/\o2+n2<=r.n/\n<=1000000/\∀j,j<n->vo o2 r.f j=g j)/\K (.bool (mh n f g)) bl ch
  |none=>False)
 |_,_=>False
def Fs:cP CG:=λargs bl ch K=>match args,ch with
 |[.agg l,.int .i64 s,.raw (.slice (some ⟨b,o,none⟩) n c)],.aX u::_=>(match k7 l with
  |some r=>∃f k:Nat->Int,(bV u b o n f/\n<=50/\(0<=s/\s<4294967296)/\(∃tG,u.heap[1]?=some (.cells (aq .u32 64 cx) tG (0,0)))/\r.length=32/\∀j,j<32->cZ r j=k j)/\∀b' c',n+8<=c'->K (.raw (.slice (some ⟨b',0,none⟩) (n+8) c')) bl (ch++[.row ⟨n+8,tA k s n f,b',c'⟩])
  |none=>False)
 |_,_=>False
def Ft:cP CG:=λargs bl ch K=>match args,ch with
 |[.sl i 0 1 1],.aX u::_=>(match bl[i]?with
  |some ⟨_,⟨23,(0,0)⟩,[.raw (.slice (some ⟨b,o,none⟩) n c)]⟩=>∃f,(bV u b o n f/\n<=1000000)/\(n=0->K (.raw (.slice none 0 0)) bl ch)/\(0<n->∀b' c',n<=c'->K (.raw (.slice (some ⟨b',0,none⟩) n c')) bl (ch++[.row ⟨n,f,b',c'⟩]))
  |_=>False)
 |_,_=>False
theorem XP {w:ae} {r:R8} {o m:Nat} (h:w.heap[r.b]?=some (.cells (bw r.n r.f r.c) 5 (0,0))) (hm:o+m<=r.n):bV w r.b o m (vo o r.f):=λj hj=>by
 rw[cell_of h,Xf];unfold bw;simp only[iX];rw[gI (by rw[fY];omega)];exact qa _ (by omega)
theorem bV.cg {w:ae} {b o n:Nat} {f g:Nat->Int} (h:bV w b o n f) (e:∀j,j<n->f j=g j):bV w b o n g:=λj hj=>by rw[h j hj,e j hj]
theorem Fu {ids:List Nat} {bl:List VB} {u:ae} {rest:List CG} {R:List ai} {y:ai} (h:y∈dv u):y∈lits ids ids bl++av (CG.aX u::rest) R:=qU _ (mH _ h)
theorem Pu {ids:List Nat} {bl:List VB} {u w w0:ae} {rest:List CG} {R:List ai} {ms:List Nat} (S:St ms w0 (lits ids ids bl++av (CG.aX u::rest) R) w) {i:Nat} {o:Obj} (h:u.heap[i]?=some o):w.heap[i]?=some o:=S.at' (x:=⟨i,false,o⟩) (Fu (Jn h))
theorem agR {gl:Nat->Option Nat}:Sound prog gl 192 Fq:=by
 intro args ids bl ch R ms w0 w K hg hl S hc;unfold Fq at hc;split at hc
 ·rename_i b o n c b2 o2 n2 c2 u rest;split at hc
  ·rename_i l r Fe;obtain⟨f,g,⟨h8,rfl,rfl,hle,hn,hgj⟩,hK⟩:=hc;have S1:=S;rw[Jo Fe]at S1;refine(Xb b o n c r.b o2 c2 f g hn w (Jq S (λy hy=>Fu hy) h8) (bV.cg (XP (Fh S1) hle) hgj)).mono ?_;rintro v w' ⟨rfl,bT⟩;exact⟨.bool (mh n f g),[],bl,_,rfl,by simpa using hl,by simpa using S.quiet bT,hK⟩
  ·exact hc.elim
 ·exact hc.elim
theorem agS:gO Fq:=by
 intro args bl ch K hc;unfold Fq at hc⊢;split at hc
 ·split at hc
  ·obtain⟨f,g,h,hK⟩:=hc;rename_i e;try simp only[e]
   exact⟨f,g,h,hK,[],by simp⟩
  ·exact hc.elim
 ·exact hc.elim
theorem XQ {ids:List Nat} {bl:List VB} {ch:List CG} {R:List ai} {ms:List Nat} {w0 w w':ae} {n b c:Nat} {f:Nat->Int} (S:St ms w0 (lits ids ids bl++av ch R) w) (bT:Ch [] w w') (eo:w.heap.size<=b) (aK:w'.heap[b]?=some (.cells (bw n f c) 5 (0,0))):St ms w0 (lits ids ids bl++av (ch++[.row ⟨n,f,b,c⟩]) R) w':=by
 rw[Fb];rw[O1]at S;exact S.sQ (bl':=[⟨b,true,.cells (bw n f c) 5 (0,0)⟩]) (λy hy=>nomatch hy) bT (λy hy=>by
  obtain rfl:=i_.1 hy;exact aK) (λy hy=>by
  obtain rfl:=i_.1 hy;exact .inr eo) (by simp)
theorem agT {gl:Nat->Option Nat}:Sound prog gl 47 Fs:=by
 intro args ids bl ch R ms w0 w K hg hl S hc;unfold Fs at hc;split at hc
 ·rename_i l s b o n c u rest;split at hc
  ·rename_i r hr;obtain⟨f,k,⟨h8,hn,hs,⟨tG,hG⟩,hq,hk⟩,hK⟩:=hc;have ea:(aA ids [.agg l,.int .i64 s,.raw (.slice (some ⟨b,o,none⟩) n c)]).toArray=#[.agg (aq .u8 32 k),.int .i64 s,.slice (some ⟨b,o,none⟩) n c]:=by
    simp only[aA,den,xA ids hr,hq];rw[Ef hk];rfl
   rw[ea];refine(close_ k s b o n c f hn hs w (Pu S hG) (Jq S (λy hy=>Fu hy) h8)).mono ?_;rintro v w' ⟨b2,c2,rfl,hle,eo,aK,bT⟩;exact⟨_,[],bl,_,rfl,by simpa using hl,by simpa using XQ S bT eo aK,hK b2 c2 hle⟩
  ·exact hc.elim
 ·exact hc.elim
theorem agU:gO Fs:=by
 intro args bl ch K hc;unfold Fs at hc⊢;split at hc
 ·split at hc
  ·obtain⟨f,k,h,hK⟩:=hc;exact⟨f,k,h,λb c h=>⟨hK b c h,[],by simp⟩⟩
  ·exact hc.elim
 ·exact hc.elim
theorem agV {gl:Nat->Option Nat}:Sound prog gl 43 Ft:=by
 intro args ids bl ch R ms w0 w K hg hl S hc;unfold Ft at hc;split at hc
 ·rename_i i u rest;split at hc
  ·rename_i wr b o n c hb;obtain⟨f,⟨h8,hn⟩,rL,O3⟩:=hc;have aK:=(fp hl S hb).2
   let ps:List JP:=[((b,o,n,c),f)]
   have et:fF ps 0=n:=by show 0+n=_;rw[eh]
   refine(Js (k:=1) (ps:=ps) (z:=λ_=>0) (λK=>afh w K (b,o,n,c)) aK (by rw[et];exact hn) (λq hq=>by
    rcases bY.1 hq with rfl|hq
    ·exact Jq S (λy hy=>Fu hy) h8
    cases hq)).mono ?_
   rintro v w' ⟨bT,⟨h,rfl⟩|⟨h0,b',c',rfl,h1,h2,h3⟩⟩
   ·exact⟨_,[],bl,_,rfl,by simpa using hl,by simpa using S.quiet bT,rL (by rw[<-et];exact h)⟩
   ·have ec:k8 ps 0 (λ_=>0)=f:=by
     simp only[ps,k8,eh,zN 0]
    rw[et]at h1 h3⊢;rw[ec]at h3;rw[et]at h0;exact⟨_,[],bl,_,rfl,by simpa using hl,by simpa using XQ S bT h2 h3,O3 h0 b' c' h1⟩
  ·exact hc.elim
 ·exact hc.elim
theorem agW:gO Ft:=by
 intro args bl ch K hc;unfold Ft at hc⊢;split at hc
 ·split at hc
  ·obtain⟨f,h,h0,h1⟩:=hc;exact⟨f,h,λe=>⟨h0 e,[],by simp⟩,λe b c h=>⟨h1 e b c h,[],by simp⟩⟩
  ·exact hc.elim
 ·exact hc.elim
def Pv:List (bK CG):=[⟨47,true,Fs⟩,⟨192,true,Fq⟩,⟨43,true,Ft⟩]
theorem agX:aG prog cR Pv:=aG.cons ⟨agT,λ_=>agU⟩ (aG.cons ⟨agR,λ_=>agS⟩ (aG.cons ⟨agV,λ_=>agW⟩ aG.nil))
def XR (u:ae) (k:Nat->Int) (s:Int) (b o n c:Nat) (K:VK CG):Prop:=
 let q:=i64.wrap ((n:Int)-8)
 let no (ch:List CG):Prop:=K (.ao [.raw (.slice none 0 0),.int .i64 14]) [] (.aX u::ch)
 cond (decide (q<0)) (no []) ((0<=q/\q<=(c:Int))/\∃f kk:Nat->Int,(bV u b o q.toNat f/\q.toNat<=50/\(0<=s/\s<4294967296)/\(∃tG,u.heap[1]?=some (.cells (aq .u32 64 cx) tG (0,0)))/\((bh 32).map k).length=32/\∀j,j<32->cZ ((bh 32).map k) j=kk j)/\
  ∀b1 c1:Nat,q.toNat+8<=c1->∃f2 g2:Nat->Int,(bV u b o n f2/\b1=b1/\n=q.toNat+8/\0+(q.toNat+8)<=q.toNat+8/\n<=1000000/\∀j,j<n->tA kk s q.toNat f j=g2 j)/\
   cond (!(mh n f2 g2)) (no [.row ⟨q.toNat+8,tA kk s q.toNat f,b1,c1⟩]) ((0<=q/\q<=(c:Int))/\∃f3:Nat->Int,(bV u b o q.toNat f3/\q.toNat<=1000000)/\
    (q.toNat=0->K (.ao [.raw (.slice none 0 0),.int .i64 0]) [] [.aX u,.row ⟨q.toNat+8,tA kk s q.toNat f,b1,c1⟩])/\
    (0<q.toNat->∀b2 c2:Nat,q.toNat<=c2->K (.ao [.raw (.slice (some ⟨b2,0,none⟩) q.toNat c2),.int .i64 0]) [] [.aX u,.row ⟨q.toNat+8,tA kk s q.toNat f,b1,c1⟩,.row ⟨q.toNat,f3,b2,c2⟩])))
theorem agY (u:ae) (k:Nat->Int) (s:Int) (b o n c:Nat) (K:VK CG):mi Pv 150 [.agg (ints 32 k),.int .i64 s,.raw (.slice (some ⟨b,o,none⟩) n c)] [] [.aX u] (bm 0 K)=XR u k s b o n c K:=by kernel_rfl
theorem xE {L:List (bK CG)} (hL:aG prog cR L) {f:eN} {args:List V} {K:VK CG} {w:ae} (h:mi L f args [] [.aX w] (bm 0 K)):aQ prog f (aA [] args).toArray w λv w'=>∃x ids bl ch,v=den ids x/\ids.length=bl.length/\St [] w (lits ids ids bl++av ch []) w'/\K x bl ch:=by
 refine(eD hL.T hL.Q 60 (C:=fE prog cR L Fa O2) (ids:=[]) (bl:=[]) (ch:=[.aX w]) (R:=[]) (λg i h=>by cases h) rfl (Xe w) h).mono ?_;rintro v w' ⟨x,more,bl',ch',rfl,h1,S',hK⟩;obtain⟨v2,cD,bl2,hv,dw,S2,oO⟩:=h_ (n0:=0) h1 (Nat.zero_le _) S' hK;exact⟨v2,_,bl2,ch',hv,dw,S2,oO⟩
theorem zX {k:Nat->Int} {n j:Nat} (h:j<n):cZ ((bh n).map k) j=k j:=by
 unfold cZ;simp[ij,mF h]
theorem XS (k:Nat->Int) (s:Int) (a:Option aI) (n c:Nat):(aA [] [.agg (ints 32 k),.int .i64 s,.raw (.slice a n c)]).toArray=#[.agg (aq .u8 32 k),.int .i64 s,.slice a n c]:=by
 simp only[aA,den,xB]
theorem XT (k:Nat->Int) (s:Int) (a:Option aI) (n c:Nat) (hn:n<8) (w:ae):
 aQ prog 150 #[.agg (aq .u8 32 k),.int .i64 s,.slice a n c] w λv w1=>v=.tuple #[.slice none 0 0,.int .i64 14]/\Ch [] w w1:=by
 have h:mi [] 150 [.agg (ints 32 k),.int .i64 s,.raw (.slice a n c)] [] [.aX w] (bm 0 λv _ _=>v=.ao [.raw (.slice none 0 0),.int .i64 14]):=by
  have e:∀K:VK CG,mi [] 150 [.agg (ints 32 k),.int .i64 s,.raw (.slice a n c)] [] [.aX w] (bm 0 K)=K (.ao [.raw (.slice none 0 0),.int .i64 14]) [] [.aX w]:=by
   intro K;rcases(by omega:n=0\/n=1\/n=2\/n=3\/n=4\/n=5\/n=6\/n=7)with rfl|rfl|rfl|rfl|rfl|rfl|rfl|rfl<;>kernel_rfl
  rw[e]
 rw[<-XS];refine(xE aG.nil h).mono ?_;rintro v w' ⟨x,ids,bl,ch,rfl,hl,S,rfl⟩;exact⟨rfl,S.ch⟩
theorem XU (k:Nat->Int) (s:Int) (b o m c:Nat) (f:Nat->Int) (hm:m<=50) (hc:m+8<=c) (hs:0<=s/\s<4294967296) {tG:aD} (w:ae) (hG:w.heap[1]?=some (.cells (aq .u32 64 cx) tG (0,0))) (hB:bV w b o (m+8) f):
 aQ prog 150 #[.agg (aq .u8 32 k),.int .i64 s,.slice (some ⟨b,o,none⟩) (m+8) c] w λv w1=>(lO k s m f=false/\v=.tuple #[.slice none 0 0,.int .i64 14]/\Ch [] w w1)\/(lO k s m f=true/\∃x1 c1 jC,v=.tuple #[.slice x1 m c1,.int .i64 0]/\eA 5 m f x1 c1 jC/\St [] w jC w1):=by
 have h:mi Pv 150 [.agg (ints 32 k),.int .i64 s,.raw (.slice (some ⟨b,o,none⟩) (m+8) c)] [] [.aX w] (bm 0 λv bl ch=>bl=[]/\((lO k s m f=false/\v=.ao [.raw (.slice none 0 0),.int .i64 14])\/(lO k s m f=true/\((m=0/\v=.ao [.raw (.slice none 0 0),.int .i64 0])\/∃l b2 c2,0<m/\m<=c2/\v=.ao [.raw (.slice (some ⟨b2,0,none⟩) m c2),.int .i64 0]/\ch=l++[.row ⟨m,f,b2,c2⟩])))):=by
  rw[agY];unfold XR;have e:i64.wrap (((m+8:Nat):Int)-8)=(m:Int):=by simp[sE,pJ,pL];omega
  dsimp only;rw[e,ux];refine aH (λh=>absurd (of_decide_eq_true h) (by omega)) λ_=>⟨⟨by omega,by omega⟩,f,k,⟨hB.cut (by omega),hm,hs,⟨tG,hG⟩,by simp,λj hj=>zX hj⟩,λb1 c1 h1=>⟨f,tA k s m f,⟨hB,rfl,rfl,by omega,by omega,λ_ _=>rfl⟩,aH (λh=>⟨rfl,.inl ⟨(by unfold lO;simpa using h),rfl⟩⟩) λh=>⟨⟨by omega,by omega⟩,f,⟨hB.cut (by omega),by omega⟩,λh0=>⟨rfl,.inr ⟨(by unfold lO;simpa using h),.inl ⟨h0,rfl⟩⟩⟩,λh0 b2 c2 h2=>⟨rfl,.inr ⟨(by unfold lO;simpa using h),.inr ⟨[.aX w,.row ⟨m+8,tA k s m f,b1,c1⟩],b2,c2,h0,h2,rfl,rfl⟩⟩⟩⟩⟩⟩
 rw[<-XS];refine(xE agX h).mono ?_;rintro v w' ⟨x,ids,bl,ch,rfl,hl,S,rfl,⟨h0,rfl⟩|⟨h0,⟨rfl,rfl⟩|⟨l,b2,c2,h1,h2,rfl,rfl⟩⟩⟩
 ·exact .inl ⟨h0,rfl,S.ch⟩
 ·exact .inr ⟨h0,none,0,[],rfl,⟨dE _,.inl ⟨rfl,rfl,rfl,rfl⟩⟩,by simpa using(St.nil [] w).quiet S.ch⟩
 ·exact .inr ⟨h0,some ⟨b2,0,none⟩,c2,_,rfl,⟨h2,.inr ⟨b2,rfl,rfl⟩⟩,(St.nil [] w).new S.ch (O9 S) (Fh S)⟩
theorem agZ (k:Nat->Int) (s:Int) (b o m c:Nat) (f:Nat->Int) (hm:m<=50) (hc:m+8<=c) (hs:0<=s/\s<4294967296) (ho:lO k s m f=false) {tG:aD} (w:ae) (hG:w.heap[1]?=some (.cells (aq .u32 64 cx) tG (0,0))) (hB:bV w b o (m+8) f):
 aQ prog 150 #[.agg (aq .u8 32 k),.int .i64 s,.slice (some ⟨b,o,none⟩) (m+8) c] w λv w1=>v=.tuple #[.slice none 0 0,.int .i64 14]/\Ch [] w w1:=
 (XU k s b o m c f hm hc hs w hG hB).mono λv w1 h=>h.elim (λh=>h.2) λh=>by rw[ho]at h;cases h.1
theorem ag0 (k:Nat->Int) (s:Int) (b o m c:Nat) (f:Nat->Int) (hm:m<=50) (hc:m+8<=c) (hs:0<=s/\s<4294967296) (ho:lO k s m f=true) {tG:aD} (w:ae) (hG:w.heap[1]?=some (.cells (aq .u32 64 cx) tG (0,0))) (hB:bV w b o (m+8) f):
 aQ prog 150 #[.agg (aq .u8 32 k),.int .i64 s,.slice (some ⟨b,o,none⟩) (m+8) c] w λv w1=>∃x1 c1 jC,v=.tuple #[.slice x1 m c1,.int .i64 0]/\eA 5 m f x1 c1 jC/\St [] w jC w1:=
 (XU k s b o m c f hm hc hs w hG hB).mono λv w1 h=>h.elim (λh=>by rw[ho]at h;cases h.1) λh=>h.2
def jV (p:Sd.aJ) (ka:Nat->Option aI) (kn kc:Nat->Nat):Array ab:=#[.int .i64 (p.i 0),.int .i64 (p.i 1),.int .i64 (p.i 2),.int .i64 (p.i 3),.int .i64 (p.i 4),.slice (ka 0) (kn 0) (kc 0),.slice (ka 1) (kn 1) (kc 1),.slice (ka 2) (kn 2) (kc 2),.slice (ka 3) (kn 3) (kc 3),.int .i64 (p.i 9),.int .i64 (p.i 10),.int .i64 (p.i 11),.int .i64 (p.i 12),.int .i64 (p.i 13),.int .i64 (p.i 14),.int .i64 (p.i 15),.int .i64 (p.i 16),.int .i64 (p.i 17),.int .i64 (p.i 18),.int .i64 (p.i 19),.int .i64 (p.i 20),.int .i64 (p.i 21),.int .i64 (p.i 22),.int .i64 (p.i 23),.int .i64 (p.i 24),.int .i64 (p.i 25),.int .i64 (p.i 26),.int .i64 (p.i 27),.int .i64 (p.i 28),.int .i64 (p.i 29),.int .i64 (p.i 30),.int .i64 (p.i 31),.int .i64 (p.i 32),.int .i64 (p.i 33),.int .i64 (p.i 34),.int .i64 (p.i 35),.int .i64 (p.i 36),.int .i64 (p.i 37),.int .i64 (p.i 38),.int .i64 (p.i 39),.int .i64 (p.i 40),.int .i64 (p.i 41),.int .i64 (p.i 42),.int .i64 (p.i 43),.int .i64 (p.i 44),.int .i64 (p.i 45),.int .i64 (p.i 46),.int .i64 (p.i 47),.int .i64 (p.i 48),.int .i64 (p.i 49),.int .i64 (p.i 50),.int .i64 (p.i 51),.int .i64 (p.i 52),.int .i64 (p.i 53),.int .i64 (p.i 54),.int .i64 (p.i 55)]
def vA (t:Sd.Timer):Array ab:=#[.int .i64 t.n,.int .i64 t.most]
def XV (t:Sd.X4):Array ab:=#[.int .i64 t.a,.int .i64 t.b,.int .i64 t.c,.int .i64 t.d]
def XW (t:Sd.Label):Array ab:=#[.int .i64 t.lY,.int .i64 t.source,.int .i64 t.seq]
def gm (t:Sd.Tok):Array ab:=#[.int .i64 t.aE,.int .i64 t.af,.int .i64 t.offer,.int .i64 t.oa.n,.int .i64 t.oa.most,.int .i64 t.la.n,.int .i64 t.la.most,.bool t.bad]
def Cv (t:Sd.eu):Array ab:=#[.int .i64 t.cls,.int .i64 t.aV.a,.int .i64 t.aV.b,.int .i64 t.aV.c,.int .i64 t.aV.d,.int .i64 t.now.a,.int .i64 t.now.b,.int .i64 t.now.c,.int .i64 t.now.d,.int .i64 t.bG.lY,.int .i64 t.bG.source,.int .i64 t.bG.seq]
def ag1 (t:Sd.mO):Array ab:=#[.bool t.valid,.int .i64 t.x.a,.int .i64 t.x.b,.int .i64 t.x.c,.int .i64 t.x.d,.bool t.Is]
def iz (t:Sd.gi):Array ab:=#[.bool t.any,.int .i64 t.high,.int .u64 t.seen]
def Fv (t:Sd.Ask):Array ab:=#[.int .i64 t.source,.int .i64 t.bD,.int .i64 t.fZ.n,.int .i64 t.fZ.most]
def recC (t:Sd.Rec):Array ab:=#[.int .i64 t.kind,.int .i64 t.source,.int .i64 t.seq,.int .i64 t.af,.int .i64 t.code,.int .i64 t.how]
theorem ag2 (s i:Int) (h0:0<=s) (h1:0<=i) (h2:i<=62):((iM s (2^(min (i).toNat 64)))%2==1)=Sd.has s i:=by
 have e:min i.toNat 64=i.toNat:=by omega
 have h3:(0:Int)<=2^i.toNat:=Int.le_of_lt (Int.pow_pos (by omega));rw[e,sL _ h3];simp[Sd.has,h0,h1,h2];exact Bool.eq_iff_iff.2 (by simp)
def eK (p:Sd.aJ) (ka:Nat->Option aI) (kn kc:Nat->Nat):List V:=(bh 56).map λo=>bif bA 5 o&&bA o 8 then .raw (.slice (ka (o-5)) (kn (o-5)) (kc (o-5)))else .int .i64 (p.i o)
def tF (n m:Int):List V:=[.int .i64 n,.int .i64 m]
def dM (t:Sd.Tok):List V:=[.int .i64 t.aE,.int .i64 t.af,.int .i64 t.offer,.int .i64 t.oa.n,.int .i64 t.oa.most,.int .i64 t.la.n,.int .i64 t.la.most,.bool t.bad]
def rM (x:Sd.X4):List V:=[.int .i64 x.a,.int .i64 x.b,.int .i64 x.c,.int .i64 x.d]
def vB (t:Sd.Label):List V:=[.int .i64 t.lY,.int .i64 t.source,.int .i64 t.seq]
def jE (t:Sd.eu):List V:=.int .i64 t.cls::(rM t.aV++(rM t.now++vB t.bG))
theorem iw {x:Int} (h:-9223372036854775808<=x/\x<=9223372036854775807):i64.wrap x=x:=by simp[sE,pJ,pL];omega
theorem gB {L:List QF} {n f:Nat} {xs:List V} {v:V} {args:Array ab} {x:ab} {w:ae} (hL:bF prog (λ_=>none) L) (h:dL prog L n f xs (·=v)) (ha:args=(aA [] xs).toArray:=by kernel_rfl) (hx:x=den [] v:=by kernel_rfl) (h1:ba 0 xs=true:=by kernel_rfl) (h2:cz 0 v=true:=by kernel_rfl):
 aQ prog f args w λy w1=>y=x/\Ch [] w w1:=by subst ha hx;exact zB hL n h h1 h2 [] w
theorem ag3 (n m:Int) (X:V->Prop):dL prog [] 30 78 [.int .i64 n,.int .i64 m] X=cond (decide (n<m)) (X (.int .i64 (i64.wrap (n+1)))) (X (.int .i64 m)):=by kernel_rfl
theorem ag4 (n:Int) (m:Int) (XY:-9223372036854775808<=n/\n<=9223372036854775807) (Fw:-9223372036854775808<=m/\m<=9223372036854775807) (w:ae):
 aQ prog 78 #[.int .i64 n,.int .i64 m] w λv w1=>v=.int .i64 (Sd.sat n m)/\Ch [] w w1:=by
 refine gB bF.nil (n:=30) (xs:=[.int .i64 n,.int .i64 m]) (v:=.int .i64 (Sd.sat n m)) ?_;rw[ag3];unfold Sd.sat;refine aH (λh=>?_) (λh=>?_)
 ·have h:n<m:=by simpa using h
  rw[if_pos h,iw (by omega)]
 ·rw[if_neg (by simpa using h)]
theorem ag5 (n m k:Int) (X:V->Prop):dL prog [] 30 183 [.int .i64 n,.int .i64 m,.int .i64 k] X=cond (decide (n<m)) (X (.int .i64 m)) (cond (decide (n>k)) (X (.int .i64 k)) (X (.int .i64 n))):=by kernel_rfl
theorem XZ (n:Int) (lo:Int) (hi:Int) (w:ae):
 aQ prog 183 #[.int .i64 n,.int .i64 lo,.int .i64 hi] w λv w1=>v=.int .i64 (Sd.sV n lo hi)/\Ch [] w w1:=by
 refine gB bF.nil (n:=30) (xs:=[.int .i64 n,.int .i64 lo,.int .i64 hi]) (v:=.int .i64 (Sd.sV n lo hi)) ?_;rw[ag5];unfold Sd.sV;exact aH (λh=>by rw[if_pos (by simpa using h)]) (λh=>by
  rw[if_neg (by simpa using h)];exact aH (λh=>by rw[if_pos (by simpa using h)]) (λh=>by rw[if_neg (by simpa using h)]))
def tw (a b:Int):Int:=u64.wrap (u64.wrap a-u64.wrap b)
theorem X0 {a b:Int} (h0:0<=a-b) (h1:a-b<18446744073709551616):tw a b=a-b:=by unfold tw;rw[qW,qW,qW];omega
theorem ag6 {a:Int} (h0:0<=a) (h1:a<18446744073709551616):u64.wrap a=a:=by rw[qW];omega
theorem ag7 (nw t b:Int) (X:V->Prop):dL prog [] 30 142 [.int .i64 nw,.int .i64 t,.int .i64 b] X=cond (decide (b<1)) (X (.int .i64 nw)) (cond (decide (t>=nw)) (cond (decide (tw t nw<=u64.wrap b)) (X (.int .i64 t)) (X (.int .i64 (i64.wrap (nw+b)))))
 (cond (decide (tw nw t<=u64.wrap b)) (X (.int .i64 t)) (X (.int .i64 (i64.wrap (nw-b)))))):=by kernel_rfl
theorem X1 (nw:Int) (t:Int) (b:Int) (X2:-9223372036854775808<=nw/\nw<=9223372036854775807) (X3:-9223372036854775808<=t/\t<=9223372036854775807) (X5:-9223372036854775808<=b/\b<=9223372036854775807) (w:ae):
 aQ prog 142 #[.int .i64 nw,.int .i64 t,.int .i64 b] w λv w1=>v=.int .i64 (Sd.qb nw t b)/\Ch [] w w1:=by
 refine gB bF.nil (n:=30) (xs:=[.int .i64 nw,.int .i64 t,.int .i64 b]) (v:=.int .i64 (Sd.qb nw t b)) ?_;rw[ag7];unfold Sd.qb;refine aH (λh=>by rw[if_pos (by simpa using h)]) (λh=>?_);have h1:¬b<1:=by simpa using h
 rw[if_neg h1,ag6 (by omega) (by omega)];refine aH (λh=>?_) (λh=>?_)
 ·have h2:nw<=t:=by simpa using h
  rw[if_pos h2,X0 (by omega) (by omega)];refine aH (λh=>by rw[if_pos (by simpa using h)]) (λh=>?_);have h3:¬t-nw<=b:=by simpa using h
  rw[if_neg h3,iw (by omega)]
 ·have h2:¬nw<=t:=by simpa using h
  rw[if_neg h2,X0 (by omega) (by omega)];refine aH (λh=>by rw[if_pos (by simpa using h)]) (λh=>?_);have h3:¬nw-t<=b:=by simpa using h
  rw[if_neg h3,iw (by omega)]
def hv (n:Int) (m:Nat):Int:=let a:=jq i64.bits (n.fdiv (2^min m i64.bits));let b:=jq i64.bits 1;i64.wrap ↑(a&&&b).toNat
theorem ag8 (n:Int) (m:Nat) (X:V->Prop):dL prog [] 30 189 [.int .i64 n,.int .i64 (.ofNat m)] X=cond (decide (n<0)) (X (.bool false)) (cond (decide (cU m>62)) (X (.bool false)) (X (.bool (hv n m==1)))):=by kernel_rfl
theorem ag9 (n:Int) (m:Nat) (X:V->Prop):dL prog [] 30 189 [.int .i64 n,.int .i64 (.negSucc m)] X=cond (decide (n<0)) (X (.bool false)) (cond (decide (Int.negSucc m<0)) (X (.bool false)) False):=by kernel_rfl
theorem X6 (s:Int) (i:Int) (w:ae):
 aQ prog 189 #[.int .i64 s,.int .i64 i] w λv w1=>v=.bool (Sd.has s i)/\Ch [] w w1:=by
 refine gB bF.nil (n:=30) (xs:=[.int .i64 s,.int .i64 i]) (v:=.bool (Sd.has s i)) ?_;cases i with
 |ofNat m=>
  rw[ag8];refine aH (λh=>?_) (λh=>aH (λh'=>?_) λh'=>?_)
  ·have h:s<0:=by simpa using h
   congr 1;simp[Sd.has];omega
  ·have h':(m:Int)>62:=by simpa using h'
   congr 1;simp[Sd.has];omega
  ·have h:¬s<0:=by simpa using h
   have h':¬(m:Int)>62:=by simpa using h'
   have em:cU m=(m:Int):=rfl;rw[<-ag2 s (.ofNat m) (by omega) (by omega) (by omega)];exact congrArg (λz:Int=>V.bool (z==1)) (pN .i64 (iM s (2^(min m 64))) 1 2 1 (by decide) (by decide) (by decide))
 |negSucc m=>
  rw[ag9];have e:Sd.has s (.negSucc m)=false:=by simp[Sd.has]
  rw[e];exact aH (λ_=>rfl) λ_=>aH (λ_=>rfl) λh=>absurd (of_decide_eq_false h) (by omega)
theorem X7 (m:Int) (X:V->Prop):dL prog [] 30 179 [.int .i64 m] X=X (.agg (tF 0 (if 0>m then 0 else m))):=by kernel_rfl
theorem Fx (b:Int):Sd.Timer.start b=⟨0,if 0>b then 0 else b⟩:=by
 unfold Sd.Timer.start;congr 1;by_cases h:0>b
 ·rw[if_pos h];omega
 ·rw[if_neg h];omega
theorem ag_ (m:Int) (Fw:-9223372036854775808<=m/\m<=9223372036854775807) (w:ae):
 aQ prog 179 #[.int .i64 m] w λv w1=>v=.agg (vA (Sd.Timer.start m))/\Ch [] w w1:=by
 rw[Fx];refine gB bF.nil (n:=30) (xs:=[.int .i64 m]) (v:=.agg (tF 0 (if 0>m then 0 else m))) ?_;rw[X7]
theorem aha (t:Sd.Timer) (X:V->Prop):dL prog [] 30 138 [.agg (tF t.n t.most)] X=cond (decide (t.n<t.most)) (X (.agg (tF (i64.wrap (t.n+1)) t.most))) (X (.agg (tF t.most t.most))):=by kernel_rfl
theorem X8 (t:Sd.Timer) (X9:-9223372036854775808<=t.n/\t.n<=9223372036854775807) (X_:-9223372036854775808<=t.most/\t.most<=9223372036854775807) (w:ae):
 aQ prog 138 #[.agg (vA t)] w λv w1=>v=.agg (vA (Sd.Timer.step t))/\Ch [] w w1:=by
 refine gB bF.nil (n:=30) (xs:=[.agg (tF t.n t.most)]) (v:=.agg (tF (Sd.sat t.n t.most) t.most)) ?_;rw[aha];unfold Sd.sat;refine aH (λh=>?_) (λh=>?_)
 ·have h:t.n<t.most:=by simpa using h
  rw[if_pos h,iw (by omega)]
 ·rw[if_neg (by simpa using h)]
theorem ahb (t:Sd.Timer) (X:V->Prop):dL prog [] 30 139 [.agg (tF t.n t.most)] X=X (.bool (decide (t.n>=t.most))):=by kernel_rfl
theorem Ya (t:Sd.Timer) (w:ae):
 aQ prog 139 #[.agg (vA t)] w λv w1=>v=.bool (Sd.Timer.due t)/\Ch [] w w1:=by
 refine gB bF.nil (n:=30) (xs:=[.agg (tF t.n t.most)]) (v:=.bool t.due) ?_;rw[ahb];rfl
theorem ahc (t:Sd.Tok) (o:Int) (X:V->Prop):dL prog [] 30 130 [.agg (dM t),.int .i64 o] X=cond (decide (o<0)) (X (.ao [.agg (dM t),.int .i64 1])) (cond (decide (o>=5)) (X (.ao [.agg (dM t),.int .i64 1])) (cond (o==t.aE) (X (.ao [.agg (dM t),.int .i64 25]))
 (cond (decide (t.af>=65535)) (X (.ao [.agg (dM t),.int .i64 24])) (X (.ao [.agg (dM (t.pass o (i64.wrap (t.af+1)))),.int .i64 0]))))):=by kernel_rfl
theorem ahd (t:Sd.Tok) (o:Int) (tH:-9223372036854775808<=t.af/\t.af<=9223372036854775807) (w:ae):
 aQ prog 130 #[.agg (gm t),.int .i64 o] w λv w1=>v=.tuple #[.agg (gm ((Sd.Tok.c9 t o).1)),.int .i64 ((Sd.Tok.c9 t o).2)]/\Ch [] w w1:=by
 refine gB bF.nil (n:=30) (xs:=[.agg (dM t),.int .i64 o]) (v:=.ao [.agg (dM (t.c9 o).1),.int .i64 (t.c9 o).2]) ?_;rw[ahc];unfold Sd.Tok.c9;refine aH (λh=>by rw[if_pos (.inl (by simpa using h))]) (λh=>aH (λh'=>by rw[if_pos (.inr (by simpa using h'))]) λh'=>?_);have h1:¬(o<0\/5<=o):=by simp at h h';omega
 rw[if_neg h1];refine aH (λh=>by rw[if_pos (by simpa using h)]) (λh=>?_);rw[if_neg (by simpa using h)];refine aH (λh=>by rw[if_pos (by simpa using h)]) (λh=>?_);have h2:¬65535<=t.af:=by simpa using h
 rw[if_neg h2,iw (by omega)]
theorem ahe (t:Sd.Tok) (X:V->Prop):dL prog [] 30 84 [.agg (dM t)] X=cond (t.aE !=4) (cond (decide (t.af<65535)) (X (.agg (dM (t.pass 4 (i64.wrap (t.af+1)))))) (X (.agg (dM (t.pass 4 65535))))) (X (.agg (dM (t.pass 4 t.af)))):=by kernel_rfl
theorem ahf (t:Sd.Tok) (tH:-9223372036854775808<=t.af/\t.af<=9223372036854775807) (w:ae):
 aQ prog 84 #[.agg (gm t)] w λv w1=>v=.agg (gm (Sd.Tok.jv t))/\Ch [] w w1:=by
 refine gB bF.nil (n:=30) (xs:=[.agg (dM t)]) (v:=.agg (dM t.jv)) ?_;rw[ahe];unfold Sd.Tok.jv Sd.sat;refine aH (λh=>?_) (λh=>by rw[if_neg (by simpa using h)]);rw[if_pos (by simpa using h)];refine aH (λh=>?_) (λh=>by rw[if_neg (by simpa using h)]);have h2:t.af<65535:=by simpa using h
 rw[if_pos h2,iw (by omega)]
theorem ahg (t:Sd.Tok) (X:V->Prop):dL prog [] 30 137 [.agg (dM t)] X=X (.bool (decide (t.offer>=0))):=by kernel_rfl
theorem open_ (t:Sd.Tok) (w:ae):
 aQ prog 137 #[.agg (gm t)] w λv w1=>v=.bool (decide (0<=t.offer))/\Ch [] w w1:=by
 refine gB bF.nil (n:=30) (xs:=[.agg (dM t)]) (v:=.bool (decide (0<=t.offer))) ?_;rw[ahg]
theorem ahh (t:Sd.Tok) (X:V->Prop):dL prog [] 30 140 [.agg (dM t)] X=X (.agg (dM t.gX)):=by kernel_rfl
theorem Pw (t:Sd.Tok) (w:ae):
 aQ prog 140 #[.agg (gm t)] w λv w1=>v=.agg (gm (Sd.Tok.gX t))/\Ch [] w w1:=by
 refine gB bF.nil (n:=30) (xs:=[.agg (dM t)]) (v:=.agg (dM t.gX)) ?_;rw[ahh]
def p5 (p:Sd.aJ):List V:=[.int .i64 (p.i 0),.int .i64 (p.i 1),.int .i64 (p.i 2),.int .i64 (p.i 3),.int .i64 (p.i 4)]
theorem ahi (p:Sd.aJ) (s:Int) (X:V->Prop):dL prog [] 30 232 [.agg (p5 p),.int .i64 s] X=cond (p.i 0==s) (X (.int .i64 0)) (cond (p.i 1==s) (X (.int .i64 1)) (cond (p.i 2==s) (X (.int .i64 2)) (cond (p.i 3==s) (X (.int .i64 3)) (cond (p.i 4==s) (X (.int .i64 4)) (X (.int .i64 (-1))))))):=by kernel_rfl
theorem Px (p:Sd.aJ) (ka:Nat->Option aI) (kn kc:Nat->Nat) (s:Int) (w:ae):
 aQ prog 232 #[.agg #[.int .i64 (p.i 0),.int .i64 (p.i 1),.int .i64 (p.i 2),.int .i64 (p.i 3),.int .i64 (p.i 4)],.int .i64 s] w λv w1=>v=.int .i64 (Sd.placeOf p s)/\Ch [] w w1:=by
 refine gB bF.nil (n:=30) (xs:=[.agg (p5 p),.int .i64 s]) (v:=.int .i64 (Sd.placeOf p s)) ?_;rw[ahi];unfold Sd.placeOf;refine aH (λh=>by rw[if_pos (by simpa using h)]) (λh=>?_);rw[if_neg (by simpa using h)];refine aH (λh=>by rw[if_pos (by simpa using h)]) (λh=>?_);rw[if_neg (by simpa using h)];refine aH (λh=>by rw[if_pos (by simpa using h)]) (λh=>?_);rw[if_neg (by simpa using h)];refine aH (λh=>by rw[if_pos (by simpa using h)]) (λh=>?_);rw[if_neg (by simpa using h)];exact aH (λh=>by rw[if_pos (by simpa using h)]) (λh=>by rw[if_neg (by simpa using h)])
theorem told {P:aC} {f:Nat} {args:Array ab} {ids:List Nat} {xs:List V} {x:ab} {v:V} {w:ae} (h:aQ P f args w λy w1=>y=x/\Ch [] w w1) (ha:args=(aA ids xs).toArray:=by kernel_rfl) (hv:x=den ids v:=by kernel_rfl):
 aQ P f (aA ids xs).toArray w λy w1=>y=den ids v/\Ch [] w w1:=by subst ha hv;exact h
structure Hd (p:Prop):Prop where
 h:p
def aB (a:Int):Prop:=-9223372036854775808<=a/\a<=9223372036854775807
def Py:QF:=⟨232,λargs _=>match args with
 |[.agg [.int .i64 a,.int .i64 b,.int .i64 c,.int .i64 d,.int .i64 e],.int .i64 s]=>some (True,.int .i64 (if a=s then 0 else if b=s then 1 else if c=s then 2 else if d=s then 3 else if e=s then 4 else-1))
 |_=>none⟩
def Pz:QF:=⟨142,λargs _=>match args with
 |[.int .i64 nw,.int .i64 t,.int .i64 b]=>some (aB nw/\aB t/\aB b,.int .i64 (Sd.qb nw t b))
 |_=>none⟩
def Fy:QF:=⟨183,λargs _=>match args with
 |[.int .i64 n,.int .i64 lo,.int .i64 hi]=>some (True,.int .i64 (Sd.sV n lo hi))
 |_=>none⟩
def oS:QF:=⟨189,λargs _=>match args with
 |[.int .i64 s,.int .i64 i]=>some (True,.bool (Sd.has s i))
 |_=>none⟩
def JB:QF:=⟨140,λargs _=>match args with
 |[.agg [.int .i64 a,.int .i64 b,.int .i64 c,.int .i64 d,.int .i64 e,.int .i64 f,.int .i64 g,.bool h]]=>some (True,.agg (dM (⟨a,b,c,⟨d,e⟩,⟨f,g⟩,h⟩:Sd.Tok).gX))
 |_=>none⟩
def PA:QF:=⟨179,λargs _=>match args with
 |[.int .i64 m]=>some (True,.agg (tF 0 (if 0>m then 0 else m)))
 |_=>none⟩
def PB:QF:=⟨126,λargs _=>match args with
 |[.int .i64 m,.agg [.int .i64 a,.int .i64 b,.int .i64 c,.int .i64 d]]=>some (0<=m/\m<=1000,.bool (Sd.rj m ⟨a,b,c,d⟩))
 |_=>none⟩
theorem ahj (gl:Nat->Option Nat):Py.Ok prog gl:=by
 intro args bl p_ v_ h hp ids w _ _;unfold Py at h;dsimp only at h;split at h
 ·rename_i a b c d e s;simp only[aS,bd]at h;obtain⟨rfl,rfl⟩:=h;exact told (Px ⟨λi=>match i with|0=>a|1=>b|2=>c|3=>d|_=>e,λ_=>(0,λ_=>0)⟩ (λ_=>none) (λ_=>0) (λ_=>0) s w)
 ·cases h
theorem ahk (gl:Nat->Option Nat):Pz.Ok prog gl:=by
 intro args bl p_ v_ h hp ids w _ _;unfold Pz at h;dsimp only at h;split at h
 ·rename_i nw t b;simp only[aS,bd]at h;obtain⟨rfl,rfl⟩:=h;exact told (X1 nw t b hp.1 hp.2.1 hp.2.2 w)
 ·cases h
theorem PC (gl:Nat->Option Nat):Fy.Ok prog gl:=by
 intro args bl p_ v_ h hp ids w _ _;unfold Fy at h;dsimp only at h;split at h
 ·rename_i n lo hi;simp only[aS,bd]at h;obtain⟨rfl,rfl⟩:=h;exact told (XZ n lo hi w)
 ·cases h
theorem PD (gl:Nat->Option Nat):oS.Ok prog gl:=by
 intro args bl p_ v_ h hp ids w _ _;unfold oS at h;dsimp only at h;split at h
 ·rename_i s i;simp only[aS,bd]at h;obtain⟨rfl,rfl⟩:=h;exact told (X6 s i w)
 ·cases h
theorem Yb (gl:Nat->Option Nat):JB.Ok prog gl:=by
 intro args bl p_ v_ h hp ids w _ _;unfold JB at h;dsimp only at h;split at h
 ·rename_i a b c d e f g h;simp only[aS,bd]at h;obtain⟨rfl,rfl⟩:=h;exact told (Pw ⟨a,b,c,⟨d,e⟩,⟨f,g⟩,h⟩ w)
 ·cases h
theorem ahl (gl:Nat->Option Nat):PA.Ok prog gl:=by
 intro args bl p_ v_ h hp ids w _ _;unfold PA at h;dsimp only at h;split at h
 ·rename_i m;simp only[aS,bd]at h;obtain⟨rfl,rfl⟩:=h;exact zB bF.nil 30 (by show dL prog [] 30 179 _ _;rw[X7]) rfl rfl ids w
 ·cases h
theorem qy {q:QF} (h:q.Ok prog λ_=>none):bF prog (λ_=>none) [q]:=bF.cons h bF.nil
theorem ahm (p:Sd.aJ) (ka:Nat->Option aI) (kn kc:Nat->Nat) (s:Int) (X:V->Prop):dL prog [Py] 30 217 [.agg (eK p ka kn kc),.int .i64 s] X=(True/\X (.int .i64 (Sd.placeOf p s))):=by kernel_rfl
theorem ahn (p:Sd.aJ) (ka:Nat->Option aI) (kn kc:Nat->Nat) (s:Int) (w:ae):
 aQ prog 217 #[.agg (jV p ka kn kc),.int .i64 s] w λv w1=>v=.int .i64 (Sd.placeOf p s)/\Ch [] w w1:=by
 refine gB (qy (ahj _)) (n:=30) (xs:=[.agg (eK p ka kn kc),.int .i64 s]) (v:=.int .i64 (Sd.placeOf p s)) ?_;rw[ahm];exact⟨trivial,rfl⟩
theorem aho (p:Sd.aJ) (ka:Nat->Option aI) (kn kc:Nat->Nat) (a:Int) (b:Int) (w:ae):
 aQ prog 215 #[.agg (jV p ka kn kc),.int .i64 a,.int .i64 b] w λv w1=>v=.bool (Sd.ff p a b)/\Ch [] w w1:=by
 have S0:=St.nil [] w;refine il Tryz.func215 rfl ?_;refine aM (aT ?_);refine ei S0 (λb=>.pointer (some ⟨b,0,none⟩)) (.cells (jV p ka kn kc) 28) ?_;intro bx gP du;refine ak (.bool false) ?_;refine aR (aL (aM (aT ?_)));refine fL ?_;refine aR (aL (aM ?_));refine yT 9 [⟨0,λ_=>.func (.func 232) #[] #[],λ_=>[]⟩,⟨0,λ_=>.pointer (some ⟨bx,0,none⟩),λ_=>[]⟩,⟨0,λ_=>.agg #[.int .i64 (p.i 0),.int .i64 (p.i 1),.int .i64 (p.i 2),.int .i64 (p.i 3),.int .i64 (p.i 4)],λ_=>[]⟩,⟨0,λ_=>.int .i64 a,λ_=>[]⟩,⟨0,λ_=>.int .i64 (Sd.placeOf p a),λ_=>[]⟩,⟨0,λ_=>.func (.func 232) #[] #[],λ_=>[]⟩,⟨0,λ_=>.pointer (some ⟨bx,0,none⟩),λ_=>[]⟩,⟨0,λ_=>.agg #[.int .i64 (p.i 0),.int .i64 (p.i 1),.int .i64 (p.i 2),.int .i64 (p.i 3),.int .i64 (p.i 4)],λ_=>[]⟩,⟨0,λ_=>.int .i64 b,λ_=>[]⟩] [[9,4,0],[9,4,2,1],[9,4,2],[9,4,3],[9,4],[9,5],[9,7,6],[9,7],[9,8],[10,0],[10,1],[10,2],[10,3],[10,4],[10,9,5],[10,9,7,6],[10,9,7],[10,9,8],[10,9],[11,0],[11,1],[11,2],[11,3],[11,4],[11,5],[11,6],[11,7],[11,8],[11,9],[11,10]] ?_ ?_
 ·refine step_cons gL ?_;refine step_cons gL ?_;refine step_cons (D7 du 0 bx 0 5 #[.int .i64 (p.i 0),.int .i64 (p.i 1),.int .i64 (p.i 2),.int .i64 (p.i 3),.int .i64 (p.i 4)]) ?_;refine step_cons gL ?_;refine step_cons ?_ ?_
  ·intro Cm lL zQ Xu Cn;have vn:Cm 10=.func (.func 232) #[] #[]:=(Sp.dq (Cn 0 10 (by kernel_rfl) (by kernel_rfl))).1;have kE:Cm 12=.agg #[.int .i64 (p.i 0),.int .i64 (p.i 1),.int .i64 (p.i 2),.int .i64 (p.i 3),.int .i64 (p.i 4)]:=(Sp.dq (Cn 2 12 (by kernel_rfl) (by kernel_rfl))).1;have jT:Cm 13=.int .i64 a:=(Sp.dq (Cn 3 13 (by kernel_rfl) (by kernel_rfl))).1;have oL:=du.quiet zQ;refine ot ?_;refine lA [(10,.func (.func 232) #[] #[]),(12,.agg #[.int .i64 (p.i 0),.int .i64 (p.i 1),.int .i64 (p.i 2),.int .i64 (p.i 3),.int .i64 (p.i 4)]),(13,.int .i64 a)] (lB vn (lB kE (lB jT (om)))) ?_;have zM:=oL.loc;refine Y.fe 232 #[.agg #[.int .i64 (p.i 0),.int .i64 (p.i 1),.int .i64 (p.i 2),.int .i64 (p.i 3),.int .i64 (p.i 4)],.int .i64 a] ?_;refine(Px p ka kn kc a _).mono ?_;rintro _ ahp ⟨rfl,kH⟩;have oM:=zM.quiet kH;exact⟨oM.ch,Sp.oq [] (all_nil)⟩
  refine step_cons gL ?_;refine step_cons gL ?_;refine step_cons (D7 du 0 bx 0 5 #[.int .i64 (p.i 0),.int .i64 (p.i 1),.int .i64 (p.i 2),.int .i64 (p.i 3),.int .i64 (p.i 4)]) ?_;refine step_cons gL ?_;exact yS
 intro vC zK PE vD;have ahq:vC 0=.func (.func 232) #[] #[]:=(Sp.dq (vD 0 (by kernel_rfl))).1;have E5:vC 1=.pointer (some ⟨bx,0,none⟩):=(Sp.dq (vD 1 (by kernel_rfl))).1;have qq:vC 2=.agg #[.int .i64 (p.i 0),.int .i64 (p.i 1),.int .i64 (p.i 2),.int .i64 (p.i 3),.int .i64 (p.i 4)]:=(Sp.dq (vD 2 (by kernel_rfl))).1;have rI:vC 3=.int .i64 a:=(Sp.dq (vD 3 (by kernel_rfl))).1;have E6:vC 4=.int .i64 (Sd.placeOf p a):=(Sp.dq (vD 4 (by kernel_rfl))).1;have oR:vC 5=.func (.func 232) #[] #[]:=(Sp.dq (vD 5 (by kernel_rfl))).1;have jU:vC 6=.pointer (some ⟨bx,0,none⟩):=(Sp.dq (vD 6 (by kernel_rfl))).1;have xC:vC 7=.agg #[.int .i64 (p.i 0),.int .i64 (p.i 1),.int .i64 (p.i 2),.int .i64 (p.i 3),.int .i64 (p.i 4)]:=(Sp.dq (vD 7 (by kernel_rfl))).1;have Pc:vC 8=.int .i64 b:=(Sp.dq (vD 8 (by kernel_rfl))).1;have zY:=du.quiet PE;refine⟨[.func (.func 232) #[] #[],.pointer (some ⟨bx,0,none⟩),.agg #[.int .i64 (p.i 0),.int .i64 (p.i 1),.int .i64 (p.i 2),.int .i64 (p.i 3),.int .i64 (p.i 4)],.int .i64 a,.int .i64 (Sd.placeOf p a),.func (.func 232) #[] #[],.pointer (some ⟨bx,0,none⟩),.agg #[.int .i64 (p.i 0),.int .i64 (p.i 1),.int .i64 (p.i 2),.int .i64 (p.i 3),.int .i64 (p.i 4)],.int .i64 b],by kernel_rfl,dO ahq (dO E5 (dO qq (dO rI (dO E6 (dO oR (dO jU (dO xC (dO Pc (Bo))))))))),?_⟩;refine fe 232 #[.agg #[.int .i64 (p.i 0),.int .i64 (p.i 1),.int .i64 (p.i 2),.int .i64 (p.i 3),.int .i64 (p.i 4)],.int .i64 b] ?_;refine(Px p ka kn kc b _).mono ?_;rintro _ atK ⟨rfl,qz⟩;have vi:=zY.quiet qz;refine fL ?_;refine fL ?_;refine aR (aL (aM (aT ?_)));refine dF ?_;refine ak (.bool ((Sd.placeOf p a)!=(-1))) ?_;refine dF ?_;refine UE 22 ((Sd.placeOf p a)!=(-1)) ?_ ?_
 ·intro kG;have qA:=ME kG;refine dF ?_;refine ak (.bool ((Sd.placeOf p b)!=(-1))) ?_;refine ak (.bool ((Sd.placeOf p b)!=(-1))) ?_;refine dF ?_;refine UE 26 ((Sd.placeOf p b)!=(-1)) ?_ ?_
  ·intro tI;have vx:=ME tI;refine dF ?_;refine dF ?_;refine ak (.bool (decide ((Sd.placeOf p a)<(Sd.placeOf p b)))) ?_;refine ak (.bool (decide ((Sd.placeOf p a)<(Sd.placeOf p b)))) ?_;refine fL ?_;refine aR (aL (gh ?_));refine fW rfl (fu [.tmp 6] [.bool (decide ((Sd.placeOf p a)<(Sd.placeOf p b)))] (.bool (decide ((Sd.placeOf p a)<(Sd.placeOf p b)))) ⟨iP,trivial⟩) ?_;have ze:Sd.ff p a b=(decide ((Sd.placeOf p a)<(Sd.placeOf p b))):=by first|rfl|(simp[Sd.ff,kG,tI,qA,vx];done)|(simp[Sd.ff,kG,tI,qA,vx];rfl)|(simp[Sd.ff,kG,tI];simp[Sd.ff,kG,tI,qA,vx];done)|(simp[Sd.ff,kG,tI];simp[Sd.ff,kG,tI,qA,vx];rfl)|(simp[Sd.ff,kG,tI,qA,vx];omega)|(unfold Sd.ff;(repeat' split)<;>first|rfl|assumption|omega|(simp_all;done)|(simp_all;omega))
   exact⟨by(rw[ze])<;>rfl,vi.ch⟩
  intro qx;have rJ:=MF qx;refine uA ?_;refine uA ?_;refine uA ?_;refine ak (.bool false) ?_;refine ak (.bool false) ?_;refine aR (aL (gh ?_));refine fW rfl (fu [.tmp 6] [.bool false] (.bool false) ⟨iP,trivial⟩) ?_;have ze:Sd.ff p a b=false:=by first|rfl|(simp[Sd.ff,kG,qx,qA,rJ];done)|(simp[Sd.ff,kG,qx,qA,rJ];rfl)|(simp[Sd.ff,kG,qx];simp[Sd.ff,kG,qx,qA,rJ];done)|(simp[Sd.ff,kG,qx];simp[Sd.ff,kG,qx,qA,rJ];rfl)|(simp[Sd.ff,kG,qx,qA,rJ];omega)|(unfold Sd.ff;(repeat' split)<;>first|rfl|assumption|omega|(simp_all;done)|(simp_all;omega))
  exact⟨by(rw[ze])<;>rfl,vi.ch⟩
 intro qB;have oQ:=MF qB;refine uA ?_;refine uA ?_;refine ak (.bool false) ?_;refine ak (.bool false) ?_;refine uA ?_;refine uA ?_;refine uA ?_;refine ak (.bool false) ?_;refine ak (.bool false) ?_;refine aR (aL (gh ?_));refine fW rfl (fu [.tmp 6] [.bool false] (.bool false) ⟨iP,trivial⟩) ?_;have ze:Sd.ff p a b=false:=by first|rfl|(simp[Sd.ff,qB,oQ];done)|(simp[Sd.ff,qB,oQ];rfl)|(simp[Sd.ff,qB];simp[Sd.ff,qB,oQ];done)|(simp[Sd.ff,qB];simp[Sd.ff,qB,oQ];rfl)|(simp[Sd.ff,qB,oQ];omega)|(unfold Sd.ff;(repeat' split)<;>first|rfl|assumption|omega|(simp_all;done)|(simp_all;omega))
 exact⟨by(rw[ze])<;>rfl,vi.ch⟩
theorem ahr (p:Sd.aJ) (ka:Nat->Option aI) (kn kc:Nat->Nat) (r:Int) (X:V->Prop):∀s:Nat,s<5->dL prog [oS] 30 144 [.agg (eK p ka kn kc),.int .i64 (.ofNat s),.int .i64 r] X=cond (decide (0<=r)) (cond (decide (r<4)) (True/\X (.bool (Sd.has (p.i (9+s)) r))) (X (.bool false))) (X (.bool false))
 |0,_=>by kernel_rfl
 |1,_=>by kernel_rfl
 |2,_=>by kernel_rfl
 |3,_=>by kernel_rfl
 |4,_=>by kernel_rfl
 |n+5,h=>absurd h (by omega)
theorem Yc (p:Sd.aJ) (ka:Nat->Option aI) (kn kc:Nat->Nat) (n:Nat) (r:Int) (X:V->Prop):dL prog [oS] 30 144 [.agg (eK p ka kn kc),.int .i64 (.ofNat (n+5)),.int .i64 r] X=X (.bool false)/\dL prog [oS] 30 144 [.agg (eK p ka kn kc),.int .i64 (.negSucc n),.int .i64 r] X=X (.bool false):=⟨by kernel_rfl,by kernel_rfl⟩
theorem vE {n b:Int} (h:0<=n) (h2:n<b):Sd.below n b=true:=by simp[Sd.below,h,h2]
theorem nJ {n b:Int} (h:n<0\/b<=n):Sd.below n b=false:=by simp[Sd.below];omega
theorem ahs (p:Sd.aJ) (ka:Nat->Option aI) (kn kc:Nat->Nat) (s:Int) (r:Int) (w:ae):
 aQ prog 144 #[.agg (jV p ka kn kc),.int .i64 s,.int .i64 r] w λv w1=>v=.bool (Sd.eJ p s r)/\Ch [] w w1:=by
 refine gB (qy (PD _)) (n:=30) (xs:=[.agg (eK p ka kn kc),.int .i64 s,.int .i64 r]) (v:=.bool (Sd.eJ p s r)) (Hd.h ?_);unfold Sd.eJ;cases s with
 |ofNat n=>
  by_cases h:n<5
  ·have e:Sd.below (cU n) 5=true:=vE (yI n) (by show(n:Int)<5;omega);refine⟨?_⟩;rw[ahr p ka kn kc r _ n h,e];refine aH (λh=>aH (λh'=>?_) λh'=>?_) (λh=>?_)
   ·rw[vE (by simpa using h) (by simpa using h')];exact⟨trivial,rfl⟩
   ·rw[nJ (b:=4) (.inr (by simpa using h'))];rfl
   ·rw[nJ (b:=4) (.inl (by simpa using h))];rfl
  ·have q:=(Yc p ka kn kc (n-5) r (·=.bool (Sd.below (cU n) 5&&Sd.below r 4&&Sd.has (p.BD (cU n).toNat) r))).1;rw[show n-5+5=n by omega]at q;refine⟨?_⟩;rw[q,nJ (.inr (by show(5:Int)<=(n:Int);omega))];rfl
 |negSucc n=>
  refine⟨?_⟩;rw[(Yc p ka kn kc n r _).2,nJ (.inl (HZ n))];rfl
theorem aht (p:Sd.aJ) (ka:Nat->Option aI) (kn kc:Nat->Nat) (r:Int) (X:V->Prop):∀s:Nat,s<5->dL prog [oS] 30 182 [.agg (eK p ka kn kc),.int .i64 (.ofNat s),.int .i64 r] X=cond (decide (0<=r)) (cond (decide (r<5)) (True/\X (.bool (Sd.has (p.i (34+s)) r))) (X (.bool false))) (X (.bool false))
 |0,_=>by kernel_rfl
 |1,_=>by kernel_rfl
 |2,_=>by kernel_rfl
 |3,_=>by kernel_rfl
 |4,_=>by kernel_rfl
 |n+5,h=>absurd h (by omega)
theorem Yd (p:Sd.aJ) (ka:Nat->Option aI) (kn kc:Nat->Nat) (n:Nat) (r:Int) (X:V->Prop):dL prog [oS] 30 182 [.agg (eK p ka kn kc),.int .i64 (.ofNat (n+5)),.int .i64 r] X=X (.bool false)/\dL prog [oS] 30 182 [.agg (eK p ka kn kc),.int .i64 (.negSucc n),.int .i64 r] X=X (.bool false):=⟨by kernel_rfl,by kernel_rfl⟩
theorem ahu (p:Sd.aJ) (ka:Nat->Option aI) (kn kc:Nat->Nat) (a:Int) (b:Int) (w:ae):
 aQ prog 182 #[.agg (jV p ka kn kc),.int .i64 a,.int .i64 b] w λv w1=>v=.bool (Sd.goes p a b)/\Ch [] w w1:=by
 refine gB (qy (PD _)) (n:=30) (xs:=[.agg (eK p ka kn kc),.int .i64 a,.int .i64 b]) (v:=.bool (Sd.goes p a b)) (Hd.h ?_);unfold Sd.goes;cases a with
 |ofNat n=>
  by_cases h:n<5
  ·have e:Sd.below (cU n) 5=true:=vE (yI n) (by show(n:Int)<5;omega);refine⟨?_⟩;rw[aht p ka kn kc b _ n h,e];refine aH (λh=>aH (λh'=>?_) λh'=>?_) (λh=>?_)
   ·rw[vE (by simpa using h) (by simpa using h')];exact⟨trivial,rfl⟩
   ·rw[nJ (b:=5) (.inr (by simpa using h'))];rfl
   ·rw[nJ (b:=5) (.inl (by simpa using h))];rfl
  ·have q:=(Yd p ka kn kc (n-5) b (·=.bool (Sd.below (cU n) 5&&Sd.below b 5&&Sd.has (p.graph (cU n).toNat) b))).1;rw[show n-5+5=n by omega]at q;refine⟨?_⟩;rw[q,nJ (.inr (by show(5:Int)<=(n:Int);omega))];rfl
 |negSucc n=>
  refine⟨?_⟩;rw[(Yd p ka kn kc n b _).2,nJ (.inl (HZ n))];rfl
theorem ahv (p:Sd.aJ) (ka:Nat->Option aI) (kn kc:Nat->Nat) (c:Int) (X:V->Prop):∀m r:Nat,m<5->r<4->dL prog [oS] 30 181 [.agg (eK p ka kn kc),.int .i64 (.ofNat m),.int .i64 (.ofNat r),.int .i64 c] X=cond (decide (0<=c)) (cond (decide (c<4)) (True/\X (.bool (Sd.has (p.i (14+4*m+r)) c))) (X (.bool false))) (X (.bool false))
 |0,0,_,_=>by kernel_rfl
 |0,1,_,_=>by kernel_rfl
 |0,2,_,_=>by kernel_rfl
 |0,3,_,_=>by kernel_rfl
 |1,0,_,_=>by kernel_rfl
 |1,1,_,_=>by kernel_rfl
 |1,2,_,_=>by kernel_rfl
 |1,3,_,_=>by kernel_rfl
 |2,0,_,_=>by kernel_rfl
 |2,1,_,_=>by kernel_rfl
 |2,2,_,_=>by kernel_rfl
 |2,3,_,_=>by kernel_rfl
 |3,0,_,_=>by kernel_rfl
 |3,1,_,_=>by kernel_rfl
 |3,2,_,_=>by kernel_rfl
 |3,3,_,_=>by kernel_rfl
 |4,0,_,_=>by kernel_rfl
 |4,1,_,_=>by kernel_rfl
 |4,2,_,_=>by kernel_rfl
 |4,3,_,_=>by kernel_rfl
 |n+5,_,h,_=>absurd h (by omega)
 |_,n+4,_,h=>absurd h (by omega)
theorem Ye (p:Sd.aJ) (ka:Nat->Option aI) (kn kc:Nat->Nat) (n:Nat) (r c:Int) (X:V->Prop):dL prog [oS] 30 181 [.agg (eK p ka kn kc),.int .i64 (.ofNat (n+5)),.int .i64 r,.int .i64 c] X=X (.bool false)/\dL prog [oS] 30 181 [.agg (eK p ka kn kc),.int .i64 (.negSucc n),.int .i64 r,.int .i64 c] X=X (.bool false):=⟨by kernel_rfl,by kernel_rfl⟩
theorem Yf (p:Sd.aJ) (ka:Nat->Option aI) (kn kc:Nat->Nat) (n:Nat) (c:Int) (X:V->Prop):∀m:Nat,m<5->dL prog [oS] 30 181 [.agg (eK p ka kn kc),.int .i64 (.ofNat m),.int .i64 (.ofNat (n+4)),.int .i64 c] X=X (.bool false)/\dL prog [oS] 30 181 [.agg (eK p ka kn kc),.int .i64 (.ofNat m),.int .i64 (.negSucc n),.int .i64 c] X=X (.bool false)
 |0,_=>⟨by kernel_rfl,by kernel_rfl⟩
 |1,_=>⟨by kernel_rfl,by kernel_rfl⟩
 |2,_=>⟨by kernel_rfl,by kernel_rfl⟩
 |3,_=>⟨by kernel_rfl,by kernel_rfl⟩
 |4,_=>⟨by kernel_rfl,by kernel_rfl⟩
 |n+5,h=>absurd h (by omega)
theorem ahw (p:Sd.aJ) (ka:Nat->Option aI) (kn kc:Nat->Nat) (m:Int) (r:Int) (c:Int) (w:ae):
 aQ prog 181 #[.agg (jV p ka kn kc),.int .i64 m,.int .i64 r,.int .i64 c] w λv w1=>v=.bool (Sd.may p m r c)/\Ch [] w w1:=by
 refine gB (qy (PD _)) (n:=30) (xs:=[.agg (eK p ka kn kc),.int .i64 m,.int .i64 r,.int .i64 c]) (v:=.bool (Sd.may p m r c)) (Hd.h ?_);unfold Sd.may;cases m with
 |ofNat n=>
  by_cases h:n<5
  ·have e:Sd.below (cU n) 5=true:=vE (yI n) (by show(n:Int)<5;omega);rw[e];cases r with
   |ofNat k=>
    by_cases hk:k<4
    ·have e:Sd.below (cU k) 4=true:=vE (yI k) (by show(k:Int)<4;omega);refine⟨?_⟩;rw[ahv p ka kn kc c _ n k h hk,e];refine aH (λh=>aH (λh'=>?_) λh'=>?_) (λh=>?_)
     ·rw[vE (by simpa using h) (by simpa using h')];exact⟨trivial,rfl⟩
     ·rw[nJ (b:=4) (.inr (by simpa using h'))];rfl
     ·rw[nJ (b:=4) (.inl (by simpa using h))];rfl
    ·have q:=(Yf p ka kn kc (k-4) c (·=.bool (true&&Sd.below (cU k) 4&&Sd.below c 4&&Sd.has (p.table (cU n).toNat (cU k).toNat) c)) n h).1;rw[show k-4+4=k by omega]at q;refine⟨?_⟩;rw[q,nJ (b:=4) (.inr (by show(4:Int)<=(k:Int);omega))];rfl
   |negSucc k=>
    refine⟨?_⟩;rw[(Yf p ka kn kc k c _ n h).2,nJ (b:=4) (.inl (HZ k))];rfl
  ·have q:=(Ye p ka kn kc (n-5) r c (·=.bool (Sd.below (cU n) 5&&Sd.below r 4&&Sd.below c 4&&Sd.has (p.table (cU n).toNat r.toNat) c))).1;rw[show n-5+5=n by omega]at q;refine⟨?_⟩;rw[q,nJ (b:=5) (.inr (by show(5:Int)<=(n:Int);omega))];rfl
 |negSucc n=>
  refine⟨?_⟩;rw[(Ye p ka kn kc n r c _).2,nJ (b:=5) (.inl (HZ n))];rfl
theorem ahx (p:Sd.aJ) (ka:Nat->Option aI) (kn kc:Nat->Nat) (X:V->Prop):dL prog [] 30 30 [.agg (eK p ka kn kc)] X=X (.agg (dM (Sd.Tok.new p))):=by kernel_rfl
theorem Yg (p:Sd.aJ) (ka:Nat->Option aI) (kn kc:Nat->Nat) (w:ae):
 aQ prog 30 #[.agg (jV p ka kn kc)] w λv w1=>v=.agg (gm (Sd.Tok.new p))/\Ch [] w w1:=by
 refine gB bF.nil (n:=30) (xs:=[.agg (eK p ka kn kc)]) (v:=.agg (dM (Sd.Tok.new p))) ?_;rw[ahx]
def JC (t:Sd.Tok) (f:Int) (X Y:Prop):Prop:=cond (!decide (t.offer>=0)) X (cond (t.offer !=f) X Y)
theorem PF {t:Sd.Tok} {f:Int} {X Y:Prop} (h:t.offer<0\/t.offer≠f->X) (k:¬(t.offer<0\/t.offer≠f)->Y):JC t f X Y:=by
 refine aH (λa=>h (.inl (by simpa using a))) (λa=>aH (λb=>h (.inr (by simpa using b))) λb=>k ?_);simp at a b;omega
def PG (t:Sd.Tok) (o:Int) (X:V->Prop):Prop:=cond (decide (o<0)) (X (.ao [.agg (dM t),.int .i64 1])) (cond (decide (o>=5)) (X (.ao [.agg (dM t),.int .i64 1])) (cond (o==t.aE) (X (.ao [.agg (dM t),.int .i64 25]))
 (cond (decide (t.af>=65535)) (X (.ao [.agg (dM t),.int .i64 24])) (X (.ao [.agg (dM (t.pass o (i64.wrap (t.af+1)))),.int .i64 0])))))
theorem ahy (t:Sd.Tok) (f e:Int) (X:V->Prop):dL prog [] 30 199 [.agg (dM t),.int .i64 f,.int .i64 e] X=JC t f (X (.ao [.agg (dM t),.int .i64 28])) (cond (e !=t.af) (X (.ao [.agg (dM t),.int .i64 21])) (PG t f X)):=by kernel_rfl
theorem ahz {t:Sd.Tok} (tH:-9223372036854775808<=t.af/\t.af<=9223372036854775807) (o:Int):PG t o (·=.ao [.agg (dM (t.c9 o).1),.int .i64 (t.c9 o).2]):=by
 unfold PG Sd.Tok.c9;refine aH (λh=>by rw[if_pos (.inl (by simpa using h))]) (λh=>aH (λh'=>by rw[if_pos (.inr (by simpa using h'))]) λh'=>?_);have h1:¬(o<0\/5<=o):=by simp at h h';omega
 rw[if_neg h1];refine aH (λh=>by rw[if_pos (by simpa using h)]) (λh=>?_);rw[if_neg (by simpa using h)];refine aH (λh=>by rw[if_pos (by simpa using h)]) (λh=>?_);have h2:¬65535<=t.af:=by simpa using h
 rw[if_neg h2,iw (by omega)]
theorem ahA (t:Sd.Tok) (f:Int) (e:Int) (tH:-9223372036854775808<=t.af/\t.af<=9223372036854775807) (w:ae):
 aQ prog 199 #[.agg (gm t),.int .i64 f,.int .i64 e] w λv w1=>v=.tuple #[.agg (gm ((Sd.Tok.accept t f e).1)),.int .i64 ((Sd.Tok.accept t f e).2)]/\Ch [] w w1:=by
 refine gB bF.nil (n:=30) (xs:=[.agg (dM t),.int .i64 f,.int .i64 e]) (v:=.ao [.agg (dM (t.accept f e).1),.int .i64 (t.accept f e).2]) ?_;rw[ahy];unfold Sd.Tok.accept;refine PF (λh=>by rw[if_pos h]) (λh=>?_);rw[if_neg h];refine aH (λh=>by rw[if_pos (by simpa using h)]) (λh=>?_);rw[if_neg (by simpa using h)];exact ahz tH f
theorem ahB (t:Sd.Tok) (f:Int) (X:V->Prop):dL prog [JB] 30 200 [.agg (dM t),.int .i64 f] X=JC t f (X (.ao [.agg (dM t),.int .i64 28])) (True/\X (.ao [.agg (dM t.gX),.int .i64 0])):=by kernel_rfl
theorem ahC (t:Sd.Tok) (f:Int) (w:ae):
 aQ prog 200 #[.agg (gm t),.int .i64 f] w λv w1=>v=.tuple #[.agg (gm ((Sd.Tok.fg t f).1)),.int .i64 ((Sd.Tok.fg t f).2)]/\Ch [] w w1:=by
 refine gB (qy (Yb _)) (n:=30) (xs:=[.agg (dM t),.int .i64 f]) (v:=.ao [.agg (dM (t.fg f).1),.int .i64 (t.fg f).2]) ?_;rw[ahB];unfold Sd.Tok.fg;exact PF (λh=>by rw[if_pos h]) (λh=>⟨trivial,by rw[if_neg h]⟩)
theorem ahD (t:Sd.Tok) (f:Int) (X:V->Prop):dL prog [JB] 30 136 [.agg (dM t),.int .i64 f] X=JC t f (X (.ao [.agg (dM t),.bool false])) (True/\X (.ao [.agg (dM t.gX),.bool true])):=by kernel_rfl
theorem ahE (t:Sd.Tok) (s:Int) (w:ae):
 aQ prog 136 #[.agg (gm t),.int .i64 s] w λv w1=>v=.tuple #[.agg (gm ((Sd.Tok.drop t s).1)),.bool ((Sd.Tok.drop t s).2)]/\Ch [] w w1:=by
 refine gB (qy (Yb _)) (n:=30) (xs:=[.agg (dM t),.int .i64 s]) (v:=.ao [.agg (dM (t.drop s).1),.bool (t.drop s).2]) ?_;rw[ahD];unfold Sd.Tok.drop;exact PF (λh=>by rw[if_pos h]) (λh=>⟨trivial,by rw[if_neg h]⟩)
theorem ahF (t:Sd.Tok) (Yh:-9223372036854775808<=t.oa.n/\t.oa.n<=9223372036854775807) (Yi:-9223372036854775808<=t.oa.most/\t.oa.most<=9223372036854775807) (w:ae):
 aQ prog 92 #[.agg (gm t)] w λv w1=>v=.tuple #[.agg (gm ((Sd.Tok.tick t).1)),.int .i64 ((Sd.Tok.tick t).2)]/\Ch [] w w1:=by
 have S0:=St.nil [] w;refine il Tryz.func92 rfl ?_;refine aM (aT ?_);refine ei S0 (λb=>.pointer (some ⟨b,0,none⟩)) (.cells (gm t) 95) ?_;intro bx gP du;refine ei du (λb=>.pointer (some ⟨b,0,none⟩)) (.cells #[.int .i64 0,.int .i64 0,.int .i64 0,.int .i64 0,.int .i64 0,.int .i64 0,.int .i64 0,.bool false] 95) ?_;intro de lL cM;refine ak (.int .i64 0) ?_;refine aR (aL (aM (aM (aT ?_))));refine jI cM 1 8 (gm t) bx 0 ?_;refine fe 137 #[.agg (gm t)] ?_;refine(open_ t _).mono ?_;rintro _ Cf ⟨rfl,nH⟩;have iy:=cM.quiet nH;refine ak (.bool (!(decide (0<=t.offer)))) ?_;refine aR (aL ?_);refine qY (!(decide (0<=t.offer))) ?_ ?_
 ·intro kE;have jT:=MG kE;have ve:=UI jT;refine aM (aT ?_);refine jI iy 1 8 (gm t) bx 0 ?_;refine store_ iy 0 (.agg (gm t)) de 0 ?_;intro O_ nI;refine ak (.int .i64 (-1)) ?_;refine aR (aL (gh (UF ?_)));refine fW rfl (fu [.cell 2 95,.tmp 3] [.agg (gm t),.int .i64 (-1)] (.tuple #[.agg (gm t),.int .i64 (-1)]) ⟨lV nI 0 8 de 0,iP,trivial⟩) ?_;have ze:Sd.Tok.tick t=(t,(-1)):=by first|rfl|(simp[Sd.Tok.tick,kE,jT];done)|(simp[Sd.Tok.tick,kE,jT];rfl)|(simp[Sd.Tok.tick,kE,jT];simp[Sd.Tok.tick,kE,jT];done)|(simp[Sd.Tok.tick,kE,jT];simp[Sd.Tok.tick,kE,jT];rfl)|(simp[Sd.Tok.tick,kE,jT];omega)|(unfold Sd.Tok.tick;(repeat' split)<;>first|rfl|assumption|omega|(simp_all;done)|(simp_all;omega))
  exact⟨by(rw[ze])<;>rfl,nI.ch⟩
 intro kH;have kl:=MH kH;have Ce:=UH kl;refine jr (aL (aM (aT ?_)));refine ak (.pointer (some ⟨bx,3,none⟩)) ?_;refine jI iy 1 2 (vA t.oa) bx 3 ?_;refine fe 138 #[.agg (vA t.oa)] ?_;refine(X8 t.oa (by omega) (by omega) _).mono ?_;rintro _ zK ⟨rfl,xy⟩;have qp:=iy.quiet xy;refine ak (.pointer (some ⟨bx,3,none⟩)) ?_;refine store_ qp 1 (.agg (vA (Sd.Timer.step t.oa))) bx 3 ?_;intro PH tD;refine aR (aL (aM (aM (aT ?_))));refine ak (.pointer (some ⟨bx,3,none⟩)) ?_;refine jI tD 1 2 (vA (Sd.Timer.step t.oa)) bx 3 ?_;refine fe 139 #[.agg (vA (Sd.Timer.step t.oa))] ?_;refine(Ya (Sd.Timer.step t.oa) _).mono ?_;rintro _ Xw ⟨rfl,rI⟩;have mW:=tD.quiet rI;refine ak (.bool (!(Sd.Timer.due (Sd.Timer.step t.oa)))) ?_;refine aR (aL ?_);refine qY (!(Sd.Timer.due (Sd.Timer.step t.oa))) ?_ ?_
 ·intro oR;have jU:=MG oR;have xC:=UI jU;refine aM (aT ?_);refine jI mW 1 8 #[.int .i64 t.aE,.int .i64 t.af,.int .i64 t.offer,.int .i64 (Sd.Timer.step t.oa).n,.int .i64 (Sd.Timer.step t.oa).most,.int .i64 t.la.n,.int .i64 t.la.most,.bool t.bad] bx 0 ?_;refine store_ mW 0 (.agg #[.int .i64 t.aE,.int .i64 t.af,.int .i64 t.offer,.int .i64 (Sd.Timer.step t.oa).n,.int .i64 (Sd.Timer.step t.oa).most,.int .i64 t.la.n,.int .i64 t.la.most,.bool t.bad]) de 0 ?_;intro Jx zY;refine ak (.int .i64 (-1)) ?_;refine aR (aL (gh (UF ?_)));refine fW rfl (fu [.cell 2 95,.tmp 3] [.agg #[.int .i64 t.aE,.int .i64 t.af,.int .i64 t.offer,.int .i64 (Sd.Timer.step t.oa).n,.int .i64 (Sd.Timer.step t.oa).most,.int .i64 t.la.n,.int .i64 t.la.most,.bool t.bad],.int .i64 (-1)] (.tuple #[.agg #[.int .i64 t.aE,.int .i64 t.af,.int .i64 t.offer,.int .i64 (Sd.Timer.step t.oa).n,.int .i64 (Sd.Timer.step t.oa).most,.int .i64 t.la.n,.int .i64 t.la.most,.bool t.bad],.int .i64 (-1)]) ⟨lV zY 0 8 de 0,iP,trivial⟩) ?_;have ze:Sd.Tok.tick t=((⟨t.aE,t.af,t.offer,(Sd.Timer.step t.oa),t.la,t.bad⟩:Sd.Tok),(-1)):=by first|rfl|(simp[Sd.Tok.tick,kH,kl,oR,jU];done)|(simp[Sd.Tok.tick,kH,kl,oR,jU];rfl)|(simp[Sd.Tok.tick,kH,kl,oR,jU];simp[Sd.Tok.tick,kH,kl,oR,jU];done)|(simp[Sd.Tok.tick,kH,kl,oR,jU];simp[Sd.Tok.tick,kH,kl,oR,jU];rfl)|(simp[Sd.Tok.tick,kH,kl,oR,jU];omega)|(unfold Sd.Tok.tick;(repeat' split)<;>first|rfl|assumption|omega|(simp_all;done)|(simp_all;omega))
  exact⟨by(rw[ze])<;>rfl,zY.ch⟩
 intro tB;have qz:=MH tB;have Jy:=UH qz;refine jr (aL (aM ?_));have zD:=mW.U5 0 0 8 (b:=de) (by kernel_rfl);refine U7 mW 5 4 0 de 0 [] (.agg (gm (Sd.Tok.gX (⟨t.aE,t.af,t.offer,(Sd.Timer.step t.oa),t.la,t.bad⟩:Sd.Tok)))) [.agg #[.int .i64 t.aE,.int .i64 t.af,.int .i64 t.offer,.int .i64 (Sd.Timer.step t.oa).n,.int .i64 (Sd.Timer.step t.oa).most,.int .i64 t.la.n,.int .i64 t.la.most,.bool t.bad],.agg (gm (Sd.Tok.gX (⟨t.aE,t.af,t.offer,(Sd.Timer.step t.oa),t.la,t.bad⟩:Sd.Tok))),.pointer (some ⟨bx,2,none⟩),.int .i64 t.offer,undef] [[5,0],[5,1],[5,2],[5,3],[5,4]] (kW (D9 zD 0 bx 0 8 #[.int .i64 t.aE,.int .i64 t.af,.int .i64 t.offer,.int .i64 (Sd.Timer.step t.oa).n,.int .i64 (Sd.Timer.step t.oa).most,.int .i64 t.la.n,.int .i64 t.la.most,.bool t.bad]) (kW (eC_ 140 #[.agg #[.int .i64 t.aE,.int .i64 t.af,.int .i64 t.offer,.int .i64 (Sd.Timer.step t.oa).n,.int .i64 (Sd.Timer.step t.oa).most,.int .i64 t.la.n,.int .i64 t.la.most,.bool t.bad]] (Pw (⟨t.aE,t.af,t.offer,(Sd.Timer.step t.oa),t.la,t.bad⟩:Sd.Tok))) (kW Bx (kW (U2 zD 0 bx 2) (kW (U4 mW 0 (.agg (gm (Sd.Tok.gX (⟨t.aE,t.af,t.offer,(Sd.Timer.step t.oa),t.la,t.bad⟩:Sd.Tok)))) de 0) (M0)))))) ?_;intro atL Jw;refine ak (.int .i64 t.offer) ?_;refine aR (aL (gh ?_));refine fW rfl (fu [.cell 2 95,.tmp 3] [.agg (gm (Sd.Tok.gX (⟨t.aE,t.af,t.offer,(Sd.Timer.step t.oa),t.la,t.bad⟩:Sd.Tok))),.int .i64 t.offer] (.tuple #[.agg (gm (Sd.Tok.gX (⟨t.aE,t.af,t.offer,(Sd.Timer.step t.oa),t.la,t.bad⟩:Sd.Tok))),.int .i64 t.offer]) ⟨lV Jw 0 8 de 0,iP,trivial⟩) ?_;have ze:Sd.Tok.tick t=((Sd.Tok.gX (⟨t.aE,t.af,t.offer,(Sd.Timer.step t.oa),t.la,t.bad⟩:Sd.Tok)),t.offer):=by first|rfl|(simp[Sd.Tok.tick,kH,kl,tB,qz];done)|(simp[Sd.Tok.tick,kH,kl,tB,qz];rfl)|(simp[Sd.Tok.tick,kH,kl,tB,qz];simp[Sd.Tok.tick,kH,kl,tB,qz];done)|(simp[Sd.Tok.tick,kH,kl,tB,qz];simp[Sd.Tok.tick,kH,kl,tB,qz];rfl)|(simp[Sd.Tok.tick,kH,kl,tB,qz];omega)|(unfold Sd.Tok.tick;(repeat' split)<;>first|rfl|assumption|omega|(simp_all;done)|(simp_all;omega))
 exact⟨by(rw[ze])<;>rfl,Jw.ch⟩
theorem ahG (p:Sd.aJ) (ka:Nat->Option aI) (kn kc:Nat->Nat) (t:Sd.Tok) (f o:Int) (th:Bool) (X:V->Prop):dL prog [PA] 30 198 [.agg (eK p ka kn kc),.agg (dM t),.int .i64 f,.int .i64 o,.bool th] X=
 let r:Int->Prop:=λn=>X (.ao [.agg (dM t),.int .i64 n])
 cond (f !=t.aE) (r 20) (cond (decide (t.af>=65535)) (r 24) (cond (o==f) (r 25) (cond (decide (o<1)) (r 2) (cond (decide (o>3)) (r 2) (cond (!th) (r 2) (cond (decide (t.offer>=0)) (r 28) (True/\X (.ao [.agg (dM {t with offer:=o,oa:=⟨0,if 0>p.i 44 then 0 else p.i 44⟩}),.int .i64 0])))))))):=by kernel_rfl
theorem ahH (p:Sd.aJ) (ka:Nat->Option aI) (kn kc:Nat->Nat) (t:Sd.Tok) (f:Int) (o:Int) (th:Bool) (hp:Sd.eF p) (w:ae):
 aQ prog 198 #[.agg (jV p ka kn kc),.agg (gm t),.int .i64 f,.int .i64 o,.bool th] w λv w1=>v=.tuple #[.agg (gm ((Sd.Tok.make p t f o th).1)),.int .i64 ((Sd.Tok.make p t f o th).2)]/\Ch [] w w1:=by
 refine gB (qy (ahl _)) (n:=30) (xs:=[.agg (eK p ka kn kc),.agg (dM t),.int .i64 f,.int .i64 o,.bool th]) (v:=.ao [.agg (dM (t.make p f o th).1),.int .i64 (t.make p f o th).2]) ?_;rw[ahG];unfold Sd.Tok.make;refine aH (λh=>by rw[if_pos (by simpa using h)]) (λh=>?_);rw[if_neg (by simpa using h)];refine aH (λh=>by rw[if_pos (by simpa using h)]) (λh=>?_);rw[if_neg (by simpa using h)];refine aH (λh=>by rw[if_pos (by simpa using h)]) (λh=>?_);rw[if_neg (by simpa using h)];refine aH (λh=>by rw[if_pos (.inl (by simpa using h))]) (λh1=>?_);refine aH (λh=>by rw[if_pos (.inr (.inl (by simpa using h)))]) (λh2=>?_);refine aH (λh=>by rw[if_pos (.inr (.inr (by simpa using h)))]) (λh3=>?_);rw[if_neg (by simp at h1 h2 h3;rw[h3];simp;omega)];refine aH (λh=>by rw[if_pos (by simpa using h)]) (λh=>?_);rw[if_neg (show¬0<=t.offer by simpa using h),Fx];exact⟨trivial,rfl⟩
def JD (p:Sd.aJ) (c:Nat) (n:Int):Int:=Sd.sV n (i64.wrap (0-p.i (50+c))) (p.i (50+c))
theorem ahI (p:Sd.aJ) (ka:Nat->Option aI) (kn kc:Nat->Nat) (pt:Sd.eu) (y:Sd.X4) (b:Sd.Label) (X:V->Prop):∀c:Nat,c<4->dL prog [Fy] 30 129 [.agg (eK p ka kn kc),.agg (jE pt),.int .i64 (.ofNat c),.agg (rM y),.agg (vB b)] X=(True/\True/\True/\True/\X (.agg (jE ⟨.ofNat c,y.map (JD p c),pt.now,b⟩)))
 |0,_=>by kernel_rfl
 |1,_=>by kernel_rfl
 |2,_=>by kernel_rfl
 |3,_=>by kernel_rfl
 |n+4,h=>absurd h (by omega)
theorem Yj (p:Sd.aJ) (ka:Nat->Option aI) (kn kc:Nat->Nat) (pt:Sd.eu) (y:Sd.X4) (b:Sd.Label) (n:Nat) (X:V->Prop):dL prog [Fy] 30 129 [.agg (eK p ka kn kc),.agg (jE pt),.int .i64 (.ofNat (n+4)),.agg (rM y),.agg (vB b)] X=cond (decide (cU (n+4)>=4)) (X (.agg (jE ⟨.ofNat (n+4),.zero,pt.now,b⟩))) False/\
 dL prog [Fy] 30 129 [.agg (eK p ka kn kc),.agg (jE pt),.int .i64 (.negSucc n),.agg (rM y),.agg (vB b)] X=cond (decide (Int.negSucc n<0)) (X (.agg (jE ⟨.negSucc n,.zero,pt.now,b⟩))) False:=⟨by kernel_rfl,by kernel_rfl⟩
theorem ahJ (p:Sd.aJ) (ka:Nat->Option aI) (kn kc:Nat->Nat) (pt:Sd.eu) (c:Int) (y:Sd.X4) (b:Sd.Label) (hp:Sd.eF p) (w:ae):
 aQ prog 129 #[.agg (jV p ka kn kc),.agg (Cv pt),.int .i64 c,.agg (XV y),.agg (XW b)] w λv w1=>v=.agg (Cv (Sd.eu.set p pt c y b))/\Ch [] w w1:=by
 cases c with
 |ofNat n=>
  by_cases h:n<4
  ·refine gB (qy (PC _)) (n:=30) (xs:=[.agg (eK p ka kn kc),.agg (jE pt),.int .i64 (.ofNat n),.agg (rM y),.agg (vB b)]) (v:=.agg (jE ⟨.ofNat n,y.map (JD p n),pt.now,b⟩)) ?_ (by kernel_rfl) ?_
   ·rw[ahI p ka kn kc pt y b _ n h];exact⟨trivial,trivial,trivial,trivial,rfl⟩
   ·unfold Sd.eu.set;rw[if_neg (by show¬((n:Int)<0\/4<=(n:Int));omega)];have hm:=hp.most n h;unfold Sd.aJ.most at hm;have e:JD p n=λx=>Sd.sV x (-(p.most (cU n).toNat)) (p.most (cU n).toNat):=by
     funext x;unfold JD;rw[iw (by omega),Int.zero_sub];rfl
    rw[e];rfl
  ·refine gB (qy (PC _)) (n:=30) (xs:=[.agg (eK p ka kn kc),.agg (jE pt),.int .i64 (.ofNat n),.agg (rM y),.agg (vB b)]) (v:=.agg (jE ⟨.ofNat n,.zero,pt.now,b⟩)) ?_ (by kernel_rfl) ?_
   ·have q:=(Yj p ka kn kc pt y b (n-4) (·=.agg (jE ⟨.ofNat n,.zero,pt.now,b⟩))).1;rw[show n-4+4=n by omega]at q;rw[q];exact aH (λ_=>rfl) λh=>absurd (of_decide_eq_false h) (by show¬¬(n:Int)>=4;omega)
   ·unfold Sd.eu.set;rw[if_pos (.inr (by show(4:Int)<=(n:Int);omega))];rfl
 |negSucc n=>
  refine gB (qy (PC _)) (n:=30) (xs:=[.agg (eK p ka kn kc),.agg (jE pt),.int .i64 (.negSucc n),.agg (rM y),.agg (vB b)]) (v:=.agg (jE ⟨.negSucc n,.zero,pt.now,b⟩)) ?_ (by kernel_rfl) ?_
  ·rw[(Yj p ka kn kc pt y b n _).2];exact aH (λ_=>rfl) λh=>absurd (of_decide_eq_false h) (by have:=HZ n;omega)
  ·unfold Sd.eu.set;rw[if_pos (.inl (HZ n))];rfl
theorem ahK (pt:Sd.eu) (b:Sd.Label) (X:V->Prop):dL prog [] 30 134 [.agg (jE pt),.agg (vB b)] X=X (.agg (jE (pt.hold b))):=by kernel_rfl
theorem ahL (pt:Sd.eu) (b:Sd.Label) (w:ae):
 aQ prog 134 #[.agg (Cv pt),.agg (XW b)] w λv w1=>v=.agg (Cv (Sd.eu.hold pt b))/\Ch [] w w1:=by
 refine gB bF.nil (n:=30) (xs:=[.agg (jE pt),.agg (vB b)]) (v:=.agg (jE (pt.hold b))) ?_;rw[ahK]
def Cw (a m:Int) (X:V->Prop) (Y:Prop):Prop:=cond (decide (a<i64.wrap (0-m))) (X (.bool true)) (cond (decide (a>m)) (X (.bool true)) Y)
theorem ahM (m:Int) (y:Sd.X4) (X:V->Prop):dL prog [] 30 126 [.int .i64 m,.agg (rM y)] X=Cw y.a m X (Cw y.b m X (Cw y.c m X (Cw y.d m X (X (.bool false))))):=by kernel_rfl
theorem JE {a m:Int} (hm:0<=m/\m<=1000) {b:Bool} {Y:Prop} (h:a< -m\/m<a->b=true) (k:¬(a< -m\/m<a)->Y):Cw a m (·=.bool b) Y:=by
 unfold Cw;rw[iw (by omega),Int.zero_sub];refine aH (λx=>by rw[h (.inl (by simpa using x))]) (λx=>aH (λz=>by rw[h (.inr (by simpa using z))]) λz=>k ?_);simp at x z;omega
theorem Yk (m:Int) (y:Sd.X4) (hm:0<=m/\m<=1000) (w:ae):
 aQ prog 126 #[.int .i64 m,.agg (XV y)] w λv w1=>v=.bool (Sd.rj m y)/\Ch [] w w1:=by
 refine gB bF.nil (n:=30) (xs:=[.int .i64 m,.agg (rM y)]) (v:=.bool (Sd.rj m y)) ?_;rw[ahM];unfold Sd.rj;refine JE hm (λh=>by simp[h]) λh1=>JE hm (λh=>by simp[h]) λh2=>JE hm (λh=>by simp[h]) λh3=>JE hm (λh=>by simp[h]) λh4=>?_;congr 1;simp;omega
theorem ahN (gl:Nat->Option Nat):PB.Ok prog gl:=by
 intro args bl p_ v_ h hp ids w _ _;unfold PB at h;dsimp only at h;split at h
 ·rename_i m a b c d;simp only[aS,bd]at h;obtain⟨rfl,rfl⟩:=h;exact told (Yk m ⟨a,b,c,d⟩ hp w)
 ·cases h
def Yl (s:Sd.mO):List V:=.bool s.valid::(rM s.x++[.bool s.Is])
theorem ahO (p:Sd.aJ) (ka:Nat->Option aI) (kn kc:Nat->Nat) (r:Int) (s:Sd.mO) (X:V->Prop):dL prog [PB] 30 80 [.agg (eK p ka kn kc),.int .i64 r,.agg (Yl s)] X=
 let m:Int:=if 0>r then 0 else r
 cond (!s.valid) (X (.ao [.int .i64 0,.bool false])) ((0<=p.i 47/\p.i 47<=1000)/\cond (!Sd.rj (p.i 47) s.x) (X (.ao [.int .i64 0,.bool false])) (cond (decide (m<p.i 46)) (X (.ao [.int .i64 (i64.wrap (m+1)),.bool (decide (i64.wrap (m+1)>=p.i 46))])) (X (.ao [.int .i64 (p.i 46),.bool (decide (p.i 46>=p.i 46))])))):=by kernel_rfl
theorem ahP (p:Sd.aJ) (ka:Nat->Option aI) (kn kc:Nat->Nat) (r:Int) (s:Sd.mO) (hp:Sd.eF p) (Ym:-9223372036854775808<=r/\r<=9223372036854775807) (w:ae):
 aQ prog 80 #[.agg (jV p ka kn kc),.int .i64 r,.agg (ag1 s)] w λv w1=>v=.tuple #[.int .i64 ((Sd.fh p r s).1),.bool ((Sd.fh p r s).2)]/\Ch [] w w1:=by
 refine gB (qy (ahN _)) (n:=30) (xs:=[.agg (eK p ka kn kc),.int .i64 r,.agg (Yl s)]) (v:=.ao [.int .i64 (Sd.fh p r s).1,.bool (Sd.fh p r s).2]) ?_;rw[ahO];have hb:=hp.beyond;have hs:=hp.sU;unfold Sd.aJ.beyond at hb;unfold Sd.aJ.sU at hs;have em:(if 0>r then 0 else r)=max r 0:=by by_cases h:0>r<;>simp[h]<;>omega
 rw[em];unfold Sd.fh Sd.aJ.beyond Sd.aJ.sU;refine aH (λh=>by rw[if_pos (.inl (by simpa using h))]) (λh=>⟨hb,aH (λh'=>by rw[if_pos (.inr (by simpa using h'))]) λh'=>?_⟩);rw[if_neg (by simp at h h';simp[h,h'])];unfold Sd.sat;refine aH (λh=>?_) (λh=>?_)
 ·have h:max r 0<p.i 46:=by simpa using h
  rw[if_pos h,iw (by omega)]
 ·rw[if_neg (by simpa using h)]
theorem ahQ (p:Sd.aJ) (ka:Nat->Option aI) (kn kc:Nat->Nat) (pt:Sd.eu) (X:V->Prop):dL prog [Pz] 30 95 [.agg (eK p ka kn kc),.agg (jE pt)] X=
 let n:Sd.X4:=Sd.X4.zip (λa b=>Sd.qb a b (p.i 54)) pt.now pt.aV
 ((aB pt.now.a/\aB pt.aV.a/\aB (p.i 54))/\(aB pt.now.b/\aB pt.aV.b/\aB (p.i 54))/\(aB pt.now.c/\aB pt.aV.c/\aB (p.i 54))/\(aB pt.now.d/\aB pt.aV.d/\aB (p.i 54))/\
   cond (!(n.a==pt.now.a&&(n.b==pt.now.b&&(n.c==pt.now.c&&(n.d==pt.now.d&&true))))) (X (.agg (jE ⟨pt.cls,pt.aV,n,{pt.bG with lY:=4}⟩))) (X (.agg (jE ⟨pt.cls,pt.aV,n,pt.bG⟩)))):=by kernel_rfl
theorem ahR (p:Sd.aJ) (ka:Nat->Option aI) (kn kc:Nat->Nat) (pt:Sd.eu) (hp:Sd.eF p) (PI:-9223372036854775808<=pt.aV.a/\pt.aV.a<=9223372036854775807) (PJ:-9223372036854775808<=pt.aV.b/\pt.aV.b<=9223372036854775807) (PK:-9223372036854775808<=pt.aV.c/\pt.aV.c<=9223372036854775807) (PL:-9223372036854775808<=pt.aV.d/\pt.aV.d<=9223372036854775807) (PM:-9223372036854775808<=pt.now.a/\pt.now.a<=9223372036854775807) (PN:-9223372036854775808<=pt.now.b/\pt.now.b<=9223372036854775807) (PO:-9223372036854775808<=pt.now.c/\pt.now.c<=9223372036854775807) (PQ:-9223372036854775808<=pt.now.d/\pt.now.d<=9223372036854775807) (w:ae):
 aQ prog 95 #[.agg (jV p ka kn kc),.agg (Cv pt)] w λv w1=>v=.agg (Cv (Sd.eu.step p pt))/\Ch [] w w1:=by
 refine gB (qy (ahk _)) (n:=30) (xs:=[.agg (eK p ka kn kc),.agg (jE pt)]) (v:=.agg (jE (pt.step p))) ?_;rw[ahQ];have hr:=hp.BE;unfold Sd.aJ.BE at hr;have hr:aB (p.i 54):=by unfold aB;omega
 refine⟨⟨PM,PI,hr⟩,⟨PN,PJ,hr⟩,⟨PO,PK,hr⟩,⟨PQ,PL,hr⟩,?_⟩;have e:Sd.eu.step p pt=⟨pt.cls,pt.aV,Sd.X4.zip (λa b=>Sd.qb a b (p.i 54)) pt.now pt.aV,if Sd.X4.zip (λa b=>Sd.qb a b (p.i 54)) pt.now pt.aV=pt.now then pt.bG else{pt.bG with lY:=4}⟩:=rfl;rw[e];generalize Sd.X4.zip (λa b=>Sd.qb a b (p.i 54)) pt.now pt.aV=n;refine aH (λh=>?_) (λh=>?_)
 ·rw[if_neg];intro h2;rw[h2]at h;simp at h
 ·rw[if_pos];rcases n with⟨n1,n2,n3,n4⟩;rcases pt with⟨q,u,⟨m1,m2,m3,m4⟩,l⟩;simp at h;simp[h]
def xF (x:Int):Int:=bif(bits .and .u16 x 32768!=0)then bits .xor .u16 (u16.wrap (x*2^1)) 4129 else u16.wrap (x*2^1)
def vF (x:Int):Nat->Int
 |0=>x
 |k+1=>xF (vF x k)
def Cx (s c:Int):Int:=vF (bits .xor .u16 s (u16.wrap (u16.wrap c*2^8))) 8
def jh (f:Nat->Int):Nat->Int
 |0=>65535
 |k+1=>Cx (jh f k) (f k)
theorem ahS {x s:Int} {i:Int} (h:0<=i) (e:s=vF x i.toNat) (hb:(bits .and .u16 s 32768!=0)=true):bits .xor .u16 (u16.wrap (s*2^1)) 4129=vF x (i+1).toNat:=by
 have h1:(i+1).toNat=i.toNat+1:=by omega
 rw[h1];show _=xF (vF x i.toNat);rw[<-e];unfold xF;rw[hb];rfl
theorem ahT {x s:Int} {i:Int} (h:0<=i) (e:s=vF x i.toNat) (hb:(bits .and .u16 s 32768!=0)=false):u16.wrap (s*2^1)=vF x (i+1).toNat:=by
 have h1:(i+1).toNat=i.toNat+1:=by omega
 rw[h1];show _=xF (vF x i.toNat);rw[<-e];unfold xF;rw[hb];rfl
theorem ahU {f:Nat->Int} {s i:Int} (h:0<=i) (e:s=jh f i.toNat):Cx s (f i.toNat)=jh f (i+1).toNat:=by
 have h1:(i+1).toNat=i.toNat+1:=by omega
 rw[h1,e];rfl
theorem ahV (a c:Int) (w:ae):
 aQ prog 171 #[.int .u16 a,.int .u8 c] w λv w1=>v=.int .u16 (Cx a c)/\Ch [] w w1:=by
 have S0:=St.nil [] w;refine il Tryz.func171 rfl ?_;refine aM (aT ?_);refine ak (.int .u16 0) ?_;refine aR (aL (aM (aT ?_)));refine ak (.int .u16 a) ?_;refine ak (.int .u8 c) ?_;refine ak (.int .u16 (u16.wrap c)) ?_;refine ak (.int .u16 (u16.wrap ((u16.wrap c)*2^8))) ?_;refine ak (.int .u16 (bits .xor .u16 a (u16.wrap ((u16.wrap c)*2^8)))) ?_;refine fL ?_;refine aR (aL (aM (aM (aT ?_))));refine ak (.int .i64 0) ?_;refine aR (aL (iL ?_));refine Ik (λzn za zw=>∃(i:Int) (s:Int) (eW:Nat->ab),(zn=(8-i).toNat/\0<=i/\i<=8/\s=vF (bits .xor .u16 a (u16.wrap ((u16.wrap c)*2^8))) i.toNat)/\za=⟨#[.int .u16 s,.int .u8 c,undef,undef,.int .u16 0,.int .u16 a,.int .u8 c,.int .u16 (u16.wrap c),.int .u16 (u16.wrap ((u16.wrap c)*2^8)),.int .u16 (bits .xor .u16 a (u16.wrap ((u16.wrap c)*2^8))),.int .i64 i,(eW 11),(eW 12),(eW 13),(eW 14),(eW 15),(eW 16),(eW 17),(eW 18),(eW 19),(eW 20),undef],[]⟩/\St [] w [] zw) _ (λzy lM=>⟨(0:Int),(bits .xor .u16 a (u16.wrap ((u16.wrap c)*2^8))),(λd=>zy.tmps.getD d undef),⟨rfl,by omega,by omega,rfl⟩,by subst lM;kernel_rfl,S0.re (R:=([]:List ai)) [] []⟩) ?_;rintro _ _ lL ⟨i,s,eW,⟨rfl,Xc,Xd,vl⟩,rfl,cM⟩;refine aM (aT ?_);refine ak (.bool (decide (i<8))) ?_;refine aR (aL (aM ?_));refine qY (decide (i<8)) ?_ ?_
 ·intro vm;have nH:=yN vm;refine jr (aL (aM (iL (aM (aT ?_)))));refine ak (.int .u16 s) ?_;refine ak (.int .u16 (bits .and .u16 s 32768)) ?_;refine ak (.bool ((bits .and .u16 s 32768)!=0)) ?_;refine aR (aL ?_);refine qY ((bits .and .u16 s 32768)!=0) ?_ ?_
  ·intro vn;have kE:=ME vn;refine aT ?_;refine ak (.int .u16 s) ?_;refine ak (.int .u16 (u16.wrap (s*2^1))) ?_;refine ak (.int .u16 (bits .xor .u16 (u16.wrap (s*2^1)) 4129)) ?_;refine fL ?_;refine aR (kQ (aL (aT ?_)));refine kA .i64 (i+1) (yK _ (by omega)) ?_;refine ak (.int .i64 (i+1)) ?_;refine aR ?_;refine Ed λzy lM=>?_;exact⟨_,by omega,(i+1),(bits .xor .u16 (u16.wrap (s*2^1)) 4129),(λd=>zy.tmps.getD d undef),⟨rfl,by omega,by omega,(ahS (by omega) vl vn)⟩,by subst lM;kernel_rfl,cM.re (R:=([]:List ai)) [] []⟩
  intro jT;have ve:=MF jT;refine aT ?_;refine ak (.int .u16 s) ?_;refine ak (.int .u16 (u16.wrap (s*2^1))) ?_;refine fL ?_;refine aR (kQ (aL (aT ?_)));refine kA .i64 (i+1) (yK _ (by omega)) ?_;refine ak (.int .i64 (i+1)) ?_;refine aR ?_;refine Ed λzy lM=>?_;exact⟨_,by omega,(i+1),(u16.wrap (s*2^1)),(λd=>zy.tmps.getD d undef),⟨rfl,by omega,by omega,(ahT (by omega) vl jT)⟩,by subst lM;kernel_rfl,cM.re (R:=([]:List ai)) [] []⟩
 intro mg;have tz:=yO mg;refine wp_exit (kP (kP (uB (aL (aM (aT ?_))))));refine ak (.int .u16 s) ?_;refine ak (.int .u16 s) ?_;refine aR (aL (gh ?_));refine fW rfl (fu [.tmp 4] [.int .u16 s] (.int .u16 s) ⟨iP,trivial⟩) ?_;exact⟨congrArg _ (by rw[vl,show i.toNat=8 by omega];rfl),cM.ch⟩
theorem Yn (b o n c:Nat) (f:Nat->Int) (hn:n<=1000000) (w:ae) (hB:bV w b o n f):
 aQ prog 119 #[.slice (some ⟨b,o,none⟩) n c] w λv w1=>v=.int .u16 (jh f n)/\Ch [] w w1:=by
 have S0:=St.nil [] w;refine il Tryz.func119 rfl ?_;refine aM (aT ?_);refine ak (.int .u16 0) ?_;refine aR (aL (aM (aT ?_)));refine ak (.int .u16 65535) ?_;refine aR (aL (aM (aM (aT ?_))));refine dF ?_;refine ak (.int .i64 ((n:Nat):Int)) ?_;refine ak (.int .i64 0) ?_;refine aR (aL (iL ?_));refine Ik (λzn za zw=>∃(i:Int) (s:Int) (eW:Nat->ab),(zn=(((n:Nat):Int)-i).toNat/\0<=i/\i<=((n:Nat):Int)/\s=jh f i.toNat)/\za=⟨#[.slice (some ⟨b,o,none⟩) n c,undef,.int .u16 0,.int .u16 s,undef,(eW 5),.slice (some ⟨b,o,none⟩) n c,.int .i64 ((n:Nat):Int),.int .i64 i,(eW 9),(eW 10),(eW 11),(eW 12),(eW 13),(eW 14),(eW 15),undef],[]⟩/\St [] w [] zw) _ (λzy lM=>⟨(0:Int),(65535:Int),(λd=>zy.tmps.getD d undef),⟨rfl,by omega,by omega,rfl⟩,by subst lM;kernel_rfl,S0.re (R:=([]:List ai)) [] []⟩) ?_;rintro _ _ lL ⟨i,s,eW,⟨rfl,Xc,Xd,vl⟩,rfl,cM⟩;refine aM (aT ?_);refine ak (.bool (decide (i<((n:Nat):Int)))) ?_;refine aR (aL (aM ?_));refine qY (decide (i<((n:Nat):Int))) ?_ ?_
 ·intro vm;have nH:=yN vm;refine jr (aL (aM (iL (aM (aT ?_)))));refine pV (e:=5) b o (i).toNat n 1 c .i64 i (by omega) (by omega) (by omega) ?_;refine sT b o n (o+(i).toNat*1) (i).toNat f (St.kX cM hB (by simp)) (by omega) (by omega) ?_;refine ak (.int .u8 (f (i).toNat)) ?_;refine aR (aL (aT ?_));refine ak (.int .u16 s) ?_;refine ak (.int .u8 (f (i).toNat)) ?_;refine fe 171 #[.int .u16 s,.int .u8 (f (i).toNat)] ?_;refine(ahV s (f (i).toNat) _).mono ?_;rintro _ W3 ⟨rfl,kE⟩;have xz:=cM.quiet kE;refine fL ?_;refine aR (kQ (aL (aT ?_)));refine kA .i64 (i+1) (yK _ (by omega)) ?_;refine ak (.int .i64 (i+1)) ?_;refine aR ?_;refine Ed λzy lM=>?_;exact⟨_,by omega,(i+1),(Cx s (f (i).toNat)),(λd=>zy.tmps.getD d undef),⟨rfl,by omega,by omega,ahU (by omega) vl⟩,by subst lM;kernel_rfl,xz.re (R:=([]:List ai)) [] []⟩
 intro ve;have mg:=yO ve;refine wp_exit (kP (kP (uB (aL (aM (aT ?_))))));refine ak (.int .u16 s) ?_;refine ak (.int .u16 s) ?_;refine aR (aL (gh ?_));refine fW rfl (fu [.tmp 2] [.int .u16 s] (.int .u16 s) ⟨iP,trivial⟩) ?_;exact⟨congrArg _ (by rw[vl,show i.toNat=n by omega]),cM.ch⟩
def mX (n:Nat) (f:Nat->Int):Nat->Int:=ca (3+n) (ca 3 (cZ [165,1,n]) f) (cZ [u8.wrap (iM (jh (y_ (ca 3 (cZ [165,1,n]) f) 1) (3+n-1)) (2^8)),u8.wrap (jh (y_ (ca 3 (cZ [165,1,n]) f) 1) (3+n-1))])
def Fz:cP CG:=λargs bl ch K=>match args,Cj ch with
 |[.raw (.slice (some ⟨b,o,none⟩) m c)],some (l,r)=>(b=r.b/\o+m<=r.n/\m<=1000000)/\K (.int .u16 (jh (vo o r.f) m)) bl ch
 |_,_=>False
theorem ahW {gl:Nat->Option Nat}:Sound prog gl 119 Fz:=by
 intro args ids bl ch R ms w0 w K hg hl S hc;unfold Fz at hc;split at hc
 ·rename_i b o m c l r Fe;obtain⟨⟨rfl,h1,h2⟩,hK⟩:=hc;obtain rfl:=Jo Fe;refine(Yn r.b o m c (vo o r.f) h2 w (XP (Fh S) h1)).mono ?_;rintro v w' ⟨rfl,bT⟩;exact⟨.int .u16 (jh (vo o r.f) m),[],bl,_,rfl,by simpa using hl,by simpa using S.quiet bT,hK⟩
 ·exact hc.elim
theorem ahX:gO Fz:=by
 intro args bl ch K hc;unfold Fz at hc⊢;split at hc
 ·exact⟨hc.1,hc.2,[],by simp⟩
 ·exact hc.elim
def PR:List (bK CG):=[⟨119,true,Fz⟩]
def Yo (u:ae) (b o n:Nat) (K:VK CG):Prop:=
 let cp:=i64.wrap (i64.wrap (3+(n:Int))+2)
 let l1:=[165,1,u8.wrap (n:Int)]
 let F1:=ca 0 (λ_=>0) (cZ l1)
 let N:=0+(2+1)+n
 cond (decide ((n:Int)>32)) (K (.ao [.raw (.slice none 0 0),.int .i64 1]) [] [.aX u])
  ((1<=cp/\cp<=1000000)/\∀b0:Nat,0+(2+1)<=l1.length/\(b0=b0/\0=0/\cp.toNat=cp.toNat/\0<=cp.toNat/\0+(2+1)<=1000000/\0<0+(2+1))/\∀b1 c1:Nat,0+(2+1)<=c1->∃f,bV u b o n f/\
    let F2:=ca (0+(2+1)) F1 f
    (b1=b1/\0+(2+1)=0+(2+1)/\c1=c1/\0+(2+1)<=c1/\N<=1000000/\0<N)/\∀b2 c2:Nat,N<=c2->(1<N/\N<=c2)/\(b2=b2/\0+1+(N-1)<=N/\N-1<=1000000)/\
     let s:=jh (vo (0+1) F2) (N-1)
     let l2:=[u8.wrap (iM s (2^8)),u8.wrap s]
     0+(1+1)<=l2.length/\(b2=b2/\N=N/\c2=c2/\N<=c2/\N+(1+1)<=1000000/\0<N+(1+1))/\∀b3 c3:Nat,N+(1+1)<=c3->
      K (.ao [.raw (.slice (some ⟨b3,0,none⟩) (N+(1+1)) c3),.int .i64 0]) [] [.aX u,.row ⟨N+(1+1),ca N F2 (cZ l2),b3,c3⟩])
theorem ahY (u:ae) (b o n c:Nat) (K:VK CG):mi PR 191 [.raw (.slice (some ⟨b,o,none⟩) n c)] [] [.aX u] (bm 0 K)=Yo u b o n K:=by kernel_rfl
theorem ahZ (b o n c:Nat) (f:Nat->Int) (hn:n<=32) (w:ae) (hB:bV w b o n f):
 aQ prog 191 #[.slice (some ⟨b,o,none⟩) n c] w λv w1=>∃b c1,v=.tuple #[.slice (some ⟨b,0,none⟩) (n+5) c1,.int .i64 0]/\n+5<=c1/\w.heap.size<=b/\w1.heap[b]?=some (.cells (bw (n+5) (mX n f) c1) 5 (0,0))/\Ch [] w w1:=by
 have hL:aG prog cR PR:=aG.cons ⟨ahW,λ_=>ahX⟩ aG.nil;have e1:i64.wrap (i64.wrap (3+(n:Int))+2)=((n+5:Nat):Int):=by simp[sE,pJ,pL];omega
 have e2:u8.wrap (n:Int)=n:=by simp[sE,pJ,pL];omega
 have h:mi PR 191 [.raw (.slice (some ⟨b,o,none⟩) n c)] [] [.aX w] (bm 0 λv bl ch=>bl=[]/\∃b3 c3,n+5<=c3/\v=.ao [.raw (.slice (some ⟨b3,0,none⟩) (n+5) c3),.int .i64 0]/\ch=[.aX w,.row ⟨n+5,mX n f,b3,c3⟩]):=by
  rw[ahY];unfold Yo;dsimp only;rw[e1,e2,ux];refine aH (λh=>absurd (of_decide_eq_true h) (by omega)) λ_=>⟨⟨by omega,by omega⟩,λb0=>⟨dE 3,⟨rfl,rfl,rfl,by omega,by omega,by omega⟩,λb1 c1 h1=>⟨f,hB,⟨rfl,rfl,rfl,h1,by omega,by omega⟩,λb2 c2 h2=>⟨⟨by omega,h2⟩,⟨rfl,by omega,by omega⟩,dE 2,⟨rfl,rfl,rfl,h2,by omega,by omega⟩,λb3 c3 h3=>⟨rfl,b3,c3,by omega,?_,?_⟩⟩⟩⟩⟩
  ·rw[show 0+(2+1)+n+(1+1)=n+5 by omega]
  ·rw[show 0+(2+1)+n+(1+1)=n+5 by omega,show 0+(2+1)+n=3+n by omega,zN 0];rfl
 refine(xE hL h).mono ?_;rintro v w' ⟨x,ids,bl,ch,rfl,hl,S,rfl,b3,c3,hc,rfl,rfl⟩;exact⟨b3,c3,rfl,hc,O9 (l:=[.aX w]) S,Fh (l:=[.aX w]) S,S.ch⟩
def kI (r:Sd.Rec):Nat->Int:=(dC (dC (dC (dC (dC (dC (λ_=>0) 0 1 (aU 1 ((u64.wrap r.kind)%256))) 1 1 (aU 1 ((u64.wrap r.source)%256))) 2 4 (aU 4 ((u64.wrap r.seq)%4294967296))) 6 2 (aU 2 ((u64.wrap r.af)%65536))) 8 1 (aU 1 ((u64.wrap r.code)%256))) 9 1 (aU 1 ((u64.wrap r.how)%256)))
def vG (h:Nat->Int) (r:Sd.Rec):Nat->Int:=jD (32+10) (ca 32 h (kI r))
def FA {G:Type}:(aZ->V)->Op->List VB->List G->VK G->Prop:=λe op bl ch K=>match op with
 |.call c=>(match c.callee,c.args.toList,c.argTypes.toList with
  |.builtin .copy,[s,xs],[t,tx]=>(match prog.underlying t,e s,e xs with
   |some (.slice 5),.sl i o n c,.sl j 0 m c2=>(match bl[i]?,bl[j]?with
    |some ⟨true,⟨T,(0,0)⟩,l⟩,some ⟨_,⟨_,(0,0)⟩,l2⟩=>(match k7 l,k7 l2 with
     |some r,some r2=>cond (ax r2.length m&&(ax m n&&bA (o+m) r.length)) (K (.int .i64 (m:Int)) (bl.set i ⟨true,⟨T,(0,0)⟩,l.take o++(l2++l.drop (o+m))⟩) ch) False
     |_,_=>False)
    |_,_=>False)
   |_,_,_=>False)
  |_,_,_=>False)
 |_=>False
theorem PS (ids:List Nat):∀{l:List V} {r:List Int},k7 l=some r->l=r.map (V.int .u8)/\ah ids l=r.map (dT .u8)
 |[],r,h=>by cases h;exact⟨rfl,rfl⟩
 |v::l,r,h=>by
  unfold k7 at h;split at h
  ·rename_i e;cases e
  ·rename_i x l' e;obtain⟨rfl,rfl⟩:=uq e;split at h
   ·rename_i r' hr;cases h;obtain⟨h1,h2⟩:=PS ids hr;exact⟨by rw[h1];rfl,by simp only[ah,cl,den,h2,eQ,DL]⟩
   ·cases h
  ·cases h
theorem PT {G:Type} [Bl G] {gl:Nat->Option Nat}:fC (G:=G) prog gl FA:=by
 intro e op ids bl ch R ms w0 w K ρ o hg hl S aW ho h;unfold FA at h;split at h
 ·rename_i c;split at h
  ·rename_i s xs t tx eb cC dr;split at h
   ·rename_i i oo n cc j m c2 hu fQ fk;split at h
    ·rename_i T l wr T2 l2 hb j8;split at h
     ·rename_i r r2 hr M3;cases hq:ax r2.length m&&(ax m n&&bA (oo+m) r.length)with
      |false=>rw[hq]at h;exact h.elim
      |true=>
       rw[hq]at h;simp only[a_]at hq;obtain rfl:=b9 hq.1;obtain rfl:=b9 hq.2.1;have hle:=dz hq.2.2;obtain⟨l9,ar,gA⟩:=c;simp only at eb cC dr;have e2:ar=#[s,xs]:=by rw[<-cC]
       have e3:gA=#[t,tx]:=by rw[<-dr]
       subst eb e2 e3;obtain⟨q1,q2⟩:=PS ids hr;obtain⟨q3,q4⟩:=PS ids M3;have aK:=(fp hl S hb).2;have qm:=(fp hl S j8).2;have hj:=(fp hl S hb).1;have bE:=run_copy_row (P:=prog) w t tx o.type 5 (ids.getD i 0) oo r2.length cc ⟨ids.getD j 0,0,none⟩ r2.length c2 (ah ids l).toArray T (ah ids l2) hu (by kernel_rfl) aK (by rw[q4];simp) (λk v hk=>by
        rw[hU,cell_of qm];simpa using hk) (by rw[q4,q2];simpa using hle) (λv hv=>by
        rw[q4]at hv;obtain⟨x,_,rfl⟩:=ny.1 hv;rfl)
       have hex:=Io (P:=prog) (ρ:=ρ) (o:=o) ho (sv:=.slice (some ⟨ids.getD i 0,oo,none⟩) r2.length cc) (xv:=.slice (some ⟨ids.getD j 0,0,none⟩) r2.length c2) (by rw[aW,fQ];rfl) (by rw[aW,fk];rfl) bE;have hlen:(ah ids l2).length=r2.length:=by rw[q4];simp
       rw[hlen]at hex;refine⟨.int .i64 (r2.length:Int),[],_,_,_,.inl hex,by simpa using hl,?_,h⟩;simp only[cI];have fw:=S.step hj rfl (Ch.setRow w _ _) (setRow_heap w (ids.getD i 0) (ah ids l).toArray (((ah ids l).toArray.toList.take oo++ah ids l2++(ah ids l).toArray.toList.drop (oo+r2.length)).toArray) T (0,0) aK);have jM:i<(lits ids ids bl).length:=by rw[w5 ids bl hl];rcases cE i bl.length with h'|h';exact h';simp[h']at hb
       rw[<-uN (ids:=ids) ids bl i _ hl,<-List.set_append_left _ _ jM];have e5:(ah ids (l.take oo++(l2++l.drop (oo+r2.length)))).toArray=((ah ids l).toArray.toList.take oo++ah ids l2++(ah ids l).toArray.toList.drop (oo+r2.length)).toArray:=by
        have:∀q:List Int,ah ids (q.map (V.int .u8))=q.map (dT .u8):=λq=>by
         induction q with
         |nil=>rfl
         |cons x q ih=>simp only[eQ,ah,cl,den,ih,DL]
        rw[iq,iq,q2,q4,q1,<-List.map_take,<-List.map_drop,this,this,bN,List.map_take,List.map_drop]
       simp only[ay,e5];exact fw
     ·exact h.elim
    ·exact h.elim
   ·exact h.elim
  ·exact h.elim
 ·exact h.elim
def qD (x m:Int):Int:=bits .and .u64 (u64.wrap x) m
def xG (k:Nat) (x m:Int) (X:Prop):Prop:=(0<=qD x m/\qD x m<2^(8*k))/\X
def ah0 (a b c d e f:Int) (K:VK Empty):Prop:=
 xG 1 a 255 (xG 1 b 255 (xG 4 c 4294967295 (xG 2 d 65535 (xG 1 e 255 (xG 1 f 255
  (K (.agg (ints 1 (aU 1 (qD a 255))++(ints 1 (aU 1 (qD b 255))++(ints 4 (aU 4 (qD c 4294967295))++(ints 2 (aU 2 (qD d 65535))++(ints 1 (aU 1 (qD e 255))++ints 1 (aU 1 (qD f 255)))))))) [] []))))))
theorem ah1 (a b c d e f:Int) (K:VK Empty):bu (fE prog cR (Ck Empty) FA PT) 60 105 [.agg [.int .i64 a,.int .i64 b,.int .i64 c,.int .i64 d,.int .i64 e,.int .i64 f]] [] [] (bm 0 K)=ah0 a b c d e f K:=by
 kernel_rfl
theorem Cy {k j:Nat} {x m d:Int} {X:Prop} (hm:m=2^j-1) (hd:d=2^j) (hj:j<64) (hk:d=2^(8*k)) (hX:X):xG k x m X:=by
 unfold xG qD;have h0:0<d:=by rw[hd];exact Int.pow_pos (by decide)
 rw[pN .u64 _ m d j hm hd hj];exact⟨⟨Int.emod_nonneg _ (by omega),hk▸Int.emod_lt_of_pos _ h0⟩,hX⟩
theorem ah2 (r:Sd.Rec) (w:ae):
 aQ prog 105 #[.agg (recC r)] w λv w1=>v=.agg #[.int .u8 (kI r 0),.int .u8 (kI r 1),.int .u8 (kI r 2),.int .u8 (kI r 3),.int .u8 (kI r 4),.int .u8 (kI r 5),.int .u8 (kI r 6),.int .u8 (kI r 7),.int .u8 (kI r 8),.int .u8 (kI r 9)]/\Ch [] w w1:=by
 have m1:∀x,qD x 255=u64.wrap x%256:=λx=>pN .u64 _ 255 256 8 (by decide) (by decide) (by decide);have m2:∀x,qD x 65535=u64.wrap x%65536:=λx=>pN .u64 _ 65535 65536 16 (by decide) (by decide) (by decide);have m4:∀x,qD x 4294967295=u64.wrap x%4294967296:=λx=>pN .u64 _ 4294967295 4294967296 32 (by decide) (by decide) (by decide);have h:oI (bu (fE prog cR (Ck Empty) FA PT) 60 105 [.agg [.int .i64 r.kind,.int .i64 r.source,.int .i64 r.seq,.int .i64 r.af,.int .i64 r.code,.int .i64 r.how]] [] [] (bm 0 λv _ _=>v=.agg (ints 10 (kI r)))):=by
  rw[ah1];constructor;refine Cy (j:=8) (d:=256) rfl rfl (by decide) rfl (Cy (j:=8) (d:=256) rfl rfl (by decide) rfl (Cy (j:=32) (d:=4294967296) rfl rfl (by decide) rfl (Cy (j:=16) (d:=65536) rfl rfl (by decide) rfl (Cy (j:=8) (d:=256) rfl rfl (by decide) rfl (Cy (j:=8) (d:=256) rfl rfl (by decide) rfl ?_)))));rw[m1,m1,m1,m1,m2,m4];show V.agg _=V.agg _;kernel_rfl
 refine(O4 (G:=Empty) (L:=Ck Empty) (h:=FA) (hok:=PT) Xj h).mono ?_;rintro v w' ⟨y,ids,bl,ch,rfl,hl,S,rfl⟩;exact⟨by kernel_rfl,S.ch⟩
theorem ah3 (h:Nat->Int) (r:Sd.Rec) {tG:aD} (w:ae) (hG:w.heap[1]?=some (.cells (aq .u32 64 cx) tG (0,0))):
 aQ prog 66 #[.agg (aq .u8 32 h),.agg (recC r)] w λv w1=>v=.agg (aq .u8 32 (vG h r))/\Ch [] w w1:=by
 have S0:=St.given (w:=w) [(1,.cells (aq .u32 64 cx) tG (0,0))] (all_cons hG (all_nil));refine il Tryz.func66 rfl ?_;refine aM (aT ?_);refine ei S0 (λb=>.pointer (some ⟨b,0,none⟩)) (.cells (aq .u8 32 h) 37) ?_;intro bx gP du;refine ei du (λb=>.pointer (some ⟨b,0,none⟩)) (.cells (recC r) 75) ?_;intro de lL cM;refine ei cM (λb=>.pointer (some ⟨b,0,none⟩)) (.cells (aq .u8 32 (λ_=>0)) 37) ?_;intro rK zw8 iy;refine aR (aL (aM (aT ?_)));refine jI iy 1 6 (recC r) de 0 ?_;refine fe 105 #[.agg (recC r)] ?_;refine(ah2 r _).mono ?_;rintro _ ae7 ⟨rfl,jT⟩;have oL:=iy.quiet jT;refine ei oL (λb=>.pointer (some ⟨b,0,none⟩)) (.cells (aq .u8 10 (λ_=>0)) 202) ?_;intro PU ahp Pa;refine store_ Pa 0 (.agg (aq .u8 10 (kI r))) PU 0 ?_;intro W4 qo;refine aR (aL (aM ?_));refine acW 2 [.slice (some ⟨bx,0,none⟩) 32 32,.slice (some ⟨PU,0,none⟩) 10 10] [[2,0],[2,1],[3,2,0],[3,2,1],[3,2],[4,0],[4,1],[4,2],[4,3]] (step_cons gL (step_cons gL (yS))) ?_;intro zK Pd;have oN:=qo.quiet Pd;refine Vg (x0:=some ⟨bx,0,none⟩) (T:=5) (n:=32) (c:=32) (m:=10) (f:=h) (g:=(kI r)) (xv:=.slice (some ⟨PU,0,none⟩) 10 10) oN (dD.M_ (St.eA (N:=32) (f:=h) (wr:=true) (t:=37) (fr:=(0,0)) oN 3) (by omega) (by omega)) (y9 (e':=5) (St.eA (N:=10) (f:=(kI r)) (wr:=true) (t:=202) (fr:=(0,0)) oN 0)) (by omega) (by omega) ?_;intro vf zL Xw rI mW;refine fe 106 #[.slice (some ⟨vf,0,none⟩) (32+10) zL] ?_;refine(OI vf 0 (32+10) zL (ca 32 h (kI r)) (by omega) _ (mW.at_ 5 _ rfl) (St.zb (c:=zL) (wr:=true) (t:=5) (fr:=(0,0)) mW 0)).mono ?_;rintro _ W5 ⟨rfl,jU⟩;have E7:=mW.quiet jU;refine store_ E7 2 (.agg (aq .u8 32 (jD (32+10) (ca 32 h (kI r))))) rK 0 ?_;intro Jx zY;refine aR (aL (gh ?_));refine fW rfl (fu [.cell 4 37] [.agg (aq .u8 32 (jD (32+10) (ca 32 h (kI r))))] (.agg (aq .u8 32 (jD (32+10) (ca 32 h (kI r))))) ⟨lV zY 2 32 rK 0,trivial⟩) ?_;exact⟨by kernel_rfl,zY.ch⟩
def Cz (N:Nat) (F:Nat->(Nat->Int)->Int->Int->(Nat->Int)->Nat->Int):cP CG:=λargs bl ch K=>match args,ch with
 |[.raw (.slice ka kn kc),.int .i64 s,.int .i64 r,.agg l],.aX u::_=>(match k7 l with
  |some q=>∃kf nc:Nat->Int,((1<=kn/\kn<=64)/\(0<=s/\s<4294967296)/\(0<=r/\r<4294967296)/\(∃tG,u.heap[1]?=some (.cells (aq .u32 64 cx) tG (0,0)))/\dD u ka kn kc kf/\q.length=8/\∀j,j<8->cZ q j=nc j)/\K (.agg (ints N (F kn kf s r nc))) bl ch
  |none=>False)
 |_,_=>False
def FB:cP CG:=λargs bl ch K=>match args,ch with
 |[.raw (.slice ka kn kc),.int .i64 s,.int .i64 n],.aX u::_=>∃kf:Nat->Int,((1<=kn/\kn<=64)/\(0<=s/\s<4294967296)/\(0<=n/\n<4294967296)/\(∃tG,u.heap[1]?=some (.cells (aq .u32 64 cx) tG (0,0)))/\dD u ka kn kc kf)/\K (.agg (ints 8 (fG kn kf s n))) bl ch
 |_,_=>False
def FC:cP CG:=λargs bl ch K=>match args with
 |[.sl i 0 n c,.sl j 0 m c2]=>(match bl[i]?,bl[j]?with
  |some ⟨_,⟨_,(0,0)⟩,l⟩,some ⟨_,⟨_,(0,0)⟩,l2⟩=>(match k7 l,k7 l2 with
   |some q,some q2=>∃f g:Nat->Int,(q.length=n/\q2.length=n/\m=n/\n<=1000000/\(∀j,j<n->cZ q j=f j)/\∀j,j<n->cZ q2 j=g j)/\K (.bool (mh n f g)) bl ch
   |_,_=>False)
  |_,_=>False)
 |_=>False
def lP (m:Int) (b:Bool) (nc:Nat->Int):List V:=.int .i64 m::.bool b::ints 8 nc
def xH:List (bK CG):=[⟨15,true,FB⟩,⟨16,true,Cz 8 fq⟩,⟨37,true,Cz 32 gQ⟩,⟨192,true,FC⟩]
theorem ah4 {ids:List Nat} {l:List V} {q:List Int} {m:Nat} {g:Nat->Int} (h:k7 l=some q) (hq:q.length=m) (hg:∀j,j<m->cZ q j=g j):den ids (.agg l)=.agg (aq .u8 m g):=by
 simp only[den,xA ids h,hq];rw[Ef hg];rfl
theorem Yp {ids:List Nat} {bl:List VB} {u w w0:ae} {rest:List CG} {R:List ai} {ms:List Nat} (S:St ms w0 (lits ids ids bl++av (CG.aX u::rest) R) w) {a:Option aI} {n c:Nat} {f:Nat->Int} (h:dD u a n c f):dD w a n c f:=by
 refine⟨h.1,h.2.1,h.2.2.1,λx e j hj=>?_⟩;have h1:=h.2.2.2 x e j hj;unfold wx at h1⊢;cases hh:u.heap[(x.add j).block]?with
 |none=>simp[hh]at h1
 |some ob=>
  have:w.heap[(x.add j).block]?=some ob:=S.at' (x:=⟨(x.add j).block,false,ob⟩) (Fu (Jn hh));simp only[hh,this]at h1⊢;exact h1
theorem Yq {gl:Nat->Option Nat} {N:Nat} {F:Nat->(Nat->Int)->Int->Int->(Nat->Int)->Nat->Int} {f:eN} (hF:∀(ka:Option aI) (kn kc:Nat) (kf:Nat->Int) (s r:Int) (nc:Nat->Int),1<=kn/\kn<=64->0<=s/\s<4294967296->0<=r/\r<4294967296->∀{tG:aD} (w:ae),w.heap[1]?=some (.cells (aq .u32 64 cx) tG (0,0))->dD w ka kn kc kf->
 aQ prog f #[.slice ka kn kc,.int .i64 s,.int .i64 r,.agg (aq .u8 8 nc)] w λv w1=>v=.agg (aq .u8 N (F kn kf s r nc))/\Ch [] w w1):Sound prog gl f (Cz N F):=by
 intro args ids bl ch R ms w0 w K hg hl S hc;unfold Cz at hc;split at hc
 ·rename_i ka kn kc s r l u rest;split at hc
  ·rename_i q hq;obtain⟨kf,nc,⟨hn,hs,hr,⟨tG,hG⟩,hk,h8,jc⟩,hK⟩:=hc;have ea:(aA ids [.raw (.slice ka kn kc),.int .i64 s,.int .i64 r,.agg l]).toArray=#[.slice ka kn kc,.int .i64 s,.int .i64 r,.agg (aq .u8 8 nc)]:=by
    simp only[aA,ah4 hq h8 jc];rfl
   rw[ea];refine(hF ka kn kc kf s r nc hn hs hr w (Pu S hG) (Yp S hk)).mono ?_;rintro v w' ⟨rfl,bT⟩;exact⟨.agg (ints N (F kn kf s r nc)),[],bl,_,by simp only[den,xB],by simpa using hl,by simpa using S.quiet bT,hK⟩
  ·exact hc.elim
 ·exact hc.elim
theorem Yr {N:Nat} {F:Nat->(Nat->Int)->Int->Int->(Nat->Int)->Nat->Int}:gO (Cz N F):=by
 intro args bl ch K hc;unfold Cz at hc⊢;split at hc
 ·split at hc
  ·obtain⟨kf,nc,h,hK⟩:=hc;exact⟨kf,nc,h,hK,[],by simp⟩
  ·exact hc.elim
 ·exact hc.elim
theorem ah5 {gl:Nat->Option Nat}:Sound prog gl 15 FB:=by
 intro args ids bl ch R ms w0 w K hg hl S hc;unfold FB at hc;split at hc
 ·rename_i ka kn kc s n u rest;obtain⟨kf,⟨hn,hs,hr,⟨tG,hG⟩,hk⟩,hK⟩:=hc;refine(Xq ka kn kc kf s n hn hs hr w (Pu S hG) (Yp S hk)).mono ?_;rintro v w' ⟨rfl,bT⟩;exact⟨.agg (ints 8 (fG kn kf s n)),[],bl,_,by simp only[den,xB],by simpa using hl,by simpa using S.quiet bT,hK⟩
 ·exact hc.elim
theorem ah6:gO FB:=by
 intro args bl ch K hc;unfold FB at hc⊢;split at hc
 ·obtain⟨kf,h,hK⟩:=hc;exact⟨kf,h,hK,[],by simp⟩
 ·exact hc.elim
theorem Ys {ids:List Nat} {bl:List VB} {X:List ai} {ms:List Nat} {w0 w:ae} (hl:ids.length=bl.length) (S:St ms w0 (lits ids ids bl++X) w) {i n:Nat} {b:VB} {q:List Int} {f:Nat->Int} (hb:bl[i]?=some b) (h:k7 b.c=some q) (hq:q.length=n) (hf:∀j,j<n->cZ q j=f j):bV w (ids.getD i 0) 0 n f:=λj hj=>by
 have aK:=(fp hl S hb).2;rw[cell_of aK,xA ids h,eh];simp only[iX];rw[qa _ (by omega),hf j hj]
theorem ah7 {gl:Nat->Option Nat}:Sound prog gl 192 FC:=by
 intro args ids bl ch R ms w0 w K hg hl S hc;unfold FC at hc;split at hc
 ·rename_i i n c j m c2;split at hc
  ·rename_i w1 t1 l w2 t2 l2 hb j8;split at hc
   ·rename_i q q2 hq hq2;obtain⟨f,g,⟨e1,e2,rfl,hn,hf,FE⟩,hK⟩:=hc;refine(Xb (ids.getD i 0) 0 m c (ids.getD j 0) 0 c2 f g hn w (Ys hl S hb hq e1 hf) (Ys hl S j8 hq2 e2 FE)).mono ?_;rintro v w' ⟨rfl,bT⟩;exact⟨.bool (mh m f g),[],bl,_,rfl,by simpa using hl,by simpa using S.quiet bT,hK⟩
   ·exact hc.elim
  ·exact hc.elim
 ·exact hc.elim
theorem ah8:gO FC:=by
 intro args bl ch K hc;unfold FC at hc⊢;split at hc
 ·split at hc
  ·split at hc
   ·obtain⟨f,g,h,hK⟩:=hc;rename_i e1 e2;simp only[e1,e2];exact⟨f,g,h,hK,[],by simp⟩
   ·exact hc.elim
  ·exact hc.elim
 ·exact hc.elim
theorem FF:aG prog cR xH:=aG.cons ⟨ah5,λ_=>ah6⟩ (aG.cons ⟨Yq λka kn kc kf s r nc h1 h2 h3 _ w hG hk=>afK ka kn kc kf s r nc h1 h2 h3 w hG hk,λ_=>Yr⟩ (aG.cons ⟨Yq λka kn kc kf s r nc h1 h2 h3 _ w hG hk=>afL ka kn kc kf s r nc h1 h2 h3 w hG hk,λ_=>Yr⟩ (aG.cons ⟨ah7,λ_=>ah8⟩ aG.nil)))
section
variable(u:ae) (m s r:Int) (b:Bool) (nc pf:Nat->Int) (ka:Option aI) (kn kc:Nat) (K:VK CG)
def Yt:Prop:=
 let m1:=i64.wrap (m+1)
 cond (decide (m>=4294967295)) (K (.ao [.agg (lP m b nc),.int .i64 24]) [] [.aX u]) (∃kf:Nat->Int,((1<=kn/\kn<=64)/\(0<=s/\s<4294967296)/\(0<=m1/\m1<4294967296)/\(∃tG,u.heap[1]?=some (.cells (aq .u32 64 cx) tG (0,0)))/\dD u ka kn kc kf)/\K (.ao [.agg (lP m1 true (fG kn kf s m1)),.int .i64 0]) [] [.aX u])
theorem Yu:mi xH 146 [.agg (lP m b nc),.raw (.slice ka kn kc),.int .i64 s] [] [.aX u] (bm 0 K)=Yt u m s b nc ka kn kc K:=by kernel_rfl
def JF (kf n1:Nat->Int):Prop:=(1<=kn/\kn<=64)/\(0<=s/\s<4294967296)/\(0<=r/\r<4294967296)/\(∃tG,u.heap[1]?=some (.cells (aq .u32 64 cx) tG (0,0)))/\dD u ka kn kc kf/\((bh 8).map nc).length=8/\∀j,j<8->cZ ((bh 8).map nc) j=n1 j
def JG:Prop:=
 let no (c:Int):Prop:=K (.ao [.agg (lP m false λ_=>0),.agg (ints 32 λ_=>0),.int .i64 c]) [] [.aX u]
 cond (!b) (K (.ao [.agg (lP m b nc),.agg (ints 32 λ_=>0),.int .i64 17]) [] [.aX u])
  (∃kf n1:Nat->Int,JF u s r nc ka kn kc kf n1/\∃f g:Nat->Int,(((bh 8).map pf).length=8/\((bh 8).map (fq kn kf s r n1)).length=8/\8=8/\8<=1000000/\(∀j,j<8->cZ ((bh 8).map pf) j=f j)/\∀j,j<8->cZ ((bh 8).map (fq kn kf s r n1)) j=g j)/\
   cond (!(mh 8 f g)) (no 14) (∃Yv n2:Nat->Int,JF u s r nc ka kn kc Yv n2/\K (.ao [.agg (lP m false λ_=>0),.agg (ints 32 (gQ kn Yv s r n2)),.int .i64 0]) [] [.aX u]))
theorem PV:mi xH 148 [.agg (lP m b nc),.raw (.slice ka kn kc),.int .i64 s,.int .i64 r,.agg (ints 8 pf)] [] [.aX u] (bm 0 K)=JG u m s r b nc pf ka kn kc K:=by kernel_rfl
end
def oT (kn:Nat) (kf:Nat->Int) (s r:Int) (nc pf:Nat->Int):Bool:=mh 8 pf (fq kn kf s r nc)
theorem ah9 (ka:Option aI) (kn kc:Nat) (kf:Nat->Int) (s:Int) (d:Sd.dG) (hd:4294967295<=d.many) (FG:d.many<=9223372036854775807) (w:ae):
 aQ prog 146 #[.agg #[.int .i64 d.many,.bool d.gy,.int .u8 (d.au 0),.int .u8 (d.au 1),.int .u8 (d.au 2),.int .u8 (d.au 3),.int .u8 (d.au 4),.int .u8 (d.au 5),.int .u8 (d.au 6),.int .u8 (d.au 7)],.slice ka kn kc,.int .i64 s] w λv w1=>v=.tuple #[.agg #[.int .i64 d.many,.bool d.gy,.int .u8 (d.au 0),.int .u8 (d.au 1),.int .u8 (d.au 2),.int .u8 (d.au 3),.int .u8 (d.au 4),.int .u8 (d.au 5),.int .u8 (d.au 6),.int .u8 (d.au 7)],.int .i64 24]/\Ch [] w w1:=by
 have h:mi xH 146 [.agg (lP d.many d.gy d.au),.raw (.slice ka kn kc),.int .i64 s] [] [.aX w] (bm 0 λv _ _=>v=.ao [.agg (lP d.many d.gy d.au),.int .i64 24]):=by
  rw[Yu];exact aH (λ_=>rfl) λh=>absurd (of_decide_eq_false h) (by omega)
 refine(xE FF h).mono ?_;rintro v w' ⟨x,ids,bl,ch,rfl,hl,S,rfl⟩;exact⟨by kernel_rfl,S.ch⟩
theorem ah_ (ka:Option aI) (kn kc:Nat) (kf:Nat->Int) (s:Int) (d:Sd.dG) (kj:1<=kn/\kn<=64) (hs:0<=s/\s<4294967296) (hd:0<=d.many/\d.many<4294967295) {tG:aD} (w:ae) (hG:w.heap[1]?=some (.cells (aq .u32 64 cx) tG (0,0))) (hk:dD w ka kn kc kf):
 aQ prog 146 #[.agg #[.int .i64 d.many,.bool d.gy,.int .u8 (d.au 0),.int .u8 (d.au 1),.int .u8 (d.au 2),.int .u8 (d.au 3),.int .u8 (d.au 4),.int .u8 (d.au 5),.int .u8 (d.au 6),.int .u8 (d.au 7)],.slice ka kn kc,.int .i64 s] w λv w1=>v=.tuple #[.agg #[.int .i64 (d.many+1),.bool true,.int .u8 ((fG kn kf s (d.many+1)) 0),.int .u8 ((fG kn kf s (d.many+1)) 1),.int .u8 ((fG kn kf s (d.many+1)) 2),.int .u8 ((fG kn kf s (d.many+1)) 3),.int .u8 ((fG kn kf s (d.many+1)) 4),.int .u8 ((fG kn kf s (d.many+1)) 5),.int .u8 ((fG kn kf s (d.many+1)) 6),.int .u8 ((fG kn kf s (d.many+1)) 7)],.int .i64 0]/\Ch [] w w1:=by
 have e:i64.wrap (d.many+1)=d.many+1:=by simp[sE,pJ,pL];omega
 have h:mi xH 146 [.agg (lP d.many d.gy d.au),.raw (.slice ka kn kc),.int .i64 s] [] [.aX w] (bm 0 λv _ _=>v=.ao [.agg (lP (d.many+1) true (fG kn kf s (d.many+1))),.int .i64 0]):=by
  rw[Yu];unfold Yt;dsimp only;rw[e];exact aH (λh=>absurd (of_decide_eq_true h) (by omega)) λ_=>⟨kf,⟨kj,hs,by omega,⟨tG,hG⟩,hk⟩,rfl⟩
 refine(xE FF h).mono ?_;rintro v w' ⟨x,ids,bl,ch,rfl,hl,S,rfl⟩;exact⟨by kernel_rfl,S.ch⟩
theorem aia (ka:Option aI) (kn kc:Nat) (kf:Nat->Int) (s r:Int) (d:Sd.dG) (pf:Nat->Int) (ho:d.gy=false) (w:ae):
 aQ prog 148 #[.agg #[.int .i64 d.many,.bool d.gy,.int .u8 (d.au 0),.int .u8 (d.au 1),.int .u8 (d.au 2),.int .u8 (d.au 3),.int .u8 (d.au 4),.int .u8 (d.au 5),.int .u8 (d.au 6),.int .u8 (d.au 7)],.slice ka kn kc,.int .i64 s,.int .i64 r,.agg (aq .u8 8 pf)] w λv w1=>v=.tuple #[.agg #[.int .i64 d.many,.bool d.gy,.int .u8 (d.au 0),.int .u8 (d.au 1),.int .u8 (d.au 2),.int .u8 (d.au 3),.int .u8 (d.au 4),.int .u8 (d.au 5),.int .u8 (d.au 6),.int .u8 (d.au 7)],.agg (aq .u8 32 (λ_=>0)),.int .i64 17]/\Ch [] w w1:=by
 have h:mi xH 148 [.agg (lP d.many d.gy d.au),.raw (.slice ka kn kc),.int .i64 s,.int .i64 r,.agg (ints 8 pf)] [] [.aX w] (bm 0 λv _ _=>v=.ao [.agg (lP d.many d.gy d.au),.agg (ints 32 λ_=>0),.int .i64 17]):=by
  rw[PV];unfold JG;dsimp only;exact aH (λ_=>rfl) λh=>by rw[ho]at h;cases h
 refine(xE FF h).mono ?_;rintro v w' ⟨x,ids,bl,ch,rfl,hl,S,rfl⟩;exact⟨by kernel_rfl,S.ch⟩
theorem aib (ka:Option aI) (kn kc:Nat) (kf:Nat->Int) (s r:Int) (d:Sd.dG) (pf:Nat->Int) (kj:1<=kn/\kn<=64) (hs:0<=s/\s<4294967296) (PW:0<=r/\r<4294967296) (ho:d.gy=true) (hr:oT kn kf s r d.au pf=false) {tG:aD} (w:ae) (hG:w.heap[1]?=some (.cells (aq .u32 64 cx) tG (0,0))) (hk:dD w ka kn kc kf):
 aQ prog 148 #[.agg #[.int .i64 d.many,.bool d.gy,.int .u8 (d.au 0),.int .u8 (d.au 1),.int .u8 (d.au 2),.int .u8 (d.au 3),.int .u8 (d.au 4),.int .u8 (d.au 5),.int .u8 (d.au 6),.int .u8 (d.au 7)],.slice ka kn kc,.int .i64 s,.int .i64 r,.agg (aq .u8 8 pf)] w λv w1=>v=.tuple #[.agg #[.int .i64 d.many,.bool false,.int .u8 0,.int .u8 0,.int .u8 0,.int .u8 0,.int .u8 0,.int .u8 0,.int .u8 0,.int .u8 0],.agg (aq .u8 32 (λ_=>0)),.int .i64 14]/\Ch [] w w1:=by
 have h:mi xH 148 [.agg (lP d.many d.gy d.au),.raw (.slice ka kn kc),.int .i64 s,.int .i64 r,.agg (ints 8 pf)] [] [.aX w] (bm 0 λv _ _=>v=.ao [.agg (lP d.many false λ_=>0),.agg (ints 32 λ_=>0),.int .i64 14]):=by
  rw[PV];unfold JG;dsimp only;have hp:=(⟨kj,hs,PW,⟨tG,hG⟩,hk,by simp,λj hj=>zX hj⟩:JF w s r d.au ka kn kc kf d.au);exact aH (λh=>by rw[ho]at h;cases h) λ_=>⟨kf,d.au,hp,⟨pf,fq kn kf s r d.au,⟨by simp,by simp,rfl,by decide,λj hj=>zX hj,λj hj=>zX hj⟩,aH (λ_=>rfl) λh=>by rw[show mh 8 pf (fq kn kf s r d.au)=false from hr]at h;cases h⟩⟩
 refine(xE FF h).mono ?_;rintro v w' ⟨x,ids,bl,ch,rfl,hl,S,rfl⟩;exact⟨by kernel_rfl,S.ch⟩
theorem aic (ka:Option aI) (kn kc:Nat) (kf:Nat->Int) (s r:Int) (d:Sd.dG) (pf:Nat->Int) (kj:1<=kn/\kn<=64) (hs:0<=s/\s<4294967296) (PW:0<=r/\r<4294967296) (ho:d.gy=true) (hr:oT kn kf s r d.au pf=true) {tG:aD} (w:ae) (hG:w.heap[1]?=some (.cells (aq .u32 64 cx) tG (0,0))) (hk:dD w ka kn kc kf):
 aQ prog 148 #[.agg #[.int .i64 d.many,.bool d.gy,.int .u8 (d.au 0),.int .u8 (d.au 1),.int .u8 (d.au 2),.int .u8 (d.au 3),.int .u8 (d.au 4),.int .u8 (d.au 5),.int .u8 (d.au 6),.int .u8 (d.au 7)],.slice ka kn kc,.int .i64 s,.int .i64 r,.agg (aq .u8 8 pf)] w λv w1=>v=.tuple #[.agg #[.int .i64 d.many,.bool false,.int .u8 0,.int .u8 0,.int .u8 0,.int .u8 0,.int .u8 0,.int .u8 0,.int .u8 0,.int .u8 0],.agg (aq .u8 32 (gQ kn kf s r d.au)),.int .i64 0]/\Ch [] w w1:=by
 have h:mi xH 148 [.agg (lP d.many d.gy d.au),.raw (.slice ka kn kc),.int .i64 s,.int .i64 r,.agg (ints 8 pf)] [] [.aX w] (bm 0 λv _ _=>v=.ao [.agg (lP d.many false λ_=>0),.agg (ints 32 (gQ kn kf s r d.au)),.int .i64 0]):=by
  rw[PV];unfold JG;dsimp only;have hp:=(⟨kj,hs,PW,⟨tG,hG⟩,hk,by simp,λj hj=>zX hj⟩:JF w s r d.au ka kn kc kf d.au);exact aH (λh=>by rw[ho]at h;cases h) λ_=>⟨kf,d.au,hp,⟨pf,fq kn kf s r d.au,⟨by simp,by simp,rfl,by decide,λj hj=>zX hj,λj hj=>zX hj⟩,aH (λh=>by rw[show mh 8 pf (fq kn kf s r d.au)=true from hr]at h;cases h) λ_=>⟨kf,d.au,hp,rfl⟩⟩⟩
 refine(xE FF h).mono ?_;rintro v w' ⟨x,ids,bl,ch,rfl,hl,S,rfl⟩;exact⟨by kernel_rfl,S.ch⟩
def dH (z:Sd.gi) (n:Int):Sd.gi:=
 if z.any=false then⟨true,n,1⟩
 else if z.high<n then⟨true,n,bits .or .u64 (u64.wrap (z.seen*2^(min (n-z.high).toNat 64))) 1⟩
 else if z.high-n<64 then⟨true,z.high,bits .or .u64 z.seen (u64.wrap ((1:Int)*2^(min (z.high-n).toNat 64)))⟩
 else z
def FH (x y:Sd.gi):Bool:=!((x.any==y.any)&&((x.high==y.high)&&((x.seen==y.seen)&&true)))
theorem Yw (x y:Sd.gi):FH x y=false↔x=y:=by
 obtain⟨a,b,c⟩:=x;obtain⟨d,e,f⟩:=y;simp[FH]
theorem aid (z:Sd.gi) (n:Int) (h0:0<=z.high/\z.high<=4294967295) (h1:0<=n/\n<=4294967295) (w:ae):
 aQ prog 194 #[.agg (iz z),.int .i64 n] w λv w1=>v=.agg (iz (dH z n))/\Ch [] w w1:=by
 have S0:=St.nil [] w;refine il Tryz.func194 rfl ?_;refine aM (aT ?_);refine ei S0 (λb=>.pointer (some ⟨b,0,none⟩)) (.cells (iz z) 152) ?_;intro bx gP du;refine ei du (λb=>.pointer (some ⟨b,0,none⟩)) (.cells #[.bool false,.int .i64 0,.int .u64 0] 152) ?_;intro de lL cM;refine aR (aL (aM (iL (aM (aT ?_)))));refine ak (.int .i64 n) ?_;refine nA (.bool (decide (n<0))) (.bool false) (congrArg A_ (MD (by omega))) ?_;refine ak (.bool false) ?_;refine ak (.int .i64 n) ?_;refine nA (.bool (decide (4294967295<n))) (.bool false) (congrArg A_ (MD (by omega))) ?_;refine ak (.bool false) ?_;refine ak (.bool false) ?_;refine aR (aL (og ?_));refine aM (aT ?_);refine ak (.pointer (some ⟨bx,0,none⟩)) ?_;refine oe cM 1 (.bool z.any) bx 0 ?_;refine ak (.bool (!z.any)) ?_;refine ak (.bool (!z.any)) ?_;refine aR (aL ?_);refine qY (!z.any) ?_ ?_
 ·intro vm;have nH:=MG vm;refine aT ?_;refine ak (.int .i64 n) ?_;refine ak (.agg #[.bool true,.int .i64 n,.int .u64 1]) ?_;refine store_ cM 1 (.agg #[.bool true,.int .i64 n,.int .u64 1]) bx 0 ?_;intro W3 Co;refine aR (kQ (aL (aM (aT ?_))));refine jI Co 1 3 #[.bool true,.int .i64 n,.int .u64 1] bx 0 ?_;refine store_ Co 0 (.agg #[.bool true,.int .i64 n,.int .u64 1]) de 0 ?_;intro WX oL;refine aR (aL (gh ?_));refine fW rfl (fu [.cell 4 152] [.agg #[.bool true,.int .i64 n,.int .u64 1]] (.agg #[.bool true,.int .i64 n,.int .u64 1]) ⟨lV oL 0 3 de 0,trivial⟩) ?_;have ze:dH z n=(⟨true,n,1⟩:Sd.gi):=by unfold dH;(repeat' split)<;>first|rfl|omega|(simp_all;done)|(simp_all;omega)|(cases z;simp_all)
  exact⟨by(rw[ze])<;>rfl,oL.ch⟩
 intro mg;have tz:=MH mg;refine aM (aT ?_);refine ak (.int .i64 n) ?_;refine ak (.pointer (some ⟨bx,1,none⟩)) ?_;refine oe cM 1 (.int .i64 z.high) bx 1 ?_;refine ak (.bool (decide (z.high<n))) ?_;refine fL ?_;refine aR (aL ?_);refine qY (decide (z.high<n)) ?_ ?_
 ·intro kH;have kl:=yN kH;refine aM (aT ?_);refine ak (.pointer (some ⟨bx,2,none⟩)) ?_;refine oe cM 1 (.int .u64 z.seen) bx 2 ?_;refine ak (.int .i64 n) ?_;refine kA .u64 n (uy _ (by omega)) ?_;refine ak (.pointer (some ⟨bx,1,none⟩)) ?_;refine oe cM 1 (.int .i64 z.high) bx 1 ?_;refine kA .u64 z.high (uy _ (by omega)) ?_;refine kA .u64 (n-z.high) (uy _ (by omega)) ?_;refine Na .u64 .u64 z.seen (n-z.high) (by omega) ?_;refine ak (.int .u64 (bits .or .u64 (u64.wrap (z.seen*2^(min ((n-z.high)).toNat 64))) 1)) ?_;refine ak (.pointer (some ⟨bx,2,none⟩)) ?_;refine store_ cM 1 (.int .u64 (bits .or .u64 (u64.wrap (z.seen*2^(min ((n-z.high)).toNat 64))) 1)) bx 2 ?_;intro atM aie;refine aR (aL (aT ?_));refine ak (.int .i64 n) ?_;refine ak (.pointer (some ⟨bx,1,none⟩)) ?_;refine store_ aie 1 (.int .i64 n) bx 1 ?_;intro atN qp;refine aR (kQ (aL (aM (aT ?_))));refine jI qp 1 3 #[.bool z.any,.int .i64 n,.int .u64 (bits .or .u64 (u64.wrap (z.seen*2^(min ((n-z.high)).toNat 64))) 1)] bx 0 ?_;refine store_ qp 0 (.agg #[.bool z.any,.int .i64 n,.int .u64 (bits .or .u64 (u64.wrap (z.seen*2^(min ((n-z.high)).toNat 64))) 1)]) de 0 ?_;intro PH tD;refine aR (aL (gh ?_));refine fW rfl (fu [.cell 4 152] [.agg #[.bool z.any,.int .i64 n,.int .u64 (bits .or .u64 (u64.wrap (z.seen*2^(min ((n-z.high)).toNat 64))) 1)]] (.agg #[.bool z.any,.int .i64 n,.int .u64 (bits .or .u64 (u64.wrap (z.seen*2^(min ((n-z.high)).toNat 64))) 1)]) ⟨lV tD 0 3 de 0,trivial⟩) ?_;have ze:dH z n=(⟨z.any,n,(bits .or .u64 (u64.wrap (z.seen*2^(min ((n-z.high)).toNat 64))) 1)⟩:Sd.gi):=by unfold dH;(repeat' split)<;>first|rfl|omega|(simp_all;done)|(simp_all;omega)|(cases z;simp_all)
  exact⟨by(rw[ze])<;>rfl,tD.ch⟩
 intro qq;have rI:=yO qq;refine aM (aT ?_);refine ak (.pointer (some ⟨bx,1,none⟩)) ?_;refine oe cM 1 (.int .i64 z.high) bx 1 ?_;refine ak (.int .i64 n) ?_;refine kA .i64 (z.high-n) (yK _ (by omega)) ?_;refine ak (.bool (decide ((z.high-n)<64))) ?_;refine fL ?_;refine aR (aL ?_);refine qY (decide ((z.high-n)<64)) ?_ ?_
 ·intro E6;have oR:=yN E6;refine yT 7 [⟨0,λ_=>.pointer (some ⟨bx,2,none⟩),λ_=>[]⟩,⟨0,λ_=>.int .u64 z.seen,λ_=>[]⟩,⟨0,λ_=>.pointer (some ⟨bx,1,none⟩),λ_=>[]⟩,⟨0,λ_=>.int .i64 z.high,λ_=>[]⟩,⟨0,λ_=>.int .i64 n,λ_=>[]⟩,⟨0,λ_=>.int .i64 (z.high-n),λ_=>[]⟩,⟨0,λ_=>.int .u64 (u64.wrap ((1:Int)*2^(min ((z.high-n)).toNat 64))),λ_=>[]⟩] [[7,1,0],[7,1],[7,6,5,3,2],[7,6,5,3],[7,6,5,4],[7,6,5],[7,6],[8,0],[8,1],[8,2],[8,3],[8,4],[8,5],[8,6],[8,7],[9,0],[9,1],[9,2],[9,3],[9,4],[9,5],[9,6],[9,7],[9,8]] ?_ ?_
  ·refine step_cons gL ?_;refine step_cons (Ic cM 1 bx 2) ?_;refine step_cons gL ?_;refine step_cons (Ic cM 1 bx 1) ?_;refine step_cons gL ?_;refine step_cons (qS_ .i64 (z.high-n) (yK _ (by omega))) ?_;refine step_cons ?_ ?_
   ·intro aif atO aih atP aii;have qz:aif 47=.int .i64 (z.high-n):=(Sp.dq (aii 5 47 (by kernel_rfl) (by kernel_rfl))).1;have vi:=cM.quiet aih;refine ot ?_;refine lA [(47,.int .i64 (z.high-n))] (lB qz (om)) ?_;have Ju:=vi.loc;refine Y.Na .u64 .i64 1 (z.high-n) (by omega) ?_;exact⟨Ju.ch,Sp.oq [] (all_nil)⟩
   exact yS
  intro zZ atQ aij z3;have rJ:zZ 0=.pointer (some ⟨bx,2,none⟩):=(Sp.dq (z3 0 (by kernel_rfl))).1;have qB:zZ 1=.int .u64 z.seen:=(Sp.dq (z3 1 (by kernel_rfl))).1;have oQ:zZ 2=.pointer (some ⟨bx,1,none⟩):=(Sp.dq (z3 2 (by kernel_rfl))).1;have Fj:zZ 3=.int .i64 z.high:=(Sp.dq (z3 3 (by kernel_rfl))).1;have E8:zZ 4=.int .i64 n:=(Sp.dq (z3 4 (by kernel_rfl))).1;have PX:zZ 5=.int .i64 (z.high-n):=(Sp.dq (z3 5 (by kernel_rfl))).1;have PY:zZ 6=.int .u64 (u64.wrap ((1:Int)*2^(min ((z.high-n)).toNat 64))):=(Sp.dq (z3 6 (by kernel_rfl))).1;have xD:=cM.quiet aij;refine⟨[.pointer (some ⟨bx,2,none⟩),.int .u64 z.seen,.pointer (some ⟨bx,1,none⟩),.int .i64 z.high,.int .i64 n,.int .i64 (z.high-n),.int .u64 (u64.wrap ((1:Int)*2^(min ((z.high-n)).toNat 64)))],by kernel_rfl,dO rJ (dO qB (dO oQ (dO Fj (dO E8 (dO PX (dO PY (Bo))))))),?_⟩;refine ak (.int .u64 (bits .or .u64 z.seen (u64.wrap ((1:Int)*2^(min ((z.high-n)).toNat 64))))) ?_;refine ak (.pointer (some ⟨bx,2,none⟩)) ?_;refine store_ xD 1 (.int .u64 (bits .or .u64 z.seen (u64.wrap ((1:Int)*2^(min ((z.high-n)).toNat 64))))) bx 2 ?_;intro aik JH;refine aR (kQ (aL (aM (aT ?_))));refine jI JH 1 3 #[.bool z.any,.int .i64 z.high,.int .u64 (bits .or .u64 z.seen (u64.wrap ((1:Int)*2^(min ((z.high-n)).toNat 64))))] bx 0 ?_;refine store_ JH 0 (.agg #[.bool z.any,.int .i64 z.high,.int .u64 (bits .or .u64 z.seen (u64.wrap ((1:Int)*2^(min ((z.high-n)).toNat 64))))]) de 0 ?_;intro W8 Yx;refine aR (aL (gh ?_));refine fW rfl (fu [.cell 4 152] [.agg #[.bool z.any,.int .i64 z.high,.int .u64 (bits .or .u64 z.seen (u64.wrap ((1:Int)*2^(min ((z.high-n)).toNat 64))))]] (.agg #[.bool z.any,.int .i64 z.high,.int .u64 (bits .or .u64 z.seen (u64.wrap ((1:Int)*2^(min ((z.high-n)).toNat 64))))]) ⟨lV Yx 0 3 de 0,trivial⟩) ?_;have ze:dH z n=(⟨z.any,z.high,(bits .or .u64 z.seen (u64.wrap ((1:Int)*2^(min ((z.high-n)).toNat 64))))⟩:Sd.gi):=by unfold dH;(repeat' split)<;>first|rfl|omega|(simp_all;done)|(simp_all;omega)|(cases z;simp_all)
  exact⟨by(rw[ze])<;>rfl,Yx.ch⟩
 intro ail;have Ci:=yO ail;refine jr (kQ (aL (aM (aT ?_))));refine jI cM 1 3 (iz z) bx 0 ?_;refine store_ cM 0 (.agg (iz z)) de 0 ?_;intro atS Yy;refine aR (aL (gh ?_));refine fW rfl (fu [.cell 4 152] [.agg (iz z)] (.agg (iz z)) ⟨lV Yy 0 3 de 0,trivial⟩) ?_;have ze:dH z n=z:=by unfold dH;(repeat' split)<;>first|rfl|omega|(simp_all;done)|(simp_all;omega)|(cases z;simp_all)
 exact⟨by(rw[ze])<;>rfl,Yy.ch⟩
theorem aim (z:Sd.gi) (n:Int) (h0:0<=z.high/\z.high<=4294967295) (h1:0<=n/\n<=4294967295) (w:ae):
 aQ prog 151 #[.agg (iz z),.int .i64 n] w λv w1=>v=.tuple #[.agg (iz (dH z n)),.bool (FH (dH z n) z)]/\Ch [] w w1:=by
 have S0:=St.nil [] w;refine il Tryz.func151 rfl ?_;refine aM (aT ?_);refine ei S0 (λb=>.pointer (some ⟨b,0,none⟩)) (.cells (iz z) 152) ?_;intro bx gP du;refine ei du (λb=>.pointer (some ⟨b,0,none⟩)) (.cells #[.bool false,.int .i64 0,.int .u64 0] 152) ?_;intro de lL cM;refine ak (.bool false) ?_;refine aR (aL (aM (aT ?_)));refine jI cM 1 3 (iz z) bx 0 ?_;refine ak (.int .i64 n) ?_;refine fe 194 #[.agg (iz z),.int .i64 n] ?_;refine(aid z n (by omega) (by omega) _).mono ?_;rintro _ Cf ⟨rfl,nH⟩;have iy:=cM.quiet nH;refine ei iy (λb=>.pointer (some ⟨b,0,none⟩)) (.cells #[.bool false,.int .i64 0,.int .u64 0] 152) ?_;intro qu WX oL;refine store_ oL 0 (.agg (iz (dH z n))) qu 0 ?_;intro O_ nI;refine aR (aL (aM ?_));have zD:=nI.U5 1 0 3 (b:=de) (by kernel_rfl);refine U7 nI 5 4 1 de 0 [] (.agg (iz (dH z n))) [.agg (iz (dH z n)),.agg (iz (dH z n)),.agg (iz z),.bool (!(((dH z n).any==z.any)&&(((dH z n).high==z.high)&&(((dH z n).seen==z.seen)&&true)))),undef] [[5,0],[5,1],[5,2],[5,3],[5,4]] (kW (D9 zD 0 qu 0 3 (iz (dH z n))) (kW (D9 zD 0 qu 0 3 (iz (dH z n))) (kW (D9 zD 1 bx 0 3 (iz z)) (kW (Bx (h:=funext λ_=>ade true (((dH z n).any==z.any)&&(((dH z n).high==z.high)&&(((dH z n).seen==z.seen)&&true))) (iz (dH z n)) (iz z) (by rfl))) (kW (U4 nI 1 (.agg (iz (dH z n))) de 0) (M0)))))) ?_;intro Cd oM;refine fL ?_;refine aR (aL (gh ?_));refine fW rfl (fu [.cell 4 152,.tmp 5] [.agg (iz (dH z n)),.bool (!(((dH z n).any==z.any)&&(((dH z n).high==z.high)&&(((dH z n).seen==z.seen)&&true))))] (.tuple #[.agg (iz (dH z n)),.bool (!(((dH z n).any==z.any)&&(((dH z n).high==z.high)&&(((dH z n).seen==z.seen)&&true))))]) ⟨lV oM 1 3 de 0,iP,trivial⟩) ?_;exact⟨rfl,oM.ch⟩
end
end Go.Proofs.YtggfpcggakghnaaGreatDoor
namespace Sd
structure z5 (b:Prop) (r:Rec):Prop where
 kind:1<=r.kind/\r.kind<=12
 source:0<=r.source/\r.source<=4
 seq:0<=r.seq/\r.seq<=4294967295
 af:0<=r.af/\r.af<=65535
 code:b->0<=r.code/\r.code<=255
 how:0<=r.how/\r.how<=6
structure rN (r:aF):Prop where
 kind:129<=r.kind/\r.kind<=136
 seq:0<=r.seq/\r.seq<=4294967295
 role:0<=r.role/\r.role<=3
 c_:0<=r.c_/\r.c_<=4
 af:0<=r.af/\r.af<=65535
 code:0<=r.code/\r.code<=255
 au:∀j,0<=r.au j/\r.au j<=255
 ain:r.kind≠131/\r.kind≠132->r.seq=0
 aio:r.kind≠130->r.role=0
 aip:r.kind≠130/\r.kind≠134/\r.kind≠135/\r.kind≠136->r.c_=0
 aiq:r.kind≠130/\r.kind≠133/\r.kind≠134/\r.kind≠135->r.af=0
 air:r.kind≠132/\r.kind≠136->r.code=0
 ais:r.kind≠129->r.au=λ_=>0
def tJ (x:Int×aF):Prop:=(1<=x.1/\x.1<=3)/\rN x.2
structure Quiet (C:aN) (b:Prop) (s s':aa):Prop where
 aE:s'.c.t.aE=s.c.t.aE
 af:s'.c.t.af=s.c.t.af
 p:s'.c.p=s.c.p
 br:∃rs:List Rec,s'.br=s.br++rs/\(∀r∈rs,r.kind≠8/\r.af=s.c.t.af/\z5 b r)/\s'.c.head=rs.foldl C.next s.c.head
 bz:∃ts:List (Int×aF),s'.bz=s.bz++ts/\∀x∈ts,tJ x
theorem Quiet.refl (C:aN) (b:Prop) (s:aa):Quiet C b s s:=⟨rfl,rfl,rfl,⟨[],by simp,by simp,rfl⟩,⟨[],by simp,by simp⟩⟩
theorem Quiet.trans {C:aN} {b:Prop} {s t u:aa} (h:Quiet C b s t) (k:Quiet C b t u):Quiet C b s u:=by
 obtain⟨rs,r1,r2,r3⟩:=h.br;obtain⟨qs,q1,q2,q3⟩:=k.br;obtain⟨ts,t1,t2⟩:=h.bz;obtain⟨us,u1,u2⟩:=k.bz;refine⟨k.aE.trans h.aE,k.af.trans h.af,k.p.trans h.p,⟨rs++qs,by rw[q1,r1,bN],?_,by rw[q3,r3,List.foldl_append]⟩,⟨ts++us,by rw[u1,t1,bN],?_⟩⟩
 ·intro r hr;rcases ez.1 hr with hr|hr
  ·exact r2 r hr
  ·have:=q2 r hr;rw[h.af]at this;exact this
 ·intro x hx;rcases ez.1 hx with hx|hx
  ·exact t2 x hx
  ·exact u2 x hx
namespace aa
@[simp] theorem atT (s:aa) (l:Int) (r:aF):(s.tell l r).c=s.c:=rfl
@[simp] theorem atU (s:aa) (l:Int) (r:aF):(s.tell l r).br=s.br:=rfl
@[simp] theorem atV (s:aa) (l:Int) (r:aF):(s.tell l r).bz=s.bz++[(l,r)]:=rfl
@[simp] theorem kJ (s:aa) (l:Int) (r:aF):(s.dI l r).c=s.c:=by unfold dI;split<;>rfl
@[simp] theorem JI (s:aa) (l:Int) (r:aF):(s.dI l r).br=s.br:=by unfold dI;split<;>rfl
@[simp] theorem qF (s:aa) (l w c:Int):(s.gone l w c).c=s.c:=kJ ..
@[simp] theorem ait (s:aa) (l w c:Int):(s.gone l w c).br=s.br:=JI ..
@[simp] theorem atW (s:aa) (l n:Int):(s.done l n).c=s.c:=rfl
@[simp] theorem atX (s:aa) (l n:Int):(s.done l n).br=s.br:=rfl
@[simp] theorem atY (C:aN) (s:aa) (k a n e h:Int):(s.record C k a n e h).c.t=s.c.t:=rfl
@[simp] theorem atZ (C:aN) (s:aa) (k a n e h:Int):(s.record C k a n e h).c.p=s.c.p:=rfl
@[simp] theorem at0 (C:aN) (s:aa) (k a n e h:Int):(s.record C k a n e h).c.q=s.c.q:=rfl
@[simp] theorem at1 (C:aN) (s:aa) (k a n e h:Int):(s.record C k a n e h).c.ag=s.c.ag:=rfl
@[simp] theorem at2 (C:aN) (s:aa) (k a n e h:Int):(s.record C k a n e h).bz=s.bz:=rfl
@[simp] theorem at3 (C:aN) (s:aa) (k a n e h:Int):(s.record C k a n e h).br=s.br++[⟨k,a,n,s.c.t.af,e,h⟩]:=rfl
theorem FI {C:aN} {b:Prop} {s:aa} {l:Int} {r:aF} (h:tJ (l,r)):Quiet C b s (s.tell l r):=
 ⟨rfl,rfl,rfl,⟨[],by simp,by simp,rfl⟩,⟨[(l,r)],rfl,by simpa using h⟩⟩
theorem xI {C:aN} {b:Prop} {s:aa} {l:Int} {r:aF} (h:rN r):Quiet C b s (s.dI l r):=by
 unfold dI;split
 ·rename_i hh;refine FI ⟨?_,h⟩;simp[linked]at hh;exact hh.1
 ·exact Quiet.refl ..
theorem mY {C:aN} {b:Prop} {s:aa} {k a n e h:Int} (hk:k≠8) (hb:z5 b ⟨k,a,n,s.c.t.af,e,h⟩):Quiet C b s (s.record C k a n e h):=
 ⟨rfl,rfl,rfl,⟨[⟨k,a,n,s.c.t.af,e,h⟩],rfl,by simpa using⟨hk,hb⟩,rfl⟩,⟨[],by simp,by simp⟩⟩
theorem g9 {C:aN} {b:Prop} {s:aa} {c:Core} (h1:c.t.aE=s.c.t.aE) (h2:c.t.af=s.c.t.af) (h3:c.p=s.c.p) (h4:c.head=s.c.head):Quiet C b s {s with c:=c}:=
 ⟨h1,h2,h3,⟨[],by simp,by simp,h4⟩,⟨[],by simp,by simp⟩⟩
end aa
theorem Inv.head {c:Core} (h:Inv c) (x:aw):Inv {c with head:=x}:=⟨h.p,h.tok,h.q,h.ag,h.samples,h.mode,h.doors⟩
theorem Inv.record {C:aN} {s:aa} (h:Inv s.c) (k a n e w:Int):Inv (s.record C k a n e w).c:=h.head _
theorem Inv.tell {s:aa} (h:Inv s.c) (l:Int) (r:aF):Inv (s.tell l r).c:=h
theorem Inv.dI {s:aa} (h:Inv s.c) (l:Int) (r:aF):Inv (s.dI l r).c:=by rw[aa.kJ];exact h
theorem ox.drop {p:aJ} {t:az} {h h':Int} {q:List Ask} (k:ox p t h q) (s:Int) (hh:∀a∈q,a.source≠s->a.source≠h'):ox p t h' (Q.drop q s) where
 each:=by
  intro a ha;simp only[Q.drop,List.mem_filter,decide_eq_true_eq]at ha;obtain⟨a1,a2,a3,a4,a5,a6⟩:=k.each a ha.1;exact⟨a1,a2,a3,a4,hh a ha.1 ha.2,a6⟩
 sorted:=k.sorted.filter _
 len:=by have:=List.length_filter_le (λa:Ask=>decide (a.source≠s)) q;have:=k.len;unfold Q.drop;omega
theorem lC.pass {p:aJ} {ag:az} {t:Tok} (hp:eF p) {aV e:Int} (ht:0<=aV/\aV<=4) (he:p.af<=e/\e<=65535):lC p ag (t.pass aV e):=
 ⟨ht,he,.inl rfl,.inl ⟨rfl,rfl⟩⟩
structure vH (C:aN) (b:Prop) (s s':aa) (how:Int):Prop where
 p:s'.c.p=s.c.p
 aE:s'.c.t.aE≠s.c.t.aE
 offer:s'.c.t.offer=-1
 af:(s.c.t.af<65535/\s'.c.t.af=s.c.t.af+1)\/(s.c.t.af=65535/\s'.c.t.af=65535/\how=6)
 br:∃(pre:List Rec) (n:Int) (post:List Rec),s'.br=s.br++(pre++⟨8,s'.c.t.aE,n,s'.c.t.af,0,how⟩::post)/\
  (∀r∈pre,r.kind≠8/\r.af=s.c.t.af/\z5 b r)/\z5 b ⟨8,s'.c.t.aE,n,s'.c.t.af,0,how⟩/\
  (∀r∈post,r.kind≠8/\r.af=s'.c.t.af/\z5 b r)/\
  s'.c.head=(pre++⟨8,s'.c.t.aE,n,s'.c.t.af,0,how⟩::post).foldl C.next s.c.head
 bz:∃ts:List (Int×aF),s'.bz=s.bz++ts/\∀x∈ts,tJ x
theorem Quiet.goes {C:aN} {b:Prop} {s t u:aa} {how:Int} (h:Quiet C b s t) (k:vH C b t u how):vH C b s u how:=by
 obtain⟨rs,r1,r2,r3⟩:=h.br;obtain⟨pre,n,post,q1,q2,q3,q4,q5⟩:=k.br;obtain⟨ts,t1,t2⟩:=h.bz;obtain⟨us,u1,u2⟩:=k.bz;refine⟨k.p.trans h.p,by rw[<-h.aE];exact k.aE,k.offer,by have:=k.af;rw[h.af]at this;exact this,⟨rs++pre,n,post,by rw[q1,r1];simp,?_,q3,q4,by rw[q5,r3];simp[List.foldl_append]⟩,⟨ts++us,by rw[u1,t1,bN],?_⟩⟩
 ·intro r hr;rcases ez.1 hr with hr|hr
  ·exact r2 r hr
  ·have:=q2 r hr;rw[h.af]at this;exact this
 ·intro x hx;rcases ez.1 hx with hx|hx
  ·exact t2 x hx
  ·exact u2 x hx
theorem vH.quiet {C:aN} {b:Prop} {s t u:aa} {how:Int} (h:vH C b s t how) (k:Quiet C b t u) (ho:u.c.t.offer=-1):vH C b s u how:=by
 obtain⟨pre,n,post,q1,q2,q3,q4,q5⟩:=h.br;obtain⟨rs,r1,r2,r3⟩:=k.br;obtain⟨ts,t1,t2⟩:=h.bz;obtain⟨us,u1,u2⟩:=k.bz;refine⟨k.p.trans h.p,by rw[k.aE];exact h.aE,ho,by rw[k.af];exact h.af,⟨pre,n,post++rs,by rw[r1,q1,k.aE,k.af];simp,q2,by rw[k.aE,k.af];exact q3,?_,by rw[r3,q5,k.aE,k.af,<-List.foldl_append];simp⟩,⟨ts++us,by rw[u1,t1,bN],?_⟩⟩
 ·intro r hr;rw[k.af];rcases ez.1 hr with hr|hr
  ·exact q4 r hr
  ·exact r2 r hr
 ·intro x hx;rcases ez.1 hx with hx|hx
  ·exact t2 x hx
  ·exact u2 x hx
namespace aa
@[simp] theorem Yz (C:aN) (s:aa) (t:Tok) (h n:Int):(s.goes C t h n).c.t=t:=by simp[goes]
@[simp] theorem at4 (C:aN) (s:aa) (t:Tok) (h n:Int):(s.goes C t h n).c.p=s.c.p:=by simp[goes]
@[simp] theorem PZ (C:aN) (s:aa) (t:Tok) (h n:Int):(s.goes C t h n).c.q=Q.drop s.c.q t.aE:=by simp[goes]
@[simp] theorem at5 (C:aN) (s:aa) (t:Tok) (h n:Int):(s.goes C t h n).c.ag=s.c.ag:=by simp[goes]
theorem FJ (C:aN) (s:aa) (t:Tok) (h n:Int):∃x,(s.goes C t h n).c={s.c with t:=t,q:=Q.drop s.c.q t.aE,head:=x}:=by
 refine⟨(s.goes C t h n).c.head,?_⟩;simp[goes,record]
theorem aiu {c_ e:Int} (h:0<=c_/\c_<=4) (he:0<=e/\e<=65535):rN {kind:=134,c_:=c_,af:=e}:=by
 constructor<;>simp<;>omega
theorem aiv {e:Int} (he:0<=e/\e<=65535):rN {kind:=133,af:=e}:=by
 constructor<;>simp<;>omega
theorem aiw {c_ e:Int} (h:0<=c_/\c_<=4) (he:0<=e/\e<=65535):rN {kind:=135,c_:=c_,af:=e}:=by
 constructor<;>simp<;>omega
theorem FK {c_ c:Int} (h:0<=c_/\c_<=4) (hc:0<=c/\c<=255):rN {kind:=136,c_:=c_,code:=c}:=by
 constructor<;>simp<;>omega
theorem aix {n:Int} (h:0<=n/\n<=4294967295):rN {kind:=131,seq:=n}:=by
 constructor<;>simp<;>omega
theorem aiy {n c:Int} (h:0<=n/\n<=4294967295) (hc:0<=c/\c<=255):rN {kind:=132,seq:=n,code:=c}:=by
 constructor<;>simp<;>omega
theorem aiz {r w e:Int} (h:0<=r/\r<=3) (hw:0<=w/\w<=4) (he:0<=e/\e<=65535):rN {kind:=130,role:=r,c_:=w,af:=e}:=by
 constructor<;>simp<;>omega
theorem aiA {n:aw} (h:∀j,0<=n j/\n j<=255):rN {kind:=129,au:=n}:=by
 constructor<;>simp<;>omega
theorem FL {C:aN} {b:Prop} {s:aa} {t:Tok} {how n:Int} (hh:0<=t.aE/\t.aE<=4) (hn:t.aE≠s.c.t.aE) (ho:t.offer=-1)
 (he:(s.c.t.af<65535/\t.af=s.c.t.af+1)\/(s.c.t.af=65535/\t.af=65535/\how=6)) (hs:0<=s.c.t.af)
 (YA:0<=how/\how<=6) (at6:0<=n/\n<=4294967295):vH C b s (s.goes C t how n) how:=by
 have et:0<=t.af/\t.af<=65535:=by omega
 have q2:Quiet C b ({s with c:={s.c with t:=t,q:=Q.drop s.c.q t.aE}}:aa) ((({s with c:={s.c with t:=t,q:=Q.drop s.c.q t.aE}}:aa).dI s.c.t.aE {kind:=134,c_:=t.aE,af:=t.af}).dI t.aE {kind:=133,af:=t.af}):=
  (xI (aiu hh et)).trans (xI (aiv et))
 obtain⟨ts,t1,t2⟩:=q2.bz;exact⟨by simp,by simpa using hn,by simpa using ho,by simpa using he,
  ⟨[],n,[],by simp[goes],by simp,by constructor<;>simp<;>omega,by simp,by simp[goes,record]⟩,
  ⟨ts,by simpa[goes]using t1,t2⟩⟩
end aa
theorem JJ {t:Tok} {aV:Int} (h:(t.c9 aV).2=0):(t.c9 aV).1=t.pass aV (t.af+1)/\0<=aV/\aV<=4/\aV≠t.aE/\t.af<65535:=by
 unfold Tok.c9 at*;split at h
 ·simp at h
 ·split at h
  ·simp at h
  ·split at h
   ·simp at h
   ·rename_i a b c;simp[a,b,c];omega
theorem JK (t:Tok) (aV:Int):0<=(t.c9 aV).2/\(t.c9 aV).2<=25:=by
 unfold Tok.c9;split<;>(try split)<;>(try split)<;>simp
structure rO (m:bo):Prop where
 kind:1<=m.kind/\m.kind<=11
 seq:0<=m.seq/\m.seq<=4294967295
 role:0<=m.role/\m.role<=3
 aV:0<=m.aV/\m.aV<=4
 af:0<=m.af/\m.af<=65535
 mode:0<=m.mode/\m.mode<=4
 cls:0<=m.cls/\m.cls<=3
 at7:m.kind=11->1<=m.cls
def tK (vI now:Core) (kind link how:Int):Prop:=
 (how=1/\kind=0/\vI.t.offer=now.t.aE/\link=now.t.aE)\/
 (how=2/\kind<2/\(∃a l,vI.q=a::l/\a.source=now.t.aE)/\(kind=1↔vI.t.aE=0))\/
 (how=3/\kind=0/\link=now.t.aE/\ff vI.p now.t.aE vI.t.aE=true/\vI.t.bad=false)\/
 (how=4/\kind=1/\now.t.aE=0)\/
 (how=5/\kind=3/\now.ag.on vI.t.aE=false/\now.ag.on now.t.aE=true)\/
 (how=6/\now.t.aE=4/\((kind=2/\now.t.bad=true)\/(kind=3/\vI.t.af=65535/\now.ag.on vI.t.aE=false)))
structure eL (C:aN) (b:Prop) (s s':aa) (kind link:Int):Prop where
 inv:Inv s'.c
 z6:Quiet C b s s'\/∃how,vH C b s s' how/\tK s.c s'.c kind link how
theorem eL.jF {C:aN} {b:Prop} {s s':aa} {kind link:Int} (h:Inv s'.c) (q:Quiet C b s s'):eL C b s s' kind link:=⟨h,.inl q⟩
theorem Inv.JL {c:Core} (h:Inv c) {t:Tok} {q:List Ask} (ht:lC c.p c.ag t) (hq:ox c.p c.ag t.aE q):Inv {c with t:=t,q:=q}:=
 ⟨h.p,ht,hq,h.ag,h.samples,h.mode,h.doors⟩
theorem Inv.goes {C:aN} {s:aa} (h:Inv s.c) {t:Tok} {how n:Int} (ht:lC s.c.p s.c.ag t):Inv (s.goes C t how n).c:=by
 obtain⟨x,hx⟩:=aa.FJ C s t how n;rw[hx];exact(h.JL ht (h.q.drop t.aE (λa _ ha=>ha))).head x
variable{C:aN} {b:Prop} {s:aa} {l:Int} {m:bo}
theorem Inv.km {c:Core} (h:Inv c):0<=c.t.af/\c.t.af<=65535:=by have:=h.tok.af;have:=h.p.af;omega
theorem P1 {n e:Int} (h:Inv s.c) (hl:1<=l/\l<=3) (hn:0<=n/\n<=4294967295) (he:0<=e/\e<=255):Quiet C b s (s.refuse C l n e):=by
 have:=h.km;exact(aa.FI ⟨hl,aa.aiy hn he⟩).trans (aa.mY (by simp) (by constructor<;>simp<;>omega))
theorem vJ {n e kind link:Int} (h:Inv s.c) (hl:1<=l/\l<=3) (hn:0<=n/\n<=4294967295) (he:0<=e/\e<=255):eL C b s (s.refuse C l n e) kind link:=
 .jF (h.head _) (P1 h hl hn he)
theorem YB {e:Int} (h:Inv s.c) (hl:1<=l/\l<=3) (he:b->0<=e/\e<=255):Quiet C b s (s.gY C l e):=by
 have:=h.km;exact aa.mY (by simp) (by constructor<;>simp<;>first|omega|exact he)
theorem FM {e kind link:Int} (h:Inv s.c) (hl:1<=l/\l<=3) (he:b->0<=e/\e<=255):eL C b s (s.gY C l e) kind link:=
 .jF (h.head _) (YB h hl he)
theorem YC {n:Int} (hl:1<=l/\l<=3) (hn:0<=n/\n<=4294967295):Quiet C b s (s.done l n):=aa.FI ⟨hl,aa.aix hn⟩
theorem xJ {t:aa} {n kind link:Int} (h:eL C b s t kind link) (hl:1<=l/\l<=3) (hn:0<=n/\n<=4294967295):eL C b s (t.done l n) kind link:=
 ⟨h.inv,h.z6.imp (λq=>q.trans (YC hl hn)) (λ⟨how,g,k⟩=>⟨how,g.quiet (YC hl hn) g.offer,k⟩)⟩
theorem aiB (p:aJ) (t:Tok) (f o:Int) (th:Bool):0<=(t.make p f o th).2/\(t.make p f o th).2<=28:=by
 unfold Tok.make;repeat' split
 all_goals simp
theorem aiC {p:aJ} {t:Tok} {f o:Int} {th:Bool} (h:(t.make p f o th).2=0):
 (t.make p f o th).1={t with offer:=o,oa:=.start p.offer}/\f=t.aE/\t.af<65535/\o≠f/\1<=o/\o<=3/\th=true/\t.offer<0:=by
 unfold Tok.make at*;split at h
 ·simp at h
 split at h
 ·simp at h
 split at h
 ·simp at h
 split at h
 ·simp at h
 split at h
 ·simp at h
 rename_i h1 h2 h3 h4 h5;have h6:th=true:=by
  cases th
  ·exact absurd (.inr (.inr rfl)) h4
  ·rfl
 rw[if_neg h1,if_neg h2,if_neg h3,if_neg h4,if_neg h5];exact⟨rfl,by simpa using h1,by omega,h3,by omega,by omega,h6,by omega⟩
theorem aiD (t:Tok) (f e:Int):0<=(t.accept f e).2/\(t.accept f e).2<=28:=by
 unfold Tok.accept;split
 ·simp
 split
 ·simp
 have:=JK t f;omega
theorem aiE {t:Tok} {f e:Int} (h:(t.accept f e).2=0):
 (t.accept f e).1=t.pass f (t.af+1)/\t.offer=f/\e=t.af/\0<=f/\f<=4/\f≠t.aE/\t.af<65535:=by
 unfold Tok.accept at*;split at h
 ·simp at h
 split at h
 ·simp at h
 rename_i h1 h2;obtain⟨g1,g2,g3,g4,g5⟩:=JJ h;have h3:t.offer=f:=by
  by_cases hx:t.offer=f
  ·exact hx
  ·exact absurd (.inr hx) h1
 rw[if_neg h1,if_neg h2];exact⟨g1,h3,by simpa using h2,g2,g3,g4,g5⟩
theorem aiF (t:Tok) (f:Int):0<=(t.fg f).2/\(t.fg f).2<=28:=by
 unfold Tok.fg;split<;>simp
theorem aiG {t:Tok} {f:Int} (h:(t.fg f).2=0):(t.fg f).1=t.gX/\t.offer=f:=by
 unfold Tok.fg at*;split at h
 ·simp at h
 rename_i h1;rw[if_neg h1];refine⟨rfl,?_⟩;by_cases hx:t.offer=f
 ·exact hx
 ·exact absurd (.inr hx) h1
theorem aiH (h:Inv s.c) (hl:1<=l/\l<=3) (hm:rO m):eL C b s (s.offer C l m) 0 l:=by
 have he:=h.km;unfold aa.offer;dsimp only;split
 ·have:=aiB s.c.p s.c.t l m.aV (s.c.ag.on m.aV);exact vJ h hl hm.seq (by omega)
 rename_i hz;obtain⟨g1,g2,g3,g4,g5,g6,g7,g8⟩:=aiC (by simpa using hz);rw[g1];refine xJ ?_ hl hm.seq;have ht:lC s.c.p s.c.ag {s.c.t with offer:=m.aV,oa:=Timer.start s.c.p.offer}:=
  ⟨h.tok.aE,h.tok.af,.inr ⟨g5,g6,by simp;omega,g7,by simp[Timer.start];have:=h.p.offer;omega,by simp[Timer.start],by simp[Timer.start];have:=h.p.offer;omega⟩,h.tok.lost⟩
 refine .jF ?_ ?_
 ·exact Inv.record (Inv.dI (s:=s.dQ _) (h.JL ht h.q) _ _) ..
 ·have hh:=h.tok.aE;refine Quiet.trans (t:=s.dQ {s.c.t with offer:=m.aV,oa:=Timer.start s.c.p.offer}) (aa.g9 rfl rfl rfl rfl) ?_;refine Quiet.trans (aa.xI (aa.aiw (by omega) (by simpa using he))) (aa.mY (by simp) ?_);have:=hm.seq;constructor<;>simp[aa.dQ]<;>omega
theorem aiI (h:Inv s.c) (hl:1<=l/\l<=3) (hm:rO m):eL C b s (s.accept C l m) 0 l:=by
 have he:=h.km;unfold aa.accept;dsimp only;split
 ·have:=aiD s.c.t l m.af;exact vJ h hl hm.seq (by omega)
 rename_i hz;obtain⟨g1,g0,ge,g2,g3,g4,g5⟩:=aiE (by simpa using hz);rw[g1];refine xJ ⟨?_,.inr ⟨1,?_,?_⟩⟩ hl hm.seq
 ·exact h.goes (lC.pass h.p (by omega) (by have:=h.tok.af;omega))
 ·exact aa.FL (by simp[Tok.pass];omega) (by simpa[Tok.pass]using g4) rfl (.inl ⟨g5,rfl⟩) he.1 (by simp) hm.seq
 ·exact .inl ⟨rfl,rfl,by simpa[Tok.pass]using g0,by simp[Tok.pass]⟩
theorem aiJ (h:Inv s.c) (hl:1<=l/\l<=3) (hm:rO m):eL C b s (s.fg C l m) 0 l:=by
 have he:=h.km;unfold aa.fg;dsimp only;split
 ·have:=aiF s.c.t l;exact vJ h hl hm.seq (by omega)
 rename_i hz;obtain⟨g1,g2⟩:=aiG (by simpa using hz);rw[g1];refine xJ ?_ hl hm.seq;have ht:lC s.c.p s.c.ag s.c.t.gX:=⟨h.tok.aE,h.tok.af,.inl rfl,h.tok.lost⟩;refine .jF ?_ ?_
 ·exact Inv.record (Inv.dI (s:=s.dQ _) (h.JL ht h.q) _ _) ..
 ·refine Quiet.trans (t:=s.dQ s.c.t.gX) (aa.g9 rfl rfl rfl rfl) ?_;refine Quiet.trans (aa.xI (aa.FK (by omega) (by simp))) (aa.mY (by simp) ?_);have:=hm.seq;constructor<;>simp[aa.dQ,Tok.gX]<;>omega
end Sd
namespace Sd
theorem mem_insert {q:List Ask} {a x:Ask}:x∈Q.insert q a↔x=a\/x∈q:=by
 unfold Q.insert;rw[ez,bY];have:=as5 (p:=λx:Ask=>decide (x.bD<=a.bD)) (l:=q);constructor
 ·rintro(h|h|h)
  ·exact .inr (List.takeWhile_prefix _|>.subset h)
  ·exact .inl h
  ·exact .inr (List.dropWhile_suffix _|>.subset h)
 ·rintro(h|h)
  ·exact .inr (.inl h)
  ·rw[<-this,ez]at h;rcases h with h|h
   ·exact .inl h
   ·exact .inr (.inr h)
theorem length_insert (q:List Ask) (a:Ask):(Q.insert q a).length=q.length+1:=by
 have:=congrArg List.length (as5 (p:=λx:Ask=>decide (x.bD<=a.bD)) (l:=q));simp only[fi]at this;simp only[Q.insert,fi,ly];omega
theorem aiK (y:Ask) (q:List Ask) (a:Ask):Q.insert (y::q) a=if y.bD<=a.bD then y::Q.insert q a else a::y::q:=by
 unfold Q.insert;simp only[List.takeWhile_cons,List.dropWhile_cons];by_cases h:y.bD<=a.bD<;>simp[h]
theorem insert_sorted {q:List Ask} {a:Ask} (h:q.Pairwise λa b=>a.bD<b.bD) (hn:∀x∈q,x.bD≠a.bD):(Q.insert q a).Pairwise λa b=>a.bD<b.bD:=by
 induction q with
 |nil=>simp[Q.insert]
 |cons y q ih=>
  rw[aiK];rw[yH]at h;have hy:=hn y (by simp);split
  ·rw[yH];refine⟨λx hx=>?_,ih h.2 (λx hx=>hn x (by simp[hx]))⟩;rcases mem_insert.1 hx with rfl|hx
   ·omega
   ·exact h.1 x hx
  ·rw[yH,yH];refine⟨λx hx=>?_,h.1,h.2⟩;rcases bY.1 hx with rfl|hx
   ·omega
   ·have:=h.1 x hx;omega
theorem aiL (most:Int) (q:List Ask) (a:Ask):0<=(Q.push most q a).2/\(Q.push most q a).2<=27:=by
 unfold Q.push;repeat' split
 all_goals simp
theorem aiM {most:Int} {q:List Ask} {a:Ask} (h:(Q.push most q a).2=0):(Q.push most q a).1=Q.insert q a/\Q.waits q a.source=false/\(q.length:Int)<most:=by
 unfold Q.push at*;split at h
 ·simp at h
 split at h
 ·simp at h
 rename_i h1 h2;rw[if_neg h1,if_neg h2];exact⟨rfl,by simpa using h1,by omega⟩
theorem aiN {q:List Ask} {s:Int} (h:Q.waits q s=false):∀x∈q,x.source≠s:=by
 intro x hx e;have:Q.waits q s=true:=by unfold Q.waits;rw[yA];exact⟨x,hx,by simp[e]⟩
 rw[this]at h;cases h
theorem ox.insert {p:aJ} {t:az} {h:Int} {q:List Ask} (hp:eF p) (k:ox p t h q) {s:Int} (hs:1<=s/\s<=3) (iA:t.on s=true) (hh:s≠h)
 (hw:Q.waits q s=false) (hl:(q.length:Int)<p.queue):ox p t h (Q.insert q ⟨s,bD p s,.start p.ask⟩) where
 each:=by
  intro a ha;rcases mem_insert.1 ha with rfl|ha
  ·have:=hp.ask;refine⟨rfl,hs.1,hs.2,iA,hh,?_,?_,?_⟩<;>simp[Timer.start]<;>omega
  ·exact k.each a ha
 sorted:=insert_sorted k.sorted (λx hx e=>by
  have h1:=k.each x hx;have h2:=aiN hw x hx;rw[h1.1]at e;exact h2 (Vi hp (by omega) (by omega) e))
 len:=by rw[length_insert];omega
theorem aiO {p:aJ} {t:Tok} {most:Int} {q:List Ask} {f:Int} {now:Bool}:0<=(fI p t most q f now).2.2.1/\(fI p t most q f now).2.2.1<=29:=by
 unfold fI;have h1:=JK t f;have h2:=aiL most q ⟨f,bD p f,.start p.ask⟩
 repeat' split
 all_goals first|(simp;done)|(simp;omega)|omega
theorem aiP {p:aJ} {t:Tok} {most:Int} {q:List Ask} {f:Int} {now:Bool} (h:(fI p t most q f now).2.2.1=0):
 t.bad=false/\f≠t.aE/\t.af<65535/\
 ((fI p t most q f now=(t.pass f (t.af+1),3,0,Q.drop q f)/\0<=f/\f<=4/\(t.aE=4\/ff p f t.aE=true))\/
  (fI p t most q f now=(t,0,0,Q.insert q ⟨f,bD p f,.start p.ask⟩)/\Q.waits q f=false/\(q.length:Int)<most/\t.aE≠4/\now=false)):=by
 unfold fI at*;split at h
 ·simp at h
 split at h
 ·simp at h
 split at h
 ·simp at h
 rename_i h1 h2 h3;rw[if_neg h1,if_neg h2,if_neg h3];refine⟨by simpa using h1,h2,by omega,?_⟩;split at h
 ·rename_i h4;rw[if_pos h4];split at h
  ·rename_i h5;exact absurd h h5
  ·rename_i h5;rw[if_neg h5];obtain⟨g1,g2,g3,g4,g5⟩:=JJ (by simpa using h5);exact .inl ⟨by rw[g1],g2,g3,h4.imp id And.right⟩
 ·rename_i h4;rw[if_neg h4];split at h
  ·simp at h
  ·rename_i h5;rw[if_neg h5];obtain⟨g1,g2,g3⟩:=aiM h;refine .inr ⟨?_,g2,g3,λe=>h4 (.inl e),by simpa using h5⟩;rw[g1];exact Prod.ext rfl (Prod.ext rfl (Prod.ext h rfl))
theorem aiQ (t:Tok) (q:List Ask):0<=(eT t q).2.1/\(eT t q).2.1<=25:=by
 unfold eT;split
 ·simp
 ·rename_i a l;have:=JK t a.source;split<;>first|(simp;done)|(simp;omega)|omega
theorem aiR {t:Tok} {q:List Ask} (h:(eT t q).2.1=0):
 ∃a l,q=a::l/\eT t q=(t.pass a.source (t.af+1),0,Q.drop q a.source)/\0<=a.source/\a.source<=4/\a.source≠t.aE/\t.af<65535:=by
 unfold eT at*;split at h
 ·simp at h
 ·rename_i a l;split at h
  ·rename_i h5;exact absurd h h5
  ·rename_i h5;obtain⟨g1,g2,g3,g4,g5⟩:=JJ (by simpa using h5);refine⟨a,l,rfl,?_,g2,g3,g4,g5⟩;show(if(t.c9 a.source).2≠0 then _ else _)=_;rw[if_neg h5,g1]
theorem YD (t:Tok) (q:List Ask) (f:Int):0<=(cQ t q f).2.1/\(cQ t q f).2.1<=25:=by
 unfold cQ;have:=aiQ t q
 repeat' split
 all_goals first|(simp;done)|(simp;omega)|omega
theorem YE {t:Tok} {q:List Ask} {f:Int} (h:(cQ t q f).2.1=0):
 f=t.aE/\∃a l,q=a::l/\cQ t q f=(t.pass a.source (t.af+1),0,Q.drop q a.source)/\0<=a.source/\a.source<=4/\a.source≠t.aE/\t.af<65535:=by
 unfold cQ at*;split at h
 ·simp at h
 split at h
 ·simp at h
 rename_i h1 h2;rw[if_neg h1,if_neg h2];exact⟨by simpa using h1,aiR h⟩
variable{C:aN} {b:Prop} {s:aa} {l:Int} {m:bo}
theorem FN {kind link how n f:Int} {q:List Ask} (h:Inv s.c) (hf:0<=f/\f<=4) (hq:∃x,q=Q.drop s.c.q x) (bZ:f≠s.c.t.aE) (he:s.c.t.af<65535)
 (YA:0<=how/\how<=6) (hn:0<=n/\n<=4294967295)
 (hk:tK s.c (aa.goes C ({s with c:={s.c with q:=q}}:aa) (s.c.t.pass f (s.c.t.af+1)) how n).c kind link how):
 eL C b s (aa.goes C ({s with c:={s.c with q:=q}}:aa) (s.c.t.pass f (s.c.t.af+1)) how n) kind link:=by
 have e0:=h.km;obtain⟨x,rfl⟩:=hq;have h1:Inv ({s.c with q:=Q.drop s.c.q x}:Core):=⟨h.p,h.tok,h.q.drop x (λa ha hx=>(h.q.each a ha).2.2.2.2.1),h.ag,h.samples,h.mode,h.doors⟩;refine⟨?_,.inr ⟨how,?_,hk⟩⟩
 ·exact Inv.goes (s:={s with c:={s.c with q:=Q.drop s.c.q x}}) h1 (lC.pass h.p hf (by have:=h.tok.af;omega))
 ·have q0:Quiet C b s ({s with c:={s.c with q:=Q.drop s.c.q x}}:aa):=aa.g9 rfl rfl rfl rfl;exact q0.goes (aa.FL (by simp[Tok.pass];omega) (by simpa[Tok.pass]using bZ) rfl (.inl ⟨he,rfl⟩) e0.1 YA hn)
theorem aiS (h:Inv s.c) (hl:1<=l/\l<=3) (hm:rO m):eL C b s (s.release C l m) 0 l:=by
 unfold aa.release;dsimp only;split
 ·have h2:=YD s.c.t s.c.q l;exact vJ h hl hm.seq ⟨h2.1,Bc h2.2 (by decide)⟩
 rename_i hz;obtain⟨g0,a,r,g1,g2,g3,g4,g5,g6⟩:=YE (by simpa using hz);rw[g2];refine xJ (FN h ⟨g3,g4⟩ ⟨_,rfl⟩ g5 g6 (by simp) hm.seq ?_) hl hm.seq;refine .inr (.inl ⟨rfl,by simp,⟨a,r,g1,by simp[Tok.pass]⟩,?_⟩);simp;omega
theorem aiT (h:Inv s.c) (hl:1<=l/\l<=3) (hm:rO m) (iA:s.c.ag.on l=true):eL C b s (s.ask C l m) 0 l:=by
 have e0:=h.km;unfold aa.ask;dsimp only;split
 ·have h2:=@aiO s.c.p s.c.t s.c.p.queue s.c.q l m.now;exact vJ h hl hm.seq ⟨h2.1,Bc h2.2 (by decide)⟩
 rename_i hz;obtain⟨g1,g2,g3,g4⟩:=aiP (by simpa using hz);refine xJ ?_ hl hm.seq;rcases g4 with⟨g4,g5,g6,g7⟩|⟨g4,g5,g6,g7⟩
 ·rw[g4];rw[if_pos (by simp)];refine FN h ⟨g5,g6⟩ ⟨_,rfl⟩ g2 g3 (by simp) hm.seq ?_;refine .inr (.inr (.inl ⟨rfl,rfl,by simp[Tok.pass],?_,g1⟩));simp only[aa.Yz,Tok.pass];rcases g7 with g7|g7
  ·rw[g7,adh h.p (by omega) (by omega)];simpa using adi h.p (by omega)
  ·exact g7
 ·rw[g4];rw[if_neg (by simp)];refine .jF ?_ ?_
  ·refine Inv.record (s:=({s with c:={s.c with q:=Q.insert s.c.q ⟨l,bD s.c.p l,Timer.start s.c.p.ask⟩}}:aa).dQ s.c.t) (h.JL h.tok ?_) ..;exact h.q.insert h.p hl iA g2 g5 g6
  ·refine Quiet.trans (t:=({s with c:={s.c with q:=Q.insert s.c.q ⟨l,bD s.c.p l,Timer.start s.c.p.ask⟩}}:aa).dQ s.c.t) (aa.g9 rfl rfl rfl rfl) (aa.mY (by simp) ?_);have:=hm.seq;constructor<;>simp[aa.dQ]<;>omega
theorem P2 (p:aJ) (t:Tok) (a r mo:Int) (m:bo):0<=lZ p t a r mo m/\lZ p t a r mo m<=23:=by
 unfold lZ;by_cases h1:m.kind≠10/\m.kind≠11
 ·rw[if_pos h1];simp
 rw[if_neg h1];by_cases h2:a≠t.aE
 ·rw[if_pos h2];simp
 rw[if_neg h2];by_cases h3:m.af≠t.af
 ·rw[if_pos h3];simp
 rw[if_neg h3];by_cases h4:may p mo r (if m.kind=10 then 0 else m.cls)=false
 ·rw[if_pos h4];simp
 rw[if_neg h4];by_cases h5:m.kind=10/\Sd.goes p mo m.mode=false
 ·rw[if_pos h5];simp
 ·rw[if_neg h5];simp
theorem aiU (h:Inv s.c) (hl:1<=l/\l<=3) (hm:rO m):eL C b s (s.command C l m) 0 l:=by
 have e0:=h.km;unfold aa.command;dsimp only;split
 ·have:=P2 s.c.p s.c.t l (s.c.ag.role l) s.c.mode m;exact vJ h hl hm.seq (by omega)
 refine xJ ?_ hl hm.seq;have:=hm.seq;split
 ·refine .jF (Inv.head (c:={s.c with mode:=m.mode,fm:=_}) ⟨h.p,h.tok,h.q,h.ag,h.samples,hm.mode,h.doors⟩ _) ?_;refine Quiet.trans (t:={s with c:={s.c with mode:=m.mode,fm:=⟨1,l,m.seq⟩}}) (aa.g9 rfl rfl rfl rfl) (aa.mY (by simp) ?_);constructor<;>simp<;>omega
 ·refine .jF (Inv.head (c:={s.c with pt:=s.c.pt.set s.c.p m.cls m.x ⟨1,l,m.seq⟩}) ⟨h.p,h.tok,h.q,h.ag,h.samples,h.mode,h.doors⟩ _) ?_;refine Quiet.trans (t:={s with c:={s.c with pt:=s.c.pt.set s.c.p m.cls m.x ⟨1,l,m.seq⟩}}) (aa.g9 rfl rfl rfl rfl) (aa.mY (by simp) ?_);constructor<;>simp<;>omega
end Sd
namespace Sd
variable{C:aN} {b:Prop} {s:aa} {l:Int} {m:bo}
theorem JM (t:Tok) (x:Int):(t.drop x).1.aE=t.aE/\(t.drop x).1.af=t.af/\(t.drop x).1.la=t.la/\(t.drop x).1.bad=t.bad/\
 ((t.drop x).1=t/\(t.drop x).2=false/\(t.offer<0\/t.offer≠x)\/(t.drop x).1=t.gX/\(t.drop x).2=true/\t.offer=x):=by
 unfold Tok.drop;split
 ·rename_i h;exact⟨rfl,rfl,rfl,rfl,.inl ⟨rfl,rfl,h⟩⟩
 ·rename_i h;refine⟨rfl,rfl,rfl,rfl,.inr ⟨rfl,rfl,?_⟩⟩;by_cases hx:t.offer=x
  ·exact hx
  ·exact absurd (.inr hx) h
theorem P3 (C:aN) (s:aa) (x:Int):∃hd,(s.leave C x).c={s.c with q:=Q.drop s.c.q x,t:=(s.c.t.drop x).1,head:=hd}:=by
 unfold aa.leave;dsimp only;rcases(JM s.c.t x).2.2.2.2 with⟨h1,h2,_⟩|⟨h1,h2,_⟩
 ·rw[if_pos h2,h1];exact⟨s.c.head,rfl⟩
 ·rw[if_neg (by rw[h2];simp)];refine⟨C.next s.c.head ⟨12,x,0,(s.c.t.drop x).1.af,16,0⟩,?_⟩;rw[show∀(y:aa) (k a n e w:Int),(y.record C k a n e w).c={y.c with head:=C.next y.c.head ⟨k,a,n,y.c.t.af,e,w⟩}from λ_ _ _ _ _ _=>rfl];simp only[aa.qF]
theorem YF {x:Int} (hx:1<=x/\x<=3) (he:0<=s.c.t.af/\s.c.t.af<=65535):Quiet C b s (s.leave C x):=by
 unfold aa.leave;dsimp only;have q0:Quiet C b s ({s with c:={s.c with q:=Q.drop s.c.q x}}:aa):=aa.g9 rfl rfl rfl rfl;have hd:=JM s.c.t x;split
 ·exact q0
 ·refine q0.trans (Quiet.trans (t:=({s with c:={s.c with q:=Q.drop s.c.q x,t:=(s.c.t.drop x).1}}:aa)) (aa.g9 hd.1 hd.2.1 rfl rfl) ?_);refine Quiet.trans (aa.xI (aa.FK (by omega) (by simp))) (aa.mY (by simp) ?_);have e:(({s with c:={s.c with q:=Q.drop s.c.q x,t:=(s.c.t.drop x).1}}:aa).dI (s.c.t.drop x).1.aE {kind:=136,c_:=x,code:=16}).c.t.af=s.c.t.af:=by
   rw[aa.kJ];exact hd.2.1
  constructor<;>first|(dsimp only;rw[e];exact he)|(simp;done)|(simp;omega)
theorem Inv.leave {T:az} {x:Int} (h:Inv {s.c with ag:=T}):Inv {(s.leave C x).c with ag:=T}/\(s.leave C x).c.ag=s.c.ag/\(s.leave C x).c.p=s.c.p/\
 (s.leave C x).c.q=Q.drop s.c.q x/\(s.leave C x).c.t.offer≠x/\((s.leave C x).c.t.offer=s.c.t.offer\/(s.leave C x).c.t.offer=-1)/\(s.leave C x).c.t.aE=s.c.t.aE\/x<0:=by
 by_cases hx:x<0
 ·exact .inr hx
 refine .inl ?_;obtain⟨hd,e⟩:=P3 C s x;have FO:=JM s.c.t x;rw[e];refine⟨?_,rfl,rfl,rfl,?_,?_,FO.1⟩
 ·have ht:lC s.c.p T (s.c.t.drop x).1:=by
   rcases FO.2.2.2.2 with⟨h1,_,_⟩|⟨h1,_,_⟩
   ·rw[h1];exact h.tok
   ·rw[h1];exact⟨h.tok.aE,h.tok.af,.inl rfl,h.tok.lost⟩
  exact⟨h.p,ht,h.q.drop x (λa ha _=>by show a.source≠(s.c.t.drop x).1.aE;rw[FO.1];exact(h.q.each a ha).2.2.2.2.1),h.ag,h.samples,h.mode,h.doors⟩
 ·show(s.c.t.drop x).1.offer≠x;rcases FO.2.2.2.2 with⟨h1,_,h2⟩|⟨h1,_,_⟩
  ·rw[h1];omega
  ·rw[h1];simp[Tok.gX];omega
 ·show(s.c.t.drop x).1.offer=s.c.t.offer\/(s.c.t.drop x).1.offer=-1;rcases FO.2.2.2.2 with⟨h1,_,h2⟩|⟨h1,_,_⟩
  ·rw[h1];exact .inl rfl
  ·rw[h1];exact .inr rfl
theorem Inv.CA {c:Core} {T:az} (h:Inv {c with ag:=T}) (e:c.ag=T):Inv c:=by subst e;exact h
theorem Inv.JN {c:Core} {T T':az} (h:Inv {c with ag:=T}) (ht:BF c.p T') (hq:∀a∈c.q,T'.on a.source=true) (ho:0<=c.t.offer->T'.on c.t.offer=true):Inv {c with ag:=T'}:=
 ⟨h.p,⟨h.tok.aE,h.tok.af,h.tok.offer.imp id (λ⟨a,b,d,_,f⟩=>⟨a,b,d,ho (Bc (by decide) a),f⟩),h.tok.lost⟩,
  ⟨λa ha=>⟨(h.q.each a ha).1,(h.q.each a ha).2.1,(h.q.each a ha).2.2.1,hq a ha,(h.q.each a ha).2.2.2.2⟩,h.q.sorted,h.q.len⟩,ht,h.samples,h.mode,h.doors⟩
theorem aiV {t:az} {i:Nat} {x:gz} {u:Int} (hu:u.toNat-1≠i):(t.dW i x).on u=t.on u:=by
 simp[az.on,az.dt,az.dW,hu]
theorem JO {t:az} {u:Int} {i:Nat} {x:gz} (h:t.on u=true) (hx:x.on=true):(t.dW i x).on u=true:=by
 unfold az.on az.dt az.dW at*;split at h
 ·rename_i h1;rw[if_pos h1]
 ·rename_i h1;rw[if_neg h1];split at h
  ·rename_i h2;rw[if_pos h2];exact h
  ·rename_i h2;rw[if_neg h2];simp only[a_]at h⊢;refine⟨h.1,?_⟩;split
   ·exact hx
   ·exact h.2
theorem aiW {p:aJ} {t:az} (h:BF p t) (l:Int):BF p (t.end_ l):=by
 unfold az.end_;split
 ·refine⟨h.cO,λi hi iA=>?_⟩;unfold az.dW at*;dsimp only at*;split at iA
  ·cases iA
  ·rename_i bZ;rw[if_neg bZ];exact h.aj i hi iA
 ·exact h
theorem YG {t:az} {l u:Int} (hl:1<=l/\l<=3) (hu:u≠l) (h:t.on u=true):(t.end_ l).on u=true:=by
 unfold az.end_;split
 ·by_cases h1:u=4
  ·simp[az.on,h1]
  by_cases h2:u=0
  ·subst h2;simpa[az.on,az.dW]using h
  have h3:1<=u/\u<=3:=by
   unfold az.on az.dt at h;rw[if_neg h1,if_neg h2]at h;simp at h;exact h.1
  rw[aiV (by omega)];exact h
 ·exact h
theorem aiX (h:Inv s.c) (hl:1<=l/\l<=3) (hm:rO m):eL C b s (s.zf C l m) 0 l:=by
 have e0:=h.km;unfold aa.zf;refine xJ ?_ hl hm.seq;have hq:Quiet C b s ((({s with c:={s.c with ag:=s.c.ag.end_ l}}:aa).leave C l)):=
  Quiet.trans (t:=({s with c:={s.c with ag:=s.c.ag.end_ l}}:aa)) (aa.g9 rfl rfl rfl rfl) (YF hl e0)
 have hs:=hm.seq;refine .jF ?_ (hq.trans (aa.mY (by simp) ?_))
 ·refine Inv.record ?_ ..;rcases Inv.leave (C:=C) (s:=({s with c:={s.c with ag:=s.c.ag.end_ l}}:aa)) (T:=s.c.ag) (x:=l) h with⟨h1,h2,h3,h4,h5,h6,h7⟩|hx
  ·refine Inv.CA (T:=s.c.ag.end_ l) (Inv.JN h1 (T':=s.c.ag.end_ l) (by simpa[h3]using aiW h.ag l) ?_ ?_) h2
   ·intro a ha;have sY:a∈Q.drop s.c.q l:=by simpa[h4]using ha
    simp only[Q.drop,List.mem_filter,decide_eq_true_eq]at sY;exact YG hl sY.2 (h.q.each a sY.1).2.2.2.1
   ·intro ho;refine YG hl h5 ?_;rcases h6 with h6|h6
    ·rcases h.tok.offer with h9|⟨_,_,_,h9,_⟩
     ·simp at ho h6;omega
     ·simpa[h6]using h9
    ·simp[h6]at ho
  ·omega
 ·have e1:=hq.af;constructor<;>first|(dsimp only;rw[e1];exact e0)|(simp;done)|(simp;omega)
theorem aiY {X:aa} {r:aF} {k a n e w:Int} (h:Quiet C b s X) (ht:tJ (l,r)) (hk:k≠8) (hb:z5 b ⟨k,a,n,X.c.t.af,e,w⟩):Quiet C b s ((X.tell l r).record C k a n e w):=
 h.trans (Quiet.trans (aa.FI ht) (aa.mY hk hb))
structure FP (C:aN):Prop where
 au:∀k s n j,0<=C.au k s n j/\C.au k s n j<=255
 take:∀n f m,C.take n f=some m->rO m
 fh:∀w n,0<=w.high/\w.high<=4294967295->0<=n/\n<=4294967295->0<=(C.fh w n).high/\(C.fh w n).high<=4294967295
theorem YH {d:Nat->dG} (h:Inv s.c) (hd:∀i,i<3->0<=(d i).many):Inv ({s.c with doors:=d}:Core)/\Quiet C b s ({s with c:={s.c with doors:=d}}:aa):=
 ⟨⟨h.p,h.tok,h.q,h.ag,h.samples,h.mode,hd⟩,aa.g9 rfl rfl rfl rfl⟩
theorem YI {n:Nat} {f:aw} (hC:FP C) (h:Inv s.c) (hl:1<=l/\l<=3):eL C b s (s.jw C l n f) 0 l:=by
 have e0:=h.km;unfold aa.jw;split
 ·exact FM h hl (λ_=>by omega)
 rename_i m hm;split
 ·exact vJ h hl (by omega) (by omega)
 dsimp only;split
 ·exact vJ h hl (by omega) (by omega)
 have hd:=h.doors (l.toNat-1) (by omega);obtain⟨i1,q1⟩:=YH (C:=C) (b:=b) h (d:=λj=>if j=l.toNat-1 then⟨(s.c.doors (l.toNat-1)).many+1,true,C.au (s.c.p.k 3) l ((s.c.doors (l.toNat-1)).many+1)⟩else s.c.doors j)
  (λi hi=>by split<;>first|(dsimp only;omega)|exact h.doors i hi)
 refine .jF (Inv.head i1 _) (q1.trans (Quiet.trans (aa.FI ⟨hl,aa.aiA (hC.au (s.c.p.k 3) l ((s.c.doors (l.toNat-1)).many+1))⟩) ?_));exact aa.mY (by simp) (by constructor<;>simp<;>omega)
theorem aiZ {p:aJ} {t:az} {s r:Int} {k:aw} (h:(az.dU p t s r k).2=0):
 (az.dU p t s r k).1=t.dW (s.toNat-1) ⟨true,.start p.b_,r,k,⟨false,0,0⟩⟩/\1<=s/\s<=3/\0<=r/\r<=3:=by
 unfold az.dU at*;split at h
 ·simp at h
 split at h
 ·simp at h
 rename_i h1 h2;rw[if_neg h1,if_neg h2];exact⟨rfl,by omega,by omega,by omega,by omega⟩
theorem ai0 (p:aJ) (t:az) (s r:Int) (k:aw):0<=(az.dU p t s r k).2/\(az.dU p t s r k).2<=19:=by
 unfold az.dU;repeat' split
 all_goals simp
theorem Inv.dW {c:Core} (h:Inv c) {i:Nat} {x:gz} (hx:x.on=true) (zA:x.eB.most=c.p.b_/\0<=x.eB.n/\x.eB.n<c.p.b_/\0<=x.role/\x.role<=3/\0<=x.seen.high/\x.seen.high<=4294967295):Inv {c with ag:=c.ag.dW i x}:=by
 refine Inv.JN (T:=c.ag) h ?_ (λa ha=>JO (h.q.each a ha).2.2.2.1 hx) (λho=>?_)
 ·refine⟨h.ag.cO,λj hj iA=>?_⟩;unfold az.dW at*;dsimp only at*;split at iA
  ·rename_i e;rw[if_pos e];exact zA
  ·rename_i e;rw[if_neg e];exact h.ag.aj j hj iA
 ·rcases h.tok.offer with h1|⟨_,_,_,h1,_⟩
  ·omega
  ·exact JO h1 hx
theorem YJ {n:Nat} {f:aw} (hC:FP C) (h:Inv s.c) (hl:1<=l/\l<=3):eL C b s (s.prove C l n f) 0 l:=by
 have e0:=h.km;unfold aa.prove;split
 ·exact FM h hl (λ_=>by omega)
 split
 ·exact FM h hl (λ_=>by omega)
 rename_i m hm;have hmb:=hC.take _ _ _ hm;dsimp only;split
 ·exact vJ h hl (by omega) (by omega)
 have hd:=h.doors (l.toNat-1) (by omega);obtain⟨i1,q1⟩:=YH (C:=C) (b:=b) h (d:=λj=>if j=l.toNat-1 then⟨(s.c.doors (l.toNat-1)).many,false,λ_=>0⟩else s.c.doors j)
  (λi hi=>by split<;>first|(dsimp only;omega)|exact h.doors i hi)
 split
 ·exact⟨i1.head _,.inl (q1.trans (YB (s:=⟨_,_,_⟩) i1 hl (λ_=>by omega)))⟩
 split
 ·exact⟨i1.head _,.inl (q1.trans (P1 (s:=⟨_,_,_⟩) i1 hl (by omega) (by omega)))⟩
 split
 ·have h2:=ai0 s.c.p s.c.ag l m.role (C.key (s.c.p.k (l.toNat-1)) l m.role (s.c.doors (l.toNat-1)).au);exact⟨i1.head _,.inl (q1.trans (P1 (s:=⟨_,_,_⟩) i1 hl (by omega) ⟨h2.1,Bc h2.2 (by decide)⟩))⟩
 rename_i hz;obtain⟨g1,g2,g3,g4,g5⟩:=aiZ (by simpa using hz);have hb:=h.p.b_;have i2:=Inv.dW (c:={s.c with doors:=_}) i1 (i:=l.toNat-1) (x:=⟨true,.start s.c.p.b_,m.role,C.key (s.c.p.k (l.toNat-1)) l m.role (s.c.doors (l.toNat-1)).au,⟨false,0,0⟩⟩) rfl
  ⟨by simp[Timer.start];omega,by simp[Timer.start],by simp[Timer.start];omega,g4,g5,by simp,by simp⟩
 have hh:=h.tok.aE;rw[g1];refine .jF (Inv.head i2 _) (aiY (q1.trans (aa.g9 rfl rfl rfl rfl)) ⟨hl,aa.aiz ⟨g4,g5⟩ hh e0⟩ (by simp) ?_);constructor<;>simp<;>omega
theorem YK {p:aJ} {t t':az} {l:Int} {n:Nat} {f:aw} {m:bo} (hC:FP C) (h:az.take C p t l n f=(t',.ok m)):
 t.dt l=true/\rO m/\m.kind≠1/\m.kind≠2/\
 t'=t.dW (l.toNat-1) {(t.aj (l.toNat-1))with seen:=C.fh (t.aj (l.toNat-1)).seen m.seq,on:=true,eB:=.start p.b_}:=by
 unfold az.take at h;split at h
 ·simp at h
 rename_i h1;split at h
 ·simp at h
 split at h
 ·simp at h
 rename_i m' hm;split at h
 ·simp at h
 split at h
 ·simp at h
 rename_i h2 h3;simp at h;obtain⟨rfl,rfl⟩:=h;exact⟨by simpa using h1,hC.take _ _ _ hm,by omega,by omega,rfl⟩
theorem P4 {p:aJ} {t t':az} {l:Int} {n:Nat} {f:aw} {e:Int} (h:az.take C p t l n f=(t',.error e)):13<=e/\e<=16:=by
 unfold az.take at h;split at h
 ·simp at h;omega
 split at h
 ·simp at h;omega
 split at h
 ·simp at h;omega
 split at h
 ·simp at h;omega
 split at h
 ·simp at h;omega
 ·simp at h
theorem YL (h:Inv s.c) (hl:1<=l/\l<=3) (hm:rO m) (iA:s.c.ag.on l=true) (h1:m.kind≠1) (h2:m.kind≠2):eL C b s (s.jN C l m) 0 l:=by
 have hk:=hm.kind;unfold aa.jN;split
 ·exact xJ (.jF h (Quiet.refl ..)) hl hm.seq
 split
 ·exact aiX h hl hm
 split
 ·exact aiT h hl hm iA
 split
 ·exact aiH h hl hm
 split
 ·exact aiI h hl hm
 split
 ·exact aiJ h hl hm
 split
 ·exact aiS h hl hm
 split
 ·exact aiU h hl hm
 ·omega
theorem P5 {t:az} {l:Int} (hl:1<=l/\l<=3):t.on l=t.dt l:=by
 unfold az.on;rw[if_neg (by omega),if_neg (by omega)]
theorem eL.CA {t:aa} {T:az} {kind link:Int} (k:eL C b ({s with c:={s.c with ag:=T}}:aa) t kind link):eL C b s t kind link:=
 ⟨k.inv,by
  rcases k.z6 with q|⟨how,g,w⟩
  ·refine .inl (Quiet.trans ?_ q);exact aa.g9 rfl rfl rfl rfl
  ·refine .inr ⟨how,Quiet.goes ?_ g,w⟩;exact aa.g9 rfl rfl rfl rfl⟩
theorem YM {n:Nat} {f:aw} {code:Int} (hC:FP C) (h:Inv s.c) (hl:1<=l/\l<=3) (hb:b->0<=code/\code<=255):eL C b s (s.item C l code n f) 0 l:=by
 unfold aa.item;split
 ·exact FM h hl hb
 split
 ·exact YI hC h hl
 split
 ·exact YJ hC h hl
 split
 ·rename_i t e he;have:=P4 he;exact FM h hl (λ_=>by omega)
 ·rename_i t m he;obtain⟨g1,g2,g3,g4,g5⟩:=YK hC he;have hb:=h.p.b_;have JQ:s.c.ag.on l=true:=by rw[P5 hl];exact g1
  have i1:=h.dW (i:=l.toNat-1) (x:={(s.c.ag.aj (l.toNat-1))with seen:=C.fh (s.c.ag.aj (l.toNat-1)).seen m.seq,on:=true,eB:=.start s.c.p.b_}) rfl
   (by
    have iA:(s.c.ag.aj (l.toNat-1)).on=true:=by unfold az.dt at g1;simp at g1;exact g1.2
    have:=h.ag.aj (l.toNat-1) (by omega) iA;have h9:=hC.fh (s.c.ag.aj (l.toNat-1)).seen m.seq ⟨by omega,by omega⟩ g2.seq;simp[Timer.start];omega)
  subst g5;exact eL.CA (YL (s:=⟨{s.c with ag:=_},s.bz,s.br⟩) i1 hl g2 (JO JQ rfl) g3 g4)
end Sd
namespace Go.Proofs.YtggfpcggakghnaaGreatDoor
section
open Go Go.RowKit Go.BigFrame Sx
theorem CB (x y:Int) (hx:0<=x/\x<2^56) (hy:0<=y/\y<256):bits .or .u64 (u64.wrap (x*2^8)) y=x*256+y:=by
 have hw:u64.wrap (x*2^8)=x*256:=by rw[qW];omega
 rw[hw];obtain⟨a,rfl⟩:∃a:Nat,x=a:=⟨x.toNat,by omega⟩;obtain⟨b,rfl⟩:∃b:Nat,y=b:=⟨y.toNat,by omega⟩;have ha:a<2^56:=by omega
 have hb:b<256:=by omega
 unfold bits;have h1:(jq 64 ((a:Int)*256)).toNat=a*256:=by simp only[A7];omega
 have h2:(jq 64 (b:Int)).toNat=b:=by simp only[A7];omega
 have h3:(a*256|||b)=a*256+b:=by
  have:=Nat.shiftLeft_add_eq_or_of_lt (i:=8) (b:=b) (by omega) a;rw[Nat.shiftLeft_eq]at this;exact this.symm
 show u64.wrap (((jq 64 ((a:Int)*256)|||jq 64 (b:Int)).toNat:Nat):Int)=_;rw[BitVec.toNat_or,h1,h2,h3,qW];omega
theorem P6 (y:Int) (hy:0<=y/\y<256):bits .or .u64 0 y=y:=by
 have h:=CB 0 y (by omega) hy;rw[show u64.wrap (0*2^8)=0 from by decide]at h;rw[h];omega
def CD (f:Nat->Int):Int:=f 0
def gb (f:Nat->Int):Int:=f 0*256+f 1
def z7 (f:Nat->Int):Int:=((f 0*256+f 1)*256+f 2)*256+f 3
def By (f:Nat->Int):Prop:=∀j,0<=f j/\f j<=255
theorem ai1 {f:Nat->Int} (h:By f):0<=CD f/\CD f<=255:=h 0
theorem YN {f:Nat->Int} (h:By f):0<=gb f/\gb f<=65535:=by have:=h 0;have:=h 1;unfold gb;omega
theorem ai2 {f:Nat->Int} (h:By f):0<=z7 f/\z7 f<=4294967295:=by have:=h 0;have:=h 1;have:=h 2;have:=h 3;unfold z7;omega
def xK (x:Int):Int:=if 32767<x then x-65536 else x
theorem ai3 (b o c:Nat) (f:Nat->Int) (hf:By f) (w:ae) (hB:bV w b o 1 f):
 aQ prog 178 #[.slice (some ⟨b,o,none⟩) 1 c] w λv w1=>v=.tuple #[.int .u64 (CD f),.int .i64 0]/\Ch [] w w1:=by
 have S0:=St.nil [] w;refine il Tryz.func178 rfl ?_;refine aM (aT ?_);refine ak (.int .u64 0) ?_;refine ak (.int .i64 0) ?_;refine aR (aL (aM (aM (aT ?_))));refine dF ?_;refine ak (.int .i64 1) ?_;refine ak (.bool false) ?_;refine aR (aL (og ?_));refine jr (aL (aM (aT ?_)));refine ak (.int .u64 0) ?_;refine aR (aL (aM (aM (aT ?_))));refine dF ?_;refine ak (.int .i64 1) ?_;refine ak (.int .i64 0) ?_;refine aR (aL (iL (DU 24 (aM (aT ?_)))));refine ak (.bool true) ?_;refine aR (aL (aM (uD ?_)));refine jr (aL (aM (iL (aM (aT ?_)))));refine ak (.int .i64 0) ?_;refine ak (.int .i64 0) ?_;refine aR (aL (aT ?_));refine ak (.int .u64 0) ?_;refine ak (.int .u64 0) ?_;refine dF ?_;refine ak (.int .i64 0) ?_;refine pV (e:=5) b o 0 1 1 c .i64 0 (by omega) (by omega) (by omega) ?_;refine sT b o 1 (o+0*1) 0 f (St.kX S0 hB (by simp)) (by omega) (by omega) ?_;have YO:=hf 0;refine kA .u64 (f 0) (uy _ (by omega)) ?_;refine nA (.int .u64 (bits .or .u64 0 (f 0))) (.int .u64 (f 0)) (congrArg _ (P6 (f 0) (by omega))) ?_;refine ak (.int .u64 (f 0)) ?_;refine aR (kQ (aL (aT ?_)));refine ak (.int .i64 1) ?_;refine ak (.int .i64 1) ?_;refine aR (uC (aM (aT ?_)));refine ak (.bool false) ?_;refine aR (aL (aM (og ?_)));refine wp_exit (kP (kP (uB (aL (aM (aT ?_))))));refine ak (.int .u64 (f 0)) ?_;refine ak (.int .u64 (f 0)) ?_;refine ak (.int .i64 0) ?_;refine aR (aL (gh ?_));refine fW rfl (fu [.tmp 2,.tmp 3] [.int .u64 (f 0),.int .i64 0] (.tuple #[.int .u64 (f 0),.int .i64 0]) ⟨iP,iP,trivial⟩) ?_;exact⟨rfl,S0.ch⟩
theorem YP (b o c:Nat) (f:Nat->Int) (hf:By f) (w:ae) (hB:bV w b o 2 f):
 aQ prog 178 #[.slice (some ⟨b,o,none⟩) 2 c] w λv w1=>v=.tuple #[.int .u64 (gb f),.int .i64 0]/\Ch [] w w1:=by
 have S0:=St.nil [] w;refine il Tryz.func178 rfl ?_;refine aM (aT ?_);refine ak (.int .u64 0) ?_;refine ak (.int .i64 0) ?_;refine aR (aL (aM (aM (aT ?_))));refine dF ?_;refine ak (.int .i64 2) ?_;refine ak (.bool false) ?_;refine aR (aL (og ?_));refine jr (aL (aM (aT ?_)));refine ak (.int .u64 0) ?_;refine aR (aL (aM (aM (aT ?_))));refine dF ?_;refine ak (.int .i64 2) ?_;refine ak (.int .i64 0) ?_;refine aR (aL (iL (DU 24 (aM (aT ?_)))));refine ak (.bool true) ?_;refine aR (aL (aM (uD ?_)));refine jr (aL (aM (iL (aM (aT ?_)))));refine ak (.int .i64 0) ?_;refine ak (.int .i64 0) ?_;refine aR (aL (aT ?_));refine ak (.int .u64 0) ?_;refine ak (.int .u64 0) ?_;refine dF ?_;refine ak (.int .i64 0) ?_;refine pV (e:=5) b o 0 2 1 c .i64 0 (by omega) (by omega) (by omega) ?_;refine sT b o 2 (o+0*1) 0 f (St.kX S0 hB (by simp)) (by omega) (by omega) ?_;have YO:=hf 0;refine kA .u64 (f 0) (uy _ (by omega)) ?_;refine nA (.int .u64 (bits .or .u64 0 (f 0))) (.int .u64 (f 0)) (congrArg _ (P6 (f 0) (by omega))) ?_;refine ak (.int .u64 (f 0)) ?_;refine aR (kQ (aL (aT ?_)));refine ak (.int .i64 1) ?_;refine ak (.int .i64 1) ?_;refine aR (uC (aM (aT ?_)));refine ak (.bool true) ?_;refine aR (aL (aM (uD ?_)));refine jr (aL (aM (iL (aM (aT ?_)))));refine ak (.int .i64 1) ?_;refine ak (.int .i64 1) ?_;refine aR (aL (aT ?_));refine ak (.int .u64 (f 0)) ?_;refine ak (.int .u64 (u64.wrap ((f 0)*2^8))) ?_;refine dF ?_;refine ak (.int .i64 1) ?_;refine pV (e:=5) b o 1 2 1 c .i64 1 (by omega) (by omega) (by omega) ?_;refine sT b o 2 (o+1*1) 1 f (St.kX S0 hB (by simp)) (by omega) (by omega) ?_;have P7:=hf 1;refine kA .u64 (f 1) (uy _ (by omega)) ?_;refine nA (.int .u64 (bits .or .u64 (u64.wrap ((f 0)*2^8)) (f 1))) (.int .u64 ((f 0)*256+(f 1))) (congrArg _ (CB (f 0) (f 1) (by omega) (by omega))) ?_;refine fL ?_;refine aR (kQ (aL (aT ?_)));refine ak (.int .i64 2) ?_;refine ak (.int .i64 2) ?_;refine aR (uC (aM (aT ?_)));refine ak (.bool false) ?_;refine aR (aL (aM (og ?_)));refine wp_exit (kP (kP (uB (aL (aM (aT ?_))))));refine dF ?_;refine fL ?_;refine ak (.int .i64 0) ?_;refine aR (aL (gh ?_));refine fW rfl (fu [.tmp 2,.tmp 3] [.int .u64 ((f 0)*256+(f 1)),.int .i64 0] (.tuple #[.int .u64 ((f 0)*256+(f 1)),.int .i64 0]) ⟨iP,iP,trivial⟩) ?_;exact⟨rfl,S0.ch⟩
theorem ai4 (b o c:Nat) (f:Nat->Int) (hf:By f) (w:ae) (hB:bV w b o 4 f):
 aQ prog 178 #[.slice (some ⟨b,o,none⟩) 4 c] w λv w1=>v=.tuple #[.int .u64 (z7 f),.int .i64 0]/\Ch [] w w1:=by
 have S0:=St.nil [] w;refine il Tryz.func178 rfl ?_;refine aM (aT ?_);refine ak (.int .u64 0) ?_;refine ak (.int .i64 0) ?_;refine aR (aL (aM (aM (aT ?_))));refine dF ?_;refine ak (.int .i64 4) ?_;refine ak (.bool false) ?_;refine aR (aL (og ?_));refine jr (aL (aM (aT ?_)));refine ak (.int .u64 0) ?_;refine aR (aL (aM (aM (aT ?_))));refine dF ?_;refine ak (.int .i64 4) ?_;refine ak (.int .i64 0) ?_;refine aR (aL (iL (DU 24 (aM (aT ?_)))));refine ak (.bool true) ?_;refine aR (aL (aM (uD ?_)));refine jr (aL (aM (iL (aM (aT ?_)))));refine ak (.int .i64 0) ?_;refine ak (.int .i64 0) ?_;refine aR (aL (aT ?_));refine ak (.int .u64 0) ?_;refine ak (.int .u64 0) ?_;refine dF ?_;refine ak (.int .i64 0) ?_;refine pV (e:=5) b o 0 4 1 c .i64 0 (by omega) (by omega) (by omega) ?_;refine sT b o 4 (o+0*1) 0 f (St.kX S0 hB (by simp)) (by omega) (by omega) ?_;have YO:=hf 0;refine kA .u64 (f 0) (uy _ (by omega)) ?_;refine nA (.int .u64 (bits .or .u64 0 (f 0))) (.int .u64 (f 0)) (congrArg _ (P6 (f 0) (by omega))) ?_;refine ak (.int .u64 (f 0)) ?_;refine aR (kQ (aL (aT ?_)));refine ak (.int .i64 1) ?_;refine ak (.int .i64 1) ?_;refine aR (uC (aM (aT ?_)));refine ak (.bool true) ?_;refine aR (aL (aM (uD ?_)));refine jr (aL (aM (iL (aM (aT ?_)))));refine ak (.int .i64 1) ?_;refine ak (.int .i64 1) ?_;refine aR (aL (aT ?_));refine ak (.int .u64 (f 0)) ?_;refine ak (.int .u64 (u64.wrap ((f 0)*2^8))) ?_;refine dF ?_;refine ak (.int .i64 1) ?_;refine pV (e:=5) b o 1 4 1 c .i64 1 (by omega) (by omega) (by omega) ?_;refine sT b o 4 (o+1*1) 1 f (St.kX S0 hB (by simp)) (by omega) (by omega) ?_;have P7:=hf 1;refine kA .u64 (f 1) (uy _ (by omega)) ?_;refine nA (.int .u64 (bits .or .u64 (u64.wrap ((f 0)*2^8)) (f 1))) (.int .u64 ((f 0)*256+(f 1))) (congrArg _ (CB (f 0) (f 1) (by omega) (by omega))) ?_;refine fL ?_;refine aR (kQ (aL (aT ?_)));refine ak (.int .i64 2) ?_;refine ak (.int .i64 2) ?_;refine aR (uC (aM (aT ?_)));refine ak (.bool true) ?_;refine aR (aL (aM (uD ?_)));refine jr (aL (aM (iL (aM (aT ?_)))));refine ak (.int .i64 2) ?_;refine ak (.int .i64 2) ?_;refine aR (aL (aT ?_));refine dF ?_;refine ak (.int .u64 (u64.wrap (((f 0)*256+(f 1))*2^8))) ?_;refine dF ?_;refine ak (.int .i64 2) ?_;refine pV (e:=5) b o 2 4 1 c .i64 2 (by omega) (by omega) (by omega) ?_;refine sT b o 4 (o+2*1) 2 f (St.kX S0 hB (by simp)) (by omega) (by omega) ?_;have zh3:=hf 2;refine kA .u64 (f 2) (uy _ (by omega)) ?_;refine nA (.int .u64 (bits .or .u64 (u64.wrap (((f 0)*256+(f 1))*2^8)) (f 2))) (.int .u64 (((f 0)*256+(f 1))*256+(f 2))) (congrArg _ (CB ((f 0)*256+(f 1)) (f 2) (by omega) (by omega))) ?_;refine fL ?_;refine aR (kQ (aL (aT ?_)));refine ak (.int .i64 3) ?_;refine ak (.int .i64 3) ?_;refine aR (uC (aM (aT ?_)));refine ak (.bool true) ?_;refine aR (aL (aM (uD ?_)));refine jr (aL (aM (iL (aM (aT ?_)))));refine ak (.int .i64 3) ?_;refine ak (.int .i64 3) ?_;refine aR (aL (aT ?_));refine dF ?_;refine ak (.int .u64 (u64.wrap ((((f 0)*256+(f 1))*256+(f 2))*2^8))) ?_;refine dF ?_;refine ak (.int .i64 3) ?_;refine pV (e:=5) b o 3 4 1 c .i64 3 (by omega) (by omega) (by omega) ?_;refine sT b o 4 (o+3*1) 3 f (St.kX S0 hB (by simp)) (by omega) (by omega) ?_;have OL:=hf 3;refine kA .u64 (f 3) (uy _ (by omega)) ?_;refine nA (.int .u64 (bits .or .u64 (u64.wrap ((((f 0)*256+(f 1))*256+(f 2))*2^8)) (f 3))) (.int .u64 ((((f 0)*256+(f 1))*256+(f 2))*256+(f 3))) (congrArg _ (CB (((f 0)*256+(f 1))*256+(f 2)) (f 3) (by omega) (by omega))) ?_;refine fL ?_;refine aR (kQ (aL (aT ?_)));refine ak (.int .i64 4) ?_;refine ak (.int .i64 4) ?_;refine aR (uC (aM (aT ?_)));refine ak (.bool false) ?_;refine aR (aL (aM (og ?_)));refine wp_exit (kP (kP (uB (aL (aM (aT ?_))))));refine dF ?_;refine fL ?_;refine ak (.int .i64 0) ?_;refine aR (aL (gh ?_));refine fW rfl (fu [.tmp 2,.tmp 3] [.int .u64 ((((f 0)*256+(f 1))*256+(f 2))*256+(f 3)),.int .i64 0] (.tuple #[.int .u64 ((((f 0)*256+(f 1))*256+(f 2))*256+(f 3)),.int .i64 0]) ⟨iP,iP,trivial⟩) ?_;exact⟨rfl,S0.ch⟩
theorem ai5 (b o c:Nat) (f:Nat->Int) (hf:By f) (w:ae) (hB:bV w b o 2 f):
 aQ prog 177 #[.slice (some ⟨b,o,none⟩) 2 c] w λv w1=>v=.tuple #[.int .i64 (xK (gb f)),.int .i64 0]/\Ch [] w w1:=by
 have S0:=St.nil [] w;refine il Tryz.func177 rfl ?_;refine aM (aT ?_);refine ak (.int .i64 0) ?_;refine ak (.int .i64 0) ?_;refine aR (aL (aM (aM (aT ?_))));refine dF ?_;refine ak (.int .i64 2) ?_;refine ak (.bool false) ?_;refine aR (aL (og ?_));refine jr (aL (aM (aT ?_)));refine dF ?_;refine fe 178 #[.slice (some ⟨b,o,none⟩) 2 c] ?_;refine(YP b o c f hf _ (St.kX S0 hB (by simp))).mono ?_;rintro _ zw1 ⟨rfl,P7⟩;have du:=S0.quiet P7;have OL:=YN hf;refine dF ?_;refine ak (.int .u64 (gb f)) ?_;refine ak (.int .i64 0) ?_;refine ak (.int .u64 (gb f)) ?_;refine ak (.int .i64 0) ?_;refine aR (aL (aM (aM (aT ?_))));refine ak (.int .i64 0) ?_;refine ak (.bool false) ?_;refine aR (aL (og ?_));refine jr (aL (aM (aT ?_)));refine ak (.int .u64 (gb f)) ?_;refine kA .i64 (gb f) (yK _ (by omega)) ?_;refine ak (.int .i64 (gb f)) ?_;refine aR (aL (aM (aM (aT ?_))));refine ak (.int .i64 (gb f)) ?_;refine ak (.bool (decide (32767<(gb f)))) ?_;refine aR (aL ?_);refine qY (decide (32767<(gb f))) ?_ ?_
 ·intro E_;have zh6:=yN E_;refine aT ?_;refine ak (.int .i64 (gb f)) ?_;refine kA .i64 ((gb f)-65536) (yK _ (by omega)) ?_;refine fL ?_;refine aR (aL (aM (aT ?_)));refine dF ?_;refine fL ?_;refine ak (.int .i64 0) ?_;refine aR (aL (gh ?_));refine fW rfl (fu [.tmp 2,.tmp 3] [.int .i64 ((gb f)-65536),.int .i64 0] (.tuple #[.int .i64 ((gb f)-65536),.int .i64 0]) ⟨iP,iP,trivial⟩) ?_;have ze:xK (gb f)=((gb f)-65536):=by unfold xK;split<;>omega
  exact⟨by(rw[ze])<;>rfl,du.ch⟩
 intro vm;have nH:=yO vm;refine jr (aL (aM (aT ?_)));refine ak (.int .i64 (gb f)) ?_;refine ak (.int .i64 (gb f)) ?_;refine ak (.int .i64 0) ?_;refine aR (aL (gh ?_));refine fW rfl (fu [.tmp 2,.tmp 3] [.int .i64 (gb f),.int .i64 0] (.tuple #[.int .i64 (gb f),.int .i64 0]) ⟨iP,iP,trivial⟩) ?_;have ze:xK (gb f)=(gb f):=by unfold xK;split<;>omega
 exact⟨by(rw[ze])<;>rfl,du.ch⟩
end
section
open Go Go.RowKit Go.BigFrame Sx Vx
def P8 (t:Sd.Timer):List V:=[.int .i64 t.n,.int .i64 t.most]
def JR:List V->Option Sd.Timer
 |[.int .i64 x0,.int .i64 x1]=>some ⟨x0,x1⟩
 |_=>none
theorem YQ {l:List V} {t:Sd.Timer} (h:JR l=some t):l=P8 t:=by
 unfold JR at h;split at h
 ·obtain rfl:=ck h;rfl
 ·cases h
def x4L (t:Sd.X4):List V:=[.int .i64 t.a,.int .i64 t.b,.int .i64 t.c,.int .i64 t.d]
def JS:List V->Option Sd.X4
 |[.int .i64 x0,.int .i64 x1,.int .i64 x2,.int .i64 x3]=>some ⟨x0,x1,x2,x3⟩
 |_=>none
theorem YR {l:List V} {t:Sd.X4} (h:JS l=some t):l=x4L t:=by
 unfold JS at h;split at h
 ·obtain rfl:=ck h;rfl
 ·cases h
def mZ (t:Sd.Label):List V:=[.int .i64 t.lY,.int .i64 t.source,.int .i64 t.seq]
def FQ:List V->Option Sd.Label
 |[.int .i64 x0,.int .i64 x1,.int .i64 x2]=>some ⟨x0,x1,x2⟩
 |_=>none
theorem P9 {l:List V} {t:Sd.Label} (h:FQ l=some t):l=mZ t:=by
 unfold FQ at h;split at h
 ·obtain rfl:=ck h;rfl
 ·cases h
def cS (t:Sd.Tok):List V:=[.int .i64 t.aE,.int .i64 t.af,.int .i64 t.offer,.int .i64 t.oa.n,.int .i64 t.oa.most,.int .i64 t.la.n,.int .i64 t.la.most,.bool t.bad]
def jW:List V->Option Sd.Tok
 |[.int .i64 x0,.int .i64 x1,.int .i64 x2,.int .i64 x3,.int .i64 x4,.int .i64 x5,.int .i64 x6,.bool x7]=>some ⟨x0,x1,x2,⟨x3,x4⟩,⟨x5,x6⟩,x7⟩
 |_=>none
theorem m9 {l:List V} {t:Sd.Tok} (h:jW l=some t):l=cS t:=by
 unfold jW at h;split at h
 ·obtain rfl:=ck h;rfl
 ·cases h
def xL (t:Sd.eu):List V:=[.int .i64 t.cls,.int .i64 t.aV.a,.int .i64 t.aV.b,.int .i64 t.aV.c,.int .i64 t.aV.d,.int .i64 t.now.a,.int .i64 t.now.b,.int .i64 t.now.c,.int .i64 t.now.d,.int .i64 t.bG.lY,.int .i64 t.bG.source,.int .i64 t.bG.seq]
def FR:List V->Option Sd.eu
 |[.int .i64 x0,.int .i64 x1,.int .i64 x2,.int .i64 x3,.int .i64 x4,.int .i64 x5,.int .i64 x6,.int .i64 x7,.int .i64 x8,.int .i64 x9,.int .i64 P_,.int .i64 Qa]=>some ⟨x0,⟨x1,x2,x3,x4⟩,⟨x5,x6,x7,x8⟩,⟨x9,P_,Qa⟩⟩
 |_=>none
theorem Qb {l:List V} {t:Sd.eu} (h:FR l=some t):l=xL t:=by
 unfold FR at h;split at h
 ·obtain rfl:=ck h;rfl
 ·cases h
def cG (t:Sd.bo):List V:=[.int .i64 t.kind,.int .i64 t.seq,.int .i64 t.role,.int .i64 t.aV,.int .i64 t.af,.int .i64 t.mode,.int .i64 t.cls,.bool t.now,.int .i64 t.x.a,.int .i64 t.x.b,.int .i64 t.x.c,.int .i64 t.x.d]
def CE:List V->Option Sd.bo
 |[.int .i64 x0,.int .i64 x1,.int .i64 x2,.int .i64 x3,.int .i64 x4,.int .i64 x5,.int .i64 x6,.bool x7,.int .i64 x8,.int .i64 x9,.int .i64 P_,.int .i64 Qa]=>some ⟨x0,x1,x2,x3,x4,x5,x6,x7,⟨x8,x9,P_,Qa⟩⟩
 |_=>none
theorem JT {l:List V} {t:Sd.bo} (h:CE l=some t):l=cG t:=by
 unfold CE at h;split at h
 ·obtain rfl:=ck h;rfl
 ·cases h
def JU (t:Sd.mO):List V:=[.bool t.valid,.int .i64 t.x.a,.int .i64 t.x.b,.int .i64 t.x.c,.int .i64 t.x.d,.bool t.Is]
def JV:List V->Option Sd.mO
 |[.bool x0,.int .i64 x1,.int .i64 x2,.int .i64 x3,.int .i64 x4,.bool x5]=>some ⟨x0,⟨x1,x2,x3,x4⟩,x5⟩
 |_=>none
theorem YS {l:List V} {t:Sd.mO} (h:JV l=some t):l=JU t:=by
 unfold JV at h;split at h
 ·obtain rfl:=ck h;rfl
 ·cases h
def YT (t:Sd.gi):List V:=[.bool t.any,.int .i64 t.high,.int .u64 t.seen]
def Qc:List V->Option Sd.gi
 |[.bool x0,.int .i64 x1,.int .u64 x2]=>some ⟨x0,x1,x2⟩
 |_=>none
theorem ai6 {l:List V} {t:Sd.gi} (h:Qc l=some t):l=YT t:=by
 unfold Qc at h;split at h
 ·obtain rfl:=ck h;rfl
 ·cases h
def Qd (t:Sd.Ask):List V:=[.int .i64 t.source,.int .i64 t.bD,.int .i64 t.fZ.n,.int .i64 t.fZ.most]
def JW:List V->Option Sd.Ask
 |[.int .i64 x0,.int .i64 x1,.int .i64 x2,.int .i64 x3]=>some ⟨x0,x1,⟨x2,x3⟩⟩
 |_=>none
theorem ai7 {l:List V} {t:Sd.Ask} (h:JW l=some t):l=Qd t:=by
 unfold JW at h;split at h
 ·obtain rfl:=ck h;rfl
 ·cases h
def Qe:QF:=⟨78,λargs _=>match args with
 |[.int .i64 n,.int .i64 m]=>some ((-9223372036854775808<=n/\n<=9223372036854775807)/\(-9223372036854775808<=m/\m<=9223372036854775807),.int .i64 (Sd.sat n m))
 |_=>none⟩
theorem ai8 (gl:Nat->Option Nat):Qe.Ok prog gl:=by
 intro args bl p_ v_ h hp ids w _ _;unfold Qe at h;dsimp only at h;split at h
 ·rename_i n m;simp only[aS,bd]at h;obtain⟨rfl,rfl⟩:=h;obtain⟨XY,Fw⟩:=hp;exact told (ag4 n m XY Fw w)
 ·cases h
def Qf:QF:=⟨183,λargs _=>match args with
 |[.int .i64 n,.int .i64 lo,.int .i64 hi]=>some (True,.int .i64 (Sd.sV n lo hi))
 |_=>none⟩
theorem ai9 (gl:Nat->Option Nat):Qf.Ok prog gl:=by
 intro args bl p_ v_ h hp ids w _ _;unfold Qf at h;dsimp only at h;split at h
 ·rename_i n lo hi;simp only[aS,bd]at h;obtain⟨rfl,rfl⟩:=h;exact told (XZ n lo hi w)
 ·cases h
def Qg:QF:=⟨142,λargs _=>match args with
 |[.int .i64 nw,.int .i64 t,.int .i64 b]=>some ((-9223372036854775808<=nw/\nw<=9223372036854775807)/\(-9223372036854775808<=t/\t<=9223372036854775807)/\(-9223372036854775808<=b/\b<=9223372036854775807),.int .i64 (Sd.qb nw t b))
 |_=>none⟩
theorem ai_ (gl:Nat->Option Nat):Qg.Ok prog gl:=by
 intro args bl p_ v_ h hp ids w _ _;unfold Qg at h;dsimp only at h;split at h
 ·rename_i nw t b;simp only[aS,bd]at h;obtain⟨rfl,rfl⟩:=h;obtain⟨X2,X3,X5⟩:=hp;exact told (X1 nw t b X2 X3 X5 w)
 ·cases h
def Qh:QF:=⟨189,λargs _=>match args with
 |[.int .i64 s,.int .i64 i]=>some (True,.bool (Sd.has s i))
 |_=>none⟩
theorem aja (gl:Nat->Option Nat):Qh.Ok prog gl:=by
 intro args bl p_ v_ h hp ids w _ _;unfold Qh at h;dsimp only at h;split at h
 ·rename_i s i;simp only[aS,bd]at h;obtain⟨rfl,rfl⟩:=h;exact told (X6 s i w)
 ·cases h
def Qi:QF:=⟨179,λargs _=>match args with
 |[.int .i64 m]=>some ((-9223372036854775808<=m/\m<=9223372036854775807),.agg (P8 (Sd.Timer.start m)))
 |_=>none⟩
theorem ajb (gl:Nat->Option Nat):Qi.Ok prog gl:=by
 intro args bl p_ v_ h hp ids w _ _;unfold Qi at h;dsimp only at h;split at h
 ·rename_i m;simp only[aS,bd]at h;obtain⟨rfl,rfl⟩:=h;have Fw:=hp;exact told (ag_ m Fw w)
 ·cases h
def Qj:QF:=⟨138,λargs _=>match args with
 |[.agg fV]=>(match JR fV with|some t=>some ((-9223372036854775808<=t.n/\t.n<=9223372036854775807)/\(-9223372036854775808<=t.most/\t.most<=9223372036854775807),.agg (P8 (Sd.Timer.step t)))|none=>none)
 |_=>none⟩
theorem ajc (gl:Nat->Option Nat):Qj.Ok prog gl:=by
 intro args bl p_ v_ h hp ids w _ _;unfold Qj at h;dsimp only at h;split at h
 ·rename_i fV;split at h
  ·rename_i t jX;simp only[aS,bd]at h;obtain⟨rfl,rfl⟩:=h;obtain rfl:=YQ jX;obtain⟨X9,X_⟩:=hp;exact told (X8 t X9 X_ w)
  ·cases h
 ·cases h
def Qk:QF:=⟨139,λargs _=>match args with
 |[.agg fV]=>(match JR fV with|some t=>some (True,.bool (Sd.Timer.due t))|none=>none)
 |_=>none⟩
theorem ajd (gl:Nat->Option Nat):Qk.Ok prog gl:=by
 intro args bl p_ v_ h hp ids w _ _;unfold Qk at h;dsimp only at h;split at h
 ·rename_i fV;split at h
  ·rename_i t jX;simp only[aS,bd]at h;obtain⟨rfl,rfl⟩:=h;obtain rfl:=YQ jX;exact told (Ya t w)
  ·cases h
 ·cases h
def Qm:QF:=⟨130,λargs _=>match args with
 |[.agg fV,.int .i64 o]=>(match jW fV with|some t=>some ((-9223372036854775808<=t.af/\t.af<=9223372036854775807),.ao [.agg (cS ((Sd.Tok.c9 t o).1)),.int .i64 ((Sd.Tok.c9 t o).2)])|none=>none)
 |_=>none⟩
theorem aje (gl:Nat->Option Nat):Qm.Ok prog gl:=by
 intro args bl p_ v_ h hp ids w _ _;unfold Qm at h;dsimp only at h;split at h
 ·rename_i fV o;split at h
  ·rename_i t jX;simp only[aS,bd]at h;obtain⟨rfl,rfl⟩:=h;obtain rfl:=m9 jX;have tH:=hp;exact told (ahd t o tH w)
  ·cases h
 ·cases h
def Qn:QF:=⟨84,λargs _=>match args with
 |[.agg fV]=>(match jW fV with|some t=>some ((-9223372036854775808<=t.af/\t.af<=9223372036854775807),.agg (cS (Sd.Tok.jv t)))|none=>none)
 |_=>none⟩
theorem ajf (gl:Nat->Option Nat):Qn.Ok prog gl:=by
 intro args bl p_ v_ h hp ids w _ _;unfold Qn at h;dsimp only at h;split at h
 ·rename_i fV;split at h
  ·rename_i t jX;simp only[aS,bd]at h;obtain⟨rfl,rfl⟩:=h;obtain rfl:=m9 jX;have tH:=hp;exact told (ahf t tH w)
  ·cases h
 ·cases h
def Qo:QF:=⟨137,λargs _=>match args with
 |[.agg fV]=>(match jW fV with|some t=>some (True,.bool (decide (0<=t.offer)))|none=>none)
 |_=>none⟩
theorem ajg (gl:Nat->Option Nat):Qo.Ok prog gl:=by
 intro args bl p_ v_ h hp ids w _ _;unfold Qo at h;dsimp only at h;split at h
 ·rename_i fV;split at h
  ·rename_i t jX;simp only[aS,bd]at h;obtain⟨rfl,rfl⟩:=h;obtain rfl:=m9 jX;exact told (open_ t w)
  ·cases h
 ·cases h
def Qp:QF:=⟨140,λargs _=>match args with
 |[.agg fV]=>(match jW fV with|some t=>some (True,.agg (cS (Sd.Tok.gX t)))|none=>none)
 |_=>none⟩
theorem ajh (gl:Nat->Option Nat):Qp.Ok prog gl:=by
 intro args bl p_ v_ h hp ids w _ _;unfold Qp at h;dsimp only at h;split at h
 ·rename_i fV;split at h
  ·rename_i t jX;simp only[aS,bd]at h;obtain⟨rfl,rfl⟩:=h;obtain rfl:=m9 jX;exact told (Pw t w)
  ·cases h
 ·cases h
def Qq:QF:=⟨217,λargs _=>match args with
 |[.agg [.dS p ka kn kc],.int .i64 s]=>some (True,.int .i64 (Sd.placeOf p s))
 |_=>none⟩
theorem aji (gl:Nat->Option Nat):Qq.Ok prog gl:=by
 intro args bl p_ v_ h hp ids w _ _;unfold Qq at h;dsimp only at h;split at h
 ·rename_i p ka kn kc s;simp only[aS,bd]at h;obtain⟨rfl,rfl⟩:=h;exact told (ahn p ka kn kc s w)
 ·cases h
def Qr:QF:=⟨215,λargs _=>match args with
 |[.agg [.dS p ka kn kc],.int .i64 a,.int .i64 b]=>some (True,.bool (Sd.ff p a b))
 |_=>none⟩
theorem ajj (gl:Nat->Option Nat):Qr.Ok prog gl:=by
 intro args bl p_ v_ h hp ids w _ _;unfold Qr at h;dsimp only at h;split at h
 ·rename_i p ka kn kc a b;simp only[aS,bd]at h;obtain⟨rfl,rfl⟩:=h;exact told (aho p ka kn kc a b w)
 ·cases h
def Qs:QF:=⟨144,λargs _=>match args with
 |[.agg [.dS p ka kn kc],.int .i64 s,.int .i64 r]=>some (True,.bool (Sd.eJ p s r))
 |_=>none⟩
theorem ajk (gl:Nat->Option Nat):Qs.Ok prog gl:=by
 intro args bl p_ v_ h hp ids w _ _;unfold Qs at h;dsimp only at h;split at h
 ·rename_i p ka kn kc s r;simp only[aS,bd]at h;obtain⟨rfl,rfl⟩:=h;exact told (ahs p ka kn kc s r w)
 ·cases h
def Qt:QF:=⟨182,λargs _=>match args with
 |[.agg [.dS p ka kn kc],.int .i64 a,.int .i64 b]=>some (True,.bool (Sd.goes p a b))
 |_=>none⟩
theorem ajl (gl:Nat->Option Nat):Qt.Ok prog gl:=by
 intro args bl p_ v_ h hp ids w _ _;unfold Qt at h;dsimp only at h;split at h
 ·rename_i p ka kn kc a b;simp only[aS,bd]at h;obtain⟨rfl,rfl⟩:=h;exact told (ahu p ka kn kc a b w)
 ·cases h
def Qu:QF:=⟨181,λargs _=>match args with
 |[.agg [.dS p ka kn kc],.int .i64 m,.int .i64 r,.int .i64 c]=>some (True,.bool (Sd.may p m r c))
 |_=>none⟩
theorem ajm (gl:Nat->Option Nat):Qu.Ok prog gl:=by
 intro args bl p_ v_ h hp ids w _ _;unfold Qu at h;dsimp only at h;split at h
 ·rename_i p ka kn kc m r c;simp only[aS,bd]at h;obtain⟨rfl,rfl⟩:=h;exact told (ahw p ka kn kc m r c w)
 ·cases h
def Qv:QF:=⟨30,λargs _=>match args with
 |[.agg [.dS p ka kn kc]]=>some (True,.agg (cS (Sd.Tok.new p)))
 |_=>none⟩
theorem ajn (gl:Nat->Option Nat):Qv.Ok prog gl:=by
 intro args bl p_ v_ h hp ids w _ _;unfold Qv at h;dsimp only at h;split at h
 ·rename_i p ka kn kc;simp only[aS,bd]at h;obtain⟨rfl,rfl⟩:=h;exact told (Yg p ka kn kc w)
 ·cases h
def Qw:QF:=⟨199,λargs _=>match args with
 |[.agg fV,.int .i64 f,.int .i64 e]=>(match jW fV with|some t=>some ((-9223372036854775808<=t.af/\t.af<=9223372036854775807),.ao [.agg (cS ((Sd.Tok.accept t f e).1)),.int .i64 ((Sd.Tok.accept t f e).2)])|none=>none)
 |_=>none⟩
theorem ajo (gl:Nat->Option Nat):Qw.Ok prog gl:=by
 intro args bl p_ v_ h hp ids w _ _;unfold Qw at h;dsimp only at h;split at h
 ·rename_i fV f e;split at h
  ·rename_i t jX;simp only[aS,bd]at h;obtain⟨rfl,rfl⟩:=h;obtain rfl:=m9 jX;have tH:=hp;exact told (ahA t f e tH w)
  ·cases h
 ·cases h
def Qx:QF:=⟨200,λargs _=>match args with
 |[.agg fV,.int .i64 f]=>(match jW fV with|some t=>some (True,.ao [.agg (cS ((Sd.Tok.fg t f).1)),.int .i64 ((Sd.Tok.fg t f).2)])|none=>none)
 |_=>none⟩
theorem ajp (gl:Nat->Option Nat):Qx.Ok prog gl:=by
 intro args bl p_ v_ h hp ids w _ _;unfold Qx at h;dsimp only at h;split at h
 ·rename_i fV f;split at h
  ·rename_i t jX;simp only[aS,bd]at h;obtain⟨rfl,rfl⟩:=h;obtain rfl:=m9 jX;exact told (ahC t f w)
  ·cases h
 ·cases h
def Qy:QF:=⟨136,λargs _=>match args with
 |[.agg fV,.int .i64 s]=>(match jW fV with|some t=>some (True,.ao [.agg (cS ((Sd.Tok.drop t s).1)),.bool ((Sd.Tok.drop t s).2)])|none=>none)
 |_=>none⟩
theorem ajq (gl:Nat->Option Nat):Qy.Ok prog gl:=by
 intro args bl p_ v_ h hp ids w _ _;unfold Qy at h;dsimp only at h;split at h
 ·rename_i fV s;split at h
  ·rename_i t jX;simp only[aS,bd]at h;obtain⟨rfl,rfl⟩:=h;obtain rfl:=m9 jX;exact told (ahE t s w)
  ·cases h
 ·cases h
def Qz:QF:=⟨92,λargs _=>match args with
 |[.agg fV]=>(match jW fV with|some t=>some ((-9223372036854775808<=t.oa.n/\t.oa.n<=9223372036854775807)/\(-9223372036854775808<=t.oa.most/\t.oa.most<=9223372036854775807),.ao [.agg (cS ((Sd.Tok.tick t).1)),.int .i64 ((Sd.Tok.tick t).2)])|none=>none)
 |_=>none⟩
theorem ajr (gl:Nat->Option Nat):Qz.Ok prog gl:=by
 intro args bl p_ v_ h hp ids w _ _;unfold Qz at h;dsimp only at h;split at h
 ·rename_i fV;split at h
  ·rename_i t jX;simp only[aS,bd]at h;obtain⟨rfl,rfl⟩:=h;obtain rfl:=m9 jX;obtain⟨Yh,Yi⟩:=hp;exact told (ahF t Yh Yi w)
  ·cases h
 ·cases h
def QA:QF:=⟨198,λargs _=>match args with
 |[.agg [.dS p ka kn kc],.agg fV,.int .i64 f,.int .i64 o,.bool th]=>(match jW fV with|some t=>some ((Sd.eF p),.ao [.agg (cS ((Sd.Tok.make p t f o th).1)),.int .i64 ((Sd.Tok.make p t f o th).2)])|none=>none)
 |_=>none⟩
theorem ajs (gl:Nat->Option Nat):QA.Ok prog gl:=by
 intro args bl p_ v_ h hp ids w _ _;unfold QA at h;dsimp only at h;split at h
 ·rename_i p ka kn kc fV f o th;split at h
  ·rename_i t jX;simp only[aS,bd]at h;obtain⟨rfl,rfl⟩:=h;obtain rfl:=m9 jX;have hp:=hp;exact told (ahH p ka kn kc t f o th hp w)
  ·cases h
 ·cases h
def QB:QF:=⟨129,λargs _=>match args with
 |[.agg [.dS p ka kn kc],.agg xM,.int .i64 c,.agg FT,.agg FU]=>(match FR xM with|some pt=>(match JS FT with|some y=>(match FQ FU with|some b=>some ((Sd.eF p),.agg (xL (Sd.eu.set p pt c y b)))|none=>none)|none=>none)|none=>none)
 |_=>none⟩
theorem ajt (gl:Nat->Option Nat):QB.Ok prog gl:=by
 intro args bl p_ v_ h hp ids w _ _;unfold QB at h;dsimp only at h;split at h
 ·rename_i p ka kn kc xM c FT FU;split at h
  ·rename_i pt FV;split at h
   ·rename_i y QC;split at h
    ·rename_i b QD;simp only[aS,bd]at h;obtain⟨rfl,rfl⟩:=h;obtain rfl:=Qb FV;obtain rfl:=YR QC;obtain rfl:=P9 QD;have hp:=hp;exact told (ahJ p ka kn kc pt c y b hp w)
    ·cases h
   ·cases h
  ·cases h
 ·cases h
def QE:QF:=⟨134,λargs _=>match args with
 |[.agg xM,.agg FU]=>(match FR xM with|some pt=>(match FQ FU with|some b=>some (True,.agg (xL (Sd.eu.hold pt b)))|none=>none)|none=>none)
 |_=>none⟩
theorem aju (gl:Nat->Option Nat):QE.Ok prog gl:=by
 intro args bl p_ v_ h hp ids w _ _;unfold QE at h;dsimp only at h;split at h
 ·rename_i xM FU;split at h
  ·rename_i pt FV;split at h
   ·rename_i b QD;simp only[aS,bd]at h;obtain⟨rfl,rfl⟩:=h;obtain rfl:=Qb FV;obtain rfl:=P9 QD;exact told (ahL pt b w)
   ·cases h
  ·cases h
 ·cases h
def QI:QF:=⟨126,λargs _=>match args with
 |[.int .i64 m,.agg FT]=>(match JS FT with|some y=>some ((0<=m/\m<=1000),.bool (Sd.rj m y))|none=>none)
 |_=>none⟩
theorem ajv (gl:Nat->Option Nat):QI.Ok prog gl:=by
 intro args bl p_ v_ h hp ids w _ _;unfold QI at h;dsimp only at h;split at h
 ·rename_i m FT;split at h
  ·rename_i y QC;simp only[aS,bd]at h;obtain⟨rfl,rfl⟩:=h;obtain rfl:=YR QC;have hm:=hp;exact told (Yk m y hm w)
  ·cases h
 ·cases h
def QJ:QF:=⟨80,λargs _=>match args with
 |[.agg [.dS p ka kn kc],.int .i64 r,.agg YU]=>(match JV YU with|some s=>some ((Sd.eF p)/\(-9223372036854775808<=r/\r<=9223372036854775807),.ao [.int .i64 ((Sd.fh p r s).1),.bool ((Sd.fh p r s).2)])|none=>none)
 |_=>none⟩
theorem ajw (gl:Nat->Option Nat):QJ.Ok prog gl:=by
 intro args bl p_ v_ h hp ids w _ _;unfold QJ at h;dsimp only at h;split at h
 ·rename_i p ka kn kc r YU;split at h
  ·rename_i s e_s;simp only[aS,bd]at h;obtain⟨rfl,rfl⟩:=h;obtain rfl:=YS e_s;obtain⟨hp,Ym⟩:=hp;exact told (ahP p ka kn kc r s hp Ym w)
  ·cases h
 ·cases h
def QK:QF:=⟨95,λargs _=>match args with
 |[.agg [.dS p ka kn kc],.agg xM]=>(match FR xM with|some pt=>some ((Sd.eF p)/\(-9223372036854775808<=pt.aV.a/\pt.aV.a<=9223372036854775807)/\(-9223372036854775808<=pt.aV.b/\pt.aV.b<=9223372036854775807)/\(-9223372036854775808<=pt.aV.c/\pt.aV.c<=9223372036854775807)/\(-9223372036854775808<=pt.aV.d/\pt.aV.d<=9223372036854775807)/\(-9223372036854775808<=pt.now.a/\pt.now.a<=9223372036854775807)/\(-9223372036854775808<=pt.now.b/\pt.now.b<=9223372036854775807)/\(-9223372036854775808<=pt.now.c/\pt.now.c<=9223372036854775807)/\(-9223372036854775808<=pt.now.d/\pt.now.d<=9223372036854775807),.agg (xL (Sd.eu.step p pt)))|none=>none)
 |_=>none⟩
theorem ajx (gl:Nat->Option Nat):QK.Ok prog gl:=by
 intro args bl p_ v_ h hp ids w _ _;unfold QK at h;dsimp only at h;split at h
 ·rename_i p ka kn kc xM;split at h
  ·rename_i pt FV;simp only[aS,bd]at h;obtain⟨rfl,rfl⟩:=h;obtain rfl:=Qb FV;obtain⟨hp,PI,PJ,PK,PL,PM,PN,PO,PQ⟩:=hp;exact told (ahR p ka kn kc pt hp PI PJ PK PL PM PN PO PQ w)
  ·cases h
 ·cases h
def QV:List QF:=[Qe,Qf,Qg,Qh,Qi,Qj,Qk,Qm,Qn,Qo,Qp,Qq,Qr,Qs,Qt,Qu,Qv,Qw,Qx,Qy,Qz,QA,QB,QE,QI,QJ,QK]
theorem FW (gl:Nat->Option Nat):bF prog gl QV:=(bF.cons (ai8 gl) (bF.cons (ai9 gl) (bF.cons (ai_ gl) (bF.cons (aja gl) (bF.cons (ajb gl) (bF.cons (ajc gl) (bF.cons (ajd gl) (bF.cons (aje gl) (bF.cons (ajf gl) (bF.cons (ajg gl) (bF.cons (ajh gl) (bF.cons (aji gl) (bF.cons (ajj gl) (bF.cons (ajk gl) (bF.cons (ajl gl) (bF.cons (ajm gl) (bF.cons (ajn gl) (bF.cons (ajo gl) (bF.cons (ajp gl) (bF.cons (ajq gl) (bF.cons (ajr gl) (bF.cons (ajs gl) (bF.cons (ajt gl) (bF.cons (aju gl) (bF.cons (ajv gl) (bF.cons (ajw gl) (bF.cons (ajx gl) bF.nil)))))))))))))))))))))))))))
def JX (args:List V) (bl:List VB):Option (Nat×Nat×Nat×Nat×(Nat->Int)):=match args with
 |[.sl i off n c]=>(match bl[i]?with
  |some b=>(match wV b.c off n with
   |some [.bH .u8 m f]=>some (i,off,n,c,f)
   |_=>none)
  |none=>none)
 |_=>none
theorem YV {args:List V} {bl:List VB} {i off n c:Nat} {f:Nat->Int} (h:JX args bl=some (i,off,n,c,f)) {ids:List Nat} {w:ae} (hm:Mem ids bl w):args=[.sl i off n c]/\bV w (ids.getD i 0) off n f:=by
 unfold JX at h;split at h
 ·split at h
  ·rename_i i' M7 n' c' b hb;split at h
   ·rename_i m g hg;simp only[aS,bd]at h;obtain⟨rfl,rfl,rfl,rfl,rfl⟩:=h;refine⟨rfl,?_⟩;obtain⟨h1,h2,h3⟩:=wW (ids:=ids) hg;have aK:=hm.2 _ b hb;intro j hj;rw[cell_of aK];have e:(ah ids [V.bH .u8 m g])=(bh m).map λj=>dT .u8 (g j):=by simp[ah,cl]
    rw[e]at h1 h2;simp at h2;have h4:=congrArg (λl=>l[j]?) h1;simp only[MA,DN,iI]at h4;rw[if_pos hj]at h4;have h5:(bh m)[j]?=some j:=by rw[mF (by omega)]
    rw[h5]at h4;simpa using h4
   ·cases h
  ·cases h
 ·cases h
def QM:QF:=⟨178,λargs bl=>match JX args bl with
 |some (i,off,n,c,f)=>bif ax n 1 then some (By f,.ao [.int .u64 (CD f),.int .i64 0])else bif ax n 2 then some (By f,.ao [.int .u64 (gb f),.int .i64 0])else bif ax n 4 then some (By f,.ao [.int .u64 (z7 f),.int .i64 0])else none
 |none=>none⟩
def QN:QF:=⟨177,λargs bl=>match JX args bl with
 |some (i,off,n,c,f)=>bif ax n 2 then some (By f,.ao [.int .i64 (xK (gb f)),.int .i64 0])else none
 |none=>none⟩
theorem ajy (gl:Nat->Option Nat):QM.Ok prog gl:=by
 intro args bl p v h hp ids w hg hm;unfold QM at h;dsimp only at h;split at h
 ·rename_i i off n c f hA;obtain⟨rfl,h8⟩:=YV hA hm;cases h1:ax n 1 with
  |true=>
   rw[h1]at h;obtain rfl:=b9 h1;simp only[cond_true,aS,bd]at h;obtain⟨rfl,rfl⟩:=h;exact ai3 _ _ _ f hp w h8
  |false=>
   cases h2:ax n 2 with
   |true=>
    rw[h1,h2]at h;obtain rfl:=b9 h2;simp only[cond_true,cond_false,aS,bd]at h;obtain⟨rfl,rfl⟩:=h;exact YP _ _ _ f hp w h8
   |false=>
    cases h4:ax n 4 with
    |true=>
     rw[h1,h2,h4]at h;obtain rfl:=b9 h4;simp only[cond_true,cond_false,aS,bd]at h;obtain⟨rfl,rfl⟩:=h;exact ai4 _ _ _ f hp w h8
    |false=>rw[h1,h2,h4]at h;cases h
 ·cases h
theorem ajz (gl:Nat->Option Nat):QN.Ok prog gl:=by
 intro args bl p v h hp ids w hg hm;unfold QN at h;dsimp only at h;split at h
 ·rename_i i off n c f hA;obtain⟨rfl,h8⟩:=YV hA hm;cases h2:ax n 2 with
  |true=>
   rw[h2]at h;obtain rfl:=b9 h2;simp only[cond_true,aS,bd]at h;obtain⟨rfl,rfl⟩:=h;exact ai5 _ _ _ f hp w h8
  |false=>rw[h2]at h;cases h
 ·cases h
def LTk:List QF:=[QM,QN]
def k9:Nat->Option Nat:=λ_=>none
structure Fd where
 sz:Nat
 sg:Bool
 low:Int
 high:Int
 at_:Nat
 b:Bool
def Fd.val (d:Fd) (g:Nat->Int):Int:=bif d.sg then xK (gb g)else bif ax d.sz 1 then i64.wrap (CD g)else bif ax d.sz 2 then i64.wrap (gb g)else i64.wrap (z7 g)
def Fd.up (d:Fd) (g:Nat->Int) (m:List V):List V:=lE m d.at_ (bif d.b then .bool (d.val g==1)else .int .i64 (d.val g))
def m_:V:=.ao [.agg [.int .i64 0,.int .i64 0,.int .i64 0,.int .i64 0,.int .i64 0,.int .i64 0,.int .i64 0,.bool false,.int .i64 0,.int .i64 0,.int .i64 0,.int .i64 0],.int .i64 13]
def CF (n:Nat) (f:Nat->Int) (X:V->Prop):List Fd->Nat->List V->Prop
 |[],off,m=>bif ax (n-off) 0 then X (.ao [.agg m,.int .i64 0])else X m_
 |d::l,off,m=>bif cj (n-off) d.sz then X m_ else
  By (λj=>f (off+j))/\cond (decide (d.val (λj=>f (off+j))<d.low)) (X m_) (cond (decide (d.val (λj=>f (off+j))>d.high)) (X m_) (CF n f X l (off+d.sz) (d.up (λj=>f (off+j)) m)))
def iB:Fd:=⟨4,false,0,4294967295,1,false⟩
def tL:Fd:=⟨1,false,0,3,2,false⟩
def CH:Fd:=⟨1,false,0,4,3,false⟩
def oU:Fd:=⟨2,false,0,65535,4,false⟩
def CI:Fd:=⟨1,false,0,4,5,false⟩
def tM:Fd:=⟨1,false,1,3,6,false⟩
def CJ:Fd:=⟨1,false,0,1,7,true⟩
def fX (i:Nat):Fd:=⟨2,true,-32768,32767,8+i,false⟩
def oV (f:Nat->Int):Int:=i64.wrap (f 0)
def m0 (f:Nat->Int):List V:=[.int .i64 (oV f),.int .i64 0,.int .i64 0,.int .i64 0,.int .i64 0,.int .i64 0,.int .i64 0,.bool false,.int .i64 0,.int .i64 0,.int .i64 0,.int .i64 0]
def xN:Nat->List V
 |0=>[]
 |n+1=>.bool false::.bool false::.bool false::.bool false::.bool false::xN n
def ko (n:Nat) (f:Nat->Int) (X:V->Prop):Prop:=
 let T (l:List Fd):Prop:=CF n f X l 1 (m0 f)
 let T1:=T [tL]
 let T3:=T [iB]
 cond (oV f==1) T1 (cond (oV f==2) T1 (cond (oV f==3) T3 (cond (oV f==4) T3 (cond (oV f==8) T3 (cond (oV f==9) T3 (cond (oV f==5) (T [iB,CJ]) (cond (oV f==6) (T [iB,CH]) (cond (oV f==7) (T [iB,oU])
  (cond (oV f==10) (T [iB,oU,CI]) (cond (oV f==11) (∀(c:Nat) (u:List ab),7<=c->T [iB,oU,tM,fX 0,fX 1,fX 2,fX 3]) (X m_)))))))))))
end
end Go.Proofs.YtggfpcggakghnaaGreatDoor
namespace Sx
open Go Go.RowKit Go.BigFrame
def YW (vs:Nat->ab) (i:Nat) (v:ab):Nat->ab:=λj=>if j=i then v else vs j
def YX (k0:Nat) (es:List Nat) (H:Nat->(Nat->ab)->ae->Prop) (l:List an) (w0:ae) (i:Nat) (v:ab) (vs:Nat->ab) (w' fj:ae):Prop:=
 (i=k0->Ch es w' fj)/\(i≠k0->∃ns,Ch ns w' fj/\∀x∈ns,w0.heap.size<=x)/\H i (YW vs i v) fj/\
  ∀(j:Nat) oj,l[j]?=some oj->j≠i->j5 oj i=false->H j vs w'->H j (YW vs i v) fj
def YY (P:aC) (k0:Nat) (pre:List (List Nat)) (es:List Nat) (H:Nat->(Nat->ab)->ae->Prop) (lf l:List an) (y0:Nat->ab) (w:ae) (i:Nat) (o:an):Prop:=
 ∀(y vs:Nat->ab) (w':ae),(i=k0\/preB pre i=true->Ch [] w w')->Ch es w w'->(∀t,uF l i t=true->y t=y0 t)->
  (∀j d,j5 o j=true->(l[j]?).bind (·.dst)=some d->y d=vs j/\H j vs w')->
  (mJ lf o y=true->Yields P o (uE y) w' λv fj=>YX k0 es H l w i v vs w' fj)/\(mJ lf o y=false->YX k0 es H l w i undef vs w' w')
def JY (P:aC) (k0:Nat) (pre:List (List Nat)) (es:List Nat) (H:Nat->(Nat->ab)->ae->Prop) (lf l:List an) (y0:Nat->ab) (w:ae):Nat->List an->Prop
 |_,[]=>True
 |i,o::rest=>YY P k0 pre es H lf l y0 w i o/\JY P k0 pre es H lf l y0 w (i+1) rest
theorem JY.get {P:aC} {k0:Nat} {pre:List (List Nat)} {es:List Nat} {H:Nat->(Nat->ab)->ae->Prop} {lf l:List an} {y0:Nat->ab} {w:ae}:∀{k:Nat} {m:List an},JY P k0 pre es H lf l y0 w k m->∀(i:Nat) o,m[i]?=some o->YY P k0 pre es H lf l y0 w (k+i) o
 |_,[],_,i,o,h=>by simp at h
 |k,x::rest,⟨h1,h2⟩,0,o,h=>by obtain rfl:x=o:=by simpa using h
                              exact h1
 |k,x::rest,⟨h1,h2⟩,i+1,o,h=>by
  have:=JY.get h2 i o (by simpa using h)
  rwa [show k+1+i=k+(i+1) by omega]at this
structure aua (k0:Nat) (es:List Nat) (H:Nat->(Nat->ab)->ae->Prop) (l:List an) (n2:Nat) (a0:Act) (w0:ae) (vs:Nat->ab) (listed:Array Bool) (a:Act) (w:ae):Prop where
 ls:listed.size=l.length+n2
 off:∀i,l.length<=i->i<l.length+n2->listed[i]?=some false
 size:a.tmps.size=a0.tmps.size
 defers:a.defers=a0.defers
 ch:if listed[k0]?=some true then Ch es w0 w else Ch [] w0 w
 done:∀(i:Nat) (o:an),l[i]?=some o->listed[i]?=some true->(∀d,o.dst=some d->cw a d=vs i)/\H i vs w
 rest:∀(t:Nat),(∀(i:Nat) (o:an),l[i]?=some o->o.dst=some t->listed[i]?=some false)->cw a t=cw a0 t
 back:∀(i:Nat) (o:an),l[i]?=some o->listed[i]?=some true->∀j,j5 o j=true->listed[j]?=some true
section
variable{P:aC} {l:List an} {k0:Nat} {pre:List (List Nat)} {es:List Nat} {H:Nat->(Nat->ab)->ae->Prop} {a0:Act} {w0:ae} {Q:dN->Act->ae->Prop}
end
inductive GX where
 |v (x:ab)
 |a (obj:Obj)
 |n (cs mj:Array ab) (T:aD)
 |s (j:Nat)
def GX.sp:GX->Sp
 |.v x=>s0 x
 |.a o=>sA o
 |.n cs _ T=>sA (.cells cs T (0,0))
 |.s _=>s0 undef
def GX.fin:GX->VX
 |.v x=>.v x
 |.a o=>.a o
 |.n _ mj T=>.a (.cells mj T (0,0))
 |.s _=>.v undef
theorem Yields.mono {P:aC} {o:an} {ρ:aZ->ab} {w:ae} {R R':ab->ae->Prop} (h:Yields P o ρ w R) (k:∀v w',R v w'->R' v w'):Yields P o ρ w R':=by
 unfold Yields at*;split at h
 ·exact k _ _ h
 ·exact k _ _ h
 ·exact Calls.mono h λe w' ⟨v,e1,e2⟩=>⟨v,e1,k _ _ e2⟩
 ·exact h.elim
section
variable{P:aC} {lf l:List an} {xs:List GX} {y0:Nat->ab} {w:ae} {i k0:Nat} {pre:List (List Nat)} {o:an} {es:List Nat} {pv:ab->ae->Prop}
end
def Ve (i:Nat):GX->Bool
 |.s j=>ax j i
 |_=>false
section
variable{P:aC} {a0:Act} {w w0:ae} {Q:dN->Act->ae->Prop} {id:Nat} {L:List an} {ms:List Nat} {bs:List ai}
end
section
variable{P:aC} {lf l:List an} {sp:Nat->Sp} {xs:List GX} {y0:Nat->ab} {a0:Act} {w:ae} {i k0 m:Nat} {pre:List (List Nat)} {o:an} {es:List Nat} {pv:ab->ae->Prop}
end
section
variable{P:aC} {a0:Act} {w w0:ae} {Q:dN->Act->ae->Prop} {id:Nat} {L:List an} {ms:List Nat}
theorem BA.db {val:ab} {C:List ai->Prop} {bl:List ai} {B:Nat} {T:aD} (hT:∀bl',C bl'->∀x∈bl',BB x.obj≠some T) {v:ab} {w1 w2:ae} {b:Nat} {c2:Array ab} (hb:w1.heap[b]?=some (.cells c2 T (0,0))) (hc:Ch [b] w1 w2) (h:BA val C bl B v w1):BA val C bl B v w2:=by
 obtain⟨h1,bl',h2,h3,h4⟩:=h;refine⟨h1,bl',h2,λy hy=>⟨?_,(h3 y hy).2⟩,h4⟩;refine(hc.block _ (n_ (h3 y hy).1) ?_).trans (h3 y hy).1;intro hm;have e:y.id=b:=by simpa using hm
 have:=(h3 y hy).1;rw[e,hb]at this;exact hT bl' h2 y hy (by rw[<-ck this];rfl)
end
end Sx
namespace Go.Proofs.YtggfpcggakghnaaGreatDoor
section
open Go Go.RowKit Go.BigFrame Sx
def z_ (q:Nat->Int) (ka:Nat->Option aI) (kn kc:Nat->Nat):Array ab:=#[.int .i64 (q 0),.int .i64 (q 1),.int .i64 (q 2),.int .i64 (q 3),.int .i64 (q 4),.slice (ka 0) (kn 0) (kc 0),.slice (ka 1) (kn 1) (kc 1),.slice (ka 2) (kn 2) (kc 2),.slice (ka 3) (kn 3) (kc 3),.int .i64 (q 9),.int .i64 (q 10),.int .i64 (q 11),.int .i64 (q 12),.int .i64 (q 13),.int .i64 (q 14),.int .i64 (q 15),.int .i64 (q 16),.int .i64 (q 17),.int .i64 (q 18),.int .i64 (q 19),.int .i64 (q 20),.int .i64 (q 21),.int .i64 (q 22),.int .i64 (q 23),.int .i64 (q 24),.int .i64 (q 25),.int .i64 (q 26),.int .i64 (q 27),.int .i64 (q 28),.int .i64 (q 29),.int .i64 (q 30),.int .i64 (q 31),.int .i64 (q 32),.int .i64 (q 33),.int .i64 (q 34),.int .i64 (q 35),.int .i64 (q 36),.int .i64 (q 37),.int .i64 (q 38),.int .i64 (q 39),.int .i64 (q 40),.int .i64 (q 41),.int .i64 (q 42),.int .i64 (q 43),.int .i64 (q 44),.int .i64 (q 45),.int .i64 (q 46),.int .i64 (q 47),.int .i64 (q 48),.int .i64 (q 49),.int .i64 (q 50),.int .i64 (q 51),.int .i64 (q 52),.int .i64 (q 53),.int .i64 (q 54),.int .i64 (q 55)]
end
end Go.Proofs.YtggfpcggakghnaaGreatDoor
