/- Part 2 of the proof. -/
import Derived.Test.YtggfpcggakghnaaGreatDoorProg
import Derived.Test.YtggfpcggakghnaaGreatDoorRows
import Derived.Test.YtggfpcggakghnaaGreatDoorR1
set_option linter.all false
set_option maxRecDepth 100000
set_option maxHeartbeats 4000000
open Go.Proofs.Tryz
open Go.IntKind (u8 u16 u32 u64 i64)
open Array renaming ext'->fM
open BitVec renaming toNat_ofInt->J7,ofInt->oP
open Bool renaming or_eq_true->Da,and_eq_true->bu
open Go renaming TypeId->aJ,Program->aL,Addr->aQ,Value->ae,World->ag,Oper->ax,Operand->bh,run_underlying->dI,Exit->eE,FuncId->fL,IntKind->fq,wp_ret->gU,wp_skip->j7,wp_block->jw,heap_alloc_new->nT
open Go.Addr renaming add_lit->iS
open Go.Instr renaming makeSlice->Ys
open Go.IntKind renaming wrap_u64->s9,signed->uA,bits->uz,wrap->yr
open Go.IntWalk renaming i64_in->AO,u64_in->vV
open Go.Result renaming andThen_ok->cK
open Go.Sem renaming run_bind->bE,run_pure->du
open Go.Value renaming bool->Dc,int->eA
open Go.World renaming cell?->yq
open Int renaming natCast_nonneg->AL,negSucc_lt_zero->Kf,ofNat->db,fdiv->jx,fdiv_eq_ediv_of_nonneg->uB,le_trans->vW
open List renaming any_eq_true->AD,mem_filter->AE,pairwise_cons->AK,singleton_append->AM,mem_cons_self->De,getElem?_drop->FI,length_filter_le->FJ,getElem?_take->PC,append_assoc->bU,range->bw,append_nil->cH,mem_cons->cn,map_cons->eF,mem_append->fc,length_append->ft,length_cons->h_,mem_singleton->iH,getElem?_append_left->iq,getD->ir,getElem?_toArray->jQ,perm_middle->jU,getElem?_map->jt,mem_map->lP,map_map->lQ,getElem?_range->nV,mem_append_left->pJ,mem_append_right->uy,range_succ_eq_map->vU,mem_cons_of_mem->yu
open List.Mem renaming head->Db
open List.cons renaming inj->vT
open Nat renaming lt_of_lt_of_le->Pv,beq->az,ble->bG,blt->cD,lt_or_ge->cZ,eq_of_beq_eq_true->cz,le_refl->dH,le_of_ble_eq_true->dJ,zero_add->eY,le_trans->hY,eq_zero_or_pos->vP,le_add_right->yv
open Option renaming map_eq_some_iff->im
open Option.some renaming injEq->aY,inj->cG
open Prod.mk renaming injEq->bC
namespace Go.Proofs.YtggfpcggakghnaaGreatDoor
section
open Go Go.RowKit Go.BigFrame Sx Vx
def dR (u:ag):List aj:=u.heap.toList.zipIdx.map λp=>⟨p.2,false,p.1⟩
theorem LV {u:ag} {i:Nat} {o:Obj} (h:u.heap[i]?=some o):(⟨i,false,o⟩:aj)∈dR u:=by
 unfold dR;rw[lP];exact⟨(o,i),by rw[List.mk_mem_zipIdx_iff_getElem?];simpa using h,rfl⟩
theorem aaQ (w:ag):St [] w (dR w++[]) w:=by
 have:=St.given (w:=w) (w.heap.toList.zipIdx.map λp=>(p.2,p.1)) (by
  intro p hp;obtain⟨q,hq,rfl⟩:=lP.1 hp;have:=(List.mem_zipIdx_iff_getElem?.1 (show(q.1,q.2)∈w.heap.toList.zipIdx from hq));simpa using this)
 rw[cH];unfold dR;rw[lQ]at this;exact this
structure R8 where
 n:Nat
 f:Nat->Int
 b:Nat
 c:Nat
def R8.bl (r:R8):List aj:=[⟨r.b,true,.cells (bI r.n r.f r.c) 5 (0,0)⟩]
inductive CG where
 |a_ (u:ag)
 |row (r:R8)
instance:Bl CG:=⟨λg=>match g with|.a_ u=>dR u|.row r=>r.bl⟩
def kJ:List V->Option (List Int)
 |[]=>some []
 |.int .u8 x::l=>(match kJ l with
  |some r=>some (x::r)
  |none=>none)
 |_=>none
theorem wZ (ids:List Nat):∀{l:List V} {r:List Int},kJ l=some r->ai ids l=b9 r.length (dm r)
 |[],r,h=>by cases h;rfl
 |v::l,r,h=>by
  unfold kJ at h;split at h
  ·rename_i e;cases e
  ·rename_i x l' e;obtain⟨rfl,rfl⟩:=vT e;split at h
   ·rename_i r' hr;cases h;have ih:=wZ ids hr;simp only[ai,cl,ih,h_];unfold b9;rw[vU,eF,lQ];rfl
   ·cases h
  ·cases h
def w5 (o:Nat) (f:Nat->Int):Nat->Int:=match o with
 |0=>f
 |k+1=>A7 f (k+1)
theorem aaR (o:Nat) (f:Nat->Int) (j:Nat):w5 o f j=f (o+j):=by
 cases o with
 |zero=>simp[w5]
 |succ k=>rfl
def Ed:List CG->Option (List CG×R8)
 |[]=>none
 |[.row r]=>some ([],r)
 |g::l=>(match Ed l with
  |some (a,r)=>some (g::a,r)
  |none=>none)
theorem LW:∀{ch l:List CG} {r:R8},Ed ch=some (l,r)->ch=l++[.row r]
 |[],l,r,h=>by cases h
 |g::t,l,r,h=>by
  unfold Ed at h;split at h
  ·cases h
  ·rename_i e;obtain⟨rfl,rfl⟩:=vT e;cases h;rfl
  ·rename_i g' t' _ e;obtain⟨rfl,rfl⟩:=vT e;split at h
   ·rename_i a r' hr;cases h;rw[LW hr];rfl
   ·cases h
def LX (bl:List VB) (ch:List CG) (x:V) (X:Bool->Nat->(Nat->Int)->Prop):Prop:=match x with
 |.sl i o (m+1) _=>(match bl[i]?with
  |some ⟨_,⟨_,(0,0)⟩,l⟩=>(match kJ l with
   |some r=>o+(m+1)<=r.length/\X true (m+1) (w5 o (dm r))
   |none=>False)
  |_=>False)
 |.raw (.slice (some ⟨b,o,none⟩) m _)=>(match ch with
  |.a_ u::_=>∃f,cx u b o m f/\X false m f
  |_=>False)
 |_=>False
theorem LY {u w w0:ag} {ms:List Nat} {B:List aj} (S:St ms w0 B w) (h:∀y∈dR u,y∈B) {b o m:Nat} {f:Nat->Int} (h8:cx u b o m f):cx w b o m f:=λj hj=>by
 have h1:=h8 j hj;unfold yq at h1⊢;cases hh:u.heap[b]?with
 |none=>simp[hh]at h1
 |some ob=>
  have:w.heap[b]?=some ob:=S.at' (h _ (LV hh));simp only[hh,this]at h1⊢;exact h1
theorem aaS {ids:List Nat} {bl:List VB} {ch:List CG} {R:List aj} {ms:List Nat} {w0 w:ag} (hl:ids.length=bl.length) (S:St ms w0 (lits ids ids bl++aC ch R) w) {x:V} {X:Bool->Nat->(Nat->Int)->Prop} (h:LX bl ch x X):
 ∃b o m c f sure,den ids x=.slice (some ⟨b,o,none⟩) m c/\cx w b o m f/\(sure=true->0<m)/\X sure m f:=by
 unfold LX at h;split at h
 ·rename_i i o m c;split at h
  ·rename_i wr t l hb;split at h
   ·rename_i r hr;have aP:=(fV hl S hb).2;refine⟨_,_,_,_,_,true,rfl,λj hj=>?_,λ_=>Nat.succ_pos m,h.2⟩;rw[cell_of aP,wZ ids hr,aaR];simp only[jQ];exact rJ _ (by have:=h.1;omega)
   ·exact h.elim
  ·exact h.elim
 ·rename_i b o m c;split at h
  ·rename_i u rest;obtain⟨f,h8,hX⟩:=h;refine⟨b,o,m,c,f,false,rfl,LY S (λy hy=>?_) h8,(λe=>by cases e),hX⟩;exact uy _ (pJ _ hy)
  ·exact h.elim
 ·exact h.elim
def Hc:(bh->V)->Op->List VB->List CG->VK CG->Prop:=λe op bl ch K=>match op with
 |.call c=>(match c.callee,c.args.toList,c.argTypes.toList with
  |.builtin .append,[s,xs],[t,tx]=>(match prog.underlying t,prog.underlying tx with
   |some (.slice 5),some (.slice _)=>(match e s with
    |.raw (.slice none 0 0)=>LX bl ch (e xs) λsure m g=>m<=1000000/\
     cond sure (∀b c,m<=c->K (.raw (.slice (some ⟨b,0,none⟩) m c)) bl (ch++[.row ⟨m,g,b,c⟩]))
      ((m=0->K (.raw (.slice none 0 0)) bl ch)/\(0<m->∀b c,m<=c->K (.raw (.slice (some ⟨b,0,none⟩) m c)) bl (ch++[.row ⟨m,g,b,c⟩])))
    |.raw (.slice (some ⟨b,0,none⟩) n c)=>(match Ed ch with
     |some (l,r)=>LX bl ch (e xs) λ_ m g=>(b=r.b/\n=r.n/\c=r.c/\n<=c/\n+m<=1000000/\0<n+m)/\∀b' c',n+m<=c'->K (.raw (.slice (some ⟨b',0,none⟩) (n+m) c')) bl (l++[.row ⟨n+m,cA n r.f g,b',c'⟩])
     |none=>False)
    |_=>False)
   |_,_=>False)
  |_,_,_=>False)
 |.makeSlice t l c=>(match prog.underlying t,e l,e c with
  |some (.slice 5),.int _ (.ofNat 0),.int _ m=>(1<=m/\m<=1000000)/\∀b,K (.raw (.slice (some ⟨b,0,none⟩) 0 m.toNat)) bl (ch++[.row ⟨0,λ_=>0,b,m.toNat⟩])
  |_,_,_=>False)
 |_=>False
theorem ajf {P:aL} {ids:List Nat} {w:ag} {t el:aJ} {n:Nat} {inf:TypeInfo} {k1 k2:fq} (hu:P.underlying t=some (.slice el)) (hi:P.info? el=some inf) (hz:eS P el=some (0+1)) (h0:nq P el=some [.int .u8 0]) (h1:1<=n) (hn:n<=1000000) (hb:inf.bytes<=100):
 (Ys t (.int k1 ((0:Nat):Int)) (.int k2 (n:Int))).run P w=.ok (.slice (some ⟨w.heap.size,0,none⟩) 0 n) (w.alloc (.cells (bI 0 (λ_=>0) n) el)):=by
 obtain⟨v0,z1,z2⟩:=Be (P:=P) (w:=w) (ids:=ids) h0;have hv:v0.cells.size=0+1:=by rw[<-Array.length_toList,z2];rfl
 have Gu:(Array.range (n*(0+1))).map (λi=>v0.cells[i%v0.cells.size]!)=bI 0 (λ_=>0) n:=by
  apply fM;rw[QE v0.cells 0 hv,z2];simp[ai,cl,b9,bI,den]
 have hm:inf.bytes*n<=100000000:=hY (Nat.mul_le_mul hb hn) (by decide);have e1:(decide ((n:Int)<0)||decide ((inf.bytes:Int)*(n:Int)>2^48))=false:=by
  have:(inf.bytes:Int)*(n:Int)<=100000000:=by
   have q:=Int.ofNat_le.2 hm;rw[Int.natCast_mul]at q;exact q
  rw[decide_eq_false (by omega),decide_eq_false (by omega)];rfl
 have e4:(decide ((((0:Nat):Int))<0)||decide ((inf.bytes:Int)*((0:Nat):Int)>2^48))=false:=by simp
 have e2:¬(n*inf.bytes>roomBytes):=by
  have:n*inf.bytes<=100000000:=by rw[Nat.mul_comm];exact hm
  show¬(n*inf.bytes>_);unfold roomBytes;omega
 have e3:¬n*(0+1)=0:=by omega
 simp only[Ys,bE,dI hu,cK,asInt,asIntOf,du,KV hi,RH hn,RH (Nat.zero_le 1000000),e1,e4,Bool.false_or,askRoom,if_neg e2,Int.toNat_natCast,gX hz,if_neg e3,z1];simp only[show decide (((0:Nat):Int)<0)=false by simp,show decide (((0:Nat):Int)>(n:Int))=false by simp,Bool.or_self,Bool.false_eq_true,if_false,bE,du,cK,gX hz,if_neg e3,z1];rw[Gu];rfl
theorem aaT {ids:List Nat} {bl:List VB} {l:List CG} {B B' R:List aj} {ms:List Nat} {w0 w w':ag} (S:St ms w0 ((lits ids ids bl++aC l [])++(B++R)) w) {n c:Nat} {f:Nat->Int} {x:Option aQ} (hr:ff 5 n f x c B') (hB:Wr B) (hc:Ch (B.map aj.id) w w') (aP:∀y∈B',w'.heap[y.id]?=some y.obj/\((∃u∈B,y.id=u.id)\/w.heap.size<=y.id)) (h0:0<n):
 ∃b,x=some ⟨b,0,none⟩/\n<=c/\St ms w0 (lits ids ids bl++aC (l++[.row ⟨n,f,b,c⟩]) R) w':=by
 obtain⟨b,hle,rfl,rfl⟩:=Gi hr h0;refine⟨b,rfl,hle,?_⟩;have S2:=S.uE hB hc (λy hy=>(aP y hy).1) (λy hy=>(aP y hy).2) (by simp);have e:lits ids ids bl++aC (l++[.row ⟨n,f,b,c⟩]) R=(lits ids ids bl++aC l [])++([⟨b,true,.cells (bI n f c) 5 (0,0)⟩]++R):=by
  rw[nt,iX (aC [CG.row ⟨n,f,b,c⟩] R) l,bU];rfl
 rw[e];exact S2
theorem He (ids:List Nat) (bl:List VB) (l:List CG) (r:R8) (R:List aj):lits ids ids bl++aC (l++[.row r]) R=(lits ids ids bl++aC l [])++(r.bl++R):=by
 rw[nt,iX (aC [CG.row r] R) l,bU];rfl
theorem Sc (ids:List Nat) (bl:List VB) (l:List CG) (R:List aj):lits ids ids bl++aC l R=(lits ids ids bl++aC l [])++([]++R):=by
 rw[iX R l,bU];rfl
theorem BK (n:Nat) (f g:Nat->Int):cA 0 f g=g:=by funext j;rfl
theorem Se {gl:Nat->Option Nat}:gv prog gl Hc:=by
 intro e op ids bl ch R ms w0 w K ρ o hg hl S ba ho h;unfold Hc at h;split at h
 ·rename_i c;split at h
  ·rename_i s xs t tx fl cV ei;split at h
   ·rename_i T' ht gG;obtain⟨oe,ar,iO⟩:=c;simp only at fl cV ei;have e2:ar=#[s,xs]:=by rw[<-cV]
    have e3:iO=#[t,tx]:=by rw[<-ei]
    subst fl e2 e3;have cu:(prog.info? 5).map (λi=>(i.zero.map (·.cells),i.size,i.bytes))=some (some #[.int .u8 0],1,1):=by kernel_rfl
    split at h
    ·rename_i gV;obtain⟨b,ob,m,c,f,sure,hx,h8,aaU,hm,hK⟩:=aaS hl S h;obtain⟨v,w',bQ,cB,x',c',bl',rfl,fZ,nu⟩:=Qa (P:=prog) (ty:=o.type) (P_ 5) (w:=w) (λy hy=>nomatch hy) (A6 h8 gG) ht cu (by omega);rw[eY,BK 0]at fZ;have Hf:=j_ (P:=prog) (ρ:=ρ) (o:=o) ho (sv:=.slice none 0 0) (by rw[ba,gV];rfl) (by rw[ba,hx]) bQ;have Sf:0<m->∀b c,m<=c->K (.raw (.slice (some ⟨b,0,none⟩) m c)) bl (ch++[.row ⟨m,f,b,c⟩]):=by
      cases sure with
      |true=>exact λ_=>hK
      |false=>exact hK.2
     have tL:m=0->K (.raw (.slice none 0 0)) bl ch:=λh0=>by
      cases sure with
      |true=>have:=aaU rfl;omega
      |false=>exact hK.1 h0
     rcases vP m with lB|lB
     ·have h1:=tL lB;subst lB;obtain⟨i,hi,Kw⟩:=im.1 cu;simp only[bC]at Kw;have ajg:=j_ (P:=prog) (ρ:=ρ) (o:=o) ho (sv:=.slice none 0 0) (by rw[ba,gV];rfl) (by rw[ba,hx]) (run_append_nothing (P:=prog) w t tx o.type 5 i ht hi none 0 0 (dH _) _ (by rw[Kw.2.1];exact A6 h8 gG));exact⟨_,[],bl,_,w,.inl (by rw[ajg];simp[den]),by simpa using hl,by simpa using S,h1⟩
     ·obtain⟨b',rfl,hle,S2⟩:=aaT (l:=ch) (B:=[]) (by rw[<-Sc];exact S) fZ (λy hy=>nomatch hy) (by simpa using cB) (λy hy=>by simpa using nu y hy) lB;exact⟨_,[],bl,_,w',.inl (by rw[Hf,eY];simp[den]),by simpa using hl,by simpa using S2,Sf lB b' c' hle⟩
    ·rename_i b n c gV;split at h
     ·rename_i l r Hg;obtain rfl:=LW Hg;obtain⟨b1,ob,m,c1,f,sure,hx,h8,aaU,⟨rfl,rfl,rfl,jV,hb,BL⟩,hK⟩:=aaS hl S h;have S1:=S;rw[He]at S1;obtain⟨v,w',bQ,cB,x',c',bl',rfl,fZ,nu⟩:=Qa (P:=prog) (ty:=o.type) (show ff 5 r.n r.f (some ⟨r.b,0,none⟩) r.c r.bl from⟨jV,.inr ⟨_,rfl,rfl⟩⟩) (w:=w) (λy hy=>S1.at' (by simp[hy])) (A6 h8 gG) ht cu (by omega);have Hf:=j_ (P:=prog) (ρ:=ρ) (o:=o) ho (sv:=.slice (some ⟨r.b,0,none⟩) r.n r.c) (by rw[ba,gV];rfl) (by rw[ba,hx]) bQ;obtain⟨b',rfl,hle,S2⟩:=aaT S1 fZ (Wr.cons rfl Wr.nil) cB nu BL;exact⟨_,[],bl,_,w',.inl (by rw[Hf];simp[den]),by simpa using hl,by simpa using S2,hK b' c' hle⟩
     ·exact h.elim
    ·exact h.elim
   ·exact h.elim
  ·exact h.elim
 ·rename_i t l c;split at h
  ·rename_i k1 k2 m hu nx GZ;obtain⟨⟨m1,m2⟩,hK⟩:=h;obtain⟨n,rfl⟩:=Int.eq_ofNat_of_zero_le (show 0<=m by omega);obtain⟨inf,tH,iK⟩:∃inf,prog.info? 5=some inf/\inf.bytes<=100:=⟨_,rfl,dJ (by kernel_rfl)⟩;have bQ:=ajf (P:=prog) (ids:=ids) (w:=w) (t:=t) (el:=5) (n:=n) (inf:=inf) (k1:=k1) (k2:=k2) hu tH (by kernel_rfl) (by kernel_rfl) (by omega) (by omega) iK;rw[Int.toNat_natCast]at hK;refine⟨_,[],bl,_,w.alloc (.cells (bI 0 (λ_=>0) n) 5),.inl ?_,by simpa using hl,?_,hK w.heap.size⟩
   ·unfold execOp;have e1:db 0=((0:Nat):Int):=rfl;simp only[ho,ba,nx,GZ,den,bE,e1,bQ,cK,du]
   ·rw[cH,He];rw[Sc]at S;exact S.uE (λy hy=>nomatch hy) (Ch.alloc [] w _) (λy hy=>by
     obtain rfl:=iH.1 hy;exact nT w _) (λy hy=>by
     obtain rfl:=iH.1 hy;exact .inr (dH _)) (by simp[R8.bl])
  ·exact h.elim
 ·exact h.elim
def aN (k:Nat) (x:Int):Nat->Int:=λj=>u8.wrap (jx x (2^(8*(k-1-j))))
theorem fdiv_zero (x:Int) (k:Nat) (h0:0<=x) (h1:x<2^k):jx x (2^k)=0:=by
 rw[uB _ (Int.le_of_lt (Int.lt_of_le_of_lt h0 h1))];exact Int.ediv_eq_zero_of_lt h0 h1
def ints (n:Nat) (f:Nat->Int):List V:=(bw n).map λj=>.int .u8 (f j)
theorem Sg {G:Type} [Bl G] {L:List (bR G)} {h:(bh->V)->Op->List VB->List G->VK G->Prop} {hok:gv prog de h} (hL:aI prog de L) {f:fL} {args:List V} {K:VK G} {w:ag} (hv:qp (br (fW prog de L h hok) 60 f args [] [] (bA 0 K))):
 aV prog f (aH [] args).toArray w λv w'=>∃x ids bl ch,v=den ids x/\ids.length=bl.length/\St [] w (lits ids ids bl++aC ch []) w'/\K x bl ch:=by
 refine(eO hL.T hL.Q 60 (C:=fW prog de L h hok) (ids:=[]) (bl:=[]) (ch:=[]) (R:=[]) (λg i h=>by cases h) rfl (St.nil [] w) hv.h).mono ?_;rintro v w' ⟨x,more,bl',ch',rfl,h1,S',hK⟩;obtain⟨v2,cJ,bl2,hv,dv,S2,qA⟩:=iB (n0:=0) h1 (Nat.zero_le _) S' hK;exact⟨v2,_,bl2,ch',hv,dv,S2,qA⟩
def qB (k:Nat) (x:Int):VB:=⟨true,⟨5,(0,0)⟩,ints k (aN k x)⟩
def BM (k:Nat) (x d:Int) (K:VK Empty):Prop:=br (fW prog de ([]:List (bR Empty)) (zj prog) Bx) 60 70 [.int .u64 x,.int .i64 k] [] [] (bA 0 K)=cond (jx x d !=0) (K (.av [.raw (.slice none 0 0),.int .i64 1]) [] []) (K (.av [.sl 0 0 k k,.int .i64 0]) [qB k x] [])
theorem ajh (x:Int) (K:VK Empty):BM 1 x (2^8) K:=by
 unfold BM;kernel_rfl
theorem aji (x:Int) (K:VK Empty):BM 2 x (2^16) K:=by
 unfold BM;kernel_rfl
theorem ajj (x:Int) (K:VK Empty):BM 4 x (2^32) K:=by
 unfold BM;kernel_rfl
theorem zq (ids:List Nat) (n:Nat) (f:Nat->Int):(ai ids (ints n f)).toArray=aE .u8 n f:=by
 have h:∀l:List Nat,ai ids (l.map λj=>V.int .u8 (f j))=l.map λj=>eA .u8 (f j):=by
  intro l;induction l with
  |nil=>rfl
  |cons j l ih=>simp only[eF,ai,cl,den,ih,AM]
 unfold ints;rw[h];rfl
theorem Sh {k e:Nat} {x:Int} (hx:0<=x/\x<2^e) (hv:∀K,BM k x (2^e) K) (w:ag):aV prog 70 #[.int .u64 x,.int .i64 k] w λv w1=>∃b,v=.tuple #[.slice (some ⟨b,0,none⟩) k k,.int .i64 0]/\w.heap.size<=b/\w1.heap[b]?=some (.cells (aE .u8 k (aN k x)) 5 (0,0))/\Ch [] w w1:=by
 have h:br (fW prog de ([]:List (bR Empty)) (zj prog) Bx) 60 70 [.int .u64 x,.int .i64 k] [] [] (bA 0 λv bl _=>v=.av [.sl 0 0 k k,.int .i64 0]/\bl=[qB k x]):=by
  rw[show _=_ from hv _,fdiv_zero x e hx.1 hx.2];exact⟨rfl,rfl⟩
 refine(Sg aI.nil ⟨h⟩).mono ?_;rintro v w' ⟨y,ids,bl,ch,rfl,hl,S,rfl,rfl⟩
 match ids,hl with
 |[b],_=>
  refine⟨b,rfl,(S.own 0 (aD [b] b (qB k x)) rfl rfl).resolve_left (by simp),?_,S.ch⟩;have:=S.at_ 0 (aD [b] b (qB k x)) rfl;simp only[aD,qB,zq]at this;exact this
def Hh {G:Type}:dc G:=λargs bl ch K=>match args with
 |[.int .u64 x,.int .i64 (.ofNat k)]=>cond ((az k 1||(az k 2||az k 4))&&bM bl.length bl) ((0<=x/\x<2^(8*k))/\K (.av [.sl bl.length 0 k k,.int .i64 0]) (bl++[qB k x]) ch) False
 |_=>False
theorem ajk {G:Type} [Bl G] {gl:Nat->Option Nat}:Sound (G:=G) prog gl 70 Hh:=by
 intro args ids bl ch R ms w0 w K hg hl S hc;unfold Hh at hc;split at hc
 ·rename_i x k;cases hq:(az k 1||(az k 2||az k 4))&&bM bl.length bl with
  |false=>rw[hq]at hc;exact hc.elim
  |true=>
   rw[hq]at hc;simp only[bu,Da]at hq;obtain⟨hx,hK⟩:=hc;have hp:aV prog 70 #[.int .u64 x,.int .i64 k] w λv w1=>∃b,v=.tuple #[.slice (some ⟨b,0,none⟩) k k,.int .i64 0]/\w.heap.size<=b/\w1.heap[b]?=some (.cells (aE .u8 k (aN k x)) 5 (0,0))/\Ch [] w w1:=by
    rcases hq.1 with h|h|h
    ·obtain rfl:=cz h;exact Sh hx (ajh x) w
    ·obtain rfl:=cz h;exact Sh hx (aji x) w
    ·obtain rfl:=cz h;exact Sh hx (ajj x) w
   refine hp.mono ?_;rintro v w' ⟨b,rfl,eG,aP,cB⟩;refine⟨_,[b],_,_,?_,by simp[hl],?_,hK⟩
   ·have:(ids++[b]).getD bl.length 0=b:=by rw[<-hl];simp[ir]
    simp only[den,aH,this]
   ·have e:aD (ids++[b]) b (qB k x)=⟨b,true,.cells (aE .u8 k (aN k x)) 5 (0,0)⟩:=by
     unfold aD qB;rw[zq]
    rw[fC _ _ _ _ hl,fD _ _ (by rw[hl];exact hq.2)];simp only[lits,e];refine(S.new cB eG aP).perm ?_;rw[bU];exact jU.symm
 ·exact hc.elim
theorem ajl {G:Type}:ia (Hh (G:=G)):=by
 intro args bl ch K hc;unfold Hh at hc⊢;split at hc
 ·revert hc;cases(az _ 1||(az _ 2||az _ 4))&&bM bl.length bl with
  |false=>exact λh=>h.elim
  |true=>exact λh=>⟨h.1,h.2,_,rfl⟩
 ·exact hc.elim
def Ee (G:Type):List (bR G):=[⟨70,true,Hh⟩]
theorem aaV {G:Type} [Bl G] {gl:Nat->Option Nat}:aI (G:=G) prog gl (Ee G):=aI.cons ⟨ajk,λ_=>ajl⟩ aI.nil
def Hj (k:Nat) (n m:Int) (K:VK Empty):Prop:=br (bZ prog de (Ee Empty)) 60 44 [.int .i64 n,.int .i64 k] [] [] (bA 0 K)=((0<=bits .and .u64 (u64.wrap n) m/\bits .and .u64 (u64.wrap n) m<2^(8*k))/\K (.sl 0 0 k k) [qB k (bits .and .u64 (u64.wrap n) m)] [])
theorem ajm (n:Int) (K:VK Empty):Hj 1 n 255 K:=by
 unfold Hj;kernel_rfl
theorem ajn (n:Int) (K:VK Empty):Hj 4 n 4294967295 K:=by
 unfold Hj;kernel_rfl
theorem aaW {k:Nat} {n m d:Int} (hn:0<=n/\n<4294967296) (hv:∀K,Hj k n m K) (he:bits .and .u64 n m=n%d) (hd:0<d) (h2:d=2^(8*k)) (w:ag):
 aV prog 44 #[.int .i64 n,.int .i64 k] w λv w1=>∃b,v=.slice (some ⟨b,0,none⟩) k k/\w.heap.size<=b/\w1.heap[b]?=some (.cells (aE .u8 k (aN k (n%d))) 5 (0,0))/\Ch [] w w1:=by
 have h:br (bZ prog de (Ee Empty)) 60 44 [.int .i64 n,.int .i64 k] [] [] (bA 0 λv bl _=>v=.sl 0 0 k k/\bl=[qB k (n%d)]):=by
  rw[show _=_ from hv _,vV _ (by omega),he];exact⟨⟨Int.emod_nonneg _ (by omega),h2▸Int.emod_lt_of_pos _ hd⟩,rfl,rfl⟩
 refine(Sg (h:=K4) (hok:=QP) aaV ⟨h⟩).mono ?_;rintro v w' ⟨y,ids,bl,ch,rfl,hl,S,rfl,rfl⟩
 match ids,hl with
 |[b],_=>
  refine⟨b,rfl,(S.own 0 (aD [b] b (qB k (n%d))) rfl rfl).resolve_left (by simp),?_,S.ch⟩;have:=S.at_ 0 (aD [b] b (qB k (n%d))) rfl;simp only[aD,qB,zq]at this;exact this
theorem LZ (n:Int) (hn:0<=n/\n<4294967296) (w:ag):
 aV prog 44 #[.int .i64 n,.int .i64 1] w λv w1=>∃b,v=.slice (some ⟨b,0,none⟩) 1 1/\w.heap.size<=b/\w1.heap[b]?=some (.cells #[.int .u8 ((aN 1 (n%256)) 0)] 5 (0,0))/\Ch [] w w1:=
 aaW hn (ajm n) (rq .u64 n 255 256 8 (by decide) (by decide) (by decide)) (by decide) rfl w
theorem ajo (n:Int) (hn:0<=n/\n<4294967296) (w:ag):
 aV prog 44 #[.int .i64 n,.int .i64 4] w λv w1=>∃b,v=.slice (some ⟨b,0,none⟩) 4 4/\w.heap.size<=b/\w1.heap[b]?=some (.cells #[.int .u8 ((aN 4 (n%4294967296)) 0),.int .u8 ((aN 4 (n%4294967296)) 1),.int .u8 ((aN 4 (n%4294967296)) 2),.int .u8 ((aN 4 (n%4294967296)) 3)] 5 (0,0))/\Ch [] w w1:=
 aaW hn (ajn n) (rq .u64 n 4294967295 4294967296 32 (by decide) (by decide) (by decide)) (by decide) rfl w
abbrev JP:=(Nat×Nat×Nat×Nat)×(Nat->Int)
def jP (p:Nat×Nat×Nat×Nat):V:=.raw (.slice (some ⟨p.1,p.2.1,none⟩) p.2.2.1 p.2.2.2)
def jB (ps:List (Nat×Nat×Nat×Nat)):VB:=⟨false,⟨23,(0,0)⟩,ps.map jP⟩
def nz (L:List (bR CG)) (f:fL) (args:List V) (bl:List VB) (ch:List CG) (K:VK CG):Prop:=br (fW prog de L Hc Se) 60 f args bl ch K
section
variable(u:ag) (B:VB) (K:VK CG)
def Si:List (Nat×Nat×Nat×Nat)->Nat->Nat->Nat->(Nat->Int)->Prop
 |[],b,n,c,f=>K (.raw (.slice (some ⟨b,0,none⟩) n c)) [B] [.a_ u,.row ⟨n,f,b,c⟩]
 |p::ps,b,n,c,f=>∃g,cx u p.1 p.2.1 p.2.2.1 g/\(b=b/\n=n/\c=c/\n<=c/\n+p.2.2.1<=1000000/\0<n+p.2.2.1)/\∀b' c',n+p.2.2.1<=c'->Si ps b' (n+p.2.2.1) c' (cA n f g)
def Sj:List (Nat×Nat×Nat×Nat)->Prop
 |[]=>K (.raw (.slice none 0 0)) [B] [.a_ u]
 |p::ps=>∃g,cx u p.1 p.2.1 p.2.2.1 g/\p.2.2.1<=1000000/\(p.2.2.1=0->Sj ps)/\(0<p.2.2.1->∀b c,p.2.2.1<=c->Si u B K ps b p.2.2.1 c g)
def w6 (k:Nat) (ps:List (Nat×Nat×Nat×Nat)):Prop:=nz [] 43 [.sl 0 0 k k] [jB ps] [.a_ u] (bA 1 K)=Sj u (jB ps) K ps
theorem ajp (p:Nat×Nat×Nat×Nat):w6 u K 1 [p]:=by
 unfold w6;kernel_rfl
theorem ajq (p q:Nat×Nat×Nat×Nat):w6 u K 2 [p,q]:=by
 unfold w6;kernel_rfl
theorem ajr (p q r:Nat×Nat×Nat×Nat):w6 u K 3 [p,q,r]:=by
 unfold w6;kernel_rfl
theorem ajs (p q r s:Nat×Nat×Nat×Nat):w6 u K 4 [p,q,r,s]:=by
 unfold w6;kernel_rfl
end
def gj:List JP->Nat->Nat
 |[],n=>n
 |p::ps,n=>gj ps (n+p.1.2.2.1)
def l9:List JP->Nat->(Nat->Int)->Nat->Int
 |[],n,f=>f
 |p::ps,n,f=>l9 ps (n+p.1.2.2.1) (cA n f p.2)
theorem Sk:∀(ps:List JP) (n:Nat),n<=gj ps n
 |[],n=>dH n
 |p::ps,n=>hY (yv _ _) (Sk ps _)
theorem aaX {u:ag} {B:VB} {K:VK CG}:∀(ps:List JP) (b n c:Nat) (f:Nat->Int),n<=c->0<n->gj ps n<=1000000->(∀q∈ps,cx u q.1.1 q.1.2.1 q.1.2.2.1 q.2)->
 (∀b c,gj ps n<=c->K (.raw (.slice (some ⟨b,0,none⟩) (gj ps n) c)) [B] [.a_ u,.row ⟨gj ps n,l9 ps n f,b,c⟩])->Si u B K (ps.map (·.1)) b n c f
 |[],b,n,c,f,h1,_,_,_,hK=>hK b c h1
 |p::ps,b,n,c,f,h1,h2,h3,h4,hK=>by
  have:=Sk ps (n+p.1.2.2.1);have h3':gj ps (n+p.1.2.2.1)<=1000000:=h3;exact⟨p.2,h4 p De,⟨rfl,rfl,rfl,h1,hY this h3',Pv h2 (yv _ _)⟩,λb' c' h=>aaX ps b' _ c' _ h (Pv h2 (yv _ _)) h3' (λq hq=>h4 q (yu _ hq)) hK⟩
theorem aaY:∀(ps:List JP) (n:Nat) (f g:Nat->Int),(∀j,j<n->f j=g j)->∀j,j<gj ps n->l9 ps n f j=l9 ps n g j
 |[],n,f,g,h,j,hj=>h j hj
 |p::ps,n,f,g,h,j,hj=>aaY ps _ _ _ (λi hi=>by
  unfold cA;cases hb:cD i n with
  |false=>rfl
  |true=>exact h i (by unfold cD at hb;exact dJ hb)) j hj
theorem aaZ {u:ag} {B:VB} {K:VK CG} {z:Nat->Int}:∀(ps:List JP),gj ps 0<=1000000->(∀q∈ps,cx u q.1.1 q.1.2.1 q.1.2.2.1 q.2)->(gj ps 0=0->K (.raw (.slice none 0 0)) [B] [.a_ u])->
 (∀F,(∀j,j<gj ps 0->F j=l9 ps 0 z j)->∀b c,0<gj ps 0->gj ps 0<=c->K (.raw (.slice (some ⟨b,0,none⟩) (gj ps 0) c)) [B] [.a_ u,.row ⟨gj ps 0,F,b,c⟩])->Sj u B K (ps.map (·.1))
 |[],_,_,h,_=>h rfl
 |p::ps,h1,h2,h3,h4=>by
  have e:gj (p::ps) 0=gj ps p.1.2.2.1:=by show gj ps (0+p.1.2.2.1)=_;rw[eY]
  have hc:l9 (p::ps) 0 z=l9 ps p.1.2.2.1 p.2:=by show l9 ps (0+p.1.2.2.1) (cA 0 z p.2)=_;rw[eY,BK 0]
  rw[e]at h1 h3 h4;rw[hc]at h4;have eG:=Sk ps p.1.2.2.1;refine⟨p.2,h2 p De,hY eG h1,λh0=>?_,λh0 b c hle=>aaX ps b _ c _ hle h0 h1 (λq hq=>h2 q (yu _ hq)) λb c h=>h4 _ (λ_ _=>rfl) b c (Pv h0 eG) h⟩;rw[show p.1.2.2.1=0 from h0]at h1 h3 h4;exact aaZ (z:=z) ps h1 (λq hq=>h2 q (yu _ hq)) h3 λF hF=>h4 F λj hj=>(hF j hj).trans (aaY ps 0 _ _ (λi hi=>absurd hi (Nat.not_lt_zero i)) j hj)
theorem Sl {ids:List Nat} {bl:List VB} {l:List CG} {r:R8} {w w':ag} (S:St [] w (lits ids ids bl++aC (l++[.row r]) []) w'):w.heap.size<=r.b:=by
 rw[He]at S;have:=S.oT (x:=⟨r.b,true,.cells (bI r.n r.f r.c) 5 (0,0)⟩) (by simp[R8.bl]) rfl;simpa using this
theorem Hk {ids:List Nat} {bl:List VB} {l:List CG} {r:R8} {R:List aj} {ms:List Nat} {w0 w:ag} (S:St ms w0 (lits ids ids bl++aC (l++[.row r]) R) w):w.heap[r.b]?=some (.cells (bI r.n r.f r.c) 5 (0,0)):=by
 rw[He]at S;exact S.at' (x:=⟨r.b,true,.cells (bI r.n r.f r.c) 5 (0,0)⟩) (by simp[R8.bl])
theorem L_ {k pb:Nat} {ps:List JP} {w:ag} {z:Nat->Int} (hv:∀K,w6 w K k (ps.map (·.1))) (hp:w.heap[pb]?=some (.cells (ai [] ((ps.map (·.1)).map jP)).toArray 23 (0,0))) (h1:gj ps 0<=1000000) (hA:∀q∈ps,cx w q.1.1 q.1.2.1 q.1.2.2.1 q.2):
 aV prog 43 #[.slice (some ⟨pb,0,none⟩) k k] w λv w1=>Ch [] w w1/\((gj ps 0=0/\v=.slice none 0 0)\/(0<gj ps 0/\∃b c,v=.slice (some ⟨b,0,none⟩) (gj ps 0) c/\gj ps 0<=c/\w.heap.size<=b/\w1.heap[b]?=some (.cells (bI (gj ps 0) (l9 ps 0 z) c) 5 (0,0)))):=by
 have h:nz [] 43 [.sl 0 0 k k] [jB (ps.map (·.1))] [.a_ w] (bA 1 λv bl ch=>bl=[jB (ps.map (·.1))]/\((gj ps 0=0/\v=.raw (.slice none 0 0))\/(0<gj ps 0/\∃F b c,(∀j,j<gj ps 0->F j=l9 ps 0 z j)/\v=.raw (.slice (some ⟨b,0,none⟩) (gj ps 0) c)/\gj ps 0<=c/\ch=[.a_ w,.row ⟨gj ps 0,F,b,c⟩]))):=by
  rw[show _=_ from hv _];exact aaZ ps h1 hA (λh=>⟨rfl,.inl ⟨h,rfl⟩⟩) λF hF b c h0 hc=>⟨rfl,.inr ⟨h0,F,b,c,hF,rfl,hc,rfl⟩⟩
 have S:St [] w (lits [pb] [pb] [jB (ps.map (·.1))]++aC [CG.a_ w] []) w:=by
  have:=St.given (w:=w) ((pb,.cells (ai [] ((ps.map (·.1)).map jP)).toArray 23 (0,0))::w.heap.toList.zipIdx.map λp=>(p.2,p.1)) (by
   intro p h;rcases cn.1 h with rfl|h
   ·exact hp
   obtain⟨q,hq,rfl⟩:=lP.1 h;have:=(List.mem_zipIdx_iff_getElem?.1 (show(q.1,q.2)∈w.heap.toList.zipIdx from hq));simpa using this)
  have e:ai [pb] ((ps.map (·.1)).map jP)=ai [] ((ps.map (·.1)).map jP):=by
   have:∀l:List (Nat×Nat×Nat×Nat),ai [pb] (l.map jP)=ai [] (l.map jP):=λl=>by
    induction l with
    |nil=>rfl
    |cons a l ih=>simp only[eF,ai,ih,jP,cl,den]
   exact this _
  simp only[lits,aD,jB,e];show St [] w (_::(dR w++[])) w;rw[cH];unfold dR;rw[eF,lQ (l:=w.heap.toList.zipIdx)]at this;exact this
 refine(eO (aI.nil (G:=CG) (P:=prog) (gl:=de)).T (aI.nil (G:=CG) (P:=prog) (gl:=de)).Q 60 (C:=fW prog de [] Hc Se) (λg i h=>by cases h) rfl S h).mono ?_;rintro v w' ⟨x,more,bl',ch',rfl,h1,S',hK⟩;obtain⟨v2,cJ,bl2,hv,dv,S2,rfl,qA⟩:=iB (n0:=1) h1 (by simp) S' hK;refine⟨S2.ch,?_⟩;rcases qA with⟨h0,rfl⟩|⟨h0,F,b,c,hF,rfl,hc,rfl⟩
 ·exact .inl ⟨h0,hv⟩
 ·refine .inr ⟨h0,b,c,hv,hc,Sl (l:=[.a_ w]) S2,?_⟩;have:=Hk (l:=[.a_ w]) S2;rw[this];congr 2;exact RT rfl hF
theorem aa0 (pb:Nat) (b0 o0 n0 c0:Nat) (f0:Nat->Int) (b1 o1 n1 c1:Nat) (f1:Nat->Int) (b2 o2 n2 c2:Nat) (f2:Nat->Int) (h0:0<n0) (hn:n0+n1+n2<=1000000) (w:ag) (hp:w.heap[pb]?=some (.cells #[.slice (some ⟨b0,o0,none⟩) n0 c0,.slice (some ⟨b1,o1,none⟩) n1 c1,.slice (some ⟨b2,o2,none⟩) n2 c2] 23 (0,0))) (BF:cx w b0 o0 n0 f0) (wQ:cx w b1 o1 n1 f1) (Hl:cx w b2 o2 n2 f2):
 aV prog 43 #[.slice (some ⟨pb,0,none⟩) 3 3] w λv w1=>∃b c1,v=.slice (some ⟨b,0,none⟩) (n0+n1+n2) c1/\n0+n1+n2<=c1/\w.heap.size<=b/\w1.heap[b]?=some (.cells (bI (n0+n1+n2) (jY n0 n1 f0 f1 f2) c1) 5 (0,0))/\Ch [] w w1:=by
 let ps:List JP:=[((b0,o0,n0,c0),f0),((b1,o1,n1,c1),f1),((b2,o2,n2,c2),f2)]
 have et:gj ps 0=n0+n1+n2:=by show 0+n0+n1+n2=_;rw[eY]
 refine(L_ (k:=3) (ps:=ps) (z:=λ_=>0) (λK=>ajr w K (b0,o0,n0,c0) (b1,o1,n1,c1) (b2,o2,n2,c2)) hp (by rw[et];exact hn) (λq hq=>by
  rcases cn.1 hq with rfl|hq
  ·exact BF
  rcases cn.1 hq with rfl|hq
  ·exact wQ
  rcases cn.1 hq with rfl|hq
  ·exact Hl
  cases hq)).mono ?_
 rintro v w1 ⟨cB,⟨h,_⟩|⟨_,b,c,rfl,h1,h2,h3⟩⟩
 ·omega
 ·have ec:l9 ps 0 (λ_=>0)=jY n0 n1 f0 f1 f2:=by
   simp only[ps,l9,eY,BK 0];rfl
  rw[et]at h1 h3⊢;rw[ec]at h3;exact⟨b,c,rfl,h1,h2,h3,cB⟩
theorem ajt (pb:Nat) (b0 o0 n0 c0:Nat) (f0:Nat->Int) (b1 o1 n1 c1:Nat) (f1:Nat->Int) (b2 o2 n2 c2:Nat) (f2:Nat->Int) (b3 o3 n3 c3:Nat) (f3:Nat->Int) (h0:0<n0) (hn:n0+n1+n2+n3<=1000000) (w:ag) (hp:w.heap[pb]?=some (.cells #[.slice (some ⟨b0,o0,none⟩) n0 c0,.slice (some ⟨b1,o1,none⟩) n1 c1,.slice (some ⟨b2,o2,none⟩) n2 c2,.slice (some ⟨b3,o3,none⟩) n3 c3] 23 (0,0))) (BF:cx w b0 o0 n0 f0) (wQ:cx w b1 o1 n1 f1) (Hl:cx w b2 o2 n2 f2) (hB3:cx w b3 o3 n3 f3):
 aV prog 43 #[.slice (some ⟨pb,0,none⟩) 4 4] w λv w1=>∃b c1,v=.slice (some ⟨b,0,none⟩) (n0+n1+n2+n3) c1/\n0+n1+n2+n3<=c1/\w.heap.size<=b/\w1.heap[b]?=some (.cells (bI (n0+n1+n2+n3) (G5 n0 n1 n2 f0 f1 f2 f3) c1) 5 (0,0))/\Ch [] w w1:=by
 let ps:List JP:=[((b0,o0,n0,c0),f0),((b1,o1,n1,c1),f1),((b2,o2,n2,c2),f2),((b3,o3,n3,c3),f3)]
 have et:gj ps 0=n0+n1+n2+n3:=by show 0+n0+n1+n2+n3=_;rw[eY]
 refine(L_ (k:=4) (ps:=ps) (z:=λ_=>0) (λK=>ajs w K (b0,o0,n0,c0) (b1,o1,n1,c1) (b2,o2,n2,c2) (b3,o3,n3,c3)) hp (by rw[et];exact hn) (λq hq=>by
  rcases cn.1 hq with rfl|hq
  ·exact BF
  rcases cn.1 hq with rfl|hq
  ·exact wQ
  rcases cn.1 hq with rfl|hq
  ·exact Hl
  rcases cn.1 hq with rfl|hq
  ·exact hB3
  cases hq)).mono ?_
 rintro v w1 ⟨cB,⟨h,_⟩|⟨_,b,c,rfl,h1,h2,h3⟩⟩
 ·omega
 ·have ec:l9 ps 0 (λ_=>0)=G5 n0 n1 n2 f0 f1 f2 f3:=by
   simp only[ps,l9,eY,BK 0];rfl
  rw[et]at h1 h3⊢;rw[ec]at h3;exact⟨b,c,rfl,h1,h2,h3,cB⟩
theorem aju (pb:Nat) (b0 o0 n0 c0:Nat) (f0:Nat->Int) (b1 o1 n1 c1:Nat) (f1:Nat->Int) (h0:0<n1) (hn:n0+n1<=1000000) (w:ag) (hp:w.heap[pb]?=some (.cells #[.slice (some ⟨b0,o0,none⟩) n0 c0,.slice (some ⟨b1,o1,none⟩) n1 c1] 23 (0,0))) (BF:cx w b0 o0 n0 f0) (wQ:cx w b1 o1 n1 f1):
 aV prog 43 #[.slice (some ⟨pb,0,none⟩) 2 2] w λv w1=>∃b c1,v=.slice (some ⟨b,0,none⟩) (n0+n1) c1/\n0+n1<=c1/\w.heap.size<=b/\w1.heap[b]?=some (.cells (bI (n0+n1) (cA n0 f0 f1) c1) 5 (0,0))/\Ch [] w w1:=by
 let ps:List JP:=[((b0,o0,n0,c0),f0),((b1,o1,n1,c1),f1)]
 have et:gj ps 0=n0+n1:=by show 0+n0+n1=_;rw[eY]
 refine(L_ (k:=2) (ps:=ps) (z:=λ_=>0) (λK=>ajq w K (b0,o0,n0,c0) (b1,o1,n1,c1)) hp (by rw[et];exact hn) (λq hq=>by
  rcases cn.1 hq with rfl|hq
  ·exact BF
  rcases cn.1 hq with rfl|hq
  ·exact wQ
  cases hq)).mono ?_
 rintro v w1 ⟨cB,⟨h,_⟩|⟨_,b,c,rfl,h1,h2,h3⟩⟩
 ·omega
 ·have ec:l9 ps 0 (λ_=>0)=cA n0 f0 f1:=by
   simp only[ps,l9,eY,BK 0]
  rw[et]at h1 h3⊢;rw[ec]at h3;exact⟨b,c,rfl,h1,h2,h3,cB⟩
def jE (kn:Nat) (kf:Nat->Int) (s n:Int):Nat->Int:=fR kn kf (1+1+4) (jY 1 1 (λ_=>78) (aN 1 (s%256)) (aN 4 (n%4294967296)))
def rY (y s r:Int) (nc:Nat->Int):Nat->Int:=G5 1 1 1 (λ_=>y) (aN 1 (s%256)) (aN 1 (r%256)) nc
def lh (kn:Nat) (kf:Nat->Int) (s r:Int) (nc:Nat->Int):Nat->Int:=fR kn kf (1+1+1+8) (rY 80 s r nc)
def jm (kn:Nat) (kf:Nat->Int) (s r:Int) (nc:Nat->Int):Nat->Int:=fR kn kf (1+1+1+8) (rY 75 s r nc)
def gY (k:Nat->Int) (s:Int) (m:Nat) (f:Nat->Int):Nat->Int:=cA m f (fR 32 k (1+1+m) (jY 1 1 (λ_=>77) (aN 1 (s%256)) f))
def lj (k:Nat->Int) (s:Int) (m:Nat) (f:Nat->Int):Bool:=o8 (m+8) f (gY k s m f)
theorem ajv (ka:Option aQ) (kn kc:Nat) (kf:Nat->Int) (s n:Int) (u7:1<=kn/\kn<=64) (hs:0<=s/\s<4294967296) (hn:0<=n/\n<4294967296) {tG:aJ} (w:ag) (hG:w.heap[1]?=some (.cells (aE .u32 64 cT) tG (0,0))) (hk:eJ w ka kn kc kf):
 aV prog 15 #[.slice ka kn kc,.int .i64 s,.int .i64 n] w λv w1=>v=.agg (aE .u8 8 (jE kn kf s n))/\Ch [] w w1:=by
 have S0:=St.given (w:=w) [(1,.cells (aE .u32 64 cT) tG (0,0))] (all_cons hG (all_nil));refine jd Tryz.func15 rfl ?_;refine aS (aZ ?_);refine eZ S0 (λb=>.pointer (some ⟨b,0,none⟩)) (.cells (aE .u8 8 (λ_=>0)) 38) ?_;intro bJ iC dQ;refine aW (aR (aS (aZ ?_)));refine au (.slice ka kn kc) ?_;refine eZ dQ (λb=>.slice (some ⟨b,0,none⟩) 1 1) (.cells #[.int .u8 78] 5) ?_;intro dD mO dg;refine au (.int .i64 s) ?_;refine fT 44 #[.int .i64 s,.int .i64 1] ?_;refine(LZ s (by omega) _).mono ?_;rintro _ Ea ⟨rZ,rfl,kH,wR,o9⟩;have jl:=dg.new o9 kH wR;refine au (.int .i64 n) ?_;refine fT 44 #[.int .i64 n,.int .i64 4] ?_;refine(ajo n (by omega) _).mono ?_;rintro _ Sn ⟨aa1,rfl,D_,G6,u5⟩;have So:=jl.new u5 D_ G6;refine eZ So (λb=>.slice (some ⟨b,0,none⟩) 3 3) (.cells #[.slice (some ⟨dD,0,none⟩) 1 1,.slice (some ⟨rZ,0,none⟩) 1 1,.slice (some ⟨aa1,0,none⟩) 4 4] 23) ?_;intro aa2 ayN w7;refine fT 43 #[.slice (some ⟨aa2,0,none⟩) 3 3] ?_;refine(aa0 aa2 dD 0 1 1 (λ_=>78) rZ 0 1 1 (aN 1 (s%256)) aa1 0 4 4 (aN 4 (n%4294967296)) (by omega) (by omega) _ (w7.at_ 0 _ rfl) (St.ff (N:=1) (f:=(λ_=>78)) (wr:=true) (t:=5) (fr:=(0,0)) w7 3) (St.ff (N:=1) (f:=(aN 1 (s%256))) (wr:=true) (t:=5) (fr:=(0,0)) w7 2) (St.ff (N:=4) (f:=(aN 4 (n%4294967296))) (wr:=true) (t:=5) (fr:=(0,0)) w7 1)).mono ?_;rintro _ ajw ⟨Ma,Sr,rfl,kI,zr,Ss,rX⟩;have w8:=w7.new rX zr Ss;refine fT 42 #[.slice ka kn kc,.slice (some ⟨Ma,0,none⟩) (1+1+4) Sr] ?_;refine(Sa ka kn kc kf Ma 0 (1+1+4) Sr (jY 1 1 (λ_=>78) (aN 1 (s%256)) (aN 4 (n%4294967296))) (by omega) (by omega) _ (w8.at_ 6 _ rfl) (eJ.quiet hk w8.ch) (St.A8 (c:=Sr) (wr:=true) (t:=5) (fr:=(0,0)) w8 0)).mono ?_;rintro _ LR ⟨rfl,u9⟩;have ajx:=w8.quiet u9;refine store_ ajx 5 (.agg (aE .u8 8 (fR kn kf (1+1+4) (jY 1 1 (λ_=>78) (aN 1 (s%256)) (aN 4 (n%4294967296)))))) bJ 0 ?_;intro ayO Mb;refine aW (aR (gU ?_));refine gF rfl (gb [.cell 6 38] [.agg (aE .u8 8 (fR kn kf (1+1+4) (jY 1 1 (λ_=>78) (aN 1 (s%256)) (aN 4 (n%4294967296)))))] (.agg (aE .u8 8 (fR kn kf (1+1+4) (jY 1 1 (λ_=>78) (aN 1 (s%256)) (aN 4 (n%4294967296)))))) ⟨ni Mb 5 8 bJ 0,trivial⟩) ?_;exact⟨by(unfold jE)<;>kernel_rfl,Mb.ch⟩
theorem aa3 (y s r:Int) (nc:Nat->Int) (hs:0<=s/\s<4294967296) (hr:0<=r/\r<4294967296) (w:ag):
 aV prog 45 #[.int .u8 y,.int .i64 s,.int .i64 r,.agg (aE .u8 8 nc)] w λv w1=>∃b c1,v=.slice (some ⟨b,0,none⟩) (1+1+1+8) c1/\1+1+1+8<=c1/\w.heap.size<=b/\w1.heap[b]?=some (.cells (bI (1+1+1+8) (rY y s r nc) c1) 5 (0,0))/\Ch [] w w1:=by
 have S0:=St.nil [] w;refine jd Tryz.func45 rfl ?_;refine aS (aZ ?_);refine eZ S0 (λb=>.pointer (some ⟨b,0,none⟩)) (.cells (aE .u8 8 nc) 38) ?_;intro bJ iC dQ;refine au (.slice none 0 0) ?_;refine aW (aR (aS ?_));refine A1 7 [⟨0,λ_=>.int .u8 y,λ_=>[]⟩,⟨1,λids=>.slice (some ⟨(ids.getD 0 0),0,none⟩) 1 1,λids=>[((ids.getD 0 0),.cells #[.int .u8 y] 5 (0,0))]⟩,⟨0,λ_=>.int .i64 s,λ_=>[]⟩,⟨1,λids=>.slice (some ⟨(ids.getD 0 0),0,none⟩) 1 1,λids=>[((ids.getD 0 0),.cells #[.int .u8 ((aN 1 (s%256)) 0)] 5 (0,0))]⟩,⟨0,λ_=>.int .i64 r,λ_=>[]⟩,⟨1,λids=>.slice (some ⟨(ids.getD 0 0),0,none⟩) 1 1,λids=>[((ids.getD 0 0),.cells #[.int .u8 ((aN 1 (r%256)) 0)] 5 (0,0))]⟩,⟨0,λ_=>.slice (some ⟨bJ,0,none⟩) 8 8,λ_=>[]⟩] [[7,1,0],[7,1],[7,3,2],[7,3],[7,5,4],[7,5],[7,6],[8,7,1,0],[8,7,1],[8,7,3,2],[8,7,3],[8,5,4],[8,5],[8,7,6],[8,7],[9,0],[9,1],[9,2],[9,3],[9,4],[9,5],[9,6],[9,7],[9,8]] ?_ ?_
 ·refine step_cons iy ?_;refine step_cons ?_ ?_
  ·intro Ef mO BN aa4 Eg;have wY:Ef 9=.int .u8 y:=(Sp.dO (Eg 0 9 (by kernel_rfl) (by kernel_rfl))).1;have Eh:=dQ.quiet BN;refine pV ?_;refine mC [(9,.int .u8 y)] (mD wY (pT)) ?_;have zo:=Eh.loc;refine Y.eZ zo (λb=>.slice (some ⟨b,0,none⟩) 1 1) (.cells #[.int .u8 y] 5) ?_;intro LN Sn o_;exact⟨o_.ch,Sp.pU [LN] (all_cons (o_.we BN.size 0 (by kernel_rfl)) (all_nil))⟩
  refine step_cons iy ?_;refine step_cons ?_ ?_
  ·intro ajy aaH aa5 ayP ajz;have Su:ajy 11=.int .i64 s:=(Sp.dO (ajz 2 11 (by kernel_rfl) (by kernel_rfl))).1;have w7:=dQ.quiet aa5;refine pV ?_;refine mC [(11,.int .i64 s)] (mD Su (pT)) ?_;have u_:=w7.loc;refine Y.fT 44 #[.int .i64 s,.int .i64 1] ?_;refine(LZ s (by omega) _).mono ?_;rintro _ aa6 ⟨ajA,rfl,kI,zr,tI⟩;have ou:=u_.new tI kI zr;exact⟨ou.ch,Sp.pU [ajA] (all_cons (ou.we aa5.size 0 (by kernel_rfl)) (all_nil))⟩
  refine step_cons iy ?_;refine step_cons ?_ ?_
  ·intro ajB LR Mc ayQ ajC;have lG:ajB 13=.int .i64 r:=(Sp.dO (ajC 4 13 (by kernel_rfl) (by kernel_rfl))).1;have Md:=dQ.quiet Mc;refine pV ?_;refine mC [(13,.int .i64 r)] (mD lG (pT)) ?_;have ajD:=Md.loc;refine Y.fT 44 #[.int .i64 r,.int .i64 1] ?_;refine(LZ r (by omega) _).mono ?_;rintro _ ayR ⟨ajE,rfl,qD,Hm,r_⟩;have aa7:=ajD.new r_ qD Hm;exact⟨aa7.ch,Sp.pU [ajE] (all_cons (aa7.we Mc.size 0 (by kernel_rfl)) (all_nil))⟩
  refine step_cons iy ?_;exact A0
 intro BO Sv ajF BP;have RX:BO 0=.int .u8 y:=(Sp.dO (BP 0 (by kernel_rfl))).1;have ajG:=Sp.wc (BP 1 (by kernel_rfl));obtain⟨Ei,ajH,ajI⟩:=ajG;have ajJ:BO 1=.slice (some ⟨Ei,0,none⟩) 1 1:=ajH;have ajK:∀zp∈([(Ei,.cells #[.int .u8 y] 5 (0,0))]:List (Nat×Obj)),iC.heap.size<=zp.1/\Sv.heap[zp.1]?=some zp.2:=ajI;have Ec:BO 2=.int .i64 s:=(Sp.dO (BP 2 (by kernel_rfl))).1;have R1:=Sp.wc (BP 3 (by kernel_rfl));obtain⟨lF,R2,R3⟩:=R1;have R4:BO 3=.slice (some ⟨lF,0,none⟩) 1 1:=R2;have R5:∀zp∈([(lF,.cells #[.int .u8 ((aN 1 (s%256)) 0)] 5 (0,0))]:List (Nat×Obj)),iC.heap.size<=zp.1/\Sv.heap[zp.1]?=some zp.2:=R3;have R6:BO 4=.int .i64 r:=(Sp.dO (BP 4 (by kernel_rfl))).1;have ajL:=Sp.wc (BP 5 (by kernel_rfl));obtain⟨wU,ajM,ajN⟩:=ajL;have ajO:BO 5=.slice (some ⟨wU,0,none⟩) 1 1:=ajM;have ajP:∀zp∈([(wU,.cells #[.int .u8 ((aN 1 (r%256)) 0)] 5 (0,0))]:List (Nat×Obj)),iC.heap.size<=zp.1/\Sv.heap[zp.1]?=some zp.2:=ajN;have ajQ:BO 6=.slice (some ⟨bJ,0,none⟩) 8 8:=(Sp.dO (BP 6 (by kernel_rfl))).1;have ajR:=dQ.ro ajF (([(Ei,.cells #[.int .u8 y] 5 (0,0))]++([(lF,.cells #[.int .u8 ((aN 1 (s%256)) 0)] 5 (0,0))]++[(wU,.cells #[.int .u8 ((aN 1 (r%256)) 0)] 5 (0,0))]))) (List.forall_mem_append.2 ⟨ajK,List.forall_mem_append.2 ⟨R5,ajP⟩⟩);refine⟨[.int .u8 y,.slice (some ⟨Ei,0,none⟩) 1 1,.int .i64 s,.slice (some ⟨lF,0,none⟩) 1 1,.int .i64 r,.slice (some ⟨wU,0,none⟩) 1 1,.slice (some ⟨bJ,0,none⟩) 8 8],by kernel_rfl,eB RX (eB ajJ (eB Ec (eB R4 (eB R6 (eB ajO (eB ajQ (Dp))))))),?_⟩;refine eZ ajR (λb=>.slice (some ⟨b,0,none⟩) 4 4) (.cells #[.slice (some ⟨Ei,0,none⟩) 1 1,.slice (some ⟨lF,0,none⟩) 1 1,.slice (some ⟨wU,0,none⟩) 1 1,.slice (some ⟨bJ,0,none⟩) 8 8] 23) ?_;intro aa8 ayS Ej;refine fT 43 #[.slice (some ⟨aa8,0,none⟩) 4 4] ?_;refine(ajt aa8 Ei 0 1 1 (λ_=>y) lF 0 1 1 (aN 1 (s%256)) wU 0 1 1 (aN 1 (r%256)) bJ 0 8 8 nc (by omega) (by omega) _ (Ej.at_ 0 _ rfl) (St.ff (N:=1) (f:=(λ_=>y)) (wr:=false) (t:=5) (fr:=(0,0)) Ej 1) (St.ff (N:=1) (f:=(aN 1 (s%256))) (wr:=false) (t:=5) (fr:=(0,0)) Ej 2) (St.ff (N:=1) (f:=(aN 1 (r%256))) (wr:=false) (t:=5) (fr:=(0,0)) Ej 3) (St.ff (N:=8) (f:=nc) (wr:=true) (t:=38) (fr:=(0,0)) Ej 4)).mono ?_;rintro _ ayT ⟨Sw,Hn,rfl,ajS,Sz,SA,R9⟩;have SB:=Ej.new R9 Sz SA;refine gx ?_;refine aW (aR (gU ?_));refine gF rfl (gb [.tmp 8] [.slice (some ⟨Sw,0,none⟩) (1+1+1+8) Hn] (.slice (some ⟨Sw,0,none⟩) (1+1+1+8) Hn) ⟨jz,trivial⟩) ?_;have ze:bI (1+1+1+8) (G5 1 1 1 (λ_=>y) (aN 1 (s%256)) (aN 1 (r%256)) nc) Hn=bI (1+1+1+8) (rY y s r nc) Hn:=by kernel_rfl
 exact⟨Sw,Hn,by rw[show(1+1+1+8)=1+1+1+8 by omega],by have:=ajS;omega,(SB.own 0 _ rfl rfl).resolve_left (by simp),by rw[<-ze];exact SB.at_ 0 _ rfl,SB.ch⟩
theorem aa9 (ka:Option aQ) (kn kc:Nat) (kf:Nat->Int) (s r:Int) (nc:Nat->Int) (u7:1<=kn/\kn<=64) (hs:0<=s/\s<4294967296) (hr:0<=r/\r<4294967296) {tG:aJ} (w:ag) (hG:w.heap[1]?=some (.cells (aE .u32 64 cT) tG (0,0))) (hk:eJ w ka kn kc kf):
 aV prog 16 #[.slice ka kn kc,.int .i64 s,.int .i64 r,.agg (aE .u8 8 nc)] w λv w1=>v=.agg (aE .u8 8 (lh kn kf s r nc))/\Ch [] w w1:=by
 have S0:=St.given (w:=w) [(1,.cells (aE .u32 64 cT) tG (0,0))] (all_cons hG (all_nil));refine jd Tryz.func16 rfl ?_;refine aS (aZ ?_);refine eZ S0 (λb=>.pointer (some ⟨b,0,none⟩)) (.cells (aE .u8 8 nc) 38) ?_;intro bJ iC dQ;refine eZ dQ (λb=>.pointer (some ⟨b,0,none⟩)) (.cells (aE .u8 8 (λ_=>0)) 38) ?_;intro dD mO dg;refine aW (aR (aS (aZ ?_)));refine au (.slice ka kn kc) ?_;refine au (.int .i64 s) ?_;refine au (.int .i64 r) ?_;refine kA dg 1 8 (aE .u8 8 nc) bJ 0 ?_;refine fT 45 #[.int .u8 80,.int .i64 s,.int .i64 r,.agg (aE .u8 8 nc)] ?_;refine(aa3 80 s r nc (by omega) (by omega) _).mono ?_;rintro _ Ea ⟨rZ,BQ,rfl,wR,ny,u5,o9⟩;have jl:=dg.new o9 ny u5;refine fT 42 #[.slice ka kn kc,.slice (some ⟨rZ,0,none⟩) (1+1+1+8) BQ] ?_;refine(Sa ka kn kc kf rZ 0 (1+1+1+8) BQ (rY 80 s r nc) (by omega) (by omega) _ (jl.at_ 3 _ rfl) (eJ.quiet hk jl.ch) (St.A8 (c:=BQ) (wr:=true) (t:=5) (fr:=(0,0)) jl 0)).mono ?_;rintro _ D9 ⟨rfl,ll⟩;have rV:=jl.quiet ll;refine store_ rV 1 (.agg (aE .u8 8 (fR kn kf (1+1+1+8) (rY 80 s r nc)))) dD 0 ?_;intro BH qz;refine aW (aR (gU ?_));refine gF rfl (gb [.cell 8 38] [.agg (aE .u8 8 (fR kn kf (1+1+1+8) (rY 80 s r nc)))] (.agg (aE .u8 8 (fR kn kf (1+1+1+8) (rY 80 s r nc)))) ⟨ni qz 1 8 dD 0,trivial⟩) ?_;exact⟨by(unfold lh)<;>kernel_rfl,qz.ch⟩
theorem aa_ (ka:Option aQ) (kn kc:Nat) (kf:Nat->Int) (s r:Int) (nc:Nat->Int) (u7:1<=kn/\kn<=64) (hs:0<=s/\s<4294967296) (hr:0<=r/\r<4294967296) {tG:aJ} (w:ag) (hG:w.heap[1]?=some (.cells (aE .u32 64 cT) tG (0,0))) (hk:eJ w ka kn kc kf):
 aV prog 37 #[.slice ka kn kc,.int .i64 s,.int .i64 r,.agg (aE .u8 8 nc)] w λv w1=>v=.agg (aE .u8 32 (jm kn kf s r nc))/\Ch [] w w1:=by
 have S0:=St.given (w:=w) [(1,.cells (aE .u32 64 cT) tG (0,0))] (all_cons hG (all_nil));refine jd Tryz.func37 rfl ?_;refine aS (aZ ?_);refine eZ S0 (λb=>.pointer (some ⟨b,0,none⟩)) (.cells (aE .u8 8 nc) 38) ?_;intro bJ iC dQ;refine eZ dQ (λb=>.pointer (some ⟨b,0,none⟩)) (.cells (aE .u8 32 (λ_=>0)) 37) ?_;intro dD mO dg;refine aW (aR (aS (aZ ?_)));refine au (.slice ka kn kc) ?_;refine au (.int .i64 s) ?_;refine au (.int .i64 r) ?_;refine kA dg 1 8 (aE .u8 8 nc) bJ 0 ?_;refine fT 45 #[.int .u8 75,.int .i64 s,.int .i64 r,.agg (aE .u8 8 nc)] ?_;refine(aa3 75 s r nc (by omega) (by omega) _).mono ?_;rintro _ Ea ⟨rZ,BQ,rfl,wR,ny,u5,o9⟩;have jl:=dg.new o9 ny u5;refine fT 67 #[.slice ka kn kc,.slice (some ⟨rZ,0,none⟩) (1+1+1+8) BQ] ?_;refine(u6 ka kn kc kf rZ 0 (1+1+1+8) BQ (rY 75 s r nc) (by omega) (by omega) _ (jl.at_ 3 _ rfl) (eJ.quiet hk jl.ch) (St.A8 (c:=BQ) (wr:=true) (t:=5) (fr:=(0,0)) jl 0)).mono ?_;rintro _ D9 ⟨rfl,ll⟩;have rV:=jl.quiet ll;refine store_ rV 1 (.agg (aE .u8 32 (fR kn kf (1+1+1+8) (rY 75 s r nc)))) dD 0 ?_;intro BH qz;refine aW (aR (gU ?_));refine gF rfl (gb [.cell 8 37] [.agg (aE .u8 32 (fR kn kf (1+1+1+8) (rY 75 s r nc)))] (.agg (aE .u8 32 (fR kn kf (1+1+1+8) (rY 75 s r nc)))) ⟨ni qz 1 32 dD 0,trivial⟩) ?_;exact⟨by(unfold jm)<;>kernel_rfl,qz.ch⟩
theorem close_ (k:Nat->Int) (s:Int) (b o m c:Nat) (f:Nat->Int) (hm:m<=50) (hs:0<=s/\s<4294967296) {tG:aJ} (w:ag) (hG:w.heap[1]?=some (.cells (aE .u32 64 cT) tG (0,0))) (hB:cx w b o m f):
 aV prog 47 #[.agg (aE .u8 32 k),.int .i64 s,.slice (some ⟨b,o,none⟩) m c] w λv w1=>∃b c1,v=.slice (some ⟨b,0,none⟩) (m+8) c1/\m+8<=c1/\w.heap.size<=b/\w1.heap[b]?=some (.cells (bI (m+8) (gY k s m f) c1) 5 (0,0))/\Ch [] w w1:=by
 have S0:=St.given (w:=w) [(1,.cells (aE .u32 64 cT) tG (0,0))] (all_cons hG (all_nil));refine jd Tryz.func47 rfl ?_;refine aS (aZ ?_);refine eZ S0 (λb=>.pointer (some ⟨b,0,none⟩)) (.cells (aE .u8 32 k) 37) ?_;intro bJ iC dQ;refine au (.slice none 0 0) ?_;refine aW (aR (aS ?_));refine A1 9 [⟨0,λ_=>.slice (some ⟨bJ,0,none⟩) 32 32,λ_=>[]⟩,⟨1,λids=>.slice (some ⟨(ids.getD 0 0),0,none⟩) 1 1,λids=>[((ids.getD 0 0),.cells #[.int .u8 77] 5 (0,0))]⟩,⟨0,λ_=>.int .i64 s,λ_=>[]⟩,⟨1,λids=>.slice (some ⟨(ids.getD 0 0),0,none⟩) 1 1,λids=>[((ids.getD 0 0),.cells #[.int .u8 ((aN 1 (s%256)) 0)] 5 (0,0))]⟩,⟨0,λ_=>.slice (some ⟨b,o,none⟩) m c,λ_=>[]⟩,⟨3,λids=>.slice (some ⟨(ids.getD 0 0),0,none⟩) 3 3,λids=>[((ids.getD 0 0),.cells #[.slice (some ⟨(ids.getD 1 0),0,none⟩) 1 1,.slice (some ⟨(ids.getD 2 0),0,none⟩) 1 1,.slice (some ⟨b,o,none⟩) m c] 23 (0,0)),((ids.getD 1 0),.cells #[.int .u8 77] 5 (0,0)),((ids.getD 2 0),.cells #[.int .u8 ((aN 1 (s%256)) 0)] 5 (0,0))]⟩,⟨2,λids=>.slice (some ⟨(ids.getD 0 0),0,none⟩) (1+1+m) (ids.getD 1 0),λids=>[((ids.getD 0 0),.cells (bI (1+1+m) (jY 1 1 (λ_=>77) (aN 1 (s%256)) f) (ids.getD 1 0)) 5 (0,0))]⟩,⟨0,λ_=>.agg (aE .u8 8 (fR 32 k (1+1+m) (jY 1 1 (λ_=>77) (aN 1 (s%256)) f))),λ_=>[]⟩,⟨1,λids=>.pointer (some ⟨(ids.getD 0 0),0,none⟩),λids=>[((ids.getD 0 0),.cells (aE .u8 8 (λ_=>0)) 38 (0,0))]⟩] [[9,0],[9,1],[9,2],[9,3],[9,4],[9,5],[9,6],[9,7],[9,8]] ?_ ?_
 ·refine step_cons iy ?_;refine step_cons ?_ ?_
  ·intro Ef mO BN aa4 Eg;have jl:=dQ.quiet BN;refine pV ?_;refine mC [] (pT) ?_;have Eh:=jl.loc;refine Y.eZ Eh (λb=>.slice (some ⟨b,0,none⟩) 1 1) (.cells #[.int .u8 77] 5) ?_;intro ajT Sb BJ;exact⟨BJ.ch,Sp.pU [ajT] (all_cons (BJ.we BN.size 0 (by kernel_rfl)) (all_nil))⟩
  refine step_cons iy ?_;refine step_cons ?_ ?_
  ·intro ajU D9 aba ayU ajV;have zm:ajU 10=.int .i64 s:=(Sp.dO (ajV 2 10 (by kernel_rfl) (by kernel_rfl))).1;have rW:=dQ.quiet aba;refine pV ?_;refine mC [(10,.int .i64 s)] (mD zm (pT)) ?_;have w7:=rW.loc;refine Y.fT 44 #[.int .i64 s,.int .i64 1] ?_;refine(LZ s (by omega) _).mono ?_;rintro _ ajw ⟨Ma,rfl,qG,kI,rX⟩;have w8:=w7.new rX qG kI;exact⟨w8.ch,Sp.pU [Ma] (all_cons (w8.we aba.size 0 (by kernel_rfl)) (all_nil))⟩
  refine step_cons iy ?_;refine step_cons ?_ ?_
  ·intro SD Me abb ayV SE;have ajW:=Sp.wc (SE 1 9 (by kernel_rfl) (by kernel_rfl));obtain⟨Ek,ajX,ajY⟩:=ajW;have Mf:SD 9=.slice (some ⟨Ek,0,none⟩) 1 1:=ajX;have abc:∀zp∈([(Ek,.cells #[.int .u8 77] 5 (0,0))]:List (Nat×Obj)),iC.heap.size<=zp.1/\Me.heap[zp.1]?=some zp.2:=ajY;have ajZ:=Sp.wc (SE 3 11 (by kernel_rfl) (by kernel_rfl));obtain⟨El,aj0,aj1⟩:=ajZ;have w9:SD 11=.slice (some ⟨El,0,none⟩) 1 1:=aj0;have abd:∀zp∈([(El,.cells #[.int .u8 ((aN 1 (s%256)) 0)] 5 (0,0))]:List (Nat×Obj)),iC.heap.size<=zp.1/\Me.heap[zp.1]?=some zp.2:=aj1;have qD:SD 12=.slice (some ⟨b,o,none⟩) m c:=(Sp.dO (SE 4 12 (by kernel_rfl) (by kernel_rfl))).1;have aj2:=dQ.ro abb (([(Ek,.cells #[.int .u8 77] 5 (0,0))]++[(El,.cells #[.int .u8 ((aN 1 (s%256)) 0)] 5 (0,0))])) (List.forall_mem_append.2 ⟨abc,abd⟩);refine pV ?_;refine mC [(9,.slice (some ⟨Ek,0,none⟩) 1 1),(11,.slice (some ⟨El,0,none⟩) 1 1),(12,.slice (some ⟨b,o,none⟩) m c)] (mD Mf (mD w9 (mD qD (pT)))) ?_;have aj3:=aj2.loc;refine Y.eZ aj3 (λb=>.slice (some ⟨b,0,none⟩) 3 3) (.cells #[.slice (some ⟨Ek,0,none⟩) 1 1,.slice (some ⟨El,0,none⟩) 1 1,.slice (some ⟨b,o,none⟩) m c] 23) ?_;intro aj4 ayW zv;exact⟨zv.ch,Sp.pU [aj4,Ek,El] (all_cons (zv.we abb.size 0 (by kernel_rfl)) (all_cons (zv.YP 1 (abc _ (Db _)).1 false (by kernel_rfl)) (all_cons (zv.YP 2 (abd _ (Db _)).1 false (by kernel_rfl)) (all_nil))))⟩
  refine step_cons ?_ ?_
  ·intro aj5 aj6 abe ayX aj7;have aj8:=Sp.YO (aj7 5 13 (by kernel_rfl) (by kernel_rfl));obtain⟨Em,lF,Ho,aj9,aj_⟩:=aj8;have Ec:aj5 13=.slice (some ⟨Em,0,none⟩) 3 3:=aj9;have aka:∀zp∈([(Em,.cells #[.slice (some ⟨lF,0,none⟩) 1 1,.slice (some ⟨Ho,0,none⟩) 1 1,.slice (some ⟨b,o,none⟩) m c] 23 (0,0)),(lF,.cells #[.int .u8 77] 5 (0,0)),(Ho,.cells #[.int .u8 ((aN 1 (s%256)) 0)] 5 (0,0))]:List (Nat×Obj)),iC.heap.size<=zp.1/\aj6.heap[zp.1]?=some zp.2:=aj_;have LS:=dQ.ro abe ([(Em,.cells #[.slice (some ⟨lF,0,none⟩) 1 1,.slice (some ⟨Ho,0,none⟩) 1 1,.slice (some ⟨b,o,none⟩) m c] 23 (0,0)),(lF,.cells #[.int .u8 77] 5 (0,0)),(Ho,.cells #[.int .u8 ((aN 1 (s%256)) 0)] 5 (0,0))]) (aka);refine pV ?_;refine mC [(13,.slice (some ⟨Em,0,none⟩) 3 3)] (mD Ec (pT)) ?_;have Hp:=LS.loc;refine Y.fT 43 #[.slice (some ⟨Em,0,none⟩) 3 3] ?_;refine(aa0 Em lF 0 1 1 (λ_=>77) Ho 0 1 1 (aN 1 (s%256)) b o m c f (by omega) (by omega) _ (Hp.at_ 0 _ rfl) (St.ff (N:=1) (f:=(λ_=>77)) (wr:=false) (t:=5) (fr:=(0,0)) Hp 1) (St.ff (N:=1) (f:=(aN 1 (s%256))) (wr:=false) (t:=5) (fr:=(0,0)) Hp 2) (St.lY Hp (St.lY LS hB (by simp)) (by simp))).mono ?_;rintro _ ai_ ⟨akb,akc,rfl,ayY,akd,aaN,ake⟩;have abf:=Hp.new ake akd aaN;exact⟨abf.ch,Sp.pU [akb,akc] (all_cons (abf.we abe.size 0 (by kernel_rfl)) (all_nil))⟩
  refine step_cons ?_ ?_
  ·intro abg akf akg ayZ abh;have Sz:abg 8=.slice (some ⟨bJ,0,none⟩) 32 32:=(Sp.dO (abh 0 8 (by kernel_rfl) (by kernel_rfl))).1;have akh:=Sp.YN (abh 6 14 (by kernel_rfl) (by kernel_rfl));obtain⟨En,BR,aki,akj⟩:=akh;have SA:abg 14=.slice (some ⟨En,0,none⟩) (1+1+m) BR:=aki;have akk:∀zp∈([(En,.cells (bI (1+1+m) (jY 1 1 (λ_=>77) (aN 1 (s%256)) f) BR) 5 (0,0))]:List (Nat×Obj)),iC.heap.size<=zp.1/\akf.heap[zp.1]?=some zp.2:=akj;have akl:=dQ.ro akg ([(En,.cells (bI (1+1+m) (jY 1 1 (λ_=>77) (aN 1 (s%256)) f) BR) 5 (0,0))]) (akk);refine pV ?_;refine mC [(8,.slice (some ⟨bJ,0,none⟩) 32 32),(14,.slice (some ⟨En,0,none⟩) (1+1+m) BR)] (mD Sz (mD SA (pT))) ?_;have Mg:=akl.loc;refine Y.fT 42 #[.slice (some ⟨bJ,0,none⟩) 32 32,.slice (some ⟨En,0,none⟩) (1+1+m) BR] ?_;refine(Sa (some ⟨bJ,0,none⟩) 32 32 k En 0 (1+1+m) BR (jY 1 1 (λ_=>77) (aN 1 (s%256)) f) (by omega) (by omega) _ (Mg.at_ 2 _ rfl) (eJ.Qc (St.ff (N:=32) (f:=k) (wr:=false) (t:=37) (fr:=(0,0)) Mg 1) (by omega) (by omega)) (St.A8 (c:=BR) (wr:=false) (t:=5) (fr:=(0,0)) Mg 0)).mono ?_;rintro _ ay0 ⟨rfl,akm⟩;have akn:=Mg.quiet akm;exact⟨akn.ch,Sp.pU [] (all_nil)⟩
  refine step_cons ?_ ?_
  ·intro ay1 ay2 abi ay3 ay4;have ako:=dQ.quiet abi;refine pV ?_;refine mC [] (pT) ?_;have akp:=ako.loc;refine Y.eZ akp (λb=>.pointer (some ⟨b,0,none⟩)) (.cells (aE .u8 8 (λ_=>0)) 38) ?_;intro akq ay5 abj;exact⟨abj.ch,Sp.pU [akq] (all_cons (abj.we abi.size 0 (by kernel_rfl)) (all_nil))⟩
  exact A0
 intro w_ Hq akr xb;have aks:w_ 0=.slice (some ⟨bJ,0,none⟩) 32 32:=(Sp.dO (xb 0 (by kernel_rfl))).1;have akt:=Sp.wc (xb 1 (by kernel_rfl));obtain⟨SF,aku,akv⟩:=akt;have akw:w_ 1=.slice (some ⟨SF,0,none⟩) 1 1:=aku;have ay6:∀zp∈([(SF,.cells #[.int .u8 77] 5 (0,0))]:List (Nat×Obj)),iC.heap.size<=zp.1/\Hq.heap[zp.1]?=some zp.2:=akv;have akx:w_ 2=.int .i64 s:=(Sp.dO (xb 2 (by kernel_rfl))).1;have aky:=Sp.wc (xb 3 (by kernel_rfl));obtain⟨SG,akz,akA⟩:=aky;have akB:w_ 3=.slice (some ⟨SG,0,none⟩) 1 1:=akz;have ay7:∀zp∈([(SG,.cells #[.int .u8 ((aN 1 (s%256)) 0)] 5 (0,0))]:List (Nat×Obj)),iC.heap.size<=zp.1/\Hq.heap[zp.1]?=some zp.2:=akA;have akC:w_ 4=.slice (some ⟨b,o,none⟩) m c:=(Sp.dO (xb 4 (by kernel_rfl))).1;have akD:=Sp.YO (xb 5 (by kernel_rfl));obtain⟨SH,abk,abl,akE,akF⟩:=akD;have akH:w_ 5=.slice (some ⟨SH,0,none⟩) 3 3:=akE;have ay8:∀zp∈([(SH,.cells #[.slice (some ⟨abk,0,none⟩) 1 1,.slice (some ⟨abl,0,none⟩) 1 1,.slice (some ⟨b,o,none⟩) m c] 23 (0,0)),(abk,.cells #[.int .u8 77] 5 (0,0)),(abl,.cells #[.int .u8 ((aN 1 (s%256)) 0)] 5 (0,0))]:List (Nat×Obj)),iC.heap.size<=zp.1/\Hq.heap[zp.1]?=some zp.2:=akF;have akI:=Sp.YN (xb 6 (by kernel_rfl));obtain⟨SI,SJ,akJ,akK⟩:=akI;have akL:w_ 6=.slice (some ⟨SI,0,none⟩) (1+1+m) SJ:=akJ;have ay9:∀zp∈([(SI,.cells (bI (1+1+m) (jY 1 1 (λ_=>77) (aN 1 (s%256)) f) SJ) 5 (0,0))]:List (Nat×Obj)),iC.heap.size<=zp.1/\Hq.heap[zp.1]?=some zp.2:=akK;have akM:w_ 7=.agg (aE .u8 8 (fR 32 k (1+1+m) (jY 1 1 (λ_=>77) (aN 1 (s%256)) f))):=(Sp.dO (xb 7 (by kernel_rfl))).1;have akN:=Sp.wc (xb 8 (by kernel_rfl));obtain⟨BS,akO,akQ⟩:=akN;have akS:w_ 8=.pointer (some ⟨BS,0,none⟩):=akO;have abm:∀zp∈([(BS,.cells (aE .u8 8 (λ_=>0)) 38 (0,0))]:List (Nat×Obj)),iC.heap.size<=zp.1/\Hq.heap[zp.1]?=some zp.2:=akQ;have akT:=dQ.new akr (abm _ (Db _)).1 (abm _ (Db _)).2;refine⟨[.slice (some ⟨bJ,0,none⟩) 32 32,.slice (some ⟨SF,0,none⟩) 1 1,.int .i64 s,.slice (some ⟨SG,0,none⟩) 1 1,.slice (some ⟨b,o,none⟩) m c,.slice (some ⟨SH,0,none⟩) 3 3,.slice (some ⟨SI,0,none⟩) (1+1+m) SJ,.agg (aE .u8 8 (fR 32 k (1+1+m) (jY 1 1 (λ_=>77) (aN 1 (s%256)) f))),.pointer (some ⟨BS,0,none⟩)],by kernel_rfl,eB aks (eB akw (eB akx (eB akB (eB akC (eB akH (eB akL (eB akM (eB akS (Dp))))))))),?_⟩;refine store_ akT 0 (.agg (aE .u8 8 (fR 32 k (1+1+m) (jY 1 1 (λ_=>77) (aN 1 (s%256)) f)))) BS 0 ?_;intro ay_ akU;refine aW (aR (aS (aZ ?_)));refine dZ ?_;refine au (.slice (some ⟨BS,0,none⟩) 8 8) ?_;refine eZ akU (λb=>.slice (some ⟨b,0,none⟩) 2 2) (.cells #[.slice (some ⟨b,o,none⟩) m c,.slice (some ⟨BS,0,none⟩) 8 8] 23) ?_;intro abn aza Mh;refine fT 43 #[.slice (some ⟨abn,0,none⟩) 2 2] ?_;refine(aju abn b o m c f BS 0 8 8 (fR 32 k (1+1+m) (jY 1 1 (λ_=>77) (aN 1 (s%256)) f)) (by omega) (by omega) _ (Mh.at_ 0 _ rfl) (St.lY Mh hB (by simp)) (St.ff (N:=8) (f:=(fR 32 k (1+1+m) (jY 1 1 (λ_=>77) (aN 1 (s%256)) f))) (wr:=true) (t:=38) (fr:=(0,0)) Mh 1)).mono ?_;rintro _ azb ⟨SL,Hr,rfl,akV,akW,akX,akY⟩;have SN:=Mh.new akY akW akX;refine gx ?_;refine aW (aR (gU ?_));refine gF rfl (gb [.tmp 6] [.slice (some ⟨SL,0,none⟩) (m+8) Hr] (.slice (some ⟨SL,0,none⟩) (m+8) Hr) ⟨jz,trivial⟩) ?_;have ze:bI (m+8) (cA m f (fR 32 k (1+1+m) (jY 1 1 (λ_=>77) (aN 1 (s%256)) f))) Hr=bI (m+8) (gY k s m f) Hr:=by kernel_rfl
 exact⟨SL,Hr,by rw[show(m+8)=m+8 by omega],by have:=akV;omega,(SN.own 0 _ rfl rfl).resolve_left (by simp),by rw[<-ze];exact SN.at_ 0 _ rfl,SN.ch⟩
def Hs:dc CG:=λargs bl ch K=>match args,ch with
 |[.raw (.slice (some ⟨b,o,none⟩) n c),.raw (.slice (some ⟨b2,o2,none⟩) n2 c2)],.a_ u::_=>(match Ed ch with
  |some (l,r)=>∃f g:Nat->Int,(cx u b o n f/\b2=r.b/\n=n2/\o2+n2<=r.n/\n<=1000000/\∀j,j<n->w5 o2 r.f j=g j)/\K (.bool (o8 n f g)) bl ch
  |none=>False)
 |_,_=>False
def Ht:dc CG:=λargs bl ch K=>match args,ch with
 |[.agg l,.int .i64 s,.raw (.slice (some ⟨b,o,none⟩) n c)],.a_ u::_=>(match kJ l with
  |some r=>∃f k:Nat->Int,(cx u b o n f/\n<=50/\(0<=s/\s<4294967296)/\(∃tG,u.heap[1]?=some (.cells (aE .u32 64 cT) tG (0,0)))/\r.length=32/\∀j,j<32->dm r j=k j)/\∀b' c',n+8<=c'->K (.raw (.slice (some ⟨b',0,none⟩) (n+8) c')) bl (ch++[.row ⟨n+8,gY k s n f,b',c'⟩])
  |none=>False)
 |_,_=>False
def Hu:dc CG:=λargs bl ch K=>match args,ch with
 |[.sl i 0 1 1],.a_ u::_=>(match bl[i]?with
  |some ⟨_,⟨23,(0,0)⟩,[.raw (.slice (some ⟨b,o,none⟩) n c)]⟩=>∃f,(cx u b o n f/\n<=1000000)/\(n=0->K (.raw (.slice none 0 0)) bl ch)/\(0<n->∀b' c',n<=c'->K (.raw (.slice (some ⟨b',0,none⟩) n c')) bl (ch++[.row ⟨n,f,b',c'⟩]))
  |_=>False)
 |_,_=>False
theorem abo {w:ag} {r:R8} {o m:Nat} (h:w.heap[r.b]?=some (.cells (bI r.n r.f r.c) 5 (0,0))) (hm:o+m<=r.n):cx w r.b o m (w5 o r.f):=λj hj=>by
 rw[cell_of h,aaR];unfold bI;simp only[jQ];rw[iq (by rw[gH];omega)];exact rJ _ (by omega)
theorem cx.cg {w:ag} {b o n:Nat} {f g:Nat->Int} (h:cx w b o n f) (e:∀j,j<n->f j=g j):cx w b o n g:=λj hj=>by rw[h j hj,e j hj]
theorem Hv {ids:List Nat} {bl:List VB} {u:ag} {rest:List CG} {R:List aj} {y:aj} (h:y∈dR u):y∈lits ids ids bl++aC (CG.a_ u::rest) R:=uy _ (pJ _ h)
theorem SO {ids:List Nat} {bl:List VB} {u w w0:ag} {rest:List CG} {R:List aj} {ms:List Nat} (S:St ms w0 (lits ids ids bl++aC (CG.a_ u::rest) R) w) {i:Nat} {o:Obj} (h:u.heap[i]?=some o):w.heap[i]?=some o:=S.at' (x:=⟨i,false,o⟩) (Hv (LV h))
theorem akZ {gl:Nat->Option Nat}:Sound prog gl 192 Hs:=by
 intro args ids bl ch R ms w0 w K hg hl S hc;unfold Hs at hc;split at hc
 ·rename_i b o n c b2 o2 n2 c2 u rest;split at hc
  ·rename_i l r Hg;obtain⟨f,g,⟨h8,rfl,rfl,hle,hn,hgj⟩,hK⟩:=hc;have S1:=S;rw[LW Hg]at S1;refine(aaP b o n c r.b o2 c2 f g hn w (LY S (λy hy=>Hv hy) h8) (cx.cg (abo (Hk S1) hle) hgj)).mono ?_;rintro v w' ⟨rfl,cB⟩;exact⟨.bool (o8 n f g),[],bl,_,rfl,by simpa using hl,by simpa using S.quiet cB,hK⟩
  ·exact hc.elim
 ·exact hc.elim
theorem ak0:ia Hs:=by
 intro args bl ch K hc;unfold Hs at hc⊢;split at hc
 ·split at hc
  ·obtain⟨f,g,h,hK⟩:=hc;rename_i e;try simp only[e]
   exact⟨f,g,h,hK,[],by simp⟩
  ·exact hc.elim
 ·exact hc.elim
theorem abp {ids:List Nat} {bl:List VB} {ch:List CG} {R:List aj} {ms:List Nat} {w0 w w':ag} {n b c:Nat} {f:Nat->Int} (S:St ms w0 (lits ids ids bl++aC ch R) w) (cB:Ch [] w w') (eG:w.heap.size<=b) (aP:w'.heap[b]?=some (.cells (bI n f c) 5 (0,0))):St ms w0 (lits ids ids bl++aC (ch++[.row ⟨n,f,b,c⟩]) R) w':=by
 rw[He];rw[Sc]at S;exact S.uE (bl':=[⟨b,true,.cells (bI n f c) 5 (0,0)⟩]) (λy hy=>nomatch hy) cB (λy hy=>by
  obtain rfl:=iH.1 hy;exact aP) (λy hy=>by
  obtain rfl:=iH.1 hy;exact .inr eG) (by simp)
theorem ak1 {gl:Nat->Option Nat}:Sound prog gl 47 Ht:=by
 intro args ids bl ch R ms w0 w K hg hl S hc;unfold Ht at hc;split at hc
 ·rename_i l s b o n c u rest;split at hc
  ·rename_i r hr;obtain⟨f,k,⟨h8,hn,hs,⟨tG,hG⟩,hq,hk⟩,hK⟩:=hc;have ea:(aH ids [.agg l,.int .i64 s,.raw (.slice (some ⟨b,o,none⟩) n c)]).toArray=#[.agg (aE .u8 32 k),.int .i64 s,.slice (some ⟨b,o,none⟩) n c]:=by
    simp only[aH,den,wZ ids hr,hq];rw[Gf hk];rfl
   rw[ea];refine(close_ k s b o n c f hn hs w (SO S hG) (LY S (λy hy=>Hv hy) h8)).mono ?_;rintro v w' ⟨b2,c2,rfl,hle,eG,aP,cB⟩;exact⟨_,[],bl,_,rfl,by simpa using hl,by simpa using abp S cB eG aP,hK b2 c2 hle⟩
  ·exact hc.elim
 ·exact hc.elim
theorem ak2:ia Ht:=by
 intro args bl ch K hc;unfold Ht at hc⊢;split at hc
 ·split at hc
  ·obtain⟨f,k,h,hK⟩:=hc;exact⟨f,k,h,λb c h=>⟨hK b c h,[],by simp⟩⟩
  ·exact hc.elim
 ·exact hc.elim
theorem ak3 {gl:Nat->Option Nat}:Sound prog gl 43 Hu:=by
 intro args ids bl ch R ms w0 w K hg hl S hc;unfold Hu at hc;split at hc
 ·rename_i i u rest;split at hc
  ·rename_i wr b o n c hb;obtain⟨f,⟨h8,hn⟩,tL,Sf⟩:=hc;have aP:=(fV hl S hb).2
   let ps:List JP:=[((b,o,n,c),f)]
   have et:gj ps 0=n:=by show 0+n=_;rw[eY]
   refine(L_ (k:=1) (ps:=ps) (z:=λ_=>0) (λK=>ajp w K (b,o,n,c)) aP (by rw[et];exact hn) (λq hq=>by
    rcases cn.1 hq with rfl|hq
    ·exact LY S (λy hy=>Hv hy) h8
    cases hq)).mono ?_
   rintro v w' ⟨cB,⟨h,rfl⟩|⟨h0,b',c',rfl,h1,h2,h3⟩⟩
   ·exact⟨_,[],bl,_,rfl,by simpa using hl,by simpa using S.quiet cB,tL (by rw[<-et];exact h)⟩
   ·have ec:l9 ps 0 (λ_=>0)=f:=by
     simp only[ps,l9,eY,BK 0]
    rw[et]at h1 h3⊢;rw[ec]at h3;rw[et]at h0;exact⟨_,[],bl,_,rfl,by simpa using hl,by simpa using abp S cB h2 h3,Sf h0 b' c' h1⟩
  ·exact hc.elim
 ·exact hc.elim
theorem ak4:ia Hu:=by
 intro args bl ch K hc;unfold Hu at hc⊢;split at hc
 ·split at hc
  ·obtain⟨f,h,h0,h1⟩:=hc;exact⟨f,h,λe=>⟨h0 e,[],by simp⟩,λe b c h=>⟨h1 e b c h,[],by simp⟩⟩
  ·exact hc.elim
 ·exact hc.elim
def SP:List (bR CG):=[⟨47,true,Ht⟩,⟨192,true,Hs⟩,⟨43,true,Hu⟩]
theorem ak5:aI prog de SP:=aI.cons ⟨ak1,λ_=>ak2⟩ (aI.cons ⟨akZ,λ_=>ak0⟩ (aI.cons ⟨ak3,λ_=>ak4⟩ aI.nil))
def opX (u:ag) (k:Nat->Int) (s:Int) (b o n c:Nat) (K:VK CG):Prop:=
 let q:=i64.wrap ((n:Int)-8)
 let no (ch:List CG):Prop:=K (.av [.raw (.slice none 0 0),.int .i64 14]) [] (.a_ u::ch)
 cond (decide (q<0)) (no []) ((0<=q/\q<=(c:Int))/\∃f kk:Nat->Int,(cx u b o q.toNat f/\q.toNat<=50/\(0<=s/\s<4294967296)/\(∃tG,u.heap[1]?=some (.cells (aE .u32 64 cT) tG (0,0)))/\((bw 32).map k).length=32/\∀j,j<32->dm ((bw 32).map k) j=kk j)/\
  ∀b1 c1:Nat,q.toNat+8<=c1->∃f2 g2:Nat->Int,(cx u b o n f2/\b1=b1/\n=q.toNat+8/\0+(q.toNat+8)<=q.toNat+8/\n<=1000000/\∀j,j<n->gY kk s q.toNat f j=g2 j)/\
   cond (!(o8 n f2 g2)) (no [.row ⟨q.toNat+8,gY kk s q.toNat f,b1,c1⟩]) ((0<=q/\q<=(c:Int))/\∃f3:Nat->Int,(cx u b o q.toNat f3/\q.toNat<=1000000)/\
    (q.toNat=0->K (.av [.raw (.slice none 0 0),.int .i64 0]) [] [.a_ u,.row ⟨q.toNat+8,gY kk s q.toNat f,b1,c1⟩])/\
    (0<q.toNat->∀b2 c2:Nat,q.toNat<=c2->K (.av [.raw (.slice (some ⟨b2,0,none⟩) q.toNat c2),.int .i64 0]) [] [.a_ u,.row ⟨q.toNat+8,gY kk s q.toNat f,b1,c1⟩,.row ⟨q.toNat,f3,b2,c2⟩])))
theorem ak6 (u:ag) (k:Nat->Int) (s:Int) (b o n c:Nat) (K:VK CG):nz SP 150 [.agg (ints 32 k),.int .i64 s,.raw (.slice (some ⟨b,o,none⟩) n c)] [] [.a_ u] (bA 0 K)=opX u k s b o n c K:=by kernel_rfl
theorem zx {L:List (bR CG)} (hL:aI prog de L) {f:fL} {args:List V} {K:VK CG} {w:ag} (h:nz L f args [] [.a_ w] (bA 0 K)):aV prog f (aH [] args).toArray w λv w'=>∃x ids bl ch,v=den ids x/\ids.length=bl.length/\St [] w (lits ids ids bl++aC ch []) w'/\K x bl ch:=by
 refine(eO hL.T hL.Q 60 (C:=fW prog de L Hc Se) (ids:=[]) (bl:=[]) (ch:=[.a_ w]) (R:=[]) (λg i h=>by cases h) rfl (aaQ w) h).mono ?_;rintro v w' ⟨x,more,bl',ch',rfl,h1,S',hK⟩;obtain⟨v2,cJ,bl2,hv,dv,S2,qA⟩:=iB (n0:=0) h1 (Nat.zero_le _) S' hK;exact⟨v2,_,bl2,ch',hv,dv,S2,qA⟩
theorem zA {k:Nat->Int} {n j:Nat} (h:j<n):dm ((bw n).map k) j=k j:=by
 unfold dm;simp[ir,nV h]
theorem abq (k:Nat->Int) (s:Int) (a:Option aQ) (n c:Nat):(aH [] [.agg (ints 32 k),.int .i64 s,.raw (.slice a n c)]).toArray=#[.agg (aE .u8 32 k),.int .i64 s,.slice a n c]:=by
 simp only[aH,den,zq]
theorem abr (k:Nat->Int) (s:Int) (a:Option aQ) (n c:Nat) (hn:n<8) (w:ag):
 aV prog 150 #[.agg (aE .u8 32 k),.int .i64 s,.slice a n c] w λv w1=>v=.tuple #[.slice none 0 0,.int .i64 14]/\Ch [] w w1:=by
 have h:nz [] 150 [.agg (ints 32 k),.int .i64 s,.raw (.slice a n c)] [] [.a_ w] (bA 0 λv _ _=>v=.av [.raw (.slice none 0 0),.int .i64 14]):=by
  have e:∀K:VK CG,nz [] 150 [.agg (ints 32 k),.int .i64 s,.raw (.slice a n c)] [] [.a_ w] (bA 0 K)=K (.av [.raw (.slice none 0 0),.int .i64 14]) [] [.a_ w]:=by
   intro K;rcases(by omega:n=0\/n=1\/n=2\/n=3\/n=4\/n=5\/n=6\/n=7)with rfl|rfl|rfl|rfl|rfl|rfl|rfl|rfl<;>kernel_rfl
  rw[e]
 rw[<-abq];refine(zx aI.nil h).mono ?_;rintro v w' ⟨x,ids,bl,ch,rfl,hl,S,rfl⟩;exact⟨rfl,S.ch⟩
theorem abt (k:Nat->Int) (s:Int) (b o m c:Nat) (f:Nat->Int) (hm:m<=50) (hc:m+8<=c) (hs:0<=s/\s<4294967296) {tG:aJ} (w:ag) (hG:w.heap[1]?=some (.cells (aE .u32 64 cT) tG (0,0))) (hB:cx w b o (m+8) f):
 aV prog 150 #[.agg (aE .u8 32 k),.int .i64 s,.slice (some ⟨b,o,none⟩) (m+8) c] w λv w1=>(lj k s m f=false/\v=.tuple #[.slice none 0 0,.int .i64 14]/\Ch [] w w1)\/(lj k s m f=true/\∃x1 c1 km,v=.tuple #[.slice x1 m c1,.int .i64 0]/\ff 5 m f x1 c1 km/\St [] w km w1):=by
 have h:nz SP 150 [.agg (ints 32 k),.int .i64 s,.raw (.slice (some ⟨b,o,none⟩) (m+8) c)] [] [.a_ w] (bA 0 λv bl ch=>bl=[]/\((lj k s m f=false/\v=.av [.raw (.slice none 0 0),.int .i64 14])\/(lj k s m f=true/\((m=0/\v=.av [.raw (.slice none 0 0),.int .i64 0])\/∃l b2 c2,0<m/\m<=c2/\v=.av [.raw (.slice (some ⟨b2,0,none⟩) m c2),.int .i64 0]/\ch=l++[.row ⟨m,f,b2,c2⟩])))):=by
  rw[ak6];unfold opX;have e:i64.wrap (((m+8:Nat):Int)-8)=(m:Int):=by simp[yr,uz,uA];omega
  dsimp only;rw[e,Int.toNat_natCast];refine aM (λh=>absurd (of_decide_eq_true h) (by omega)) λ_=>⟨⟨by omega,by omega⟩,f,k,⟨hB.cut (by omega),hm,hs,⟨tG,hG⟩,by simp,λj hj=>zA hj⟩,λb1 c1 h1=>⟨f,gY k s m f,⟨hB,rfl,rfl,by omega,by omega,λ_ _=>rfl⟩,aM (λh=>⟨rfl,.inl ⟨(by unfold lj;simpa using h),rfl⟩⟩) λh=>⟨⟨by omega,by omega⟩,f,⟨hB.cut (by omega),by omega⟩,λh0=>⟨rfl,.inr ⟨(by unfold lj;simpa using h),.inl ⟨h0,rfl⟩⟩⟩,λh0 b2 c2 h2=>⟨rfl,.inr ⟨(by unfold lj;simpa using h),.inr ⟨[.a_ w,.row ⟨m+8,gY k s m f,b1,c1⟩],b2,c2,h0,h2,rfl,rfl⟩⟩⟩⟩⟩⟩
 rw[<-abq];refine(zx ak5 h).mono ?_;rintro v w' ⟨x,ids,bl,ch,rfl,hl,S,rfl,⟨h0,rfl⟩|⟨h0,⟨rfl,rfl⟩|⟨l,b2,c2,h1,h2,rfl,rfl⟩⟩⟩
 ·exact .inl ⟨h0,rfl,S.ch⟩
 ·exact .inr ⟨h0,none,0,[],rfl,⟨dH _,.inl ⟨rfl,rfl,rfl,rfl⟩⟩,by simpa using(St.nil [] w).quiet S.ch⟩
 ·exact .inr ⟨h0,some ⟨b2,0,none⟩,c2,_,rfl,⟨h2,.inr ⟨b2,rfl,rfl⟩⟩,(St.nil [] w).new S.ch (Sl S) (Hk S)⟩
theorem ak7 (k:Nat->Int) (s:Int) (b o m c:Nat) (f:Nat->Int) (hm:m<=50) (hc:m+8<=c) (hs:0<=s/\s<4294967296) (ho:lj k s m f=false) {tG:aJ} (w:ag) (hG:w.heap[1]?=some (.cells (aE .u32 64 cT) tG (0,0))) (hB:cx w b o (m+8) f):
 aV prog 150 #[.agg (aE .u8 32 k),.int .i64 s,.slice (some ⟨b,o,none⟩) (m+8) c] w λv w1=>v=.tuple #[.slice none 0 0,.int .i64 14]/\Ch [] w w1:=
 (abt k s b o m c f hm hc hs w hG hB).mono λv w1 h=>h.elim (λh=>h.2) λh=>by rw[ho]at h;cases h.1
theorem ak8 (k:Nat->Int) (s:Int) (b o m c:Nat) (f:Nat->Int) (hm:m<=50) (hc:m+8<=c) (hs:0<=s/\s<4294967296) (ho:lj k s m f=true) {tG:aJ} (w:ag) (hG:w.heap[1]?=some (.cells (aE .u32 64 cT) tG (0,0))) (hB:cx w b o (m+8) f):
 aV prog 150 #[.agg (aE .u8 32 k),.int .i64 s,.slice (some ⟨b,o,none⟩) (m+8) c] w λv w1=>∃x1 c1 km,v=.tuple #[.slice x1 m c1,.int .i64 0]/\ff 5 m f x1 c1 km/\St [] w km w1:=
 (abt k s b o m c f hm hc hs w hG hB).mono λv w1 h=>h.elim (λh=>by rw[ho]at h;cases h.1) λh=>h.2
def kK (p:Sd.aO) (ka:Nat->Option aQ) (kn kc:Nat->Nat):Array ae:=#[.int .i64 (p.i 0),.int .i64 (p.i 1),.int .i64 (p.i 2),.int .i64 (p.i 3),.int .i64 (p.i 4),.slice (ka 0) (kn 0) (kc 0),.slice (ka 1) (kn 1) (kc 1),.slice (ka 2) (kn 2) (kc 2),.slice (ka 3) (kn 3) (kc 3),.int .i64 (p.i 9),.int .i64 (p.i 10),.int .i64 (p.i 11),.int .i64 (p.i 12),.int .i64 (p.i 13),.int .i64 (p.i 14),.int .i64 (p.i 15),.int .i64 (p.i 16),.int .i64 (p.i 17),.int .i64 (p.i 18),.int .i64 (p.i 19),.int .i64 (p.i 20),.int .i64 (p.i 21),.int .i64 (p.i 22),.int .i64 (p.i 23),.int .i64 (p.i 24),.int .i64 (p.i 25),.int .i64 (p.i 26),.int .i64 (p.i 27),.int .i64 (p.i 28),.int .i64 (p.i 29),.int .i64 (p.i 30),.int .i64 (p.i 31),.int .i64 (p.i 32),.int .i64 (p.i 33),.int .i64 (p.i 34),.int .i64 (p.i 35),.int .i64 (p.i 36),.int .i64 (p.i 37),.int .i64 (p.i 38),.int .i64 (p.i 39),.int .i64 (p.i 40),.int .i64 (p.i 41),.int .i64 (p.i 42),.int .i64 (p.i 43),.int .i64 (p.i 44),.int .i64 (p.i 45),.int .i64 (p.i 46),.int .i64 (p.i 47),.int .i64 (p.i 48),.int .i64 (p.i 49),.int .i64 (p.i 50),.int .i64 (p.i 51),.int .i64 (p.i 52),.int .i64 (p.i 53),.int .i64 (p.i 54),.int .i64 (p.i 55)]
def xd (t:Sd.Timer):Array ae:=#[.int .i64 t.n,.int .i64 t.most]
def x4C (t:Sd.X4):Array ae:=#[.int .i64 t.a,.int .i64 t.b,.int .i64 t.c,.int .i64 t.d]
def abu (t:Sd.Label):Array ae:=#[.int .i64 t.lZ,.int .i64 t.source,.int .i64 t.seq]
def gZ (t:Sd.Tok):Array ae:=#[.int .i64 t.aG,.int .i64 t.ah,.int .i64 t.offer,.int .i64 t.oa.n,.int .i64 t.oa.most,.int .i64 t.la.n,.int .i64 t.la.most,.bool t.bad]
def Eo (t:Sd.e_):Array ae:=#[.int .i64 t.cls,.int .i64 t.aT.a,.int .i64 t.aT.b,.int .i64 t.aT.c,.int .i64 t.aT.d,.int .i64 t.now.a,.int .i64 t.now.b,.int .i64 t.now.c,.int .i64 t.now.d,.int .i64 t.bx.lZ,.int .i64 t.bx.source,.int .i64 t.bx.seq]
def Mi (t:Sd.a9):Array ae:=#[.int .i64 t.kind,.int .i64 t.seq,.int .i64 t.role,.int .i64 t.aT,.int .i64 t.ah,.int .i64 t.mode,.int .i64 t.cls,.bool t.now,.int .i64 t.x.a,.int .i64 t.x.b,.int .i64 t.x.c,.int .i64 t.x.d]
def ak9 (t:Sd.n9):Array ae:=#[.bool t.valid,.int .i64 t.x.a,.int .i64 t.x.b,.int .i64 t.x.c,.int .i64 t.x.d,.bool t.KG]
def jn (t:Sd.gW):Array ae:=#[.bool t.any,.int .i64 t.high,.int .u64 t.seen]
def pa (t:Sd.Ask):Array ae:=#[.int .i64 t.source,.int .i64 t.bb,.int .i64 t.dp.n,.int .i64 t.dp.most]
def recC (t:Sd.Rec):Array ae:=#[.int .i64 t.kind,.int .i64 t.source,.int .i64 t.seq,.int .i64 t.ah,.int .i64 t.code,.int .i64 t.how]
theorem ak_ (s i:Int) (h0:0<=s) (h1:0<=i) (h2:i<=62):((jx s (2^(min (i).toNat 64)))%2==1)=Sd.has s i:=by
 have e:min i.toNat 64=i.toNat:=by omega
 have h3:(0:Int)<=2^i.toNat:=Int.le_of_lt (Int.pow_pos (by omega));rw[e,uB _ h3];simp[Sd.has,h0,h1,h2];exact Bool.eq_iff_iff.2 (by simp)
def fH (p:Sd.aO) (ka:Nat->Option aQ) (kn kc:Nat->Nat):List V:=(bw 56).map λo=>bif bG 5 o&&bG o 8 then .raw (.slice (ka (o-5)) (kn (o-5)) (kc (o-5)))else .int .i64 (p.i o)
def va (n m:Int):List V:=[.int .i64 n,.int .i64 m]
def ez (t:Sd.Tok):List V:=[.int .i64 t.aG,.int .i64 t.ah,.int .i64 t.offer,.int .i64 t.oa.n,.int .i64 t.oa.most,.int .i64 t.la.n,.int .i64 t.la.most,.bool t.bad]
def tM (x:Sd.X4):List V:=[.int .i64 x.a,.int .i64 x.b,.int .i64 x.c,.int .i64 x.d]
def xf (t:Sd.Label):List V:=[.int .i64 t.lZ,.int .i64 t.source,.int .i64 t.seq]
def kp (t:Sd.e_):List V:=.int .i64 t.cls::(tM t.aT++(tM t.now++xf t.bx))
theorem iw {x:Int} (h:-9223372036854775808<=x/\x<=9223372036854775807):i64.wrap x=x:=by simp[yr,uz,uA];omega
theorem ib {L:List QF} {n f:Nat} {xs:List V} {v:V} {args:Array ae} {x:ae} {w:ag} (hL:bO prog (λ_=>none) L) (h:dX prog L n f xs (·=v)) (ha:args=(aH [] xs).toArray:=by kernel_rfl) (hx:x=den [] v:=by kernel_rfl) (h1:bo 0 xs=true:=by kernel_rfl) (h2:cR 0 v=true:=by kernel_rfl):
 aV prog f args w λy w1=>y=x/\Ch [] w w1:=by subst ha hx;exact zf hL n h h1 h2 [] w
theorem ala (n m:Int) (X:V->Prop):dX prog [] 30 78 [.int .i64 n,.int .i64 m] X=cond (decide (n<m)) (X (.int .i64 (i64.wrap (n+1)))) (X (.int .i64 m)):=by kernel_rfl
theorem alb (n:Int) (m:Int) (h_n:-9223372036854775808<=n/\n<=9223372036854775807) (Hw:-9223372036854775808<=m/\m<=9223372036854775807) (w:ag):
 aV prog 78 #[.int .i64 n,.int .i64 m] w λv w1=>v=.int .i64 (Sd.sat n m)/\Ch [] w w1:=by
 refine ib bO.nil (n:=30) (xs:=[.int .i64 n,.int .i64 m]) (v:=.int .i64 (Sd.sat n m)) ?_;rw[ala];unfold Sd.sat;refine aM (λh=>?_) (λh=>?_)
 ·have h:n<m:=by simpa using h
  rw[if_pos h,iw (by omega)]
 ·rw[if_neg (by simpa using h)]
theorem alc (n m k:Int) (X:V->Prop):dX prog [] 30 183 [.int .i64 n,.int .i64 m,.int .i64 k] X=cond (decide (n<m)) (X (.int .i64 m)) (cond (decide (n>k)) (X (.int .i64 k)) (X (.int .i64 n))):=by kernel_rfl
theorem abv (n:Int) (lo:Int) (hi:Int) (w:ag):
 aV prog 183 #[.int .i64 n,.int .i64 lo,.int .i64 hi] w λv w1=>v=.int .i64 (Sd.uJ n lo hi)/\Ch [] w w1:=by
 refine ib bO.nil (n:=30) (xs:=[.int .i64 n,.int .i64 lo,.int .i64 hi]) (v:=.int .i64 (Sd.uJ n lo hi)) ?_;rw[alc];unfold Sd.uJ;exact aM (λh=>by rw[if_pos (by simpa using h)]) (λh=>by
  rw[if_neg (by simpa using h)];exact aM (λh=>by rw[if_pos (by simpa using h)]) (λh=>by rw[if_neg (by simpa using h)]))
def tw (a b:Int):Int:=u64.wrap (u64.wrap a-u64.wrap b)
theorem abw {a b:Int} (h0:0<=a-b) (h1:a-b<18446744073709551616):tw a b=a-b:=by unfold tw;rw[s9,s9,s9];omega
theorem ald {a:Int} (h0:0<=a) (h1:a<18446744073709551616):u64.wrap a=a:=by rw[s9];omega
theorem ale (nw t b:Int) (X:V->Prop):dX prog [] 30 142 [.int .i64 nw,.int .i64 t,.int .i64 b] X=cond (decide (b<1)) (X (.int .i64 nw)) (cond (decide (t>=nw)) (cond (decide (tw t nw<=u64.wrap b)) (X (.int .i64 t)) (X (.int .i64 (i64.wrap (nw+b)))))
 (cond (decide (tw nw t<=u64.wrap b)) (X (.int .i64 t)) (X (.int .i64 (i64.wrap (nw-b)))))):=by kernel_rfl
theorem abx (nw:Int) (t:Int) (b:Int) (aby:-9223372036854775808<=nw/\nw<=9223372036854775807) (h_t:-9223372036854775808<=t/\t<=9223372036854775807) (h_b:-9223372036854775808<=b/\b<=9223372036854775807) (w:ag):
 aV prog 142 #[.int .i64 nw,.int .i64 t,.int .i64 b] w λv w1=>v=.int .i64 (Sd.rK nw t b)/\Ch [] w w1:=by
 refine ib bO.nil (n:=30) (xs:=[.int .i64 nw,.int .i64 t,.int .i64 b]) (v:=.int .i64 (Sd.rK nw t b)) ?_;rw[ale];unfold Sd.rK;refine aM (λh=>by rw[if_pos (by simpa using h)]) (λh=>?_);have h1:¬b<1:=by simpa using h
 rw[if_neg h1,ald (by omega) (by omega)];refine aM (λh=>?_) (λh=>?_)
 ·have h2:nw<=t:=by simpa using h
  rw[if_pos h2,abw (by omega) (by omega)];refine aM (λh=>by rw[if_pos (by simpa using h)]) (λh=>?_);have h3:¬t-nw<=b:=by simpa using h
  rw[if_neg h3,iw (by omega)]
 ·have h2:¬nw<=t:=by simpa using h
  rw[if_neg h2,abw (by omega) (by omega)];refine aM (λh=>by rw[if_pos (by simpa using h)]) (λh=>?_);have h3:¬nw-t<=b:=by simpa using h
  rw[if_neg h3,iw (by omega)]
def hv (n:Int) (m:Nat):Int:=let a:=oP i64.bits (n.fdiv (2^min m i64.bits));let b:=oP i64.bits 1;i64.wrap ↑(a&&&b).toNat
theorem alf (n:Int) (m:Nat) (X:V->Prop):dX prog [] 30 189 [.int .i64 n,.int .i64 (.ofNat m)] X=cond (decide (n<0)) (X (.bool false)) (cond (decide (db m>62)) (X (.bool false)) (X (.bool (hv n m==1)))):=by kernel_rfl
theorem alg (n:Int) (m:Nat) (X:V->Prop):dX prog [] 30 189 [.int .i64 n,.int .i64 (.negSucc m)] X=cond (decide (n<0)) (X (.bool false)) (cond (decide (Int.negSucc m<0)) (X (.bool false)) False):=by kernel_rfl
theorem abz (s:Int) (i:Int) (w:ag):
 aV prog 189 #[.int .i64 s,.int .i64 i] w λv w1=>v=.bool (Sd.has s i)/\Ch [] w w1:=by
 refine ib bO.nil (n:=30) (xs:=[.int .i64 s,.int .i64 i]) (v:=.bool (Sd.has s i)) ?_;cases i with
 |ofNat m=>
  rw[alf];refine aM (λh=>?_) (λh=>aM (λh'=>?_) λh'=>?_)
  ·have h:s<0:=by simpa using h
   congr 1;simp[Sd.has];omega
  ·have h':(m:Int)>62:=by simpa using h'
   congr 1;simp[Sd.has];omega
  ·have h:¬s<0:=by simpa using h
   have h':¬(m:Int)>62:=by simpa using h'
   have em:db m=(m:Int):=rfl;rw[<-ak_ s (.ofNat m) (by omega) (by omega) (by omega)];exact congrArg (λz:Int=>V.bool (z==1)) (rq .i64 (jx s (2^(min m 64))) 1 2 1 (by decide) (by decide) (by decide))
 |negSucc m=>
  rw[alg];have e:Sd.has s (.negSucc m)=false:=by simp[Sd.has]
  rw[e];exact aM (λ_=>rfl) λ_=>aM (λ_=>rfl) λh=>absurd (of_decide_eq_false h) (by omega)
theorem abA (m:Int) (X:V->Prop):dX prog [] 30 179 [.int .i64 m] X=X (.agg (va 0 (if 0>m then 0 else m))):=by kernel_rfl
theorem Hx (b:Int):Sd.Timer.start b=⟨0,if 0>b then 0 else b⟩:=by
 unfold Sd.Timer.start;congr 1;by_cases h:0>b
 ·rw[if_pos h];omega
 ·rw[if_neg h];omega
theorem alh (m:Int) (Hw:-9223372036854775808<=m/\m<=9223372036854775807) (w:ag):
 aV prog 179 #[.int .i64 m] w λv w1=>v=.agg (xd (Sd.Timer.start m))/\Ch [] w w1:=by
 rw[Hx];refine ib bO.nil (n:=30) (xs:=[.int .i64 m]) (v:=.agg (va 0 (if 0>m then 0 else m))) ?_;rw[abA]
theorem ali (t:Sd.Timer) (X:V->Prop):dX prog [] 30 138 [.agg (va t.n t.most)] X=cond (decide (t.n<t.most)) (X (.agg (va (i64.wrap (t.n+1)) t.most))) (X (.agg (va t.most t.most))):=by kernel_rfl
theorem abB (t:Sd.Timer) (abC:-9223372036854775808<=t.n/\t.n<=9223372036854775807) (abD:-9223372036854775808<=t.most/\t.most<=9223372036854775807) (w:ag):
 aV prog 138 #[.agg (xd t)] w λv w1=>v=.agg (xd (Sd.Timer.step t))/\Ch [] w w1:=by
 refine ib bO.nil (n:=30) (xs:=[.agg (va t.n t.most)]) (v:=.agg (va (Sd.sat t.n t.most) t.most)) ?_;rw[ali];unfold Sd.sat;refine aM (λh=>?_) (λh=>?_)
 ·have h:t.n<t.most:=by simpa using h
  rw[if_pos h,iw (by omega)]
 ·rw[if_neg (by simpa using h)]
theorem alj (t:Sd.Timer) (X:V->Prop):dX prog [] 30 139 [.agg (va t.n t.most)] X=X (.bool (decide (t.n>=t.most))):=by kernel_rfl
theorem abE (t:Sd.Timer) (w:ag):
 aV prog 139 #[.agg (xd t)] w λv w1=>v=.bool (Sd.Timer.due t)/\Ch [] w w1:=by
 refine ib bO.nil (n:=30) (xs:=[.agg (va t.n t.most)]) (v:=.bool t.due) ?_;rw[alj];rfl
theorem alk (t:Sd.Tok) (o:Int) (X:V->Prop):dX prog [] 30 130 [.agg (ez t),.int .i64 o] X=cond (decide (o<0)) (X (.av [.agg (ez t),.int .i64 1])) (cond (decide (o>=5)) (X (.av [.agg (ez t),.int .i64 1])) (cond (o==t.aG) (X (.av [.agg (ez t),.int .i64 25]))
 (cond (decide (t.ah>=65535)) (X (.av [.agg (ez t),.int .i64 24])) (X (.av [.agg (ez (t.pass o (i64.wrap (t.ah+1)))),.int .i64 0]))))):=by kernel_rfl
theorem alm (t:Sd.Tok) (o:Int) (vb:-9223372036854775808<=t.ah/\t.ah<=9223372036854775807) (w:ag):
 aV prog 130 #[.agg (gZ t),.int .i64 o] w λv w1=>v=.tuple #[.agg (gZ ((Sd.Tok.dq t o).1)),.int .i64 ((Sd.Tok.dq t o).2)]/\Ch [] w w1:=by
 refine ib bO.nil (n:=30) (xs:=[.agg (ez t),.int .i64 o]) (v:=.av [.agg (ez (t.dq o).1),.int .i64 (t.dq o).2]) ?_;rw[alk];unfold Sd.Tok.dq;refine aM (λh=>by rw[if_pos (.inl (by simpa using h))]) (λh=>aM (λh'=>by rw[if_pos (.inr (by simpa using h'))]) λh'=>?_);have h1:¬(o<0\/5<=o):=by simp at h h';omega
 rw[if_neg h1];refine aM (λh=>by rw[if_pos (by simpa using h)]) (λh=>?_);rw[if_neg (by simpa using h)];refine aM (λh=>by rw[if_pos (by simpa using h)]) (λh=>?_);have h2:¬65535<=t.ah:=by simpa using h
 rw[if_neg h2,iw (by omega)]
theorem aln (t:Sd.Tok) (X:V->Prop):dX prog [] 30 84 [.agg (ez t)] X=cond (t.aG !=4) (cond (decide (t.ah<65535)) (X (.agg (ez (t.pass 4 (i64.wrap (t.ah+1)))))) (X (.agg (ez (t.pass 4 65535))))) (X (.agg (ez (t.pass 4 t.ah)))):=by kernel_rfl
theorem alo (t:Sd.Tok) (vb:-9223372036854775808<=t.ah/\t.ah<=9223372036854775807) (w:ag):
 aV prog 84 #[.agg (gZ t)] w λv w1=>v=.agg (gZ (Sd.Tok.kg t))/\Ch [] w w1:=by
 refine ib bO.nil (n:=30) (xs:=[.agg (ez t)]) (v:=.agg (ez t.kg)) ?_;rw[aln];unfold Sd.Tok.kg Sd.sat;refine aM (λh=>?_) (λh=>by rw[if_neg (by simpa using h)]);rw[if_pos (by simpa using h)];refine aM (λh=>?_) (λh=>by rw[if_neg (by simpa using h)]);have h2:t.ah<65535:=by simpa using h
 rw[if_pos h2,iw (by omega)]
theorem alp (t:Sd.Tok) (X:V->Prop):dX prog [] 30 137 [.agg (ez t)] X=X (.bool (decide (t.offer>=0))):=by kernel_rfl
theorem open_ (t:Sd.Tok) (w:ag):
 aV prog 137 #[.agg (gZ t)] w λv w1=>v=.bool (decide (0<=t.offer))/\Ch [] w w1:=by
 refine ib bO.nil (n:=30) (xs:=[.agg (ez t)]) (v:=.bool (decide (0<=t.offer))) ?_;rw[alp]
theorem alq (t:Sd.Tok) (X:V->Prop):dX prog [] 30 140 [.agg (ez t)] X=X (.agg (ez t.iL)):=by kernel_rfl
theorem SQ (t:Sd.Tok) (w:ag):
 aV prog 140 #[.agg (gZ t)] w λv w1=>v=.agg (gZ (Sd.Tok.iL t))/\Ch [] w w1:=by
 refine ib bO.nil (n:=30) (xs:=[.agg (ez t)]) (v:=.agg (ez t.iL)) ?_;rw[alq]
def p5 (p:Sd.aO):List V:=[.int .i64 (p.i 0),.int .i64 (p.i 1),.int .i64 (p.i 2),.int .i64 (p.i 3),.int .i64 (p.i 4)]
theorem alr (p:Sd.aO) (s:Int) (X:V->Prop):dX prog [] 30 232 [.agg (p5 p),.int .i64 s] X=cond (p.i 0==s) (X (.int .i64 0)) (cond (p.i 1==s) (X (.int .i64 1)) (cond (p.i 2==s) (X (.int .i64 2)) (cond (p.i 3==s) (X (.int .i64 3)) (cond (p.i 4==s) (X (.int .i64 4)) (X (.int .i64 (-1))))))):=by kernel_rfl
theorem SR (p:Sd.aO) (ka:Nat->Option aQ) (kn kc:Nat->Nat) (s:Int) (w:ag):
 aV prog 232 #[.agg #[.int .i64 (p.i 0),.int .i64 (p.i 1),.int .i64 (p.i 2),.int .i64 (p.i 3),.int .i64 (p.i 4)],.int .i64 s] w λv w1=>v=.int .i64 (Sd.placeOf p s)/\Ch [] w w1:=by
 refine ib bO.nil (n:=30) (xs:=[.agg (p5 p),.int .i64 s]) (v:=.int .i64 (Sd.placeOf p s)) ?_;rw[alr];unfold Sd.placeOf;refine aM (λh=>by rw[if_pos (by simpa using h)]) (λh=>?_);rw[if_neg (by simpa using h)];refine aM (λh=>by rw[if_pos (by simpa using h)]) (λh=>?_);rw[if_neg (by simpa using h)];refine aM (λh=>by rw[if_pos (by simpa using h)]) (λh=>?_);rw[if_neg (by simpa using h)];refine aM (λh=>by rw[if_pos (by simpa using h)]) (λh=>?_);rw[if_neg (by simpa using h)];exact aM (λh=>by rw[if_pos (by simpa using h)]) (λh=>by rw[if_neg (by simpa using h)])
theorem told {P:aL} {f:Nat} {args:Array ae} {ids:List Nat} {xs:List V} {x:ae} {v:V} {w:ag} (h:aV P f args w λy w1=>y=x/\Ch [] w w1) (ha:args=(aH ids xs).toArray:=by kernel_rfl) (hv:x=den ids v:=by kernel_rfl):
 aV P f (aH ids xs).toArray w λy w1=>y=den ids v/\Ch [] w w1:=by subst ha hv;exact h
structure Hd (p:Prop):Prop where
 h:p
def aB (a:Int):Prop:=-9223372036854775808<=a/\a<=9223372036854775807
def SS:QF:=⟨232,λargs _=>match args with
 |[.agg [.int .i64 a,.int .i64 b,.int .i64 c,.int .i64 d,.int .i64 e],.int .i64 s]=>some (True,.int .i64 (if a=s then 0 else if b=s then 1 else if c=s then 2 else if d=s then 3 else if e=s then 4 else-1))
 |_=>none⟩
def SU:QF:=⟨142,λargs _=>match args with
 |[.int .i64 nw,.int .i64 t,.int .i64 b]=>some (aB nw/\aB t/\aB b,.int .i64 (Sd.rK nw t b))
 |_=>none⟩
def Hy:QF:=⟨183,λargs _=>match args with
 |[.int .i64 n,.int .i64 lo,.int .i64 hi]=>some (True,.int .i64 (Sd.uJ n lo hi))
 |_=>none⟩
def qH:QF:=⟨189,λargs _=>match args with
 |[.int .i64 s,.int .i64 i]=>some (True,.bool (Sd.has s i))
 |_=>none⟩
def Mj:QF:=⟨140,λargs _=>match args with
 |[.agg [.int .i64 a,.int .i64 b,.int .i64 c,.int .i64 d,.int .i64 e,.int .i64 f,.int .i64 g,.bool h]]=>some (True,.agg (ez (⟨a,b,c,⟨d,e⟩,⟨f,g⟩,h⟩:Sd.Tok).iL))
 |_=>none⟩
def SV:QF:=⟨179,λargs _=>match args with
 |[.int .i64 m]=>some (True,.agg (va 0 (if 0>m then 0 else m)))
 |_=>none⟩
def SW:QF:=⟨126,λargs _=>match args with
 |[.int .i64 m,.agg [.int .i64 a,.int .i64 b,.int .i64 c,.int .i64 d]]=>some (0<=m/\m<=1000,.bool (Sd.tj m ⟨a,b,c,d⟩))
 |_=>none⟩
theorem als (gl:Nat->Option Nat):SS.Ok prog gl:=by
 intro args bl p_ v_ h hp ids w _ _;unfold SS at h;dsimp only at h;split at h
 ·rename_i a b c d e s;simp only[aY,bC]at h;obtain⟨rfl,rfl⟩:=h;exact told (SR ⟨λi=>match i with|0=>a|1=>b|2=>c|3=>d|_=>e,λ_=>(0,λ_=>0)⟩ (λ_=>none) (λ_=>0) (λ_=>0) s w)
 ·cases h
theorem alu (gl:Nat->Option Nat):SU.Ok prog gl:=by
 intro args bl p_ v_ h hp ids w _ _;unfold SU at h;dsimp only at h;split at h
 ·rename_i nw t b;simp only[aY,bC]at h;obtain⟨rfl,rfl⟩:=h;exact told (abx nw t b hp.1 hp.2.1 hp.2.2 w)
 ·cases h
theorem SX (gl:Nat->Option Nat):Hy.Ok prog gl:=by
 intro args bl p_ v_ h hp ids w _ _;unfold Hy at h;dsimp only at h;split at h
 ·rename_i n lo hi;simp only[aY,bC]at h;obtain⟨rfl,rfl⟩:=h;exact told (abv n lo hi w)
 ·cases h
theorem SY (gl:Nat->Option Nat):qH.Ok prog gl:=by
 intro args bl p_ v_ h hp ids w _ _;unfold qH at h;dsimp only at h;split at h
 ·rename_i s i;simp only[aY,bC]at h;obtain⟨rfl,rfl⟩:=h;exact told (abz s i w)
 ·cases h
theorem abF (gl:Nat->Option Nat):Mj.Ok prog gl:=by
 intro args bl p_ v_ h hp ids w _ _;unfold Mj at h;dsimp only at h;split at h
 ·rename_i a b c d e f g h;simp only[aY,bC]at h;obtain⟨rfl,rfl⟩:=h;exact told (SQ ⟨a,b,c,⟨d,e⟩,⟨f,g⟩,h⟩ w)
 ·cases h
theorem alv (gl:Nat->Option Nat):SV.Ok prog gl:=by
 intro args bl p_ v_ h hp ids w _ _;unfold SV at h;dsimp only at h;split at h
 ·rename_i m;simp only[aY,bC]at h;obtain⟨rfl,rfl⟩:=h;exact zf bO.nil 30 (by show dX prog [] 30 179 _ _;rw[abA]) rfl rfl ids w
 ·cases h
theorem se {q:QF} (h:q.Ok prog λ_=>none):bO prog (λ_=>none) [q]:=bO.cons h bO.nil
theorem alw (p:Sd.aO) (ka:Nat->Option aQ) (kn kc:Nat->Nat) (s:Int) (X:V->Prop):dX prog [SS] 30 217 [.agg (fH p ka kn kc),.int .i64 s] X=(True/\X (.int .i64 (Sd.placeOf p s))):=by kernel_rfl
theorem alx (p:Sd.aO) (ka:Nat->Option aQ) (kn kc:Nat->Nat) (s:Int) (w:ag):
 aV prog 217 #[.agg (kK p ka kn kc),.int .i64 s] w λv w1=>v=.int .i64 (Sd.placeOf p s)/\Ch [] w w1:=by
 refine ib (se (als _)) (n:=30) (xs:=[.agg (fH p ka kn kc),.int .i64 s]) (v:=.int .i64 (Sd.placeOf p s)) ?_;rw[alw];exact⟨trivial,rfl⟩
theorem aly (p:Sd.aO) (ka:Nat->Option aQ) (kn kc:Nat->Nat) (a:Int) (b:Int) (w:ag):
 aV prog 215 #[.agg (kK p ka kn kc),.int .i64 a,.int .i64 b] w λv w1=>v=.bool (Sd.eV p a b)/\Ch [] w w1:=by
 have S0:=St.nil [] w;refine jd Tryz.func215 rfl ?_;refine aS (aZ ?_);refine eZ S0 (λb=>.pointer (some ⟨b,0,none⟩)) (.cells (kK p ka kn kc) 28) ?_;intro bJ iC dQ;refine au (.bool false) ?_;refine aW (aR (aS (aZ ?_)));refine gx ?_;refine aW (aR (aS ?_));refine A1 9 [⟨0,λ_=>.func (.func 232) #[] #[],λ_=>[]⟩,⟨0,λ_=>.pointer (some ⟨bJ,0,none⟩),λ_=>[]⟩,⟨0,λ_=>.agg #[.int .i64 (p.i 0),.int .i64 (p.i 1),.int .i64 (p.i 2),.int .i64 (p.i 3),.int .i64 (p.i 4)],λ_=>[]⟩,⟨0,λ_=>.int .i64 a,λ_=>[]⟩,⟨0,λ_=>.int .i64 (Sd.placeOf p a),λ_=>[]⟩,⟨0,λ_=>.func (.func 232) #[] #[],λ_=>[]⟩,⟨0,λ_=>.pointer (some ⟨bJ,0,none⟩),λ_=>[]⟩,⟨0,λ_=>.agg #[.int .i64 (p.i 0),.int .i64 (p.i 1),.int .i64 (p.i 2),.int .i64 (p.i 3),.int .i64 (p.i 4)],λ_=>[]⟩,⟨0,λ_=>.int .i64 b,λ_=>[]⟩] [[9,4,0],[9,4,2,1],[9,4,2],[9,4,3],[9,4],[9,5],[9,7,6],[9,7],[9,8],[10,0],[10,1],[10,2],[10,3],[10,4],[10,9,5],[10,9,7,6],[10,9,7],[10,9,8],[10,9],[11,0],[11,1],[11,2],[11,3],[11,4],[11,5],[11,6],[11,7],[11,8],[11,9],[11,10]] ?_ ?_
 ·refine step_cons iy ?_;refine step_cons iy ?_;refine step_cons (FY dQ 0 bJ 0 5 #[.int .i64 (p.i 0),.int .i64 (p.i 1),.int .i64 (p.i 2),.int .i64 (p.i 3),.int .i64 (p.i 4)]) ?_;refine step_cons iy ?_;refine step_cons ?_ ?_
  ·intro Ef mO BN aa4 Eg;have wY:Ef 10=.func (.func 232) #[] #[]:=(Sp.dO (Eg 0 10 (by kernel_rfl) (by kernel_rfl))).1;have lE:Ef 12=.agg #[.int .i64 (p.i 0),.int .i64 (p.i 1),.int .i64 (p.i 2),.int .i64 (p.i 3),.int .i64 (p.i 4)]:=(Sp.dO (Eg 2 12 (by kernel_rfl) (by kernel_rfl))).1;have kH:Ef 13=.int .i64 a:=(Sp.dO (Eg 3 13 (by kernel_rfl) (by kernel_rfl))).1;have qx:=dQ.quiet BN;refine pV ?_;refine mC [(10,.func (.func 232) #[] #[]),(12,.agg #[.int .i64 (p.i 0),.int .i64 (p.i 1),.int .i64 (p.i 2),.int .i64 (p.i 3),.int .i64 (p.i 4)]),(13,.int .i64 a)] (mD wY (mD lE (mD kH (pT)))) ?_;have BJ:=qx.loc;refine Y.fT 232 #[.agg #[.int .i64 (p.i 0),.int .i64 (p.i 1),.int .i64 (p.i 2),.int .i64 (p.i 3),.int .i64 (p.i 4)],.int .i64 a] ?_;refine(SR p ka kn kc a _).mono ?_;rintro _ alz ⟨rfl,lH⟩;have qy:=BJ.quiet lH;exact⟨qy.ch,Sp.pU [] (all_nil)⟩
  refine step_cons iy ?_;refine step_cons iy ?_;refine step_cons (FY dQ 0 bJ 0 5 #[.int .i64 (p.i 0),.int .i64 (p.i 1),.int .i64 (p.i 2),.int .i64 (p.i 3),.int .i64 (p.i 4)]) ?_;refine step_cons iy ?_;exact A0
 intro xg BH SZ xi;have alA:xg 0=.func (.func 232) #[] #[]:=(Sp.dO (xi 0 (by kernel_rfl))).1;have G7:xg 1=.pointer (some ⟨bJ,0,none⟩):=(Sp.dO (xi 1 (by kernel_rfl))).1;have rX:xg 2=.agg #[.int .i64 (p.i 0),.int .i64 (p.i 1),.int .i64 (p.i 2),.int .i64 (p.i 3),.int .i64 (p.i 4)]:=(Sp.dO (xi 2 (by kernel_rfl))).1;have tI:xg 3=.int .i64 a:=(Sp.dO (xi 3 (by kernel_rfl))).1;have G8:xg 4=.int .i64 (Sd.placeOf p a):=(Sp.dO (xi 4 (by kernel_rfl))).1;have qG:xg 5=.func (.func 232) #[] #[]:=(Sp.dO (xi 5 (by kernel_rfl))).1;have kI:xg 6=.pointer (some ⟨bJ,0,none⟩):=(Sp.dO (xi 6 (by kernel_rfl))).1;have zr:xg 7=.agg #[.int .i64 (p.i 0),.int .i64 (p.i 1),.int .i64 (p.i 2),.int .i64 (p.i 3),.int .i64 (p.i 4)]:=(Sp.dO (xi 7 (by kernel_rfl))).1;have Ss:xg 8=.int .i64 b:=(Sp.dO (xi 8 (by kernel_rfl))).1;have BU:=dQ.quiet SZ;refine⟨[.func (.func 232) #[] #[],.pointer (some ⟨bJ,0,none⟩),.agg #[.int .i64 (p.i 0),.int .i64 (p.i 1),.int .i64 (p.i 2),.int .i64 (p.i 3),.int .i64 (p.i 4)],.int .i64 a,.int .i64 (Sd.placeOf p a),.func (.func 232) #[] #[],.pointer (some ⟨bJ,0,none⟩),.agg #[.int .i64 (p.i 0),.int .i64 (p.i 1),.int .i64 (p.i 2),.int .i64 (p.i 3),.int .i64 (p.i 4)],.int .i64 b],by kernel_rfl,eB alA (eB G7 (eB rX (eB tI (eB G8 (eB qG (eB kI (eB zr (eB Ss (Dp))))))))),?_⟩;refine fT 232 #[.agg #[.int .i64 (p.i 0),.int .i64 (p.i 1),.int .i64 (p.i 2),.int .i64 (p.i 3),.int .i64 (p.i 4)],.int .i64 b] ?_;refine(SR p ka kn kc b _).mono ?_;rintro _ azc ⟨rfl,sf⟩;have wT:=BU.quiet sf;refine gx ?_;refine gx ?_;refine aW (aR (aS (aZ ?_)));refine dZ ?_;refine au (.bool ((Sd.placeOf p a)!=(-1))) ?_;refine dZ ?_;refine YC 22 ((Sd.placeOf p a)!=(-1)) ?_ ?_
 ·intro lG;have sh:=PG lG;refine dZ ?_;refine au (.bool ((Sd.placeOf p b)!=(-1))) ?_;refine au (.bool ((Sd.placeOf p b)!=(-1))) ?_;refine dZ ?_;refine YC 26 ((Sd.placeOf p b)!=(-1)) ?_ ?_
  ·intro vd;have w9:=PG vd;refine dZ ?_;refine dZ ?_;refine au (.bool (decide ((Sd.placeOf p a)<(Sd.placeOf p b)))) ?_;refine au (.bool (decide ((Sd.placeOf p a)<(Sd.placeOf p b)))) ?_;refine gx ?_;refine aW (aR (gU ?_));refine gF rfl (gb [.tmp 6] [.bool (decide ((Sd.placeOf p a)<(Sd.placeOf p b)))] (.bool (decide ((Sd.placeOf p a)<(Sd.placeOf p b)))) ⟨jz,trivial⟩) ?_;have ze:Sd.eV p a b=(decide ((Sd.placeOf p a)<(Sd.placeOf p b))):=by first|rfl|(simp[Sd.eV,lG,vd,sh,w9];done)|(simp[Sd.eV,lG,vd,sh,w9];rfl)|(simp[Sd.eV,lG,vd];simp[Sd.eV,lG,vd,sh,w9];done)|(simp[Sd.eV,lG,vd];simp[Sd.eV,lG,vd,sh,w9];rfl)|(simp[Sd.eV,lG,vd,sh,w9];omega)|(unfold Sd.eV;(repeat' split)<;>first|rfl|assumption|omega|(simp_all;done)|(simp_all;omega))
   exact⟨by(rw[ze])<;>rfl,wT.ch⟩
  intro r_;have tJ:=PH r_;refine vY ?_;refine vY ?_;refine vY ?_;refine au (.bool false) ?_;refine au (.bool false) ?_;refine aW (aR (gU ?_));refine gF rfl (gb [.tmp 6] [.bool false] (.bool false) ⟨jz,trivial⟩) ?_;have ze:Sd.eV p a b=false:=by first|rfl|(simp[Sd.eV,lG,r_,sh,tJ];done)|(simp[Sd.eV,lG,r_,sh,tJ];rfl)|(simp[Sd.eV,lG,r_];simp[Sd.eV,lG,r_,sh,tJ];done)|(simp[Sd.eV,lG,r_];simp[Sd.eV,lG,r_,sh,tJ];rfl)|(simp[Sd.eV,lG,r_,sh,tJ];omega)|(unfold Sd.eV;(repeat' split)<;>first|rfl|assumption|omega|(simp_all;done)|(simp_all;omega))
  exact⟨by(rw[ze])<;>rfl,wT.ch⟩
 intro si;have qD:=PH si;refine vY ?_;refine vY ?_;refine au (.bool false) ?_;refine au (.bool false) ?_;refine vY ?_;refine vY ?_;refine vY ?_;refine au (.bool false) ?_;refine au (.bool false) ?_;refine aW (aR (gU ?_));refine gF rfl (gb [.tmp 6] [.bool false] (.bool false) ⟨jz,trivial⟩) ?_;have ze:Sd.eV p a b=false:=by first|rfl|(simp[Sd.eV,si,qD];done)|(simp[Sd.eV,si,qD];rfl)|(simp[Sd.eV,si];simp[Sd.eV,si,qD];done)|(simp[Sd.eV,si];simp[Sd.eV,si,qD];rfl)|(simp[Sd.eV,si,qD];omega)|(unfold Sd.eV;(repeat' split)<;>first|rfl|assumption|omega|(simp_all;done)|(simp_all;omega))
 exact⟨by(rw[ze])<;>rfl,wT.ch⟩
theorem alB (p:Sd.aO) (ka:Nat->Option aQ) (kn kc:Nat->Nat) (r:Int) (X:V->Prop):∀s:Nat,s<5->dX prog [qH] 30 144 [.agg (fH p ka kn kc),.int .i64 (.ofNat s),.int .i64 r] X=cond (decide (0<=r)) (cond (decide (r<4)) (True/\X (.bool (Sd.has (p.i (9+s)) r))) (X (.bool false))) (X (.bool false))
 |0,_=>by kernel_rfl
 |1,_=>by kernel_rfl
 |2,_=>by kernel_rfl
 |3,_=>by kernel_rfl
 |4,_=>by kernel_rfl
 |n+5,h=>absurd h (by omega)
theorem abG (p:Sd.aO) (ka:Nat->Option aQ) (kn kc:Nat->Nat) (n:Nat) (r:Int) (X:V->Prop):dX prog [qH] 30 144 [.agg (fH p ka kn kc),.int .i64 (.ofNat (n+5)),.int .i64 r] X=X (.bool false)/\dX prog [qH] 30 144 [.agg (fH p ka kn kc),.int .i64 (.negSucc n),.int .i64 r] X=X (.bool false):=⟨by kernel_rfl,by kernel_rfl⟩
theorem BV {n b:Int} (h:0<=n) (h2:n<b):Sd.below n b=true:=by simp[Sd.below,h,h2]
theorem pd {n b:Int} (h:n<0\/b<=n):Sd.below n b=false:=by simp[Sd.below];omega
theorem alC (p:Sd.aO) (ka:Nat->Option aQ) (kn kc:Nat->Nat) (s:Int) (r:Int) (w:ag):
 aV prog 144 #[.agg (kK p ka kn kc),.int .i64 s,.int .i64 r] w λv w1=>v=.bool (Sd.jf p s r)/\Ch [] w w1:=by
 refine ib (se (SY _)) (n:=30) (xs:=[.agg (fH p ka kn kc),.int .i64 s,.int .i64 r]) (v:=.bool (Sd.jf p s r)) (Hd.h ?_);unfold Sd.jf;cases s with
 |ofNat n=>
  by_cases h:n<5
  ·have e:Sd.below (db n) 5=true:=BV (AL n) (by show(n:Int)<5;omega);refine⟨?_⟩;rw[alB p ka kn kc r _ n h,e];refine aM (λh=>aM (λh'=>?_) λh'=>?_) (λh=>?_)
   ·rw[BV (by simpa using h) (by simpa using h')];exact⟨trivial,rfl⟩
   ·rw[pd (b:=4) (.inr (by simpa using h'))];rfl
   ·rw[pd (b:=4) (.inl (by simpa using h))];rfl
  ·have q:=(abG p ka kn kc (n-5) r (·=.bool (Sd.below (db n) 5&&Sd.below r 4&&Sd.has (p.A9 (db n).toNat) r))).1;rw[show n-5+5=n by omega]at q;refine⟨?_⟩;rw[q,pd (.inr (by show(5:Int)<=(n:Int);omega))];rfl
 |negSucc n=>
  refine⟨?_⟩;rw[(abG p ka kn kc n r _).2,pd (.inl (Kf n))];rfl
theorem alD (p:Sd.aO) (ka:Nat->Option aQ) (kn kc:Nat->Nat) (r:Int) (X:V->Prop):∀s:Nat,s<5->dX prog [qH] 30 182 [.agg (fH p ka kn kc),.int .i64 (.ofNat s),.int .i64 r] X=cond (decide (0<=r)) (cond (decide (r<5)) (True/\X (.bool (Sd.has (p.i (34+s)) r))) (X (.bool false))) (X (.bool false))
 |0,_=>by kernel_rfl
 |1,_=>by kernel_rfl
 |2,_=>by kernel_rfl
 |3,_=>by kernel_rfl
 |4,_=>by kernel_rfl
 |n+5,h=>absurd h (by omega)
theorem abH (p:Sd.aO) (ka:Nat->Option aQ) (kn kc:Nat->Nat) (n:Nat) (r:Int) (X:V->Prop):dX prog [qH] 30 182 [.agg (fH p ka kn kc),.int .i64 (.ofNat (n+5)),.int .i64 r] X=X (.bool false)/\dX prog [qH] 30 182 [.agg (fH p ka kn kc),.int .i64 (.negSucc n),.int .i64 r] X=X (.bool false):=⟨by kernel_rfl,by kernel_rfl⟩
theorem alE (p:Sd.aO) (ka:Nat->Option aQ) (kn kc:Nat->Nat) (a:Int) (b:Int) (w:ag):
 aV prog 182 #[.agg (kK p ka kn kc),.int .i64 a,.int .i64 b] w λv w1=>v=.bool (Sd.goes p a b)/\Ch [] w w1:=by
 refine ib (se (SY _)) (n:=30) (xs:=[.agg (fH p ka kn kc),.int .i64 a,.int .i64 b]) (v:=.bool (Sd.goes p a b)) (Hd.h ?_);unfold Sd.goes;cases a with
 |ofNat n=>
  by_cases h:n<5
  ·have e:Sd.below (db n) 5=true:=BV (AL n) (by show(n:Int)<5;omega);refine⟨?_⟩;rw[alD p ka kn kc b _ n h,e];refine aM (λh=>aM (λh'=>?_) λh'=>?_) (λh=>?_)
   ·rw[BV (by simpa using h) (by simpa using h')];exact⟨trivial,rfl⟩
   ·rw[pd (b:=5) (.inr (by simpa using h'))];rfl
   ·rw[pd (b:=5) (.inl (by simpa using h))];rfl
  ·have q:=(abH p ka kn kc (n-5) b (·=.bool (Sd.below (db n) 5&&Sd.below b 5&&Sd.has (p.graph (db n).toNat) b))).1;rw[show n-5+5=n by omega]at q;refine⟨?_⟩;rw[q,pd (.inr (by show(5:Int)<=(n:Int);omega))];rfl
 |negSucc n=>
  refine⟨?_⟩;rw[(abH p ka kn kc n b _).2,pd (.inl (Kf n))];rfl
theorem alF (p:Sd.aO) (ka:Nat->Option aQ) (kn kc:Nat->Nat) (c:Int) (X:V->Prop):∀m r:Nat,m<5->r<4->dX prog [qH] 30 181 [.agg (fH p ka kn kc),.int .i64 (.ofNat m),.int .i64 (.ofNat r),.int .i64 c] X=cond (decide (0<=c)) (cond (decide (c<4)) (True/\X (.bool (Sd.has (p.i (14+4*m+r)) c))) (X (.bool false))) (X (.bool false))
 |0,0,_,_=>by kernel_rfl
 |0,1,_,_=>by kernel_rfl
 |0,2,_,_=>by kernel_rfl
 |0,3,_,_=>by kernel_rfl
 |1,0,_,_=>by kernel_rfl
 |1,1,_,_=>by kernel_rfl
 |1,2,_,_=>by kernel_rfl
 |1,3,_,_=>by kernel_rfl
 |2,0,_,_=>by kernel_rfl
 |2,1,_,_=>by kernel_rfl
 |2,2,_,_=>by kernel_rfl
 |2,3,_,_=>by kernel_rfl
 |3,0,_,_=>by kernel_rfl
 |3,1,_,_=>by kernel_rfl
 |3,2,_,_=>by kernel_rfl
 |3,3,_,_=>by kernel_rfl
 |4,0,_,_=>by kernel_rfl
 |4,1,_,_=>by kernel_rfl
 |4,2,_,_=>by kernel_rfl
 |4,3,_,_=>by kernel_rfl
 |n+5,_,h,_=>absurd h (by omega)
 |_,n+4,_,h=>absurd h (by omega)
theorem abI (p:Sd.aO) (ka:Nat->Option aQ) (kn kc:Nat->Nat) (n:Nat) (r c:Int) (X:V->Prop):dX prog [qH] 30 181 [.agg (fH p ka kn kc),.int .i64 (.ofNat (n+5)),.int .i64 r,.int .i64 c] X=X (.bool false)/\dX prog [qH] 30 181 [.agg (fH p ka kn kc),.int .i64 (.negSucc n),.int .i64 r,.int .i64 c] X=X (.bool false):=⟨by kernel_rfl,by kernel_rfl⟩
theorem abJ (p:Sd.aO) (ka:Nat->Option aQ) (kn kc:Nat->Nat) (n:Nat) (c:Int) (X:V->Prop):∀m:Nat,m<5->dX prog [qH] 30 181 [.agg (fH p ka kn kc),.int .i64 (.ofNat m),.int .i64 (.ofNat (n+4)),.int .i64 c] X=X (.bool false)/\dX prog [qH] 30 181 [.agg (fH p ka kn kc),.int .i64 (.ofNat m),.int .i64 (.negSucc n),.int .i64 c] X=X (.bool false)
 |0,_=>⟨by kernel_rfl,by kernel_rfl⟩
 |1,_=>⟨by kernel_rfl,by kernel_rfl⟩
 |2,_=>⟨by kernel_rfl,by kernel_rfl⟩
 |3,_=>⟨by kernel_rfl,by kernel_rfl⟩
 |4,_=>⟨by kernel_rfl,by kernel_rfl⟩
 |n+5,h=>absurd h (by omega)
theorem alG (p:Sd.aO) (ka:Nat->Option aQ) (kn kc:Nat->Nat) (m:Int) (r:Int) (c:Int) (w:ag):
 aV prog 181 #[.agg (kK p ka kn kc),.int .i64 m,.int .i64 r,.int .i64 c] w λv w1=>v=.bool (Sd.may p m r c)/\Ch [] w w1:=by
 refine ib (se (SY _)) (n:=30) (xs:=[.agg (fH p ka kn kc),.int .i64 m,.int .i64 r,.int .i64 c]) (v:=.bool (Sd.may p m r c)) (Hd.h ?_);unfold Sd.may;cases m with
 |ofNat n=>
  by_cases h:n<5
  ·have e:Sd.below (db n) 5=true:=BV (AL n) (by show(n:Int)<5;omega);rw[e];cases r with
   |ofNat k=>
    by_cases hk:k<4
    ·have e:Sd.below (db k) 4=true:=BV (AL k) (by show(k:Int)<4;omega);refine⟨?_⟩;rw[alF p ka kn kc c _ n k h hk,e];refine aM (λh=>aM (λh'=>?_) λh'=>?_) (λh=>?_)
     ·rw[BV (by simpa using h) (by simpa using h')];exact⟨trivial,rfl⟩
     ·rw[pd (b:=4) (.inr (by simpa using h'))];rfl
     ·rw[pd (b:=4) (.inl (by simpa using h))];rfl
    ·have q:=(abJ p ka kn kc (k-4) c (·=.bool (true&&Sd.below (db k) 4&&Sd.below c 4&&Sd.has (p.table (db n).toNat (db k).toNat) c)) n h).1;rw[show k-4+4=k by omega]at q;refine⟨?_⟩;rw[q,pd (b:=4) (.inr (by show(4:Int)<=(k:Int);omega))];rfl
   |negSucc k=>
    refine⟨?_⟩;rw[(abJ p ka kn kc k c _ n h).2,pd (b:=4) (.inl (Kf k))];rfl
  ·have q:=(abI p ka kn kc (n-5) r c (·=.bool (Sd.below (db n) 5&&Sd.below r 4&&Sd.below c 4&&Sd.has (p.table (db n).toNat r.toNat) c))).1;rw[show n-5+5=n by omega]at q;refine⟨?_⟩;rw[q,pd (b:=5) (.inr (by show(5:Int)<=(n:Int);omega))];rfl
 |negSucc n=>
  refine⟨?_⟩;rw[(abI p ka kn kc n r c _).2,pd (b:=5) (.inl (Kf n))];rfl
theorem alH (p:Sd.aO) (ka:Nat->Option aQ) (kn kc:Nat->Nat) (X:V->Prop):dX prog [] 30 30 [.agg (fH p ka kn kc)] X=X (.agg (ez (Sd.Tok.new p))):=by kernel_rfl
theorem abK (p:Sd.aO) (ka:Nat->Option aQ) (kn kc:Nat->Nat) (w:ag):
 aV prog 30 #[.agg (kK p ka kn kc)] w λv w1=>v=.agg (gZ (Sd.Tok.new p))/\Ch [] w w1:=by
 refine ib bO.nil (n:=30) (xs:=[.agg (fH p ka kn kc)]) (v:=.agg (ez (Sd.Tok.new p))) ?_;rw[alH]
def Mk (t:Sd.Tok) (f:Int) (X Y:Prop):Prop:=cond (!decide (t.offer>=0)) X (cond (t.offer !=f) X Y)
theorem S7 {t:Sd.Tok} {f:Int} {X Y:Prop} (h:t.offer<0\/t.offer≠f->X) (k:¬(t.offer<0\/t.offer≠f)->Y):Mk t f X Y:=by
 refine aM (λa=>h (.inl (by simpa using a))) (λa=>aM (λb=>h (.inr (by simpa using b))) λb=>k ?_);simp at a b;omega
def S8 (t:Sd.Tok) (o:Int) (X:V->Prop):Prop:=cond (decide (o<0)) (X (.av [.agg (ez t),.int .i64 1])) (cond (decide (o>=5)) (X (.av [.agg (ez t),.int .i64 1])) (cond (o==t.aG) (X (.av [.agg (ez t),.int .i64 25]))
 (cond (decide (t.ah>=65535)) (X (.av [.agg (ez t),.int .i64 24])) (X (.av [.agg (ez (t.pass o (i64.wrap (t.ah+1)))),.int .i64 0])))))
theorem alI (t:Sd.Tok) (f e:Int) (X:V->Prop):dX prog [] 30 199 [.agg (ez t),.int .i64 f,.int .i64 e] X=Mk t f (X (.av [.agg (ez t),.int .i64 28])) (cond (e !=t.ah) (X (.av [.agg (ez t),.int .i64 21])) (S8 t f X)):=by kernel_rfl
theorem alJ {t:Sd.Tok} (vb:-9223372036854775808<=t.ah/\t.ah<=9223372036854775807) (o:Int):S8 t o (·=.av [.agg (ez (t.dq o).1),.int .i64 (t.dq o).2]):=by
 unfold S8 Sd.Tok.dq;refine aM (λh=>by rw[if_pos (.inl (by simpa using h))]) (λh=>aM (λh'=>by rw[if_pos (.inr (by simpa using h'))]) λh'=>?_);have h1:¬(o<0\/5<=o):=by simp at h h';omega
 rw[if_neg h1];refine aM (λh=>by rw[if_pos (by simpa using h)]) (λh=>?_);rw[if_neg (by simpa using h)];refine aM (λh=>by rw[if_pos (by simpa using h)]) (λh=>?_);have h2:¬65535<=t.ah:=by simpa using h
 rw[if_neg h2,iw (by omega)]
theorem alK (t:Sd.Tok) (f:Int) (e:Int) (vb:-9223372036854775808<=t.ah/\t.ah<=9223372036854775807) (w:ag):
 aV prog 199 #[.agg (gZ t),.int .i64 f,.int .i64 e] w λv w1=>v=.tuple #[.agg (gZ ((Sd.Tok.accept t f e).1)),.int .i64 ((Sd.Tok.accept t f e).2)]/\Ch [] w w1:=by
 refine ib bO.nil (n:=30) (xs:=[.agg (ez t),.int .i64 f,.int .i64 e]) (v:=.av [.agg (ez (t.accept f e).1),.int .i64 (t.accept f e).2]) ?_;rw[alI];unfold Sd.Tok.accept;refine S7 (λh=>by rw[if_pos h]) (λh=>?_);rw[if_neg h];refine aM (λh=>by rw[if_pos (by simpa using h)]) (λh=>?_);rw[if_neg (by simpa using h)];exact alJ vb f
theorem alL (t:Sd.Tok) (f:Int) (X:V->Prop):dX prog [Mj] 30 200 [.agg (ez t),.int .i64 f] X=Mk t f (X (.av [.agg (ez t),.int .i64 28])) (True/\X (.av [.agg (ez t.iL),.int .i64 0])):=by kernel_rfl
theorem alM (t:Sd.Tok) (f:Int) (w:ag):
 aV prog 200 #[.agg (gZ t),.int .i64 f] w λv w1=>v=.tuple #[.agg (gZ ((Sd.Tok.fU t f).1)),.int .i64 ((Sd.Tok.fU t f).2)]/\Ch [] w w1:=by
 refine ib (se (abF _)) (n:=30) (xs:=[.agg (ez t),.int .i64 f]) (v:=.av [.agg (ez (t.fU f).1),.int .i64 (t.fU f).2]) ?_;rw[alL];unfold Sd.Tok.fU;exact S7 (λh=>by rw[if_pos h]) (λh=>⟨trivial,by rw[if_neg h]⟩)
theorem alN (t:Sd.Tok) (f:Int) (X:V->Prop):dX prog [Mj] 30 136 [.agg (ez t),.int .i64 f] X=Mk t f (X (.av [.agg (ez t),.bool false])) (True/\X (.av [.agg (ez t.iL),.bool true])):=by kernel_rfl
theorem alO (t:Sd.Tok) (s:Int) (w:ag):
 aV prog 136 #[.agg (gZ t),.int .i64 s] w λv w1=>v=.tuple #[.agg (gZ ((Sd.Tok.drop t s).1)),.bool ((Sd.Tok.drop t s).2)]/\Ch [] w w1:=by
 refine ib (se (abF _)) (n:=30) (xs:=[.agg (ez t),.int .i64 s]) (v:=.av [.agg (ez (t.drop s).1),.bool (t.drop s).2]) ?_;rw[alN];unfold Sd.Tok.drop;exact S7 (λh=>by rw[if_pos h]) (λh=>⟨trivial,by rw[if_neg h]⟩)
theorem alP (t:Sd.Tok) (abL:-9223372036854775808<=t.oa.n/\t.oa.n<=9223372036854775807) (abM:-9223372036854775808<=t.oa.most/\t.oa.most<=9223372036854775807) (w:ag):
 aV prog 92 #[.agg (gZ t)] w λv w1=>v=.tuple #[.agg (gZ ((Sd.Tok.tick t).1)),.int .i64 ((Sd.Tok.tick t).2)]/\Ch [] w w1:=by
 have S0:=St.nil [] w;refine jd Tryz.func92 rfl ?_;refine aS (aZ ?_);refine eZ S0 (λb=>.pointer (some ⟨b,0,none⟩)) (.cells (gZ t) 95) ?_;intro bJ iC dQ;refine eZ dQ (λb=>.pointer (some ⟨b,0,none⟩)) (.cells #[.int .i64 0,.int .i64 0,.int .i64 0,.int .i64 0,.int .i64 0,.int .i64 0,.int .i64 0,.bool false] 95) ?_;intro dD mO dg;refine au (.int .i64 0) ?_;refine aW (aR (aS (aS (aZ ?_))));refine kA dg 1 8 (gZ t) bJ 0 ?_;refine fT 137 #[.agg (gZ t)] ?_;refine(open_ t _).mono ?_;rintro _ Ea ⟨rfl,o9⟩;have jl:=dg.quiet o9;refine au (.bool (!(decide (0<=t.offer)))) ?_;refine aW (aR ?_);refine s_ (!(decide (0<=t.offer))) ?_ ?_
 ·intro lE;have kH:=PI lE;have wR:=YG kH;refine aS (aZ ?_);refine kA jl 1 8 (gZ t) bJ 0 ?_;refine store_ jl 0 (.agg (gZ t)) dD 0 ?_;intro Sn o_;refine au (.int .i64 (-1)) ?_;refine aW (aR (gU (YD ?_)));refine gF rfl (gb [.cell 2 95,.tmp 3] [.agg (gZ t),.int .i64 (-1)] (.tuple #[.agg (gZ t),.int .i64 (-1)]) ⟨ni o_ 0 8 dD 0,jz,trivial⟩) ?_;have ze:Sd.Tok.tick t=(t,(-1)):=by first|rfl|(simp[Sd.Tok.tick,lE,kH];done)|(simp[Sd.Tok.tick,lE,kH];rfl)|(simp[Sd.Tok.tick,lE,kH];simp[Sd.Tok.tick,lE,kH];done)|(simp[Sd.Tok.tick,lE,kH];simp[Sd.Tok.tick,lE,kH];rfl)|(simp[Sd.Tok.tick,lE,kH];omega)|(unfold Sd.Tok.tick;(repeat' split)<;>first|rfl|assumption|omega|(simp_all;done)|(simp_all;omega))
  exact⟨by(rw[ze])<;>rfl,o_.ch⟩
 intro lH;have ll:=PJ lH;have D_:=YF ll;refine j7 (aR (aS (aZ ?_)));refine au (.pointer (some ⟨bJ,3,none⟩)) ?_;refine kA jl 1 2 (xd t.oa) bJ 3 ?_;refine fT 138 #[.agg (xd t.oa)] ?_;refine(abB t.oa (by omega) (by omega) _).mono ?_;rintro _ BH ⟨rfl,zm⟩;have rW:=jl.quiet zm;refine au (.pointer (some ⟨bJ,3,none⟩)) ?_;refine store_ rW 1 (.agg (xd (Sd.Timer.step t.oa))) bJ 3 ?_;intro S9 u_;refine aW (aR (aS (aS (aZ ?_))));refine au (.pointer (some ⟨bJ,3,none⟩)) ?_;refine kA u_ 1 2 (xd (Sd.Timer.step t.oa)) bJ 3 ?_;refine fT 139 #[.agg (xd (Sd.Timer.step t.oa))] ?_;refine(abE (Sd.Timer.step t.oa) _).mono ?_;rintro _ aa6 ⟨rfl,tI⟩;have ou:=u_.quiet tI;refine au (.bool (!(Sd.Timer.due (Sd.Timer.step t.oa)))) ?_;refine aW (aR ?_);refine s_ (!(Sd.Timer.due (Sd.Timer.step t.oa))) ?_ ?_
 ·intro qG;have kI:=PI qG;have zr:=YG kI;refine aS (aZ ?_);refine kA ou 1 8 #[.int .i64 t.aG,.int .i64 t.ah,.int .i64 t.offer,.int .i64 (Sd.Timer.step t.oa).n,.int .i64 (Sd.Timer.step t.oa).most,.int .i64 t.la.n,.int .i64 t.la.most,.bool t.bad] bJ 0 ?_;refine store_ ou 0 (.agg #[.int .i64 t.aG,.int .i64 t.ah,.int .i64 t.offer,.int .i64 (Sd.Timer.step t.oa).n,.int .i64 (Sd.Timer.step t.oa).most,.int .i64 t.la.n,.int .i64 t.la.most,.bool t.bad]) dD 0 ?_;intro Me BU;refine au (.int .i64 (-1)) ?_;refine aW (aR (gU (YD ?_)));refine gF rfl (gb [.cell 2 95,.tmp 3] [.agg #[.int .i64 t.aG,.int .i64 t.ah,.int .i64 t.offer,.int .i64 (Sd.Timer.step t.oa).n,.int .i64 (Sd.Timer.step t.oa).most,.int .i64 t.la.n,.int .i64 t.la.most,.bool t.bad],.int .i64 (-1)] (.tuple #[.agg #[.int .i64 t.aG,.int .i64 t.ah,.int .i64 t.offer,.int .i64 (Sd.Timer.step t.oa).n,.int .i64 (Sd.Timer.step t.oa).most,.int .i64 t.la.n,.int .i64 t.la.most,.bool t.bad],.int .i64 (-1)]) ⟨ni BU 0 8 dD 0,jz,trivial⟩) ?_;have ze:Sd.Tok.tick t=((⟨t.aG,t.ah,t.offer,(Sd.Timer.step t.oa),t.la,t.bad⟩:Sd.Tok),(-1)):=by first|rfl|(simp[Sd.Tok.tick,lH,ll,qG,kI];done)|(simp[Sd.Tok.tick,lH,ll,qG,kI];rfl)|(simp[Sd.Tok.tick,lH,ll,qG,kI];simp[Sd.Tok.tick,lH,ll,qG,kI];done)|(simp[Sd.Tok.tick,lH,ll,qG,kI];simp[Sd.Tok.tick,lH,ll,qG,kI];rfl)|(simp[Sd.Tok.tick,lH,ll,qG,kI];omega)|(unfold Sd.Tok.tick;(repeat' split)<;>first|rfl|assumption|omega|(simp_all;done)|(simp_all;omega))
  exact⟨by(rw[ze])<;>rfl,BU.ch⟩
 intro u9;have sf:=PJ u9;have Mf:=YF sf;refine j7 (aR (aS ?_));have zD:=ou.Y3 0 0 8 (b:=dD) (by kernel_rfl);refine Y5 ou 5 4 0 dD 0 [] (.agg (gZ (Sd.Tok.iL (⟨t.aG,t.ah,t.offer,(Sd.Timer.step t.oa),t.la,t.bad⟩:Sd.Tok)))) [.agg #[.int .i64 t.aG,.int .i64 t.ah,.int .i64 t.offer,.int .i64 (Sd.Timer.step t.oa).n,.int .i64 (Sd.Timer.step t.oa).most,.int .i64 t.la.n,.int .i64 t.la.most,.bool t.bad],.agg (gZ (Sd.Tok.iL (⟨t.aG,t.ah,t.offer,(Sd.Timer.step t.oa),t.la,t.bad⟩:Sd.Tok))),.pointer (some ⟨bJ,2,none⟩),.int .i64 t.offer,undef] [[5,0],[5,1],[5,2],[5,3],[5,4]] (lX (F8 zD 0 bJ 0 8 #[.int .i64 t.aG,.int .i64 t.ah,.int .i64 t.offer,.int .i64 (Sd.Timer.step t.oa).n,.int .i64 (Sd.Timer.step t.oa).most,.int .i64 t.la.n,.int .i64 t.la.most,.bool t.bad]) (lX (eC_ 140 #[.agg #[.int .i64 t.aG,.int .i64 t.ah,.int .i64 t.offer,.int .i64 (Sd.Timer.step t.oa).n,.int .i64 (Sd.Timer.step t.oa).most,.int .i64 t.la.n,.int .i64 t.la.most,.bool t.bad]] (SQ (⟨t.aG,t.ah,t.offer,(Sd.Timer.step t.oa),t.la,t.bad⟩:Sd.Tok))) (lX Du (lX (Y0 zD 0 bJ 2) (lX (Y2 ou 0 (.agg (gZ (Sd.Tok.iL (⟨t.aG,t.ah,t.offer,(Sd.Timer.step t.oa),t.la,t.bad⟩:Sd.Tok)))) dD 0) (P5)))))) ?_;intro azd Md;refine au (.int .i64 t.offer) ?_;refine aW (aR (gU ?_));refine gF rfl (gb [.cell 2 95,.tmp 3] [.agg (gZ (Sd.Tok.iL (⟨t.aG,t.ah,t.offer,(Sd.Timer.step t.oa),t.la,t.bad⟩:Sd.Tok))),.int .i64 t.offer] (.tuple #[.agg (gZ (Sd.Tok.iL (⟨t.aG,t.ah,t.offer,(Sd.Timer.step t.oa),t.la,t.bad⟩:Sd.Tok))),.int .i64 t.offer]) ⟨ni Md 0 8 dD 0,jz,trivial⟩) ?_;have ze:Sd.Tok.tick t=((Sd.Tok.iL (⟨t.aG,t.ah,t.offer,(Sd.Timer.step t.oa),t.la,t.bad⟩:Sd.Tok)),t.offer):=by first|rfl|(simp[Sd.Tok.tick,lH,ll,u9,sf];done)|(simp[Sd.Tok.tick,lH,ll,u9,sf];rfl)|(simp[Sd.Tok.tick,lH,ll,u9,sf];simp[Sd.Tok.tick,lH,ll,u9,sf];done)|(simp[Sd.Tok.tick,lH,ll,u9,sf];simp[Sd.Tok.tick,lH,ll,u9,sf];rfl)|(simp[Sd.Tok.tick,lH,ll,u9,sf];omega)|(unfold Sd.Tok.tick;(repeat' split)<;>first|rfl|assumption|omega|(simp_all;done)|(simp_all;omega))
 exact⟨by(rw[ze])<;>rfl,Md.ch⟩
theorem alQ (p:Sd.aO) (ka:Nat->Option aQ) (kn kc:Nat->Nat) (t:Sd.Tok) (f o:Int) (th:Bool) (X:V->Prop):dX prog [SV] 30 198 [.agg (fH p ka kn kc),.agg (ez t),.int .i64 f,.int .i64 o,.bool th] X=
 let r:Int->Prop:=λn=>X (.av [.agg (ez t),.int .i64 n])
 cond (f !=t.aG) (r 20) (cond (decide (t.ah>=65535)) (r 24) (cond (o==f) (r 25) (cond (decide (o<1)) (r 2) (cond (decide (o>3)) (r 2) (cond (!th) (r 2) (cond (decide (t.offer>=0)) (r 28) (True/\X (.av [.agg (ez {t with offer:=o,oa:=⟨0,if 0>p.i 44 then 0 else p.i 44⟩}),.int .i64 0])))))))):=by kernel_rfl
theorem alR (p:Sd.aO) (ka:Nat->Option aQ) (kn kc:Nat->Nat) (t:Sd.Tok) (f:Int) (o:Int) (th:Bool) (hp:Sd.fk p) (w:ag):
 aV prog 198 #[.agg (kK p ka kn kc),.agg (gZ t),.int .i64 f,.int .i64 o,.bool th] w λv w1=>v=.tuple #[.agg (gZ ((Sd.Tok.make p t f o th).1)),.int .i64 ((Sd.Tok.make p t f o th).2)]/\Ch [] w w1:=by
 refine ib (se (alv _)) (n:=30) (xs:=[.agg (fH p ka kn kc),.agg (ez t),.int .i64 f,.int .i64 o,.bool th]) (v:=.av [.agg (ez (t.make p f o th).1),.int .i64 (t.make p f o th).2]) ?_;rw[alQ];unfold Sd.Tok.make;refine aM (λh=>by rw[if_pos (by simpa using h)]) (λh=>?_);rw[if_neg (by simpa using h)];refine aM (λh=>by rw[if_pos (by simpa using h)]) (λh=>?_);rw[if_neg (by simpa using h)];refine aM (λh=>by rw[if_pos (by simpa using h)]) (λh=>?_);rw[if_neg (by simpa using h)];refine aM (λh=>by rw[if_pos (.inl (by simpa using h))]) (λh1=>?_);refine aM (λh=>by rw[if_pos (.inr (.inl (by simpa using h)))]) (λh2=>?_);refine aM (λh=>by rw[if_pos (.inr (.inr (by simpa using h)))]) (λh3=>?_);rw[if_neg (by simp at h1 h2 h3;rw[h3];simp;omega)];refine aM (λh=>by rw[if_pos (by simpa using h)]) (λh=>?_);rw[if_neg (show¬0<=t.offer by simpa using h),Hx];exact⟨trivial,rfl⟩
def Ml (p:Sd.aO) (c:Nat) (n:Int):Int:=Sd.uJ n (i64.wrap (0-p.i (50+c))) (p.i (50+c))
theorem alS (p:Sd.aO) (ka:Nat->Option aQ) (kn kc:Nat->Nat) (pt:Sd.e_) (y:Sd.X4) (b:Sd.Label) (X:V->Prop):∀c:Nat,c<4->dX prog [Hy] 30 129 [.agg (fH p ka kn kc),.agg (kp pt),.int .i64 (.ofNat c),.agg (tM y),.agg (xf b)] X=(True/\True/\True/\True/\X (.agg (kp ⟨.ofNat c,y.map (Ml p c),pt.now,b⟩)))
 |0,_=>by kernel_rfl
 |1,_=>by kernel_rfl
 |2,_=>by kernel_rfl
 |3,_=>by kernel_rfl
 |n+4,h=>absurd h (by omega)
theorem abN (p:Sd.aO) (ka:Nat->Option aQ) (kn kc:Nat->Nat) (pt:Sd.e_) (y:Sd.X4) (b:Sd.Label) (n:Nat) (X:V->Prop):dX prog [Hy] 30 129 [.agg (fH p ka kn kc),.agg (kp pt),.int .i64 (.ofNat (n+4)),.agg (tM y),.agg (xf b)] X=cond (decide (db (n+4)>=4)) (X (.agg (kp ⟨.ofNat (n+4),.zero,pt.now,b⟩))) False/\
 dX prog [Hy] 30 129 [.agg (fH p ka kn kc),.agg (kp pt),.int .i64 (.negSucc n),.agg (tM y),.agg (xf b)] X=cond (decide (Int.negSucc n<0)) (X (.agg (kp ⟨.negSucc n,.zero,pt.now,b⟩))) False:=⟨by kernel_rfl,by kernel_rfl⟩
theorem alT (p:Sd.aO) (ka:Nat->Option aQ) (kn kc:Nat->Nat) (pt:Sd.e_) (c:Int) (y:Sd.X4) (b:Sd.Label) (hp:Sd.fk p) (w:ag):
 aV prog 129 #[.agg (kK p ka kn kc),.agg (Eo pt),.int .i64 c,.agg (x4C y),.agg (abu b)] w λv w1=>v=.agg (Eo (Sd.e_.set p pt c y b))/\Ch [] w w1:=by
 cases c with
 |ofNat n=>
  by_cases h:n<4
  ·refine ib (se (SX _)) (n:=30) (xs:=[.agg (fH p ka kn kc),.agg (kp pt),.int .i64 (.ofNat n),.agg (tM y),.agg (xf b)]) (v:=.agg (kp ⟨.ofNat n,y.map (Ml p n),pt.now,b⟩)) ?_ (by kernel_rfl) ?_
   ·rw[alS p ka kn kc pt y b _ n h];exact⟨trivial,trivial,trivial,trivial,rfl⟩
   ·unfold Sd.e_.set;rw[if_neg (by show¬((n:Int)<0\/4<=(n:Int));omega)];have hm:=hp.most n h;unfold Sd.aO.most at hm;have e:Ml p n=λx=>Sd.uJ x (-(p.most (db n).toNat)) (p.most (db n).toNat):=by
     funext x;unfold Ml;rw[iw (by omega),Int.zero_sub];rfl
    rw[e];rfl
  ·refine ib (se (SX _)) (n:=30) (xs:=[.agg (fH p ka kn kc),.agg (kp pt),.int .i64 (.ofNat n),.agg (tM y),.agg (xf b)]) (v:=.agg (kp ⟨.ofNat n,.zero,pt.now,b⟩)) ?_ (by kernel_rfl) ?_
   ·have q:=(abN p ka kn kc pt y b (n-4) (·=.agg (kp ⟨.ofNat n,.zero,pt.now,b⟩))).1;rw[show n-4+4=n by omega]at q;rw[q];exact aM (λ_=>rfl) λh=>absurd (of_decide_eq_false h) (by show¬¬(n:Int)>=4;omega)
   ·unfold Sd.e_.set;rw[if_pos (.inr (by show(4:Int)<=(n:Int);omega))];rfl
 |negSucc n=>
  refine ib (se (SX _)) (n:=30) (xs:=[.agg (fH p ka kn kc),.agg (kp pt),.int .i64 (.negSucc n),.agg (tM y),.agg (xf b)]) (v:=.agg (kp ⟨.negSucc n,.zero,pt.now,b⟩)) ?_ (by kernel_rfl) ?_
  ·rw[(abN p ka kn kc pt y b n _).2];exact aM (λ_=>rfl) λh=>absurd (of_decide_eq_false h) (by have:=Kf n;omega)
  ·unfold Sd.e_.set;rw[if_pos (.inl (Kf n))];rfl
theorem alU (pt:Sd.e_) (b:Sd.Label) (X:V->Prop):dX prog [] 30 134 [.agg (kp pt),.agg (xf b)] X=X (.agg (kp (pt.hold b))):=by kernel_rfl
theorem alV (pt:Sd.e_) (b:Sd.Label) (w:ag):
 aV prog 134 #[.agg (Eo pt),.agg (abu b)] w λv w1=>v=.agg (Eo (Sd.e_.hold pt b))/\Ch [] w w1:=by
 refine ib bO.nil (n:=30) (xs:=[.agg (kp pt),.agg (xf b)]) (v:=.agg (kp (pt.hold b))) ?_;rw[alU]
def Ep (a m:Int) (X:V->Prop) (Y:Prop):Prop:=cond (decide (a<i64.wrap (0-m))) (X (.bool true)) (cond (decide (a>m)) (X (.bool true)) Y)
theorem alW (m:Int) (y:Sd.X4) (X:V->Prop):dX prog [] 30 126 [.int .i64 m,.agg (tM y)] X=Ep y.a m X (Ep y.b m X (Ep y.c m X (Ep y.d m X (X (.bool false))))):=by kernel_rfl
theorem Mm {a m:Int} (hm:0<=m/\m<=1000) {b:Bool} {Y:Prop} (h:a< -m\/m<a->b=true) (k:¬(a< -m\/m<a)->Y):Ep a m (·=.bool b) Y:=by
 unfold Ep;rw[iw (by omega),Int.zero_sub];refine aM (λx=>by rw[h (.inl (by simpa using x))]) (λx=>aM (λz=>by rw[h (.inr (by simpa using z))]) λz=>k ?_);simp at x z;omega
theorem abO (m:Int) (y:Sd.X4) (hm:0<=m/\m<=1000) (w:ag):
 aV prog 126 #[.int .i64 m,.agg (x4C y)] w λv w1=>v=.bool (Sd.tj m y)/\Ch [] w w1:=by
 refine ib bO.nil (n:=30) (xs:=[.int .i64 m,.agg (tM y)]) (v:=.bool (Sd.tj m y)) ?_;rw[alW];unfold Sd.tj;refine Mm hm (λh=>by simp[h]) λh1=>Mm hm (λh=>by simp[h]) λh2=>Mm hm (λh=>by simp[h]) λh3=>Mm hm (λh=>by simp[h]) λh4=>?_;congr 1;simp;omega
theorem alX (gl:Nat->Option Nat):SW.Ok prog gl:=by
 intro args bl p_ v_ h hp ids w _ _;unfold SW at h;dsimp only at h;split at h
 ·rename_i m a b c d;simp only[aY,bC]at h;obtain⟨rfl,rfl⟩:=h;exact told (abO m ⟨a,b,c,d⟩ hp w)
 ·cases h
def smV (s:Sd.n9):List V:=.bool s.valid::(tM s.x++[.bool s.KG])
theorem alY (p:Sd.aO) (ka:Nat->Option aQ) (kn kc:Nat->Nat) (r:Int) (s:Sd.n9) (X:V->Prop):dX prog [SW] 30 80 [.agg (fH p ka kn kc),.int .i64 r,.agg (smV s)] X=
 let m:Int:=if 0>r then 0 else r
 cond (!s.valid) (X (.av [.int .i64 0,.bool false])) ((0<=p.i 47/\p.i 47<=1000)/\cond (!Sd.tj (p.i 47) s.x) (X (.av [.int .i64 0,.bool false])) (cond (decide (m<p.i 46)) (X (.av [.int .i64 (i64.wrap (m+1)),.bool (decide (i64.wrap (m+1)>=p.i 46))])) (X (.av [.int .i64 (p.i 46),.bool (decide (p.i 46>=p.i 46))])))):=by kernel_rfl
theorem alZ (p:Sd.aO) (ka:Nat->Option aQ) (kn kc:Nat->Nat) (r:Int) (s:Sd.n9) (hp:Sd.fk p) (h_r:-9223372036854775808<=r/\r<=9223372036854775807) (w:ag):
 aV prog 80 #[.agg (kK p ka kn kc),.int .i64 r,.agg (ak9 s)] w λv w1=>v=.tuple #[.int .i64 ((Sd.fg p r s).1),.bool ((Sd.fg p r s).2)]/\Ch [] w w1:=by
 refine ib (se (alX _)) (n:=30) (xs:=[.agg (fH p ka kn kc),.int .i64 r,.agg (smV s)]) (v:=.av [.int .i64 (Sd.fg p r s).1,.bool (Sd.fg p r s).2]) ?_;rw[alY];have hb:=hp.beyond;have hs:=hp.uI;unfold Sd.aO.beyond at hb;unfold Sd.aO.uI at hs;have em:(if 0>r then 0 else r)=max r 0:=by by_cases h:0>r<;>simp[h]<;>omega
 rw[em];unfold Sd.fg Sd.aO.beyond Sd.aO.uI;refine aM (λh=>by rw[if_pos (.inl (by simpa using h))]) (λh=>⟨hb,aM (λh'=>by rw[if_pos (.inr (by simpa using h'))]) λh'=>?_⟩);rw[if_neg (by simp at h h';simp[h,h'])];unfold Sd.sat;refine aM (λh=>?_) (λh=>?_)
 ·have h:max r 0<p.i 46:=by simpa using h
  rw[if_pos h,iw (by omega)]
 ·rw[if_neg (by simpa using h)]
theorem al0 (p:Sd.aO) (ka:Nat->Option aQ) (kn kc:Nat->Nat) (pt:Sd.e_) (X:V->Prop):dX prog [SU] 30 95 [.agg (fH p ka kn kc),.agg (kp pt)] X=
 let n:Sd.X4:=Sd.X4.zip (λa b=>Sd.rK a b (p.i 54)) pt.now pt.aT
 ((aB pt.now.a/\aB pt.aT.a/\aB (p.i 54))/\(aB pt.now.b/\aB pt.aT.b/\aB (p.i 54))/\(aB pt.now.c/\aB pt.aT.c/\aB (p.i 54))/\(aB pt.now.d/\aB pt.aT.d/\aB (p.i 54))/\
   cond (!(n.a==pt.now.a&&(n.b==pt.now.b&&(n.c==pt.now.c&&(n.d==pt.now.d&&true))))) (X (.agg (kp ⟨pt.cls,pt.aT,n,{pt.bx with lZ:=4}⟩))) (X (.agg (kp ⟨pt.cls,pt.aT,n,pt.bx⟩)))):=by kernel_rfl
theorem al1 (p:Sd.aO) (ka:Nat->Option aQ) (kn kc:Nat->Nat) (pt:Sd.e_) (hp:Sd.fk p) (S_:-9223372036854775808<=pt.aT.a/\pt.aT.a<=9223372036854775807) (Tb:-9223372036854775808<=pt.aT.b/\pt.aT.b<=9223372036854775807) (Tc:-9223372036854775808<=pt.aT.c/\pt.aT.c<=9223372036854775807) (Td:-9223372036854775808<=pt.aT.d/\pt.aT.d<=9223372036854775807) (Te:-9223372036854775808<=pt.now.a/\pt.now.a<=9223372036854775807) (Tf:-9223372036854775808<=pt.now.b/\pt.now.b<=9223372036854775807) (Tg:-9223372036854775808<=pt.now.c/\pt.now.c<=9223372036854775807) (Th:-9223372036854775808<=pt.now.d/\pt.now.d<=9223372036854775807) (w:ag):
 aV prog 95 #[.agg (kK p ka kn kc),.agg (Eo pt)] w λv w1=>v=.agg (Eo (Sd.e_.step p pt))/\Ch [] w w1:=by
 refine ib (se (alu _)) (n:=30) (xs:=[.agg (fH p ka kn kc),.agg (kp pt)]) (v:=.agg (kp (pt.step p))) ?_;rw[al0];have hr:=hp.Dz;unfold Sd.aO.Dz at hr;have hr:aB (p.i 54):=by unfold aB;omega
 refine⟨⟨Te,S_,hr⟩,⟨Tf,Tb,hr⟩,⟨Tg,Tc,hr⟩,⟨Th,Td,hr⟩,?_⟩;have e:Sd.e_.step p pt=⟨pt.cls,pt.aT,Sd.X4.zip (λa b=>Sd.rK a b (p.i 54)) pt.now pt.aT,if Sd.X4.zip (λa b=>Sd.rK a b (p.i 54)) pt.now pt.aT=pt.now then pt.bx else{pt.bx with lZ:=4}⟩:=rfl;rw[e];generalize Sd.X4.zip (λa b=>Sd.rK a b (p.i 54)) pt.now pt.aT=n;refine aM (λh=>?_) (λh=>?_)
 ·rw[if_neg];intro h2;rw[h2]at h;simp at h
 ·rw[if_pos];rcases n with⟨n1,n2,n3,n4⟩;rcases pt with⟨q,u,⟨m1,m2,m3,m4⟩,l⟩;simp at h;simp[h]
def zB (x:Int):Int:=bif(bits .and .u16 x 32768!=0)then bits .xor .u16 (u16.wrap (x*2^1)) 4129 else u16.wrap (x*2^1)
def xk (x:Int):Nat->Int
 |0=>x
 |k+1=>zB (xk x k)
def Er (s c:Int):Int:=xk (bits .xor .u16 s (u16.wrap (u16.wrap c*2^8))) 8
def jZ (f:Nat->Int):Nat->Int
 |0=>65535
 |k+1=>Er (jZ f k) (f k)
theorem al2 {x s:Int} {i:Int} (h:0<=i) (e:s=xk x i.toNat) (hb:(bits .and .u16 s 32768!=0)=true):bits .xor .u16 (u16.wrap (s*2^1)) 4129=xk x (i+1).toNat:=by
 have h1:(i+1).toNat=i.toNat+1:=by omega
 rw[h1];show _=zB (xk x i.toNat);rw[<-e];unfold zB;rw[hb];rfl
theorem al3 {x s:Int} {i:Int} (h:0<=i) (e:s=xk x i.toNat) (hb:(bits .and .u16 s 32768!=0)=false):u16.wrap (s*2^1)=xk x (i+1).toNat:=by
 have h1:(i+1).toNat=i.toNat+1:=by omega
 rw[h1];show _=zB (xk x i.toNat);rw[<-e];unfold zB;rw[hb];rfl
theorem al4 {f:Nat->Int} {s i:Int} (h:0<=i) (e:s=jZ f i.toNat):Er s (f i.toNat)=jZ f (i+1).toNat:=by
 have h1:(i+1).toNat=i.toNat+1:=by omega
 rw[h1,e];rfl
theorem al5 (a c:Int) (w:ag):
 aV prog 171 #[.int .u16 a,.int .u8 c] w λv w1=>v=.int .u16 (Er a c)/\Ch [] w w1:=by
 have S0:=St.nil [] w;refine jd Tryz.func171 rfl ?_;refine aS (aZ ?_);refine au (.int .u16 0) ?_;refine aW (aR (aS (aZ ?_)));refine au (.int .u16 a) ?_;refine au (.int .u8 c) ?_;refine au (.int .u16 (u16.wrap c)) ?_;refine au (.int .u16 (u16.wrap ((u16.wrap c)*2^8))) ?_;refine au (.int .u16 (bits .xor .u16 a (u16.wrap ((u16.wrap c)*2^8)))) ?_;refine gx ?_;refine aW (aR (aS (aS (aZ ?_))));refine au (.int .i64 0) ?_;refine aW (aR (jw ?_));refine Kz (λzn za zw=>∃(i:Int) (s:Int) (fQ:Nat->ae),(zn=(8-i).toNat/\0<=i/\i<=8/\s=xk (bits .xor .u16 a (u16.wrap ((u16.wrap c)*2^8))) i.toNat)/\za=⟨#[.int .u16 s,.int .u8 c,undef,undef,.int .u16 0,.int .u16 a,.int .u8 c,.int .u16 (u16.wrap c),.int .u16 (u16.wrap ((u16.wrap c)*2^8)),.int .u16 (bits .xor .u16 a (u16.wrap ((u16.wrap c)*2^8))),.int .i64 i,(fQ 11),(fQ 12),(fQ 13),(fQ 14),(fQ 15),(fQ 16),(fQ 17),(fQ 18),(fQ 19),(fQ 20),undef],[]⟩/\St [] w [] zw) _ (λzy mP=>⟨(0:Int),(bits .xor .u16 a (u16.wrap ((u16.wrap c)*2^8))),(λd=>zy.tmps.getD d undef),⟨rfl,by omega,by omega,rfl⟩,by subst mP;kernel_rfl,S0.re (R:=([]:List aj)) [] []⟩) ?_;rintro _ _ mO ⟨i,s,fQ,⟨rfl,zf2,zf3,wV⟩,rfl,dg⟩;refine aS (aZ ?_);refine au (.bool (decide (i<8))) ?_;refine aW (aR (aS ?_));refine s_ (decide (i<8)) ?_ ?_
 ·intro wW;have o9:=AV wW;refine j7 (aR (aS (jw (aS (aZ ?_)))));refine au (.int .u16 s) ?_;refine au (.int .u16 (bits .and .u16 s 32768)) ?_;refine au (.bool ((bits .and .u16 s 32768)!=0)) ?_;refine aW (aR ?_);refine s_ ((bits .and .u16 s 32768)!=0) ?_ ?_
  ·intro wY;have lE:=PG wY;refine aZ ?_;refine au (.int .u16 s) ?_;refine au (.int .u16 (u16.wrap (s*2^1))) ?_;refine au (.int .u16 (bits .xor .u16 (u16.wrap (s*2^1)) 4129)) ?_;refine gx ?_;refine aW (lS (aR (aZ ?_)));refine lA .i64 (i+1) (AO _ (by omega)) ?_;refine au (.int .i64 (i+1)) ?_;refine aW ?_;refine Gc λzy mP=>?_;exact⟨_,by omega,(i+1),(bits .xor .u16 (u16.wrap (s*2^1)) 4129),(λd=>zy.tmps.getD d undef),⟨rfl,by omega,by omega,(al2 (by omega) wV wY)⟩,by subst mP;kernel_rfl,dg.re (R:=([]:List aj)) [] []⟩
  intro kH;have wR:=PH kH;refine aZ ?_;refine au (.int .u16 s) ?_;refine au (.int .u16 (u16.wrap (s*2^1))) ?_;refine gx ?_;refine aW (lS (aR (aZ ?_)));refine lA .i64 (i+1) (AO _ (by omega)) ?_;refine au (.int .i64 (i+1)) ?_;refine aW ?_;refine Gc λzy mP=>?_;exact⟨_,by omega,(i+1),(u16.wrap (s*2^1)),(λd=>zy.tmps.getD d undef),⟨rfl,by omega,by omega,(al3 (by omega) wV kH)⟩,by subst mP;kernel_rfl,dg.re (R:=([]:List aj)) [] []⟩
 intro ny;have u5:=AW ny;refine wp_exit (lR (lR (vZ (aR (aS (aZ ?_))))));refine au (.int .u16 s) ?_;refine au (.int .u16 s) ?_;refine aW (aR (gU ?_));refine gF rfl (gb [.tmp 4] [.int .u16 s] (.int .u16 s) ⟨jz,trivial⟩) ?_;exact⟨congrArg _ (by rw[wV,show i.toNat=8 by omega];rfl),dg.ch⟩
theorem abP (b o n c:Nat) (f:Nat->Int) (hn:n<=1000000) (w:ag) (hB:cx w b o n f):
 aV prog 119 #[.slice (some ⟨b,o,none⟩) n c] w λv w1=>v=.int .u16 (jZ f n)/\Ch [] w w1:=by
 have S0:=St.nil [] w;refine jd Tryz.func119 rfl ?_;refine aS (aZ ?_);refine au (.int .u16 0) ?_;refine aW (aR (aS (aZ ?_)));refine au (.int .u16 65535) ?_;refine aW (aR (aS (aS (aZ ?_))));refine dZ ?_;refine au (.int .i64 ((n:Nat):Int)) ?_;refine au (.int .i64 0) ?_;refine aW (aR (jw ?_));refine Kz (λzn za zw=>∃(i:Int) (s:Int) (fQ:Nat->ae),(zn=(((n:Nat):Int)-i).toNat/\0<=i/\i<=((n:Nat):Int)/\s=jZ f i.toNat)/\za=⟨#[.slice (some ⟨b,o,none⟩) n c,undef,.int .u16 0,.int .u16 s,undef,(fQ 5),.slice (some ⟨b,o,none⟩) n c,.int .i64 ((n:Nat):Int),.int .i64 i,(fQ 9),(fQ 10),(fQ 11),(fQ 12),(fQ 13),(fQ 14),(fQ 15),undef],[]⟩/\St [] w [] zw) _ (λzy mP=>⟨(0:Int),(65535:Int),(λd=>zy.tmps.getD d undef),⟨rfl,by omega,by omega,rfl⟩,by subst mP;kernel_rfl,S0.re (R:=([]:List aj)) [] []⟩) ?_;rintro _ _ mO ⟨i,s,fQ,⟨rfl,zf2,zf3,wV⟩,rfl,dg⟩;refine aS (aZ ?_);refine au (.bool (decide (i<((n:Nat):Int)))) ?_;refine aW (aR (aS ?_));refine s_ (decide (i<((n:Nat):Int))) ?_ ?_
 ·intro wW;have o9:=AV wW;refine j7 (aR (aS (jw (aS (aZ ?_)))));refine rG (e:=5) b o (i).toNat n 1 c .i64 i (by omega) (by omega) (by omega) ?_;refine uH b o n (o+(i).toNat*1) (i).toNat f (St.lY dg hB (by simp)) (by omega) (by omega) ?_;refine au (.int .u8 (f (i).toNat)) ?_;refine aW (aR (aZ ?_));refine au (.int .u16 s) ?_;refine au (.int .u8 (f (i).toNat)) ?_;refine fT 171 #[.int .u16 s,.int .u8 (f (i).toNat)] ?_;refine(al5 s (f (i).toNat) _).mono ?_;rintro _ zw9 ⟨rfl,lE⟩;have zo:=dg.quiet lE;refine gx ?_;refine aW (lS (aR (aZ ?_)));refine lA .i64 (i+1) (AO _ (by omega)) ?_;refine au (.int .i64 (i+1)) ?_;refine aW ?_;refine Gc λzy mP=>?_;exact⟨_,by omega,(i+1),(Er s (f (i).toNat)),(λd=>zy.tmps.getD d undef),⟨rfl,by omega,by omega,al4 (by omega) wV⟩,by subst mP;kernel_rfl,zo.re (R:=([]:List aj)) [] []⟩
 intro wR;have ny:=AW wR;refine wp_exit (lR (lR (vZ (aR (aS (aZ ?_))))));refine au (.int .u16 s) ?_;refine au (.int .u16 s) ?_;refine aW (aR (gU ?_));refine gF rfl (gb [.tmp 2] [.int .u16 s] (.int .u16 s) ⟨jz,trivial⟩) ?_;exact⟨congrArg _ (by rw[wV,show i.toNat=n by omega]),dg.ch⟩
def ov (n:Nat) (f:Nat->Int):Nat->Int:=cA (3+n) (cA 3 (dm [165,1,n]) f) (dm [u8.wrap (jx (jZ (A7 (cA 3 (dm [165,1,n]) f) 1) (3+n-1)) (2^8)),u8.wrap (jZ (A7 (cA 3 (dm [165,1,n]) f) 1) (3+n-1))])
def Hz:dc CG:=λargs bl ch K=>match args,Ed ch with
 |[.raw (.slice (some ⟨b,o,none⟩) m c)],some (l,r)=>(b=r.b/\o+m<=r.n/\m<=1000000)/\K (.int .u16 (jZ (w5 o r.f) m)) bl ch
 |_,_=>False
theorem al6 {gl:Nat->Option Nat}:Sound prog gl 119 Hz:=by
 intro args ids bl ch R ms w0 w K hg hl S hc;unfold Hz at hc;split at hc
 ·rename_i b o m c l r Hg;obtain⟨⟨rfl,h1,h2⟩,hK⟩:=hc;obtain rfl:=LW Hg;refine(abP r.b o m c (w5 o r.f) h2 w (abo (Hk S) h1)).mono ?_;rintro v w' ⟨rfl,cB⟩;exact⟨.int .u16 (jZ (w5 o r.f) m),[],bl,_,rfl,by simpa using hl,by simpa using S.quiet cB,hK⟩
 ·exact hc.elim
theorem al7:ia Hz:=by
 intro args bl ch K hc;unfold Hz at hc⊢;split at hc
 ·exact⟨hc.1,hc.2,[],by simp⟩
 ·exact hc.elim
def Ti:List (bR CG):=[⟨119,true,Hz⟩]
def fpX (u:ag) (b o n:Nat) (K:VK CG):Prop:=
 let cp:=i64.wrap (i64.wrap (3+(n:Int))+2)
 let l1:=[165,1,u8.wrap (n:Int)]
 let F1:=cA 0 (λ_=>0) (dm l1)
 let N:=0+(2+1)+n
 cond (decide ((n:Int)>32)) (K (.av [.raw (.slice none 0 0),.int .i64 1]) [] [.a_ u])
  ((1<=cp/\cp<=1000000)/\∀b0:Nat,0+(2+1)<=l1.length/\(b0=b0/\0=0/\cp.toNat=cp.toNat/\0<=cp.toNat/\0+(2+1)<=1000000/\0<0+(2+1))/\∀b1 c1:Nat,0+(2+1)<=c1->∃f,cx u b o n f/\
    let F2:=cA (0+(2+1)) F1 f
    (b1=b1/\0+(2+1)=0+(2+1)/\c1=c1/\0+(2+1)<=c1/\N<=1000000/\0<N)/\∀b2 c2:Nat,N<=c2->(1<N/\N<=c2)/\(b2=b2/\0+1+(N-1)<=N/\N-1<=1000000)/\
     let s:=jZ (w5 (0+1) F2) (N-1)
     let l2:=[u8.wrap (jx s (2^8)),u8.wrap s]
     0+(1+1)<=l2.length/\(b2=b2/\N=N/\c2=c2/\N<=c2/\N+(1+1)<=1000000/\0<N+(1+1))/\∀b3 c3:Nat,N+(1+1)<=c3->
      K (.av [.raw (.slice (some ⟨b3,0,none⟩) (N+(1+1)) c3),.int .i64 0]) [] [.a_ u,.row ⟨N+(1+1),cA N F2 (dm l2),b3,c3⟩])
theorem al8 (u:ag) (b o n c:Nat) (K:VK CG):nz Ti 191 [.raw (.slice (some ⟨b,o,none⟩) n c)] [] [.a_ u] (bA 0 K)=fpX u b o n K:=by kernel_rfl
theorem al9 (b o n c:Nat) (f:Nat->Int) (hn:n<=32) (w:ag) (hB:cx w b o n f):
 aV prog 191 #[.slice (some ⟨b,o,none⟩) n c] w λv w1=>∃b c1,v=.tuple #[.slice (some ⟨b,0,none⟩) (n+5) c1,.int .i64 0]/\n+5<=c1/\w.heap.size<=b/\w1.heap[b]?=some (.cells (bI (n+5) (ov n f) c1) 5 (0,0))/\Ch [] w w1:=by
 have hL:aI prog de Ti:=aI.cons ⟨al6,λ_=>al7⟩ aI.nil;have e1:i64.wrap (i64.wrap (3+(n:Int))+2)=((n+5:Nat):Int):=by simp[yr,uz,uA];omega
 have e2:u8.wrap (n:Int)=n:=by simp[yr,uz,uA];omega
 have h:nz Ti 191 [.raw (.slice (some ⟨b,o,none⟩) n c)] [] [.a_ w] (bA 0 λv bl ch=>bl=[]/\∃b3 c3,n+5<=c3/\v=.av [.raw (.slice (some ⟨b3,0,none⟩) (n+5) c3),.int .i64 0]/\ch=[.a_ w,.row ⟨n+5,ov n f,b3,c3⟩]):=by
  rw[al8];unfold fpX;dsimp only;rw[e1,e2,Int.toNat_natCast];refine aM (λh=>absurd (of_decide_eq_true h) (by omega)) λ_=>⟨⟨by omega,by omega⟩,λb0=>⟨dH 3,⟨rfl,rfl,rfl,by omega,by omega,by omega⟩,λb1 c1 h1=>⟨f,hB,⟨rfl,rfl,rfl,h1,by omega,by omega⟩,λb2 c2 h2=>⟨⟨by omega,h2⟩,⟨rfl,by omega,by omega⟩,dH 2,⟨rfl,rfl,rfl,h2,by omega,by omega⟩,λb3 c3 h3=>⟨rfl,b3,c3,by omega,?_,?_⟩⟩⟩⟩⟩
  ·rw[show 0+(2+1)+n+(1+1)=n+5 by omega]
  ·rw[show 0+(2+1)+n+(1+1)=n+5 by omega,show 0+(2+1)+n=3+n by omega,BK 0];rfl
 refine(zx hL h).mono ?_;rintro v w' ⟨x,ids,bl,ch,rfl,hl,S,rfl,b3,c3,hc,rfl,rfl⟩;exact⟨b3,c3,rfl,hc,Sl (l:=[.a_ w]) S,Hk (l:=[.a_ w]) S,S.ch⟩
def lI (r:Sd.Rec):Nat->Int:=(dC (dC (dC (dC (dC (dC (λ_=>0) 0 1 (aN 1 ((u64.wrap r.kind)%256))) 1 1 (aN 1 ((u64.wrap r.source)%256))) 2 4 (aN 4 ((u64.wrap r.seq)%4294967296))) 6 2 (aN 2 ((u64.wrap r.ah)%65536))) 8 1 (aN 1 ((u64.wrap r.code)%256))) 9 1 (aN 1 ((u64.wrap r.how)%256)))
def xm (h:Nat->Int) (r:Sd.Rec):Nat->Int:=ji (32+10) (cA 32 h (lI r))
def HA {G:Type}:(bh->V)->Op->List VB->List G->VK G->Prop:=λe op bl ch K=>match op with
 |.call c=>(match c.callee,c.args.toList,c.argTypes.toList with
  |.builtin .copy,[s,xs],[t,tx]=>(match prog.underlying t,e s,e xs with
   |some (.slice 5),.sl i o n c,.sl j 0 m c2=>(match bl[i]?,bl[j]?with
    |some ⟨true,⟨T,(0,0)⟩,l⟩,some ⟨_,⟨_,(0,0)⟩,l2⟩=>(match kJ l,kJ l2 with
     |some r,some r2=>cond (az r2.length m&&(az m n&&bG (o+m) r.length)) (K (.int .i64 (m:Int)) (bl.set i ⟨true,⟨T,(0,0)⟩,l.take o++(l2++l.drop (o+m))⟩) ch) False
     |_,_=>False)
    |_,_=>False)
   |_,_,_=>False)
  |_,_,_=>False)
 |_=>False
theorem Tj (ids:List Nat):∀{l:List V} {r:List Int},kJ l=some r->l=r.map (V.int .u8)/\ai ids l=r.map (eA .u8)
 |[],r,h=>by cases h;exact⟨rfl,rfl⟩
 |v::l,r,h=>by
  unfold kJ at h;split at h
  ·rename_i e;cases e
  ·rename_i x l' e;obtain⟨rfl,rfl⟩:=vT e;split at h
   ·rename_i r' hr;cases h;obtain⟨h1,h2⟩:=Tj ids hr;exact⟨by rw[h1];rfl,by simp only[ai,cl,den,h2,eF,AM]⟩
   ·cases h
  ·cases h
theorem Tk {G:Type} [Bl G] {gl:Nat->Option Nat}:gv (G:=G) prog gl HA:=by
 intro e op ids bl ch R ms w0 w K ρ o hg hl S ba ho h;unfold HA at h;split at h
 ·rename_i c;split at h
  ·rename_i s xs t tx fl cV ei;split at h
   ·rename_i i oo n cc j m c2 hu gV gn;split at h
    ·rename_i T l wr T2 l2 hb jD;split at h
     ·rename_i r r2 hr yJ;cases hq:az r2.length m&&(az m n&&bG (oo+m) r.length)with
      |false=>rw[hq]at h;exact h.elim
      |true=>
       rw[hq]at h;simp only[bu]at hq;obtain rfl:=cz hq.1;obtain rfl:=cz hq.2.1;have hle:=dJ hq.2.2;obtain⟨oe,ar,iO⟩:=c;simp only at fl cV ei;have e2:ar=#[s,xs]:=by rw[<-cV]
       have e3:iO=#[t,tx]:=by rw[<-ei]
       subst fl e2 e3;obtain⟨q1,q2⟩:=Tj ids hr;obtain⟨q3,q4⟩:=Tj ids yJ;have aP:=(fV hl S hb).2;have oX:=(fV hl S jD).2;have hj:=(fV hl S hb).1;have bQ:=run_copy_row (P:=prog) w t tx o.type 5 (ids.getD i 0) oo r2.length cc ⟨ids.getD j 0,0,none⟩ r2.length c2 (ai ids l).toArray T (ai ids l2) hu (by kernel_rfl) aP (by rw[q4];simp) (λk v hk=>by
        rw[iS,cell_of oX];simpa using hk) (by rw[q4,q2];simpa using hle) (λv hv=>by
        rw[q4]at hv;obtain⟨x,_,rfl⟩:=lP.1 hv;rfl)
       have hex:=KC (P:=prog) (ρ:=ρ) (o:=o) ho (sv:=.slice (some ⟨ids.getD i 0,oo,none⟩) r2.length cc) (xv:=.slice (some ⟨ids.getD j 0,0,none⟩) r2.length c2) (by rw[ba,gV];rfl) (by rw[ba,gn];rfl) bQ;have hlen:(ai ids l2).length=r2.length:=by rw[q4];simp
       rw[hlen]at hex;refine⟨.int .i64 (r2.length:Int),[],_,_,_,.inl hex,by simpa using hl,?_,h⟩;simp only[cH];have fw:=S.step hj rfl (Ch.setRow w _ _) (setRow_heap w (ids.getD i 0) (ai ids l).toArray (((ai ids l).toArray.toList.take oo++ai ids l2++(ai ids l).toArray.toList.drop (oo+r2.length)).toArray) T (0,0) aP);have kD:i<(lits ids ids bl).length:=by rw[yR ids bl hl];rcases cZ i bl.length with h'|h';exact h';simp[h']at hb
       rw[<-yS (ids:=ids) ids bl i _ hl,<-List.set_append_left _ _ kD];have e5:(ai ids (l.take oo++(l2++l.drop (oo+r2.length)))).toArray=((ai ids l).toArray.toList.take oo++ai ids l2++(ai ids l).toArray.toList.drop (oo+r2.length)).toArray:=by
        have:∀q:List Int,ai ids (q.map (V.int .u8))=q.map (eA .u8):=λq=>by
         induction q with
         |nil=>rfl
         |cons x q ih=>simp only[eF,ai,cl,den,ih,AM]
        rw[iV,iV,q2,q4,q1,<-List.map_take,<-List.map_drop,this,this,bU,List.map_take,List.map_drop]
       simp only[aD,e5];exact fw
     ·exact h.elim
    ·exact h.elim
   ·exact h.elim
  ·exact h.elim
 ·exact h.elim
def sj (x m:Int):Int:=bits .and .u64 (u64.wrap x) m
def zC (k:Nat) (x m:Int) (X:Prop):Prop:=(0<=sj x m/\sj x m<2^(8*k))/\X
def al_ (a b c d e f:Int) (K:VK Empty):Prop:=
 zC 1 a 255 (zC 1 b 255 (zC 4 c 4294967295 (zC 2 d 65535 (zC 1 e 255 (zC 1 f 255
  (K (.agg (ints 1 (aN 1 (sj a 255))++(ints 1 (aN 1 (sj b 255))++(ints 4 (aN 4 (sj c 4294967295))++(ints 2 (aN 2 (sj d 65535))++(ints 1 (aN 1 (sj e 255))++ints 1 (aN 1 (sj f 255)))))))) [] []))))))
theorem ama (a b c d e f:Int) (K:VK Empty):br (fW prog de (Ee Empty) HA Tk) 60 105 [.agg [.int .i64 a,.int .i64 b,.int .i64 c,.int .i64 d,.int .i64 e,.int .i64 f]] [] [] (bA 0 K)=al_ a b c d e f K:=by
 kernel_rfl
theorem Es {k j:Nat} {x m d:Int} {X:Prop} (hm:m=2^j-1) (hd:d=2^j) (hj:j<64) (hk:d=2^(8*k)) (hX:X):zC k x m X:=by
 unfold zC sj;have h0:0<d:=by rw[hd];exact Int.pow_pos (by decide)
 rw[rq .u64 _ m d j hm hd hj];exact⟨⟨Int.emod_nonneg _ (by omega),hk▸Int.emod_lt_of_pos _ h0⟩,hX⟩
theorem amb (r:Sd.Rec) (w:ag):
 aV prog 105 #[.agg (recC r)] w λv w1=>v=.agg #[.int .u8 (lI r 0),.int .u8 (lI r 1),.int .u8 (lI r 2),.int .u8 (lI r 3),.int .u8 (lI r 4),.int .u8 (lI r 5),.int .u8 (lI r 6),.int .u8 (lI r 7),.int .u8 (lI r 8),.int .u8 (lI r 9)]/\Ch [] w w1:=by
 have m1:∀x,sj x 255=u64.wrap x%256:=λx=>rq .u64 _ 255 256 8 (by decide) (by decide) (by decide);have m2:∀x,sj x 65535=u64.wrap x%65536:=λx=>rq .u64 _ 65535 65536 16 (by decide) (by decide) (by decide);have m4:∀x,sj x 4294967295=u64.wrap x%4294967296:=λx=>rq .u64 _ 4294967295 4294967296 32 (by decide) (by decide) (by decide);have h:qp (br (fW prog de (Ee Empty) HA Tk) 60 105 [.agg [.int .i64 r.kind,.int .i64 r.source,.int .i64 r.seq,.int .i64 r.ah,.int .i64 r.code,.int .i64 r.how]] [] [] (bA 0 λv _ _=>v=.agg (ints 10 (lI r)))):=by
  rw[ama];constructor;refine Es (j:=8) (d:=256) rfl rfl (by decide) rfl (Es (j:=8) (d:=256) rfl rfl (by decide) rfl (Es (j:=32) (d:=4294967296) rfl rfl (by decide) rfl (Es (j:=16) (d:=65536) rfl rfl (by decide) rfl (Es (j:=8) (d:=256) rfl rfl (by decide) rfl (Es (j:=8) (d:=256) rfl rfl (by decide) rfl ?_)))));rw[m1,m1,m1,m1,m2,m4];show V.agg _=V.agg _;kernel_rfl
 refine(Sg (G:=Empty) (L:=Ee Empty) (h:=HA) (hok:=Tk) aaV h).mono ?_;rintro v w' ⟨y,ids,bl,ch,rfl,hl,S,rfl⟩;exact⟨by kernel_rfl,S.ch⟩
theorem amc (h:Nat->Int) (r:Sd.Rec) {tG:aJ} (w:ag) (hG:w.heap[1]?=some (.cells (aE .u32 64 cT) tG (0,0))):
 aV prog 66 #[.agg (aE .u8 32 h),.agg (recC r)] w λv w1=>v=.agg (aE .u8 32 (xm h r))/\Ch [] w w1:=by
 have S0:=St.given (w:=w) [(1,.cells (aE .u32 64 cT) tG (0,0))] (all_cons hG (all_nil));refine jd Tryz.func66 rfl ?_;refine aS (aZ ?_);refine eZ S0 (λb=>.pointer (some ⟨b,0,none⟩)) (.cells (aE .u8 32 h) 37) ?_;intro bJ iC dQ;refine eZ dQ (λb=>.pointer (some ⟨b,0,none⟩)) (.cells (recC r) 75) ?_;intro dD mO dg;refine eZ dg (λb=>.pointer (some ⟨b,0,none⟩)) (.cells (aE .u8 32 (λ_=>0)) 37) ?_;intro tK zw8 jl;refine aW (aR (aS (aZ ?_)));refine kA jl 1 6 (recC r) dD 0 ?_;refine fT 105 #[.agg (recC r)] ?_;refine(amb r _).mono ?_;rintro _ aje ⟨rfl,kH⟩;have qx:=jl.quiet kH;refine eZ qx (λb=>.pointer (some ⟨b,0,none⟩)) (.cells (aE .u8 10 (λ_=>0)) 202) ?_;intro Tl alz So;refine store_ So 0 (.agg (aE .u8 10 (lI r))) Tl 0 ?_;intro aaH rV;refine aW (aR (aS ?_));refine ag6 2 [.slice (some ⟨bJ,0,none⟩) 32 32,.slice (some ⟨Tl,0,none⟩) 10 10] [[2,0],[2,1],[3,2,0],[3,2,1],[3,2],[4,0],[4,1],[4,2],[4,3]] (step_cons iy (step_cons iy (A0))) ?_;intro BH Su;have qz:=rV.quiet Su;refine Zd (x0:=some ⟨bJ,0,none⟩) (T:=5) (n:=32) (c:=32) (m:=10) (f:=h) (g:=(lI r)) (xv:=.slice (some ⟨Tl,0,none⟩) 10 10) qz (eJ.Qc (St.ff (N:=32) (f:=h) (wr:=true) (t:=37) (fr:=(0,0)) qz 3) (by omega) (by omega)) (A6 (e':=5) (St.ff (N:=10) (f:=(lI r)) (wr:=true) (t:=202) (fr:=(0,0)) qz 0)) (by omega) (by omega) ?_;intro wS BI aa6 tI ou;refine fT 106 #[.slice (some ⟨wS,0,none⟩) (32+10) BI] ?_;refine(RR wS 0 (32+10) BI (cA 32 h (lI r)) (by omega) _ (ou.at_ 5 _ rfl) (St.A8 (c:=BI) (wr:=true) (t:=5) (fr:=(0,0)) ou 0)).mono ?_;rintro _ aaI ⟨rfl,kI⟩;have G9:=ou.quiet kI;refine store_ G9 2 (.agg (aE .u8 32 (ji (32+10) (cA 32 h (lI r))))) tK 0 ?_;intro Me BU;refine aW (aR (gU ?_));refine gF rfl (gb [.cell 4 37] [.agg (aE .u8 32 (ji (32+10) (cA 32 h (lI r))))] (.agg (aE .u8 32 (ji (32+10) (cA 32 h (lI r))))) ⟨ni BU 2 32 tK 0,trivial⟩) ?_;exact⟨by kernel_rfl,BU.ch⟩
def Et (N:Nat) (F:Nat->(Nat->Int)->Int->Int->(Nat->Int)->Nat->Int):dc CG:=λargs bl ch K=>match args,ch with
 |[.raw (.slice ka kn kc),.int .i64 s,.int .i64 r,.agg l],.a_ u::_=>(match kJ l with
  |some q=>∃kf nc:Nat->Int,((1<=kn/\kn<=64)/\(0<=s/\s<4294967296)/\(0<=r/\r<4294967296)/\(∃tG,u.heap[1]?=some (.cells (aE .u32 64 cT) tG (0,0)))/\eJ u ka kn kc kf/\q.length=8/\∀j,j<8->dm q j=nc j)/\K (.agg (ints N (F kn kf s r nc))) bl ch
  |none=>False)
 |_,_=>False
def HB:dc CG:=λargs bl ch K=>match args,ch with
 |[.raw (.slice ka kn kc),.int .i64 s,.int .i64 n],.a_ u::_=>∃kf:Nat->Int,((1<=kn/\kn<=64)/\(0<=s/\s<4294967296)/\(0<=n/\n<4294967296)/\(∃tG,u.heap[1]?=some (.cells (aE .u32 64 cT) tG (0,0)))/\eJ u ka kn kc kf)/\K (.agg (ints 8 (jE kn kf s n))) bl ch
 |_,_=>False
def HC:dc CG:=λargs bl ch K=>match args with
 |[.sl i 0 n c,.sl j 0 m c2]=>(match bl[i]?,bl[j]?with
  |some ⟨_,⟨_,(0,0)⟩,l⟩,some ⟨_,⟨_,(0,0)⟩,l2⟩=>(match kJ l,kJ l2 with
   |some q,some q2=>∃f g:Nat->Int,(q.length=n/\q2.length=n/\m=n/\n<=1000000/\(∀j,j<n->dm q j=f j)/\∀j,j<n->dm q2 j=g j)/\K (.bool (o8 n f g)) bl ch
   |_,_=>False)
  |_,_=>False)
 |_=>False
def mR (m:Int) (b:Bool) (nc:Nat->Int):List V:=.int .i64 m::.bool b::ints 8 nc
def zE:List (bR CG):=[⟨15,true,HB⟩,⟨16,true,Et 8 lh⟩,⟨37,true,Et 32 jm⟩,⟨192,true,HC⟩]
theorem amd {ids:List Nat} {l:List V} {q:List Int} {m:Nat} {g:Nat->Int} (h:kJ l=some q) (hq:q.length=m) (hg:∀j,j<m->dm q j=g j):den ids (.agg l)=.agg (aE .u8 m g):=by
 simp only[den,wZ ids h,hq];rw[Gf hg];rfl
theorem abQ {ids:List Nat} {bl:List VB} {u w w0:ag} {rest:List CG} {R:List aj} {ms:List Nat} (S:St ms w0 (lits ids ids bl++aC (CG.a_ u::rest) R) w) {a:Option aQ} {n c:Nat} {f:Nat->Int} (h:eJ u a n c f):eJ w a n c f:=by
 refine⟨h.1,h.2.1,h.2.2.1,λx e j hj=>?_⟩;have h1:=h.2.2.2 x e j hj;unfold yq at h1⊢;cases hh:u.heap[(x.add j).block]?with
 |none=>simp[hh]at h1
 |some ob=>
  have:w.heap[(x.add j).block]?=some ob:=S.at' (x:=⟨(x.add j).block,false,ob⟩) (Hv (LV hh));simp only[hh,this]at h1⊢;exact h1
theorem abR {gl:Nat->Option Nat} {N:Nat} {F:Nat->(Nat->Int)->Int->Int->(Nat->Int)->Nat->Int} {f:fL} (hF:∀(ka:Option aQ) (kn kc:Nat) (kf:Nat->Int) (s r:Int) (nc:Nat->Int),1<=kn/\kn<=64->0<=s/\s<4294967296->0<=r/\r<4294967296->∀{tG:aJ} (w:ag),w.heap[1]?=some (.cells (aE .u32 64 cT) tG (0,0))->eJ w ka kn kc kf->
 aV prog f #[.slice ka kn kc,.int .i64 s,.int .i64 r,.agg (aE .u8 8 nc)] w λv w1=>v=.agg (aE .u8 N (F kn kf s r nc))/\Ch [] w w1):Sound prog gl f (Et N F):=by
 intro args ids bl ch R ms w0 w K hg hl S hc;unfold Et at hc;split at hc
 ·rename_i ka kn kc s r l u rest;split at hc
  ·rename_i q hq;obtain⟨kf,nc,⟨hn,hs,hr,⟨tG,hG⟩,hk,h8,jV⟩,hK⟩:=hc;have ea:(aH ids [.raw (.slice ka kn kc),.int .i64 s,.int .i64 r,.agg l]).toArray=#[.slice ka kn kc,.int .i64 s,.int .i64 r,.agg (aE .u8 8 nc)]:=by
    simp only[aH,amd hq h8 jV];rfl
   rw[ea];refine(hF ka kn kc kf s r nc hn hs hr w (SO S hG) (abQ S hk)).mono ?_;rintro v w' ⟨rfl,cB⟩;exact⟨.agg (ints N (F kn kf s r nc)),[],bl,_,by simp only[den,zq],by simpa using hl,by simpa using S.quiet cB,hK⟩
  ·exact hc.elim
 ·exact hc.elim
theorem abS {N:Nat} {F:Nat->(Nat->Int)->Int->Int->(Nat->Int)->Nat->Int}:ia (Et N F):=by
 intro args bl ch K hc;unfold Et at hc⊢;split at hc
 ·split at hc
  ·obtain⟨kf,nc,h,hK⟩:=hc;exact⟨kf,nc,h,hK,[],by simp⟩
  ·exact hc.elim
 ·exact hc.elim
theorem ame {gl:Nat->Option Nat}:Sound prog gl 15 HB:=by
 intro args ids bl ch R ms w0 w K hg hl S hc;unfold HB at hc;split at hc
 ·rename_i ka kn kc s n u rest;obtain⟨kf,⟨hn,hs,hr,⟨tG,hG⟩,hk⟩,hK⟩:=hc;refine(ajv ka kn kc kf s n hn hs hr w (SO S hG) (abQ S hk)).mono ?_;rintro v w' ⟨rfl,cB⟩;exact⟨.agg (ints 8 (jE kn kf s n)),[],bl,_,by simp only[den,zq],by simpa using hl,by simpa using S.quiet cB,hK⟩
 ·exact hc.elim
theorem amf:ia HB:=by
 intro args bl ch K hc;unfold HB at hc⊢;split at hc
 ·obtain⟨kf,h,hK⟩:=hc;exact⟨kf,h,hK,[],by simp⟩
 ·exact hc.elim
theorem abT {ids:List Nat} {bl:List VB} {X:List aj} {ms:List Nat} {w0 w:ag} (hl:ids.length=bl.length) (S:St ms w0 (lits ids ids bl++X) w) {i n:Nat} {b:VB} {q:List Int} {f:Nat->Int} (hb:bl[i]?=some b) (h:kJ b.c=some q) (hq:q.length=n) (hf:∀j,j<n->dm q j=f j):cx w (ids.getD i 0) 0 n f:=λj hj=>by
 have aP:=(fV hl S hb).2;rw[cell_of aP,wZ ids h,eY];simp only[jQ];rw[rJ _ (by omega),hf j hj]
theorem amg {gl:Nat->Option Nat}:Sound prog gl 192 HC:=by
 intro args ids bl ch R ms w0 w K hg hl S hc;unfold HC at hc;split at hc
 ·rename_i i n c j m c2;split at hc
  ·rename_i w1 t1 l w2 t2 l2 hb jD;split at hc
   ·rename_i q q2 hq HD;obtain⟨f,g,⟨e1,e2,rfl,hn,hf,HE⟩,hK⟩:=hc;refine(aaP (ids.getD i 0) 0 m c (ids.getD j 0) 0 c2 f g hn w (abT hl S hb hq e1 hf) (abT hl S jD HD e2 HE)).mono ?_;rintro v w' ⟨rfl,cB⟩;exact⟨.bool (o8 m f g),[],bl,_,rfl,by simpa using hl,by simpa using S.quiet cB,hK⟩
   ·exact hc.elim
  ·exact hc.elim
 ·exact hc.elim
theorem amh:ia HC:=by
 intro args bl ch K hc;unfold HC at hc⊢;split at hc
 ·split at hc
  ·split at hc
   ·obtain⟨f,g,h,hK⟩:=hc;rename_i e1 e2;simp only[e1,e2];exact⟨f,g,h,hK,[],by simp⟩
   ·exact hc.elim
  ·exact hc.elim
 ·exact hc.elim
theorem HF:aI prog de zE:=aI.cons ⟨ame,λ_=>amf⟩ (aI.cons ⟨abR λka kn kc kf s r nc h1 h2 h3 _ w hG hk=>aa9 ka kn kc kf s r nc h1 h2 h3 w hG hk,λ_=>abS⟩ (aI.cons ⟨abR λka kn kc kf s r nc h1 h2 h3 _ w hG hk=>aa_ ka kn kc kf s r nc h1 h2 h3 w hG hk,λ_=>abS⟩ (aI.cons ⟨amg,λ_=>amh⟩ aI.nil)))
section
variable(u:ag) (m s r:Int) (b:Bool) (nc pf:Nat->Int) (ka:Option aQ) (kn kc:Nat) (K:VK CG)
def dhX:Prop:=
 let m1:=i64.wrap (m+1)
 cond (decide (m>=4294967295)) (K (.av [.agg (mR m b nc),.int .i64 24]) [] [.a_ u]) (∃kf:Nat->Int,((1<=kn/\kn<=64)/\(0<=s/\s<4294967296)/\(0<=m1/\m1<4294967296)/\(∃tG,u.heap[1]?=some (.cells (aE .u32 64 cT) tG (0,0)))/\eJ u ka kn kc kf)/\K (.av [.agg (mR m1 true (jE kn kf s m1)),.int .i64 0]) [] [.a_ u])
theorem abU:nz zE 146 [.agg (mR m b nc),.raw (.slice ka kn kc),.int .i64 s] [] [.a_ u] (bA 0 K)=dhX u m s b nc ka kn kc K:=by kernel_rfl
def Mn (kf n1:Nat->Int):Prop:=(1<=kn/\kn<=64)/\(0<=s/\s<4294967296)/\(0<=r/\r<4294967296)/\(∃tG,u.heap[1]?=some (.cells (aE .u32 64 cT) tG (0,0)))/\eJ u ka kn kc kf/\((bw 8).map nc).length=8/\∀j,j<8->dm ((bw 8).map nc) j=n1 j
def Mo:Prop:=
 let no (c:Int):Prop:=K (.av [.agg (mR m false λ_=>0),.agg (ints 32 λ_=>0),.int .i64 c]) [] [.a_ u]
 cond (!b) (K (.av [.agg (mR m b nc),.agg (ints 32 λ_=>0),.int .i64 17]) [] [.a_ u])
  (∃kf n1:Nat->Int,Mn u s r nc ka kn kc kf n1/\∃f g:Nat->Int,(((bw 8).map pf).length=8/\((bw 8).map (lh kn kf s r n1)).length=8/\8=8/\8<=1000000/\(∀j,j<8->dm ((bw 8).map pf) j=f j)/\∀j,j<8->dm ((bw 8).map (lh kn kf s r n1)) j=g j)/\
   cond (!(o8 8 f g)) (no 14) (∃kf2 n2:Nat->Int,Mn u s r nc ka kn kc kf2 n2/\K (.av [.agg (mR m false λ_=>0),.agg (ints 32 (jm kn kf2 s r n2)),.int .i64 0]) [] [.a_ u]))
theorem Tm:nz zE 148 [.agg (mR m b nc),.raw (.slice ka kn kc),.int .i64 s,.int .i64 r,.agg (ints 8 pf)] [] [.a_ u] (bA 0 K)=Mo u m s r b nc pf ka kn kc K:=by kernel_rfl
end
def xn (kn:Nat) (kf:Nat->Int) (s r:Int) (nc pf:Nat->Int):Bool:=o8 8 pf (lh kn kf s r nc)
theorem ami (ka:Option aQ) (kn kc:Nat) (kf:Nat->Int) (s:Int) (d:Sd.eC) (hd:4294967295<=d.many) (zF:d.many<=9223372036854775807) (w:ag):
 aV prog 146 #[.agg #[.int .i64 d.many,.bool d.iA,.int .u8 (d.aA 0),.int .u8 (d.aA 1),.int .u8 (d.aA 2),.int .u8 (d.aA 3),.int .u8 (d.aA 4),.int .u8 (d.aA 5),.int .u8 (d.aA 6),.int .u8 (d.aA 7)],.slice ka kn kc,.int .i64 s] w λv w1=>v=.tuple #[.agg #[.int .i64 d.many,.bool d.iA,.int .u8 (d.aA 0),.int .u8 (d.aA 1),.int .u8 (d.aA 2),.int .u8 (d.aA 3),.int .u8 (d.aA 4),.int .u8 (d.aA 5),.int .u8 (d.aA 6),.int .u8 (d.aA 7)],.int .i64 24]/\Ch [] w w1:=by
 have h:nz zE 146 [.agg (mR d.many d.iA d.aA),.raw (.slice ka kn kc),.int .i64 s] [] [.a_ w] (bA 0 λv _ _=>v=.av [.agg (mR d.many d.iA d.aA),.int .i64 24]):=by
  rw[abU];exact aM (λ_=>rfl) λh=>absurd (of_decide_eq_false h) (by omega)
 refine(zx HF h).mono ?_;rintro v w' ⟨x,ids,bl,ch,rfl,hl,S,rfl⟩;exact⟨by kernel_rfl,S.ch⟩
theorem amj (ka:Option aQ) (kn kc:Nat) (kf:Nat->Int) (s:Int) (d:Sd.eC) (u7:1<=kn/\kn<=64) (hs:0<=s/\s<4294967296) (hd:0<=d.many/\d.many<4294967295) {tG:aJ} (w:ag) (hG:w.heap[1]?=some (.cells (aE .u32 64 cT) tG (0,0))) (hk:eJ w ka kn kc kf):
 aV prog 146 #[.agg #[.int .i64 d.many,.bool d.iA,.int .u8 (d.aA 0),.int .u8 (d.aA 1),.int .u8 (d.aA 2),.int .u8 (d.aA 3),.int .u8 (d.aA 4),.int .u8 (d.aA 5),.int .u8 (d.aA 6),.int .u8 (d.aA 7)],.slice ka kn kc,.int .i64 s] w λv w1=>v=.tuple #[.agg #[.int .i64 (d.many+1),.bool true,.int .u8 ((jE kn kf s (d.many+1)) 0),.int .u8 ((jE kn kf s (d.many+1)) 1),.int .u8 ((jE kn kf s (d.many+1)) 2),.int .u8 ((jE kn kf s (d.many+1)) 3),.int .u8 ((jE kn kf s (d.many+1)) 4),.int .u8 ((jE kn kf s (d.many+1)) 5),.int .u8 ((jE kn kf s (d.many+1)) 6),.int .u8 ((jE kn kf s (d.many+1)) 7)],.int .i64 0]/\Ch [] w w1:=by
 have e:i64.wrap (d.many+1)=d.many+1:=by simp[yr,uz,uA];omega
 have h:nz zE 146 [.agg (mR d.many d.iA d.aA),.raw (.slice ka kn kc),.int .i64 s] [] [.a_ w] (bA 0 λv _ _=>v=.av [.agg (mR (d.many+1) true (jE kn kf s (d.many+1))),.int .i64 0]):=by
  rw[abU];unfold dhX;dsimp only;rw[e];exact aM (λh=>absurd (of_decide_eq_true h) (by omega)) λ_=>⟨kf,⟨u7,hs,by omega,⟨tG,hG⟩,hk⟩,rfl⟩
 refine(zx HF h).mono ?_;rintro v w' ⟨x,ids,bl,ch,rfl,hl,S,rfl⟩;exact⟨by kernel_rfl,S.ch⟩
theorem amk (ka:Option aQ) (kn kc:Nat) (kf:Nat->Int) (s r:Int) (d:Sd.eC) (pf:Nat->Int) (ho:d.iA=false) (w:ag):
 aV prog 148 #[.agg #[.int .i64 d.many,.bool d.iA,.int .u8 (d.aA 0),.int .u8 (d.aA 1),.int .u8 (d.aA 2),.int .u8 (d.aA 3),.int .u8 (d.aA 4),.int .u8 (d.aA 5),.int .u8 (d.aA 6),.int .u8 (d.aA 7)],.slice ka kn kc,.int .i64 s,.int .i64 r,.agg (aE .u8 8 pf)] w λv w1=>v=.tuple #[.agg #[.int .i64 d.many,.bool d.iA,.int .u8 (d.aA 0),.int .u8 (d.aA 1),.int .u8 (d.aA 2),.int .u8 (d.aA 3),.int .u8 (d.aA 4),.int .u8 (d.aA 5),.int .u8 (d.aA 6),.int .u8 (d.aA 7)],.agg (aE .u8 32 (λ_=>0)),.int .i64 17]/\Ch [] w w1:=by
 have h:nz zE 148 [.agg (mR d.many d.iA d.aA),.raw (.slice ka kn kc),.int .i64 s,.int .i64 r,.agg (ints 8 pf)] [] [.a_ w] (bA 0 λv _ _=>v=.av [.agg (mR d.many d.iA d.aA),.agg (ints 32 λ_=>0),.int .i64 17]):=by
  rw[Tm];unfold Mo;dsimp only;exact aM (λ_=>rfl) λh=>by rw[ho]at h;cases h
 refine(zx HF h).mono ?_;rintro v w' ⟨x,ids,bl,ch,rfl,hl,S,rfl⟩;exact⟨by kernel_rfl,S.ch⟩
theorem aml (ka:Option aQ) (kn kc:Nat) (kf:Nat->Int) (s r:Int) (d:Sd.eC) (pf:Nat->Int) (u7:1<=kn/\kn<=64) (hs:0<=s/\s<4294967296) (BW:0<=r/\r<4294967296) (ho:d.iA=true) (hr:xn kn kf s r d.aA pf=false) {tG:aJ} (w:ag) (hG:w.heap[1]?=some (.cells (aE .u32 64 cT) tG (0,0))) (hk:eJ w ka kn kc kf):
 aV prog 148 #[.agg #[.int .i64 d.many,.bool d.iA,.int .u8 (d.aA 0),.int .u8 (d.aA 1),.int .u8 (d.aA 2),.int .u8 (d.aA 3),.int .u8 (d.aA 4),.int .u8 (d.aA 5),.int .u8 (d.aA 6),.int .u8 (d.aA 7)],.slice ka kn kc,.int .i64 s,.int .i64 r,.agg (aE .u8 8 pf)] w λv w1=>v=.tuple #[.agg #[.int .i64 d.many,.bool false,.int .u8 0,.int .u8 0,.int .u8 0,.int .u8 0,.int .u8 0,.int .u8 0,.int .u8 0,.int .u8 0],.agg (aE .u8 32 (λ_=>0)),.int .i64 14]/\Ch [] w w1:=by
 have h:nz zE 148 [.agg (mR d.many d.iA d.aA),.raw (.slice ka kn kc),.int .i64 s,.int .i64 r,.agg (ints 8 pf)] [] [.a_ w] (bA 0 λv _ _=>v=.av [.agg (mR d.many false λ_=>0),.agg (ints 32 λ_=>0),.int .i64 14]):=by
  rw[Tm];unfold Mo;dsimp only;have hp:=(⟨u7,hs,BW,⟨tG,hG⟩,hk,by simp,λj hj=>zA hj⟩:Mn w s r d.aA ka kn kc kf d.aA);exact aM (λh=>by rw[ho]at h;cases h) λ_=>⟨kf,d.aA,hp,⟨pf,lh kn kf s r d.aA,⟨by simp,by simp,rfl,by decide,λj hj=>zA hj,λj hj=>zA hj⟩,aM (λ_=>rfl) λh=>by rw[show o8 8 pf (lh kn kf s r d.aA)=false from hr]at h;cases h⟩⟩
 refine(zx HF h).mono ?_;rintro v w' ⟨x,ids,bl,ch,rfl,hl,S,rfl⟩;exact⟨by kernel_rfl,S.ch⟩
theorem amm (ka:Option aQ) (kn kc:Nat) (kf:Nat->Int) (s r:Int) (d:Sd.eC) (pf:Nat->Int) (u7:1<=kn/\kn<=64) (hs:0<=s/\s<4294967296) (BW:0<=r/\r<4294967296) (ho:d.iA=true) (hr:xn kn kf s r d.aA pf=true) {tG:aJ} (w:ag) (hG:w.heap[1]?=some (.cells (aE .u32 64 cT) tG (0,0))) (hk:eJ w ka kn kc kf):
 aV prog 148 #[.agg #[.int .i64 d.many,.bool d.iA,.int .u8 (d.aA 0),.int .u8 (d.aA 1),.int .u8 (d.aA 2),.int .u8 (d.aA 3),.int .u8 (d.aA 4),.int .u8 (d.aA 5),.int .u8 (d.aA 6),.int .u8 (d.aA 7)],.slice ka kn kc,.int .i64 s,.int .i64 r,.agg (aE .u8 8 pf)] w λv w1=>v=.tuple #[.agg #[.int .i64 d.many,.bool false,.int .u8 0,.int .u8 0,.int .u8 0,.int .u8 0,.int .u8 0,.int .u8 0,.int .u8 0,.int .u8 0],.agg (aE .u8 32 (jm kn kf s r d.aA)),.int .i64 0]/\Ch [] w w1:=by
 have h:nz zE 148 [.agg (mR d.many d.iA d.aA),.raw (.slice ka kn kc),.int .i64 s,.int .i64 r,.agg (ints 8 pf)] [] [.a_ w] (bA 0 λv _ _=>v=.av [.agg (mR d.many false λ_=>0),.agg (ints 32 (jm kn kf s r d.aA)),.int .i64 0]):=by
  rw[Tm];unfold Mo;dsimp only;have hp:=(⟨u7,hs,BW,⟨tG,hG⟩,hk,by simp,λj hj=>zA hj⟩:Mn w s r d.aA ka kn kc kf d.aA);exact aM (λh=>by rw[ho]at h;cases h) λ_=>⟨kf,d.aA,hp,⟨pf,lh kn kf s r d.aA,⟨by simp,by simp,rfl,by decide,λj hj=>zA hj,λj hj=>zA hj⟩,aM (λh=>by rw[show o8 8 pf (lh kn kf s r d.aA)=true from hr]at h;cases h) λ_=>⟨kf,d.aA,hp,rfl⟩⟩⟩
 refine(zx HF h).mono ?_;rintro v w' ⟨x,ids,bl,ch,rfl,hl,S,rfl⟩;exact⟨by kernel_rfl,S.ch⟩
def ee (z:Sd.gW) (n:Int):Sd.gW:=
 if z.any=false then⟨true,n,1⟩
 else if z.high<n then⟨true,n,bits .or .u64 (u64.wrap (z.seen*2^(min (n-z.high).toNat 64))) 1⟩
 else if z.high-n<64 then⟨true,z.high,bits .or .u64 z.seen (u64.wrap ((1:Int)*2^(min (z.high-n).toNat 64)))⟩
 else z
def HG (x y:Sd.gW):Bool:=!((x.any==y.any)&&((x.high==y.high)&&((x.seen==y.seen)&&true)))
theorem abV (x y:Sd.gW):HG x y=false↔x=y:=by
 obtain⟨a,b,c⟩:=x;obtain⟨d,e,f⟩:=y;simp[HG]
theorem amn (z:Sd.gW) (n:Int) (h0:0<=z.high/\z.high<=4294967295) (h1:0<=n/\n<=4294967295) (w:ag):
 aV prog 194 #[.agg (jn z),.int .i64 n] w λv w1=>v=.agg (jn (ee z n))/\Ch [] w w1:=by
 have S0:=St.nil [] w;refine jd Tryz.func194 rfl ?_;refine aS (aZ ?_);refine eZ S0 (λb=>.pointer (some ⟨b,0,none⟩)) (.cells (jn z) 152) ?_;intro bJ iC dQ;refine eZ dQ (λb=>.pointer (some ⟨b,0,none⟩)) (.cells #[.bool false,.int .i64 0,.int .u64 0] 152) ?_;intro dD mO dg;refine aW (aR (aS (jw (aS (aZ ?_)))));refine au (.int .i64 n) ?_;refine oR (.bool (decide (n<0))) (.bool false) (congrArg Dc (PF (by omega))) ?_;refine au (.bool false) ?_;refine au (.int .i64 n) ?_;refine oR (.bool (decide (4294967295<n))) (.bool false) (congrArg Dc (PF (by omega))) ?_;refine au (.bool false) ?_;refine au (.bool false) ?_;refine aW (aR (pQ ?_));refine aS (aZ ?_);refine au (.pointer (some ⟨bJ,0,none⟩)) ?_;refine pP dg 1 (.bool z.any) bJ 0 ?_;refine au (.bool (!z.any)) ?_;refine au (.bool (!z.any)) ?_;refine aW (aR ?_);refine s_ (!z.any) ?_ ?_
 ·intro wW;have o9:=PI wW;refine aZ ?_;refine au (.int .i64 n) ?_;refine au (.agg #[.bool true,.int .i64 n,.int .u64 1]) ?_;refine store_ dg 1 (.agg #[.bool true,.int .i64 n,.int .u64 1]) bJ 0 ?_;intro zw9 Eh;refine aW (lS (aR (aS (aZ ?_))));refine kA Eh 1 3 #[.bool true,.int .i64 n,.int .u64 1] bJ 0 ?_;refine store_ Eh 0 (.agg #[.bool true,.int .i64 n,.int .u64 1]) dD 0 ?_;intro aaE qx;refine aW (aR (gU ?_));refine gF rfl (gb [.cell 4 152] [.agg #[.bool true,.int .i64 n,.int .u64 1]] (.agg #[.bool true,.int .i64 n,.int .u64 1]) ⟨ni qx 0 3 dD 0,trivial⟩) ?_;have ze:ee z n=(⟨true,n,1⟩:Sd.gW):=by unfold ee;(repeat' split)<;>first|rfl|omega|(simp_all;done)|(simp_all;omega)|(cases z;simp_all)
  exact⟨by(rw[ze])<;>rfl,qx.ch⟩
 intro ny;have u5:=PJ ny;refine aS (aZ ?_);refine au (.int .i64 n) ?_;refine au (.pointer (some ⟨bJ,1,none⟩)) ?_;refine pP dg 1 (.int .i64 z.high) bJ 1 ?_;refine au (.bool (decide (z.high<n))) ?_;refine gx ?_;refine aW (aR ?_);refine s_ (decide (z.high<n)) ?_ ?_
 ·intro lH;have ll:=AV lH;refine aS (aZ ?_);refine au (.pointer (some ⟨bJ,2,none⟩)) ?_;refine pP dg 1 (.int .u64 z.seen) bJ 2 ?_;refine au (.int .i64 n) ?_;refine lA .u64 n (vV _ (by omega)) ?_;refine au (.pointer (some ⟨bJ,1,none⟩)) ?_;refine pP dg 1 (.int .i64 z.high) bJ 1 ?_;refine lA .u64 z.high (vV _ (by omega)) ?_;refine lA .u64 (n-z.high) (vV _ (by omega)) ?_;refine Qd .u64 .u64 z.seen (n-z.high) (by omega) ?_;refine au (.int .u64 (bits .or .u64 (u64.wrap (z.seen*2^(min ((n-z.high)).toNat 64))) 1)) ?_;refine au (.pointer (some ⟨bJ,2,none⟩)) ?_;refine store_ dg 1 (.int .u64 (bits .or .u64 (u64.wrap (z.seen*2^(min ((n-z.high)).toNat 64))) 1)) bJ 2 ?_;intro aze amo;refine aW (aR (aZ ?_));refine au (.int .i64 n) ?_;refine au (.pointer (some ⟨bJ,1,none⟩)) ?_;refine store_ amo 1 (.int .i64 n) bJ 1 ?_;intro azf rW;refine aW (lS (aR (aS (aZ ?_))));refine kA rW 1 3 #[.bool z.any,.int .i64 n,.int .u64 (bits .or .u64 (u64.wrap (z.seen*2^(min ((n-z.high)).toNat 64))) 1)] bJ 0 ?_;refine store_ rW 0 (.agg #[.bool z.any,.int .i64 n,.int .u64 (bits .or .u64 (u64.wrap (z.seen*2^(min ((n-z.high)).toNat 64))) 1)]) dD 0 ?_;intro S9 u_;refine aW (aR (gU ?_));refine gF rfl (gb [.cell 4 152] [.agg #[.bool z.any,.int .i64 n,.int .u64 (bits .or .u64 (u64.wrap (z.seen*2^(min ((n-z.high)).toNat 64))) 1)]] (.agg #[.bool z.any,.int .i64 n,.int .u64 (bits .or .u64 (u64.wrap (z.seen*2^(min ((n-z.high)).toNat 64))) 1)]) ⟨ni u_ 0 3 dD 0,trivial⟩) ?_;have ze:ee z n=(⟨z.any,n,(bits .or .u64 (u64.wrap (z.seen*2^(min ((n-z.high)).toNat 64))) 1)⟩:Sd.gW):=by unfold ee;(repeat' split)<;>first|rfl|omega|(simp_all;done)|(simp_all;omega)|(cases z;simp_all)
  exact⟨by(rw[ze])<;>rfl,u_.ch⟩
 intro rX;have tI:=AW rX;refine aS (aZ ?_);refine au (.pointer (some ⟨bJ,1,none⟩)) ?_;refine pP dg 1 (.int .i64 z.high) bJ 1 ?_;refine au (.int .i64 n) ?_;refine lA .i64 (z.high-n) (AO _ (by omega)) ?_;refine au (.bool (decide ((z.high-n)<64))) ?_;refine gx ?_;refine aW (aR ?_);refine s_ (decide ((z.high-n)<64)) ?_ ?_
 ·intro G8;have qG:=AV G8;refine A1 7 [⟨0,λ_=>.pointer (some ⟨bJ,2,none⟩),λ_=>[]⟩,⟨0,λ_=>.int .u64 z.seen,λ_=>[]⟩,⟨0,λ_=>.pointer (some ⟨bJ,1,none⟩),λ_=>[]⟩,⟨0,λ_=>.int .i64 z.high,λ_=>[]⟩,⟨0,λ_=>.int .i64 n,λ_=>[]⟩,⟨0,λ_=>.int .i64 (z.high-n),λ_=>[]⟩,⟨0,λ_=>.int .u64 (u64.wrap ((1:Int)*2^(min ((z.high-n)).toNat 64))),λ_=>[]⟩] [[7,1,0],[7,1],[7,6,5,3,2],[7,6,5,3],[7,6,5,4],[7,6,5],[7,6],[8,0],[8,1],[8,2],[8,3],[8,4],[8,5],[8,6],[8,7],[9,0],[9,1],[9,2],[9,3],[9,4],[9,5],[9,6],[9,7],[9,8]] ?_ ?_
  ·refine step_cons iy ?_;refine step_cons (Kt dg 1 bJ 2) ?_;refine step_cons iy ?_;refine step_cons (Kt dg 1 bJ 1) ?_;refine step_cons iy ?_;refine step_cons (qS_ .i64 (z.high-n) (AO _ (by omega))) ?_;refine step_cons ?_ ?_
   ·intro amp azg amq azh amr;have sf:amp 47=.int .i64 (z.high-n):=(Sp.dO (amr 5 47 (by kernel_rfl) (by kernel_rfl))).1;have wT:=dg.quiet amq;refine pV ?_;refine mC [(47,.int .i64 (z.high-n))] (mD sf (pT)) ?_;have Mb:=wT.loc;refine Y.Qd .u64 .i64 1 (z.high-n) (by omega) ?_;exact⟨Mb.ch,Sp.pU [] (all_nil)⟩
   exact A0
  intro BX azi ams BY;have tJ:BX 0=.pointer (some ⟨bJ,2,none⟩):=(Sp.dO (BY 0 (by kernel_rfl))).1;have si:BX 1=.int .u64 z.seen:=(Sp.dO (BY 1 (by kernel_rfl))).1;have qD:BX 2=.pointer (some ⟨bJ,1,none⟩):=(Sp.dO (BY 2 (by kernel_rfl))).1;have Hm:BX 3=.int .i64 z.high:=(Sp.dO (BY 3 (by kernel_rfl))).1;have G_:BX 4=.int .i64 n:=(Sp.dO (BY 4 (by kernel_rfl))).1;have Tn:BX 5=.int .i64 (z.high-n):=(Sp.dO (BY 5 (by kernel_rfl))).1;have To:BX 6=.int .u64 (u64.wrap ((1:Int)*2^(min ((z.high-n)).toNat 64))):=(Sp.dO (BY 6 (by kernel_rfl))).1;have zv:=dg.quiet ams;refine⟨[.pointer (some ⟨bJ,2,none⟩),.int .u64 z.seen,.pointer (some ⟨bJ,1,none⟩),.int .i64 z.high,.int .i64 n,.int .i64 (z.high-n),.int .u64 (u64.wrap ((1:Int)*2^(min ((z.high-n)).toNat 64)))],by kernel_rfl,eB tJ (eB si (eB qD (eB Hm (eB G_ (eB Tn (eB To (Dp))))))),?_⟩;refine au (.int .u64 (bits .or .u64 z.seen (u64.wrap ((1:Int)*2^(min ((z.high-n)).toNat 64))))) ?_;refine au (.pointer (some ⟨bJ,2,none⟩)) ?_;refine store_ zv 1 (.int .u64 (bits .or .u64 z.seen (u64.wrap ((1:Int)*2^(min ((z.high-n)).toNat 64))))) bJ 2 ?_;intro amt Mp;refine aW (lS (aR (aS (aZ ?_))));refine kA Mp 1 3 #[.bool z.any,.int .i64 z.high,.int .u64 (bits .or .u64 z.seen (u64.wrap ((1:Int)*2^(min ((z.high-n)).toNat 64))))] bJ 0 ?_;refine store_ Mp 0 (.agg #[.bool z.any,.int .i64 z.high,.int .u64 (bits .or .u64 z.seen (u64.wrap ((1:Int)*2^(min ((z.high-n)).toNat 64))))]) dD 0 ?_;intro aaL abW;refine aW (aR (gU ?_));refine gF rfl (gb [.cell 4 152] [.agg #[.bool z.any,.int .i64 z.high,.int .u64 (bits .or .u64 z.seen (u64.wrap ((1:Int)*2^(min ((z.high-n)).toNat 64))))]] (.agg #[.bool z.any,.int .i64 z.high,.int .u64 (bits .or .u64 z.seen (u64.wrap ((1:Int)*2^(min ((z.high-n)).toNat 64))))]) ⟨ni abW 0 3 dD 0,trivial⟩) ?_;have ze:ee z n=(⟨z.any,z.high,(bits .or .u64 z.seen (u64.wrap ((1:Int)*2^(min ((z.high-n)).toNat 64))))⟩:Sd.gW):=by unfold ee;(repeat' split)<;>first|rfl|omega|(simp_all;done)|(simp_all;omega)|(cases z;simp_all)
  exact⟨by(rw[ze])<;>rfl,abW.ch⟩
 intro amu;have Ec:=AW amu;refine j7 (lS (aR (aS (aZ ?_))));refine kA dg 1 3 (jn z) bJ 0 ?_;refine store_ dg 0 (.agg (jn z)) dD 0 ?_;intro azj abX;refine aW (aR (gU ?_));refine gF rfl (gb [.cell 4 152] [.agg (jn z)] (.agg (jn z)) ⟨ni abX 0 3 dD 0,trivial⟩) ?_;have ze:ee z n=z:=by unfold ee;(repeat' split)<;>first|rfl|omega|(simp_all;done)|(simp_all;omega)|(cases z;simp_all)
 exact⟨by(rw[ze])<;>rfl,abX.ch⟩
theorem amv (z:Sd.gW) (n:Int) (h0:0<=z.high/\z.high<=4294967295) (h1:0<=n/\n<=4294967295) (w:ag):
 aV prog 151 #[.agg (jn z),.int .i64 n] w λv w1=>v=.tuple #[.agg (jn (ee z n)),.bool (HG (ee z n) z)]/\Ch [] w w1:=by
 have S0:=St.nil [] w;refine jd Tryz.func151 rfl ?_;refine aS (aZ ?_);refine eZ S0 (λb=>.pointer (some ⟨b,0,none⟩)) (.cells (jn z) 152) ?_;intro bJ iC dQ;refine eZ dQ (λb=>.pointer (some ⟨b,0,none⟩)) (.cells #[.bool false,.int .i64 0,.int .u64 0] 152) ?_;intro dD mO dg;refine au (.bool false) ?_;refine aW (aR (aS (aZ ?_)));refine kA dg 1 3 (jn z) bJ 0 ?_;refine au (.int .i64 n) ?_;refine fT 194 #[.agg (jn z),.int .i64 n] ?_;refine(amn z n (by omega) (by omega) _).mono ?_;rintro _ Ea ⟨rfl,o9⟩;have jl:=dg.quiet o9;refine eZ jl (λb=>.pointer (some ⟨b,0,none⟩)) (.cells #[.bool false,.int .i64 0,.int .u64 0] 152) ?_;intro rZ aaE qx;refine store_ qx 0 (.agg (jn (ee z n))) rZ 0 ?_;intro Sn o_;refine aW (aR (aS ?_));have zD:=o_.Y3 1 0 3 (b:=dD) (by kernel_rfl);refine Y5 o_ 5 4 1 dD 0 [] (.agg (jn (ee z n))) [.agg (jn (ee z n)),.agg (jn (ee z n)),.agg (jn z),.bool (!(((ee z n).any==z.any)&&(((ee z n).high==z.high)&&(((ee z n).seen==z.seen)&&true)))),undef] [[5,0],[5,1],[5,2],[5,3],[5,4]] (lX (F8 zD 0 rZ 0 3 (jn (ee z n))) (lX (F8 zD 0 rZ 0 3 (jn (ee z n))) (lX (F8 zD 1 bJ 0 3 (jn z)) (lX (Du (h:=funext λ_=>aho true (((ee z n).any==z.any)&&(((ee z n).high==z.high)&&(((ee z n).seen==z.seen)&&true))) (jn (ee z n)) (jn z) (by rfl))) (lX (Y2 o_ 1 (.agg (jn (ee z n))) dD 0) (P5)))))) ?_;intro D9 qy;refine gx ?_;refine aW (aR (gU ?_));refine gF rfl (gb [.cell 4 152,.tmp 5] [.agg (jn (ee z n)),.bool (!(((ee z n).any==z.any)&&(((ee z n).high==z.high)&&(((ee z n).seen==z.seen)&&true))))] (.tuple #[.agg (jn (ee z n)),.bool (!(((ee z n).any==z.any)&&(((ee z n).high==z.high)&&(((ee z n).seen==z.seen)&&true))))]) ⟨ni qy 1 3 dD 0,jz,trivial⟩) ?_;exact⟨rfl,qy.ch⟩
end
end Go.Proofs.YtggfpcggakghnaaGreatDoor
namespace Sd
structure BZ (b:Prop) (r:Rec):Prop where
 kind:1<=r.kind/\r.kind<=12
 source:0<=r.source/\r.source<=4
 seq:0<=r.seq/\r.seq<=4294967295
 ah:0<=r.ah/\r.ah<=65535
 code:b->0<=r.code/\r.code<=255
 how:0<=r.how/\r.how<=6
structure tN (r:aF):Prop where
 kind:129<=r.kind/\r.kind<=136
 seq:0<=r.seq/\r.seq<=4294967295
 role:0<=r.role/\r.role<=3
 cX:0<=r.cX/\r.cX<=4
 ah:0<=r.ah/\r.ah<=65535
 code:0<=r.code/\r.code<=255
 aA:∀j,0<=r.aA j/\r.aA j<=255
 amw:r.kind≠131/\r.kind≠132->r.seq=0
 amx:r.kind≠130->r.role=0
 amy:r.kind≠130/\r.kind≠134/\r.kind≠135/\r.kind≠136->r.cX=0
 amz:r.kind≠130/\r.kind≠133/\r.kind≠134/\r.kind≠135->r.ah=0
 amA:r.kind≠132/\r.kind≠136->r.code=0
 amB:r.kind≠129->r.aA=λ_=>0
def ow (x:Int×aF):Prop:=(1<=x.1/\x.1<=3)/\tN x.2
structure Quiet (C:aK) (b:Prop) (s s':aa):Prop where
 aG:s'.c.t.aG=s.c.t.aG
 ah:s'.c.t.ah=s.c.t.ah
 p:s'.c.p=s.c.p
 bH:∃rs:List Rec,s'.bH=s.bH++rs/\(∀r∈rs,r.kind≠8/\r.ah=s.c.t.ah/\BZ b r)/\s'.c.head=rs.foldl C.next s.c.head
 bg:∃ts:List (Int×aF),s'.bg=s.bg++ts/\∀x∈ts,ow x
theorem Quiet.refl (C:aK) (b:Prop) (s:aa):Quiet C b s s:=⟨rfl,rfl,rfl,⟨[],by simp,by simp,rfl⟩,⟨[],by simp,by simp⟩⟩
theorem Quiet.trans {C:aK} {b:Prop} {s t u:aa} (h:Quiet C b s t) (k:Quiet C b t u):Quiet C b s u:=by
 obtain⟨rs,r1,r2,r3⟩:=h.bH;obtain⟨qs,q1,q2,q3⟩:=k.bH;obtain⟨ts,t1,t2⟩:=h.bg;obtain⟨us,u1,u2⟩:=k.bg;refine⟨k.aG.trans h.aG,k.ah.trans h.ah,k.p.trans h.p,⟨rs++qs,by rw[q1,r1,bU],?_,by rw[q3,r3,List.foldl_append]⟩,⟨ts++us,by rw[u1,t1,bU],?_⟩⟩
 ·intro r hr;rcases fc.1 hr with hr|hr
  ·exact r2 r hr
  ·have:=q2 r hr;rw[h.ah]at this;exact this
 ·intro x hx;rcases fc.1 hx with hx|hx
  ·exact t2 x hx
  ·exact u2 x hx
namespace aa
@[simp] theorem azk (s:aa) (l:Int) (r:aF):(s.tell l r).c=s.c:=rfl
@[simp] theorem azl (s:aa) (l:Int) (r:aF):(s.tell l r).bH=s.bH:=rfl
@[simp] theorem azm (s:aa) (l:Int) (r:aF):(s.tell l r).bg=s.bg++[(l,r)]:=rfl
@[simp] theorem kL (s:aa) (l:Int) (r:aF):(s.dP l r).c=s.c:=by unfold dP;split<;>rfl
@[simp] theorem Mq (s:aa) (l:Int) (r:aF):(s.dP l r).bH=s.bH:=by unfold dP;split<;>rfl
@[simp] theorem lJ (s:aa) (l w c:Int):(s.gone l w c).c=s.c:=kL ..
@[simp] theorem amC (s:aa) (l w c:Int):(s.gone l w c).bH=s.bH:=Mq ..
@[simp] theorem azn (s:aa) (l n:Int):(s.done l n).c=s.c:=rfl
@[simp] theorem azo (s:aa) (l n:Int):(s.done l n).bH=s.bH:=rfl
@[simp] theorem azp (C:aK) (s:aa) (k a n e h:Int):(s.record C k a n e h).c.t=s.c.t:=rfl
@[simp] theorem azq (C:aK) (s:aa) (k a n e h:Int):(s.record C k a n e h).c.p=s.c.p:=rfl
@[simp] theorem Mr (C:aK) (s:aa) (k a n e h:Int):(s.record C k a n e h).c.q=s.c.q:=rfl
@[simp] theorem azr (C:aK) (s:aa) (k a n e h:Int):(s.record C k a n e h).c.af=s.c.af:=rfl
@[simp] theorem azs (C:aK) (s:aa) (k a n e h:Int):(s.record C k a n e h).bg=s.bg:=rfl
@[simp] theorem azt (C:aK) (s:aa) (k a n e h:Int):(s.record C k a n e h).bH=s.bH++[⟨k,a,n,s.c.t.ah,e,h⟩]:=rfl
theorem HH {C:aK} {b:Prop} {s:aa} {l:Int} {r:aF} (h:ow (l,r)):Quiet C b s (s.tell l r):=
 ⟨rfl,rfl,rfl,⟨[],by simp,by simp,rfl⟩,⟨[(l,r)],rfl,by simpa using h⟩⟩
theorem zG {C:aK} {b:Prop} {s:aa} {l:Int} {r:aF} (h:tN r):Quiet C b s (s.dP l r):=by
 unfold dP;split
 ·rename_i hh;refine HH ⟨?_,h⟩;simp[linked]at hh;exact hh.1
 ·exact Quiet.refl ..
theorem ox {C:aK} {b:Prop} {s:aa} {k a n e h:Int} (hk:k≠8) (hb:BZ b ⟨k,a,n,s.c.t.ah,e,h⟩):Quiet C b s (s.record C k a n e h):=
 ⟨rfl,rfl,rfl,⟨[⟨k,a,n,s.c.t.ah,e,h⟩],rfl,by simpa using⟨hk,hb⟩,rfl⟩,⟨[],by simp,by simp⟩⟩
theorem iP {C:aK} {b:Prop} {s:aa} {c:Core} (h1:c.t.aG=s.c.t.aG) (h2:c.t.ah=s.c.t.ah) (h3:c.p=s.c.p) (h4:c.head=s.c.head):Quiet C b s {s with c:=c}:=
 ⟨h1,h2,h3,⟨[],by simp,by simp,h4⟩,⟨[],by simp,by simp⟩⟩
end aa
theorem Inv.head {c:Core} (h:Inv c) (x:ao):Inv {c with head:=x}:=⟨h.p,h.tok,h.q,h.af,h.samples,h.mode,h.doors⟩
theorem Inv.record {C:aK} {s:aa} (h:Inv s.c) (k a n e w:Int):Inv (s.record C k a n e w).c:=h.head _
theorem Inv.tell {s:aa} (h:Inv s.c) (l:Int) (r:aF):Inv (s.tell l r).c:=h
theorem Inv.dP {s:aa} (h:Inv s.c) (l:Int) (r:aF):Inv (s.dP l r).c:=by rw[aa.kL];exact h
theorem qf.drop {p:aO} {t:aw} {h h':Int} {q:List Ask} (k:qf p t h q) (s:Int) (hh:∀a∈q,a.source≠s->a.source≠h'):qf p t h' (Q.drop q s) where
 each:=by
  intro a ha;simp only[Q.drop,AE,decide_eq_true_eq]at ha;obtain⟨a1,a2,a3,a4,a5,a6⟩:=k.each a ha.1;exact⟨a1,a2,a3,a4,hh a ha.1 ha.2,a6⟩
 sorted:=k.sorted.filter _
 len:=by have:=FJ (λa:Ask=>decide (a.source≠s)) q;have:=k.len;unfold Q.drop;omega
theorem mG.pass {p:aO} {af:aw} {t:Tok} (hp:fk p) {aT e:Int} (ht:0<=aT/\aT<=4) (he:p.ah<=e/\e<=65535):mG p af (t.pass aT e):=
 ⟨ht,he,.inl rfl,.inl ⟨rfl,rfl⟩⟩
structure xp (C:aK) (b:Prop) (s s':aa) (how:Int):Prop where
 p:s'.c.p=s.c.p
 aG:s'.c.t.aG≠s.c.t.aG
 offer:s'.c.t.offer=-1
 ah:(s.c.t.ah<65535/\s'.c.t.ah=s.c.t.ah+1)\/(s.c.t.ah=65535/\s'.c.t.ah=65535/\how=6)
 bH:∃(pre:List Rec) (n:Int) (post:List Rec),s'.bH=s.bH++(pre++⟨8,s'.c.t.aG,n,s'.c.t.ah,0,how⟩::post)/\
  (∀r∈pre,r.kind≠8/\r.ah=s.c.t.ah/\BZ b r)/\BZ b ⟨8,s'.c.t.aG,n,s'.c.t.ah,0,how⟩/\
  (∀r∈post,r.kind≠8/\r.ah=s'.c.t.ah/\BZ b r)/\
  s'.c.head=(pre++⟨8,s'.c.t.aG,n,s'.c.t.ah,0,how⟩::post).foldl C.next s.c.head
 bg:∃ts:List (Int×aF),s'.bg=s.bg++ts/\∀x∈ts,ow x
theorem Quiet.goes {C:aK} {b:Prop} {s t u:aa} {how:Int} (h:Quiet C b s t) (k:xp C b t u how):xp C b s u how:=by
 obtain⟨rs,r1,r2,r3⟩:=h.bH;obtain⟨pre,n,post,q1,q2,q3,q4,q5⟩:=k.bH;obtain⟨ts,t1,t2⟩:=h.bg;obtain⟨us,u1,u2⟩:=k.bg;refine⟨k.p.trans h.p,by rw[<-h.aG];exact k.aG,k.offer,by have:=k.ah;rw[h.ah]at this;exact this,⟨rs++pre,n,post,by rw[q1,r1];simp,?_,q3,q4,by rw[q5,r3];simp[List.foldl_append]⟩,⟨ts++us,by rw[u1,t1,bU],?_⟩⟩
 ·intro r hr;rcases fc.1 hr with hr|hr
  ·exact r2 r hr
  ·have:=q2 r hr;rw[h.ah]at this;exact this
 ·intro x hx;rcases fc.1 hx with hx|hx
  ·exact t2 x hx
  ·exact u2 x hx
theorem xp.quiet {C:aK} {b:Prop} {s t u:aa} {how:Int} (h:xp C b s t how) (k:Quiet C b t u) (ho:u.c.t.offer=-1):xp C b s u how:=by
 obtain⟨pre,n,post,q1,q2,q3,q4,q5⟩:=h.bH;obtain⟨rs,r1,r2,r3⟩:=k.bH;obtain⟨ts,t1,t2⟩:=h.bg;obtain⟨us,u1,u2⟩:=k.bg;refine⟨k.p.trans h.p,by rw[k.aG];exact h.aG,ho,by rw[k.ah];exact h.ah,⟨pre,n,post++rs,by rw[r1,q1,k.aG,k.ah];simp,q2,by rw[k.aG,k.ah];exact q3,?_,by rw[r3,q5,k.aG,k.ah,<-List.foldl_append];simp⟩,⟨ts++us,by rw[u1,t1,bU],?_⟩⟩
 ·intro r hr;rw[k.ah];rcases fc.1 hr with hr|hr
  ·exact q4 r hr
  ·exact r2 r hr
 ·intro x hx;rcases fc.1 hx with hx|hx
  ·exact t2 x hx
  ·exact u2 x hx
namespace aa
@[simp] theorem abY (C:aK) (s:aa) (t:Tok) (h n:Int):(s.goes C t h n).c.t=t:=by simp[goes]
@[simp] theorem azu (C:aK) (s:aa) (t:Tok) (h n:Int):(s.goes C t h n).c.p=s.c.p:=by simp[goes]
@[simp] theorem Tp (C:aK) (s:aa) (t:Tok) (h n:Int):(s.goes C t h n).c.q=Q.drop s.c.q t.aG:=by simp[goes]
@[simp] theorem azv (C:aK) (s:aa) (t:Tok) (h n:Int):(s.goes C t h n).c.af=s.c.af:=by simp[goes]
theorem HI (C:aK) (s:aa) (t:Tok) (h n:Int):∃x,(s.goes C t h n).c={s.c with t:=t,q:=Q.drop s.c.q t.aG,head:=x}:=by
 refine⟨(s.goes C t h n).c.head,?_⟩;simp[goes,record]
theorem amD {cX e:Int} (h:0<=cX/\cX<=4) (he:0<=e/\e<=65535):tN {kind:=134,cX:=cX,ah:=e}:=by
 constructor<;>simp<;>omega
theorem amE {e:Int} (he:0<=e/\e<=65535):tN {kind:=133,ah:=e}:=by
 constructor<;>simp<;>omega
theorem amF {cX e:Int} (h:0<=cX/\cX<=4) (he:0<=e/\e<=65535):tN {kind:=135,cX:=cX,ah:=e}:=by
 constructor<;>simp<;>omega
theorem HJ {cX c:Int} (h:0<=cX/\cX<=4) (hc:0<=c/\c<=255):tN {kind:=136,cX:=cX,code:=c}:=by
 constructor<;>simp<;>omega
theorem amG {n:Int} (h:0<=n/\n<=4294967295):tN {kind:=131,seq:=n}:=by
 constructor<;>simp<;>omega
theorem amH {n c:Int} (h:0<=n/\n<=4294967295) (hc:0<=c/\c<=255):tN {kind:=132,seq:=n,code:=c}:=by
 constructor<;>simp<;>omega
theorem amI {r w e:Int} (h:0<=r/\r<=3) (hw:0<=w/\w<=4) (he:0<=e/\e<=65535):tN {kind:=130,role:=r,cX:=w,ah:=e}:=by
 constructor<;>simp<;>omega
theorem amJ {n:ao} (h:∀j,0<=n j/\n j<=255):tN {kind:=129,aA:=n}:=by
 constructor<;>simp<;>omega
theorem HK {C:aK} {b:Prop} {s:aa} {t:Tok} {how n:Int} (hh:0<=t.aG/\t.aG<=4) (hn:t.aG≠s.c.t.aG) (ho:t.offer=-1)
 (he:(s.c.t.ah<65535/\t.ah=s.c.t.ah+1)\/(s.c.t.ah=65535/\t.ah=65535/\how=6)) (hs:0<=s.c.t.ah)
 (abZ:0<=how/\how<=6) (azw:0<=n/\n<=4294967295):xp C b s (s.goes C t how n) how:=by
 have et:0<=t.ah/\t.ah<=65535:=by omega
 have q2:Quiet C b ({s with c:={s.c with t:=t,q:=Q.drop s.c.q t.aG}}:aa) ((({s with c:={s.c with t:=t,q:=Q.drop s.c.q t.aG}}:aa).dP s.c.t.aG {kind:=134,cX:=t.aG,ah:=t.ah}).dP t.aG {kind:=133,ah:=t.ah}):=
  (zG (amD hh et)).trans (zG (amE et))
 obtain⟨ts,t1,t2⟩:=q2.bg;exact⟨by simp,by simpa using hn,by simpa using ho,by simpa using he,
  ⟨[],n,[],by simp[goes],by simp,by constructor<;>simp<;>omega,by simp,by simp[goes,record]⟩,
  ⟨ts,by simpa[goes]using t1,t2⟩⟩
end aa
theorem Ms {t:Tok} {aT:Int} (h:(t.dq aT).2=0):(t.dq aT).1=t.pass aT (t.ah+1)/\0<=aT/\aT<=4/\aT≠t.aG/\t.ah<65535:=by
 unfold Tok.dq at*;split at h
 ·simp at h
 ·split at h
  ·simp at h
  ·split at h
   ·simp at h
   ·rename_i a b c;simp[a,b,c];omega
theorem Mt (t:Tok) (aT:Int):0<=(t.dq aT).2/\(t.dq aT).2<=25:=by
 unfold Tok.dq;split<;>(try split)<;>(try split)<;>simp
structure tO (m:a9):Prop where
 kind:1<=m.kind/\m.kind<=11
 seq:0<=m.seq/\m.seq<=4294967295
 role:0<=m.role/\m.role<=3
 aT:0<=m.aT/\m.aT<=4
 ah:0<=m.ah/\m.ah<=65535
 mode:0<=m.mode/\m.mode<=4
 cls:0<=m.cls/\m.cls<=3
 azx:m.kind=11->1<=m.cls
def ve (xq now:Core) (kind link how:Int):Prop:=
 (how=1/\kind=0/\xq.t.offer=now.t.aG/\link=now.t.aG)\/
 (how=2/\kind<2/\(∃a l,xq.q=a::l/\a.source=now.t.aG)/\(kind=1↔xq.t.aG=0))\/
 (how=3/\kind=0/\link=now.t.aG/\eV xq.p now.t.aG xq.t.aG=true/\xq.t.bad=false)\/
 (how=4/\kind=1/\now.t.aG=0)\/
 (how=5/\kind=3/\now.af.on xq.t.aG=false/\now.af.on now.t.aG=true)\/
 (how=6/\now.t.aG=4/\((kind=2/\now.t.bad=true)\/(kind=3/\xq.t.ah=65535/\now.af.on xq.t.aG=false)))
structure fI (C:aK) (b:Prop) (s s':aa) (kind link:Int):Prop where
 inv:Inv s'.c
 B8:Quiet C b s s'\/∃how,xp C b s s' how/\ve s.c s'.c kind link how
theorem fI.kq {C:aK} {b:Prop} {s s':aa} {kind link:Int} (h:Inv s'.c) (q:Quiet C b s s'):fI C b s s' kind link:=⟨h,.inl q⟩
theorem Inv.Mu {c:Core} (h:Inv c) {t:Tok} {q:List Ask} (ht:mG c.p c.af t) (hq:qf c.p c.af t.aG q):Inv {c with t:=t,q:=q}:=
 ⟨h.p,ht,hq,h.af,h.samples,h.mode,h.doors⟩
theorem Inv.goes {C:aK} {s:aa} (h:Inv s.c) {t:Tok} {how n:Int} (ht:mG s.c.p s.c.af t):Inv (s.goes C t how n).c:=by
 obtain⟨x,hx⟩:=aa.HI C s t how n;rw[hx];exact(h.Mu ht (h.q.drop t.aG (λa _ ha=>ha))).head x
variable{C:aK} {b:Prop} {s:aa} {l:Int} {m:a9}
theorem Inv.ln {c:Core} (h:Inv c):0<=c.t.ah/\c.t.ah<=65535:=by have:=h.tok.ah;have:=h.p.ah;omega
theorem Tq {n e:Int} (h:Inv s.c) (hl:1<=l/\l<=3) (hn:0<=n/\n<=4294967295) (he:0<=e/\e<=255):Quiet C b s (s.refuse C l n e):=by
 have:=h.ln;exact(aa.HH ⟨hl,aa.amH hn he⟩).trans (aa.ox (by simp) (by constructor<;>simp<;>omega))
theorem xu {n e kind link:Int} (h:Inv s.c) (hl:1<=l/\l<=3) (hn:0<=n/\n<=4294967295) (he:0<=e/\e<=255):fI C b s (s.refuse C l n e) kind link:=
 .kq (h.head _) (Tq h hl hn he)
theorem ab0 {e:Int} (h:Inv s.c) (hl:1<=l/\l<=3) (he:b->0<=e/\e<=255):Quiet C b s (s.iU C l e):=by
 have:=h.ln;exact aa.ox (by simp) (by constructor<;>simp<;>first|omega|exact he)
theorem HL {e kind link:Int} (h:Inv s.c) (hl:1<=l/\l<=3) (he:b->0<=e/\e<=255):fI C b s (s.iU C l e) kind link:=
 .kq (h.head _) (ab0 h hl he)
theorem ab3 {n:Int} (hl:1<=l/\l<=3) (hn:0<=n/\n<=4294967295):Quiet C b s (s.done l n):=aa.HH ⟨hl,aa.amG hn⟩
theorem zH {t:aa} {n kind link:Int} (h:fI C b s t kind link) (hl:1<=l/\l<=3) (hn:0<=n/\n<=4294967295):fI C b s (t.done l n) kind link:=
 ⟨h.inv,h.B8.imp (λq=>q.trans (ab3 hl hn)) (λ⟨how,g,k⟩=>⟨how,g.quiet (ab3 hl hn) g.offer,k⟩)⟩
theorem amK (p:aO) (t:Tok) (f o:Int) (th:Bool):0<=(t.make p f o th).2/\(t.make p f o th).2<=28:=by
 unfold Tok.make;repeat' split
 all_goals simp
theorem amL {p:aO} {t:Tok} {f o:Int} {th:Bool} (h:(t.make p f o th).2=0):
 (t.make p f o th).1={t with offer:=o,oa:=.start p.offer}/\f=t.aG/\t.ah<65535/\o≠f/\1<=o/\o<=3/\th=true/\t.offer<0:=by
 unfold Tok.make at*;split at h
 ·simp at h
 split at h
 ·simp at h
 split at h
 ·simp at h
 split at h
 ·simp at h
 split at h
 ·simp at h
 rename_i h1 h2 h3 h4 h5;have h6:th=true:=by
  cases th
  ·exact absurd (.inr (.inr rfl)) h4
  ·rfl
 rw[if_neg h1,if_neg h2,if_neg h3,if_neg h4,if_neg h5];exact⟨rfl,by simpa using h1,by omega,h3,by omega,by omega,h6,by omega⟩
theorem amM (t:Tok) (f e:Int):0<=(t.accept f e).2/\(t.accept f e).2<=28:=by
 unfold Tok.accept;split
 ·simp
 split
 ·simp
 have:=Mt t f;omega
theorem amN {t:Tok} {f e:Int} (h:(t.accept f e).2=0):
 (t.accept f e).1=t.pass f (t.ah+1)/\t.offer=f/\e=t.ah/\0<=f/\f<=4/\f≠t.aG/\t.ah<65535:=by
 unfold Tok.accept at*;split at h
 ·simp at h
 split at h
 ·simp at h
 rename_i h1 h2;obtain⟨g1,g2,g3,g4,g5⟩:=Ms h;have h3:t.offer=f:=by
  by_cases hx:t.offer=f
  ·exact hx
  ·exact absurd (.inr hx) h1
 rw[if_neg h1,if_neg h2];exact⟨g1,h3,by simpa using h2,g2,g3,g4,g5⟩
theorem amO (t:Tok) (f:Int):0<=(t.fU f).2/\(t.fU f).2<=28:=by
 unfold Tok.fU;split<;>simp
theorem amP {t:Tok} {f:Int} (h:(t.fU f).2=0):(t.fU f).1=t.iL/\t.offer=f:=by
 unfold Tok.fU at*;split at h
 ·simp at h
 rename_i h1;rw[if_neg h1];refine⟨rfl,?_⟩;by_cases hx:t.offer=f
 ·exact hx
 ·exact absurd (.inr hx) h1
theorem amQ (h:Inv s.c) (hl:1<=l/\l<=3) (hm:tO m):fI C b s (s.offer C l m) 0 l:=by
 have he:=h.ln;unfold aa.offer;dsimp only;split
 ·have:=amK s.c.p s.c.t l m.aT (s.c.af.on m.aT);exact xu h hl hm.seq (by omega)
 rename_i hz;obtain⟨g1,g2,g3,g4,g5,g6,g7,g8⟩:=amL (by simpa using hz);rw[g1];refine zH ?_ hl hm.seq;have ht:mG s.c.p s.c.af {s.c.t with offer:=m.aT,oa:=Timer.start s.c.p.offer}:=
  ⟨h.tok.aG,h.tok.ah,.inr ⟨g5,g6,by simp;omega,g7,by simp[Timer.start];have:=h.p.offer;omega,by simp[Timer.start],by simp[Timer.start];have:=h.p.offer;omega⟩,h.tok.lost⟩
 refine .kq ?_ ?_
 ·exact Inv.record (Inv.dP (s:=s.eu _) (h.Mu ht h.q) _ _) ..
 ·have hh:=h.tok.aG;refine Quiet.trans (t:=s.eu {s.c.t with offer:=m.aT,oa:=Timer.start s.c.p.offer}) (aa.iP rfl rfl rfl rfl) ?_;refine Quiet.trans (aa.zG (aa.amF (by omega) (by simpa using he))) (aa.ox (by simp) ?_);have:=hm.seq;constructor<;>simp[aa.eu]<;>omega
theorem amR (h:Inv s.c) (hl:1<=l/\l<=3) (hm:tO m):fI C b s (s.accept C l m) 0 l:=by
 have he:=h.ln;unfold aa.accept;dsimp only;split
 ·have:=amM s.c.t l m.ah;exact xu h hl hm.seq (by omega)
 rename_i hz;obtain⟨g1,g0,ge,g2,g3,g4,g5⟩:=amN (by simpa using hz);rw[g1];refine zH ⟨?_,.inr ⟨1,?_,?_⟩⟩ hl hm.seq
 ·exact h.goes (mG.pass h.p (by omega) (by have:=h.tok.ah;omega))
 ·exact aa.HK (by simp[Tok.pass];omega) (by simpa[Tok.pass]using g4) rfl (.inl ⟨g5,rfl⟩) he.1 (by simp) hm.seq
 ·exact .inl ⟨rfl,rfl,by simpa[Tok.pass]using g0,by simp[Tok.pass]⟩
theorem amS (h:Inv s.c) (hl:1<=l/\l<=3) (hm:tO m):fI C b s (s.fU C l m) 0 l:=by
 have he:=h.ln;unfold aa.fU;dsimp only;split
 ·have:=amO s.c.t l;exact xu h hl hm.seq (by omega)
 rename_i hz;obtain⟨g1,g2⟩:=amP (by simpa using hz);rw[g1];refine zH ?_ hl hm.seq;have ht:mG s.c.p s.c.af s.c.t.iL:=⟨h.tok.aG,h.tok.ah,.inl rfl,h.tok.lost⟩;refine .kq ?_ ?_
 ·exact Inv.record (Inv.dP (s:=s.eu _) (h.Mu ht h.q) _ _) ..
 ·refine Quiet.trans (t:=s.eu s.c.t.iL) (aa.iP rfl rfl rfl rfl) ?_;refine Quiet.trans (aa.zG (aa.HJ (by omega) (by simp))) (aa.ox (by simp) ?_);have:=hm.seq;constructor<;>simp[aa.eu,Tok.iL]<;>omega
end Sd
namespace Sd
theorem mem_insert {q:List Ask} {a x:Ask}:x∈Q.insert q a↔x=a\/x∈q:=by
 unfold Q.insert;rw[fc,cn];have:=List.takeWhile_append_dropWhile (p:=λx:Ask=>decide (x.bb<=a.bb)) (l:=q);constructor
 ·rintro(h|h|h)
  ·exact .inr (List.takeWhile_prefix _|>.subset h)
  ·exact .inl h
  ·exact .inr (List.dropWhile_suffix _|>.subset h)
 ·rintro(h|h)
  ·exact .inr (.inl h)
  ·rw[<-this,fc]at h;rcases h with h|h
   ·exact .inl h
   ·exact .inr (.inr h)
theorem length_insert (q:List Ask) (a:Ask):(Q.insert q a).length=q.length+1:=by
 have:=congrArg List.length (List.takeWhile_append_dropWhile (p:=λx:Ask=>decide (x.bb<=a.bb)) (l:=q));simp only[ft]at this;simp only[Q.insert,ft,h_];omega
theorem amT (y:Ask) (q:List Ask) (a:Ask):Q.insert (y::q) a=if y.bb<=a.bb then y::Q.insert q a else a::y::q:=by
 unfold Q.insert;simp only[List.takeWhile_cons,List.dropWhile_cons];by_cases h:y.bb<=a.bb<;>simp[h]
theorem insert_sorted {q:List Ask} {a:Ask} (h:q.Pairwise λa b=>a.bb<b.bb) (hn:∀x∈q,x.bb≠a.bb):(Q.insert q a).Pairwise λa b=>a.bb<b.bb:=by
 induction q with
 |nil=>simp[Q.insert]
 |cons y q ih=>
  rw[amT];rw[AK]at h;have hy:=hn y (by simp);split
  ·rw[AK];refine⟨λx hx=>?_,ih h.2 (λx hx=>hn x (by simp[hx]))⟩;rcases mem_insert.1 hx with rfl|hx
   ·omega
   ·exact h.1 x hx
  ·rw[AK,AK];refine⟨λx hx=>?_,h.1,h.2⟩;rcases cn.1 hx with rfl|hx
   ·omega
   ·have:=h.1 x hx;omega
theorem amU (most:Int) (q:List Ask) (a:Ask):0<=(Q.push most q a).2/\(Q.push most q a).2<=27:=by
 unfold Q.push;repeat' split
 all_goals simp
theorem amV {most:Int} {q:List Ask} {a:Ask} (h:(Q.push most q a).2=0):(Q.push most q a).1=Q.insert q a/\Q.waits q a.source=false/\(q.length:Int)<most:=by
 unfold Q.push at*;split at h
 ·simp at h
 split at h
 ·simp at h
 rename_i h1 h2;rw[if_neg h1,if_neg h2];exact⟨rfl,by simpa using h1,by omega⟩
theorem amW {q:List Ask} {s:Int} (h:Q.waits q s=false):∀x∈q,x.source≠s:=by
 intro x hx e;have:Q.waits q s=true:=by unfold Q.waits;rw[AD];exact⟨x,hx,by simp[e]⟩
 rw[this]at h;cases h
theorem qf.insert {p:aO} {t:aw} {h:Int} {q:List Ask} (hp:fk p) (k:qf p t h q) {s:Int} (hs:1<=s/\s<=3) (fa:t.on s=true) (hh:s≠h)
 (hw:Q.waits q s=false) (hl:(q.length:Int)<p.queue):qf p t h (Q.insert q ⟨s,bb p s,.start p.ask⟩) where
 each:=by
  intro a ha;rcases mem_insert.1 ha with rfl|ha
  ·have:=hp.ask;refine⟨rfl,hs.1,hs.2,fa,hh,?_,?_,?_⟩<;>simp[Timer.start]<;>omega
  ·exact k.each a ha
 sorted:=insert_sorted k.sorted (λx hx e=>by
  have h1:=k.each x hx;have h2:=amW hw x hx;rw[h1.1]at e;exact h2 (Ze hp (by omega) (by omega) e))
 len:=by rw[length_insert];omega
theorem amX {p:aO} {t:Tok} {most:Int} {q:List Ask} {f:Int} {now:Bool}:0<=(fO p t most q f now).2.2.1/\(fO p t most q f now).2.2.1<=29:=by
 unfold fO;have h1:=Mt t f;have h2:=amU most q ⟨f,bb p f,.start p.ask⟩
 repeat' split
 all_goals first|(simp;done)|(simp;omega)|omega
theorem amY {p:aO} {t:Tok} {most:Int} {q:List Ask} {f:Int} {now:Bool} (h:(fO p t most q f now).2.2.1=0):
 t.bad=false/\f≠t.aG/\t.ah<65535/\
 ((fO p t most q f now=(t.pass f (t.ah+1),3,0,Q.drop q f)/\0<=f/\f<=4/\(t.aG=4\/eV p f t.aG=true))\/
  (fO p t most q f now=(t,0,0,Q.insert q ⟨f,bb p f,.start p.ask⟩)/\Q.waits q f=false/\(q.length:Int)<most/\t.aG≠4/\now=false)):=by
 unfold fO at*;split at h
 ·simp at h
 split at h
 ·simp at h
 split at h
 ·simp at h
 rename_i h1 h2 h3;rw[if_neg h1,if_neg h2,if_neg h3];refine⟨by simpa using h1,h2,by omega,?_⟩;split at h
 ·rename_i h4;rw[if_pos h4];split at h
  ·rename_i h5;exact absurd h h5
  ·rename_i h5;rw[if_neg h5];obtain⟨g1,g2,g3,g4,g5⟩:=Ms (by simpa using h5);exact .inl ⟨by rw[g1],g2,g3,h4.imp id And.right⟩
 ·rename_i h4;rw[if_neg h4];split at h
  ·simp at h
  ·rename_i h5;rw[if_neg h5];obtain⟨g1,g2,g3⟩:=amV h;refine .inr ⟨?_,g2,g3,λe=>h4 (.inl e),by simpa using h5⟩;rw[g1];exact Prod.ext rfl (Prod.ext rfl (Prod.ext h rfl))
theorem amZ (t:Tok) (q:List Ask):0<=(fy t q).2.1/\(fy t q).2.1<=25:=by
 unfold fy;split
 ·simp
 ·rename_i a l;have:=Mt t a.source;split<;>first|(simp;done)|(simp;omega)|omega
theorem am0 {t:Tok} {q:List Ask} (h:(fy t q).2.1=0):
 ∃a l,q=a::l/\fy t q=(t.pass a.source (t.ah+1),0,Q.drop q a.source)/\0<=a.source/\a.source<=4/\a.source≠t.aG/\t.ah<65535:=by
 unfold fy at*;split at h
 ·simp at h
 ·rename_i a l;split at h
  ·rename_i h5;exact absurd h h5
  ·rename_i h5;obtain⟨g1,g2,g3,g4,g5⟩:=Ms (by simpa using h5);refine⟨a,l,rfl,?_,g2,g3,g4,g5⟩;show(if(t.dq a.source).2≠0 then _ else _)=_;rw[if_neg h5,g1]
theorem ab4 (t:Tok) (q:List Ask) (f:Int):0<=(dh t q f).2.1/\(dh t q f).2.1<=25:=by
 unfold dh;have:=amZ t q
 repeat' split
 all_goals first|(simp;done)|(simp;omega)|omega
theorem ab5 {t:Tok} {q:List Ask} {f:Int} (h:(dh t q f).2.1=0):
 f=t.aG/\∃a l,q=a::l/\dh t q f=(t.pass a.source (t.ah+1),0,Q.drop q a.source)/\0<=a.source/\a.source<=4/\a.source≠t.aG/\t.ah<65535:=by
 unfold dh at*;split at h
 ·simp at h
 split at h
 ·simp at h
 rename_i h1 h2;rw[if_neg h1,if_neg h2];exact⟨by simpa using h1,am0 h⟩
variable{C:aK} {b:Prop} {s:aa} {l:Int} {m:a9}
theorem HM {kind link how n f:Int} {q:List Ask} (h:Inv s.c) (hf:0<=f/\f<=4) (hq:∃x,q=Q.drop s.c.q x) (cE:f≠s.c.t.aG) (he:s.c.t.ah<65535)
 (abZ:0<=how/\how<=6) (hn:0<=n/\n<=4294967295)
 (hk:ve s.c (aa.goes C ({s with c:={s.c with q:=q}}:aa) (s.c.t.pass f (s.c.t.ah+1)) how n).c kind link how):
 fI C b s (aa.goes C ({s with c:={s.c with q:=q}}:aa) (s.c.t.pass f (s.c.t.ah+1)) how n) kind link:=by
 have e0:=h.ln;obtain⟨x,rfl⟩:=hq;have h1:Inv ({s.c with q:=Q.drop s.c.q x}:Core):=⟨h.p,h.tok,h.q.drop x (λa ha hx=>(h.q.each a ha).2.2.2.2.1),h.af,h.samples,h.mode,h.doors⟩;refine⟨?_,.inr ⟨how,?_,hk⟩⟩
 ·exact Inv.goes (s:={s with c:={s.c with q:=Q.drop s.c.q x}}) h1 (mG.pass h.p hf (by have:=h.tok.ah;omega))
 ·have q0:Quiet C b s ({s with c:={s.c with q:=Q.drop s.c.q x}}:aa):=aa.iP rfl rfl rfl rfl;exact q0.goes (aa.HK (by simp[Tok.pass];omega) (by simpa[Tok.pass]using cE) rfl (.inl ⟨he,rfl⟩) e0.1 abZ hn)
theorem am1 (h:Inv s.c) (hl:1<=l/\l<=3) (hm:tO m):fI C b s (s.release C l m) 0 l:=by
 unfold aa.release;dsimp only;split
 ·have h2:=ab4 s.c.t s.c.q l;exact xu h hl hm.seq ⟨h2.1,vW h2.2 (by decide)⟩
 rename_i hz;obtain⟨g0,a,r,g1,g2,g3,g4,g5,g6⟩:=ab5 (by simpa using hz);rw[g2];refine zH (HM h ⟨g3,g4⟩ ⟨_,rfl⟩ g5 g6 (by simp) hm.seq ?_) hl hm.seq;refine .inr (.inl ⟨rfl,by simp,⟨a,r,g1,by simp[Tok.pass]⟩,?_⟩);simp;omega
theorem am2 (h:Inv s.c) (hl:1<=l/\l<=3) (hm:tO m) (fa:s.c.af.on l=true):fI C b s (s.ask C l m) 0 l:=by
 have e0:=h.ln;unfold aa.ask;dsimp only;split
 ·have h2:=@amX s.c.p s.c.t s.c.p.queue s.c.q l m.now;exact xu h hl hm.seq ⟨h2.1,vW h2.2 (by decide)⟩
 rename_i hz;obtain⟨g1,g2,g3,g4⟩:=amY (by simpa using hz);refine zH ?_ hl hm.seq;rcases g4 with⟨g4,g5,g6,g7⟩|⟨g4,g5,g6,g7⟩
 ·rw[g4];rw[if_pos (by simp)];refine HM h ⟨g5,g6⟩ ⟨_,rfl⟩ g2 g3 (by simp) hm.seq ?_;refine .inr (.inr (.inl ⟨rfl,rfl,by simp[Tok.pass],?_,g1⟩));simp only[aa.abY,Tok.pass];rcases g7 with g7|g7
  ·rw[g7,ahq h.p (by omega) (by omega)];simpa using ahr h.p (by omega)
  ·exact g7
 ·rw[g4];rw[if_neg (by simp)];refine .kq ?_ ?_
  ·refine Inv.record (s:=({s with c:={s.c with q:=Q.insert s.c.q ⟨l,bb s.c.p l,Timer.start s.c.p.ask⟩}}:aa).eu s.c.t) (h.Mu h.tok ?_) ..;exact h.q.insert h.p hl fa g2 g5 g6
  ·refine Quiet.trans (t:=({s with c:={s.c with q:=Q.insert s.c.q ⟨l,bb s.c.p l,Timer.start s.c.p.ask⟩}}:aa).eu s.c.t) (aa.iP rfl rfl rfl rfl) (aa.ox (by simp) ?_);have:=hm.seq;constructor<;>simp[aa.eu]<;>omega
theorem Tr (p:aO) (t:Tok) (a r mo:Int) (m:a9):0<=mF p t a r mo m/\mF p t a r mo m<=23:=by
 unfold mF;by_cases h1:m.kind≠10/\m.kind≠11
 ·rw[if_pos h1];simp
 rw[if_neg h1];by_cases h2:a≠t.aG
 ·rw[if_pos h2];simp
 rw[if_neg h2];by_cases h3:m.ah≠t.ah
 ·rw[if_pos h3];simp
 rw[if_neg h3];by_cases h4:may p mo r (if m.kind=10 then 0 else m.cls)=false
 ·rw[if_pos h4];simp
 rw[if_neg h4];by_cases h5:m.kind=10/\Sd.goes p mo m.mode=false
 ·rw[if_pos h5];simp
 ·rw[if_neg h5];simp
theorem am3 (h:Inv s.c) (hl:1<=l/\l<=3) (hm:tO m):fI C b s (s.command C l m) 0 l:=by
 have e0:=h.ln;unfold aa.command;dsimp only;split
 ·have:=Tr s.c.p s.c.t l (s.c.af.role l) s.c.mode m;exact xu h hl hm.seq (by omega)
 refine zH ?_ hl hm.seq;have:=hm.seq;split
 ·refine .kq (Inv.head (c:={s.c with mode:=m.mode,d_:=_}) ⟨h.p,h.tok,h.q,h.af,h.samples,hm.mode,h.doors⟩ _) ?_;refine Quiet.trans (t:={s with c:={s.c with mode:=m.mode,d_:=⟨1,l,m.seq⟩}}) (aa.iP rfl rfl rfl rfl) (aa.ox (by simp) ?_);constructor<;>simp<;>omega
 ·refine .kq (Inv.head (c:={s.c with pt:=s.c.pt.set s.c.p m.cls m.x ⟨1,l,m.seq⟩}) ⟨h.p,h.tok,h.q,h.af,h.samples,h.mode,h.doors⟩ _) ?_;refine Quiet.trans (t:={s with c:={s.c with pt:=s.c.pt.set s.c.p m.cls m.x ⟨1,l,m.seq⟩}}) (aa.iP rfl rfl rfl rfl) (aa.ox (by simp) ?_);constructor<;>simp<;>omega
end Sd
namespace Sd
variable{C:aK} {b:Prop} {s:aa} {l:Int} {m:a9}
theorem Mv (t:Tok) (x:Int):(t.drop x).1.aG=t.aG/\(t.drop x).1.ah=t.ah/\(t.drop x).1.la=t.la/\(t.drop x).1.bad=t.bad/\
 ((t.drop x).1=t/\(t.drop x).2=false/\(t.offer<0\/t.offer≠x)\/(t.drop x).1=t.iL/\(t.drop x).2=true/\t.offer=x):=by
 unfold Tok.drop;split
 ·rename_i h;exact⟨rfl,rfl,rfl,rfl,.inl ⟨rfl,rfl,h⟩⟩
 ·rename_i h;refine⟨rfl,rfl,rfl,rfl,.inr ⟨rfl,rfl,?_⟩⟩;by_cases hx:t.offer=x
  ·exact hx
  ·exact absurd (.inr hx) h
theorem Ts (C:aK) (s:aa) (x:Int):∃hd,(s.leave C x).c={s.c with q:=Q.drop s.c.q x,t:=(s.c.t.drop x).1,head:=hd}:=by
 unfold aa.leave;dsimp only;rcases(Mv s.c.t x).2.2.2.2 with⟨h1,h2,_⟩|⟨h1,h2,_⟩
 ·rw[if_pos h2,h1];exact⟨s.c.head,rfl⟩
 ·rw[if_neg (by rw[h2];simp)];refine⟨C.next s.c.head ⟨12,x,0,(s.c.t.drop x).1.ah,16,0⟩,?_⟩;rw[show∀(y:aa) (k a n e w:Int),(y.record C k a n e w).c={y.c with head:=C.next y.c.head ⟨k,a,n,y.c.t.ah,e,w⟩}from λ_ _ _ _ _ _=>rfl];simp only[aa.lJ]
theorem ab6 {x:Int} (hx:1<=x/\x<=3) (he:0<=s.c.t.ah/\s.c.t.ah<=65535):Quiet C b s (s.leave C x):=by
 unfold aa.leave;dsimp only;have q0:Quiet C b s ({s with c:={s.c with q:=Q.drop s.c.q x}}:aa):=aa.iP rfl rfl rfl rfl;have hd:=Mv s.c.t x;split
 ·exact q0
 ·refine q0.trans (Quiet.trans (t:=({s with c:={s.c with q:=Q.drop s.c.q x,t:=(s.c.t.drop x).1}}:aa)) (aa.iP hd.1 hd.2.1 rfl rfl) ?_);refine Quiet.trans (aa.zG (aa.HJ (by omega) (by simp))) (aa.ox (by simp) ?_);have e:(({s with c:={s.c with q:=Q.drop s.c.q x,t:=(s.c.t.drop x).1}}:aa).dP (s.c.t.drop x).1.aG {kind:=136,cX:=x,code:=16}).c.t.ah=s.c.t.ah:=by
   rw[aa.kL];exact hd.2.1
  constructor<;>first|(dsimp only;rw[e];exact he)|(simp;done)|(simp;omega)
theorem Inv.leave {T:aw} {x:Int} (h:Inv {s.c with af:=T}):Inv {(s.leave C x).c with af:=T}/\(s.leave C x).c.af=s.c.af/\(s.leave C x).c.p=s.c.p/\
 (s.leave C x).c.q=Q.drop s.c.q x/\(s.leave C x).c.t.offer≠x/\((s.leave C x).c.t.offer=s.c.t.offer\/(s.leave C x).c.t.offer=-1)/\(s.leave C x).c.t.aG=s.c.t.aG\/x<0:=by
 by_cases hx:x<0
 ·exact .inr hx
 refine .inl ?_;obtain⟨hd,e⟩:=Ts C s x;have HN:=Mv s.c.t x;rw[e];refine⟨?_,rfl,rfl,rfl,?_,?_,HN.1⟩
 ·have ht:mG s.c.p T (s.c.t.drop x).1:=by
   rcases HN.2.2.2.2 with⟨h1,_,_⟩|⟨h1,_,_⟩
   ·rw[h1];exact h.tok
   ·rw[h1];exact⟨h.tok.aG,h.tok.ah,.inl rfl,h.tok.lost⟩
  exact⟨h.p,ht,h.q.drop x (λa ha _=>by show a.source≠(s.c.t.drop x).1.aG;rw[HN.1];exact(h.q.each a ha).2.2.2.2.1),h.af,h.samples,h.mode,h.doors⟩
 ·show(s.c.t.drop x).1.offer≠x;rcases HN.2.2.2.2 with⟨h1,_,h2⟩|⟨h1,_,_⟩
  ·rw[h1];omega
  ·rw[h1];simp[Tok.iL];omega
 ·show(s.c.t.drop x).1.offer=s.c.t.offer\/(s.c.t.drop x).1.offer=-1;rcases HN.2.2.2.2 with⟨h1,_,h2⟩|⟨h1,_,_⟩
  ·rw[h1];exact .inl rfl
  ·rw[h1];exact .inr rfl
theorem Inv.tP {c:Core} {T:aw} (h:Inv {c with af:=T}) (e:c.af=T):Inv c:=by subst e;exact h
theorem Inv.Mw {c:Core} {T T':aw} (h:Inv {c with af:=T}) (ht:DA c.p T') (hq:∀a∈c.q,T'.on a.source=true) (ho:0<=c.t.offer->T'.on c.t.offer=true):Inv {c with af:=T'}:=
 ⟨h.p,⟨h.tok.aG,h.tok.ah,h.tok.offer.imp id (λ⟨a,b,d,_,f⟩=>⟨a,b,d,ho (vW (by decide) a),f⟩),h.tok.lost⟩,
  ⟨λa ha=>⟨(h.q.each a ha).1,(h.q.each a ha).2.1,(h.q.each a ha).2.2.1,hq a ha,(h.q.each a ha).2.2.2.2⟩,h.q.sorted,h.q.len⟩,ht,h.samples,h.mode,h.doors⟩
theorem am4 {t:aw} {i:Nat} {x:fN} {u:Int} (hu:u.toNat-1≠i):(t.eD i x).on u=t.on u:=by
 simp[aw.on,aw.cj,aw.eD,hu]
theorem Mx {t:aw} {u:Int} {i:Nat} {x:fN} (h:t.on u=true) (hx:x.on=true):(t.eD i x).on u=true:=by
 unfold aw.on aw.cj aw.eD at*;split at h
 ·rename_i h1;rw[if_pos h1]
 ·rename_i h1;rw[if_neg h1];split at h
  ·rename_i h2;rw[if_pos h2];exact h
  ·rename_i h2;rw[if_neg h2];simp only[bu]at h⊢;refine⟨h.1,?_⟩;split
   ·exact hx
   ·exact h.2
theorem am5 {p:aO} {t:aw} (h:DA p t) (l:Int):DA p (t.end_ l):=by
 unfold aw.end_;split
 ·refine⟨h.cN,λi hi fa=>?_⟩;unfold aw.eD at*;dsimp only at*;split at fa
  ·cases fa
  ·rename_i cE;rw[if_neg cE];exact h.ak i hi fa
 ·exact h
theorem ab7 {t:aw} {l u:Int} (hl:1<=l/\l<=3) (hu:u≠l) (h:t.on u=true):(t.end_ l).on u=true:=by
 unfold aw.end_;split
 ·by_cases h1:u=4
  ·simp[aw.on,h1]
  by_cases h2:u=0
  ·subst h2;simpa[aw.on,aw.eD]using h
  have h3:1<=u/\u<=3:=by
   unfold aw.on aw.cj at h;rw[if_neg h1,if_neg h2]at h;simp at h;exact h.1
  rw[am4 (by omega)];exact h
 ·exact h
theorem am6 (h:Inv s.c) (hl:1<=l/\l<=3) (hm:tO m):fI C b s (s.A_ C l m) 0 l:=by
 have e0:=h.ln;unfold aa.A_;refine zH ?_ hl hm.seq;have hq:Quiet C b s ((({s with c:={s.c with af:=s.c.af.end_ l}}:aa).leave C l)):=
  Quiet.trans (t:=({s with c:={s.c with af:=s.c.af.end_ l}}:aa)) (aa.iP rfl rfl rfl rfl) (ab6 hl e0)
 have hs:=hm.seq;refine .kq ?_ (hq.trans (aa.ox (by simp) ?_))
 ·refine Inv.record ?_ ..;rcases Inv.leave (C:=C) (s:=({s with c:={s.c with af:=s.c.af.end_ l}}:aa)) (T:=s.c.af) (x:=l) h with⟨h1,h2,h3,h4,h5,h6,h7⟩|hx
  ·refine Inv.tP (T:=s.c.af.end_ l) (Inv.Mw h1 (T':=s.c.af.end_ l) (by simpa[h3]using am5 h.af l) ?_ ?_) h2
   ·intro a ha;have uM:a∈Q.drop s.c.q l:=by simpa[h4]using ha
    simp only[Q.drop,AE,decide_eq_true_eq]at uM;exact ab7 hl uM.2 (h.q.each a uM.1).2.2.2.1
   ·intro ho;refine ab7 hl h5 ?_;rcases h6 with h6|h6
    ·rcases h.tok.offer with h9|⟨_,_,_,h9,_⟩
     ·simp at ho h6;omega
     ·simpa[h6]using h9
    ·simp[h6]at ho
  ·omega
 ·have e1:=hq.ah;constructor<;>first|(dsimp only;rw[e1];exact e0)|(simp;done)|(simp;omega)
theorem am7 {X:aa} {r:aF} {k a n e w:Int} (h:Quiet C b s X) (ht:ow (l,r)) (hk:k≠8) (hb:BZ b ⟨k,a,n,X.c.t.ah,e,w⟩):Quiet C b s ((X.tell l r).record C k a n e w):=
 h.trans (Quiet.trans (aa.HH ht) (aa.ox hk hb))
structure HO (C:aK):Prop where
 aA:∀k s n j,0<=C.aA k s n j/\C.aA k s n j<=255
 take:∀n f m,C.take n f=some m->tO m
 fg:∀w n,0<=w.high/\w.high<=4294967295->0<=n/\n<=4294967295->0<=(C.fg w n).high/\(C.fg w n).high<=4294967295
theorem ab8 {d:Nat->eC} (h:Inv s.c) (hd:∀i,i<3->0<=(d i).many):Inv ({s.c with doors:=d}:Core)/\Quiet C b s ({s with c:={s.c with doors:=d}}:aa):=
 ⟨⟨h.p,h.tok,h.q,h.af,h.samples,h.mode,hd⟩,aa.iP rfl rfl rfl rfl⟩
theorem ab9 {n:Nat} {f:ao} (hC:HO C) (h:Inv s.c) (hl:1<=l/\l<=3):fI C b s (s.lC C l n f) 0 l:=by
 have e0:=h.ln;unfold aa.lC;split
 ·exact HL h hl (λ_=>by omega)
 rename_i m hm;split
 ·exact xu h hl (by omega) (by omega)
 dsimp only;split
 ·exact xu h hl (by omega) (by omega)
 have hd:=h.doors (l.toNat-1) (by omega);obtain⟨i1,q1⟩:=ab8 (C:=C) (b:=b) h (d:=λj=>if j=l.toNat-1 then⟨(s.c.doors (l.toNat-1)).many+1,true,C.aA (s.c.p.k 3) l ((s.c.doors (l.toNat-1)).many+1)⟩else s.c.doors j)
  (λi hi=>by split<;>first|(dsimp only;omega)|exact h.doors i hi)
 refine .kq (Inv.head i1 _) (q1.trans (Quiet.trans (aa.HH ⟨hl,aa.amJ (hC.aA (s.c.p.k 3) l ((s.c.doors (l.toNat-1)).many+1))⟩) ?_));exact aa.ox (by simp) (by constructor<;>simp<;>omega)
theorem am8 {p:aO} {t:aw} {s r:Int} {k:ao} (h:(aw.eL p t s r k).2=0):
 (aw.eL p t s r k).1=t.eD (s.toNat-1) ⟨true,.start p.bV,r,k,⟨false,0,0⟩⟩/\1<=s/\s<=3/\0<=r/\r<=3:=by
 unfold aw.eL at*;split at h
 ·simp at h
 split at h
 ·simp at h
 rename_i h1 h2;rw[if_neg h1,if_neg h2];exact⟨rfl,by omega,by omega,by omega,by omega⟩
theorem am9 (p:aO) (t:aw) (s r:Int) (k:ao):0<=(aw.eL p t s r k).2/\(aw.eL p t s r k).2<=19:=by
 unfold aw.eL;repeat' split
 all_goals simp
theorem Inv.eD {c:Core} (h:Inv c) {i:Nat} {x:fN} (hx:x.on=true) (Bw:x.cI.most=c.p.bV/\0<=x.cI.n/\x.cI.n<c.p.bV/\0<=x.role/\x.role<=3/\0<=x.seen.high/\x.seen.high<=4294967295):Inv {c with af:=c.af.eD i x}:=by
 refine Inv.Mw (T:=c.af) h ?_ (λa ha=>Mx (h.q.each a ha).2.2.2.1 hx) (λho=>?_)
 ·refine⟨h.af.cN,λj hj fa=>?_⟩;unfold aw.eD at*;dsimp only at*;split at fa
  ·rename_i e;rw[if_pos e];exact Bw
  ·rename_i e;rw[if_neg e];exact h.af.ak j hj fa
 ·rcases h.tok.offer with h1|⟨_,_,_,h1,_⟩
  ·omega
  ·exact Mx h1 hx
theorem ab_ {n:Nat} {f:ao} (hC:HO C) (h:Inv s.c) (hl:1<=l/\l<=3):fI C b s (s.prove C l n f) 0 l:=by
 have e0:=h.ln;unfold aa.prove;split
 ·exact HL h hl (λ_=>by omega)
 split
 ·exact HL h hl (λ_=>by omega)
 rename_i m hm;have hmb:=hC.take _ _ _ hm;dsimp only;split
 ·exact xu h hl (by omega) (by omega)
 have hd:=h.doors (l.toNat-1) (by omega);obtain⟨i1,q1⟩:=ab8 (C:=C) (b:=b) h (d:=λj=>if j=l.toNat-1 then⟨(s.c.doors (l.toNat-1)).many,false,λ_=>0⟩else s.c.doors j)
  (λi hi=>by split<;>first|(dsimp only;omega)|exact h.doors i hi)
 split
 ·exact⟨i1.head _,.inl (q1.trans (ab0 (s:=⟨_,_,_⟩) i1 hl (λ_=>by omega)))⟩
 split
 ·exact⟨i1.head _,.inl (q1.trans (Tq (s:=⟨_,_,_⟩) i1 hl (by omega) (by omega)))⟩
 split
 ·have h2:=am9 s.c.p s.c.af l m.role (C.key (s.c.p.k (l.toNat-1)) l m.role (s.c.doors (l.toNat-1)).aA);exact⟨i1.head _,.inl (q1.trans (Tq (s:=⟨_,_,_⟩) i1 hl (by omega) ⟨h2.1,vW h2.2 (by decide)⟩))⟩
 rename_i hz;obtain⟨g1,g2,g3,g4,g5⟩:=am8 (by simpa using hz);have hb:=h.p.bV;have i2:=Inv.eD (c:={s.c with doors:=_}) i1 (i:=l.toNat-1) (x:=⟨true,.start s.c.p.bV,m.role,C.key (s.c.p.k (l.toNat-1)) l m.role (s.c.doors (l.toNat-1)).aA,⟨false,0,0⟩⟩) rfl
  ⟨by simp[Timer.start];omega,by simp[Timer.start],by simp[Timer.start];omega,g4,g5,by simp,by simp⟩
 have hh:=h.tok.aG;rw[g1];refine .kq (Inv.head i2 _) (am7 (q1.trans (aa.iP rfl rfl rfl rfl)) ⟨hl,aa.amI ⟨g4,g5⟩ hh e0⟩ (by simp) ?_);constructor<;>simp<;>omega
theorem aca {p:aO} {t t':aw} {l:Int} {n:Nat} {f:ao} {m:a9} (hC:HO C) (h:aw.take C p t l n f=(t',.ok m)):
 t.cj l=true/\tO m/\m.kind≠1/\m.kind≠2/\
 t'=t.eD (l.toNat-1) {(t.ak (l.toNat-1))with seen:=C.fg (t.ak (l.toNat-1)).seen m.seq,on:=true,cI:=.start p.bV}:=by
 unfold aw.take at h;split at h
 ·simp at h
 rename_i h1;split at h
 ·simp at h
 split at h
 ·simp at h
 rename_i m' hm;split at h
 ·simp at h
 split at h
 ·simp at h
 rename_i h2 h3;simp at h;obtain⟨rfl,rfl⟩:=h;exact⟨by simpa using h1,hC.take _ _ _ hm,by omega,by omega,rfl⟩
theorem Tt {p:aO} {t t':aw} {l:Int} {n:Nat} {f:ao} {e:Int} (h:aw.take C p t l n f=(t',.error e)):13<=e/\e<=16:=by
 unfold aw.take at h;split at h
 ·simp at h;omega
 split at h
 ·simp at h;omega
 split at h
 ·simp at h;omega
 split at h
 ·simp at h;omega
 split at h
 ·simp at h;omega
 ·simp at h
theorem acb (h:Inv s.c) (hl:1<=l/\l<=3) (hm:tO m) (fa:s.c.af.on l=true) (h1:m.kind≠1) (h2:m.kind≠2):fI C b s (s.jC C l m) 0 l:=by
 have hk:=hm.kind;unfold aa.jC;split
 ·exact zH (.kq h (Quiet.refl ..)) hl hm.seq
 split
 ·exact am6 h hl hm
 split
 ·exact am2 h hl hm fa
 split
 ·exact amQ h hl hm
 split
 ·exact amR h hl hm
 split
 ·exact amS h hl hm
 split
 ·exact am1 h hl hm
 split
 ·exact am3 h hl hm
 ·omega
theorem Tu {t:aw} {l:Int} (hl:1<=l/\l<=3):t.on l=t.cj l:=by
 unfold aw.on;rw[if_neg (by omega),if_neg (by omega)]
theorem fI.tP {t:aa} {T:aw} {kind link:Int} (k:fI C b ({s with c:={s.c with af:=T}}:aa) t kind link):fI C b s t kind link:=
 ⟨k.inv,by
  rcases k.B8 with q|⟨how,g,w⟩
  ·refine .inl (Quiet.trans ?_ q);exact aa.iP rfl rfl rfl rfl
  ·refine .inr ⟨how,Quiet.goes ?_ g,w⟩;exact aa.iP rfl rfl rfl rfl⟩
theorem acd {n:Nat} {f:ao} {code:Int} (hC:HO C) (h:Inv s.c) (hl:1<=l/\l<=3) (hb:b->0<=code/\code<=255):fI C b s (s.item C l code n f) 0 l:=by
 unfold aa.item;split
 ·exact HL h hl hb
 split
 ·exact ab9 hC h hl
 split
 ·exact ab_ hC h hl
 split
 ·rename_i t e he;have:=Tt he;exact HL h hl (λ_=>by omega)
 ·rename_i t m he;obtain⟨g1,g2,g3,g4,g5⟩:=aca hC he;have hb:=h.p.bV;have My:s.c.af.on l=true:=by rw[Tu hl];exact g1
  have i1:=h.eD (i:=l.toNat-1) (x:={(s.c.af.ak (l.toNat-1))with seen:=C.fg (s.c.af.ak (l.toNat-1)).seen m.seq,on:=true,cI:=.start s.c.p.bV}) rfl
   (by
    have fa:(s.c.af.ak (l.toNat-1)).on=true:=by unfold aw.cj at g1;simp at g1;exact g1.2
    have:=h.af.ak (l.toNat-1) (by omega) fa;have h9:=hC.fg (s.c.af.ak (l.toNat-1)).seen m.seq ⟨by omega,by omega⟩ g2.seq;simp[Timer.start];omega)
  subst g5;exact fI.tP (acb (s:=⟨{s.c with af:=_},s.bg,s.bH⟩) i1 hl g2 (Mx My rfl) g3 g4)
end Sd
namespace Go.Proofs.YtggfpcggakghnaaGreatDoor
section
open Go Go.RowKit Go.BigFrame Sx
theorem Eu (x y:Int) (hx:0<=x/\x<2^56) (hy:0<=y/\y<256):bits .or .u64 (u64.wrap (x*2^8)) y=x*256+y:=by
 have hw:u64.wrap (x*2^8)=x*256:=by rw[s9];omega
 rw[hw];obtain⟨a,rfl⟩:∃a:Nat,x=a:=⟨x.toNat,by omega⟩;obtain⟨b,rfl⟩:∃b:Nat,y=b:=⟨y.toNat,by omega⟩;have ha:a<2^56:=by omega
 have hb:b<256:=by omega
 unfold bits;have h1:(oP 64 ((a:Int)*256)).toNat=a*256:=by simp only[J7];omega
 have h2:(oP 64 (b:Int)).toNat=b:=by simp only[J7];omega
 have h3:(a*256|||b)=a*256+b:=by
  have:=Nat.shiftLeft_add_eq_or_of_lt (i:=8) (b:=b) (by omega) a;rw[Nat.shiftLeft_eq]at this;exact this.symm
 show u64.wrap (((oP 64 ((a:Int)*256)|||oP 64 (b:Int)).toNat:Nat):Int)=_;rw[BitVec.toNat_or,h1,h2,h3,s9];omega
theorem Tv (y:Int) (hy:0<=y/\y<256):bits .or .u64 0 y=y:=by
 have h:=Eu 0 y (by omega) hy;rw[show u64.wrap (0*2^8)=0 from by decide]at h;rw[h];omega
def Ev (f:Nat->Int):Int:=f 0
def gK (f:Nat->Int):Int:=f 0*256+f 1
def B9 (f:Nat->Int):Int:=((f 0*256+f 1)*256+f 2)*256+f 3
def By (f:Nat->Int):Prop:=∀j,0<=f j/\f j<=255
theorem am_ {f:Nat->Int} (h:By f):0<=Ev f/\Ev f<=255:=h 0
theorem ace {f:Nat->Int} (h:By f):0<=gK f/\gK f<=65535:=by have:=h 0;have:=h 1;unfold gK;omega
theorem ana {f:Nat->Int} (h:By f):0<=B9 f/\B9 f<=4294967295:=by have:=h 0;have:=h 1;have:=h 2;have:=h 3;unfold B9;omega
def zI (x:Int):Int:=if 32767<x then x-65536 else x
theorem anb (b o c:Nat) (f:Nat->Int) (hf:By f) (w:ag) (hB:cx w b o 1 f):
 aV prog 178 #[.slice (some ⟨b,o,none⟩) 1 c] w λv w1=>v=.tuple #[.int .u64 (Ev f),.int .i64 0]/\Ch [] w w1:=by
 have S0:=St.nil [] w;refine jd Tryz.func178 rfl ?_;refine aS (aZ ?_);refine au (.int .u64 0) ?_;refine au (.int .i64 0) ?_;refine aW (aR (aS (aS (aZ ?_))));refine dZ ?_;refine au (.int .i64 1) ?_;refine au (.bool false) ?_;refine aW (aR (pQ ?_));refine j7 (aR (aS (aZ ?_)));refine au (.int .u64 0) ?_;refine aW (aR (aS (aS (aZ ?_))));refine dZ ?_;refine au (.int .i64 1) ?_;refine au (.int .i64 0) ?_;refine aW (aR (jw (FN 24 (aS (aZ ?_)))));refine au (.bool true) ?_;refine aW (aR (aS (v5 ?_)));refine j7 (aR (aS (jw (aS (aZ ?_)))));refine au (.int .i64 0) ?_;refine au (.int .i64 0) ?_;refine aW (aR (aZ ?_));refine au (.int .u64 0) ?_;refine au (.int .u64 0) ?_;refine dZ ?_;refine au (.int .i64 0) ?_;refine rG (e:=5) b o 0 1 1 c .i64 0 (by omega) (by omega) (by omega) ?_;refine uH b o 1 (o+0*1) 0 f (St.lY S0 hB (by simp)) (by omega) (by omega) ?_;have zh1:=hf 0;refine lA .u64 (f 0) (vV _ (by omega)) ?_;refine oR (.int .u64 (bits .or .u64 0 (f 0))) (.int .u64 (f 0)) (congrArg _ (Tv (f 0) (by omega))) ?_;refine au (.int .u64 (f 0)) ?_;refine aW (lS (aR (aZ ?_)));refine au (.int .i64 1) ?_;refine au (.int .i64 1) ?_;refine aW (v3 (aS (aZ ?_)));refine au (.bool false) ?_;refine aW (aR (aS (pQ ?_)));refine wp_exit (lR (lR (vZ (aR (aS (aZ ?_))))));refine au (.int .u64 (f 0)) ?_;refine au (.int .u64 (f 0)) ?_;refine au (.int .i64 0) ?_;refine aW (aR (gU ?_));refine gF rfl (gb [.tmp 2,.tmp 3] [.int .u64 (f 0),.int .i64 0] (.tuple #[.int .u64 (f 0),.int .i64 0]) ⟨jz,jz,trivial⟩) ?_;exact⟨rfl,S0.ch⟩
theorem acf (b o c:Nat) (f:Nat->Int) (hf:By f) (w:ag) (hB:cx w b o 2 f):
 aV prog 178 #[.slice (some ⟨b,o,none⟩) 2 c] w λv w1=>v=.tuple #[.int .u64 (gK f),.int .i64 0]/\Ch [] w w1:=by
 have S0:=St.nil [] w;refine jd Tryz.func178 rfl ?_;refine aS (aZ ?_);refine au (.int .u64 0) ?_;refine au (.int .i64 0) ?_;refine aW (aR (aS (aS (aZ ?_))));refine dZ ?_;refine au (.int .i64 2) ?_;refine au (.bool false) ?_;refine aW (aR (pQ ?_));refine j7 (aR (aS (aZ ?_)));refine au (.int .u64 0) ?_;refine aW (aR (aS (aS (aZ ?_))));refine dZ ?_;refine au (.int .i64 2) ?_;refine au (.int .i64 0) ?_;refine aW (aR (jw (FN 24 (aS (aZ ?_)))));refine au (.bool true) ?_;refine aW (aR (aS (v5 ?_)));refine j7 (aR (aS (jw (aS (aZ ?_)))));refine au (.int .i64 0) ?_;refine au (.int .i64 0) ?_;refine aW (aR (aZ ?_));refine au (.int .u64 0) ?_;refine au (.int .u64 0) ?_;refine dZ ?_;refine au (.int .i64 0) ?_;refine rG (e:=5) b o 0 2 1 c .i64 0 (by omega) (by omega) (by omega) ?_;refine uH b o 2 (o+0*1) 0 f (St.lY S0 hB (by simp)) (by omega) (by omega) ?_;have zh1:=hf 0;refine lA .u64 (f 0) (vV _ (by omega)) ?_;refine oR (.int .u64 (bits .or .u64 0 (f 0))) (.int .u64 (f 0)) (congrArg _ (Tv (f 0) (by omega))) ?_;refine au (.int .u64 (f 0)) ?_;refine aW (lS (aR (aZ ?_)));refine au (.int .i64 1) ?_;refine au (.int .i64 1) ?_;refine aW (v3 (aS (aZ ?_)));refine au (.bool true) ?_;refine aW (aR (aS (v5 ?_)));refine j7 (aR (aS (jw (aS (aZ ?_)))));refine au (.int .i64 1) ?_;refine au (.int .i64 1) ?_;refine aW (aR (aZ ?_));refine au (.int .u64 (f 0)) ?_;refine au (.int .u64 (u64.wrap ((f 0)*2^8))) ?_;refine dZ ?_;refine au (.int .i64 1) ?_;refine rG (e:=5) b o 1 2 1 c .i64 1 (by omega) (by omega) (by omega) ?_;refine uH b o 2 (o+1*1) 1 f (St.lY S0 hB (by simp)) (by omega) (by omega) ?_;have Tw:=hf 1;refine lA .u64 (f 1) (vV _ (by omega)) ?_;refine oR (.int .u64 (bits .or .u64 (u64.wrap ((f 0)*2^8)) (f 1))) (.int .u64 ((f 0)*256+(f 1))) (congrArg _ (Eu (f 0) (f 1) (by omega) (by omega))) ?_;refine gx ?_;refine aW (lS (aR (aZ ?_)));refine au (.int .i64 2) ?_;refine au (.int .i64 2) ?_;refine aW (v3 (aS (aZ ?_)));refine au (.bool false) ?_;refine aW (aR (aS (pQ ?_)));refine wp_exit (lR (lR (vZ (aR (aS (aZ ?_))))));refine dZ ?_;refine gx ?_;refine au (.int .i64 0) ?_;refine aW (aR (gU ?_));refine gF rfl (gb [.tmp 2,.tmp 3] [.int .u64 ((f 0)*256+(f 1)),.int .i64 0] (.tuple #[.int .u64 ((f 0)*256+(f 1)),.int .i64 0]) ⟨jz,jz,trivial⟩) ?_;exact⟨rfl,S0.ch⟩
theorem anc (b o c:Nat) (f:Nat->Int) (hf:By f) (w:ag) (hB:cx w b o 4 f):
 aV prog 178 #[.slice (some ⟨b,o,none⟩) 4 c] w λv w1=>v=.tuple #[.int .u64 (B9 f),.int .i64 0]/\Ch [] w w1:=by
 have S0:=St.nil [] w;refine jd Tryz.func178 rfl ?_;refine aS (aZ ?_);refine au (.int .u64 0) ?_;refine au (.int .i64 0) ?_;refine aW (aR (aS (aS (aZ ?_))));refine dZ ?_;refine au (.int .i64 4) ?_;refine au (.bool false) ?_;refine aW (aR (pQ ?_));refine j7 (aR (aS (aZ ?_)));refine au (.int .u64 0) ?_;refine aW (aR (aS (aS (aZ ?_))));refine dZ ?_;refine au (.int .i64 4) ?_;refine au (.int .i64 0) ?_;refine aW (aR (jw (FN 24 (aS (aZ ?_)))));refine au (.bool true) ?_;refine aW (aR (aS (v5 ?_)));refine j7 (aR (aS (jw (aS (aZ ?_)))));refine au (.int .i64 0) ?_;refine au (.int .i64 0) ?_;refine aW (aR (aZ ?_));refine au (.int .u64 0) ?_;refine au (.int .u64 0) ?_;refine dZ ?_;refine au (.int .i64 0) ?_;refine rG (e:=5) b o 0 4 1 c .i64 0 (by omega) (by omega) (by omega) ?_;refine uH b o 4 (o+0*1) 0 f (St.lY S0 hB (by simp)) (by omega) (by omega) ?_;have zh1:=hf 0;refine lA .u64 (f 0) (vV _ (by omega)) ?_;refine oR (.int .u64 (bits .or .u64 0 (f 0))) (.int .u64 (f 0)) (congrArg _ (Tv (f 0) (by omega))) ?_;refine au (.int .u64 (f 0)) ?_;refine aW (lS (aR (aZ ?_)));refine au (.int .i64 1) ?_;refine au (.int .i64 1) ?_;refine aW (v3 (aS (aZ ?_)));refine au (.bool true) ?_;refine aW (aR (aS (v5 ?_)));refine j7 (aR (aS (jw (aS (aZ ?_)))));refine au (.int .i64 1) ?_;refine au (.int .i64 1) ?_;refine aW (aR (aZ ?_));refine au (.int .u64 (f 0)) ?_;refine au (.int .u64 (u64.wrap ((f 0)*2^8))) ?_;refine dZ ?_;refine au (.int .i64 1) ?_;refine rG (e:=5) b o 1 4 1 c .i64 1 (by omega) (by omega) (by omega) ?_;refine uH b o 4 (o+1*1) 1 f (St.lY S0 hB (by simp)) (by omega) (by omega) ?_;have Tw:=hf 1;refine lA .u64 (f 1) (vV _ (by omega)) ?_;refine oR (.int .u64 (bits .or .u64 (u64.wrap ((f 0)*2^8)) (f 1))) (.int .u64 ((f 0)*256+(f 1))) (congrArg _ (Eu (f 0) (f 1) (by omega) (by omega))) ?_;refine gx ?_;refine aW (lS (aR (aZ ?_)));refine au (.int .i64 2) ?_;refine au (.int .i64 2) ?_;refine aW (v3 (aS (aZ ?_)));refine au (.bool true) ?_;refine aW (aR (aS (v5 ?_)));refine j7 (aR (aS (jw (aS (aZ ?_)))));refine au (.int .i64 2) ?_;refine au (.int .i64 2) ?_;refine aW (aR (aZ ?_));refine dZ ?_;refine au (.int .u64 (u64.wrap (((f 0)*256+(f 1))*2^8))) ?_;refine dZ ?_;refine au (.int .i64 2) ?_;refine rG (e:=5) b o 2 4 1 c .i64 2 (by omega) (by omega) (by omega) ?_;refine uH b o 4 (o+2*1) 2 f (St.lY S0 hB (by simp)) (by omega) (by omega) ?_;have zh3:=hf 2;refine lA .u64 (f 2) (vV _ (by omega)) ?_;refine oR (.int .u64 (bits .or .u64 (u64.wrap (((f 0)*256+(f 1))*2^8)) (f 2))) (.int .u64 (((f 0)*256+(f 1))*256+(f 2))) (congrArg _ (Eu ((f 0)*256+(f 1)) (f 2) (by omega) (by omega))) ?_;refine gx ?_;refine aW (lS (aR (aZ ?_)));refine au (.int .i64 3) ?_;refine au (.int .i64 3) ?_;refine aW (v3 (aS (aZ ?_)));refine au (.bool true) ?_;refine aW (aR (aS (v5 ?_)));refine j7 (aR (aS (jw (aS (aZ ?_)))));refine au (.int .i64 3) ?_;refine au (.int .i64 3) ?_;refine aW (aR (aZ ?_));refine dZ ?_;refine au (.int .u64 (u64.wrap ((((f 0)*256+(f 1))*256+(f 2))*2^8))) ?_;refine dZ ?_;refine au (.int .i64 3) ?_;refine rG (e:=5) b o 3 4 1 c .i64 3 (by omega) (by omega) (by omega) ?_;refine uH b o 4 (o+3*1) 3 f (St.lY S0 hB (by simp)) (by omega) (by omega) ?_;have RV:=hf 3;refine lA .u64 (f 3) (vV _ (by omega)) ?_;refine oR (.int .u64 (bits .or .u64 (u64.wrap ((((f 0)*256+(f 1))*256+(f 2))*2^8)) (f 3))) (.int .u64 ((((f 0)*256+(f 1))*256+(f 2))*256+(f 3))) (congrArg _ (Eu (((f 0)*256+(f 1))*256+(f 2)) (f 3) (by omega) (by omega))) ?_;refine gx ?_;refine aW (lS (aR (aZ ?_)));refine au (.int .i64 4) ?_;refine au (.int .i64 4) ?_;refine aW (v3 (aS (aZ ?_)));refine au (.bool false) ?_;refine aW (aR (aS (pQ ?_)));refine wp_exit (lR (lR (vZ (aR (aS (aZ ?_))))));refine dZ ?_;refine gx ?_;refine au (.int .i64 0) ?_;refine aW (aR (gU ?_));refine gF rfl (gb [.tmp 2,.tmp 3] [.int .u64 ((((f 0)*256+(f 1))*256+(f 2))*256+(f 3)),.int .i64 0] (.tuple #[.int .u64 ((((f 0)*256+(f 1))*256+(f 2))*256+(f 3)),.int .i64 0]) ⟨jz,jz,trivial⟩) ?_;exact⟨rfl,S0.ch⟩
theorem ane (b o c:Nat) (f:Nat->Int) (hf:By f) (w:ag) (hB:cx w b o 2 f):
 aV prog 177 #[.slice (some ⟨b,o,none⟩) 2 c] w λv w1=>v=.tuple #[.int .i64 (zI (gK f)),.int .i64 0]/\Ch [] w w1:=by
 have S0:=St.nil [] w;refine jd Tryz.func177 rfl ?_;refine aS (aZ ?_);refine au (.int .i64 0) ?_;refine au (.int .i64 0) ?_;refine aW (aR (aS (aS (aZ ?_))));refine dZ ?_;refine au (.int .i64 2) ?_;refine au (.bool false) ?_;refine aW (aR (pQ ?_));refine j7 (aR (aS (aZ ?_)));refine dZ ?_;refine fT 178 #[.slice (some ⟨b,o,none⟩) 2 c] ?_;refine(acf b o c f hf _ (St.lY S0 hB (by simp))).mono ?_;rintro _ zw1 ⟨rfl,Tw⟩;have dQ:=S0.quiet Tw;have RV:=ace hf;refine dZ ?_;refine au (.int .u64 (gK f)) ?_;refine au (.int .i64 0) ?_;refine au (.int .u64 (gK f)) ?_;refine au (.int .i64 0) ?_;refine aW (aR (aS (aS (aZ ?_))));refine au (.int .i64 0) ?_;refine au (.bool false) ?_;refine aW (aR (pQ ?_));refine j7 (aR (aS (aZ ?_)));refine au (.int .u64 (gK f)) ?_;refine lA .i64 (gK f) (AO _ (by omega)) ?_;refine au (.int .i64 (gK f)) ?_;refine aW (aR (aS (aS (aZ ?_))));refine au (.int .i64 (gK f)) ?_;refine au (.bool (decide (32767<(gK f)))) ?_;refine aW (aR ?_);refine s_ (decide (32767<(gK f))) ?_ ?_
 ·intro Hb;have zh6:=AV Hb;refine aZ ?_;refine au (.int .i64 (gK f)) ?_;refine lA .i64 ((gK f)-65536) (AO _ (by omega)) ?_;refine gx ?_;refine aW (aR (aS (aZ ?_)));refine dZ ?_;refine gx ?_;refine au (.int .i64 0) ?_;refine aW (aR (gU ?_));refine gF rfl (gb [.tmp 2,.tmp 3] [.int .i64 ((gK f)-65536),.int .i64 0] (.tuple #[.int .i64 ((gK f)-65536),.int .i64 0]) ⟨jz,jz,trivial⟩) ?_;have ze:zI (gK f)=((gK f)-65536):=by unfold zI;split<;>omega
  exact⟨by(rw[ze])<;>rfl,dQ.ch⟩
 intro wW;have o9:=AW wW;refine j7 (aR (aS (aZ ?_)));refine au (.int .i64 (gK f)) ?_;refine au (.int .i64 (gK f)) ?_;refine au (.int .i64 0) ?_;refine aW (aR (gU ?_));refine gF rfl (gb [.tmp 2,.tmp 3] [.int .i64 (gK f),.int .i64 0] (.tuple #[.int .i64 (gK f),.int .i64 0]) ⟨jz,jz,trivial⟩) ?_;have ze:zI (gK f)=(gK f):=by unfold zI;split<;>omega
 exact⟨by(rw[ze])<;>rfl,dQ.ch⟩
end
section
open Go Go.RowKit Go.BigFrame Sx Vx
def Tx (t:Sd.Timer):List V:=[.int .i64 t.n,.int .i64 t.most]
def Mz:List V->Option Sd.Timer
 |[.int .i64 x0,.int .i64 x1]=>some ⟨x0,x1⟩
 |_=>none
theorem acg {l:List V} {t:Sd.Timer} (h:Mz l=some t):l=Tx t:=by
 unfold Mz at h;split at h
 ·obtain rfl:=cG h;rfl
 ·cases h
def x4L (t:Sd.X4):List V:=[.int .i64 t.a,.int .i64 t.b,.int .i64 t.c,.int .i64 t.d]
def MA:List V->Option Sd.X4
 |[.int .i64 x0,.int .i64 x1,.int .i64 x2,.int .i64 x3]=>some ⟨x0,x1,x2,x3⟩
 |_=>none
theorem ach {l:List V} {t:Sd.X4} (h:MA l=some t):l=x4L t:=by
 unfold MA at h;split at h
 ·obtain rfl:=cG h;rfl
 ·cases h
def oz (t:Sd.Label):List V:=[.int .i64 t.lZ,.int .i64 t.source,.int .i64 t.seq]
def HP:List V->Option Sd.Label
 |[.int .i64 x0,.int .i64 x1,.int .i64 x2]=>some ⟨x0,x1,x2⟩
 |_=>none
theorem Tz {l:List V} {t:Sd.Label} (h:HP l=some t):l=oz t:=by
 unfold HP at h;split at h
 ·obtain rfl:=cG h;rfl
 ·cases h
def di (t:Sd.Tok):List V:=[.int .i64 t.aG,.int .i64 t.ah,.int .i64 t.offer,.int .i64 t.oa.n,.int .i64 t.oa.most,.int .i64 t.la.n,.int .i64 t.la.most,.bool t.bad]
def kM:List V->Option Sd.Tok
 |[.int .i64 x0,.int .i64 x1,.int .i64 x2,.int .i64 x3,.int .i64 x4,.int .i64 x5,.int .i64 x6,.bool x7]=>some ⟨x0,x1,x2,⟨x3,x4⟩,⟨x5,x6⟩,x7⟩
 |_=>none
theorem oA {l:List V} {t:Sd.Tok} (h:kM l=some t):l=di t:=by
 unfold kM at h;split at h
 ·obtain rfl:=cG h;rfl
 ·cases h
def zJ (t:Sd.e_):List V:=[.int .i64 t.cls,.int .i64 t.aT.a,.int .i64 t.aT.b,.int .i64 t.aT.c,.int .i64 t.aT.d,.int .i64 t.now.a,.int .i64 t.now.b,.int .i64 t.now.c,.int .i64 t.now.d,.int .i64 t.bx.lZ,.int .i64 t.bx.source,.int .i64 t.bx.seq]
def HR:List V->Option Sd.e_
 |[.int .i64 x0,.int .i64 x1,.int .i64 x2,.int .i64 x3,.int .i64 x4,.int .i64 x5,.int .i64 x6,.int .i64 x7,.int .i64 x8,.int .i64 x9,.int .i64 TA,.int .i64 TD]=>some ⟨x0,⟨x1,x2,x3,x4⟩,⟨x5,x6,x7,x8⟩,⟨x9,TA,TD⟩⟩
 |_=>none
theorem TE {l:List V} {t:Sd.e_} (h:HR l=some t):l=zJ t:=by
 unfold HR at h;split at h
 ·obtain rfl:=cG h;rfl
 ·cases h
def cQ (t:Sd.a9):List V:=[.int .i64 t.kind,.int .i64 t.seq,.int .i64 t.role,.int .i64 t.aT,.int .i64 t.ah,.int .i64 t.mode,.int .i64 t.cls,.bool t.now,.int .i64 t.x.a,.int .i64 t.x.b,.int .i64 t.x.c,.int .i64 t.x.d]
def zK:List V->Option Sd.a9
 |[.int .i64 x0,.int .i64 x1,.int .i64 x2,.int .i64 x3,.int .i64 x4,.int .i64 x5,.int .i64 x6,.bool x7,.int .i64 x8,.int .i64 x9,.int .i64 TA,.int .i64 TD]=>some ⟨x0,x1,x2,x3,x4,x5,x6,x7,⟨x8,x9,TA,TD⟩⟩
 |_=>none
theorem Ew {l:List V} {t:Sd.a9} (h:zK l=some t):l=cQ t:=by
 unfold zK at h;split at h
 ·obtain rfl:=cG h;rfl
 ·cases h
theorem aci (ids:List Nat) (t:Sd.a9):den ids (.agg (cQ t))=.agg (Mi t):=rfl
def MB (t:Sd.n9):List V:=[.bool t.valid,.int .i64 t.x.a,.int .i64 t.x.b,.int .i64 t.x.c,.int .i64 t.x.d,.bool t.KG]
def MC:List V->Option Sd.n9
 |[.bool x0,.int .i64 x1,.int .i64 x2,.int .i64 x3,.int .i64 x4,.bool x5]=>some ⟨x0,⟨x1,x2,x3,x4⟩,x5⟩
 |_=>none
theorem acj {l:List V} {t:Sd.n9} (h:MC l=some t):l=MB t:=by
 unfold MC at h;split at h
 ·obtain rfl:=cG h;rfl
 ·cases h
def ack (t:Sd.gW):List V:=[.bool t.any,.int .i64 t.high,.int .u64 t.seen]
def TF:List V->Option Sd.gW
 |[.bool x0,.int .i64 x1,.int .u64 x2]=>some ⟨x0,x1,x2⟩
 |_=>none
theorem anf {l:List V} {t:Sd.gW} (h:TF l=some t):l=ack t:=by
 unfold TF at h;split at h
 ·obtain rfl:=cG h;rfl
 ·cases h
def MD (t:Sd.Ask):List V:=[.int .i64 t.source,.int .i64 t.bb,.int .i64 t.dp.n,.int .i64 t.dp.most]
def ME:List V->Option Sd.Ask
 |[.int .i64 x0,.int .i64 x1,.int .i64 x2,.int .i64 x3]=>some ⟨x0,x1,⟨x2,x3⟩⟩
 |_=>none
theorem ang {l:List V} {t:Sd.Ask} (h:ME l=some t):l=MD t:=by
 unfold ME at h;split at h
 ·obtain rfl:=cG h;rfl
 ·cases h
def TG:QF:=⟨78,λargs _=>match args with
 |[.int .i64 n,.int .i64 m]=>some ((-9223372036854775808<=n/\n<=9223372036854775807)/\(-9223372036854775808<=m/\m<=9223372036854775807),.int .i64 (Sd.sat n m))
 |_=>none⟩
theorem anh (gl:Nat->Option Nat):TG.Ok prog gl:=by
 intro args bl p_ v_ h hp ids w _ _;unfold TG at h;dsimp only at h;split at h
 ·rename_i n m;simp only[aY,bC]at h;obtain⟨rfl,rfl⟩:=h;obtain⟨h_n,Hw⟩:=hp;exact told (alb n m h_n Hw w)
 ·cases h
def TH:QF:=⟨183,λargs _=>match args with
 |[.int .i64 n,.int .i64 lo,.int .i64 hi]=>some (True,.int .i64 (Sd.uJ n lo hi))
 |_=>none⟩
theorem ani (gl:Nat->Option Nat):TH.Ok prog gl:=by
 intro args bl p_ v_ h hp ids w _ _;unfold TH at h;dsimp only at h;split at h
 ·rename_i n lo hi;simp only[aY,bC]at h;obtain⟨rfl,rfl⟩:=h;exact told (abv n lo hi w)
 ·cases h
def TI:QF:=⟨142,λargs _=>match args with
 |[.int .i64 nw,.int .i64 t,.int .i64 b]=>some ((-9223372036854775808<=nw/\nw<=9223372036854775807)/\(-9223372036854775808<=t/\t<=9223372036854775807)/\(-9223372036854775808<=b/\b<=9223372036854775807),.int .i64 (Sd.rK nw t b))
 |_=>none⟩
theorem anj (gl:Nat->Option Nat):TI.Ok prog gl:=by
 intro args bl p_ v_ h hp ids w _ _;unfold TI at h;dsimp only at h;split at h
 ·rename_i nw t b;simp only[aY,bC]at h;obtain⟨rfl,rfl⟩:=h;obtain⟨aby,h_t,h_b⟩:=hp;exact told (abx nw t b aby h_t h_b w)
 ·cases h
def TJ:QF:=⟨189,λargs _=>match args with
 |[.int .i64 s,.int .i64 i]=>some (True,.bool (Sd.has s i))
 |_=>none⟩
theorem ank (gl:Nat->Option Nat):TJ.Ok prog gl:=by
 intro args bl p_ v_ h hp ids w _ _;unfold TJ at h;dsimp only at h;split at h
 ·rename_i s i;simp only[aY,bC]at h;obtain⟨rfl,rfl⟩:=h;exact told (abz s i w)
 ·cases h
def TK:QF:=⟨179,λargs _=>match args with
 |[.int .i64 m]=>some ((-9223372036854775808<=m/\m<=9223372036854775807),.agg (Tx (Sd.Timer.start m)))
 |_=>none⟩
theorem anl (gl:Nat->Option Nat):TK.Ok prog gl:=by
 intro args bl p_ v_ h hp ids w _ _;unfold TK at h;dsimp only at h;split at h
 ·rename_i m;simp only[aY,bC]at h;obtain⟨rfl,rfl⟩:=h;have Hw:=hp;exact told (alh m Hw w)
 ·cases h
def TM:QF:=⟨138,λargs _=>match args with
 |[.agg gD]=>(match Mz gD with|some t=>some ((-9223372036854775808<=t.n/\t.n<=9223372036854775807)/\(-9223372036854775808<=t.most/\t.most<=9223372036854775807),.agg (Tx (Sd.Timer.step t)))|none=>none)
 |_=>none⟩
theorem anm (gl:Nat->Option Nat):TM.Ok prog gl:=by
 intro args bl p_ v_ h hp ids w _ _;unfold TM at h;dsimp only at h;split at h
 ·rename_i gD;split at h
  ·rename_i t kN;simp only[aY,bC]at h;obtain⟨rfl,rfl⟩:=h;obtain rfl:=acg kN;obtain⟨abC,abD⟩:=hp;exact told (abB t abC abD w)
  ·cases h
 ·cases h
def TN:QF:=⟨139,λargs _=>match args with
 |[.agg gD]=>(match Mz gD with|some t=>some (True,.bool (Sd.Timer.due t))|none=>none)
 |_=>none⟩
theorem ann (gl:Nat->Option Nat):TN.Ok prog gl:=by
 intro args bl p_ v_ h hp ids w _ _;unfold TN at h;dsimp only at h;split at h
 ·rename_i gD;split at h
  ·rename_i t kN;simp only[aY,bC]at h;obtain⟨rfl,rfl⟩:=h;obtain rfl:=acg kN;exact told (abE t w)
  ·cases h
 ·cases h
def TO:QF:=⟨130,λargs _=>match args with
 |[.agg gD,.int .i64 o]=>(match kM gD with|some t=>some ((-9223372036854775808<=t.ah/\t.ah<=9223372036854775807),.av [.agg (di ((Sd.Tok.dq t o).1)),.int .i64 ((Sd.Tok.dq t o).2)])|none=>none)
 |_=>none⟩
theorem ano (gl:Nat->Option Nat):TO.Ok prog gl:=by
 intro args bl p_ v_ h hp ids w _ _;unfold TO at h;dsimp only at h;split at h
 ·rename_i gD o;split at h
  ·rename_i t kN;simp only[aY,bC]at h;obtain⟨rfl,rfl⟩:=h;obtain rfl:=oA kN;have vb:=hp;exact told (alm t o vb w)
  ·cases h
 ·cases h
def TP:QF:=⟨84,λargs _=>match args with
 |[.agg gD]=>(match kM gD with|some t=>some ((-9223372036854775808<=t.ah/\t.ah<=9223372036854775807),.agg (di (Sd.Tok.kg t)))|none=>none)
 |_=>none⟩
theorem anp (gl:Nat->Option Nat):TP.Ok prog gl:=by
 intro args bl p_ v_ h hp ids w _ _;unfold TP at h;dsimp only at h;split at h
 ·rename_i gD;split at h
  ·rename_i t kN;simp only[aY,bC]at h;obtain⟨rfl,rfl⟩:=h;obtain rfl:=oA kN;have vb:=hp;exact told (alo t vb w)
  ·cases h
 ·cases h
def TQ:QF:=⟨137,λargs _=>match args with
 |[.agg gD]=>(match kM gD with|some t=>some (True,.bool (decide (0<=t.offer)))|none=>none)
 |_=>none⟩
theorem anq (gl:Nat->Option Nat):TQ.Ok prog gl:=by
 intro args bl p_ v_ h hp ids w _ _;unfold TQ at h;dsimp only at h;split at h
 ·rename_i gD;split at h
  ·rename_i t kN;simp only[aY,bC]at h;obtain⟨rfl,rfl⟩:=h;obtain rfl:=oA kN;exact told (open_ t w)
  ·cases h
 ·cases h
def TT:QF:=⟨140,λargs _=>match args with
 |[.agg gD]=>(match kM gD with|some t=>some (True,.agg (di (Sd.Tok.iL t)))|none=>none)
 |_=>none⟩
theorem anr (gl:Nat->Option Nat):TT.Ok prog gl:=by
 intro args bl p_ v_ h hp ids w _ _;unfold TT at h;dsimp only at h;split at h
 ·rename_i gD;split at h
  ·rename_i t kN;simp only[aY,bC]at h;obtain⟨rfl,rfl⟩:=h;obtain rfl:=oA kN;exact told (SQ t w)
  ·cases h
 ·cases h
def TU:QF:=⟨217,λargs _=>match args with
 |[.agg [.dz p ka kn kc],.int .i64 s]=>some (True,.int .i64 (Sd.placeOf p s))
 |_=>none⟩
theorem ans (gl:Nat->Option Nat):TU.Ok prog gl:=by
 intro args bl p_ v_ h hp ids w _ _;unfold TU at h;dsimp only at h;split at h
 ·rename_i p ka kn kc s;simp only[aY,bC]at h;obtain⟨rfl,rfl⟩:=h;exact told (alx p ka kn kc s w)
 ·cases h
def TV:QF:=⟨215,λargs _=>match args with
 |[.agg [.dz p ka kn kc],.int .i64 a,.int .i64 b]=>some (True,.bool (Sd.eV p a b))
 |_=>none⟩
theorem ant (gl:Nat->Option Nat):TV.Ok prog gl:=by
 intro args bl p_ v_ h hp ids w _ _;unfold TV at h;dsimp only at h;split at h
 ·rename_i p ka kn kc a b;simp only[aY,bC]at h;obtain⟨rfl,rfl⟩:=h;exact told (aly p ka kn kc a b w)
 ·cases h
def TW:QF:=⟨144,λargs _=>match args with
 |[.agg [.dz p ka kn kc],.int .i64 s,.int .i64 r]=>some (True,.bool (Sd.jf p s r))
 |_=>none⟩
theorem anu (gl:Nat->Option Nat):TW.Ok prog gl:=by
 intro args bl p_ v_ h hp ids w _ _;unfold TW at h;dsimp only at h;split at h
 ·rename_i p ka kn kc s r;simp only[aY,bC]at h;obtain⟨rfl,rfl⟩:=h;exact told (alC p ka kn kc s r w)
 ·cases h
def TX:QF:=⟨182,λargs _=>match args with
 |[.agg [.dz p ka kn kc],.int .i64 a,.int .i64 b]=>some (True,.bool (Sd.goes p a b))
 |_=>none⟩
theorem anv (gl:Nat->Option Nat):TX.Ok prog gl:=by
 intro args bl p_ v_ h hp ids w _ _;unfold TX at h;dsimp only at h;split at h
 ·rename_i p ka kn kc a b;simp only[aY,bC]at h;obtain⟨rfl,rfl⟩:=h;exact told (alE p ka kn kc a b w)
 ·cases h
def TY:QF:=⟨181,λargs _=>match args with
 |[.agg [.dz p ka kn kc],.int .i64 m,.int .i64 r,.int .i64 c]=>some (True,.bool (Sd.may p m r c))
 |_=>none⟩
theorem anw (gl:Nat->Option Nat):TY.Ok prog gl:=by
 intro args bl p_ v_ h hp ids w _ _;unfold TY at h;dsimp only at h;split at h
 ·rename_i p ka kn kc m r c;simp only[aY,bC]at h;obtain⟨rfl,rfl⟩:=h;exact told (alG p ka kn kc m r c w)
 ·cases h
def TZ:QF:=⟨30,λargs _=>match args with
 |[.agg [.dz p ka kn kc]]=>some (True,.agg (di (Sd.Tok.new p)))
 |_=>none⟩
theorem anx (gl:Nat->Option Nat):TZ.Ok prog gl:=by
 intro args bl p_ v_ h hp ids w _ _;unfold TZ at h;dsimp only at h;split at h
 ·rename_i p ka kn kc;simp only[aY,bC]at h;obtain⟨rfl,rfl⟩:=h;exact told (abK p ka kn kc w)
 ·cases h
def T0:QF:=⟨199,λargs _=>match args with
 |[.agg gD,.int .i64 f,.int .i64 e]=>(match kM gD with|some t=>some ((-9223372036854775808<=t.ah/\t.ah<=9223372036854775807),.av [.agg (di ((Sd.Tok.accept t f e).1)),.int .i64 ((Sd.Tok.accept t f e).2)])|none=>none)
 |_=>none⟩
theorem anz (gl:Nat->Option Nat):T0.Ok prog gl:=by
 intro args bl p_ v_ h hp ids w _ _;unfold T0 at h;dsimp only at h;split at h
 ·rename_i gD f e;split at h
  ·rename_i t kN;simp only[aY,bC]at h;obtain⟨rfl,rfl⟩:=h;obtain rfl:=oA kN;have vb:=hp;exact told (alK t f e vb w)
  ·cases h
 ·cases h
def T7:QF:=⟨200,λargs _=>match args with
 |[.agg gD,.int .i64 f]=>(match kM gD with|some t=>some (True,.av [.agg (di ((Sd.Tok.fU t f).1)),.int .i64 ((Sd.Tok.fU t f).2)])|none=>none)
 |_=>none⟩
theorem anA (gl:Nat->Option Nat):T7.Ok prog gl:=by
 intro args bl p_ v_ h hp ids w _ _;unfold T7 at h;dsimp only at h;split at h
 ·rename_i gD f;split at h
  ·rename_i t kN;simp only[aY,bC]at h;obtain⟨rfl,rfl⟩:=h;obtain rfl:=oA kN;exact told (alM t f w)
  ·cases h
 ·cases h
def T8:QF:=⟨136,λargs _=>match args with
 |[.agg gD,.int .i64 s]=>(match kM gD with|some t=>some (True,.av [.agg (di ((Sd.Tok.drop t s).1)),.bool ((Sd.Tok.drop t s).2)])|none=>none)
 |_=>none⟩
theorem anB (gl:Nat->Option Nat):T8.Ok prog gl:=by
 intro args bl p_ v_ h hp ids w _ _;unfold T8 at h;dsimp only at h;split at h
 ·rename_i gD s;split at h
  ·rename_i t kN;simp only[aY,bC]at h;obtain⟨rfl,rfl⟩:=h;obtain rfl:=oA kN;exact told (alO t s w)
  ·cases h
 ·cases h
def T9:QF:=⟨92,λargs _=>match args with
 |[.agg gD]=>(match kM gD with|some t=>some ((-9223372036854775808<=t.oa.n/\t.oa.n<=9223372036854775807)/\(-9223372036854775808<=t.oa.most/\t.oa.most<=9223372036854775807),.av [.agg (di ((Sd.Tok.tick t).1)),.int .i64 ((Sd.Tok.tick t).2)])|none=>none)
 |_=>none⟩
theorem anC (gl:Nat->Option Nat):T9.Ok prog gl:=by
 intro args bl p_ v_ h hp ids w _ _;unfold T9 at h;dsimp only at h;split at h
 ·rename_i gD;split at h
  ·rename_i t kN;simp only[aY,bC]at h;obtain⟨rfl,rfl⟩:=h;obtain rfl:=oA kN;obtain⟨abL,abM⟩:=hp;exact told (alP t abL abM w)
  ·cases h
 ·cases h
def T_:QF:=⟨198,λargs _=>match args with
 |[.agg [.dz p ka kn kc],.agg gD,.int .i64 f,.int .i64 o,.bool th]=>(match kM gD with|some t=>some ((Sd.fk p),.av [.agg (di ((Sd.Tok.make p t f o th).1)),.int .i64 ((Sd.Tok.make p t f o th).2)])|none=>none)
 |_=>none⟩
theorem anD (gl:Nat->Option Nat):T_.Ok prog gl:=by
 intro args bl p_ v_ h hp ids w _ _;unfold T_ at h;dsimp only at h;split at h
 ·rename_i p ka kn kc gD f o th;split at h
  ·rename_i t kN;simp only[aY,bC]at h;obtain⟨rfl,rfl⟩:=h;obtain rfl:=oA kN;have hp:=hp;exact told (alR p ka kn kc t f o th hp w)
  ·cases h
 ·cases h
def Ua:QF:=⟨129,λargs _=>match args with
 |[.agg [.dz p ka kn kc],.agg zL,.int .i64 c,.agg HT,.agg HU]=>(match HR zL with|some pt=>(match MA HT with|some y=>(match HP HU with|some b=>some ((Sd.fk p),.agg (zJ (Sd.e_.set p pt c y b)))|none=>none)|none=>none)|none=>none)
 |_=>none⟩
theorem anE (gl:Nat->Option Nat):Ua.Ok prog gl:=by
 intro args bl p_ v_ h hp ids w _ _;unfold Ua at h;dsimp only at h;split at h
 ·rename_i p ka kn kc zL c HT HU;split at h
  ·rename_i pt HV;split at h
   ·rename_i y Ub;split at h
    ·rename_i b Uc;simp only[aY,bC]at h;obtain⟨rfl,rfl⟩:=h;obtain rfl:=TE HV;obtain rfl:=ach Ub;obtain rfl:=Tz Uc;have hp:=hp;exact told (alT p ka kn kc pt c y b hp w)
    ·cases h
   ·cases h
  ·cases h
 ·cases h
def Ud:QF:=⟨134,λargs _=>match args with
 |[.agg zL,.agg HU]=>(match HR zL with|some pt=>(match HP HU with|some b=>some (True,.agg (zJ (Sd.e_.hold pt b)))|none=>none)|none=>none)
 |_=>none⟩
theorem anF (gl:Nat->Option Nat):Ud.Ok prog gl:=by
 intro args bl p_ v_ h hp ids w _ _;unfold Ud at h;dsimp only at h;split at h
 ·rename_i zL HU;split at h
  ·rename_i pt HV;split at h
   ·rename_i b Uc;simp only[aY,bC]at h;obtain⟨rfl,rfl⟩:=h;obtain rfl:=TE HV;obtain rfl:=Tz Uc;exact told (alV pt b w)
   ·cases h
  ·cases h
 ·cases h
def Ue:QF:=⟨126,λargs _=>match args with
 |[.int .i64 m,.agg HT]=>(match MA HT with|some y=>some ((0<=m/\m<=1000),.bool (Sd.tj m y))|none=>none)
 |_=>none⟩
theorem anG (gl:Nat->Option Nat):Ue.Ok prog gl:=by
 intro args bl p_ v_ h hp ids w _ _;unfold Ue at h;dsimp only at h;split at h
 ·rename_i m HT;split at h
  ·rename_i y Ub;simp only[aY,bC]at h;obtain⟨rfl,rfl⟩:=h;obtain rfl:=ach Ub;have hm:=hp;exact told (abO m y hm w)
  ·cases h
 ·cases h
def Uf:QF:=⟨80,λargs _=>match args with
 |[.agg [.dz p ka kn kc],.int .i64 r,.agg l_s]=>(match MC l_s with|some s=>some ((Sd.fk p)/\(-9223372036854775808<=r/\r<=9223372036854775807),.av [.int .i64 ((Sd.fg p r s).1),.bool ((Sd.fg p r s).2)])|none=>none)
 |_=>none⟩
theorem anH (gl:Nat->Option Nat):Uf.Ok prog gl:=by
 intro args bl p_ v_ h hp ids w _ _;unfold Uf at h;dsimp only at h;split at h
 ·rename_i p ka kn kc r l_s;split at h
  ·rename_i s e_s;simp only[aY,bC]at h;obtain⟨rfl,rfl⟩:=h;obtain rfl:=acj e_s;obtain⟨hp,h_r⟩:=hp;exact told (alZ p ka kn kc r s hp h_r w)
  ·cases h
 ·cases h
def Ug:QF:=⟨95,λargs _=>match args with
 |[.agg [.dz p ka kn kc],.agg zL]=>(match HR zL with|some pt=>some ((Sd.fk p)/\(-9223372036854775808<=pt.aT.a/\pt.aT.a<=9223372036854775807)/\(-9223372036854775808<=pt.aT.b/\pt.aT.b<=9223372036854775807)/\(-9223372036854775808<=pt.aT.c/\pt.aT.c<=9223372036854775807)/\(-9223372036854775808<=pt.aT.d/\pt.aT.d<=9223372036854775807)/\(-9223372036854775808<=pt.now.a/\pt.now.a<=9223372036854775807)/\(-9223372036854775808<=pt.now.b/\pt.now.b<=9223372036854775807)/\(-9223372036854775808<=pt.now.c/\pt.now.c<=9223372036854775807)/\(-9223372036854775808<=pt.now.d/\pt.now.d<=9223372036854775807),.agg (zJ (Sd.e_.step p pt)))|none=>none)
 |_=>none⟩
theorem anI (gl:Nat->Option Nat):Ug.Ok prog gl:=by
 intro args bl p_ v_ h hp ids w _ _;unfold Ug at h;dsimp only at h;split at h
 ·rename_i p ka kn kc zL;split at h
  ·rename_i pt HV;simp only[aY,bC]at h;obtain⟨rfl,rfl⟩:=h;obtain rfl:=TE HV;obtain⟨hp,S_,Tb,Tc,Td,Te,Tf,Tg,Th⟩:=hp;exact told (al1 p ka kn kc pt hp S_ Tb Tc Td Te Tf Tg Th w)
  ·cases h
 ·cases h
def QV:List QF:=[TG,TH,TI,TJ,TK,TM,TN,TO,TP,TQ,TT,TU,TV,TW,TX,TY,TZ,T0,T7,T8,T9,T_,Ua,Ud,Ue,Uf,Ug]
theorem zM (gl:Nat->Option Nat):bO prog gl QV:=(bO.cons (anh gl) (bO.cons (ani gl) (bO.cons (anj gl) (bO.cons (ank gl) (bO.cons (anl gl) (bO.cons (anm gl) (bO.cons (ann gl) (bO.cons (ano gl) (bO.cons (anp gl) (bO.cons (anq gl) (bO.cons (anr gl) (bO.cons (ans gl) (bO.cons (ant gl) (bO.cons (anu gl) (bO.cons (anv gl) (bO.cons (anw gl) (bO.cons (anx gl) (bO.cons (anz gl) (bO.cons (anA gl) (bO.cons (anB gl) (bO.cons (anC gl) (bO.cons (anD gl) (bO.cons (anE gl) (bO.cons (anF gl) (bO.cons (anG gl) (bO.cons (anH gl) (bO.cons (anI gl) bO.nil)))))))))))))))))))))))))))
def MF (args:List V) (bl:List VB):Option (Nat×Nat×Nat×Nat×(Nat->Int)):=match args with
 |[.sl i off n c]=>(match bl[i]?with
  |some b=>(match yN b.c off n with
   |some [.bS .u8 m f]=>some (i,off,n,c,f)
   |_=>none)
  |none=>none)
 |_=>none
theorem acm {args:List V} {bl:List VB} {i off n c:Nat} {f:Nat->Int} (h:MF args bl=some (i,off,n,c,f)) {ids:List Nat} {w:ag} (hm:Mem ids bl w):args=[.sl i off n c]/\cx w (ids.getD i 0) off n f:=by
 unfold MF at h;split at h
 ·split at h
  ·rename_i i' P9 n' c' b hb;split at h
   ·rename_i m g hg;simp only[aY,bC]at h;obtain⟨rfl,rfl,rfl,rfl,rfl⟩:=h;refine⟨rfl,?_⟩;obtain⟨h1,h2,h3⟩:=yO (ids:=ids) hg;have aP:=hm.2 _ b hb;intro j hj;rw[cell_of aP];have e:(ai ids [V.bS .u8 m g])=(bw m).map λj=>eA .u8 (g j):=by simp[ai,cl]
    rw[e]at h1 h2;simp at h2;have h4:=congrArg (λl=>l[j]?) h1;simp only[PC,FI,jt]at h4;rw[if_pos hj]at h4;have h5:(bw m)[j]?=some j:=by rw[nV (by omega)]
    rw[h5]at h4;simpa using h4
   ·cases h
  ·cases h
 ·cases h
def Uh:QF:=⟨178,λargs bl=>match MF args bl with
 |some (i,off,n,c,f)=>bif az n 1 then some (By f,.av [.int .u64 (Ev f),.int .i64 0])else bif az n 2 then some (By f,.av [.int .u64 (gK f),.int .i64 0])else bif az n 4 then some (By f,.av [.int .u64 (B9 f),.int .i64 0])else none
 |none=>none⟩
def Ui:QF:=⟨177,λargs bl=>match MF args bl with
 |some (i,off,n,c,f)=>bif az n 2 then some (By f,.av [.int .i64 (zI (gK f)),.int .i64 0])else none
 |none=>none⟩
theorem anJ (gl:Nat->Option Nat):Uh.Ok prog gl:=by
 intro args bl p v h hp ids w hg hm;unfold Uh at h;dsimp only at h;split at h
 ·rename_i i off n c f hA;obtain⟨rfl,h8⟩:=acm hA hm;cases h1:az n 1 with
  |true=>
   rw[h1]at h;obtain rfl:=cz h1;simp only[cond_true,aY,bC]at h;obtain⟨rfl,rfl⟩:=h;exact anb _ _ _ f hp w h8
  |false=>
   cases h2:az n 2 with
   |true=>
    rw[h1,h2]at h;obtain rfl:=cz h2;simp only[cond_true,cond_false,aY,bC]at h;obtain⟨rfl,rfl⟩:=h;exact acf _ _ _ f hp w h8
   |false=>
    cases h4:az n 4 with
    |true=>
     rw[h1,h2,h4]at h;obtain rfl:=cz h4;simp only[cond_true,cond_false,aY,bC]at h;obtain⟨rfl,rfl⟩:=h;exact anc _ _ _ f hp w h8
    |false=>rw[h1,h2,h4]at h;cases h
 ·cases h
theorem anK (gl:Nat->Option Nat):Ui.Ok prog gl:=by
 intro args bl p v h hp ids w hg hm;unfold Ui at h;dsimp only at h;split at h
 ·rename_i i off n c f hA;obtain⟨rfl,h8⟩:=acm hA hm;cases h2:az n 2 with
  |true=>
   rw[h2]at h;obtain rfl:=cz h2;simp only[cond_true,aY,bC]at h;obtain⟨rfl,rfl⟩:=h;exact ane _ _ _ f hp w h8
  |false=>rw[h2]at h;cases h
 ·cases h
def LTk:List QF:=[Uh,Ui]
def l_:Nat->Option Nat:=λ_=>none
structure Fd where
 sz:Nat
 sg:Bool
 low:Int
 high:Int
 at_:Nat
 b:Bool
def Fd.val (d:Fd) (g:Nat->Int):Int:=bif d.sg then zI (gK g)else bif az d.sz 1 then i64.wrap (Ev g)else bif az d.sz 2 then i64.wrap (gK g)else i64.wrap (B9 g)
def Fd.up (d:Fd) (g:Nat->Int) (m:List V):List V:=kh m d.at_ (bif d.b then .bool (d.val g==1)else .int .i64 (d.val g))
def oB:V:=.av [.agg [.int .i64 0,.int .i64 0,.int .i64 0,.int .i64 0,.int .i64 0,.int .i64 0,.int .i64 0,.bool false,.int .i64 0,.int .i64 0,.int .i64 0,.int .i64 0],.int .i64 13]
def Ex (n:Nat) (f:Nat->Int) (X:V->Prop):List Fd->Nat->List V->Prop
 |[],off,m=>bif az (n-off) 0 then X (.av [.agg m,.int .i64 0])else X oB
 |d::l,off,m=>bif cD (n-off) d.sz then X oB else
  By (λj=>f (off+j))/\cond (decide (d.val (λj=>f (off+j))<d.low)) (X oB) (cond (decide (d.val (λj=>f (off+j))>d.high)) (X oB) (Ex n f X l (off+d.sz) (d.up (λj=>f (off+j)) m)))
def iD:Fd:=⟨4,false,0,4294967295,1,false⟩
def vf:Fd:=⟨1,false,0,3,2,false⟩
def zN:Fd:=⟨1,false,0,4,3,false⟩
def nA:Fd:=⟨2,false,0,65535,4,false⟩
def xw:Fd:=⟨1,false,0,4,5,false⟩
def vg:Fd:=⟨1,false,1,3,6,false⟩
def zO:Fd:=⟨1,false,0,1,7,true⟩
def fX (i:Nat):Fd:=⟨2,true,-32768,32767,8+i,false⟩
def qI (f:Nat->Int):Int:=i64.wrap (f 0)
def m0 (f:Nat->Int):List V:=[.int .i64 (qI f),.int .i64 0,.int .i64 0,.int .i64 0,.int .i64 0,.int .i64 0,.int .i64 0,.bool false,.int .i64 0,.int .i64 0,.int .i64 0,.int .i64 0]
def zP:Nat->List V
 |0=>[]
 |n+1=>.bool false::.bool false::.bool false::.bool false::.bool false::zP n
def lq (n:Nat) (f:Nat->Int) (X:V->Prop):Prop:=
 let T (l:List Fd):Prop:=Ex n f X l 1 (m0 f)
 let T1:=T [vf]
 let T3:=T [iD]
 cond (qI f==1) T1 (cond (qI f==2) T1 (cond (qI f==3) T3 (cond (qI f==4) T3 (cond (qI f==8) T3 (cond (qI f==9) T3 (cond (qI f==5) (T [iD,zO]) (cond (qI f==6) (T [iD,zN]) (cond (qI f==7) (T [iD,nA])
  (cond (qI f==10) (T [iD,nA,xw]) (cond (qI f==11) (∀(c:Nat) (u:List ae),7<=c->T [iD,nA,vg,fX 0,fX 1,fX 2,fX 3]) (X oB)))))))))))
end
end Go.Proofs.YtggfpcggakghnaaGreatDoor
namespace Sx
open Go Go.RowKit Go.BigFrame
def acn (vs:Nat->ae) (i:Nat) (v:ae):Nat->ae:=λj=>if j=i then v else vs j
def aco (k0:Nat) (es:List Nat) (H:Nat->(Nat->ae)->ag->Prop) (l:List ax) (w0:ag) (i:Nat) (v:ae) (vs:Nat->ae) (w' fY:ag):Prop:=
 (i=k0->Ch es w' fY)/\(i≠k0->∃ns,Ch ns w' fY/\∀x∈ns,w0.heap.size<=x)/\H i (acn vs i v) fY/\
  ∀(j:Nat) oj,l[j]?=some oj->j≠i->kX oj i=false->H j vs w'->H j (acn vs i v) fY
def acp (P:aL) (k0:Nat) (pre:List (List Nat)) (es:List Nat) (H:Nat->(Nat->ae)->ag->Prop) (lf l:List ax) (y0:Nat->ae) (w:ag) (i:Nat) (o:ax):Prop:=
 ∀(y vs:Nat->ae) (w':ag),(i=k0\/preB pre i=true->Ch [] w w')->Ch es w w'->(∀t,v8 l i t=true->y t=y0 t)->
  (∀j d,kX o j=true->(l[j]?).bind (·.dst)=some d->y d=vs j/\H j vs w')->
  (nW lf o y=true->Yields P o (v7 y) w' λv fY=>aco k0 es H l w i v vs w' fY)/\(nW lf o y=false->aco k0 es H l w i undef vs w' w')
def MG (P:aL) (k0:Nat) (pre:List (List Nat)) (es:List Nat) (H:Nat->(Nat->ae)->ag->Prop) (lf l:List ax) (y0:Nat->ae) (w:ag):Nat->List ax->Prop
 |_,[]=>True
 |i,o::rest=>acp P k0 pre es H lf l y0 w i o/\MG P k0 pre es H lf l y0 w (i+1) rest
theorem MG.get {P:aL} {k0:Nat} {pre:List (List Nat)} {es:List Nat} {H:Nat->(Nat->ae)->ag->Prop} {lf l:List ax} {y0:Nat->ae} {w:ag}:∀{k:Nat} {m:List ax},MG P k0 pre es H lf l y0 w k m->∀(i:Nat) o,m[i]?=some o->acp P k0 pre es H lf l y0 w (k+i) o
 |_,[],_,i,o,h=>by simp at h
 |k,x::rest,⟨h1,h2⟩,0,o,h=>by obtain rfl:x=o:=by simpa using h
                              exact h1
 |k,x::rest,⟨h1,h2⟩,i+1,o,h=>by
  have:=MG.get h2 i o (by simpa using h)
  rwa [show k+1+i=k+(i+1) by omega]at this
structure azy (k0:Nat) (es:List Nat) (H:Nat->(Nat->ae)->ag->Prop) (l:List ax) (n2:Nat) (a0:Act) (w0:ag) (vs:Nat->ae) (listed:Array Bool) (a:Act) (w:ag):Prop where
 ls:listed.size=l.length+n2
 off:∀i,l.length<=i->i<l.length+n2->listed[i]?=some false
 size:a.tmps.size=a0.tmps.size
 defers:a.defers=a0.defers
 ch:if listed[k0]?=some true then Ch es w0 w else Ch [] w0 w
 done:∀(i:Nat) (o:ax),l[i]?=some o->listed[i]?=some true->(∀d,o.dst=some d->cP a d=vs i)/\H i vs w
 rest:∀(t:Nat),(∀(i:Nat) (o:ax),l[i]?=some o->o.dst=some t->listed[i]?=some false)->cP a t=cP a0 t
 back:∀(i:Nat) (o:ax),l[i]?=some o->listed[i]?=some true->∀j,kX o j=true->listed[j]?=some true
section
variable{P:aL} {l:List ax} {k0:Nat} {pre:List (List Nat)} {es:List Nat} {H:Nat->(Nat->ae)->ag->Prop} {a0:Act} {w0:ag} {Q:eE->Act->ag->Prop}
end
inductive GX where
 |v (x:ae)
 |a (obj:Obj)
 |n (cs nB:Array ae) (T:aJ)
 |s (j:Nat)
def GX.sp:GX->Sp
 |.v x=>s0 x
 |.a o=>sA o
 |.n cs _ T=>sA (.cells cs T (0,0))
 |.s _=>s0 undef
def GX.fin:GX->VX
 |.v x=>.v x
 |.a o=>.a o
 |.n _ nB T=>.a (.cells nB T (0,0))
 |.s _=>.v undef
theorem Yields.mono {P:aL} {o:ax} {ρ:bh->ae} {w:ag} {R R':ae->ag->Prop} (h:Yields P o ρ w R) (k:∀v w',R v w'->R' v w'):Yields P o ρ w R':=by
 unfold Yields at*;split at h
 ·exact k _ _ h
 ·exact k _ _ h
 ·exact Calls.mono h λe w' ⟨v,e1,e2⟩=>⟨v,e1,k _ _ e2⟩
 ·exact h.elim
section
variable{P:aL} {lf l:List ax} {xs:List GX} {y0:Nat->ae} {w:ag} {i k0:Nat} {pre:List (List Nat)} {o:ax} {es:List Nat} {pv:ae->ag->Prop}
end
def Zb (i:Nat):GX->Bool
 |.s j=>az j i
 |_=>false
section
variable{P:aL} {a0:Act} {w w0:ag} {Q:eE->Act->ag->Prop} {id:Nat} {L:List ax} {ms:List Nat} {bs:List aj}
end
section
variable{P:aL} {lf l:List ax} {sp:Nat->Sp} {xs:List GX} {y0:Nat->ae} {a0:Act} {w:ag} {i k0 m:Nat} {pre:List (List Nat)} {o:ax} {es:List Nat} {pv:ae->ag->Prop}
end
section
variable{P:aL} {a0:Act} {w w0:ag} {Q:eE->Act->ag->Prop} {id:Nat} {L:List ax} {ms:List Nat}
theorem Dw.dB {val:ae} {C:List aj->Prop} {bl:List aj} {B:Nat} {T:aJ} (hT:∀bl',C bl'->∀x∈bl',Dx x.obj≠some T) {v:ae} {w1 w2:ag} {b:Nat} {c2:Array ae} (hb:w1.heap[b]?=some (.cells c2 T (0,0))) (hc:Ch [b] w1 w2) (h:Dw val C bl B v w1):Dw val C bl B v w2:=by
 obtain⟨h1,bl',h2,h3,h4⟩:=h;refine⟨h1,bl',h2,λy hy=>⟨?_,(h3 y hy).2⟩,h4⟩;refine(hc.block _ (pO (h3 y hy).1) ?_).trans (h3 y hy).1;intro hm;have e:y.id=b:=by simpa using hm
 have:=(h3 y hy).1;rw[e,hb]at this;exact hT bl' h2 y hy (by rw[<-cG this];rfl)
end
end Sx
namespace Go.Proofs.YtggfpcggakghnaaGreatDoor
section
open Go Go.RowKit Go.BigFrame Sx
def B_ (q:Nat->Int) (ka:Nat->Option aQ) (kn kc:Nat->Nat):Array ae:=#[.int .i64 (q 0),.int .i64 (q 1),.int .i64 (q 2),.int .i64 (q 3),.int .i64 (q 4),.slice (ka 0) (kn 0) (kc 0),.slice (ka 1) (kn 1) (kc 1),.slice (ka 2) (kn 2) (kc 2),.slice (ka 3) (kn 3) (kc 3),.int .i64 (q 9),.int .i64 (q 10),.int .i64 (q 11),.int .i64 (q 12),.int .i64 (q 13),.int .i64 (q 14),.int .i64 (q 15),.int .i64 (q 16),.int .i64 (q 17),.int .i64 (q 18),.int .i64 (q 19),.int .i64 (q 20),.int .i64 (q 21),.int .i64 (q 22),.int .i64 (q 23),.int .i64 (q 24),.int .i64 (q 25),.int .i64 (q 26),.int .i64 (q 27),.int .i64 (q 28),.int .i64 (q 29),.int .i64 (q 30),.int .i64 (q 31),.int .i64 (q 32),.int .i64 (q 33),.int .i64 (q 34),.int .i64 (q 35),.int .i64 (q 36),.int .i64 (q 37),.int .i64 (q 38),.int .i64 (q 39),.int .i64 (q 40),.int .i64 (q 41),.int .i64 (q 42),.int .i64 (q 43),.int .i64 (q 44),.int .i64 (q 45),.int .i64 (q 46),.int .i64 (q 47),.int .i64 (q 48),.int .i64 (q 49),.int .i64 (q 50),.int .i64 (q 51),.int .i64 (q 52),.int .i64 (q 53),.int .i64 (q 54),.int .i64 (q 55)]
end
end Go.Proofs.YtggfpcggakghnaaGreatDoor
