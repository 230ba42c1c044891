/- Part 2 of the proof. -/
import Derived.Test.YtggfpcggakghnaaGreatDoorProg
import Derived.Test.YtggfpcggakghnaaGreatDoorO1
set_option linter.all false
set_option maxRecDepth 100000
set_option maxHeartbeats 4000000
noncomputable section
open Go.Proofs.Tryz
open Go.IntKind (u8 u16 u32 u64 i64)
open Array renaming ext'->fe
open BitVec renaming toNat_ofInt->IG,ofInt->n8
open Bool renaming or_eq_true->Cc,and_eq_true->bg
open Go renaming Program->aF,TypeId->aG,Addr->aO,Value->ab,World->ae,Oper->ao,Operand->ba,Exit->dR,run_underlying->dt,IntKind->eS,FuncId->fc,wp_ret->gv,wp_skip->jI,wp_block->jc,heap_alloc_new->mX
open Go.Addr renaming add_lit->iE
open Go.Instr renaming makeSlice->V6
open Go.IntKind renaming wrap_u64->rY,bits->tI,signed->tJ,wrap->xw
open Go.IntWalk renaming u64_in->vg,i64_in->zV
open Go.Result renaming andThen_ok->cz
open Go.Sem renaming run_bind->bx,run_pure->dg
open Go.Value renaming bool->Ce,int->eg
open Go.World renaming cell?->xu
open Int renaming le_trans->Ci,negSucc_lt_zero->IP,ofNat->cJ,fdiv->jd,fdiv_eq_ediv_of_nonneg->tK,natCast_nonneg->zT
open List renaming mem_cons_self->Cg,singleton_append->Ex,getElem?_drop->Ez,getElem?_take->NH,takeWhile_append_dropWhile->ad5,append_assoc->bR,range->bd,append_nil->cQ,mem_cons->ca,map_cons->eH,mem_append->eJ,length_append->fq,getElem?_append_left->gV,getElem?_map->iZ,mem_singleton->ig,getD->ij,perm_middle->jH,getElem?_toArray->jt,length_cons->kN,getElem?_range->m9,mem_map->mn,map_map->mr,mem_append_left->oU,mem_append_right->tH,range_succ_eq_map->vd,mem_cons_of_mem->xz,any_eq_true->zK,pairwise_cons->zR
open List.Mem renaming head->Cd
open List.cons renaming inj->vb
open Nat renaming lt_of_lt_of_le->Nz,beq->aq,ble->bu,lt_or_ge->cN,eq_of_beq_eq_true->ck,blt->cu,le_refl->dE,le_of_ble_eq_true->du,zero_add->eD,le_trans->iY,le_add_right->rX,eq_zero_or_pos->u6
open Option renaming map_eq_some_iff->gU
open Option.some renaming injEq->aV,inj->cA
open Prod.mk renaming injEq->bw
namespace Go.Proofs.YtggfpcggakghnaaGreatDoor
section
open Go Go.RowKit Go.BigFrame Sx Vx
def dC (u:ae):List ai:=u.heap.toList.zipIdx.map λp=>⟨p.2,false,p.1⟩
theorem J9 {u:ae} {i:Nat} {o:Obj} (h:u.heap[i]?=some o):(⟨i,false,o⟩:ai)∈dC u:=by
 unfold dC;rw[mn];exact⟨(o,i),by rw[List.mk_mem_zipIdx_iff_getElem?];simpa using h,rfl⟩
theorem YM (w:ae):St [] w (dC w++[]) w:=by
 have:=St.given (w:=w) (w.heap.toList.zipIdx.map λp=>(p.2,p.1)) (by
  intro p hp;obtain⟨q,hq,rfl⟩:=mn.1 hp;have:=(List.mem_zipIdx_iff_getElem?.1 (show(q.1,q.2)∈w.heap.toList.zipIdx from hq));simpa using this)
 rw[cQ];unfold dC;rw[mr]at this;exact this
structure R8 where
 n:Nat
 f:Nat->Int
 b:Nat
 c:Nat
def R8.bl (r:R8):List ai:=[⟨r.b,true,.cells (bD r.n r.f r.c) 5 (0,0)⟩]
inductive CG where
 |aZ (u:ae)
 |row (r:R8)
instance:Bl CG:=⟨λg=>match g with|.aZ u=>dC u|.row r=>r.bl⟩
def j9:List V->Option (List Int)
 |[]=>some []
 |.int .u8 x::l=>(match j9 l with
  |some r=>some (x::r)
  |none=>none)
 |_=>none
theorem wa (ids:List Nat):∀{l:List V} {r:List Int},j9 l=some r->ah ids l=bV r.length (da r)
 |[],r,h=>by cases h;rfl
 |v::l,r,h=>by
  unfold j9 at h;split at h
  ·rename_i e;cases e
  ·rename_i x l' e;obtain⟨rfl,rfl⟩:=vb e;split at h
   ·rename_i r' hr;cases h;have ih:=wa ids hr;simp only[ah,cl,ih,kN];unfold bV;rw[vd,eH,mr];rfl
   ·cases h
  ·cases h
def wb (o:Nat) (f:Nat->Int):Nat->Int:=match o with
 |0=>f
 |k+1=>Aj f (k+1)
theorem YN (o:Nat) (f:Nat->Int) (j:Nat):wb o f j=f (o+j):=by
 cases o with
 |zero=>simp[wb]
 |succ k=>rfl
def Dc:List CG->Option (List CG×R8)
 |[]=>none
 |[.row r]=>some ([],r)
 |g::l=>(match Dc l with
  |some (a,r)=>some (g::a,r)
  |none=>none)
theorem J_:∀{ch l:List CG} {r:R8},Dc ch=some (l,r)->ch=l++[.row r]
 |[],l,r,h=>by cases h
 |g::t,l,r,h=>by
  unfold Dc at h;split at h
  ·cases h
  ·rename_i e;obtain⟨rfl,rfl⟩:=vb e;cases h;rfl
  ·rename_i g' t' _ e;obtain⟨rfl,rfl⟩:=vb e;split at h
   ·rename_i a r' hr;cases h;rw[J_ hr];rfl
   ·cases h
def Ka (bl:List VB) (ch:List CG) (x:V) (X:Bool->Nat->(Nat->Int)->Prop):Prop:=match x with
 |.sl i o (m+1) _=>(match bl[i]?with
  |some ⟨_,⟨_,(0,0)⟩,l⟩=>(match j9 l with
   |some r=>o+(m+1)<=r.length/\X true (m+1) (wb o (da r))
   |none=>False)
  |_=>False)
 |.raw (.slice (some ⟨b,o,none⟩) m _)=>(match ch with
  |.aZ u::_=>∃f,cd u b o m f/\X false m f
  |_=>False)
 |_=>False
theorem Kc {u w w0:ae} {ms:List Nat} {B:List ai} (S:St ms w0 B w) (h:∀y∈dC u,y∈B) {b o m:Nat} {f:Nat->Int} (h8:cd u b o m f):cd w b o m f:=λj hj=>by
 have h1:=h8 j hj;unfold xu at h1⊢;cases hh:u.heap[b]?with
 |none=>simp[hh]at h1
 |some ob=>
  have:w.heap[b]?=some ob:=S.at' (h _ (J9 hh));simp only[hh,this]at h1⊢;exact h1
theorem YO {ids:List Nat} {bl:List VB} {ch:List CG} {R:List ai} {ms:List Nat} {w0 w:ae} (hl:ids.length=bl.length) (S:St ms w0 (lits ids ids bl++ax ch R) w) {x:V} {X:Bool->Nat->(Nat->Int)->Prop} (h:Ka bl ch x X):
 ∃b o m c f sure,den ids x=.slice (some ⟨b,o,none⟩) m c/\cd w b o m f/\(sure=true->0<m)/\X sure m f:=by
 unfold Ka at h;split at h
 ·rename_i i o m c;split at h
  ·rename_i wr t l hb;split at h
   ·rename_i r hr;have aM:=(fE hl S hb).2;refine⟨_,_,_,_,_,true,rfl,λj hj=>?_,λ_=>Nat.succ_pos m,h.2⟩;rw[cell_of aM,wa ids hr,YN];simp only[jt];exact qT _ (by have:=h.1;omega)
   ·exact h.elim
  ·exact h.elim
 ·rename_i b o m c;split at h
  ·rename_i u rest;obtain⟨f,h8,hX⟩:=h;refine⟨b,o,m,c,f,false,rfl,Kc S (λy hy=>?_) h8,(λe=>by cases e),hX⟩;exact tH _ (oU _ hy)
  ·exact h.elim
 ·exact h.elim
def FX:(ba->V)->Op->List VB->List CG->VK CG->Prop:=λe op bl ch K=>match op with
 |.call c=>(match c.callee,c.args.toList,c.argTypes.toList with
  |.builtin .append,[s,xs],[t,tx]=>(match prog.underlying t,prog.underlying tx with
   |some (.slice 5),some (.slice _)=>(match e s with
    |.raw (.slice none 0 0)=>Ka bl ch (e xs) λsure m g=>m<=1000000/\
     cond sure (∀b c,m<=c->K (.raw (.slice (some ⟨b,0,none⟩) m c)) bl (ch++[.row ⟨m,g,b,c⟩]))
      ((m=0->K (.raw (.slice none 0 0)) bl ch)/\(0<m->∀b c,m<=c->K (.raw (.slice (some ⟨b,0,none⟩) m c)) bl (ch++[.row ⟨m,g,b,c⟩])))
    |.raw (.slice (some ⟨b,0,none⟩) n c)=>(match Dc ch with
     |some (l,r)=>Ka bl ch (e xs) λ_ m g=>(b=r.b/\n=r.n/\c=r.c/\n<=c/\n+m<=1000000/\0<n+m)/\∀b' c',n+m<=c'->K (.raw (.slice (some ⟨b',0,none⟩) (n+m) c')) bl (l++[.row ⟨n+m,cj n r.f g,b',c'⟩])
     |none=>False)
    |_=>False)
   |_,_=>False)
  |_,_,_=>False)
 |.makeSlice t l c=>(match prog.underlying t,e l,e c with
  |some (.slice 5),.int _ (.ofNat 0),.int _ m=>(1<=m/\m<=1000000)/\∀b,K (.raw (.slice (some ⟨b,0,none⟩) 0 m.toNat)) bl (ch++[.row ⟨0,λ_=>0,b,m.toNat⟩])
  |_,_,_=>False)
 |_=>False
theorem agA {P:aF} {ids:List Nat} {w:ae} {t el:aG} {n:Nat} {inf:TypeInfo} {k1 k2:eS} (hu:P.underlying t=some (.slice el)) (hi:P.info? el=some inf) (hz:eu P el=some (0+1)) (h0:mB P el=some [.int .u8 0]) (h1:1<=n) (hn:n<=1000000) (hb:inf.bytes<=100):
 (V6 t (.int k1 ((0:Nat):Int)) (.int k2 (n:Int))).run P w=.ok (.slice (some ⟨w.heap.size,0,none⟩) 0 n) (w.alloc (.cells (bD 0 (λ_=>0) n) el)):=by
 obtain⟨v0,z1,z2⟩:=As (P:=P) (w:=w) (ids:=ids) h0;have hv:v0.cells.size=0+1:=by rw[<-Array.length_toList,z2];rfl
 have Fa:(Array.range (n*(0+1))).map (λi=>v0.cells[i%v0.cells.size]!)=bD 0 (λ_=>0) n:=by
  apply fe;rw[ON v0.cells 0 hv,z2];simp[ah,cl,bV,bD,den]
 have hm:inf.bytes*n<=100000000:=iY (Nat.mul_le_mul hb hn) (by decide);have e1:(decide ((n:Int)<0)||decide ((inf.bytes:Int)*(n:Int)>2^48))=false:=by
  have:(inf.bytes:Int)*(n:Int)<=100000000:=by
   have q:=Int.ofNat_le.2 hm;rw[Int.natCast_mul]at q;exact q
  rw[decide_eq_false (by omega),decide_eq_false (by omega)];rfl
 have e4:(decide ((((0:Nat):Int))<0)||decide ((inf.bytes:Int)*((0:Nat):Int)>2^48))=false:=by simp
 have e2:¬(n*inf.bytes>roomBytes):=by
  have:n*inf.bytes<=100000000:=by rw[Nat.mul_comm];exact hm
  show¬(n*inf.bytes>_);unfold roomBytes;omega
 have e3:¬n*(0+1)=0:=by omega
 simp only[V6,bx,dt hu,cz,asInt,asIntOf,dg,Jl hi,PF hn,PF (Nat.zero_le 1000000),e1,e4,Bool.false_or,askRoom,if_neg e2,Int.toNat_natCast,gz hz,if_neg e3,z1];simp only[show decide (((0:Nat):Int)<0)=false by simp,show decide (((0:Nat):Int)>(n:Int))=false by simp,Bool.or_self,Bool.false_eq_true,if_false,bx,dg,cz,gz hz,if_neg e3,z1];rw[Fa];rfl
theorem YP {ids:List Nat} {bl:List VB} {l:List CG} {B B' R:List ai} {ms:List Nat} {w0 w w':ae} (S:St ms w0 ((lits ids ids bl++ax l [])++(B++R)) w) {n c:Nat} {f:Nat->Int} {x:Option aO} (hr:eK 5 n f x c B') (hB:Wr B) (hc:Ch (B.map ai.id) w w') (aM:∀y∈B',w'.heap[y.id]?=some y.obj/\((∃u∈B,y.id=u.id)\/w.heap.size<=y.id)) (h0:0<n):
 ∃b,x=some ⟨b,0,none⟩/\n<=c/\St ms w0 (lits ids ids bl++ax (l++[.row ⟨n,f,b,c⟩]) R) w':=by
 obtain⟨b,hle,rfl,rfl⟩:=E2 hr h0;refine⟨b,rfl,hle,?_⟩;have S2:=S.tN hB hc (λy hy=>(aM y hy).1) (λy hy=>(aM y hy).2) (by simp);have e:lits ids ids bl++ax (l++[.row ⟨n,f,b,c⟩]) R=(lits ids ids bl++ax l [])++([⟨b,true,.cells (bD n f c) 5 (0,0)⟩]++R):=by
  rw[mD,iI (ax [CG.row ⟨n,f,b,c⟩] R) l,bR];rfl
 rw[e];exact S2
theorem FY (ids:List Nat) (bl:List VB) (l:List CG) (r:R8) (R:List ai):lits ids ids bl++ax (l++[.row r]) R=(lits ids ids bl++ax l [])++(r.bl++R):=by
 rw[mD,iI (ax [CG.row r] R) l,bR];rfl
theorem P_ (ids:List Nat) (bl:List VB) (l:List CG) (R:List ai):lits ids ids bl++ax l R=(lits ids ids bl++ax l [])++([]++R):=by
 rw[iI R l,bR];rfl
theorem AR (n:Nat) (f g:Nat->Int):cj 0 f g=g:=by funext j;rfl
theorem Qa {gl:Nat->Option Nat}:fP prog gl FX:=by
 intro e op ids bl ch R ms w0 w K ρ o hg hl S a9 ho h;unfold FX at h;split at h
 ·rename_i c;split at h
  ·rename_i s xs t tx eQ cR dO;split at h
   ·rename_i T' ht gh;obtain⟨nq,ar,iy⟩:=c;simp only at eQ cR dO;have e2:ar=#[s,xs]:=by rw[<-cR]
    have e3:iy=#[t,tx]:=by rw[<-dO]
    subst eQ e2 e3;have bZ:(prog.info? 5).map (λi=>(i.zero.map (·.cells),i.size,i.bytes))=some (some #[.int .u8 0],1,1):=by kernel_rfl
    split at h
    ·rename_i gw;obtain⟨b,ob,m,c,f,sure,hx,h8,YQ,hm,hK⟩:=YO hl S h;obtain⟨v,w',bG,cn,x',c',bl',rfl,fD,mE⟩:=Og (P:=prog) (ty:=o.type) (Of 5) (w:=w) (λy hy=>nomatch hy) (Ai h8 gh) ht bZ (by omega);rw[eD,AR 0]at fD;have FZ:=jL (P:=prog) (ρ:=ρ) (o:=o) ho (sv:=.slice none 0 0) (by rw[a9,gw];rfl) (by rw[a9,hx]) bG;have Qb:0<m->∀b c,m<=c->K (.raw (.slice (some ⟨b,0,none⟩) m c)) bl (ch++[.row ⟨m,f,b,c⟩]):=by
      cases sure with
      |true=>exact λ_=>hK
      |false=>exact hK.2
     have sS:m=0->K (.raw (.slice none 0 0)) bl ch:=λh0=>by
      cases sure with
      |true=>have:=YQ rfl;omega
      |false=>exact hK.1 h0
     rcases u6 m with kP|kP
     ·have h1:=sS kP;subst kP;obtain⟨i,hi,I6⟩:=gU.1 bZ;simp only[bw]at I6;have agB:=jL (P:=prog) (ρ:=ρ) (o:=o) ho (sv:=.slice none 0 0) (by rw[a9,gw];rfl) (by rw[a9,hx]) (run_append_nothing (P:=prog) w t tx o.type 5 i ht hi none 0 0 (dE _) _ (by rw[I6.2.1];exact Ai h8 gh));exact⟨_,[],bl,_,w,.inl (by rw[agB];simp[den]),by simpa using hl,by simpa using S,h1⟩
     ·obtain⟨b',rfl,hle,S2⟩:=YP (l:=ch) (B:=[]) (by rw[<-P_];exact S) fD (λy hy=>nomatch hy) (by simpa using cn) (λy hy=>by simpa using mE y hy) kP;exact⟨_,[],bl,_,w',.inl (by rw[FZ,eD];simp[den]),by simpa using hl,by simpa using S2,Qb kP b' c' hle⟩
    ·rename_i b n c gw;split at h
     ·rename_i l r F5;obtain rfl:=J_ F5;obtain⟨b1,ob,m,c1,f,sure,hx,h8,YQ,⟨rfl,rfl,rfl,jx,hb,AS⟩,hK⟩:=YO hl S h;have S1:=S;rw[FY]at S1;obtain⟨v,w',bG,cn,x',c',bl',rfl,fD,mE⟩:=Og (P:=prog) (ty:=o.type) (show eK 5 r.n r.f (some ⟨r.b,0,none⟩) r.c r.bl from⟨jx,.inr ⟨_,rfl,rfl⟩⟩) (w:=w) (λy hy=>S1.at' (by simp[hy])) (Ai h8 gh) ht bZ (by omega);have FZ:=jL (P:=prog) (ρ:=ρ) (o:=o) ho (sv:=.slice (some ⟨r.b,0,none⟩) r.n r.c) (by rw[a9,gw];rfl) (by rw[a9,hx]) bG;obtain⟨b',rfl,hle,S2⟩:=YP S1 fD (Wr.cons rfl Wr.nil) cn mE AS;exact⟨_,[],bl,_,w',.inl (by rw[FZ];simp[den]),by simpa using hl,by simpa using S2,hK b' c' hle⟩
     ·exact h.elim
    ·exact h.elim
   ·exact h.elim
  ·exact h.elim
 ·rename_i t l c;split at h
  ·rename_i k1 k2 m hu om FH;obtain⟨⟨m1,m2⟩,hK⟩:=h;obtain⟨n,rfl⟩:=Int.eq_ofNat_of_zero_le (show 0<=m by omega);obtain⟨inf,sO,im⟩:∃inf,prog.info? 5=some inf/\inf.bytes<=100:=⟨_,rfl,du (by kernel_rfl)⟩;have bG:=agA (P:=prog) (ids:=ids) (w:=w) (t:=t) (el:=5) (n:=n) (inf:=inf) (k1:=k1) (k2:=k2) hu sO (by kernel_rfl) (by kernel_rfl) (by omega) (by omega) im;rw[Int.toNat_natCast]at hK;refine⟨_,[],bl,_,w.alloc (.cells (bD 0 (λ_=>0) n) 5),.inl ?_,by simpa using hl,?_,hK w.heap.size⟩
   ·unfold execOp;have e1:cJ 0=((0:Nat):Int):=rfl;simp only[ho,a9,om,FH,den,bx,e1,bG,cz,dg]
   ·rw[cQ,FY];rw[P_]at S;exact S.tN (λy hy=>nomatch hy) (Ch.alloc [] w _) (λy hy=>by
     obtain rfl:=ig.1 hy;exact mX w _) (λy hy=>by
     obtain rfl:=ig.1 hy;exact .inr (dE _)) (by simp[R8.bl])
  ·exact h.elim
 ·exact h.elim
def aK (k:Nat) (x:Int):Nat->Int:=λj=>u8.wrap (jd x (2^(8*(k-1-j))))
theorem fdiv_zero (x:Int) (k:Nat) (h0:0<=x) (h1:x<2^k):jd x (2^k)=0:=by
 rw[tK _ (Int.le_of_lt (Int.lt_of_le_of_lt h0 h1))];exact Int.ediv_eq_zero_of_lt h0 h1
def ints (n:Nat) (f:Nat->Int):List V:=(bd n).map λj=>.int .u8 (f j)
theorem Qc {G:Type} [Bl G] {L:List (bK G)} {h:(ba->V)->Op->List VB->List G->VK G->Prop} {hok:fP prog cU h} (hL:aC prog cU L) {f:fc} {args:List V} {K:VK G} {w:ae} (hv:pH (bo (fA prog cU L h hok) 60 f args [] [] (br 0 K))):
 aS prog f (aD [] args).toArray w λv w'=>∃x ids bl ch,v=den ids x/\ids.length=bl.length/\St [] w (lits ids ids bl++ax ch []) w'/\K x bl ch:=by
 refine(eG hL.T hL.Q 60 (C:=fA prog cU L h hok) (ids:=[]) (bl:=[]) (ch:=[]) (R:=[]) (λg i h=>by cases h) rfl (St.nil [] w) hv.h).mono ?_;rintro v w' ⟨x,more,bl',ch',rfl,h1,S',hK⟩;obtain⟨v2,cB,bl2,hv,cW,S2,pP⟩:=hU (n0:=0) h1 (Nat.zero_le _) S' hK;exact⟨v2,_,bl2,ch',hv,cW,S2,pP⟩
def pQ (k:Nat) (x:Int):VB:=⟨true,⟨5,(0,0)⟩,ints k (aK k x)⟩
def AT (k:Nat) (x d:Int) (K:VK Empty):Prop:=bo (fA prog cU ([]:List (bK Empty)) (yv prog) AG) 60 70 [.int .u64 x,.int .i64 k] [] [] (br 0 K)=cond (jd x d !=0) (K (.an [.raw (.slice none 0 0),.int .i64 1]) [] []) (K (.an [.sl 0 0 k k,.int .i64 0]) [pQ k x] [])
theorem agC (x:Int) (K:VK Empty):AT 1 x (2^8) K:=by
 unfold AT;kernel_rfl
theorem agD (x:Int) (K:VK Empty):AT 2 x (2^16) K:=by
 unfold AT;kernel_rfl
theorem agE (x:Int) (K:VK Empty):AT 4 x (2^32) K:=by
 unfold AT;kernel_rfl
theorem yA (ids:List Nat) (n:Nat) (f:Nat->Int):(ah ids (ints n f)).toArray=au .u8 n f:=by
 have h:∀l:List Nat,ah ids (l.map λj=>V.int .u8 (f j))=l.map λj=>eg .u8 (f j):=by
  intro l;induction l with
  |nil=>rfl
  |cons j l ih=>simp only[eH,ah,cl,den,ih,Ex]
 unfold ints;rw[h];rfl
theorem Qd {k e:Nat} {x:Int} (hx:0<=x/\x<2^e) (hv:∀K,AT k x (2^e) K) (w:ae):aS prog 70 #[.int .u64 x,.int .i64 k] w λv w1=>∃b,v=.tuple #[.slice (some ⟨b,0,none⟩) k k,.int .i64 0]/\w.heap.size<=b/\w1.heap[b]?=some (.cells (au .u8 k (aK k x)) 5 (0,0))/\Ch [] w w1:=by
 have h:bo (fA prog cU ([]:List (bK Empty)) (yv prog) AG) 60 70 [.int .u64 x,.int .i64 k] [] [] (br 0 λv bl _=>v=.an [.sl 0 0 k k,.int .i64 0]/\bl=[pQ k x]):=by
  rw[show _=_ from hv _,fdiv_zero x e hx.1 hx.2];exact⟨rfl,rfl⟩
 refine(Qc aC.nil ⟨h⟩).mono ?_;rintro v w' ⟨y,ids,bl,ch,rfl,hl,S,rfl,rfl⟩
 match ids,hl with
 |[b],_=>
  refine⟨b,rfl,(S.own 0 (az [b] b (pQ k x)) rfl rfl).resolve_left (by simp),?_,S.ch⟩;have:=S.at_ 0 (az [b] b (pQ k x)) rfl;simp only[az,pQ,yA]at this;exact this
def F6 {G:Type}:c_ G:=λargs bl ch K=>match args with
 |[.int .u64 x,.int .i64 (.ofNat k)]=>cond ((aq k 1||(aq k 2||aq k 4))&&bM bl.length bl) ((0<=x/\x<2^(8*k))/\K (.an [.sl bl.length 0 k k,.int .i64 0]) (bl++[pQ k x]) ch) False
 |_=>False
theorem agF {G:Type} [Bl G] {gl:Nat->Option Nat}:Sound (G:=G) prog gl 70 F6:=by
 intro args ids bl ch R ms w0 w K hg hl S hc;unfold F6 at hc;split at hc
 ·rename_i x k;cases hq:(aq k 1||(aq k 2||aq k 4))&&bM bl.length bl with
  |false=>rw[hq]at hc;exact hc.elim
  |true=>
   rw[hq]at hc;simp only[bg,Cc]at hq;obtain⟨hx,hK⟩:=hc;have hp:aS prog 70 #[.int .u64 x,.int .i64 k] w λv w1=>∃b,v=.tuple #[.slice (some ⟨b,0,none⟩) k k,.int .i64 0]/\w.heap.size<=b/\w1.heap[b]?=some (.cells (au .u8 k (aK k x)) 5 (0,0))/\Ch [] w w1:=by
    rcases hq.1 with h|h|h
    ·obtain rfl:=ck h;exact Qd hx (agC x) w
    ·obtain rfl:=ck h;exact Qd hx (agD x) w
    ·obtain rfl:=ck h;exact Qd hx (agE x) w
   refine hp.mono ?_;rintro v w' ⟨b,rfl,dY,aM,cn⟩;refine⟨_,[b],_,_,?_,by simp[hl],?_,hK⟩
   ·have:(ids++[b]).getD bl.length 0=b:=by rw[<-hl];simp[ij]
    simp only[den,aD,this]
   ·have e:az (ids++[b]) b (pQ k x)=⟨b,true,.cells (au .u8 k (aK k x)) 5 (0,0)⟩:=by
     unfold az pQ;rw[yA]
    rw[eZ _ _ _ _ hl,e_ _ _ (by rw[hl];exact hq.2)];simp only[lits,e];refine(S.new cn dY aM).perm ?_;rw[bR];exact jH.symm
 ·exact hc.elim
theorem agG {G:Type}:hJ (F6 (G:=G)):=by
 intro args bl ch K hc;unfold F6 at hc⊢;split at hc
 ·revert hc;cases(aq _ 1||(aq _ 2||aq _ 4))&&bM bl.length bl with
  |false=>exact λh=>h.elim
  |true=>exact λh=>⟨h.1,h.2,_,rfl⟩
 ·exact hc.elim
def Dd (G:Type):List (bK G):=[⟨70,true,F6⟩]
theorem YR {G:Type} [Bl G] {gl:Nat->Option Nat}:aC (G:=G) prog gl (Dd G):=aC.cons ⟨agF,λ_=>agG⟩ aC.nil
def F7 (k:Nat) (n m:Int) (K:VK Empty):Prop:=bo (bP prog cU (Dd Empty)) 60 44 [.int .i64 n,.int .i64 k] [] [] (br 0 K)=((0<=bits .and .u64 (u64.wrap n) m/\bits .and .u64 (u64.wrap n) m<2^(8*k))/\K (.sl 0 0 k k) [pQ k (bits .and .u64 (u64.wrap n) m)] [])
theorem agH (n:Int) (K:VK Empty):F7 1 n 255 K:=by
 unfold F7;kernel_rfl
theorem agI (n:Int) (K:VK Empty):F7 4 n 4294967295 K:=by
 unfold F7;kernel_rfl
theorem YS {k:Nat} {n m d:Int} (hn:0<=n/\n<4294967296) (hv:∀K,F7 k n m K) (he:bits .and .u64 n m=n%d) (hd:0<d) (h2:d=2^(8*k)) (w:ae):
 aS prog 44 #[.int .i64 n,.int .i64 k] w λv w1=>∃b,v=.slice (some ⟨b,0,none⟩) k k/\w.heap.size<=b/\w1.heap[b]?=some (.cells (au .u8 k (aK k (n%d))) 5 (0,0))/\Ch [] w w1:=by
 have h:bo (bP prog cU (Dd Empty)) 60 44 [.int .i64 n,.int .i64 k] [] [] (br 0 λv bl _=>v=.sl 0 0 k k/\bl=[pQ k (n%d)]):=by
  rw[show _=_ from hv _,vg _ (by omega),he];exact⟨⟨Int.emod_nonneg _ (by omega),h2▸Int.emod_lt_of_pos _ hd⟩,rfl,rfl⟩
 refine(Qc (h:=Jt) (hok:=OT) YR ⟨h⟩).mono ?_;rintro v w' ⟨y,ids,bl,ch,rfl,hl,S,rfl,rfl⟩
 match ids,hl with
 |[b],_=>
  refine⟨b,rfl,(S.own 0 (az [b] b (pQ k (n%d))) rfl rfl).resolve_left (by simp),?_,S.ch⟩;have:=S.at_ 0 (az [b] b (pQ k (n%d))) rfl;simp only[az,pQ,yA]at this;exact this
theorem Kd (n:Int) (hn:0<=n/\n<4294967296) (w:ae):
 aS prog 44 #[.int .i64 n,.int .i64 1] w λv w1=>∃b,v=.slice (some ⟨b,0,none⟩) 1 1/\w.heap.size<=b/\w1.heap[b]?=some (.cells #[.int .u8 ((aK 1 (n%256)) 0)] 5 (0,0))/\Ch [] w w1:=
 YS hn (agH n) (qI .u64 n 255 256 8 (by decide) (by decide) (by decide)) (by decide) rfl w
theorem agJ (n:Int) (hn:0<=n/\n<4294967296) (w:ae):
 aS prog 44 #[.int .i64 n,.int .i64 4] w λv w1=>∃b,v=.slice (some ⟨b,0,none⟩) 4 4/\w.heap.size<=b/\w1.heap[b]?=some (.cells #[.int .u8 ((aK 4 (n%4294967296)) 0),.int .u8 ((aK 4 (n%4294967296)) 1),.int .u8 ((aK 4 (n%4294967296)) 2),.int .u8 ((aK 4 (n%4294967296)) 3)] 5 (0,0))/\Ch [] w w1:=
 YS hn (agI n) (qI .u64 n 4294967295 4294967296 32 (by decide) (by decide) (by decide)) (by decide) rfl w
abbrev JP:=(Nat×Nat×Nat×Nat)×(Nat->Int)
def jP (p:Nat×Nat×Nat×Nat):V:=.raw (.slice (some ⟨p.1,p.2.1,none⟩) p.2.2.1 p.2.2.2)
def jB (ps:List (Nat×Nat×Nat×Nat)):VB:=⟨false,⟨23,(0,0)⟩,ps.map jP⟩
def mH (L:List (bK CG)) (f:fc) (args:List V) (bl:List VB) (ch:List CG) (K:VK CG):Prop:=bo (fA prog cU L FX Qa) 60 f args bl ch K
section
variable(u:ae) (B:VB) (K:VK CG)
def Qe:List (Nat×Nat×Nat×Nat)->Nat->Nat->Nat->(Nat->Int)->Prop
 |[],b,n,c,f=>K (.raw (.slice (some ⟨b,0,none⟩) n c)) [B] [.aZ u,.row ⟨n,f,b,c⟩]
 |p::ps,b,n,c,f=>∃g,cd u p.1 p.2.1 p.2.2.1 g/\(b=b/\n=n/\c=c/\n<=c/\n+p.2.2.1<=1000000/\0<n+p.2.2.1)/\∀b' c',n+p.2.2.1<=c'->Qe ps b' (n+p.2.2.1) c' (cj n f g)
def Qf:List (Nat×Nat×Nat×Nat)->Prop
 |[]=>K (.raw (.slice none 0 0)) [B] [.aZ u]
 |p::ps=>∃g,cd u p.1 p.2.1 p.2.2.1 g/\p.2.2.1<=1000000/\(p.2.2.1=0->Qf ps)/\(0<p.2.2.1->∀b c,p.2.2.1<=c->Qe u B K ps b p.2.2.1 c g)
def wc (k:Nat) (ps:List (Nat×Nat×Nat×Nat)):Prop:=mH [] 43 [.sl 0 0 k k] [jB ps] [.aZ u] (br 1 K)=Qf u (jB ps) K ps
theorem agK (p:Nat×Nat×Nat×Nat):wc u K 1 [p]:=by
 unfold wc;kernel_rfl
theorem agL (p q:Nat×Nat×Nat×Nat):wc u K 2 [p,q]:=by
 unfold wc;kernel_rfl
theorem agM (p q r:Nat×Nat×Nat×Nat):wc u K 3 [p,q,r]:=by
 unfold wc;kernel_rfl
theorem agN (p q r s:Nat×Nat×Nat×Nat):wc u K 4 [p,q,r,s]:=by
 unfold wc;kernel_rfl
end
def fL:List JP->Nat->Nat
 |[],n=>n
 |p::ps,n=>fL ps (n+p.1.2.2.1)
def lB:List JP->Nat->(Nat->Int)->Nat->Int
 |[],n,f=>f
 |p::ps,n,f=>lB ps (n+p.1.2.2.1) (cj n f p.2)
theorem Qg:∀(ps:List JP) (n:Nat),n<=fL ps n
 |[],n=>dE n
 |p::ps,n=>iY (rX _ _) (Qg ps _)
theorem YT {u:ae} {B:VB} {K:VK CG}:∀(ps:List JP) (b n c:Nat) (f:Nat->Int),n<=c->0<n->fL ps n<=1000000->(∀q∈ps,cd u q.1.1 q.1.2.1 q.1.2.2.1 q.2)->
 (∀b c,fL ps n<=c->K (.raw (.slice (some ⟨b,0,none⟩) (fL ps n) c)) [B] [.aZ u,.row ⟨fL ps n,lB ps n f,b,c⟩])->Qe u B K (ps.map (·.1)) b n c f
 |[],b,n,c,f,h1,_,_,_,hK=>hK b c h1
 |p::ps,b,n,c,f,h1,h2,h3,h4,hK=>by
  have:=Qg ps (n+p.1.2.2.1);have YU:fL ps (n+p.1.2.2.1)<=1000000:=h3;exact⟨p.2,h4 p Cg,⟨rfl,rfl,rfl,h1,iY this YU,Nz h2 (rX _ _)⟩,λb' c' h=>YT ps b' _ c' _ h (Nz h2 (rX _ _)) YU (λq hq=>h4 q (xz _ hq)) hK⟩
theorem YV:∀(ps:List JP) (n:Nat) (f g:Nat->Int),(∀j,j<n->f j=g j)->∀j,j<fL ps n->lB ps n f j=lB ps n g j
 |[],n,f,g,h,j,hj=>h j hj
 |p::ps,n,f,g,h,j,hj=>YV ps _ _ _ (λi hi=>by
  unfold cj;cases hb:cu i n with
  |false=>rfl
  |true=>exact h i (by unfold cu at hb;exact du hb)) j hj
theorem YW {u:ae} {B:VB} {K:VK CG} {z:Nat->Int}:∀(ps:List JP),fL ps 0<=1000000->(∀q∈ps,cd u q.1.1 q.1.2.1 q.1.2.2.1 q.2)->(fL ps 0=0->K (.raw (.slice none 0 0)) [B] [.aZ u])->
 (∀F,(∀j,j<fL ps 0->F j=lB ps 0 z j)->∀b c,0<fL ps 0->fL ps 0<=c->K (.raw (.slice (some ⟨b,0,none⟩) (fL ps 0) c)) [B] [.aZ u,.row ⟨fL ps 0,F,b,c⟩])->Qf u B K (ps.map (·.1))
 |[],_,_,h,_=>h rfl
 |p::ps,h1,h2,h3,h4=>by
  have e:fL (p::ps) 0=fL ps p.1.2.2.1:=by show fL ps (0+p.1.2.2.1)=_;rw[eD]
  have hc:lB (p::ps) 0 z=lB ps p.1.2.2.1 p.2:=by show lB ps (0+p.1.2.2.1) (cj 0 z p.2)=_;rw[eD,AR 0]
  rw[e]at h1 h3 h4;rw[hc]at h4;have dY:=Qg ps p.1.2.2.1;refine⟨p.2,h2 p Cg,iY dY h1,λh0=>?_,λh0 b c hle=>YT ps b _ c _ hle h0 h1 (λq hq=>h2 q (xz _ hq)) λb c h=>h4 _ (λ_ _=>rfl) b c (Nz h0 dY) h⟩;rw[show p.1.2.2.1=0 from h0]at h1 h3 h4;exact YW (z:=z) ps h1 (λq hq=>h2 q (xz _ hq)) h3 λF hF=>h4 F λj hj=>(hF j hj).trans (YV ps 0 _ _ (λi hi=>absurd hi (Nat.not_lt_zero i)) j hj)
theorem Qh {ids:List Nat} {bl:List VB} {l:List CG} {r:R8} {w w':ae} (S:St [] w (lits ids ids bl++ax (l++[.row r]) []) w'):w.heap.size<=r.b:=by
 rw[FY]at S;have:=S.oe (x:=⟨r.b,true,.cells (bD r.n r.f r.c) 5 (0,0)⟩) (by simp[R8.bl]) rfl;simpa using this
theorem F8 {ids:List Nat} {bl:List VB} {l:List CG} {r:R8} {R:List ai} {ms:List Nat} {w0 w:ae} (S:St ms w0 (lits ids ids bl++ax (l++[.row r]) R) w):w.heap[r.b]?=some (.cells (bD r.n r.f r.c) 5 (0,0)):=by
 rw[FY]at S;exact S.at' (x:=⟨r.b,true,.cells (bD r.n r.f r.c) 5 (0,0)⟩) (by simp[R8.bl])
theorem Ke {k pb:Nat} {ps:List JP} {w:ae} {z:Nat->Int} (hv:∀K,wc w K k (ps.map (·.1))) (hp:w.heap[pb]?=some (.cells (ah [] ((ps.map (·.1)).map jP)).toArray 23 (0,0))) (h1:fL ps 0<=1000000) (hA:∀q∈ps,cd w q.1.1 q.1.2.1 q.1.2.2.1 q.2):
 aS prog 43 #[.slice (some ⟨pb,0,none⟩) k k] w λv w1=>Ch [] w w1/\((fL ps 0=0/\v=.slice none 0 0)\/(0<fL ps 0/\∃b c,v=.slice (some ⟨b,0,none⟩) (fL ps 0) c/\fL ps 0<=c/\w.heap.size<=b/\w1.heap[b]?=some (.cells (bD (fL ps 0) (lB ps 0 z) c) 5 (0,0)))):=by
 have h:mH [] 43 [.sl 0 0 k k] [jB (ps.map (·.1))] [.aZ w] (br 1 λv bl ch=>bl=[jB (ps.map (·.1))]/\((fL ps 0=0/\v=.raw (.slice none 0 0))\/(0<fL ps 0/\∃F b c,(∀j,j<fL ps 0->F j=lB ps 0 z j)/\v=.raw (.slice (some ⟨b,0,none⟩) (fL ps 0) c)/\fL ps 0<=c/\ch=[.aZ w,.row ⟨fL ps 0,F,b,c⟩]))):=by
  rw[show _=_ from hv _];exact YW ps h1 hA (λh=>⟨rfl,.inl ⟨h,rfl⟩⟩) λF hF b c h0 hc=>⟨rfl,.inr ⟨h0,F,b,c,hF,rfl,hc,rfl⟩⟩
 have S:St [] w (lits [pb] [pb] [jB (ps.map (·.1))]++ax [CG.aZ w] []) w:=by
  have:=St.given (w:=w) ((pb,.cells (ah [] ((ps.map (·.1)).map jP)).toArray 23 (0,0))::w.heap.toList.zipIdx.map λp=>(p.2,p.1)) (by
   intro p h;rcases ca.1 h with rfl|h
   ·exact hp
   obtain⟨q,hq,rfl⟩:=mn.1 h;have:=(List.mem_zipIdx_iff_getElem?.1 (show(q.1,q.2)∈w.heap.toList.zipIdx from hq));simpa using this)
  have e:ah [pb] ((ps.map (·.1)).map jP)=ah [] ((ps.map (·.1)).map jP):=by
   have:∀l:List (Nat×Nat×Nat×Nat),ah [pb] (l.map jP)=ah [] (l.map jP):=λl=>by
    induction l with
    |nil=>rfl
    |cons a l ih=>simp only[eH,ah,ih,jP,cl,den]
   exact this _
  simp only[lits,az,jB,e];show St [] w (_::(dC w++[])) w;rw[cQ];unfold dC;rw[eH,mr (l:=w.heap.toList.zipIdx)]at this;exact this
 refine(eG (aC.nil (G:=CG) (P:=prog) (gl:=cU)).T (aC.nil (G:=CG) (P:=prog) (gl:=cU)).Q 60 (C:=fA prog cU [] FX Qa) (λg i h=>by cases h) rfl S h).mono ?_;rintro v w' ⟨x,more,bl',ch',rfl,h1,S',hK⟩;obtain⟨v2,cB,bl2,hv,cW,S2,rfl,pP⟩:=hU (n0:=1) h1 (by simp) S' hK;refine⟨S2.ch,?_⟩;rcases pP with⟨h0,rfl⟩|⟨h0,F,b,c,hF,rfl,hc,rfl⟩
 ·exact .inl ⟨h0,hv⟩
 ·refine .inr ⟨h0,b,c,hv,hc,Qh (l:=[.aZ w]) S2,?_⟩;have:=F8 (l:=[.aZ w]) S2;rw[this];congr 2;exact PR rfl hF
theorem YX (pb:Nat) (b0 o0 n0 c0:Nat) (f0:Nat->Int) (b1 o1 n1 c1:Nat) (f1:Nat->Int) (b2 o2 n2 c2:Nat) (f2:Nat->Int) (h0:0<n0) (hn:n0+n1+n2<=1000000) (w:ae) (hp:w.heap[pb]?=some (.cells #[.slice (some ⟨b0,o0,none⟩) n0 c0,.slice (some ⟨b1,o1,none⟩) n1 c1,.slice (some ⟨b2,o2,none⟩) n2 c2] 23 (0,0))) (AL:cd w b0 o0 n0 f0) (vV:cd w b1 o1 n1 f1) (F9:cd w b2 o2 n2 f2):
 aS prog 43 #[.slice (some ⟨pb,0,none⟩) 3 3] w λv w1=>∃b c1,v=.slice (some ⟨b,0,none⟩) (n0+n1+n2) c1/\n0+n1+n2<=c1/\w.heap.size<=b/\w1.heap[b]?=some (.cells (bD (n0+n1+n2) (jC n0 n1 f0 f1 f2) c1) 5 (0,0))/\Ch [] w w1:=by
 let ps:List JP:=[((b0,o0,n0,c0),f0),((b1,o1,n1,c1),f1),((b2,o2,n2,c2),f2)]
 have et:fL ps 0=n0+n1+n2:=by show 0+n0+n1+n2=_;rw[eD]
 refine(Ke (k:=3) (ps:=ps) (z:=λ_=>0) (λK=>agM w K (b0,o0,n0,c0) (b1,o1,n1,c1) (b2,o2,n2,c2)) hp (by rw[et];exact hn) (λq hq=>by
  rcases ca.1 hq with rfl|hq
  ·exact AL
  rcases ca.1 hq with rfl|hq
  ·exact vV
  rcases ca.1 hq with rfl|hq
  ·exact F9
  cases hq)).mono ?_
 rintro v w1 ⟨cn,⟨h,_⟩|⟨_,b,c,rfl,h1,h2,h3⟩⟩
 ·omega
 ·have ec:lB ps 0 (λ_=>0)=jC n0 n1 f0 f1 f2:=by
   simp only[ps,lB,eD,AR 0];rfl
  rw[et]at h1 h3⊢;rw[ec]at h3;exact⟨b,c,rfl,h1,h2,h3,cn⟩
theorem agO (pb:Nat) (b0 o0 n0 c0:Nat) (f0:Nat->Int) (b1 o1 n1 c1:Nat) (f1:Nat->Int) (b2 o2 n2 c2:Nat) (f2:Nat->Int) (b3 o3 n3 c3:Nat) (f3:Nat->Int) (h0:0<n0) (hn:n0+n1+n2+n3<=1000000) (w:ae) (hp:w.heap[pb]?=some (.cells #[.slice (some ⟨b0,o0,none⟩) n0 c0,.slice (some ⟨b1,o1,none⟩) n1 c1,.slice (some ⟨b2,o2,none⟩) n2 c2,.slice (some ⟨b3,o3,none⟩) n3 c3] 23 (0,0))) (AL:cd w b0 o0 n0 f0) (vV:cd w b1 o1 n1 f1) (F9:cd w b2 o2 n2 f2) (hB3:cd w b3 o3 n3 f3):
 aS prog 43 #[.slice (some ⟨pb,0,none⟩) 4 4] w λv w1=>∃b c1,v=.slice (some ⟨b,0,none⟩) (n0+n1+n2+n3) c1/\n0+n1+n2+n3<=c1/\w.heap.size<=b/\w1.heap[b]?=some (.cells (bD (n0+n1+n2+n3) (FO n0 n1 n2 f0 f1 f2 f3) c1) 5 (0,0))/\Ch [] w w1:=by
 let ps:List JP:=[((b0,o0,n0,c0),f0),((b1,o1,n1,c1),f1),((b2,o2,n2,c2),f2),((b3,o3,n3,c3),f3)]
 have et:fL ps 0=n0+n1+n2+n3:=by show 0+n0+n1+n2+n3=_;rw[eD]
 refine(Ke (k:=4) (ps:=ps) (z:=λ_=>0) (λK=>agN w K (b0,o0,n0,c0) (b1,o1,n1,c1) (b2,o2,n2,c2) (b3,o3,n3,c3)) hp (by rw[et];exact hn) (λq hq=>by
  rcases ca.1 hq with rfl|hq
  ·exact AL
  rcases ca.1 hq with rfl|hq
  ·exact vV
  rcases ca.1 hq with rfl|hq
  ·exact F9
  rcases ca.1 hq with rfl|hq
  ·exact hB3
  cases hq)).mono ?_
 rintro v w1 ⟨cn,⟨h,_⟩|⟨_,b,c,rfl,h1,h2,h3⟩⟩
 ·omega
 ·have ec:lB ps 0 (λ_=>0)=FO n0 n1 n2 f0 f1 f2 f3:=by
   simp only[ps,lB,eD,AR 0];rfl
  rw[et]at h1 h3⊢;rw[ec]at h3;exact⟨b,c,rfl,h1,h2,h3,cn⟩
theorem agP (pb:Nat) (b0 o0 n0 c0:Nat) (f0:Nat->Int) (b1 o1 n1 c1:Nat) (f1:Nat->Int) (h0:0<n1) (hn:n0+n1<=1000000) (w:ae) (hp:w.heap[pb]?=some (.cells #[.slice (some ⟨b0,o0,none⟩) n0 c0,.slice (some ⟨b1,o1,none⟩) n1 c1] 23 (0,0))) (AL:cd w b0 o0 n0 f0) (vV:cd w b1 o1 n1 f1):
 aS prog 43 #[.slice (some ⟨pb,0,none⟩) 2 2] w λv w1=>∃b c1,v=.slice (some ⟨b,0,none⟩) (n0+n1) c1/\n0+n1<=c1/\w.heap.size<=b/\w1.heap[b]?=some (.cells (bD (n0+n1) (cj n0 f0 f1) c1) 5 (0,0))/\Ch [] w w1:=by
 let ps:List JP:=[((b0,o0,n0,c0),f0),((b1,o1,n1,c1),f1)]
 have et:fL ps 0=n0+n1:=by show 0+n0+n1=_;rw[eD]
 refine(Ke (k:=2) (ps:=ps) (z:=λ_=>0) (λK=>agL w K (b0,o0,n0,c0) (b1,o1,n1,c1)) hp (by rw[et];exact hn) (λq hq=>by
  rcases ca.1 hq with rfl|hq
  ·exact AL
  rcases ca.1 hq with rfl|hq
  ·exact vV
  cases hq)).mono ?_
 rintro v w1 ⟨cn,⟨h,_⟩|⟨_,b,c,rfl,h1,h2,h3⟩⟩
 ·omega
 ·have ec:lB ps 0 (λ_=>0)=cj n0 f0 f1:=by
   simp only[ps,lB,eD,AR 0]
  rw[et]at h1 h3⊢;rw[ec]at h3;exact⟨b,c,rfl,h1,h2,h3,cn⟩
def jk (kn:Nat) (kf:Nat->Int) (s n:Int):Nat->Int:=fm kn kf (1+1+4) (jC 1 1 (λ_=>78) (aK 1 (s%256)) (aK 4 (n%4294967296)))
def ry (y s r:Int) (nc:Nat->Int):Nat->Int:=FO 1 1 1 (λ_=>y) (aK 1 (s%256)) (aK 1 (r%256)) nc
def jR (kn:Nat) (kf:Nat->Int) (s r:Int) (nc:Nat->Int):Nat->Int:=fm kn kf (1+1+1+8) (ry 80 s r nc)
def iz (kn:Nat) (kf:Nat->Int) (s r:Int) (nc:Nat->Int):Nat->Int:=fm kn kf (1+1+1+8) (ry 75 s r nc)
def gB (k:Nat->Int) (s:Int) (m:Nat) (f:Nat->Int):Nat->Int:=cj m f (fm 32 k (1+1+m) (jC 1 1 (λ_=>77) (aK 1 (s%256)) f))
def kD (k:Nat->Int) (s:Int) (m:Nat) (f:Nat->Int):Bool:=ou (m+8) f (gB k s m f)
theorem agQ (ka:Option aO) (kn kc:Nat) (kf:Nat->Int) (s n:Int) (kC:1<=kn/\kn<=64) (hs:0<=s/\s<4294967296) (hn:0<=n/\n<4294967296) {tG:aG} (w:ae) (hG:w.heap[1]?=some (.cells (au .u32 64 cH) tG (0,0))) (hk:dL w ka kn kc kf):
 aS prog 15 #[.slice ka kn kc,.int .i64 s,.int .i64 n] w λv w1=>v=.agg (au .u8 8 (jk kn kf s n))/\Ch [] w w1:=by
 have S0:=St.given (w:=w) [(1,.cells (au .u32 64 cH) tG (0,0))] (all_cons hG (all_nil));refine iL Tryz.func15 rfl ?_;refine aQ (aX ?_);refine eE S0 (λb=>.pointer (some ⟨b,0,none⟩)) (.cells (au .u8 8 (λ_=>0)) 38) ?_;intro bE hY dB;refine aT (aP (aQ (aX ?_)));refine ak (.slice ka kn kc) ?_;refine eE dB (λb=>.slice (some ⟨b,0,none⟩) 1 1) (.cells #[.int .u8 78] 5) ?_;intro dq l7 cV;refine ak (.int .i64 s) ?_;refine fu 44 #[.int .i64 s,.int .i64 1] ?_;refine(Kd s (by omega) _).mono ?_;rintro _ C_ ⟨rA,rfl,j7,vW,ov⟩;have iR:=cV.new ov j7 vW;refine ak (.int .i64 n) ?_;refine fu 44 #[.int .i64 n,.int .i64 4] ?_;refine(agJ n (by omega) _).mono ?_;rintro _ Qi ⟨YY,rfl,C9,FP,ui⟩;have Qj:=iR.new ui C9 FP;refine eE Qj (λb=>.slice (some ⟨b,0,none⟩) 3 3) (.cells #[.slice (some ⟨dq,0,none⟩) 1 1,.slice (some ⟨rA,0,none⟩) 1 1,.slice (some ⟨YY,0,none⟩) 4 4] 23) ?_;intro YZ avH we;refine fu 43 #[.slice (some ⟨YZ,0,none⟩) 3 3] ?_;refine(YX YZ dq 0 1 1 (λ_=>78) rA 0 1 1 (aK 1 (s%256)) YY 0 4 4 (aK 4 (n%4294967296)) (by omega) (by omega) _ (we.at_ 0 _ rfl) (St.eK (N:=1) (f:=(λ_=>78)) (wr:=true) (t:=5) (fr:=(0,0)) we 3) (St.eK (N:=1) (f:=(aK 1 (s%256))) (wr:=true) (t:=5) (fr:=(0,0)) we 2) (St.eK (N:=4) (f:=(aK 4 (n%4294967296))) (wr:=true) (t:=5) (fr:=(0,0)) we 1)).mono ?_;rintro _ agR ⟨Kf,Qk,rfl,j8,yB,Qm,rv⟩;have wg:=we.new rv yB Qm;refine fu 42 #[.slice ka kn kc,.slice (some ⟨Kf,0,none⟩) (1+1+4) Qk] ?_;refine(P8 ka kn kc kf Kf 0 (1+1+4) Qk (jC 1 1 (λ_=>78) (aK 1 (s%256)) (aK 4 (n%4294967296))) (.of (by omega)) (by omega) _ (wg.at_ 6 _ rfl) (dL.quiet hk wg.ch) (St.Ak (c:=Qk) (wr:=true) (t:=5) (fr:=(0,0)) wg 0)).mono ?_;rintro _ J6 ⟨rfl,uj⟩;have agS:=wg.quiet uj;refine store_ agS 5 (.agg (au .u8 8 (fm kn kf (1+1+4) (jC 1 1 (λ_=>78) (aK 1 (s%256)) (aK 4 (n%4294967296)))))) bE 0 ?_;intro avI Kg;refine aT (aP (gv ?_));refine gf rfl (fF [.cell 6 38] [.agg (au .u8 8 (fm kn kf (1+1+4) (jC 1 1 (λ_=>78) (aK 1 (s%256)) (aK 4 (n%4294967296)))))] (.agg (au .u8 8 (fm kn kf (1+1+4) (jC 1 1 (λ_=>78) (aK 1 (s%256)) (aK 4 (n%4294967296)))))) ⟨mu Kg 5 8 bE 0,trivial⟩) ?_;exact⟨by(unfold jk)<;>kernel_rfl,Kg.ch⟩
theorem Y0 (y s r:Int) (nc:Nat->Int) (hs:0<=s/\s<4294967296) (hr:0<=r/\r<4294967296) (w:ae):
 aS prog 45 #[.int .u8 y,.int .i64 s,.int .i64 r,.agg (au .u8 8 nc)] w λv w1=>∃b c1,v=.slice (some ⟨b,0,none⟩) (1+1+1+8) c1/\1+1+1+8<=c1/\w.heap.size<=b/\w1.heap[b]?=some (.cells (bD (1+1+1+8) (ry y s r nc) c1) 5 (0,0))/\Ch [] w w1:=by
 have S0:=St.nil [] w;refine iL Tryz.func45 rfl ?_;refine aQ (aX ?_);refine eE S0 (λb=>.pointer (some ⟨b,0,none⟩)) (.cells (au .u8 8 nc) 38) ?_;intro bE hY dB;refine ak (.slice none 0 0) ?_;refine aT (aP (aQ ?_));refine Ad 7 [⟨0,λ_=>.int .u8 y,λ_=>[]⟩,⟨1,λids=>.slice (some ⟨(ids.getD 0 0),0,none⟩) 1 1,λids=>[((ids.getD 0 0),.cells #[.int .u8 y] 5 (0,0))]⟩,⟨0,λ_=>.int .i64 s,λ_=>[]⟩,⟨1,λids=>.slice (some ⟨(ids.getD 0 0),0,none⟩) 1 1,λids=>[((ids.getD 0 0),.cells #[.int .u8 ((aK 1 (s%256)) 0)] 5 (0,0))]⟩,⟨0,λ_=>.int .i64 r,λ_=>[]⟩,⟨1,λids=>.slice (some ⟨(ids.getD 0 0),0,none⟩) 1 1,λids=>[((ids.getD 0 0),.cells #[.int .u8 ((aK 1 (r%256)) 0)] 5 (0,0))]⟩,⟨0,λ_=>.slice (some ⟨bE,0,none⟩) 8 8,λ_=>[]⟩] [[7,1,0],[7,1],[7,3,2],[7,3],[7,5,4],[7,5],[7,6],[8,7,1,0],[8,7,1],[8,7,3,2],[8,7,3],[8,5,4],[8,5],[8,7,6],[8,7],[9,0],[9,1],[9,2],[9,3],[9,4],[9,5],[9,6],[9,7],[9,8]] ?_ ?_
 ·refine step_cons gX ?_;refine step_cons ?_ ?_
  ·intro De l7 AU Y1 Df;have v9:De 9=.int .u8 y:=(Sp.dA (Df 0 9 (by kernel_rfl) (by kernel_rfl))).1;have Dg:=dB.quiet AU;refine o_ ?_;refine lR [(9,.int .u8 y)] (lS v9 (o8)) ?_;have yz:=Dg.loc;refine Y.eE yz (λb=>.slice (some ⟨b,0,none⟩) 1 1) (.cells #[.int .u8 y] 5) ?_;intro J5 Qi ow;exact⟨ow.ch,Sp.o9 [J5] (all_cons (ow.vx AU.size 0 (by kernel_rfl)) (all_nil))⟩
  refine step_cons gX ?_;refine step_cons ?_ ?_
  ·intro agT YB Y2 avJ agU;have Qn:agT 11=.int .i64 s:=(Sp.dA (agU 2 11 (by kernel_rfl) (by kernel_rfl))).1;have we:=dB.quiet Y2;refine o_ ?_;refine lR [(11,.int .i64 s)] (lS Qn (o8)) ?_;have uk:=we.loc;refine Y.fu 44 #[.int .i64 s,.int .i64 1] ?_;refine(Kd s (by omega) _).mono ?_;rintro _ Y3 ⟨agV,rfl,j8,yB,sP⟩;have ny:=uk.new sP j8 yB;exact⟨ny.ch,Sp.o9 [agV] (all_cons (ny.vx Y2.size 0 (by kernel_rfl)) (all_nil))⟩
  refine step_cons gX ?_;refine step_cons ?_ ?_
  ·intro agW J6 Kh avK agX;have kY:agW 13=.int .i64 r:=(Sp.dA (agX 4 13 (by kernel_rfl) (by kernel_rfl))).1;have Ki:=dB.quiet Kh;refine o_ ?_;refine lR [(13,.int .i64 r)] (lS kY (o8)) ?_;have agY:=Ki.loc;refine Y.fu 44 #[.int .i64 r,.int .i64 1] ?_;refine(Kd r (by omega) _).mono ?_;rintro _ avL ⟨agZ,rfl,pS,F_,rC⟩;have Y4:=agY.new rC pS F_;exact⟨Y4.ch,Sp.o9 [agZ] (all_cons (Y4.vx Kh.size 0 (by kernel_rfl)) (all_nil))⟩
  refine step_cons gX ?_;exact Ac
 intro AV Qo ag0 AW;have PV:AV 0=.int .u8 y:=(Sp.dA (AW 0 (by kernel_rfl))).1;have ag1:=Sp.vw (AW 1 (by kernel_rfl));obtain⟨Dh,ag2,ag3⟩:=ag1;have ag4:AV 1=.slice (some ⟨Dh,0,none⟩) 1 1:=ag2;have ag5:∀zp∈([(Dh,.cells #[.int .u8 y] 5 (0,0))]:List (Nat×Obj)),hY.heap.size<=zp.1/\Qo.heap[zp.1]?=some zp.2:=ag3;have Db:AV 2=.int .i64 s:=(Sp.dA (AW 2 (by kernel_rfl))).1;have PY:=Sp.vw (AW 3 (by kernel_rfl));obtain⟨kX,PZ,P1⟩:=PY;have P2:AV 3=.slice (some ⟨kX,0,none⟩) 1 1:=PZ;have P3:∀zp∈([(kX,.cells #[.int .u8 ((aK 1 (s%256)) 0)] 5 (0,0))]:List (Nat×Obj)),hY.heap.size<=zp.1/\Qo.heap[zp.1]?=some zp.2:=P1;have P4:AV 4=.int .i64 r:=(Sp.dA (AW 4 (by kernel_rfl))).1;have ag6:=Sp.vw (AW 5 (by kernel_rfl));obtain⟨v5,ag7,ag8⟩:=ag6;have ag9:AV 5=.slice (some ⟨v5,0,none⟩) 1 1:=ag7;have ag_:∀zp∈([(v5,.cells #[.int .u8 ((aK 1 (r%256)) 0)] 5 (0,0))]:List (Nat×Obj)),hY.heap.size<=zp.1/\Qo.heap[zp.1]?=some zp.2:=ag8;have aha:AV 6=.slice (some ⟨bE,0,none⟩) 8 8:=(Sp.dA (AW 6 (by kernel_rfl))).1;have ahb:=dB.ro ag0 (([(Dh,.cells #[.int .u8 y] 5 (0,0))]++([(kX,.cells #[.int .u8 ((aK 1 (s%256)) 0)] 5 (0,0))]++[(v5,.cells #[.int .u8 ((aK 1 (r%256)) 0)] 5 (0,0))]))) (List.forall_mem_append.2 ⟨ag5,List.forall_mem_append.2 ⟨P3,ag_⟩⟩);refine⟨[.int .u8 y,.slice (some ⟨Dh,0,none⟩) 1 1,.int .i64 s,.slice (some ⟨kX,0,none⟩) 1 1,.int .i64 r,.slice (some ⟨v5,0,none⟩) 1 1,.slice (some ⟨bE,0,none⟩) 8 8],by kernel_rfl,dS PV (dS ag4 (dS Db (dS P2 (dS P4 (dS ag9 (dS aha (Cr))))))),?_⟩;refine eE ahb (λb=>.slice (some ⟨b,0,none⟩) 4 4) (.cells #[.slice (some ⟨Dh,0,none⟩) 1 1,.slice (some ⟨kX,0,none⟩) 1 1,.slice (some ⟨v5,0,none⟩) 1 1,.slice (some ⟨bE,0,none⟩) 8 8] 23) ?_;intro Y5 avM Di;refine fu 43 #[.slice (some ⟨Y5,0,none⟩) 4 4] ?_;refine(agO Y5 Dh 0 1 1 (λ_=>y) kX 0 1 1 (aK 1 (s%256)) v5 0 1 1 (aK 1 (r%256)) bE 0 8 8 nc (by omega) (by omega) _ (Di.at_ 0 _ rfl) (St.eK (N:=1) (f:=(λ_=>y)) (wr:=false) (t:=5) (fr:=(0,0)) Di 1) (St.eK (N:=1) (f:=(aK 1 (s%256))) (wr:=false) (t:=5) (fr:=(0,0)) Di 2) (St.eK (N:=1) (f:=(aK 1 (r%256))) (wr:=false) (t:=5) (fr:=(0,0)) Di 3) (St.eK (N:=8) (f:=nc) (wr:=true) (t:=38) (fr:=(0,0)) Di 4)).mono ?_;rintro _ avN ⟨Qp,Ga,rfl,ahc,Qq,Qr,P6⟩;have Qs:=Di.new P6 Qq Qr;refine fS ?_;refine aT (aP (gv ?_));refine gf rfl (fF [.tmp 8] [.slice (some ⟨Qp,0,none⟩) (1+1+1+8) Ga] (.slice (some ⟨Qp,0,none⟩) (1+1+1+8) Ga) ⟨jf,trivial⟩) ?_;have ze:bD (1+1+1+8) (FO 1 1 1 (λ_=>y) (aK 1 (s%256)) (aK 1 (r%256)) nc) Ga=bD (1+1+1+8) (ry y s r nc) Ga:=by kernel_rfl
 exact⟨Qp,Ga,by rw[show(1+1+1+8)=1+1+1+8 by omega],by have:=ahc;omega,(Qs.own 0 _ rfl rfl).resolve_left (by simp),by rw[<-ze];exact Qs.at_ 0 _ rfl,Qs.ch⟩
theorem Y6 (ka:Option aO) (kn kc:Nat) (kf:Nat->Int) (s r:Int) (nc:Nat->Int) (kC:vY ka kn) (hs:0<=s/\s<4294967296) (hr:0<=r/\r<4294967296) {tG:aG} (w:ae) (hG:w.heap[1]?=some (.cells (au .u32 64 cH) tG (0,0))) (hk:dL w ka kn kc kf):
 aS prog 16 #[.slice ka kn kc,.int .i64 s,.int .i64 r,.agg (au .u8 8 nc)] w λv w1=>v=.agg (au .u8 8 (jR kn kf s r nc))/\Ch [] w w1:=by
 have S0:=St.given (w:=w) [(1,.cells (au .u32 64 cH) tG (0,0))] (all_cons hG (all_nil));refine iL Tryz.func16 rfl ?_;refine aQ (aX ?_);refine eE S0 (λb=>.pointer (some ⟨b,0,none⟩)) (.cells (au .u8 8 nc) 38) ?_;intro bE hY dB;refine eE dB (λb=>.pointer (some ⟨b,0,none⟩)) (.cells (au .u8 8 (λ_=>0)) 38) ?_;intro dq l7 cV;refine aT (aP (aQ (aX ?_)));refine ak (.slice ka kn kc) ?_;refine ak (.int .i64 s) ?_;refine ak (.int .i64 r) ?_;refine jY cV 1 8 (au .u8 8 nc) bE 0 ?_;refine fu 45 #[.int .u8 80,.int .i64 s,.int .i64 r,.agg (au .u8 8 nc)] ?_;refine(Y0 80 s r nc (by omega) (by omega) _).mono ?_;rintro _ C_ ⟨rA,AX,rfl,vW,mG,ui,ov⟩;have iR:=cV.new ov mG ui;refine fu 42 #[.slice ka kn kc,.slice (some ⟨rA,0,none⟩) (1+1+1+8) AX] ?_;refine(P8 ka kn kc kf rA 0 (1+1+1+8) AX (ry 80 s r nc) kC (by omega) _ (iR.at_ 3 _ rfl) (dL.quiet hk iR.ch) (St.Ak (c:=AX) (wr:=true) (t:=5) (fr:=(0,0)) iR 0)).mono ?_;rintro _ C8 ⟨rfl,kE⟩;have rq:=iR.quiet kE;refine store_ rq 1 (.agg (au .u8 8 (fm kn kf (1+1+1+8) (ry 80 s r nc)))) dq 0 ?_;intro AN pO;refine aT (aP (gv ?_));refine gf rfl (fF [.cell 8 38] [.agg (au .u8 8 (fm kn kf (1+1+1+8) (ry 80 s r nc)))] (.agg (au .u8 8 (fm kn kf (1+1+1+8) (ry 80 s r nc)))) ⟨mu pO 1 8 dq 0,trivial⟩) ?_;exact⟨by(unfold jR)<;>kernel_rfl,pO.ch⟩
theorem ahd (ka:Option aO) (kn kc:Nat) (kf:Nat->Int) (s r:Int) (nc:Nat->Int) (kC:1<=kn/\kn<=64) (hs:0<=s/\s<4294967296) (hr:0<=r/\r<4294967296) {tG:aG} (w:ae) (hG:w.heap[1]?=some (.cells (au .u32 64 cH) tG (0,0))) (hk:dL w ka kn kc kf):
 aS prog 16 #[.slice ka kn kc,.int .i64 s,.int .i64 r,.agg (au .u8 8 nc)] w λv w1=>v=.agg (au .u8 8 (jR kn kf s r nc))/\Ch [] w w1:=Y6 ka kn kc kf s r nc (.of kC) hs hr w hG hk
theorem Y7 (ka:Option aO) (kn kc:Nat) (kf:Nat->Int) (s r:Int) (nc:Nat->Int) (kC:vY ka kn) (hs:0<=s/\s<4294967296) (hr:0<=r/\r<4294967296) {tG:aG} (w:ae) (hG:w.heap[1]?=some (.cells (au .u32 64 cH) tG (0,0))) (hk:dL w ka kn kc kf):
 aS prog 37 #[.slice ka kn kc,.int .i64 s,.int .i64 r,.agg (au .u8 8 nc)] w λv w1=>v=.agg (au .u8 32 (iz kn kf s r nc))/\Ch [] w w1:=by
 have S0:=St.given (w:=w) [(1,.cells (au .u32 64 cH) tG (0,0))] (all_cons hG (all_nil));refine iL Tryz.func37 rfl ?_;refine aQ (aX ?_);refine eE S0 (λb=>.pointer (some ⟨b,0,none⟩)) (.cells (au .u8 8 nc) 38) ?_;intro bE hY dB;refine eE dB (λb=>.pointer (some ⟨b,0,none⟩)) (.cells (au .u8 32 (λ_=>0)) 37) ?_;intro dq l7 cV;refine aT (aP (aQ (aX ?_)));refine ak (.slice ka kn kc) ?_;refine ak (.int .i64 s) ?_;refine ak (.int .i64 r) ?_;refine jY cV 1 8 (au .u8 8 nc) bE 0 ?_;refine fu 45 #[.int .u8 75,.int .i64 s,.int .i64 r,.agg (au .u8 8 nc)] ?_;refine(Y0 75 s r nc (by omega) (by omega) _).mono ?_;rintro _ C_ ⟨rA,AX,rfl,vW,mG,ui,ov⟩;have iR:=cV.new ov mG ui;refine fu 67 #[.slice ka kn kc,.slice (some ⟨rA,0,none⟩) (1+1+1+8) AX] ?_;refine(vZ ka kn kc kf rA 0 (1+1+1+8) AX (ry 75 s r nc) kC (by omega) _ (iR.at_ 3 _ rfl) (dL.quiet hk iR.ch) (St.Ak (c:=AX) (wr:=true) (t:=5) (fr:=(0,0)) iR 0)).mono ?_;rintro _ C8 ⟨rfl,kE⟩;have rq:=iR.quiet kE;refine store_ rq 1 (.agg (au .u8 32 (fm kn kf (1+1+1+8) (ry 75 s r nc)))) dq 0 ?_;intro AN pO;refine aT (aP (gv ?_));refine gf rfl (fF [.cell 8 37] [.agg (au .u8 32 (fm kn kf (1+1+1+8) (ry 75 s r nc)))] (.agg (au .u8 32 (fm kn kf (1+1+1+8) (ry 75 s r nc)))) ⟨mu pO 1 32 dq 0,trivial⟩) ?_;exact⟨by(unfold iz)<;>kernel_rfl,pO.ch⟩
theorem ahe (ka:Option aO) (kn kc:Nat) (kf:Nat->Int) (s r:Int) (nc:Nat->Int) (kC:1<=kn/\kn<=64) (hs:0<=s/\s<4294967296) (hr:0<=r/\r<4294967296) {tG:aG} (w:ae) (hG:w.heap[1]?=some (.cells (au .u32 64 cH) tG (0,0))) (hk:dL w ka kn kc kf):
 aS prog 37 #[.slice ka kn kc,.int .i64 s,.int .i64 r,.agg (au .u8 8 nc)] w λv w1=>v=.agg (au .u8 32 (iz kn kf s r nc))/\Ch [] w w1:=Y7 ka kn kc kf s r nc (.of kC) hs hr w hG hk
theorem close_ (k:Nat->Int) (s:Int) (b o m c:Nat) (f:Nat->Int) (hm:m<=50) (hs:0<=s/\s<4294967296) {tG:aG} (w:ae) (hG:w.heap[1]?=some (.cells (au .u32 64 cH) tG (0,0))) (hB:cd w b o m f):
 aS prog 47 #[.agg (au .u8 32 k),.int .i64 s,.slice (some ⟨b,o,none⟩) m c] w λv w1=>∃b c1,v=.slice (some ⟨b,0,none⟩) (m+8) c1/\m+8<=c1/\w.heap.size<=b/\w1.heap[b]?=some (.cells (bD (m+8) (gB k s m f) c1) 5 (0,0))/\Ch [] w w1:=by
 have S0:=St.given (w:=w) [(1,.cells (au .u32 64 cH) tG (0,0))] (all_cons hG (all_nil));refine iL Tryz.func47 rfl ?_;refine aQ (aX ?_);refine eE S0 (λb=>.pointer (some ⟨b,0,none⟩)) (.cells (au .u8 32 k) 37) ?_;intro bE hY dB;refine ak (.slice none 0 0) ?_;refine aT (aP (aQ ?_));refine Ad 9 [⟨0,λ_=>.slice (some ⟨bE,0,none⟩) 32 32,λ_=>[]⟩,⟨1,λids=>.slice (some ⟨(ids.getD 0 0),0,none⟩) 1 1,λids=>[((ids.getD 0 0),.cells #[.int .u8 77] 5 (0,0))]⟩,⟨0,λ_=>.int .i64 s,λ_=>[]⟩,⟨1,λids=>.slice (some ⟨(ids.getD 0 0),0,none⟩) 1 1,λids=>[((ids.getD 0 0),.cells #[.int .u8 ((aK 1 (s%256)) 0)] 5 (0,0))]⟩,⟨0,λ_=>.slice (some ⟨b,o,none⟩) m c,λ_=>[]⟩,⟨3,λids=>.slice (some ⟨(ids.getD 0 0),0,none⟩) 3 3,λids=>[((ids.getD 0 0),.cells #[.slice (some ⟨(ids.getD 1 0),0,none⟩) 1 1,.slice (some ⟨(ids.getD 2 0),0,none⟩) 1 1,.slice (some ⟨b,o,none⟩) m c] 23 (0,0)),((ids.getD 1 0),.cells #[.int .u8 77] 5 (0,0)),((ids.getD 2 0),.cells #[.int .u8 ((aK 1 (s%256)) 0)] 5 (0,0))]⟩,⟨2,λids=>.slice (some ⟨(ids.getD 0 0),0,none⟩) (1+1+m) (ids.getD 1 0),λids=>[((ids.getD 0 0),.cells (bD (1+1+m) (jC 1 1 (λ_=>77) (aK 1 (s%256)) f) (ids.getD 1 0)) 5 (0,0))]⟩,⟨0,λ_=>.agg (au .u8 8 (fm 32 k (1+1+m) (jC 1 1 (λ_=>77) (aK 1 (s%256)) f))),λ_=>[]⟩,⟨1,λids=>.pointer (some ⟨(ids.getD 0 0),0,none⟩),λids=>[((ids.getD 0 0),.cells (au .u8 8 (λ_=>0)) 38 (0,0))]⟩] [[9,0],[9,1],[9,2],[9,3],[9,4],[9,5],[9,6],[9,7],[9,8]] ?_ ?_
 ·refine step_cons gX ?_;refine step_cons ?_ ?_
  ·intro De l7 AU Y1 Df;have iR:=dB.quiet AU;refine o_ ?_;refine lR [] (o8) ?_;have Dg:=iR.loc;refine Y.eE Dg (λb=>.slice (some ⟨b,0,none⟩) 1 1) (.cells #[.int .u8 77] 5) ?_;intro ahf P9 AP;exact⟨AP.ch,Sp.o9 [ahf] (all_cons (AP.vx AU.size 0 (by kernel_rfl)) (all_nil))⟩
  refine step_cons gX ?_;refine step_cons ?_ ?_
  ·intro ahg C8 Y8 avO ahh;have yy:ahg 10=.int .i64 s:=(Sp.dA (ahh 2 10 (by kernel_rfl) (by kernel_rfl))).1;have ru:=dB.quiet Y8;refine o_ ?_;refine lR [(10,.int .i64 s)] (lS yy (o8)) ?_;have we:=ru.loc;refine Y.fu 44 #[.int .i64 s,.int .i64 1] ?_;refine(Kd s (by omega) _).mono ?_;rintro _ agR ⟨Kf,rfl,pT,j8,rv⟩;have wg:=we.new rv pT j8;exact⟨wg.ch,Sp.o9 [Kf] (all_cons (wg.vx Y8.size 0 (by kernel_rfl)) (all_nil))⟩
  refine step_cons gX ?_;refine step_cons ?_ ?_
  ·intro Qt Kj Y9 avP Qu;have ahi:=Sp.vw (Qu 1 9 (by kernel_rfl) (by kernel_rfl));obtain⟨Dj,ahj,ahk⟩:=ahi;have Kk:Qt 9=.slice (some ⟨Dj,0,none⟩) 1 1:=ahj;have Y_:∀zp∈([(Dj,.cells #[.int .u8 77] 5 (0,0))]:List (Nat×Obj)),hY.heap.size<=zp.1/\Kj.heap[zp.1]?=some zp.2:=ahk;have ahl:=Sp.vw (Qu 3 11 (by kernel_rfl) (by kernel_rfl));obtain⟨Dk,ahm,ahn⟩:=ahl;have wk:Qt 11=.slice (some ⟨Dk,0,none⟩) 1 1:=ahm;have Za:∀zp∈([(Dk,.cells #[.int .u8 ((aK 1 (s%256)) 0)] 5 (0,0))]:List (Nat×Obj)),hY.heap.size<=zp.1/\Kj.heap[zp.1]?=some zp.2:=ahn;have pS:Qt 12=.slice (some ⟨b,o,none⟩) m c:=(Sp.dA (Qu 4 12 (by kernel_rfl) (by kernel_rfl))).1;have aho:=dB.ro Y9 (([(Dj,.cells #[.int .u8 77] 5 (0,0))]++[(Dk,.cells #[.int .u8 ((aK 1 (s%256)) 0)] 5 (0,0))])) (List.forall_mem_append.2 ⟨Y_,Za⟩);refine o_ ?_;refine lR [(9,.slice (some ⟨Dj,0,none⟩) 1 1),(11,.slice (some ⟨Dk,0,none⟩) 1 1),(12,.slice (some ⟨b,o,none⟩) m c)] (lS Kk (lS wk (lS pS (o8)))) ?_;have ahp:=aho.loc;refine Y.eE ahp (λb=>.slice (some ⟨b,0,none⟩) 3 3) (.cells #[.slice (some ⟨Dj,0,none⟩) 1 1,.slice (some ⟨Dk,0,none⟩) 1 1,.slice (some ⟨b,o,none⟩) m c] 23) ?_;intro ahq avQ yC;exact⟨yC.ch,Sp.o9 [ahq,Dj,Dk] (all_cons (yC.vx Y9.size 0 (by kernel_rfl)) (all_cons (yC.Wq 1 (Y_ _ (Cd _)).1 false (by kernel_rfl)) (all_cons (yC.Wq 2 (Za _ (Cd _)).1 false (by kernel_rfl)) (all_nil))))⟩
  refine step_cons ?_ ?_
  ·intro ahr ahs Zb avR aht;have ahu:=Sp.Wp (aht 5 13 (by kernel_rfl) (by kernel_rfl));obtain⟨Dl,kX,Gb,ahv,ahw⟩:=ahu;have Db:ahr 13=.slice (some ⟨Dl,0,none⟩) 3 3:=ahv;have ahx:∀zp∈([(Dl,.cells #[.slice (some ⟨kX,0,none⟩) 1 1,.slice (some ⟨Gb,0,none⟩) 1 1,.slice (some ⟨b,o,none⟩) m c] 23 (0,0)),(kX,.cells #[.int .u8 77] 5 (0,0)),(Gb,.cells #[.int .u8 ((aK 1 (s%256)) 0)] 5 (0,0))]:List (Nat×Obj)),hY.heap.size<=zp.1/\ahs.heap[zp.1]?=some zp.2:=ahw;have J7:=dB.ro Zb ([(Dl,.cells #[.slice (some ⟨kX,0,none⟩) 1 1,.slice (some ⟨Gb,0,none⟩) 1 1,.slice (some ⟨b,o,none⟩) m c] 23 (0,0)),(kX,.cells #[.int .u8 77] 5 (0,0)),(Gb,.cells #[.int .u8 ((aK 1 (s%256)) 0)] 5 (0,0))]) (ahx);refine o_ ?_;refine lR [(13,.slice (some ⟨Dl,0,none⟩) 3 3)] (lS Db (o8)) ?_;have Gc:=J7.loc;refine Y.fu 43 #[.slice (some ⟨Dl,0,none⟩) 3 3] ?_;refine(YX Dl kX 0 1 1 (λ_=>77) Gb 0 1 1 (aK 1 (s%256)) b o m c f (by omega) (by omega) _ (Gc.at_ 0 _ rfl) (St.eK (N:=1) (f:=(λ_=>77)) (wr:=false) (t:=5) (fr:=(0,0)) Gc 1) (St.eK (N:=1) (f:=(aK 1 (s%256))) (wr:=false) (t:=5) (fr:=(0,0)) Gc 2) (St.lz Gc (St.lz J7 hB (by simp)) (by simp))).mono ?_;rintro _ agu ⟨ahy,ahz,rfl,avS,ahA,YH,ahB⟩;have Zc:=Gc.new ahB ahA YH;exact⟨Zc.ch,Sp.o9 [ahy,ahz] (all_cons (Zc.vx Zb.size 0 (by kernel_rfl)) (all_nil))⟩
  refine step_cons ?_ ?_
  ·intro Zd ahC ahD avT Ze;have Qq:Zd 8=.slice (some ⟨bE,0,none⟩) 32 32:=(Sp.dA (Ze 0 8 (by kernel_rfl) (by kernel_rfl))).1;have ahE:=Sp.Wo (Ze 6 14 (by kernel_rfl) (by kernel_rfl));obtain⟨Dm,AY,ahF,ahG⟩:=ahE;have Qr:Zd 14=.slice (some ⟨Dm,0,none⟩) (1+1+m) AY:=ahF;have ahH:∀zp∈([(Dm,.cells (bD (1+1+m) (jC 1 1 (λ_=>77) (aK 1 (s%256)) f) AY) 5 (0,0))]:List (Nat×Obj)),hY.heap.size<=zp.1/\ahC.heap[zp.1]?=some zp.2:=ahG;have ahI:=dB.ro ahD ([(Dm,.cells (bD (1+1+m) (jC 1 1 (λ_=>77) (aK 1 (s%256)) f) AY) 5 (0,0))]) (ahH);refine o_ ?_;refine lR [(8,.slice (some ⟨bE,0,none⟩) 32 32),(14,.slice (some ⟨Dm,0,none⟩) (1+1+m) AY)] (lS Qq (lS Qr (o8))) ?_;have Kl:=ahI.loc;refine Y.fu 42 #[.slice (some ⟨bE,0,none⟩) 32 32,.slice (some ⟨Dm,0,none⟩) (1+1+m) AY] ?_;refine(P8 (some ⟨bE,0,none⟩) 32 32 k Dm 0 (1+1+m) AY (jC 1 1 (λ_=>77) (aK 1 (s%256)) f) (.of (by omega)) (by omega) _ (Kl.at_ 2 _ rfl) (dL.Oi (St.eK (N:=32) (f:=k) (wr:=false) (t:=37) (fr:=(0,0)) Kl 1) (by omega) (by omega)) (St.Ak (c:=AY) (wr:=false) (t:=5) (fr:=(0,0)) Kl 0)).mono ?_;rintro _ avU ⟨rfl,ahJ⟩;have ahK:=Kl.quiet ahJ;exact⟨ahK.ch,Sp.o9 [] (all_nil)⟩
  refine step_cons ?_ ?_
  ·intro avV avW Zf avX avY;have ahL:=dB.quiet Zf;refine o_ ?_;refine lR [] (o8) ?_;have ahM:=ahL.loc;refine Y.eE ahM (λb=>.pointer (some ⟨b,0,none⟩)) (.cells (au .u8 8 (λ_=>0)) 38) ?_;intro ahN avZ Zg;exact⟨Zg.ch,Sp.o9 [ahN] (all_cons (Zg.vx Zf.size 0 (by kernel_rfl)) (all_nil))⟩
  exact Ac
 intro wm Gd ahO wo;have ahP:wm 0=.slice (some ⟨bE,0,none⟩) 32 32:=(Sp.dA (wo 0 (by kernel_rfl))).1;have ahQ:=Sp.vw (wo 1 (by kernel_rfl));obtain⟨Qv,ahR,ahS⟩:=ahQ;have ahT:wm 1=.slice (some ⟨Qv,0,none⟩) 1 1:=ahR;have av0:∀zp∈([(Qv,.cells #[.int .u8 77] 5 (0,0))]:List (Nat×Obj)),hY.heap.size<=zp.1/\Gd.heap[zp.1]?=some zp.2:=ahS;have ahU:wm 2=.int .i64 s:=(Sp.dA (wo 2 (by kernel_rfl))).1;have ahV:=Sp.vw (wo 3 (by kernel_rfl));obtain⟨Qw,ahW,ahX⟩:=ahV;have ahY:wm 3=.slice (some ⟨Qw,0,none⟩) 1 1:=ahW;have av1:∀zp∈([(Qw,.cells #[.int .u8 ((aK 1 (s%256)) 0)] 5 (0,0))]:List (Nat×Obj)),hY.heap.size<=zp.1/\Gd.heap[zp.1]?=some zp.2:=ahX;have ahZ:wm 4=.slice (some ⟨b,o,none⟩) m c:=(Sp.dA (wo 4 (by kernel_rfl))).1;have ah0:=Sp.Wp (wo 5 (by kernel_rfl));obtain⟨Qx,Zh,Zi,ah1,ah2⟩:=ah0;have ah3:wm 5=.slice (some ⟨Qx,0,none⟩) 3 3:=ah1;have av2:∀zp∈([(Qx,.cells #[.slice (some ⟨Zh,0,none⟩) 1 1,.slice (some ⟨Zi,0,none⟩) 1 1,.slice (some ⟨b,o,none⟩) m c] 23 (0,0)),(Zh,.cells #[.int .u8 77] 5 (0,0)),(Zi,.cells #[.int .u8 ((aK 1 (s%256)) 0)] 5 (0,0))]:List (Nat×Obj)),hY.heap.size<=zp.1/\Gd.heap[zp.1]?=some zp.2:=ah2;have ah4:=Sp.Wo (wo 6 (by kernel_rfl));obtain⟨Qy,Qz,ah5,ah6⟩:=ah4;have ah7:wm 6=.slice (some ⟨Qy,0,none⟩) (1+1+m) Qz:=ah5;have av3:∀zp∈([(Qy,.cells (bD (1+1+m) (jC 1 1 (λ_=>77) (aK 1 (s%256)) f) Qz) 5 (0,0))]:List (Nat×Obj)),hY.heap.size<=zp.1/\Gd.heap[zp.1]?=some zp.2:=ah6;have ah8:wm 7=.agg (au .u8 8 (fm 32 k (1+1+m) (jC 1 1 (λ_=>77) (aK 1 (s%256)) f))):=(Sp.dA (wo 7 (by kernel_rfl))).1;have ah9:=Sp.vw (wo 8 (by kernel_rfl));obtain⟨AZ,ah_,aia⟩:=ah9;have aib:wm 8=.pointer (some ⟨AZ,0,none⟩):=ah_;have Zj:∀zp∈([(AZ,.cells (au .u8 8 (λ_=>0)) 38 (0,0))]:List (Nat×Obj)),hY.heap.size<=zp.1/\Gd.heap[zp.1]?=some zp.2:=aia;have aic:=dB.new ahO (Zj _ (Cd _)).1 (Zj _ (Cd _)).2;refine⟨[.slice (some ⟨bE,0,none⟩) 32 32,.slice (some ⟨Qv,0,none⟩) 1 1,.int .i64 s,.slice (some ⟨Qw,0,none⟩) 1 1,.slice (some ⟨b,o,none⟩) m c,.slice (some ⟨Qx,0,none⟩) 3 3,.slice (some ⟨Qy,0,none⟩) (1+1+m) Qz,.agg (au .u8 8 (fm 32 k (1+1+m) (jC 1 1 (λ_=>77) (aK 1 (s%256)) f))),.pointer (some ⟨AZ,0,none⟩)],by kernel_rfl,dS ahP (dS ahT (dS ahU (dS ahY (dS ahZ (dS ah3 (dS ah7 (dS ah8 (dS aib (Cr))))))))),?_⟩;refine store_ aic 0 (.agg (au .u8 8 (fm 32 k (1+1+m) (jC 1 1 (λ_=>77) (aK 1 (s%256)) f)))) AZ 0 ?_;intro av4 aid;refine aT (aP (aQ (aX ?_)));refine dJ ?_;refine ak (.slice (some ⟨AZ,0,none⟩) 8 8) ?_;refine eE aid (λb=>.slice (some ⟨b,0,none⟩) 2 2) (.cells #[.slice (some ⟨b,o,none⟩) m c,.slice (some ⟨AZ,0,none⟩) 8 8] 23) ?_;intro Zk av5 Km;refine fu 43 #[.slice (some ⟨Zk,0,none⟩) 2 2] ?_;refine(agP Zk b o m c f AZ 0 8 8 (fm 32 k (1+1+m) (jC 1 1 (λ_=>77) (aK 1 (s%256)) f)) (by omega) (by omega) _ (Km.at_ 0 _ rfl) (St.lz Km hB (by simp)) (St.eK (N:=8) (f:=(fm 32 k (1+1+m) (jC 1 1 (λ_=>77) (aK 1 (s%256)) f))) (wr:=true) (t:=38) (fr:=(0,0)) Km 1)).mono ?_;rintro _ av6 ⟨QA,Ge,rfl,aie,aif,aih,aii⟩;have QB:=Km.new aii aif aih;refine fS ?_;refine aT (aP (gv ?_));refine gf rfl (fF [.tmp 6] [.slice (some ⟨QA,0,none⟩) (m+8) Ge] (.slice (some ⟨QA,0,none⟩) (m+8) Ge) ⟨jf,trivial⟩) ?_;have ze:bD (m+8) (cj m f (fm 32 k (1+1+m) (jC 1 1 (λ_=>77) (aK 1 (s%256)) f))) Ge=bD (m+8) (gB k s m f) Ge:=by kernel_rfl
 exact⟨QA,Ge,by rw[show(m+8)=m+8 by omega],by have:=aie;omega,(QB.own 0 _ rfl rfl).resolve_left (by simp),by rw[<-ze];exact QB.at_ 0 _ rfl,QB.ch⟩
def Gf:c_ CG:=λargs bl ch K=>match args,ch with
 |[.raw (.slice (some ⟨b,o,none⟩) n c),.raw (.slice (some ⟨b2,o2,none⟩) n2 c2)],.aZ u::_=>(match Dc ch with
  |some (l,r)=>∃f g:Nat->Int,(cd u b o n f/\b2=r.b/\n=n2/\o2+n2<=r.n/\n<=1000000/\∀j,j<n->wb o2 r.f j=g j)/\K (.bool (ou n f g)) bl ch
  |none=>False)
 |_,_=>False
def Gg:c_ CG:=λargs bl ch K=>match args,ch with
 |[.agg l,.int .i64 s,.raw (.slice (some ⟨b,o,none⟩) n c)],.aZ u::_=>(match j9 l with
  |some r=>∃f k:Nat->Int,(cd u b o n f/\n<=50/\(0<=s/\s<4294967296)/\(∃tG,u.heap[1]?=some (.cells (au .u32 64 cH) tG (0,0)))/\r.length=32/\∀j,j<32->da r j=k j)/\∀b' c',n+8<=c'->K (.raw (.slice (some ⟨b',0,none⟩) (n+8) c')) bl (ch++[.row ⟨n+8,gB k s n f,b',c'⟩])
  |none=>False)
 |_,_=>False
def Gi:c_ CG:=λargs bl ch K=>match args,ch with
 |[.sl i 0 1 1],.aZ u::_=>(match bl[i]?with
  |some ⟨_,⟨23,(0,0)⟩,[.raw (.slice (some ⟨b,o,none⟩) n c)]⟩=>∃f,(cd u b o n f/\n<=1000000)/\(n=0->K (.raw (.slice none 0 0)) bl ch)/\(0<n->∀b' c',n<=c'->K (.raw (.slice (some ⟨b',0,none⟩) n c')) bl (ch++[.row ⟨n,f,b',c'⟩]))
  |_=>False)
 |_,_=>False
theorem Zl {w:ae} {r:R8} {o m:Nat} (h:w.heap[r.b]?=some (.cells (bD r.n r.f r.c) 5 (0,0))) (hm:o+m<=r.n):cd w r.b o m (wb o r.f):=λj hj=>by
 rw[cell_of h,YN];unfold bD;simp only[jt];rw[gV (by rw[gi];omega)];exact qT _ (by omega)
theorem cd.cg {w:ae} {b o n:Nat} {f g:Nat->Int} (h:cd w b o n f) (e:∀j,j<n->f j=g j):cd w b o n g:=λj hj=>by rw[h j hj,e j hj]
theorem Gj {ids:List Nat} {bl:List VB} {u:ae} {rest:List CG} {R:List ai} {y:ai} (h:y∈dC u):y∈lits ids ids bl++ax (CG.aZ u::rest) R:=tH _ (oU _ h)
theorem QC {ids:List Nat} {bl:List VB} {u w w0:ae} {rest:List CG} {R:List ai} {ms:List Nat} (S:St ms w0 (lits ids ids bl++ax (CG.aZ u::rest) R) w) {i:Nat} {o:Obj} (h:u.heap[i]?=some o):w.heap[i]?=some o:=S.at' (x:=⟨i,false,o⟩) (Gj (J9 h))
theorem aij {gl:Nat->Option Nat}:Sound prog gl 192 Gf:=by
 intro args ids bl ch R ms w0 w K hg hl S hc;unfold Gf at hc;split at hc
 ·rename_i b o n c b2 o2 n2 c2 u rest;split at hc
  ·rename_i l r F5;obtain⟨f,g,⟨h8,rfl,rfl,hle,hn,hgj⟩,hK⟩:=hc;have S1:=S;rw[J_ F5]at S1;refine(YJ b o n c r.b o2 c2 f g hn w (Kc S (λy hy=>Gj hy) h8) (cd.cg (Zl (F8 S1) hle) hgj)).mono ?_;rintro v w' ⟨rfl,cn⟩;exact⟨.bool (ou n f g),[],bl,_,rfl,by simpa using hl,by simpa using S.quiet cn,hK⟩
  ·exact hc.elim
 ·exact hc.elim
theorem aik:hJ Gf:=by
 intro args bl ch K hc;unfold Gf at hc⊢;split at hc
 ·split at hc
  ·obtain⟨f,g,h,hK⟩:=hc;rename_i e;try simp only[e]
   exact⟨f,g,h,hK,[],by simp⟩
  ·exact hc.elim
 ·exact hc.elim
theorem Zm {ids:List Nat} {bl:List VB} {ch:List CG} {R:List ai} {ms:List Nat} {w0 w w':ae} {n b c:Nat} {f:Nat->Int} (S:St ms w0 (lits ids ids bl++ax ch R) w) (cn:Ch [] w w') (dY:w.heap.size<=b) (aM:w'.heap[b]?=some (.cells (bD n f c) 5 (0,0))):St ms w0 (lits ids ids bl++ax (ch++[.row ⟨n,f,b,c⟩]) R) w':=by
 rw[FY];rw[P_]at S;exact S.tN (bl':=[⟨b,true,.cells (bD n f c) 5 (0,0)⟩]) (λy hy=>nomatch hy) cn (λy hy=>by
  obtain rfl:=ig.1 hy;exact aM) (λy hy=>by
  obtain rfl:=ig.1 hy;exact .inr dY) (by simp)
theorem ail {gl:Nat->Option Nat}:Sound prog gl 47 Gg:=by
 intro args ids bl ch R ms w0 w K hg hl S hc;unfold Gg at hc;split at hc
 ·rename_i l s b o n c u rest;split at hc
  ·rename_i r hr;obtain⟨f,k,⟨h8,hn,hs,⟨tG,hG⟩,hq,hk⟩,hK⟩:=hc;have ea:(aD ids [.agg l,.int .i64 s,.raw (.slice (some ⟨b,o,none⟩) n c)]).toArray=#[.agg (au .u8 32 k),.int .i64 s,.slice (some ⟨b,o,none⟩) n c]:=by
    simp only[aD,den,wa ids hr,hq];rw[E0 hk];rfl
   rw[ea];refine(close_ k s b o n c f hn hs w (QC S hG) (Kc S (λy hy=>Gj hy) h8)).mono ?_;rintro v w' ⟨b2,c2,rfl,hle,dY,aM,cn⟩;exact⟨_,[],bl,_,rfl,by simpa using hl,by simpa using Zm S cn dY aM,hK b2 c2 hle⟩
  ·exact hc.elim
 ·exact hc.elim
theorem aim:hJ Gg:=by
 intro args bl ch K hc;unfold Gg at hc⊢;split at hc
 ·split at hc
  ·obtain⟨f,k,h,hK⟩:=hc;exact⟨f,k,h,λb c h=>⟨hK b c h,[],by simp⟩⟩
  ·exact hc.elim
 ·exact hc.elim
theorem ain {gl:Nat->Option Nat}:Sound prog gl 43 Gi:=by
 intro args ids bl ch R ms w0 w K hg hl S hc;unfold Gi at hc;split at hc
 ·rename_i i u rest;split at hc
  ·rename_i wr b o n c hb;obtain⟨f,⟨h8,hn⟩,sS,Qb⟩:=hc;have aM:=(fE hl S hb).2
   let ps:List JP:=[((b,o,n,c),f)]
   have et:fL ps 0=n:=by show 0+n=_;rw[eD]
   refine(Ke (k:=1) (ps:=ps) (z:=λ_=>0) (λK=>agK w K (b,o,n,c)) aM (by rw[et];exact hn) (λq hq=>by
    rcases ca.1 hq with rfl|hq
    ·exact Kc S (λy hy=>Gj hy) h8
    cases hq)).mono ?_
   rintro v w' ⟨cn,⟨h,rfl⟩|⟨h0,b',c',rfl,h1,h2,h3⟩⟩
   ·exact⟨_,[],bl,_,rfl,by simpa using hl,by simpa using S.quiet cn,sS (by rw[<-et];exact h)⟩
   ·have ec:lB ps 0 (λ_=>0)=f:=by
     simp only[ps,lB,eD,AR 0]
    rw[et]at h1 h3⊢;rw[ec]at h3;rw[et]at h0;exact⟨_,[],bl,_,rfl,by simpa using hl,by simpa using Zm S cn h2 h3,Qb h0 b' c' h1⟩
  ·exact hc.elim
 ·exact hc.elim
theorem aio:hJ Gi:=by
 intro args bl ch K hc;unfold Gi at hc⊢;split at hc
 ·split at hc
  ·obtain⟨f,h,h0,h1⟩:=hc;exact⟨f,h,λe=>⟨h0 e,[],by simp⟩,λe b c h=>⟨h1 e b c h,[],by simp⟩⟩
  ·exact hc.elim
 ·exact hc.elim
def QD:List (bK CG):=[⟨47,true,Gg⟩,⟨192,true,Gf⟩,⟨43,true,Gi⟩]
theorem aip:aC prog cU QD:=aC.cons ⟨ail,λ_=>aim⟩ (aC.cons ⟨aij,λ_=>aik⟩ (aC.cons ⟨ain,λ_=>aio⟩ aC.nil))
def Zn (u:ae) (k:Nat->Int) (s:Int) (b o n c:Nat) (K:VK CG):Prop:=
 let q:=i64.wrap ((n:Int)-8)
 let no (ch:List CG):Prop:=K (.an [.raw (.slice none 0 0),.int .i64 14]) [] (.aZ u::ch)
 cond (decide (q<0)) (no []) ((0<=q/\q<=(c:Int))/\∃f kk:Nat->Int,(cd u b o q.toNat f/\q.toNat<=50/\(0<=s/\s<4294967296)/\(∃tG,u.heap[1]?=some (.cells (au .u32 64 cH) tG (0,0)))/\((bd 32).map k).length=32/\∀j,j<32->da ((bd 32).map k) j=kk j)/\
  ∀b1 c1:Nat,q.toNat+8<=c1->∃f2 g2:Nat->Int,(cd u b o n f2/\b1=b1/\n=q.toNat+8/\0+(q.toNat+8)<=q.toNat+8/\n<=1000000/\∀j,j<n->gB kk s q.toNat f j=g2 j)/\
   cond (!(ou n f2 g2)) (no [.row ⟨q.toNat+8,gB kk s q.toNat f,b1,c1⟩]) ((0<=q/\q<=(c:Int))/\∃f3:Nat->Int,(cd u b o q.toNat f3/\q.toNat<=1000000)/\
    (q.toNat=0->K (.an [.raw (.slice none 0 0),.int .i64 0]) [] [.aZ u,.row ⟨q.toNat+8,gB kk s q.toNat f,b1,c1⟩])/\
    (0<q.toNat->∀b2 c2:Nat,q.toNat<=c2->K (.an [.raw (.slice (some ⟨b2,0,none⟩) q.toNat c2),.int .i64 0]) [] [.aZ u,.row ⟨q.toNat+8,gB kk s q.toNat f,b1,c1⟩,.row ⟨q.toNat,f3,b2,c2⟩])))
theorem aiq (u:ae) (k:Nat->Int) (s:Int) (b o n c:Nat) (K:VK CG):mH QD 150 [.agg (ints 32 k),.int .i64 s,.raw (.slice (some ⟨b,o,none⟩) n c)] [] [.aZ u] (br 0 K)=Zn u k s b o n c K:=by kernel_rfl
theorem yD {L:List (bK CG)} (hL:aC prog cU L) {f:fc} {args:List V} {K:VK CG} {w:ae} (h:mH L f args [] [.aZ w] (br 0 K)):aS prog f (aD [] args).toArray w λv w'=>∃x ids bl ch,v=den ids x/\ids.length=bl.length/\St [] w (lits ids ids bl++ax ch []) w'/\K x bl ch:=by
 refine(eG hL.T hL.Q 60 (C:=fA prog cU L FX Qa) (ids:=[]) (bl:=[]) (ch:=[.aZ w]) (R:=[]) (λg i h=>by cases h) rfl (YM w) h).mono ?_;rintro v w' ⟨x,more,bl',ch',rfl,h1,S',hK⟩;obtain⟨v2,cB,bl2,hv,cW,S2,pP⟩:=hU (n0:=0) h1 (Nat.zero_le _) S' hK;exact⟨v2,_,bl2,ch',hv,cW,S2,pP⟩
theorem yE {k:Nat->Int} {n j:Nat} (h:j<n):da ((bd n).map k) j=k j:=by
 unfold da;simp[ij,m9 h]
theorem Zo (k:Nat->Int) (s:Int) (a:Option aO) (n c:Nat):(aD [] [.agg (ints 32 k),.int .i64 s,.raw (.slice a n c)]).toArray=#[.agg (au .u8 32 k),.int .i64 s,.slice a n c]:=by
 simp only[aD,den,yA]
theorem Zp (k:Nat->Int) (s:Int) (a:Option aO) (n c:Nat) (hn:n<8) (w:ae):
 aS prog 150 #[.agg (au .u8 32 k),.int .i64 s,.slice a n c] w λv w1=>v=.tuple #[.slice none 0 0,.int .i64 14]/\Ch [] w w1:=by
 have h:mH [] 150 [.agg (ints 32 k),.int .i64 s,.raw (.slice a n c)] [] [.aZ w] (br 0 λv _ _=>v=.an [.raw (.slice none 0 0),.int .i64 14]):=by
  have e:∀K:VK CG,mH [] 150 [.agg (ints 32 k),.int .i64 s,.raw (.slice a n c)] [] [.aZ w] (br 0 K)=K (.an [.raw (.slice none 0 0),.int .i64 14]) [] [.aZ w]:=by
   intro K;rcases(by omega:n=0\/n=1\/n=2\/n=3\/n=4\/n=5\/n=6\/n=7)with rfl|rfl|rfl|rfl|rfl|rfl|rfl|rfl<;>kernel_rfl
  rw[e]
 rw[<-Zo];refine(yD aC.nil h).mono ?_;rintro v w' ⟨x,ids,bl,ch,rfl,hl,S,rfl⟩;exact⟨rfl,S.ch⟩
theorem Zq (k:Nat->Int) (s:Int) (b o m c:Nat) (f:Nat->Int) (hm:m<=50) (hc:m+8<=c) (hs:0<=s/\s<4294967296) {tG:aG} (w:ae) (hG:w.heap[1]?=some (.cells (au .u32 64 cH) tG (0,0))) (hB:cd w b o (m+8) f):
 aS prog 150 #[.agg (au .u8 32 k),.int .i64 s,.slice (some ⟨b,o,none⟩) (m+8) c] w λv w1=>(kD k s m f=false/\v=.tuple #[.slice none 0 0,.int .i64 14]/\Ch [] w w1)\/(kD k s m f=true/\∃x1 c1 jQ,v=.tuple #[.slice x1 m c1,.int .i64 0]/\eK 5 m f x1 c1 jQ/\St [] w jQ w1):=by
 have h:mH QD 150 [.agg (ints 32 k),.int .i64 s,.raw (.slice (some ⟨b,o,none⟩) (m+8) c)] [] [.aZ w] (br 0 λv bl ch=>bl=[]/\((kD k s m f=false/\v=.an [.raw (.slice none 0 0),.int .i64 14])\/(kD k s m f=true/\((m=0/\v=.an [.raw (.slice none 0 0),.int .i64 0])\/∃l b2 c2,0<m/\m<=c2/\v=.an [.raw (.slice (some ⟨b2,0,none⟩) m c2),.int .i64 0]/\ch=l++[.row ⟨m,f,b2,c2⟩])))):=by
  rw[aiq];unfold Zn;have e:i64.wrap (((m+8:Nat):Int)-8)=(m:Int):=by simp[xw,tI,tJ];omega
  dsimp only;rw[e,Int.toNat_natCast];refine aI (λh=>absurd (of_decide_eq_true h) (by omega)) λ_=>⟨⟨by omega,by omega⟩,f,k,⟨hB.cut (by omega),hm,hs,⟨tG,hG⟩,by simp,λj hj=>yE hj⟩,λb1 c1 h1=>⟨f,gB k s m f,⟨hB,rfl,rfl,by omega,by omega,λ_ _=>rfl⟩,aI (λh=>⟨rfl,.inl ⟨(by unfold kD;simpa using h),rfl⟩⟩) λh=>⟨⟨by omega,by omega⟩,f,⟨hB.cut (by omega),by omega⟩,λh0=>⟨rfl,.inr ⟨(by unfold kD;simpa using h),.inl ⟨h0,rfl⟩⟩⟩,λh0 b2 c2 h2=>⟨rfl,.inr ⟨(by unfold kD;simpa using h),.inr ⟨[.aZ w,.row ⟨m+8,gB k s m f,b1,c1⟩],b2,c2,h0,h2,rfl,rfl⟩⟩⟩⟩⟩⟩
 rw[<-Zo];refine(yD aip h).mono ?_;rintro v w' ⟨x,ids,bl,ch,rfl,hl,S,rfl,⟨h0,rfl⟩|⟨h0,⟨rfl,rfl⟩|⟨l,b2,c2,h1,h2,rfl,rfl⟩⟩⟩
 ·exact .inl ⟨h0,rfl,S.ch⟩
 ·exact .inr ⟨h0,none,0,[],rfl,⟨dE _,.inl ⟨rfl,rfl,rfl,rfl⟩⟩,by simpa using(St.nil [] w).quiet S.ch⟩
 ·exact .inr ⟨h0,some ⟨b2,0,none⟩,c2,_,rfl,⟨h2,.inr ⟨b2,rfl,rfl⟩⟩,(St.nil [] w).new S.ch (Qh S) (F8 S)⟩
theorem air (k:Nat->Int) (s:Int) (b o m c:Nat) (f:Nat->Int) (hm:m<=50) (hc:m+8<=c) (hs:0<=s/\s<4294967296) (ho:kD k s m f=false) {tG:aG} (w:ae) (hG:w.heap[1]?=some (.cells (au .u32 64 cH) tG (0,0))) (hB:cd w b o (m+8) f):
 aS prog 150 #[.agg (au .u8 32 k),.int .i64 s,.slice (some ⟨b,o,none⟩) (m+8) c] w λv w1=>v=.tuple #[.slice none 0 0,.int .i64 14]/\Ch [] w w1:=
 (Zq k s b o m c f hm hc hs w hG hB).mono λv w1 h=>h.elim (λh=>h.2) λh=>by rw[ho]at h;cases h.1
theorem ais (k:Nat->Int) (s:Int) (b o m c:Nat) (f:Nat->Int) (hm:m<=50) (hc:m+8<=c) (hs:0<=s/\s<4294967296) (ho:kD k s m f=true) {tG:aG} (w:ae) (hG:w.heap[1]?=some (.cells (au .u32 64 cH) tG (0,0))) (hB:cd w b o (m+8) f):
 aS prog 150 #[.agg (au .u8 32 k),.int .i64 s,.slice (some ⟨b,o,none⟩) (m+8) c] w λv w1=>∃x1 c1 jQ,v=.tuple #[.slice x1 m c1,.int .i64 0]/\eK 5 m f x1 c1 jQ/\St [] w jQ w1:=
 (Zq k s b o m c f hm hc hs w hG hB).mono λv w1 h=>h.elim (λh=>by rw[ho]at h;cases h.1) λh=>h.2
def j_ (p:Sd.aN) (ka:Nat->Option aO) (kn kc:Nat->Nat):Array ab:=#[.int .i64 (p.i 0),.int .i64 (p.i 1),.int .i64 (p.i 2),.int .i64 (p.i 3),.int .i64 (p.i 4),.slice (ka 0) (kn 0) (kc 0),.slice (ka 1) (kn 1) (kc 1),.slice (ka 2) (kn 2) (kc 2),.slice (ka 3) (kn 3) (kc 3),.int .i64 (p.i 9),.int .i64 (p.i 10),.int .i64 (p.i 11),.int .i64 (p.i 12),.int .i64 (p.i 13),.int .i64 (p.i 14),.int .i64 (p.i 15),.int .i64 (p.i 16),.int .i64 (p.i 17),.int .i64 (p.i 18),.int .i64 (p.i 19),.int .i64 (p.i 20),.int .i64 (p.i 21),.int .i64 (p.i 22),.int .i64 (p.i 23),.int .i64 (p.i 24),.int .i64 (p.i 25),.int .i64 (p.i 26),.int .i64 (p.i 27),.int .i64 (p.i 28),.int .i64 (p.i 29),.int .i64 (p.i 30),.int .i64 (p.i 31),.int .i64 (p.i 32),.int .i64 (p.i 33),.int .i64 (p.i 34),.int .i64 (p.i 35),.int .i64 (p.i 36),.int .i64 (p.i 37),.int .i64 (p.i 38),.int .i64 (p.i 39),.int .i64 (p.i 40),.int .i64 (p.i 41),.int .i64 (p.i 42),.int .i64 (p.i 43),.int .i64 (p.i 44),.int .i64 (p.i 45),.int .i64 (p.i 46),.int .i64 (p.i 47),.int .i64 (p.i 48),.int .i64 (p.i 49),.int .i64 (p.i 50),.int .i64 (p.i 51),.int .i64 (p.i 52),.int .i64 (p.i 53),.int .i64 (p.i 54),.int .i64 (p.i 55)]
def wq (t:Sd.Timer):Array ab:=#[.int .i64 t.n,.int .i64 t.most]
def Zr (t:Sd.X4):Array ab:=#[.int .i64 t.a,.int .i64 t.b,.int .i64 t.c,.int .i64 t.d]
def Zs (t:Sd.Label):Array ab:=#[.int .i64 t.mz,.int .i64 t.source,.int .i64 t.seq]
def gC (t:Sd.Tok):Array ab:=#[.int .i64 t.ay,.int .i64 t.af,.int .i64 t.offer,.int .i64 t.oa.n,.int .i64 t.oa.most,.int .i64 t.la.n,.int .i64 t.la.most,.bool t.bad]
def Dn (t:Sd.eF):Array ab:=#[.int .i64 t.cls,.int .i64 t.aU.a,.int .i64 t.aU.b,.int .i64 t.aU.c,.int .i64 t.aU.d,.int .i64 t.now.a,.int .i64 t.now.b,.int .i64 t.now.c,.int .i64 t.now.d,.int .i64 t.bI.mz,.int .i64 t.bI.source,.int .i64 t.bI.seq]
def Kn (t:Sd.aY):Array ab:=#[.int .i64 t.kind,.int .i64 t.seq,.int .i64 t.role,.int .i64 t.aU,.int .i64 t.af,.int .i64 t.mode,.int .i64 t.cls,.bool t.now,.int .i64 t.x.a,.int .i64 t.x.b,.int .i64 t.x.c,.int .i64 t.x.d]
def ait (t:Sd.g9):Array ab:=#[.bool t.valid,.int .i64 t.x.a,.int .i64 t.x.b,.int .i64 t.x.c,.int .i64 t.x.d,.bool t.Al]
def iS (t:Sd.gx):Array ab:=#[.bool t.any,.int .i64 t.high,.int .u64 t.seen]
def nz (t:Sd.Ask):Array ab:=#[.int .i64 t.source,.int .i64 t.bC,.int .i64 t.gj.n,.int .i64 t.gj.most]
def recC (t:Sd.Rec):Array ab:=#[.int .i64 t.kind,.int .i64 t.source,.int .i64 t.seq,.int .i64 t.af,.int .i64 t.code,.int .i64 t.how]
theorem aiu (s i:Int) (h0:0<=s) (h1:0<=i) (h2:i<=62):((jd s (2^(min (i).toNat 64)))%2==1)=Sd.has s i:=by
 have e:min i.toNat 64=i.toNat:=by omega
 have h3:(0:Int)<=2^i.toNat:=Int.le_of_lt (Int.pow_pos (by omega));rw[e,tK _ h3];simp[Sd.has,h0,h1,h2];exact Bool.eq_iff_iff.2 (by simp)
def fa (p:Sd.aN) (ka:Nat->Option aO) (kn kc:Nat->Nat):List V:=(bd 56).map λo=>bif bu 5 o&&bu o 8 then .raw (.slice (ka (o-5)) (kn (o-5)) (kc (o-5)))else .int .i64 (p.i o)
def um (n m:Int):List V:=[.int .i64 n,.int .i64 m]
def dQ (t:Sd.Tok):List V:=[.int .i64 t.ay,.int .i64 t.af,.int .i64 t.offer,.int .i64 t.oa.n,.int .i64 t.oa.most,.int .i64 t.la.n,.int .i64 t.la.most,.bool t.bad]
def sT (x:Sd.X4):List V:=[.int .i64 x.a,.int .i64 x.b,.int .i64 x.c,.int .i64 x.d]
def wu (t:Sd.Label):List V:=[.int .i64 t.mz,.int .i64 t.source,.int .i64 t.seq]
def jS (t:Sd.eF):List V:=.int .i64 t.cls::(sT t.aU++(sT t.now++wu t.bI))
theorem iw {x:Int} (h:-9223372036854775808<=x/\x<=9223372036854775807):i64.wrap x=x:=by simp[xw,tI,tJ];omega
theorem gK {L:List QF} {n f:Nat} {xs:List V} {v:V} {args:Array ab} {x:ab} {w:ae} (hL:bH prog (λ_=>none) L) (h:eb prog L n f xs (·=v)) (ha:args=(aD [] xs).toArray:=by kernel_rfl) (hx:x=den [] v:=by kernel_rfl) (h1:bj 0 xs=true:=by kernel_rfl) (h2:cK 0 v=true:=by kernel_rfl):
 aS prog f args w λy w1=>y=x/\Ch [] w w1:=by subst ha hx;exact C2 hL n h h1 h2 [] w
theorem aiv (n m:Int) (X:V->Prop):eb prog [] 30 78 [.int .i64 n,.int .i64 m] X=cond (decide (n<m)) (X (.int .i64 (i64.wrap (n+1)))) (X (.int .i64 m)):=by kernel_rfl
theorem aiw (n:Int) (m:Int) (Zt:-9223372036854775808<=n/\n<=9223372036854775807) (Gk:-9223372036854775808<=m/\m<=9223372036854775807) (w:ae):
 aS prog 78 #[.int .i64 n,.int .i64 m] w λv w1=>v=.int .i64 (Sd.sat n m)/\Ch [] w w1:=by
 refine gK bH.nil (n:=30) (xs:=[.int .i64 n,.int .i64 m]) (v:=.int .i64 (Sd.sat n m)) ?_;rw[aiv];unfold Sd.sat;refine aI (λh=>?_) (λh=>?_)
 ·have h:n<m:=by simpa using h
  rw[if_pos h,iw (by omega)]
 ·rw[if_neg (by simpa using h)]
theorem aix (n m k:Int) (X:V->Prop):eb prog [] 30 183 [.int .i64 n,.int .i64 m,.int .i64 k] X=cond (decide (n<m)) (X (.int .i64 m)) (cond (decide (n>k)) (X (.int .i64 k)) (X (.int .i64 n))):=by kernel_rfl
theorem Zu (n:Int) (lo:Int) (hi:Int) (w:ae):
 aS prog 183 #[.int .i64 n,.int .i64 lo,.int .i64 hi] w λv w1=>v=.int .i64 (Sd.tR n lo hi)/\Ch [] w w1:=by
 refine gK bH.nil (n:=30) (xs:=[.int .i64 n,.int .i64 lo,.int .i64 hi]) (v:=.int .i64 (Sd.tR n lo hi)) ?_;rw[aix];unfold Sd.tR;exact aI (λh=>by rw[if_pos (by simpa using h)]) (λh=>by
  rw[if_neg (by simpa using h)];exact aI (λh=>by rw[if_pos (by simpa using h)]) (λh=>by rw[if_neg (by simpa using h)]))
def tw (a b:Int):Int:=u64.wrap (u64.wrap a-u64.wrap b)
theorem Zv {a b:Int} (h0:0<=a-b) (h1:a-b<18446744073709551616):tw a b=a-b:=by unfold tw;rw[rY,rY,rY];omega
theorem aiy {a:Int} (h0:0<=a) (h1:a<18446744073709551616):u64.wrap a=a:=by rw[rY];omega
theorem aiz (nw t b:Int) (X:V->Prop):eb prog [] 30 142 [.int .i64 nw,.int .i64 t,.int .i64 b] X=cond (decide (b<1)) (X (.int .i64 nw)) (cond (decide (t>=nw)) (cond (decide (tw t nw<=u64.wrap b)) (X (.int .i64 t)) (X (.int .i64 (i64.wrap (nw+b)))))
 (cond (decide (tw nw t<=u64.wrap b)) (X (.int .i64 t)) (X (.int .i64 (i64.wrap (nw-b)))))):=by kernel_rfl
theorem Zw (nw:Int) (t:Int) (b:Int) (Zx:-9223372036854775808<=nw/\nw<=9223372036854775807) (Zy:-9223372036854775808<=t/\t<=9223372036854775807) (Zz:-9223372036854775808<=b/\b<=9223372036854775807) (w:ae):
 aS prog 142 #[.int .i64 nw,.int .i64 t,.int .i64 b] w λv w1=>v=.int .i64 (Sd.qU nw t b)/\Ch [] w w1:=by
 refine gK bH.nil (n:=30) (xs:=[.int .i64 nw,.int .i64 t,.int .i64 b]) (v:=.int .i64 (Sd.qU nw t b)) ?_;rw[aiz];unfold Sd.qU;refine aI (λh=>by rw[if_pos (by simpa using h)]) (λh=>?_);have h1:¬b<1:=by simpa using h
 rw[if_neg h1,aiy (by omega) (by omega)];refine aI (λh=>?_) (λh=>?_)
 ·have h2:nw<=t:=by simpa using h
  rw[if_pos h2,Zv (by omega) (by omega)];refine aI (λh=>by rw[if_pos (by simpa using h)]) (λh=>?_);have h3:¬t-nw<=b:=by simpa using h
  rw[if_neg h3,iw (by omega)]
 ·have h2:¬nw<=t:=by simpa using h
  rw[if_neg h2,Zv (by omega) (by omega)];refine aI (λh=>by rw[if_pos (by simpa using h)]) (λh=>?_);have h3:¬nw-t<=b:=by simpa using h
  rw[if_neg h3,iw (by omega)]
def hv (n:Int) (m:Nat):Int:=let a:=n8 i64.bits (n.fdiv (2^min m i64.bits));let b:=n8 i64.bits 1;i64.wrap ↑(a&&&b).toNat
theorem aiA (n:Int) (m:Nat) (X:V->Prop):eb prog [] 30 189 [.int .i64 n,.int .i64 (.ofNat m)] X=cond (decide (n<0)) (X (.bool false)) (cond (decide (cJ m>62)) (X (.bool false)) (X (.bool (hv n m==1)))):=by kernel_rfl
theorem aiB (n:Int) (m:Nat) (X:V->Prop):eb prog [] 30 189 [.int .i64 n,.int .i64 (.negSucc m)] X=cond (decide (n<0)) (X (.bool false)) (cond (decide (Int.negSucc m<0)) (X (.bool false)) False):=by kernel_rfl
theorem ZA (s:Int) (i:Int) (w:ae):
 aS prog 189 #[.int .i64 s,.int .i64 i] w λv w1=>v=.bool (Sd.has s i)/\Ch [] w w1:=by
 refine gK bH.nil (n:=30) (xs:=[.int .i64 s,.int .i64 i]) (v:=.bool (Sd.has s i)) ?_;cases i with
 |ofNat m=>
  rw[aiA];refine aI (λh=>?_) (λh=>aI (λh'=>?_) λh'=>?_)
  ·have h:s<0:=by simpa using h
   congr 1;simp[Sd.has];omega
  ·have h':(m:Int)>62:=by simpa using h'
   congr 1;simp[Sd.has];omega
  ·have h:¬s<0:=by simpa using h
   have h':¬(m:Int)>62:=by simpa using h'
   have em:cJ m=(m:Int):=rfl;rw[<-aiu s (.ofNat m) (by omega) (by omega) (by omega)];exact congrArg (λz:Int=>V.bool (z==1)) (qI .i64 (jd s (2^(min m 64))) 1 2 1 (by decide) (by decide) (by decide))
 |negSucc m=>
  rw[aiB];have e:Sd.has s (.negSucc m)=false:=by simp[Sd.has]
  rw[e];exact aI (λ_=>rfl) λ_=>aI (λ_=>rfl) λh=>absurd (of_decide_eq_false h) (by omega)
theorem ZB (m:Int) (X:V->Prop):eb prog [] 30 179 [.int .i64 m] X=X (.agg (um 0 (if 0>m then 0 else m))):=by kernel_rfl
theorem Gm (b:Int):Sd.Timer.start b=⟨0,if 0>b then 0 else b⟩:=by
 unfold Sd.Timer.start;congr 1;by_cases h:0>b
 ·rw[if_pos h];omega
 ·rw[if_neg h];omega
theorem aiC (m:Int) (Gk:-9223372036854775808<=m/\m<=9223372036854775807) (w:ae):
 aS prog 179 #[.int .i64 m] w λv w1=>v=.agg (wq (Sd.Timer.start m))/\Ch [] w w1:=by
 rw[Gm];refine gK bH.nil (n:=30) (xs:=[.int .i64 m]) (v:=.agg (um 0 (if 0>m then 0 else m))) ?_;rw[ZB]
theorem aiD (t:Sd.Timer) (X:V->Prop):eb prog [] 30 138 [.agg (um t.n t.most)] X=cond (decide (t.n<t.most)) (X (.agg (um (i64.wrap (t.n+1)) t.most))) (X (.agg (um t.most t.most))):=by kernel_rfl
theorem ZC (t:Sd.Timer) (ZD:-9223372036854775808<=t.n/\t.n<=9223372036854775807) (ZE:-9223372036854775808<=t.most/\t.most<=9223372036854775807) (w:ae):
 aS prog 138 #[.agg (wq t)] w λv w1=>v=.agg (wq (Sd.Timer.step t))/\Ch [] w w1:=by
 refine gK bH.nil (n:=30) (xs:=[.agg (um t.n t.most)]) (v:=.agg (um (Sd.sat t.n t.most) t.most)) ?_;rw[aiD];unfold Sd.sat;refine aI (λh=>?_) (λh=>?_)
 ·have h:t.n<t.most:=by simpa using h
  rw[if_pos h,iw (by omega)]
 ·rw[if_neg (by simpa using h)]
theorem aiE (t:Sd.Timer) (X:V->Prop):eb prog [] 30 139 [.agg (um t.n t.most)] X=X (.bool (decide (t.n>=t.most))):=by kernel_rfl
theorem ZF (t:Sd.Timer) (w:ae):
 aS prog 139 #[.agg (wq t)] w λv w1=>v=.bool (Sd.Timer.due t)/\Ch [] w w1:=by
 refine gK bH.nil (n:=30) (xs:=[.agg (um t.n t.most)]) (v:=.bool t.due) ?_;rw[aiE];rfl
theorem aiF (t:Sd.Tok) (o:Int) (X:V->Prop):eb prog [] 30 130 [.agg (dQ t),.int .i64 o] X=cond (decide (o<0)) (X (.an [.agg (dQ t),.int .i64 1])) (cond (decide (o>=5)) (X (.an [.agg (dQ t),.int .i64 1])) (cond (o==t.ay) (X (.an [.agg (dQ t),.int .i64 25]))
 (cond (decide (t.af>=65535)) (X (.an [.agg (dQ t),.int .i64 24])) (X (.an [.agg (dQ (t.pass o (i64.wrap (t.af+1)))),.int .i64 0]))))):=by kernel_rfl
theorem aiG (t:Sd.Tok) (o:Int) (uo:-9223372036854775808<=t.af/\t.af<=9223372036854775807) (w:ae):
 aS prog 130 #[.agg (gC t),.int .i64 o] w λv w1=>v=.tuple #[.agg (gC ((Sd.Tok.cY t o).1)),.int .i64 ((Sd.Tok.cY t o).2)]/\Ch [] w w1:=by
 refine gK bH.nil (n:=30) (xs:=[.agg (dQ t),.int .i64 o]) (v:=.an [.agg (dQ (t.cY o).1),.int .i64 (t.cY o).2]) ?_;rw[aiF];unfold Sd.Tok.cY;refine aI (λh=>by rw[if_pos (.inl (by simpa using h))]) (λh=>aI (λh'=>by rw[if_pos (.inr (by simpa using h'))]) λh'=>?_);have h1:¬(o<0\/5<=o):=by simp at h h';omega
 rw[if_neg h1];refine aI (λh=>by rw[if_pos (by simpa using h)]) (λh=>?_);rw[if_neg (by simpa using h)];refine aI (λh=>by rw[if_pos (by simpa using h)]) (λh=>?_);have h2:¬65535<=t.af:=by simpa using h
 rw[if_neg h2,iw (by omega)]
theorem aiH (t:Sd.Tok) (X:V->Prop):eb prog [] 30 84 [.agg (dQ t)] X=cond (t.ay !=4) (cond (decide (t.af<65535)) (X (.agg (dQ (t.pass 4 (i64.wrap (t.af+1)))))) (X (.agg (dQ (t.pass 4 65535))))) (X (.agg (dQ (t.pass 4 t.af)))):=by kernel_rfl
theorem aiI (t:Sd.Tok) (uo:-9223372036854775808<=t.af/\t.af<=9223372036854775807) (w:ae):
 aS prog 84 #[.agg (gC t)] w λv w1=>v=.agg (gC (Sd.Tok.fY t))/\Ch [] w w1:=by
 refine gK bH.nil (n:=30) (xs:=[.agg (dQ t)]) (v:=.agg (dQ t.fY)) ?_;rw[aiH];unfold Sd.Tok.fY Sd.sat;refine aI (λh=>?_) (λh=>by rw[if_neg (by simpa using h)]);rw[if_pos (by simpa using h)];refine aI (λh=>?_) (λh=>by rw[if_neg (by simpa using h)]);have h2:t.af<65535:=by simpa using h
 rw[if_pos h2,iw (by omega)]
theorem aiJ (t:Sd.Tok) (X:V->Prop):eb prog [] 30 137 [.agg (dQ t)] X=X (.bool (decide (t.offer>=0))):=by kernel_rfl
theorem open_ (t:Sd.Tok) (w:ae):
 aS prog 137 #[.agg (gC t)] w λv w1=>v=.bool (decide (0<=t.offer))/\Ch [] w w1:=by
 refine gK bH.nil (n:=30) (xs:=[.agg (dQ t)]) (v:=.bool (decide (0<=t.offer))) ?_;rw[aiJ]
theorem aiK (t:Sd.Tok) (X:V->Prop):eb prog [] 30 140 [.agg (dQ t)] X=X (.agg (dQ t.ir)):=by kernel_rfl
theorem QE (t:Sd.Tok) (w:ae):
 aS prog 140 #[.agg (gC t)] w λv w1=>v=.agg (gC (Sd.Tok.ir t))/\Ch [] w w1:=by
 refine gK bH.nil (n:=30) (xs:=[.agg (dQ t)]) (v:=.agg (dQ t.ir)) ?_;rw[aiK]
def p5 (p:Sd.aN):List V:=[.int .i64 (p.i 0),.int .i64 (p.i 1),.int .i64 (p.i 2),.int .i64 (p.i 3),.int .i64 (p.i 4)]
theorem aiL (p:Sd.aN) (s:Int) (X:V->Prop):eb prog [] 30 232 [.agg (p5 p),.int .i64 s] X=cond (p.i 0==s) (X (.int .i64 0)) (cond (p.i 1==s) (X (.int .i64 1)) (cond (p.i 2==s) (X (.int .i64 2)) (cond (p.i 3==s) (X (.int .i64 3)) (cond (p.i 4==s) (X (.int .i64 4)) (X (.int .i64 (-1))))))):=by kernel_rfl
theorem QI (p:Sd.aN) (ka:Nat->Option aO) (kn kc:Nat->Nat) (s:Int) (w:ae):
 aS prog 232 #[.agg #[.int .i64 (p.i 0),.int .i64 (p.i 1),.int .i64 (p.i 2),.int .i64 (p.i 3),.int .i64 (p.i 4)],.int .i64 s] w λv w1=>v=.int .i64 (Sd.placeOf p s)/\Ch [] w w1:=by
 refine gK bH.nil (n:=30) (xs:=[.agg (p5 p),.int .i64 s]) (v:=.int .i64 (Sd.placeOf p s)) ?_;rw[aiL];unfold Sd.placeOf;refine aI (λh=>by rw[if_pos (by simpa using h)]) (λh=>?_);rw[if_neg (by simpa using h)];refine aI (λh=>by rw[if_pos (by simpa using h)]) (λh=>?_);rw[if_neg (by simpa using h)];refine aI (λh=>by rw[if_pos (by simpa using h)]) (λh=>?_);rw[if_neg (by simpa using h)];refine aI (λh=>by rw[if_pos (by simpa using h)]) (λh=>?_);rw[if_neg (by simpa using h)];exact aI (λh=>by rw[if_pos (by simpa using h)]) (λh=>by rw[if_neg (by simpa using h)])
theorem told {P:aF} {f:Nat} {args:Array ab} {ids:List Nat} {xs:List V} {x:ab} {v:V} {w:ae} (h:aS P f args w λy w1=>y=x/\Ch [] w w1) (ha:args=(aD ids xs).toArray:=by kernel_rfl) (hv:x=den ids v:=by kernel_rfl):
 aS P f (aD ids xs).toArray w λy w1=>y=den ids v/\Ch [] w w1:=by subst ha hv;exact h
structure Hd (p:Prop):Prop where
 h:p
def aB (a:Int):Prop:=-9223372036854775808<=a/\a<=9223372036854775807
def QJ:QF:=⟨232,λargs _=>match args with
 |[.agg [.int .i64 a,.int .i64 b,.int .i64 c,.int .i64 d,.int .i64 e],.int .i64 s]=>some (True,.int .i64 (if a=s then 0 else if b=s then 1 else if c=s then 2 else if d=s then 3 else if e=s then 4 else-1))
 |_=>none⟩
def QK:QF:=⟨142,λargs _=>match args with
 |[.int .i64 nw,.int .i64 t,.int .i64 b]=>some (aB nw/\aB t/\aB b,.int .i64 (Sd.qU nw t b))
 |_=>none⟩
def Gn:QF:=⟨183,λargs _=>match args with
 |[.int .i64 n,.int .i64 lo,.int .i64 hi]=>some (True,.int .i64 (Sd.tR n lo hi))
 |_=>none⟩
def pU:QF:=⟨189,λargs _=>match args with
 |[.int .i64 s,.int .i64 i]=>some (True,.bool (Sd.has s i))
 |_=>none⟩
def Ko:QF:=⟨140,λargs _=>match args with
 |[.agg [.int .i64 a,.int .i64 b,.int .i64 c,.int .i64 d,.int .i64 e,.int .i64 f,.int .i64 g,.bool h]]=>some (True,.agg (dQ (⟨a,b,c,⟨d,e⟩,⟨f,g⟩,h⟩:Sd.Tok).ir))
 |_=>none⟩
def QM:QF:=⟨179,λargs _=>match args with
 |[.int .i64 m]=>some (True,.agg (um 0 (if 0>m then 0 else m)))
 |_=>none⟩
def QN:QF:=⟨126,λargs _=>match args with
 |[.int .i64 m,.agg [.int .i64 a,.int .i64 b,.int .i64 c,.int .i64 d]]=>some (0<=m/\m<=1000,.bool (Sd.nf m ⟨a,b,c,d⟩))
 |_=>none⟩
theorem aiM (gl:Nat->Option Nat):QJ.Ok prog gl:=by
 intro args bl p_ v_ h hp ids w _ _;unfold QJ at h;dsimp only at h;split at h
 ·rename_i a b c d e s;simp only[aV,bw]at h;obtain⟨rfl,rfl⟩:=h;exact told (QI ⟨λi=>match i with|0=>a|1=>b|2=>c|3=>d|_=>e,λ_=>(0,λ_=>0)⟩ (λ_=>none) (λ_=>0) (λ_=>0) s w)
 ·cases h
theorem aiN (gl:Nat->Option Nat):QK.Ok prog gl:=by
 intro args bl p_ v_ h hp ids w _ _;unfold QK at h;dsimp only at h;split at h
 ·rename_i nw t b;simp only[aV,bw]at h;obtain⟨rfl,rfl⟩:=h;exact told (Zw nw t b hp.1 hp.2.1 hp.2.2 w)
 ·cases h
theorem QO (gl:Nat->Option Nat):Gn.Ok prog gl:=by
 intro args bl p_ v_ h hp ids w _ _;unfold Gn at h;dsimp only at h;split at h
 ·rename_i n lo hi;simp only[aV,bw]at h;obtain⟨rfl,rfl⟩:=h;exact told (Zu n lo hi w)
 ·cases h
theorem QP (gl:Nat->Option Nat):pU.Ok prog gl:=by
 intro args bl p_ v_ h hp ids w _ _;unfold pU at h;dsimp only at h;split at h
 ·rename_i s i;simp only[aV,bw]at h;obtain⟨rfl,rfl⟩:=h;exact told (ZA s i w)
 ·cases h
theorem ZG (gl:Nat->Option Nat):Ko.Ok prog gl:=by
 intro args bl p_ v_ h hp ids w _ _;unfold Ko at h;dsimp only at h;split at h
 ·rename_i a b c d e f g h;simp only[aV,bw]at h;obtain⟨rfl,rfl⟩:=h;exact told (QE ⟨a,b,c,⟨d,e⟩,⟨f,g⟩,h⟩ w)
 ·cases h
theorem aiO (gl:Nat->Option Nat):QM.Ok prog gl:=by
 intro args bl p_ v_ h hp ids w _ _;unfold QM at h;dsimp only at h;split at h
 ·rename_i m;simp only[aV,bw]at h;obtain⟨rfl,rfl⟩:=h;exact C2 bH.nil 30 (by show eb prog [] 30 179 _ _;rw[ZB]) rfl rfl ids w
 ·cases h
theorem rD {q:QF} (h:q.Ok prog λ_=>none):bH prog (λ_=>none) [q]:=bH.cons h bH.nil
theorem aiP (p:Sd.aN) (ka:Nat->Option aO) (kn kc:Nat->Nat) (s:Int) (X:V->Prop):eb prog [QJ] 30 217 [.agg (fa p ka kn kc),.int .i64 s] X=(True/\X (.int .i64 (Sd.placeOf p s))):=by kernel_rfl
theorem aiQ (p:Sd.aN) (ka:Nat->Option aO) (kn kc:Nat->Nat) (s:Int) (w:ae):
 aS prog 217 #[.agg (j_ p ka kn kc),.int .i64 s] w λv w1=>v=.int .i64 (Sd.placeOf p s)/\Ch [] w w1:=by
 refine gK (rD (aiM _)) (n:=30) (xs:=[.agg (fa p ka kn kc),.int .i64 s]) (v:=.int .i64 (Sd.placeOf p s)) ?_;rw[aiP];exact⟨trivial,rfl⟩
theorem aiR (p:Sd.aN) (ka:Nat->Option aO) (kn kc:Nat->Nat) (a:Int) (b:Int) (w:ae):
 aS prog 215 #[.agg (j_ p ka kn kc),.int .i64 a,.int .i64 b] w λv w1=>v=.bool (Sd.fw p a b)/\Ch [] w w1:=by
 have S0:=St.nil [] w;refine iL Tryz.func215 rfl ?_;refine aQ (aX ?_);refine eE S0 (λb=>.pointer (some ⟨b,0,none⟩)) (.cells (j_ p ka kn kc) 28) ?_;intro bE hY dB;refine ak (.bool false) ?_;refine aT (aP (aQ (aX ?_)));refine fS ?_;refine aT (aP (aQ ?_));refine Ad 9 [⟨0,λ_=>.func (.func 232) #[] #[],λ_=>[]⟩,⟨0,λ_=>.pointer (some ⟨bE,0,none⟩),λ_=>[]⟩,⟨0,λ_=>.agg #[.int .i64 (p.i 0),.int .i64 (p.i 1),.int .i64 (p.i 2),.int .i64 (p.i 3),.int .i64 (p.i 4)],λ_=>[]⟩,⟨0,λ_=>.int .i64 a,λ_=>[]⟩,⟨0,λ_=>.int .i64 (Sd.placeOf p a),λ_=>[]⟩,⟨0,λ_=>.func (.func 232) #[] #[],λ_=>[]⟩,⟨0,λ_=>.pointer (some ⟨bE,0,none⟩),λ_=>[]⟩,⟨0,λ_=>.agg #[.int .i64 (p.i 0),.int .i64 (p.i 1),.int .i64 (p.i 2),.int .i64 (p.i 3),.int .i64 (p.i 4)],λ_=>[]⟩,⟨0,λ_=>.int .i64 b,λ_=>[]⟩] [[9,4,0],[9,4,2,1],[9,4,2],[9,4,3],[9,4],[9,5],[9,7,6],[9,7],[9,8],[10,0],[10,1],[10,2],[10,3],[10,4],[10,9,5],[10,9,7,6],[10,9,7],[10,9,8],[10,9],[11,0],[11,1],[11,2],[11,3],[11,4],[11,5],[11,6],[11,7],[11,8],[11,9],[11,10]] ?_ ?_
 ·refine step_cons gX ?_;refine step_cons gX ?_;refine step_cons (EP dB 0 bE 0 5 #[.int .i64 (p.i 0),.int .i64 (p.i 1),.int .i64 (p.i 2),.int .i64 (p.i 3),.int .i64 (p.i 4)]) ?_;refine step_cons gX ?_;refine step_cons ?_ ?_
  ·intro De l7 AU Y1 Df;have v9:De 10=.func (.func 232) #[] #[]:=(Sp.dA (Df 0 10 (by kernel_rfl) (by kernel_rfl))).1;have kW:De 12=.agg #[.int .i64 (p.i 0),.int .i64 (p.i 1),.int .i64 (p.i 2),.int .i64 (p.i 3),.int .i64 (p.i 4)]:=(Sp.dA (Df 2 12 (by kernel_rfl) (by kernel_rfl))).1;have j7:De 13=.int .i64 a:=(Sp.dA (Df 3 13 (by kernel_rfl) (by kernel_rfl))).1;have pM:=dB.quiet AU;refine o_ ?_;refine lR [(10,.func (.func 232) #[] #[]),(12,.agg #[.int .i64 (p.i 0),.int .i64 (p.i 1),.int .i64 (p.i 2),.int .i64 (p.i 3),.int .i64 (p.i 4)]),(13,.int .i64 a)] (lS v9 (lS kW (lS j7 (o8)))) ?_;have AP:=pM.loc;refine Y.fu 232 #[.agg #[.int .i64 (p.i 0),.int .i64 (p.i 1),.int .i64 (p.i 2),.int .i64 (p.i 3),.int .i64 (p.i 4)],.int .i64 a] ?_;refine(QI p ka kn kc a _).mono ?_;rintro _ aiS ⟨rfl,kZ⟩;have pN:=AP.quiet kZ;exact⟨pN.ch,Sp.o9 [] (all_nil)⟩
  refine step_cons gX ?_;refine step_cons gX ?_;refine step_cons (EP dB 0 bE 0 5 #[.int .i64 (p.i 0),.int .i64 (p.i 1),.int .i64 (p.i 2),.int .i64 (p.i 3),.int .i64 (p.i 4)]) ?_;refine step_cons gX ?_;exact Ac
 intro wv AN QQ wx;have aiT:wv 0=.func (.func 232) #[] #[]:=(Sp.dA (wx 0 (by kernel_rfl))).1;have FQ:wv 1=.pointer (some ⟨bE,0,none⟩):=(Sp.dA (wx 1 (by kernel_rfl))).1;have rv:wv 2=.agg #[.int .i64 (p.i 0),.int .i64 (p.i 1),.int .i64 (p.i 2),.int .i64 (p.i 3),.int .i64 (p.i 4)]:=(Sp.dA (wx 2 (by kernel_rfl))).1;have sP:wv 3=.int .i64 a:=(Sp.dA (wx 3 (by kernel_rfl))).1;have FR:wv 4=.int .i64 (Sd.placeOf p a):=(Sp.dA (wx 4 (by kernel_rfl))).1;have pT:wv 5=.func (.func 232) #[] #[]:=(Sp.dA (wx 5 (by kernel_rfl))).1;have j8:wv 6=.pointer (some ⟨bE,0,none⟩):=(Sp.dA (wx 6 (by kernel_rfl))).1;have yB:wv 7=.agg #[.int .i64 (p.i 0),.int .i64 (p.i 1),.int .i64 (p.i 2),.int .i64 (p.i 3),.int .i64 (p.i 4)]:=(Sp.dA (wx 7 (by kernel_rfl))).1;have Qm:wv 8=.int .i64 b:=(Sp.dA (wx 8 (by kernel_rfl))).1;have A0:=dB.quiet QQ;refine⟨[.func (.func 232) #[] #[],.pointer (some ⟨bE,0,none⟩),.agg #[.int .i64 (p.i 0),.int .i64 (p.i 1),.int .i64 (p.i 2),.int .i64 (p.i 3),.int .i64 (p.i 4)],.int .i64 a,.int .i64 (Sd.placeOf p a),.func (.func 232) #[] #[],.pointer (some ⟨bE,0,none⟩),.agg #[.int .i64 (p.i 0),.int .i64 (p.i 1),.int .i64 (p.i 2),.int .i64 (p.i 3),.int .i64 (p.i 4)],.int .i64 b],by kernel_rfl,dS aiT (dS FQ (dS rv (dS sP (dS FR (dS pT (dS j8 (dS yB (dS Qm (Cr))))))))),?_⟩;refine fu 232 #[.agg #[.int .i64 (p.i 0),.int .i64 (p.i 1),.int .i64 (p.i 2),.int .i64 (p.i 3),.int .i64 (p.i 4)],.int .i64 b] ?_;refine(QI p ka kn kc b _).mono ?_;rintro _ av7 ⟨rfl,rF⟩;have v3:=A0.quiet rF;refine fS ?_;refine fS ?_;refine aT (aP (aQ (aX ?_)));refine dJ ?_;refine ak (.bool ((Sd.placeOf p a)!=(-1))) ?_;refine dJ ?_;refine Wd 22 ((Sd.placeOf p a)!=(-1)) ?_ ?_
 ·intro kY;have rG:=NL kY;refine dJ ?_;refine ak (.bool ((Sd.placeOf p b)!=(-1))) ?_;refine ak (.bool ((Sd.placeOf p b)!=(-1))) ?_;refine dJ ?_;refine Wd 26 ((Sd.placeOf p b)!=(-1)) ?_ ?_
  ·intro uq;have wk:=NL uq;refine dJ ?_;refine dJ ?_;refine ak (.bool (decide ((Sd.placeOf p a)<(Sd.placeOf p b)))) ?_;refine ak (.bool (decide ((Sd.placeOf p a)<(Sd.placeOf p b)))) ?_;refine fS ?_;refine aT (aP (gv ?_));refine gf rfl (fF [.tmp 6] [.bool (decide ((Sd.placeOf p a)<(Sd.placeOf p b)))] (.bool (decide ((Sd.placeOf p a)<(Sd.placeOf p b)))) ⟨jf,trivial⟩) ?_;have ze:Sd.fw p a b=(decide ((Sd.placeOf p a)<(Sd.placeOf p b))):=by first|rfl|(simp[Sd.fw,kY,uq,rG,wk];done)|(simp[Sd.fw,kY,uq,rG,wk];rfl)|(simp[Sd.fw,kY,uq];simp[Sd.fw,kY,uq,rG,wk];done)|(simp[Sd.fw,kY,uq];simp[Sd.fw,kY,uq,rG,wk];rfl)|(simp[Sd.fw,kY,uq,rG,wk];omega)|(unfold Sd.fw;(repeat' split)<;>first|rfl|assumption|omega|(simp_all;done)|(simp_all;omega))
   exact⟨by(rw[ze])<;>rfl,v3.ch⟩
  intro rC;have sQ:=NM rC;refine vi ?_;refine vi ?_;refine vi ?_;refine ak (.bool false) ?_;refine ak (.bool false) ?_;refine aT (aP (gv ?_));refine gf rfl (fF [.tmp 6] [.bool false] (.bool false) ⟨jf,trivial⟩) ?_;have ze:Sd.fw p a b=false:=by first|rfl|(simp[Sd.fw,kY,rC,rG,sQ];done)|(simp[Sd.fw,kY,rC,rG,sQ];rfl)|(simp[Sd.fw,kY,rC];simp[Sd.fw,kY,rC,rG,sQ];done)|(simp[Sd.fw,kY,rC];simp[Sd.fw,kY,rC,rG,sQ];rfl)|(simp[Sd.fw,kY,rC,rG,sQ];omega)|(unfold Sd.fw;(repeat' split)<;>first|rfl|assumption|omega|(simp_all;done)|(simp_all;omega))
  exact⟨by(rw[ze])<;>rfl,v3.ch⟩
 intro rH;have pS:=NM rH;refine vi ?_;refine vi ?_;refine ak (.bool false) ?_;refine ak (.bool false) ?_;refine vi ?_;refine vi ?_;refine vi ?_;refine ak (.bool false) ?_;refine ak (.bool false) ?_;refine aT (aP (gv ?_));refine gf rfl (fF [.tmp 6] [.bool false] (.bool false) ⟨jf,trivial⟩) ?_;have ze:Sd.fw p a b=false:=by first|rfl|(simp[Sd.fw,rH,pS];done)|(simp[Sd.fw,rH,pS];rfl)|(simp[Sd.fw,rH];simp[Sd.fw,rH,pS];done)|(simp[Sd.fw,rH];simp[Sd.fw,rH,pS];rfl)|(simp[Sd.fw,rH,pS];omega)|(unfold Sd.fw;(repeat' split)<;>first|rfl|assumption|omega|(simp_all;done)|(simp_all;omega))
 exact⟨by(rw[ze])<;>rfl,v3.ch⟩
theorem aiU (p:Sd.aN) (ka:Nat->Option aO) (kn kc:Nat->Nat) (r:Int) (X:V->Prop):∀s:Nat,s<5->eb prog [pU] 30 144 [.agg (fa p ka kn kc),.int .i64 (.ofNat s),.int .i64 r] X=cond (decide (0<=r)) (cond (decide (r<4)) (True/\X (.bool (Sd.has (p.i (9+s)) r))) (X (.bool false))) (X (.bool false))
 |0,_=>by kernel_rfl
 |1,_=>by kernel_rfl
 |2,_=>by kernel_rfl
 |3,_=>by kernel_rfl
 |4,_=>by kernel_rfl
 |n+5,h=>absurd h (by omega)
theorem ZH (p:Sd.aN) (ka:Nat->Option aO) (kn kc:Nat->Nat) (n:Nat) (r:Int) (X:V->Prop):eb prog [pU] 30 144 [.agg (fa p ka kn kc),.int .i64 (.ofNat (n+5)),.int .i64 r] X=X (.bool false)/\eb prog [pU] 30 144 [.agg (fa p ka kn kc),.int .i64 (.negSucc n),.int .i64 r] X=X (.bool false):=⟨by kernel_rfl,by kernel_rfl⟩
theorem A1 {n b:Int} (h:0<=n) (h2:n<b):Sd.below n b=true:=by simp[Sd.below,h,h2]
theorem ox {n b:Int} (h:n<0\/b<=n):Sd.below n b=false:=by simp[Sd.below];omega
theorem aiV (p:Sd.aN) (ka:Nat->Option aO) (kn kc:Nat->Nat) (s:Int) (r:Int) (w:ae):
 aS prog 144 #[.agg (j_ p ka kn kc),.int .i64 s,.int .i64 r] w λv w1=>v=.bool (Sd.iq p s r)/\Ch [] w w1:=by
 refine gK (rD (QP _)) (n:=30) (xs:=[.agg (fa p ka kn kc),.int .i64 s,.int .i64 r]) (v:=.bool (Sd.iq p s r)) (Hd.h ?_);unfold Sd.iq;cases s with
 |ofNat n=>
  by_cases h:n<5
  ·have e:Sd.below (cJ n) 5=true:=A1 (zT n) (by show(n:Int)<5;omega);refine⟨?_⟩;rw[aiU p ka kn kc r _ n h,e];refine aI (λh=>aI (λh'=>?_) λh'=>?_) (λh=>?_)
   ·rw[A1 (by simpa using h) (by simpa using h')];exact⟨trivial,rfl⟩
   ·rw[ox (b:=4) (.inr (by simpa using h'))];rfl
   ·rw[ox (b:=4) (.inl (by simpa using h))];rfl
  ·have q:=(ZH p ka kn kc (n-5) r (·=.bool (Sd.below (cJ n) 5&&Sd.below r 4&&Sd.has (p.Am (cJ n).toNat) r))).1;rw[show n-5+5=n by omega]at q;refine⟨?_⟩;rw[q,ox (.inr (by show(5:Int)<=(n:Int);omega))];rfl
 |negSucc n=>
  refine⟨?_⟩;rw[(ZH p ka kn kc n r _).2,ox (.inl (IP n))];rfl
theorem aiW (p:Sd.aN) (ka:Nat->Option aO) (kn kc:Nat->Nat) (r:Int) (X:V->Prop):∀s:Nat,s<5->eb prog [pU] 30 182 [.agg (fa p ka kn kc),.int .i64 (.ofNat s),.int .i64 r] X=cond (decide (0<=r)) (cond (decide (r<5)) (True/\X (.bool (Sd.has (p.i (34+s)) r))) (X (.bool false))) (X (.bool false))
 |0,_=>by kernel_rfl
 |1,_=>by kernel_rfl
 |2,_=>by kernel_rfl
 |3,_=>by kernel_rfl
 |4,_=>by kernel_rfl
 |n+5,h=>absurd h (by omega)
theorem ZI (p:Sd.aN) (ka:Nat->Option aO) (kn kc:Nat->Nat) (n:Nat) (r:Int) (X:V->Prop):eb prog [pU] 30 182 [.agg (fa p ka kn kc),.int .i64 (.ofNat (n+5)),.int .i64 r] X=X (.bool false)/\eb prog [pU] 30 182 [.agg (fa p ka kn kc),.int .i64 (.negSucc n),.int .i64 r] X=X (.bool false):=⟨by kernel_rfl,by kernel_rfl⟩
theorem aiX (p:Sd.aN) (ka:Nat->Option aO) (kn kc:Nat->Nat) (a:Int) (b:Int) (w:ae):
 aS prog 182 #[.agg (j_ p ka kn kc),.int .i64 a,.int .i64 b] w λv w1=>v=.bool (Sd.goes p a b)/\Ch [] w w1:=by
 refine gK (rD (QP _)) (n:=30) (xs:=[.agg (fa p ka kn kc),.int .i64 a,.int .i64 b]) (v:=.bool (Sd.goes p a b)) (Hd.h ?_);unfold Sd.goes;cases a with
 |ofNat n=>
  by_cases h:n<5
  ·have e:Sd.below (cJ n) 5=true:=A1 (zT n) (by show(n:Int)<5;omega);refine⟨?_⟩;rw[aiW p ka kn kc b _ n h,e];refine aI (λh=>aI (λh'=>?_) λh'=>?_) (λh=>?_)
   ·rw[A1 (by simpa using h) (by simpa using h')];exact⟨trivial,rfl⟩
   ·rw[ox (b:=5) (.inr (by simpa using h'))];rfl
   ·rw[ox (b:=5) (.inl (by simpa using h))];rfl
  ·have q:=(ZI p ka kn kc (n-5) b (·=.bool (Sd.below (cJ n) 5&&Sd.below b 5&&Sd.has (p.graph (cJ n).toNat) b))).1;rw[show n-5+5=n by omega]at q;refine⟨?_⟩;rw[q,ox (.inr (by show(5:Int)<=(n:Int);omega))];rfl
 |negSucc n=>
  refine⟨?_⟩;rw[(ZI p ka kn kc n b _).2,ox (.inl (IP n))];rfl
theorem aiY (p:Sd.aN) (ka:Nat->Option aO) (kn kc:Nat->Nat) (c:Int) (X:V->Prop):∀m r:Nat,m<5->r<4->eb prog [pU] 30 181 [.agg (fa p ka kn kc),.int .i64 (.ofNat m),.int .i64 (.ofNat r),.int .i64 c] X=cond (decide (0<=c)) (cond (decide (c<4)) (True/\X (.bool (Sd.has (p.i (14+4*m+r)) c))) (X (.bool false))) (X (.bool false))
 |0,0,_,_=>by kernel_rfl
 |0,1,_,_=>by kernel_rfl
 |0,2,_,_=>by kernel_rfl
 |0,3,_,_=>by kernel_rfl
 |1,0,_,_=>by kernel_rfl
 |1,1,_,_=>by kernel_rfl
 |1,2,_,_=>by kernel_rfl
 |1,3,_,_=>by kernel_rfl
 |2,0,_,_=>by kernel_rfl
 |2,1,_,_=>by kernel_rfl
 |2,2,_,_=>by kernel_rfl
 |2,3,_,_=>by kernel_rfl
 |3,0,_,_=>by kernel_rfl
 |3,1,_,_=>by kernel_rfl
 |3,2,_,_=>by kernel_rfl
 |3,3,_,_=>by kernel_rfl
 |4,0,_,_=>by kernel_rfl
 |4,1,_,_=>by kernel_rfl
 |4,2,_,_=>by kernel_rfl
 |4,3,_,_=>by kernel_rfl
 |n+5,_,h,_=>absurd h (by omega)
 |_,n+4,_,h=>absurd h (by omega)
theorem ZJ (p:Sd.aN) (ka:Nat->Option aO) (kn kc:Nat->Nat) (n:Nat) (r c:Int) (X:V->Prop):eb prog [pU] 30 181 [.agg (fa p ka kn kc),.int .i64 (.ofNat (n+5)),.int .i64 r,.int .i64 c] X=X (.bool false)/\eb prog [pU] 30 181 [.agg (fa p ka kn kc),.int .i64 (.negSucc n),.int .i64 r,.int .i64 c] X=X (.bool false):=⟨by kernel_rfl,by kernel_rfl⟩
theorem ZK (p:Sd.aN) (ka:Nat->Option aO) (kn kc:Nat->Nat) (n:Nat) (c:Int) (X:V->Prop):∀m:Nat,m<5->eb prog [pU] 30 181 [.agg (fa p ka kn kc),.int .i64 (.ofNat m),.int .i64 (.ofNat (n+4)),.int .i64 c] X=X (.bool false)/\eb prog [pU] 30 181 [.agg (fa p ka kn kc),.int .i64 (.ofNat m),.int .i64 (.negSucc n),.int .i64 c] X=X (.bool false)
 |0,_=>⟨by kernel_rfl,by kernel_rfl⟩
 |1,_=>⟨by kernel_rfl,by kernel_rfl⟩
 |2,_=>⟨by kernel_rfl,by kernel_rfl⟩
 |3,_=>⟨by kernel_rfl,by kernel_rfl⟩
 |4,_=>⟨by kernel_rfl,by kernel_rfl⟩
 |n+5,h=>absurd h (by omega)
theorem aiZ (p:Sd.aN) (ka:Nat->Option aO) (kn kc:Nat->Nat) (m:Int) (r:Int) (c:Int) (w:ae):
 aS prog 181 #[.agg (j_ p ka kn kc),.int .i64 m,.int .i64 r,.int .i64 c] w λv w1=>v=.bool (Sd.may p m r c)/\Ch [] w w1:=by
 refine gK (rD (QP _)) (n:=30) (xs:=[.agg (fa p ka kn kc),.int .i64 m,.int .i64 r,.int .i64 c]) (v:=.bool (Sd.may p m r c)) (Hd.h ?_);unfold Sd.may;cases m with
 |ofNat n=>
  by_cases h:n<5
  ·have e:Sd.below (cJ n) 5=true:=A1 (zT n) (by show(n:Int)<5;omega);rw[e];cases r with
   |ofNat k=>
    by_cases hk:k<4
    ·have e:Sd.below (cJ k) 4=true:=A1 (zT k) (by show(k:Int)<4;omega);refine⟨?_⟩;rw[aiY p ka kn kc c _ n k h hk,e];refine aI (λh=>aI (λh'=>?_) λh'=>?_) (λh=>?_)
     ·rw[A1 (by simpa using h) (by simpa using h')];exact⟨trivial,rfl⟩
     ·rw[ox (b:=4) (.inr (by simpa using h'))];rfl
     ·rw[ox (b:=4) (.inl (by simpa using h))];rfl
    ·have q:=(ZK p ka kn kc (k-4) c (·=.bool (true&&Sd.below (cJ k) 4&&Sd.below c 4&&Sd.has (p.table (cJ n).toNat (cJ k).toNat) c)) n h).1;rw[show k-4+4=k by omega]at q;refine⟨?_⟩;rw[q,ox (b:=4) (.inr (by show(4:Int)<=(k:Int);omega))];rfl
   |negSucc k=>
    refine⟨?_⟩;rw[(ZK p ka kn kc k c _ n h).2,ox (b:=4) (.inl (IP k))];rfl
  ·have q:=(ZJ p ka kn kc (n-5) r c (·=.bool (Sd.below (cJ n) 5&&Sd.below r 4&&Sd.below c 4&&Sd.has (p.table (cJ n).toNat r.toNat) c))).1;rw[show n-5+5=n by omega]at q;refine⟨?_⟩;rw[q,ox (b:=5) (.inr (by show(5:Int)<=(n:Int);omega))];rfl
 |negSucc n=>
  refine⟨?_⟩;rw[(ZJ p ka kn kc n r c _).2,ox (b:=5) (.inl (IP n))];rfl
theorem ai0 (p:Sd.aN) (ka:Nat->Option aO) (kn kc:Nat->Nat) (X:V->Prop):eb prog [] 30 30 [.agg (fa p ka kn kc)] X=X (.agg (dQ (Sd.Tok.new p))):=by kernel_rfl
theorem ZL (p:Sd.aN) (ka:Nat->Option aO) (kn kc:Nat->Nat) (w:ae):
 aS prog 30 #[.agg (j_ p ka kn kc)] w λv w1=>v=.agg (gC (Sd.Tok.new p))/\Ch [] w w1:=by
 refine gK bH.nil (n:=30) (xs:=[.agg (fa p ka kn kc)]) (v:=.agg (dQ (Sd.Tok.new p))) ?_;rw[ai0]
def Kp (t:Sd.Tok) (f:Int) (X Y:Prop):Prop:=cond (!decide (t.offer>=0)) X (cond (t.offer !=f) X Y)
theorem QU {t:Sd.Tok} {f:Int} {X Y:Prop} (h:t.offer<0\/t.offer≠f->X) (k:¬(t.offer<0\/t.offer≠f)->Y):Kp t f X Y:=by
 refine aI (λa=>h (.inl (by simpa using a))) (λa=>aI (λb=>h (.inr (by simpa using b))) λb=>k ?_);simp at a b;omega
def QW (t:Sd.Tok) (o:Int) (X:V->Prop):Prop:=cond (decide (o<0)) (X (.an [.agg (dQ t),.int .i64 1])) (cond (decide (o>=5)) (X (.an [.agg (dQ t),.int .i64 1])) (cond (o==t.ay) (X (.an [.agg (dQ t),.int .i64 25]))
 (cond (decide (t.af>=65535)) (X (.an [.agg (dQ t),.int .i64 24])) (X (.an [.agg (dQ (t.pass o (i64.wrap (t.af+1)))),.int .i64 0])))))
theorem ai1 (t:Sd.Tok) (f e:Int) (X:V->Prop):eb prog [] 30 199 [.agg (dQ t),.int .i64 f,.int .i64 e] X=Kp t f (X (.an [.agg (dQ t),.int .i64 28])) (cond (e !=t.af) (X (.an [.agg (dQ t),.int .i64 21])) (QW t f X)):=by kernel_rfl
theorem ai2 {t:Sd.Tok} (uo:-9223372036854775808<=t.af/\t.af<=9223372036854775807) (o:Int):QW t o (·=.an [.agg (dQ (t.cY o).1),.int .i64 (t.cY o).2]):=by
 unfold QW Sd.Tok.cY;refine aI (λh=>by rw[if_pos (.inl (by simpa using h))]) (λh=>aI (λh'=>by rw[if_pos (.inr (by simpa using h'))]) λh'=>?_);have h1:¬(o<0\/5<=o):=by simp at h h';omega
 rw[if_neg h1];refine aI (λh=>by rw[if_pos (by simpa using h)]) (λh=>?_);rw[if_neg (by simpa using h)];refine aI (λh=>by rw[if_pos (by simpa using h)]) (λh=>?_);have h2:¬65535<=t.af:=by simpa using h
 rw[if_neg h2,iw (by omega)]
theorem ai3 (t:Sd.Tok) (f:Int) (e:Int) (uo:-9223372036854775808<=t.af/\t.af<=9223372036854775807) (w:ae):
 aS prog 199 #[.agg (gC t),.int .i64 f,.int .i64 e] w λv w1=>v=.tuple #[.agg (gC ((Sd.Tok.accept t f e).1)),.int .i64 ((Sd.Tok.accept t f e).2)]/\Ch [] w w1:=by
 refine gK bH.nil (n:=30) (xs:=[.agg (dQ t),.int .i64 f,.int .i64 e]) (v:=.an [.agg (dQ (t.accept f e).1),.int .i64 (t.accept f e).2]) ?_;rw[ai1];unfold Sd.Tok.accept;refine QU (λh=>by rw[if_pos h]) (λh=>?_);rw[if_neg h];refine aI (λh=>by rw[if_pos (by simpa using h)]) (λh=>?_);rw[if_neg (by simpa using h)];exact ai2 uo f
theorem ai4 (t:Sd.Tok) (f:Int) (X:V->Prop):eb prog [Ko] 30 200 [.agg (dQ t),.int .i64 f] X=Kp t f (X (.an [.agg (dQ t),.int .i64 28])) (True/\X (.an [.agg (dQ t.ir),.int .i64 0])):=by kernel_rfl
theorem ai5 (t:Sd.Tok) (f:Int) (w:ae):
 aS prog 200 #[.agg (gC t),.int .i64 f] w λv w1=>v=.tuple #[.agg (gC ((Sd.Tok.fy t f).1)),.int .i64 ((Sd.Tok.fy t f).2)]/\Ch [] w w1:=by
 refine gK (rD (ZG _)) (n:=30) (xs:=[.agg (dQ t),.int .i64 f]) (v:=.an [.agg (dQ (t.fy f).1),.int .i64 (t.fy f).2]) ?_;rw[ai4];unfold Sd.Tok.fy;exact QU (λh=>by rw[if_pos h]) (λh=>⟨trivial,by rw[if_neg h]⟩)
theorem ai6 (t:Sd.Tok) (f:Int) (X:V->Prop):eb prog [Ko] 30 136 [.agg (dQ t),.int .i64 f] X=Kp t f (X (.an [.agg (dQ t),.bool false])) (True/\X (.an [.agg (dQ t.ir),.bool true])):=by kernel_rfl
theorem ai7 (t:Sd.Tok) (s:Int) (w:ae):
 aS prog 136 #[.agg (gC t),.int .i64 s] w λv w1=>v=.tuple #[.agg (gC ((Sd.Tok.drop t s).1)),.bool ((Sd.Tok.drop t s).2)]/\Ch [] w w1:=by
 refine gK (rD (ZG _)) (n:=30) (xs:=[.agg (dQ t),.int .i64 s]) (v:=.an [.agg (dQ (t.drop s).1),.bool (t.drop s).2]) ?_;rw[ai6];unfold Sd.Tok.drop;exact QU (λh=>by rw[if_pos h]) (λh=>⟨trivial,by rw[if_neg h]⟩)
theorem ai8 (t:Sd.Tok) (ZM:-9223372036854775808<=t.oa.n/\t.oa.n<=9223372036854775807) (ZN:-9223372036854775808<=t.oa.most/\t.oa.most<=9223372036854775807) (w:ae):
 aS prog 92 #[.agg (gC t)] w λv w1=>v=.tuple #[.agg (gC ((Sd.Tok.tick t).1)),.int .i64 ((Sd.Tok.tick t).2)]/\Ch [] w w1:=by
 have S0:=St.nil [] w;refine iL Tryz.func92 rfl ?_;refine aQ (aX ?_);refine eE S0 (λb=>.pointer (some ⟨b,0,none⟩)) (.cells (gC t) 95) ?_;intro bE hY dB;refine eE dB (λb=>.pointer (some ⟨b,0,none⟩)) (.cells #[.int .i64 0,.int .i64 0,.int .i64 0,.int .i64 0,.int .i64 0,.int .i64 0,.int .i64 0,.bool false] 95) ?_;intro dq l7 cV;refine ak (.int .i64 0) ?_;refine aT (aP (aQ (aQ (aX ?_))));refine jY cV 1 8 (gC t) bE 0 ?_;refine fu 137 #[.agg (gC t)] ?_;refine(open_ t _).mono ?_;rintro _ C_ ⟨rfl,ov⟩;have iR:=cV.quiet ov;refine ak (.bool (!(decide (0<=t.offer)))) ?_;refine aT (aP ?_);refine rZ (!(decide (0<=t.offer))) ?_ ?_
 ·intro kW;have j7:=NN kW;have vW:=Wh j7;refine aQ (aX ?_);refine jY iR 1 8 (gC t) bE 0 ?_;refine store_ iR 0 (.agg (gC t)) dq 0 ?_;intro Qi ow;refine ak (.int .i64 (-1)) ?_;refine aT (aP (gv (We ?_)));refine gf rfl (fF [.cell 2 95,.tmp 3] [.agg (gC t),.int .i64 (-1)] (.tuple #[.agg (gC t),.int .i64 (-1)]) ⟨mu ow 0 8 dq 0,jf,trivial⟩) ?_;have ze:Sd.Tok.tick t=(t,(-1)):=by first|rfl|(simp[Sd.Tok.tick,kW,j7];done)|(simp[Sd.Tok.tick,kW,j7];rfl)|(simp[Sd.Tok.tick,kW,j7];simp[Sd.Tok.tick,kW,j7];done)|(simp[Sd.Tok.tick,kW,j7];simp[Sd.Tok.tick,kW,j7];rfl)|(simp[Sd.Tok.tick,kW,j7];omega)|(unfold Sd.Tok.tick;(repeat' split)<;>first|rfl|assumption|omega|(simp_all;done)|(simp_all;omega))
  exact⟨by(rw[ze])<;>rfl,ow.ch⟩
 intro kZ;have kE:=NO kZ;have C9:=Wg kE;refine jI (aP (aQ (aX ?_)));refine ak (.pointer (some ⟨bE,3,none⟩)) ?_;refine jY iR 1 2 (wq t.oa) bE 3 ?_;refine fu 138 #[.agg (wq t.oa)] ?_;refine(ZC t.oa (by omega) (by omega) _).mono ?_;rintro _ AN ⟨rfl,yy⟩;have ru:=iR.quiet yy;refine ak (.pointer (some ⟨bE,3,none⟩)) ?_;refine store_ ru 1 (.agg (wq (Sd.Timer.step t.oa))) bE 3 ?_;intro QX uk;refine aT (aP (aQ (aQ (aX ?_))));refine ak (.pointer (some ⟨bE,3,none⟩)) ?_;refine jY uk 1 2 (wq (Sd.Timer.step t.oa)) bE 3 ?_;refine fu 139 #[.agg (wq (Sd.Timer.step t.oa))] ?_;refine(ZF (Sd.Timer.step t.oa) _).mono ?_;rintro _ Y3 ⟨rfl,sP⟩;have ny:=uk.quiet sP;refine ak (.bool (!(Sd.Timer.due (Sd.Timer.step t.oa)))) ?_;refine aT (aP ?_);refine rZ (!(Sd.Timer.due (Sd.Timer.step t.oa))) ?_ ?_
 ·intro pT;have j8:=NN pT;have yB:=Wh j8;refine aQ (aX ?_);refine jY ny 1 8 #[.int .i64 t.ay,.int .i64 t.af,.int .i64 t.offer,.int .i64 (Sd.Timer.step t.oa).n,.int .i64 (Sd.Timer.step t.oa).most,.int .i64 t.la.n,.int .i64 t.la.most,.bool t.bad] bE 0 ?_;refine store_ ny 0 (.agg #[.int .i64 t.ay,.int .i64 t.af,.int .i64 t.offer,.int .i64 (Sd.Timer.step t.oa).n,.int .i64 (Sd.Timer.step t.oa).most,.int .i64 t.la.n,.int .i64 t.la.most,.bool t.bad]) dq 0 ?_;intro Kj A0;refine ak (.int .i64 (-1)) ?_;refine aT (aP (gv (We ?_)));refine gf rfl (fF [.cell 2 95,.tmp 3] [.agg #[.int .i64 t.ay,.int .i64 t.af,.int .i64 t.offer,.int .i64 (Sd.Timer.step t.oa).n,.int .i64 (Sd.Timer.step t.oa).most,.int .i64 t.la.n,.int .i64 t.la.most,.bool t.bad],.int .i64 (-1)] (.tuple #[.agg #[.int .i64 t.ay,.int .i64 t.af,.int .i64 t.offer,.int .i64 (Sd.Timer.step t.oa).n,.int .i64 (Sd.Timer.step t.oa).most,.int .i64 t.la.n,.int .i64 t.la.most,.bool t.bad],.int .i64 (-1)]) ⟨mu A0 0 8 dq 0,jf,trivial⟩) ?_;have ze:Sd.Tok.tick t=((⟨t.ay,t.af,t.offer,(Sd.Timer.step t.oa),t.la,t.bad⟩:Sd.Tok),(-1)):=by first|rfl|(simp[Sd.Tok.tick,kZ,kE,pT,j8];done)|(simp[Sd.Tok.tick,kZ,kE,pT,j8];rfl)|(simp[Sd.Tok.tick,kZ,kE,pT,j8];simp[Sd.Tok.tick,kZ,kE,pT,j8];done)|(simp[Sd.Tok.tick,kZ,kE,pT,j8];simp[Sd.Tok.tick,kZ,kE,pT,j8];rfl)|(simp[Sd.Tok.tick,kZ,kE,pT,j8];omega)|(unfold Sd.Tok.tick;(repeat' split)<;>first|rfl|assumption|omega|(simp_all;done)|(simp_all;omega))
  exact⟨by(rw[ze])<;>rfl,A0.ch⟩
 intro uj;have rF:=NO uj;have Kk:=Wg rF;refine jI (aP (aQ ?_));have zD:=ny.WG 0 0 8 (b:=dq) (by kernel_rfl);refine WI ny 5 4 0 dq 0 [] (.agg (gC (Sd.Tok.ir (⟨t.ay,t.af,t.offer,(Sd.Timer.step t.oa),t.la,t.bad⟩:Sd.Tok)))) [.agg #[.int .i64 t.ay,.int .i64 t.af,.int .i64 t.offer,.int .i64 (Sd.Timer.step t.oa).n,.int .i64 (Sd.Timer.step t.oa).most,.int .i64 t.la.n,.int .i64 t.la.most,.bool t.bad],.agg (gC (Sd.Tok.ir (⟨t.ay,t.af,t.offer,(Sd.Timer.step t.oa),t.la,t.bad⟩:Sd.Tok))),.pointer (some ⟨bE,2,none⟩),.int .i64 t.offer,undef] [[5,0],[5,1],[5,2],[5,3],[5,4]] (ly (ES zD 0 bE 0 8 #[.int .i64 t.ay,.int .i64 t.af,.int .i64 t.offer,.int .i64 (Sd.Timer.step t.oa).n,.int .i64 (Sd.Timer.step t.oa).most,.int .i64 t.la.n,.int .i64 t.la.most,.bool t.bad]) (ly (eC_ 140 #[.agg #[.int .i64 t.ay,.int .i64 t.af,.int .i64 t.offer,.int .i64 (Sd.Timer.step t.oa).n,.int .i64 (Sd.Timer.step t.oa).most,.int .i64 t.la.n,.int .i64 t.la.most,.bool t.bad]] (QE (⟨t.ay,t.af,t.offer,(Sd.Timer.step t.oa),t.la,t.bad⟩:Sd.Tok))) (ly Cw (ly (WC zD 0 bE 2) (ly (WE ny 0 (.agg (gC (Sd.Tok.ir (⟨t.ay,t.af,t.offer,(Sd.Timer.step t.oa),t.la,t.bad⟩:Sd.Tok)))) dq 0) (N_)))))) ?_;intro av8 Ki;refine ak (.int .i64 t.offer) ?_;refine aT (aP (gv ?_));refine gf rfl (fF [.cell 2 95,.tmp 3] [.agg (gC (Sd.Tok.ir (⟨t.ay,t.af,t.offer,(Sd.Timer.step t.oa),t.la,t.bad⟩:Sd.Tok))),.int .i64 t.offer] (.tuple #[.agg (gC (Sd.Tok.ir (⟨t.ay,t.af,t.offer,(Sd.Timer.step t.oa),t.la,t.bad⟩:Sd.Tok))),.int .i64 t.offer]) ⟨mu Ki 0 8 dq 0,jf,trivial⟩) ?_;have ze:Sd.Tok.tick t=((Sd.Tok.ir (⟨t.ay,t.af,t.offer,(Sd.Timer.step t.oa),t.la,t.bad⟩:Sd.Tok)),t.offer):=by first|rfl|(simp[Sd.Tok.tick,kZ,kE,uj,rF];done)|(simp[Sd.Tok.tick,kZ,kE,uj,rF];rfl)|(simp[Sd.Tok.tick,kZ,kE,uj,rF];simp[Sd.Tok.tick,kZ,kE,uj,rF];done)|(simp[Sd.Tok.tick,kZ,kE,uj,rF];simp[Sd.Tok.tick,kZ,kE,uj,rF];rfl)|(simp[Sd.Tok.tick,kZ,kE,uj,rF];omega)|(unfold Sd.Tok.tick;(repeat' split)<;>first|rfl|assumption|omega|(simp_all;done)|(simp_all;omega))
 exact⟨by(rw[ze])<;>rfl,Ki.ch⟩
theorem ai9 (p:Sd.aN) (ka:Nat->Option aO) (kn kc:Nat->Nat) (t:Sd.Tok) (f o:Int) (th:Bool) (X:V->Prop):eb prog [QM] 30 198 [.agg (fa p ka kn kc),.agg (dQ t),.int .i64 f,.int .i64 o,.bool th] X=
 let r:Int->Prop:=λn=>X (.an [.agg (dQ t),.int .i64 n])
 cond (f !=t.ay) (r 20) (cond (decide (t.af>=65535)) (r 24) (cond (o==f) (r 25) (cond (decide (o<1)) (r 2) (cond (decide (o>3)) (r 2) (cond (!th) (r 2) (cond (decide (t.offer>=0)) (r 28) (True/\X (.an [.agg (dQ {t with offer:=o,oa:=⟨0,if 0>p.i 44 then 0 else p.i 44⟩}),.int .i64 0])))))))):=by kernel_rfl
theorem ai_ (p:Sd.aN) (ka:Nat->Option aO) (kn kc:Nat->Nat) (t:Sd.Tok) (f:Int) (o:Int) (th:Bool) (hp:Sd.eO p) (w:ae):
 aS prog 198 #[.agg (j_ p ka kn kc),.agg (gC t),.int .i64 f,.int .i64 o,.bool th] w λv w1=>v=.tuple #[.agg (gC ((Sd.Tok.make p t f o th).1)),.int .i64 ((Sd.Tok.make p t f o th).2)]/\Ch [] w w1:=by
 refine gK (rD (aiO _)) (n:=30) (xs:=[.agg (fa p ka kn kc),.agg (dQ t),.int .i64 f,.int .i64 o,.bool th]) (v:=.an [.agg (dQ (t.make p f o th).1),.int .i64 (t.make p f o th).2]) ?_;rw[ai9];unfold Sd.Tok.make;refine aI (λh=>by rw[if_pos (by simpa using h)]) (λh=>?_);rw[if_neg (by simpa using h)];refine aI (λh=>by rw[if_pos (by simpa using h)]) (λh=>?_);rw[if_neg (by simpa using h)];refine aI (λh=>by rw[if_pos (by simpa using h)]) (λh=>?_);rw[if_neg (by simpa using h)];refine aI (λh=>by rw[if_pos (.inl (by simpa using h))]) (λh1=>?_);refine aI (λh=>by rw[if_pos (.inr (.inl (by simpa using h)))]) (λh2=>?_);refine aI (λh=>by rw[if_pos (.inr (.inr (by simpa using h)))]) (λh3=>?_);rw[if_neg (by simp at h1 h2 h3;rw[h3];simp;omega)];refine aI (λh=>by rw[if_pos (by simpa using h)]) (λh=>?_);rw[if_neg (show¬0<=t.offer by simpa using h),Gm];exact⟨trivial,rfl⟩
def Kq (p:Sd.aN) (c:Nat) (n:Int):Int:=Sd.tR n (i64.wrap (0-p.i (50+c))) (p.i (50+c))
theorem aja (p:Sd.aN) (ka:Nat->Option aO) (kn kc:Nat->Nat) (pt:Sd.eF) (y:Sd.X4) (b:Sd.Label) (X:V->Prop):∀c:Nat,c<4->eb prog [Gn] 30 129 [.agg (fa p ka kn kc),.agg (jS pt),.int .i64 (.ofNat c),.agg (sT y),.agg (wu b)] X=(True/\True/\True/\True/\X (.agg (jS ⟨.ofNat c,y.map (Kq p c),pt.now,b⟩)))
 |0,_=>by kernel_rfl
 |1,_=>by kernel_rfl
 |2,_=>by kernel_rfl
 |3,_=>by kernel_rfl
 |n+4,h=>absurd h (by omega)
theorem ZO (p:Sd.aN) (ka:Nat->Option aO) (kn kc:Nat->Nat) (pt:Sd.eF) (y:Sd.X4) (b:Sd.Label) (n:Nat) (X:V->Prop):eb prog [Gn] 30 129 [.agg (fa p ka kn kc),.agg (jS pt),.int .i64 (.ofNat (n+4)),.agg (sT y),.agg (wu b)] X=cond (decide (cJ (n+4)>=4)) (X (.agg (jS ⟨.ofNat (n+4),.zero,pt.now,b⟩))) False/\
 eb prog [Gn] 30 129 [.agg (fa p ka kn kc),.agg (jS pt),.int .i64 (.negSucc n),.agg (sT y),.agg (wu b)] X=cond (decide (Int.negSucc n<0)) (X (.agg (jS ⟨.negSucc n,.zero,pt.now,b⟩))) False:=⟨by kernel_rfl,by kernel_rfl⟩
theorem ajb (p:Sd.aN) (ka:Nat->Option aO) (kn kc:Nat->Nat) (pt:Sd.eF) (c:Int) (y:Sd.X4) (b:Sd.Label) (hp:Sd.eO p) (w:ae):
 aS prog 129 #[.agg (j_ p ka kn kc),.agg (Dn pt),.int .i64 c,.agg (Zr y),.agg (Zs b)] w λv w1=>v=.agg (Dn (Sd.eF.set p pt c y b))/\Ch [] w w1:=by
 cases c with
 |ofNat n=>
  by_cases h:n<4
  ·refine gK (rD (QO _)) (n:=30) (xs:=[.agg (fa p ka kn kc),.agg (jS pt),.int .i64 (.ofNat n),.agg (sT y),.agg (wu b)]) (v:=.agg (jS ⟨.ofNat n,y.map (Kq p n),pt.now,b⟩)) ?_ (by kernel_rfl) ?_
   ·rw[aja p ka kn kc pt y b _ n h];exact⟨trivial,trivial,trivial,trivial,rfl⟩
   ·unfold Sd.eF.set;rw[if_neg (by show¬((n:Int)<0\/4<=(n:Int));omega)];have hm:=hp.most n h;unfold Sd.aN.most at hm;have e:Kq p n=λx=>Sd.tR x (-(p.most (cJ n).toNat)) (p.most (cJ n).toNat):=by
     funext x;unfold Kq;rw[iw (by omega),Int.zero_sub];rfl
    rw[e];rfl
  ·refine gK (rD (QO _)) (n:=30) (xs:=[.agg (fa p ka kn kc),.agg (jS pt),.int .i64 (.ofNat n),.agg (sT y),.agg (wu b)]) (v:=.agg (jS ⟨.ofNat n,.zero,pt.now,b⟩)) ?_ (by kernel_rfl) ?_
   ·have q:=(ZO p ka kn kc pt y b (n-4) (·=.agg (jS ⟨.ofNat n,.zero,pt.now,b⟩))).1;rw[show n-4+4=n by omega]at q;rw[q];exact aI (λ_=>rfl) λh=>absurd (of_decide_eq_false h) (by show¬¬(n:Int)>=4;omega)
   ·unfold Sd.eF.set;rw[if_pos (.inr (by show(4:Int)<=(n:Int);omega))];rfl
 |negSucc n=>
  refine gK (rD (QO _)) (n:=30) (xs:=[.agg (fa p ka kn kc),.agg (jS pt),.int .i64 (.negSucc n),.agg (sT y),.agg (wu b)]) (v:=.agg (jS ⟨.negSucc n,.zero,pt.now,b⟩)) ?_ (by kernel_rfl) ?_
  ·rw[(ZO p ka kn kc pt y b n _).2];exact aI (λ_=>rfl) λh=>absurd (of_decide_eq_false h) (by have:=IP n;omega)
  ·unfold Sd.eF.set;rw[if_pos (.inl (IP n))];rfl
theorem ajc (pt:Sd.eF) (b:Sd.Label) (X:V->Prop):eb prog [] 30 134 [.agg (jS pt),.agg (wu b)] X=X (.agg (jS (pt.hold b))):=by kernel_rfl
theorem ajd (pt:Sd.eF) (b:Sd.Label) (w:ae):
 aS prog 134 #[.agg (Dn pt),.agg (Zs b)] w λv w1=>v=.agg (Dn (Sd.eF.hold pt b))/\Ch [] w w1:=by
 refine gK bH.nil (n:=30) (xs:=[.agg (jS pt),.agg (wu b)]) (v:=.agg (jS (pt.hold b))) ?_;rw[ajc]
def Dp (a m:Int) (X:V->Prop) (Y:Prop):Prop:=cond (decide (a<i64.wrap (0-m))) (X (.bool true)) (cond (decide (a>m)) (X (.bool true)) Y)
theorem aje (m:Int) (y:Sd.X4) (X:V->Prop):eb prog [] 30 126 [.int .i64 m,.agg (sT y)] X=Dp y.a m X (Dp y.b m X (Dp y.c m X (Dp y.d m X (X (.bool false))))):=by kernel_rfl
theorem Kr {a m:Int} (hm:0<=m/\m<=1000) {b:Bool} {Y:Prop} (h:a< -m\/m<a->b=true) (k:¬(a< -m\/m<a)->Y):Dp a m (·=.bool b) Y:=by
 unfold Dp;rw[iw (by omega),Int.zero_sub];refine aI (λx=>by rw[h (.inl (by simpa using x))]) (λx=>aI (λz=>by rw[h (.inr (by simpa using z))]) λz=>k ?_);simp at x z;omega
theorem ZP (m:Int) (y:Sd.X4) (hm:0<=m/\m<=1000) (w:ae):
 aS prog 126 #[.int .i64 m,.agg (Zr y)] w λv w1=>v=.bool (Sd.nf m y)/\Ch [] w w1:=by
 refine gK bH.nil (n:=30) (xs:=[.int .i64 m,.agg (sT y)]) (v:=.bool (Sd.nf m y)) ?_;rw[aje];unfold Sd.nf;refine Kr hm (λh=>by simp[h]) λh1=>Kr hm (λh=>by simp[h]) λh2=>Kr hm (λh=>by simp[h]) λh3=>Kr hm (λh=>by simp[h]) λh4=>?_;congr 1;simp;omega
theorem ajf (gl:Nat->Option Nat):QN.Ok prog gl:=by
 intro args bl p_ v_ h hp ids w _ _;unfold QN at h;dsimp only at h;split at h
 ·rename_i m a b c d;simp only[aV,bw]at h;obtain⟨rfl,rfl⟩:=h;exact told (ZP m ⟨a,b,c,d⟩ hp w)
 ·cases h
def ZQ (s:Sd.g9):List V:=.bool s.valid::(sT s.x++[.bool s.Al])
theorem ajg (p:Sd.aN) (ka:Nat->Option aO) (kn kc:Nat->Nat) (r:Int) (s:Sd.g9) (X:V->Prop):eb prog [QN] 30 80 [.agg (fa p ka kn kc),.int .i64 r,.agg (ZQ s)] X=
 let m:Int:=if 0>r then 0 else r
 cond (!s.valid) (X (.an [.int .i64 0,.bool false])) ((0<=p.i 47/\p.i 47<=1000)/\cond (!Sd.nf (p.i 47) s.x) (X (.an [.int .i64 0,.bool false])) (cond (decide (m<p.i 46)) (X (.an [.int .i64 (i64.wrap (m+1)),.bool (decide (i64.wrap (m+1)>=p.i 46))])) (X (.an [.int .i64 (p.i 46),.bool (decide (p.i 46>=p.i 46))])))):=by kernel_rfl
theorem ajh (p:Sd.aN) (ka:Nat->Option aO) (kn kc:Nat->Nat) (r:Int) (s:Sd.g9) (hp:Sd.eO p) (ZR:-9223372036854775808<=r/\r<=9223372036854775807) (w:ae):
 aS prog 80 #[.agg (j_ p ka kn kc),.int .i64 r,.agg (ait s)] w λv w1=>v=.tuple #[.int .i64 ((Sd.eh p r s).1),.bool ((Sd.eh p r s).2)]/\Ch [] w w1:=by
 refine gK (rD (ajf _)) (n:=30) (xs:=[.agg (fa p ka kn kc),.int .i64 r,.agg (ZQ s)]) (v:=.an [.int .i64 (Sd.eh p r s).1,.bool (Sd.eh p r s).2]) ?_;rw[ajg];have hb:=hp.beyond;have hs:=hp.pj;unfold Sd.aN.beyond at hb;unfold Sd.aN.pj at hs;have em:(if 0>r then 0 else r)=max r 0:=by by_cases h:0>r<;>simp[h]<;>omega
 rw[em];unfold Sd.eh Sd.aN.beyond Sd.aN.pj;refine aI (λh=>by rw[if_pos (.inl (by simpa using h))]) (λh=>⟨hb,aI (λh'=>by rw[if_pos (.inr (by simpa using h'))]) λh'=>?_⟩);rw[if_neg (by simp at h h';simp[h,h'])];unfold Sd.sat;refine aI (λh=>?_) (λh=>?_)
 ·have h:max r 0<p.i 46:=by simpa using h
  rw[if_pos h,iw (by omega)]
 ·rw[if_neg (by simpa using h)]
theorem aji (p:Sd.aN) (ka:Nat->Option aO) (kn kc:Nat->Nat) (pt:Sd.eF) (X:V->Prop):eb prog [QK] 30 95 [.agg (fa p ka kn kc),.agg (jS pt)] X=
 let n:Sd.X4:=Sd.X4.zip (λa b=>Sd.qU a b (p.i 54)) pt.now pt.aU
 ((aB pt.now.a/\aB pt.aU.a/\aB (p.i 54))/\(aB pt.now.b/\aB pt.aU.b/\aB (p.i 54))/\(aB pt.now.c/\aB pt.aU.c/\aB (p.i 54))/\(aB pt.now.d/\aB pt.aU.d/\aB (p.i 54))/\
   cond (!(n.a==pt.now.a&&(n.b==pt.now.b&&(n.c==pt.now.c&&(n.d==pt.now.d&&true))))) (X (.agg (jS ⟨pt.cls,pt.aU,n,{pt.bI with mz:=4}⟩))) (X (.agg (jS ⟨pt.cls,pt.aU,n,pt.bI⟩)))):=by kernel_rfl
theorem ajj (p:Sd.aN) (ka:Nat->Option aO) (kn kc:Nat->Nat) (pt:Sd.eF) (hp:Sd.eO p) (QY:-9223372036854775808<=pt.aU.a/\pt.aU.a<=9223372036854775807) (QZ:-9223372036854775808<=pt.aU.b/\pt.aU.b<=9223372036854775807) (Q0:-9223372036854775808<=pt.aU.c/\pt.aU.c<=9223372036854775807) (Q1:-9223372036854775808<=pt.aU.d/\pt.aU.d<=9223372036854775807) (Q2:-9223372036854775808<=pt.now.a/\pt.now.a<=9223372036854775807) (Q3:-9223372036854775808<=pt.now.b/\pt.now.b<=9223372036854775807) (Q4:-9223372036854775808<=pt.now.c/\pt.now.c<=9223372036854775807) (Q5:-9223372036854775808<=pt.now.d/\pt.now.d<=9223372036854775807) (w:ae):
 aS prog 95 #[.agg (j_ p ka kn kc),.agg (Dn pt)] w λv w1=>v=.agg (Dn (Sd.eF.step p pt))/\Ch [] w w1:=by
 refine gK (rD (aiN _)) (n:=30) (xs:=[.agg (fa p ka kn kc),.agg (jS pt)]) (v:=.agg (jS (pt.step p))) ?_;rw[aji];have hr:=hp.CB;unfold Sd.aN.CB at hr;have hr:aB (p.i 54):=by unfold aB;omega
 refine⟨⟨Q2,QY,hr⟩,⟨Q3,QZ,hr⟩,⟨Q4,Q0,hr⟩,⟨Q5,Q1,hr⟩,?_⟩;have e:Sd.eF.step p pt=⟨pt.cls,pt.aU,Sd.X4.zip (λa b=>Sd.qU a b (p.i 54)) pt.now pt.aU,if Sd.X4.zip (λa b=>Sd.qU a b (p.i 54)) pt.now pt.aU=pt.now then pt.bI else{pt.bI with mz:=4}⟩:=rfl;rw[e];generalize Sd.X4.zip (λa b=>Sd.qU a b (p.i 54)) pt.now pt.aU=n;refine aI (λh=>?_) (λh=>?_)
 ·rw[if_neg];intro h2;rw[h2]at h;simp at h
 ·rw[if_pos];rcases n with⟨n1,n2,n3,n4⟩;rcases pt with⟨q,u,⟨m1,m2,m3,m4⟩,l⟩;simp at h;simp[h]
def yF (x:Int):Int:=bif(bits .and .u16 x 32768!=0)then bits .xor .u16 (u16.wrap (x*2^1)) 4129 else u16.wrap (x*2^1)
def wy (x:Int):Nat->Int
 |0=>x
 |k+1=>yF (wy x k)
def Dq (s c:Int):Int:=wy (bits .xor .u16 s (u16.wrap (u16.wrap c*2^8))) 8
def jD (f:Nat->Int):Nat->Int
 |0=>65535
 |k+1=>Dq (jD f k) (f k)
theorem ajk {x s:Int} {i:Int} (h:0<=i) (e:s=wy x i.toNat) (hb:(bits .and .u16 s 32768!=0)=true):bits .xor .u16 (u16.wrap (s*2^1)) 4129=wy x (i+1).toNat:=by
 have h1:(i+1).toNat=i.toNat+1:=by omega
 rw[h1];show _=yF (wy x i.toNat);rw[<-e];unfold yF;rw[hb];rfl
theorem ajl {x s:Int} {i:Int} (h:0<=i) (e:s=wy x i.toNat) (hb:(bits .and .u16 s 32768!=0)=false):u16.wrap (s*2^1)=wy x (i+1).toNat:=by
 have h1:(i+1).toNat=i.toNat+1:=by omega
 rw[h1];show _=yF (wy x i.toNat);rw[<-e];unfold yF;rw[hb];rfl
theorem ajm {f:Nat->Int} {s i:Int} (h:0<=i) (e:s=jD f i.toNat):Dq s (f i.toNat)=jD f (i+1).toNat:=by
 have h1:(i+1).toNat=i.toNat+1:=by omega
 rw[h1,e];rfl
theorem ajn (a c:Int) (w:ae):
 aS prog 171 #[.int .u16 a,.int .u8 c] w λv w1=>v=.int .u16 (Dq a c)/\Ch [] w w1:=by
 have S0:=St.nil [] w;refine iL Tryz.func171 rfl ?_;refine aQ (aX ?_);refine ak (.int .u16 0) ?_;refine aT (aP (aQ (aX ?_)));refine ak (.int .u16 a) ?_;refine ak (.int .u8 c) ?_;refine ak (.int .u16 (u16.wrap c)) ?_;refine ak (.int .u16 (u16.wrap ((u16.wrap c)*2^8))) ?_;refine ak (.int .u16 (bits .xor .u16 a (u16.wrap ((u16.wrap c)*2^8)))) ?_;refine fS ?_;refine aT (aP (aQ (aQ (aX ?_))));refine ak (.int .i64 0) ?_;refine aT (aP (jc ?_));refine I9 (λzn za zw=>∃(i:Int) (s:Int) (fj:Nat->ab),(zn=(8-i).toNat/\0<=i/\i<=8/\s=wy (bits .xor .u16 a (u16.wrap ((u16.wrap c)*2^8))) i.toNat)/\za=⟨#[.int .u16 s,.int .u8 c,undef,undef,.int .u16 0,.int .u16 a,.int .u8 c,.int .u16 (u16.wrap c),.int .u16 (u16.wrap ((u16.wrap c)*2^8)),.int .u16 (bits .xor .u16 a (u16.wrap ((u16.wrap c)*2^8))),.int .i64 i,(fj 11),(fj 12),(fj 13),(fj 14),(fj 15),(fj 16),(fj 17),(fj 18),(fj 19),(fj 20),undef],[]⟩/\St [] w [] zw) _ (λzy l9=>⟨(0:Int),(bits .xor .u16 a (u16.wrap ((u16.wrap c)*2^8))),(λd=>zy.tmps.getD d undef),⟨rfl,by omega,by omega,rfl⟩,by subst l9;kernel_rfl,S0.re (R:=([]:List ai)) [] []⟩) ?_;rintro _ _ l7 ⟨i,s,fj,⟨rfl,YK,YL,v7⟩,rfl,cV⟩;refine aQ (aX ?_);refine ak (.bool (decide (i<8))) ?_;refine aT (aP (aQ ?_));refine rZ (decide (i<8)) ?_ ?_
 ·intro v8;have ov:=z6 v8;refine jI (aP (aQ (jc (aQ (aX ?_)))));refine ak (.int .u16 s) ?_;refine ak (.int .u16 (bits .and .u16 s 32768)) ?_;refine ak (.bool ((bits .and .u16 s 32768)!=0)) ?_;refine aT (aP ?_);refine rZ ((bits .and .u16 s 32768)!=0) ?_ ?_
  ·intro v9;have kW:=NL v9;refine aX ?_;refine ak (.int .u16 s) ?_;refine ak (.int .u16 (u16.wrap (s*2^1))) ?_;refine ak (.int .u16 (bits .xor .u16 (u16.wrap (s*2^1)) 4129)) ?_;refine fS ?_;refine aT (lq (aP (aX ?_)));refine kO .i64 (i+1) (zV _ (by omega)) ?_;refine ak (.int .i64 (i+1)) ?_;refine aT ?_;refine EX λzy l9=>?_;exact⟨_,by omega,(i+1),(bits .xor .u16 (u16.wrap (s*2^1)) 4129),(λd=>zy.tmps.getD d undef),⟨rfl,by omega,by omega,(ajk (by omega) v7 v9)⟩,by subst l9;kernel_rfl,cV.re (R:=([]:List ai)) [] []⟩
  intro j7;have vW:=NM j7;refine aX ?_;refine ak (.int .u16 s) ?_;refine ak (.int .u16 (u16.wrap (s*2^1))) ?_;refine fS ?_;refine aT (lq (aP (aX ?_)));refine kO .i64 (i+1) (zV _ (by omega)) ?_;refine ak (.int .i64 (i+1)) ?_;refine aT ?_;refine EX λzy l9=>?_;exact⟨_,by omega,(i+1),(u16.wrap (s*2^1)),(λd=>zy.tmps.getD d undef),⟨rfl,by omega,by omega,(ajl (by omega) v7 j7)⟩,by subst l9;kernel_rfl,cV.re (R:=([]:List ai)) [] []⟩
 intro mG;have ui:=z7 mG;refine wp_exit (ln (ln (vj (aP (aQ (aX ?_))))));refine ak (.int .u16 s) ?_;refine ak (.int .u16 s) ?_;refine aT (aP (gv ?_));refine gf rfl (fF [.tmp 4] [.int .u16 s] (.int .u16 s) ⟨jf,trivial⟩) ?_;exact⟨congrArg _ (by rw[v7,show i.toNat=8 by omega];rfl),cV.ch⟩
theorem ZS (b o n c:Nat) (f:Nat->Int) (hn:n<=1000000) (w:ae) (hB:cd w b o n f):
 aS prog 119 #[.slice (some ⟨b,o,none⟩) n c] w λv w1=>v=.int .u16 (jD f n)/\Ch [] w w1:=by
 have S0:=St.nil [] w;refine iL Tryz.func119 rfl ?_;refine aQ (aX ?_);refine ak (.int .u16 0) ?_;refine aT (aP (aQ (aX ?_)));refine ak (.int .u16 65535) ?_;refine aT (aP (aQ (aQ (aX ?_))));refine dJ ?_;refine ak (.int .i64 ((n:Nat):Int)) ?_;refine ak (.int .i64 0) ?_;refine aT (aP (jc ?_));refine I9 (λzn za zw=>∃(i:Int) (s:Int) (fj:Nat->ab),(zn=(((n:Nat):Int)-i).toNat/\0<=i/\i<=((n:Nat):Int)/\s=jD f i.toNat)/\za=⟨#[.slice (some ⟨b,o,none⟩) n c,undef,.int .u16 0,.int .u16 s,undef,(fj 5),.slice (some ⟨b,o,none⟩) n c,.int .i64 ((n:Nat):Int),.int .i64 i,(fj 9),(fj 10),(fj 11),(fj 12),(fj 13),(fj 14),(fj 15),undef],[]⟩/\St [] w [] zw) _ (λzy l9=>⟨(0:Int),(65535:Int),(λd=>zy.tmps.getD d undef),⟨rfl,by omega,by omega,rfl⟩,by subst l9;kernel_rfl,S0.re (R:=([]:List ai)) [] []⟩) ?_;rintro _ _ l7 ⟨i,s,fj,⟨rfl,YK,YL,v7⟩,rfl,cV⟩;refine aQ (aX ?_);refine ak (.bool (decide (i<((n:Nat):Int)))) ?_;refine aT (aP (aQ ?_));refine rZ (decide (i<((n:Nat):Int))) ?_ ?_
 ·intro v8;have ov:=z6 v8;refine jI (aP (aQ (jc (aQ (aX ?_)))));refine qQ (e:=5) b o (i).toNat n 1 c .i64 i (by omega) (by omega) (by omega) ?_;refine tQ b o n (o+(i).toNat*1) (i).toNat f (St.lz cV hB (by simp)) (by omega) (by omega) ?_;refine ak (.int .u8 (f (i).toNat)) ?_;refine aT (aP (aX ?_));refine ak (.int .u16 s) ?_;refine ak (.int .u8 (f (i).toNat)) ?_;refine fu 171 #[.int .u16 s,.int .u8 (f (i).toNat)] ?_;refine(ajn s (f (i).toNat) _).mono ?_;rintro _ YA ⟨rfl,kW⟩;have yz:=cV.quiet kW;refine fS ?_;refine aT (lq (aP (aX ?_)));refine kO .i64 (i+1) (zV _ (by omega)) ?_;refine ak (.int .i64 (i+1)) ?_;refine aT ?_;refine EX λzy l9=>?_;exact⟨_,by omega,(i+1),(Dq s (f (i).toNat)),(λd=>zy.tmps.getD d undef),⟨rfl,by omega,by omega,ajm (by omega) v7⟩,by subst l9;kernel_rfl,yz.re (R:=([]:List ai)) [] []⟩
 intro vW;have mG:=z7 vW;refine wp_exit (ln (ln (vj (aP (aQ (aX ?_))))));refine ak (.int .u16 s) ?_;refine ak (.int .u16 s) ?_;refine aT (aP (gv ?_));refine gf rfl (fF [.tmp 2] [.int .u16 s] (.int .u16 s) ⟨jf,trivial⟩) ?_;exact⟨congrArg _ (by rw[v7,show i.toNat=n by omega]),cV.ch⟩
def nA (n:Nat) (f:Nat->Int):Nat->Int:=cj (3+n) (cj 3 (da [165,1,n]) f) (da [u8.wrap (jd (jD (Aj (cj 3 (da [165,1,n]) f) 1) (3+n-1)) (2^8)),u8.wrap (jD (Aj (cj 3 (da [165,1,n]) f) 1) (3+n-1))])
def Gp:c_ CG:=λargs bl ch K=>match args,Dc ch with
 |[.raw (.slice (some ⟨b,o,none⟩) m c)],some (l,r)=>(b=r.b/\o+m<=r.n/\m<=1000000)/\K (.int .u16 (jD (wb o r.f) m)) bl ch
 |_,_=>False
theorem ajo {gl:Nat->Option Nat}:Sound prog gl 119 Gp:=by
 intro args ids bl ch R ms w0 w K hg hl S hc;unfold Gp at hc;split at hc
 ·rename_i b o m c l r F5;obtain⟨⟨rfl,h1,h2⟩,hK⟩:=hc;obtain rfl:=J_ F5;refine(ZS r.b o m c (wb o r.f) h2 w (Zl (F8 S) h1)).mono ?_;rintro v w' ⟨rfl,cn⟩;exact⟨.int .u16 (jD (wb o r.f) m),[],bl,_,rfl,by simpa using hl,by simpa using S.quiet cn,hK⟩
 ·exact hc.elim
theorem ajp:hJ Gp:=by
 intro args bl ch K hc;unfold Gp at hc⊢;split at hc
 ·exact⟨hc.1,hc.2,[],by simp⟩
 ·exact hc.elim
def Q6:List (bK CG):=[⟨119,true,Gp⟩]
def ZT (u:ae) (b o n:Nat) (K:VK CG):Prop:=
 let cp:=i64.wrap (i64.wrap (3+(n:Int))+2)
 let l1:=[165,1,u8.wrap (n:Int)]
 let F1:=cj 0 (λ_=>0) (da l1)
 let N:=0+(2+1)+n
 cond (decide ((n:Int)>32)) (K (.an [.raw (.slice none 0 0),.int .i64 1]) [] [.aZ u])
  ((1<=cp/\cp<=1000000)/\∀b0:Nat,0+(2+1)<=l1.length/\(b0=b0/\0=0/\cp.toNat=cp.toNat/\0<=cp.toNat/\0+(2+1)<=1000000/\0<0+(2+1))/\∀b1 c1:Nat,0+(2+1)<=c1->∃f,cd u b o n f/\
    let F2:=cj (0+(2+1)) F1 f
    (b1=b1/\0+(2+1)=0+(2+1)/\c1=c1/\0+(2+1)<=c1/\N<=1000000/\0<N)/\∀b2 c2:Nat,N<=c2->(1<N/\N<=c2)/\(b2=b2/\0+1+(N-1)<=N/\N-1<=1000000)/\
     let s:=jD (wb (0+1) F2) (N-1)
     let l2:=[u8.wrap (jd s (2^8)),u8.wrap s]
     0+(1+1)<=l2.length/\(b2=b2/\N=N/\c2=c2/\N<=c2/\N+(1+1)<=1000000/\0<N+(1+1))/\∀b3 c3:Nat,N+(1+1)<=c3->
      K (.an [.raw (.slice (some ⟨b3,0,none⟩) (N+(1+1)) c3),.int .i64 0]) [] [.aZ u,.row ⟨N+(1+1),cj N F2 (da l2),b3,c3⟩])
theorem ajq (u:ae) (b o n c:Nat) (K:VK CG):mH Q6 191 [.raw (.slice (some ⟨b,o,none⟩) n c)] [] [.aZ u] (br 0 K)=ZT u b o n K:=by kernel_rfl
theorem ajr (b o n c:Nat) (f:Nat->Int) (hn:n<=32) (w:ae) (hB:cd w b o n f):
 aS prog 191 #[.slice (some ⟨b,o,none⟩) n c] w λv w1=>∃b c1,v=.tuple #[.slice (some ⟨b,0,none⟩) (n+5) c1,.int .i64 0]/\n+5<=c1/\w.heap.size<=b/\w1.heap[b]?=some (.cells (bD (n+5) (nA n f) c1) 5 (0,0))/\Ch [] w w1:=by
 have hL:aC prog cU Q6:=aC.cons ⟨ajo,λ_=>ajp⟩ aC.nil;have e1:i64.wrap (i64.wrap (3+(n:Int))+2)=((n+5:Nat):Int):=by simp[xw,tI,tJ];omega
 have e2:u8.wrap (n:Int)=n:=by simp[xw,tI,tJ];omega
 have h:mH Q6 191 [.raw (.slice (some ⟨b,o,none⟩) n c)] [] [.aZ w] (br 0 λv bl ch=>bl=[]/\∃b3 c3,n+5<=c3/\v=.an [.raw (.slice (some ⟨b3,0,none⟩) (n+5) c3),.int .i64 0]/\ch=[.aZ w,.row ⟨n+5,nA n f,b3,c3⟩]):=by
  rw[ajq];unfold ZT;dsimp only;rw[e1,e2,Int.toNat_natCast];refine aI (λh=>absurd (of_decide_eq_true h) (by omega)) λ_=>⟨⟨by omega,by omega⟩,λb0=>⟨dE 3,⟨rfl,rfl,rfl,by omega,by omega,by omega⟩,λb1 c1 h1=>⟨f,hB,⟨rfl,rfl,rfl,h1,by omega,by omega⟩,λb2 c2 h2=>⟨⟨by omega,h2⟩,⟨rfl,by omega,by omega⟩,dE 2,⟨rfl,rfl,rfl,h2,by omega,by omega⟩,λb3 c3 h3=>⟨rfl,b3,c3,by omega,?_,?_⟩⟩⟩⟩⟩
  ·rw[show 0+(2+1)+n+(1+1)=n+5 by omega]
  ·rw[show 0+(2+1)+n+(1+1)=n+5 by omega,show 0+(2+1)+n=3+n by omega,AR 0];rfl
 refine(yD hL h).mono ?_;rintro v w' ⟨x,ids,bl,ch,rfl,hl,S,rfl,b3,c3,hc,rfl,rfl⟩;exact⟨b3,c3,rfl,hc,Qh (l:=[.aZ w]) S,F8 (l:=[.aZ w]) S,S.ch⟩
def k7 (r:Sd.Rec):Nat->Int:=(dp (dp (dp (dp (dp (dp (λ_=>0) 0 1 (aK 1 ((u64.wrap r.kind)%256))) 1 1 (aK 1 ((u64.wrap r.source)%256))) 2 4 (aK 4 ((u64.wrap r.seq)%4294967296))) 6 2 (aK 2 ((u64.wrap r.af)%65536))) 8 1 (aK 1 ((u64.wrap r.code)%256))) 9 1 (aK 1 ((u64.wrap r.how)%256)))
def wz (h:Nat->Int) (r:Sd.Rec):Nat->Int:=iP (32+10) (cj 32 h (k7 r))
def Gq {G:Type}:(ba->V)->Op->List VB->List G->VK G->Prop:=λe op bl ch K=>match op with
 |.call c=>(match c.callee,c.args.toList,c.argTypes.toList with
  |.builtin .copy,[s,xs],[t,tx]=>(match prog.underlying t,e s,e xs with
   |some (.slice 5),.sl i o n c,.sl j 0 m c2=>(match bl[i]?,bl[j]?with
    |some ⟨true,⟨T,(0,0)⟩,l⟩,some ⟨_,⟨_,(0,0)⟩,l2⟩=>(match j9 l,j9 l2 with
     |some r,some r2=>cond (aq r2.length m&&(aq m n&&bu (o+m) r.length)) (K (.int .i64 (m:Int)) (bl.set i ⟨true,⟨T,(0,0)⟩,l.take o++(l2++l.drop (o+m))⟩) ch) False
     |_,_=>False)
    |_,_=>False)
   |_,_,_=>False)
  |_,_,_=>False)
 |_=>False
theorem Q7 (ids:List Nat):∀{l:List V} {r:List Int},j9 l=some r->l=r.map (V.int .u8)/\ah ids l=r.map (eg .u8)
 |[],r,h=>by cases h;exact⟨rfl,rfl⟩
 |v::l,r,h=>by
  unfold j9 at h;split at h
  ·rename_i e;cases e
  ·rename_i x l' e;obtain⟨rfl,rfl⟩:=vb e;split at h
   ·rename_i r' hr;cases h;obtain⟨h1,h2⟩:=Q7 ids hr;exact⟨by rw[h1];rfl,by simp only[ah,cl,den,h2,eH,Ex]⟩
   ·cases h
  ·cases h
theorem Q8 {G:Type} [Bl G] {gl:Nat->Option Nat}:fP (G:=G) prog gl Gq:=by
 intro e op ids bl ch R ms w0 w K ρ o hg hl S a9 ho h;unfold Gq at h;split at h
 ·rename_i c;split at h
  ·rename_i s xs t tx eQ cR dO;split at h
   ·rename_i i oo n cc j m c2 hu gw fN;split at h
    ·rename_i T l wr T2 l2 hb ji;split at h
     ·rename_i r r2 hr Ob;cases hq:aq r2.length m&&(aq m n&&bu (oo+m) r.length)with
      |false=>rw[hq]at h;exact h.elim
      |true=>
       rw[hq]at h;simp only[bg]at hq;obtain rfl:=ck hq.1;obtain rfl:=ck hq.2.1;have hle:=du hq.2.2;obtain⟨nq,ar,iy⟩:=c;simp only at eQ cR dO;have e2:ar=#[s,xs]:=by rw[<-cR]
       have e3:iy=#[t,tx]:=by rw[<-dO]
       subst eQ e2 e3;obtain⟨q1,q2⟩:=Q7 ids hr;obtain⟨q3,q4⟩:=Q7 ids Ob;have aM:=(fE hl S hb).2;have oh:=(fE hl S ji).2;have hj:=(fE hl S hb).1;have bG:=run_copy_row (P:=prog) w t tx o.type 5 (ids.getD i 0) oo r2.length cc ⟨ids.getD j 0,0,none⟩ r2.length c2 (ah ids l).toArray T (ah ids l2) hu (by kernel_rfl) aM (by rw[q4];simp) (λk v hk=>by
        rw[iE,cell_of oh];simpa using hk) (by rw[q4,q2];simpa using hle) (λv hv=>by
        rw[q4]at hv;obtain⟨x,_,rfl⟩:=mn.1 hv;rfl)
       have hex:=Jb (P:=prog) (ρ:=ρ) (o:=o) ho (sv:=.slice (some ⟨ids.getD i 0,oo,none⟩) r2.length cc) (xv:=.slice (some ⟨ids.getD j 0,0,none⟩) r2.length c2) (by rw[a9,gw];rfl) (by rw[a9,fN];rfl) bG;have hlen:(ah ids l2).length=r2.length:=by rw[q4];simp
       rw[hlen]at hex;refine⟨.int .i64 (r2.length:Int),[],_,_,_,.inl hex,by simpa using hl,?_,h⟩;simp only[cQ];have fG:=S.step hj rfl (Ch.setRow w _ _) (setRow_heap w (ids.getD i 0) (ah ids l).toArray (((ah ids l).toArray.toList.take oo++ah ids l2++(ah ids l).toArray.toList.drop (oo+r2.length)).toArray) T (0,0) aM);have j3:i<(lits ids ids bl).length:=by rw[xZ ids bl hl];rcases cN i bl.length with h'|h';exact h';simp[h']at hb
       rw[<-x_ (ids:=ids) ids bl i _ hl,<-List.set_append_left _ _ j3];have e5:(ah ids (l.take oo++(l2++l.drop (oo+r2.length)))).toArray=((ah ids l).toArray.toList.take oo++ah ids l2++(ah ids l).toArray.toList.drop (oo+r2.length)).toArray:=by
        have:∀q:List Int,ah ids (q.map (V.int .u8))=q.map (eg .u8):=λq=>by
         induction q with
         |nil=>rfl
         |cons x q ih=>simp only[eH,ah,cl,den,ih,Ex]
        rw[iG,iG,q2,q4,q1,<-List.map_take,<-List.map_drop,this,this,bR,List.map_take,List.map_drop]
       simp only[az,e5];exact fG
     ·exact h.elim
    ·exact h.elim
   ·exact h.elim
  ·exact h.elim
 ·exact h.elim
def rI (x m:Int):Int:=bits .and .u64 (u64.wrap x) m
def yG (k:Nat) (x m:Int) (X:Prop):Prop:=(0<=rI x m/\rI x m<2^(8*k))/\X
def ajs (a b c d e f:Int) (K:VK Empty):Prop:=
 yG 1 a 255 (yG 1 b 255 (yG 4 c 4294967295 (yG 2 d 65535 (yG 1 e 255 (yG 1 f 255
  (K (.agg (ints 1 (aK 1 (rI a 255))++(ints 1 (aK 1 (rI b 255))++(ints 4 (aK 4 (rI c 4294967295))++(ints 2 (aK 2 (rI d 65535))++(ints 1 (aK 1 (rI e 255))++ints 1 (aK 1 (rI f 255)))))))) [] []))))))
theorem ajt (a b c d e f:Int) (K:VK Empty):bo (fA prog cU (Dd Empty) Gq Q8) 60 105 [.agg [.int .i64 a,.int .i64 b,.int .i64 c,.int .i64 d,.int .i64 e,.int .i64 f]] [] [] (br 0 K)=ajs a b c d e f K:=by
 kernel_rfl
theorem Dr {k j:Nat} {x m d:Int} {X:Prop} (hm:m=2^j-1) (hd:d=2^j) (hj:j<64) (hk:d=2^(8*k)) (hX:X):yG k x m X:=by
 unfold yG rI;have h0:0<d:=by rw[hd];exact Int.pow_pos (by decide)
 rw[qI .u64 _ m d j hm hd hj];exact⟨⟨Int.emod_nonneg _ (by omega),hk▸Int.emod_lt_of_pos _ h0⟩,hX⟩
theorem aju (r:Sd.Rec) (w:ae):
 aS prog 105 #[.agg (recC r)] w λv w1=>v=.agg #[.int .u8 (k7 r 0),.int .u8 (k7 r 1),.int .u8 (k7 r 2),.int .u8 (k7 r 3),.int .u8 (k7 r 4),.int .u8 (k7 r 5),.int .u8 (k7 r 6),.int .u8 (k7 r 7),.int .u8 (k7 r 8),.int .u8 (k7 r 9)]/\Ch [] w w1:=by
 have m1:∀x,rI x 255=u64.wrap x%256:=λx=>qI .u64 _ 255 256 8 (by decide) (by decide) (by decide);have m2:∀x,rI x 65535=u64.wrap x%65536:=λx=>qI .u64 _ 65535 65536 16 (by decide) (by decide) (by decide);have m4:∀x,rI x 4294967295=u64.wrap x%4294967296:=λx=>qI .u64 _ 4294967295 4294967296 32 (by decide) (by decide) (by decide);have h:pH (bo (fA prog cU (Dd Empty) Gq Q8) 60 105 [.agg [.int .i64 r.kind,.int .i64 r.source,.int .i64 r.seq,.int .i64 r.af,.int .i64 r.code,.int .i64 r.how]] [] [] (br 0 λv _ _=>v=.agg (ints 10 (k7 r)))):=by
  rw[ajt];constructor;refine Dr (j:=8) (d:=256) rfl rfl (by decide) rfl (Dr (j:=8) (d:=256) rfl rfl (by decide) rfl (Dr (j:=32) (d:=4294967296) rfl rfl (by decide) rfl (Dr (j:=16) (d:=65536) rfl rfl (by decide) rfl (Dr (j:=8) (d:=256) rfl rfl (by decide) rfl (Dr (j:=8) (d:=256) rfl rfl (by decide) rfl ?_)))));rw[m1,m1,m1,m1,m2,m4];show V.agg _=V.agg _;kernel_rfl
 refine(Qc (G:=Empty) (L:=Dd Empty) (h:=Gq) (hok:=Q8) YR h).mono ?_;rintro v w' ⟨y,ids,bl,ch,rfl,hl,S,rfl⟩;exact⟨by kernel_rfl,S.ch⟩
theorem ajv (h:Nat->Int) (r:Sd.Rec) {tG:aG} (w:ae) (hG:w.heap[1]?=some (.cells (au .u32 64 cH) tG (0,0))):
 aS prog 66 #[.agg (au .u8 32 h),.agg (recC r)] w λv w1=>v=.agg (au .u8 32 (wz h r))/\Ch [] w w1:=by
 have S0:=St.given (w:=w) [(1,.cells (au .u32 64 cH) tG (0,0))] (all_cons hG (all_nil));refine iL Tryz.func66 rfl ?_;refine aQ (aX ?_);refine eE S0 (λb=>.pointer (some ⟨b,0,none⟩)) (.cells (au .u8 32 h) 37) ?_;intro bE hY dB;refine eE dB (λb=>.pointer (some ⟨b,0,none⟩)) (.cells (recC r) 75) ?_;intro dq l7 cV;refine eE cV (λb=>.pointer (some ⟨b,0,none⟩)) (.cells (au .u8 32 (λ_=>0)) 37) ?_;intro sR zw8 iR;refine aT (aP (aQ (aX ?_)));refine jY iR 1 6 (recC r) dq 0 ?_;refine fu 105 #[.agg (recC r)] ?_;refine(aju r _).mono ?_;rintro _ agz ⟨rfl,j7⟩;have pM:=iR.quiet j7;refine eE pM (λb=>.pointer (some ⟨b,0,none⟩)) (.cells (au .u8 10 (λ_=>0)) 202) ?_;intro Q9 aiS Qj;refine store_ Qj 0 (.agg (au .u8 10 (k7 r))) Q9 0 ?_;intro YB rq;refine aT (aP (aQ ?_));refine aeo 2 [.slice (some ⟨bE,0,none⟩) 32 32,.slice (some ⟨Q9,0,none⟩) 10 10] [[2,0],[2,1],[3,2,0],[3,2,1],[3,2],[4,0],[4,1],[4,2],[4,3]] (step_cons gX (step_cons gX (Ac))) ?_;intro AN Qn;have pO:=rq.quiet Qn;refine WT (x0:=some ⟨bE,0,none⟩) (T:=5) (n:=32) (c:=32) (m:=10) (f:=h) (g:=(k7 r)) (xv:=.slice (some ⟨Q9,0,none⟩) 10 10) pO (dL.Oi (St.eK (N:=32) (f:=h) (wr:=true) (t:=37) (fr:=(0,0)) pO 3) (by omega) (by omega)) (Ai (e':=5) (St.eK (N:=10) (f:=(k7 r)) (wr:=true) (t:=202) (fr:=(0,0)) pO 0)) (by omega) (by omega) ?_;intro vX AO Y3 sP ny;refine fu 106 #[.slice (some ⟨vX,0,none⟩) (32+10) AO] ?_;refine(PQ vX 0 (32+10) AO (cj 32 h (k7 r)) (by omega) _ (ny.at_ 5 _ rfl) (St.Ak (c:=AO) (wr:=true) (t:=5) (fr:=(0,0)) ny 0)).mono ?_;rintro _ YC ⟨rfl,j8⟩;have FT:=ny.quiet j8;refine store_ FT 2 (.agg (au .u8 32 (iP (32+10) (cj 32 h (k7 r))))) sR 0 ?_;intro Kj A0;refine aT (aP (gv ?_));refine gf rfl (fF [.cell 4 37] [.agg (au .u8 32 (iP (32+10) (cj 32 h (k7 r))))] (.agg (au .u8 32 (iP (32+10) (cj 32 h (k7 r))))) ⟨mu A0 2 32 sR 0,trivial⟩) ?_;exact⟨by kernel_rfl,A0.ch⟩
def Ds (N:Nat) (F:Nat->(Nat->Int)->Int->Int->(Nat->Int)->Nat->Int):c_ CG:=λargs bl ch K=>match args,ch with
 |[.raw (.slice ka kn kc),.int .i64 s,.int .i64 r,.agg l],.aZ u::_=>(match j9 l with
  |some q=>∃kf nc:Nat->Int,((1<=kn/\kn<=64)/\(0<=s/\s<4294967296)/\(0<=r/\r<4294967296)/\(∃tG,u.heap[1]?=some (.cells (au .u32 64 cH) tG (0,0)))/\dL u ka kn kc kf/\q.length=8/\∀j,j<8->da q j=nc j)/\K (.agg (ints N (F kn kf s r nc))) bl ch
  |none=>False)
 |_,_=>False
def Gs:c_ CG:=λargs bl ch K=>match args,ch with
 |[.raw (.slice ka kn kc),.int .i64 s,.int .i64 n],.aZ u::_=>∃kf:Nat->Int,((1<=kn/\kn<=64)/\(0<=s/\s<4294967296)/\(0<=n/\n<4294967296)/\(∃tG,u.heap[1]?=some (.cells (au .u32 64 cH) tG (0,0)))/\dL u ka kn kc kf)/\K (.agg (ints 8 (jk kn kf s n))) bl ch
 |_,_=>False
def Gt:c_ CG:=λargs bl ch K=>match args with
 |[.sl i 0 n c,.sl j 0 m c2]=>(match bl[i]?,bl[j]?with
  |some ⟨_,⟨_,(0,0)⟩,l⟩,some ⟨_,⟨_,(0,0)⟩,l2⟩=>(match j9 l,j9 l2 with
   |some q,some q2=>∃f g:Nat->Int,(q.length=n/\q2.length=n/\m=n/\n<=1000000/\(∀j,j<n->da q j=f j)/\∀j,j<n->da q2 j=g j)/\K (.bool (ou n f g)) bl ch
   |_,_=>False)
  |_,_=>False)
 |_=>False
def ma (m:Int) (b:Bool) (nc:Nat->Int):List V:=.int .i64 m::.bool b::ints 8 nc
def yH:List (bK CG):=[⟨15,true,Gs⟩,⟨16,true,Ds 8 jR⟩,⟨37,true,Ds 32 iz⟩,⟨192,true,Gt⟩]
theorem ajw {ids:List Nat} {l:List V} {q:List Int} {m:Nat} {g:Nat->Int} (h:j9 l=some q) (hq:q.length=m) (hg:∀j,j<m->da q j=g j):den ids (.agg l)=.agg (au .u8 m g):=by
 simp only[den,wa ids h,hq];rw[E0 hg];rfl
theorem ZU {ids:List Nat} {bl:List VB} {u w w0:ae} {rest:List CG} {R:List ai} {ms:List Nat} (S:St ms w0 (lits ids ids bl++ax (CG.aZ u::rest) R) w) {a:Option aO} {n c:Nat} {f:Nat->Int} (h:dL u a n c f):dL w a n c f:=by
 refine⟨h.1,h.2.1,h.2.2.1,λx e j hj=>?_⟩;have h1:=h.2.2.2 x e j hj;unfold xu at h1⊢;cases hh:u.heap[(x.add j).block]?with
 |none=>simp[hh]at h1
 |some ob=>
  have:w.heap[(x.add j).block]?=some ob:=S.at' (x:=⟨(x.add j).block,false,ob⟩) (Gj (J9 hh));simp only[hh,this]at h1⊢;exact h1
theorem ZV {gl:Nat->Option Nat} {N:Nat} {F:Nat->(Nat->Int)->Int->Int->(Nat->Int)->Nat->Int} {f:fc} (hF:∀(ka:Option aO) (kn kc:Nat) (kf:Nat->Int) (s r:Int) (nc:Nat->Int),1<=kn/\kn<=64->0<=s/\s<4294967296->0<=r/\r<4294967296->∀{tG:aG} (w:ae),w.heap[1]?=some (.cells (au .u32 64 cH) tG (0,0))->dL w ka kn kc kf->
 aS prog f #[.slice ka kn kc,.int .i64 s,.int .i64 r,.agg (au .u8 8 nc)] w λv w1=>v=.agg (au .u8 N (F kn kf s r nc))/\Ch [] w w1):Sound prog gl f (Ds N F):=by
 intro args ids bl ch R ms w0 w K hg hl S hc;unfold Ds at hc;split at hc
 ·rename_i ka kn kc s r l u rest;split at hc
  ·rename_i q hq;obtain⟨kf,nc,⟨hn,hs,hr,⟨tG,hG⟩,hk,h8,jx⟩,hK⟩:=hc;have ea:(aD ids [.raw (.slice ka kn kc),.int .i64 s,.int .i64 r,.agg l]).toArray=#[.slice ka kn kc,.int .i64 s,.int .i64 r,.agg (au .u8 8 nc)]:=by
    simp only[aD,ajw hq h8 jx];rfl
   rw[ea];refine(hF ka kn kc kf s r nc hn hs hr w (QC S hG) (ZU S hk)).mono ?_;rintro v w' ⟨rfl,cn⟩;exact⟨.agg (ints N (F kn kf s r nc)),[],bl,_,by simp only[den,yA],by simpa using hl,by simpa using S.quiet cn,hK⟩
  ·exact hc.elim
 ·exact hc.elim
theorem ZW {N:Nat} {F:Nat->(Nat->Int)->Int->Int->(Nat->Int)->Nat->Int}:hJ (Ds N F):=by
 intro args bl ch K hc;unfold Ds at hc⊢;split at hc
 ·split at hc
  ·obtain⟨kf,nc,h,hK⟩:=hc;exact⟨kf,nc,h,hK,[],by simp⟩
  ·exact hc.elim
 ·exact hc.elim
theorem ajx {gl:Nat->Option Nat}:Sound prog gl 15 Gs:=by
 intro args ids bl ch R ms w0 w K hg hl S hc;unfold Gs at hc;split at hc
 ·rename_i ka kn kc s n u rest;obtain⟨kf,⟨hn,hs,hr,⟨tG,hG⟩,hk⟩,hK⟩:=hc;refine(agQ ka kn kc kf s n hn hs hr w (QC S hG) (ZU S hk)).mono ?_;rintro v w' ⟨rfl,cn⟩;exact⟨.agg (ints 8 (jk kn kf s n)),[],bl,_,by simp only[den,yA],by simpa using hl,by simpa using S.quiet cn,hK⟩
 ·exact hc.elim
theorem ajy:hJ Gs:=by
 intro args bl ch K hc;unfold Gs at hc⊢;split at hc
 ·obtain⟨kf,h,hK⟩:=hc;exact⟨kf,h,hK,[],by simp⟩
 ·exact hc.elim
theorem ZX {ids:List Nat} {bl:List VB} {X:List ai} {ms:List Nat} {w0 w:ae} (hl:ids.length=bl.length) (S:St ms w0 (lits ids ids bl++X) w) {i n:Nat} {b:VB} {q:List Int} {f:Nat->Int} (hb:bl[i]?=some b) (h:j9 b.c=some q) (hq:q.length=n) (hf:∀j,j<n->da q j=f j):cd w (ids.getD i 0) 0 n f:=λj hj=>by
 have aM:=(fE hl S hb).2;rw[cell_of aM,wa ids h,eD];simp only[jt];rw[qT _ (by omega),hf j hj]
theorem ajz {gl:Nat->Option Nat}:Sound prog gl 192 Gt:=by
 intro args ids bl ch R ms w0 w K hg hl S hc;unfold Gt at hc;split at hc
 ·rename_i i n c j m c2;split at hc
  ·rename_i w1 t1 l w2 t2 l2 hb ji;split at hc
   ·rename_i q q2 hq hq2;obtain⟨f,g,⟨e1,e2,rfl,hn,hf,Gu⟩,hK⟩:=hc;refine(YJ (ids.getD i 0) 0 m c (ids.getD j 0) 0 c2 f g hn w (ZX hl S hb hq e1 hf) (ZX hl S ji hq2 e2 Gu)).mono ?_;rintro v w' ⟨rfl,cn⟩;exact⟨.bool (ou m f g),[],bl,_,rfl,by simpa using hl,by simpa using S.quiet cn,hK⟩
   ·exact hc.elim
  ·exact hc.elim
 ·exact hc.elim
theorem ajA:hJ Gt:=by
 intro args bl ch K hc;unfold Gt at hc⊢;split at hc
 ·split at hc
  ·split at hc
   ·obtain⟨f,g,h,hK⟩:=hc;rename_i e1 e2;simp only[e1,e2];exact⟨f,g,h,hK,[],by simp⟩
   ·exact hc.elim
  ·exact hc.elim
 ·exact hc.elim
theorem Gv:aC prog cU yH:=aC.cons ⟨ajx,λ_=>ajy⟩ (aC.cons ⟨ZV λka kn kc kf s r nc h1 h2 h3 _ w hG hk=>ahd ka kn kc kf s r nc h1 h2 h3 w hG hk,λ_=>ZW⟩ (aC.cons ⟨ZV λka kn kc kf s r nc h1 h2 h3 _ w hG hk=>ahe ka kn kc kf s r nc h1 h2 h3 w hG hk,λ_=>ZW⟩ (aC.cons ⟨ajz,λ_=>ajA⟩ aC.nil)))
section
variable(u:ae) (m s r:Int) (b:Bool) (nc pf:Nat->Int) (ka:Option aO) (kn kc:Nat) (K:VK CG)
def ZY:Prop:=
 let m1:=i64.wrap (m+1)
 cond (decide (m>=4294967295)) (K (.an [.agg (ma m b nc),.int .i64 24]) [] [.aZ u]) (∃kf:Nat->Int,((1<=kn/\kn<=64)/\(0<=s/\s<4294967296)/\(0<=m1/\m1<4294967296)/\(∃tG,u.heap[1]?=some (.cells (au .u32 64 cH) tG (0,0)))/\dL u ka kn kc kf)/\K (.an [.agg (ma m1 true (jk kn kf s m1)),.int .i64 0]) [] [.aZ u])
theorem ZZ:mH yH 146 [.agg (ma m b nc),.raw (.slice ka kn kc),.int .i64 s] [] [.aZ u] (br 0 K)=ZY u m s b nc ka kn kc K:=by kernel_rfl
def Ks (kf n1:Nat->Int):Prop:=(1<=kn/\kn<=64)/\(0<=s/\s<4294967296)/\(0<=r/\r<4294967296)/\(∃tG,u.heap[1]?=some (.cells (au .u32 64 cH) tG (0,0)))/\dL u ka kn kc kf/\((bd 8).map nc).length=8/\∀j,j<8->da ((bd 8).map nc) j=n1 j
def Kt:Prop:=
 let no (c:Int):Prop:=K (.an [.agg (ma m false λ_=>0),.agg (ints 32 λ_=>0),.int .i64 c]) [] [.aZ u]
 cond (!b) (K (.an [.agg (ma m b nc),.agg (ints 32 λ_=>0),.int .i64 17]) [] [.aZ u])
  (∃kf n1:Nat->Int,Ks u s r nc ka kn kc kf n1/\∃f g:Nat->Int,(((bd 8).map pf).length=8/\((bd 8).map (jR kn kf s r n1)).length=8/\8=8/\8<=1000000/\(∀j,j<8->da ((bd 8).map pf) j=f j)/\∀j,j<8->da ((bd 8).map (jR kn kf s r n1)) j=g j)/\
   cond (!(ou 8 f g)) (no 14) (∃Z0 n2:Nat->Int,Ks u s r nc ka kn kc Z0 n2/\K (.an [.agg (ma m false λ_=>0),.agg (ints 32 (iz kn Z0 s r n2)),.int .i64 0]) [] [.aZ u]))
theorem Q_:mH yH 148 [.agg (ma m b nc),.raw (.slice ka kn kc),.int .i64 s,.int .i64 r,.agg (ints 8 pf)] [] [.aZ u] (br 0 K)=Kt u m s r b nc pf ka kn kc K:=by kernel_rfl
end
def wA (kn:Nat) (kf:Nat->Int) (s r:Int) (nc pf:Nat->Int):Bool:=ou 8 pf (jR kn kf s r nc)
theorem ajB (ka:Option aO) (kn kc:Nat) (kf:Nat->Int) (s:Int) (d:Sd.dT) (hd:4294967295<=d.many) (Gw:d.many<=9223372036854775807) (w:ae):
 aS prog 146 #[.agg #[.int .i64 d.many,.bool d.g_,.int .u8 (d.aw 0),.int .u8 (d.aw 1),.int .u8 (d.aw 2),.int .u8 (d.aw 3),.int .u8 (d.aw 4),.int .u8 (d.aw 5),.int .u8 (d.aw 6),.int .u8 (d.aw 7)],.slice ka kn kc,.int .i64 s] w λv w1=>v=.tuple #[.agg #[.int .i64 d.many,.bool d.g_,.int .u8 (d.aw 0),.int .u8 (d.aw 1),.int .u8 (d.aw 2),.int .u8 (d.aw 3),.int .u8 (d.aw 4),.int .u8 (d.aw 5),.int .u8 (d.aw 6),.int .u8 (d.aw 7)],.int .i64 24]/\Ch [] w w1:=by
 have h:mH yH 146 [.agg (ma d.many d.g_ d.aw),.raw (.slice ka kn kc),.int .i64 s] [] [.aZ w] (br 0 λv _ _=>v=.an [.agg (ma d.many d.g_ d.aw),.int .i64 24]):=by
  rw[ZZ];exact aI (λ_=>rfl) λh=>absurd (of_decide_eq_false h) (by omega)
 refine(yD Gv h).mono ?_;rintro v w' ⟨x,ids,bl,ch,rfl,hl,S,rfl⟩;exact⟨by kernel_rfl,S.ch⟩
theorem ajC (ka:Option aO) (kn kc:Nat) (kf:Nat->Int) (s:Int) (d:Sd.dT) (kC:1<=kn/\kn<=64) (hs:0<=s/\s<4294967296) (hd:0<=d.many/\d.many<4294967295) {tG:aG} (w:ae) (hG:w.heap[1]?=some (.cells (au .u32 64 cH) tG (0,0))) (hk:dL w ka kn kc kf):
 aS prog 146 #[.agg #[.int .i64 d.many,.bool d.g_,.int .u8 (d.aw 0),.int .u8 (d.aw 1),.int .u8 (d.aw 2),.int .u8 (d.aw 3),.int .u8 (d.aw 4),.int .u8 (d.aw 5),.int .u8 (d.aw 6),.int .u8 (d.aw 7)],.slice ka kn kc,.int .i64 s] w λv w1=>v=.tuple #[.agg #[.int .i64 (d.many+1),.bool true,.int .u8 ((jk kn kf s (d.many+1)) 0),.int .u8 ((jk kn kf s (d.many+1)) 1),.int .u8 ((jk kn kf s (d.many+1)) 2),.int .u8 ((jk kn kf s (d.many+1)) 3),.int .u8 ((jk kn kf s (d.many+1)) 4),.int .u8 ((jk kn kf s (d.many+1)) 5),.int .u8 ((jk kn kf s (d.many+1)) 6),.int .u8 ((jk kn kf s (d.many+1)) 7)],.int .i64 0]/\Ch [] w w1:=by
 have e:i64.wrap (d.many+1)=d.many+1:=by simp[xw,tI,tJ];omega
 have h:mH yH 146 [.agg (ma d.many d.g_ d.aw),.raw (.slice ka kn kc),.int .i64 s] [] [.aZ w] (br 0 λv _ _=>v=.an [.agg (ma (d.many+1) true (jk kn kf s (d.many+1))),.int .i64 0]):=by
  rw[ZZ];unfold ZY;dsimp only;rw[e];exact aI (λh=>absurd (of_decide_eq_true h) (by omega)) λ_=>⟨kf,⟨kC,hs,by omega,⟨tG,hG⟩,hk⟩,rfl⟩
 refine(yD Gv h).mono ?_;rintro v w' ⟨x,ids,bl,ch,rfl,hl,S,rfl⟩;exact⟨by kernel_rfl,S.ch⟩
theorem ajD (ka:Option aO) (kn kc:Nat) (kf:Nat->Int) (s r:Int) (d:Sd.dT) (pf:Nat->Int) (ho:d.g_=false) (w:ae):
 aS prog 148 #[.agg #[.int .i64 d.many,.bool d.g_,.int .u8 (d.aw 0),.int .u8 (d.aw 1),.int .u8 (d.aw 2),.int .u8 (d.aw 3),.int .u8 (d.aw 4),.int .u8 (d.aw 5),.int .u8 (d.aw 6),.int .u8 (d.aw 7)],.slice ka kn kc,.int .i64 s,.int .i64 r,.agg (au .u8 8 pf)] w λv w1=>v=.tuple #[.agg #[.int .i64 d.many,.bool d.g_,.int .u8 (d.aw 0),.int .u8 (d.aw 1),.int .u8 (d.aw 2),.int .u8 (d.aw 3),.int .u8 (d.aw 4),.int .u8 (d.aw 5),.int .u8 (d.aw 6),.int .u8 (d.aw 7)],.agg (au .u8 32 (λ_=>0)),.int .i64 17]/\Ch [] w w1:=by
 have h:mH yH 148 [.agg (ma d.many d.g_ d.aw),.raw (.slice ka kn kc),.int .i64 s,.int .i64 r,.agg (ints 8 pf)] [] [.aZ w] (br 0 λv _ _=>v=.an [.agg (ma d.many d.g_ d.aw),.agg (ints 32 λ_=>0),.int .i64 17]):=by
  rw[Q_];unfold Kt;dsimp only;exact aI (λ_=>rfl) λh=>by rw[ho]at h;cases h
 refine(yD Gv h).mono ?_;rintro v w' ⟨x,ids,bl,ch,rfl,hl,S,rfl⟩;exact⟨by kernel_rfl,S.ch⟩
theorem ajE (ka:Option aO) (kn kc:Nat) (kf:Nat->Int) (s r:Int) (d:Sd.dT) (pf:Nat->Int) (kC:1<=kn/\kn<=64) (hs:0<=s/\s<4294967296) (wC:0<=r/\r<4294967296) (ho:d.g_=true) (hr:wA kn kf s r d.aw pf=false) {tG:aG} (w:ae) (hG:w.heap[1]?=some (.cells (au .u32 64 cH) tG (0,0))) (hk:dL w ka kn kc kf):
 aS prog 148 #[.agg #[.int .i64 d.many,.bool d.g_,.int .u8 (d.aw 0),.int .u8 (d.aw 1),.int .u8 (d.aw 2),.int .u8 (d.aw 3),.int .u8 (d.aw 4),.int .u8 (d.aw 5),.int .u8 (d.aw 6),.int .u8 (d.aw 7)],.slice ka kn kc,.int .i64 s,.int .i64 r,.agg (au .u8 8 pf)] w λv w1=>v=.tuple #[.agg #[.int .i64 d.many,.bool false,.int .u8 0,.int .u8 0,.int .u8 0,.int .u8 0,.int .u8 0,.int .u8 0,.int .u8 0,.int .u8 0],.agg (au .u8 32 (λ_=>0)),.int .i64 14]/\Ch [] w w1:=by
 have h:mH yH 148 [.agg (ma d.many d.g_ d.aw),.raw (.slice ka kn kc),.int .i64 s,.int .i64 r,.agg (ints 8 pf)] [] [.aZ w] (br 0 λv _ _=>v=.an [.agg (ma d.many false λ_=>0),.agg (ints 32 λ_=>0),.int .i64 14]):=by
  rw[Q_];unfold Kt;dsimp only;have hp:=(⟨kC,hs,wC,⟨tG,hG⟩,hk,by simp,λj hj=>yE hj⟩:Ks w s r d.aw ka kn kc kf d.aw);exact aI (λh=>by rw[ho]at h;cases h) λ_=>⟨kf,d.aw,hp,⟨pf,jR kn kf s r d.aw,⟨by simp,by simp,rfl,by decide,λj hj=>yE hj,λj hj=>yE hj⟩,aI (λ_=>rfl) λh=>by rw[show ou 8 pf (jR kn kf s r d.aw)=false from hr]at h;cases h⟩⟩
 refine(yD Gv h).mono ?_;rintro v w' ⟨x,ids,bl,ch,rfl,hl,S,rfl⟩;exact⟨by kernel_rfl,S.ch⟩
theorem ajF (ka:Option aO) (kn kc:Nat) (kf:Nat->Int) (s r:Int) (d:Sd.dT) (pf:Nat->Int) (kC:1<=kn/\kn<=64) (hs:0<=s/\s<4294967296) (wC:0<=r/\r<4294967296) (ho:d.g_=true) (hr:wA kn kf s r d.aw pf=true) {tG:aG} (w:ae) (hG:w.heap[1]?=some (.cells (au .u32 64 cH) tG (0,0))) (hk:dL w ka kn kc kf):
 aS prog 148 #[.agg #[.int .i64 d.many,.bool d.g_,.int .u8 (d.aw 0),.int .u8 (d.aw 1),.int .u8 (d.aw 2),.int .u8 (d.aw 3),.int .u8 (d.aw 4),.int .u8 (d.aw 5),.int .u8 (d.aw 6),.int .u8 (d.aw 7)],.slice ka kn kc,.int .i64 s,.int .i64 r,.agg (au .u8 8 pf)] w λv w1=>v=.tuple #[.agg #[.int .i64 d.many,.bool false,.int .u8 0,.int .u8 0,.int .u8 0,.int .u8 0,.int .u8 0,.int .u8 0,.int .u8 0,.int .u8 0],.agg (au .u8 32 (iz kn kf s r d.aw)),.int .i64 0]/\Ch [] w w1:=by
 have h:mH yH 148 [.agg (ma d.many d.g_ d.aw),.raw (.slice ka kn kc),.int .i64 s,.int .i64 r,.agg (ints 8 pf)] [] [.aZ w] (br 0 λv _ _=>v=.an [.agg (ma d.many false λ_=>0),.agg (ints 32 (iz kn kf s r d.aw)),.int .i64 0]):=by
  rw[Q_];unfold Kt;dsimp only;have hp:=(⟨kC,hs,wC,⟨tG,hG⟩,hk,by simp,λj hj=>yE hj⟩:Ks w s r d.aw ka kn kc kf d.aw);exact aI (λh=>by rw[ho]at h;cases h) λ_=>⟨kf,d.aw,hp,⟨pf,jR kn kf s r d.aw,⟨by simp,by simp,rfl,by decide,λj hj=>yE hj,λj hj=>yE hj⟩,aI (λh=>by rw[show ou 8 pf (jR kn kf s r d.aw)=true from hr]at h;cases h) λ_=>⟨kf,d.aw,hp,rfl⟩⟩⟩
 refine(yD Gv h).mono ?_;rintro v w' ⟨x,ids,bl,ch,rfl,hl,S,rfl⟩;exact⟨by kernel_rfl,S.ch⟩
def dM (z:Sd.gx) (n:Int):Sd.gx:=
 if z.any=false then⟨true,n,1⟩
 else if z.high<n then⟨true,n,bits .or .u64 (u64.wrap (z.seen*2^(min (n-z.high).toNat 64))) 1⟩
 else if z.high-n<64 then⟨true,z.high,bits .or .u64 z.seen (u64.wrap ((1:Int)*2^(min (z.high-n).toNat 64)))⟩
 else z
def Gx (x y:Sd.gx):Bool:=!((x.any==y.any)&&((x.high==y.high)&&((x.seen==y.seen)&&true)))
theorem Z3 (x y:Sd.gx):Gx x y=false↔x=y:=by
 obtain⟨a,b,c⟩:=x;obtain⟨d,e,f⟩:=y;simp[Gx]
theorem ajG (z:Sd.gx) (n:Int) (h0:0<=z.high/\z.high<=4294967295) (h1:0<=n/\n<=4294967295) (w:ae):
 aS prog 194 #[.agg (iS z),.int .i64 n] w λv w1=>v=.agg (iS (dM z n))/\Ch [] w w1:=by
 have S0:=St.nil [] w;refine iL Tryz.func194 rfl ?_;refine aQ (aX ?_);refine eE S0 (λb=>.pointer (some ⟨b,0,none⟩)) (.cells (iS z) 152) ?_;intro bE hY dB;refine eE dB (λb=>.pointer (some ⟨b,0,none⟩)) (.cells #[.bool false,.int .i64 0,.int .u64 0] 152) ?_;intro dq l7 cV;refine aT (aP (aQ (jc (aQ (aX ?_)))));refine ak (.int .i64 n) ?_;refine n_ (.bool (decide (n<0))) (.bool false) (congrArg Ce (NK (by omega))) ?_;refine ak (.bool false) ?_;refine ak (.int .i64 n) ?_;refine n_ (.bool (decide (4294967295<n))) (.bool false) (congrArg Ce (NK (by omega))) ?_;refine ak (.bool false) ?_;refine ak (.bool false) ?_;refine aT (aP (oY ?_));refine aQ (aX ?_);refine ak (.pointer (some ⟨bE,0,none⟩)) ?_;refine oX cV 1 (.bool z.any) bE 0 ?_;refine ak (.bool (!z.any)) ?_;refine ak (.bool (!z.any)) ?_;refine aT (aP ?_);refine rZ (!z.any) ?_ ?_
 ·intro v8;have ov:=NN v8;refine aX ?_;refine ak (.int .i64 n) ?_;refine ak (.agg #[.bool true,.int .i64 n,.int .u64 1]) ?_;refine store_ cV 1 (.agg #[.bool true,.int .i64 n,.int .u64 1]) bE 0 ?_;intro YA Dg;refine aT (lq (aP (aQ (aX ?_))));refine jY Dg 1 3 #[.bool true,.int .i64 n,.int .u64 1] bE 0 ?_;refine store_ Dg 0 (.agg #[.bool true,.int .i64 n,.int .u64 1]) dq 0 ?_;intro Yw pM;refine aT (aP (gv ?_));refine gf rfl (fF [.cell 4 152] [.agg #[.bool true,.int .i64 n,.int .u64 1]] (.agg #[.bool true,.int .i64 n,.int .u64 1]) ⟨mu pM 0 3 dq 0,trivial⟩) ?_;have ze:dM z n=(⟨true,n,1⟩:Sd.gx):=by unfold dM;(repeat' split)<;>first|rfl|omega|(simp_all;done)|(simp_all;omega)|(cases z;simp_all)
  exact⟨by(rw[ze])<;>rfl,pM.ch⟩
 intro mG;have ui:=NO mG;refine aQ (aX ?_);refine ak (.int .i64 n) ?_;refine ak (.pointer (some ⟨bE,1,none⟩)) ?_;refine oX cV 1 (.int .i64 z.high) bE 1 ?_;refine ak (.bool (decide (z.high<n))) ?_;refine fS ?_;refine aT (aP ?_);refine rZ (decide (z.high<n)) ?_ ?_
 ·intro kZ;have kE:=z6 kZ;refine aQ (aX ?_);refine ak (.pointer (some ⟨bE,2,none⟩)) ?_;refine oX cV 1 (.int .u64 z.seen) bE 2 ?_;refine ak (.int .i64 n) ?_;refine kO .u64 n (vg _ (by omega)) ?_;refine ak (.pointer (some ⟨bE,1,none⟩)) ?_;refine oX cV 1 (.int .i64 z.high) bE 1 ?_;refine kO .u64 z.high (vg _ (by omega)) ?_;refine kO .u64 (n-z.high) (vg _ (by omega)) ?_;refine Oj .u64 .u64 z.seen (n-z.high) (by omega) ?_;refine ak (.int .u64 (bits .or .u64 (u64.wrap (z.seen*2^(min ((n-z.high)).toNat 64))) 1)) ?_;refine ak (.pointer (some ⟨bE,2,none⟩)) ?_;refine store_ cV 1 (.int .u64 (bits .or .u64 (u64.wrap (z.seen*2^(min ((n-z.high)).toNat 64))) 1)) bE 2 ?_;intro av9 ajH;refine aT (aP (aX ?_));refine ak (.int .i64 n) ?_;refine ak (.pointer (some ⟨bE,1,none⟩)) ?_;refine store_ ajH 1 (.int .i64 n) bE 1 ?_;intro av_ ru;refine aT (lq (aP (aQ (aX ?_))));refine jY ru 1 3 #[.bool z.any,.int .i64 n,.int .u64 (bits .or .u64 (u64.wrap (z.seen*2^(min ((n-z.high)).toNat 64))) 1)] bE 0 ?_;refine store_ ru 0 (.agg #[.bool z.any,.int .i64 n,.int .u64 (bits .or .u64 (u64.wrap (z.seen*2^(min ((n-z.high)).toNat 64))) 1)]) dq 0 ?_;intro QX uk;refine aT (aP (gv ?_));refine gf rfl (fF [.cell 4 152] [.agg #[.bool z.any,.int .i64 n,.int .u64 (bits .or .u64 (u64.wrap (z.seen*2^(min ((n-z.high)).toNat 64))) 1)]] (.agg #[.bool z.any,.int .i64 n,.int .u64 (bits .or .u64 (u64.wrap (z.seen*2^(min ((n-z.high)).toNat 64))) 1)]) ⟨mu uk 0 3 dq 0,trivial⟩) ?_;have ze:dM z n=(⟨z.any,n,(bits .or .u64 (u64.wrap (z.seen*2^(min ((n-z.high)).toNat 64))) 1)⟩:Sd.gx):=by unfold dM;(repeat' split)<;>first|rfl|omega|(simp_all;done)|(simp_all;omega)|(cases z;simp_all)
  exact⟨by(rw[ze])<;>rfl,uk.ch⟩
 intro rv;have sP:=z7 rv;refine aQ (aX ?_);refine ak (.pointer (some ⟨bE,1,none⟩)) ?_;refine oX cV 1 (.int .i64 z.high) bE 1 ?_;refine ak (.int .i64 n) ?_;refine kO .i64 (z.high-n) (zV _ (by omega)) ?_;refine ak (.bool (decide ((z.high-n)<64))) ?_;refine fS ?_;refine aT (aP ?_);refine rZ (decide ((z.high-n)<64)) ?_ ?_
 ·intro FR;have pT:=z6 FR;refine Ad 7 [⟨0,λ_=>.pointer (some ⟨bE,2,none⟩),λ_=>[]⟩,⟨0,λ_=>.int .u64 z.seen,λ_=>[]⟩,⟨0,λ_=>.pointer (some ⟨bE,1,none⟩),λ_=>[]⟩,⟨0,λ_=>.int .i64 z.high,λ_=>[]⟩,⟨0,λ_=>.int .i64 n,λ_=>[]⟩,⟨0,λ_=>.int .i64 (z.high-n),λ_=>[]⟩,⟨0,λ_=>.int .u64 (u64.wrap ((1:Int)*2^(min ((z.high-n)).toNat 64))),λ_=>[]⟩] [[7,1,0],[7,1],[7,6,5,3,2],[7,6,5,3],[7,6,5,4],[7,6,5],[7,6],[8,0],[8,1],[8,2],[8,3],[8,4],[8,5],[8,6],[8,7],[9,0],[9,1],[9,2],[9,3],[9,4],[9,5],[9,6],[9,7],[9,8]] ?_ ?_
  ·refine step_cons gX ?_;refine step_cons (I3 cV 1 bE 2) ?_;refine step_cons gX ?_;refine step_cons (I3 cV 1 bE 1) ?_;refine step_cons gX ?_;refine step_cons (qS_ .i64 (z.high-n) (zV _ (by omega))) ?_;refine step_cons ?_ ?_
   ·intro ajI awa ajJ awb ajK;have rF:ajI 47=.int .i64 (z.high-n):=(Sp.dA (ajK 5 47 (by kernel_rfl) (by kernel_rfl))).1;have v3:=cV.quiet ajJ;refine o_ ?_;refine lR [(47,.int .i64 (z.high-n))] (lS rF (o8)) ?_;have Kg:=v3.loc;refine Y.Oj .u64 .i64 1 (z.high-n) (by omega) ?_;exact⟨Kg.ch,Sp.o9 [] (all_nil)⟩
   exact Ac
  intro A2 awc ajL A3;have sQ:A2 0=.pointer (some ⟨bE,2,none⟩):=(Sp.dA (A3 0 (by kernel_rfl))).1;have rH:A2 1=.int .u64 z.seen:=(Sp.dA (A3 1 (by kernel_rfl))).1;have pS:A2 2=.pointer (some ⟨bE,1,none⟩):=(Sp.dA (A3 2 (by kernel_rfl))).1;have F_:A2 3=.int .i64 z.high:=(Sp.dA (A3 3 (by kernel_rfl))).1;have FU:A2 4=.int .i64 n:=(Sp.dA (A3 4 (by kernel_rfl))).1;have Ra:A2 5=.int .i64 (z.high-n):=(Sp.dA (A3 5 (by kernel_rfl))).1;have Rb:A2 6=.int .u64 (u64.wrap ((1:Int)*2^(min ((z.high-n)).toNat 64))):=(Sp.dA (A3 6 (by kernel_rfl))).1;have yC:=cV.quiet ajL;refine⟨[.pointer (some ⟨bE,2,none⟩),.int .u64 z.seen,.pointer (some ⟨bE,1,none⟩),.int .i64 z.high,.int .i64 n,.int .i64 (z.high-n),.int .u64 (u64.wrap ((1:Int)*2^(min ((z.high-n)).toNat 64)))],by kernel_rfl,dS sQ (dS rH (dS pS (dS F_ (dS FU (dS Ra (dS Rb (Cr))))))),?_⟩;refine ak (.int .u64 (bits .or .u64 z.seen (u64.wrap ((1:Int)*2^(min ((z.high-n)).toNat 64))))) ?_;refine ak (.pointer (some ⟨bE,2,none⟩)) ?_;refine store_ yC 1 (.int .u64 (bits .or .u64 z.seen (u64.wrap ((1:Int)*2^(min ((z.high-n)).toNat 64))))) bE 2 ?_;intro ajM Ku;refine aT (lq (aP (aQ (aX ?_))));refine jY Ku 1 3 #[.bool z.any,.int .i64 z.high,.int .u64 (bits .or .u64 z.seen (u64.wrap ((1:Int)*2^(min ((z.high-n)).toNat 64))))] bE 0 ?_;refine store_ Ku 0 (.agg #[.bool z.any,.int .i64 z.high,.int .u64 (bits .or .u64 z.seen (u64.wrap ((1:Int)*2^(min ((z.high-n)).toNat 64))))]) dq 0 ?_;intro YF Z4;refine aT (aP (gv ?_));refine gf rfl (fF [.cell 4 152] [.agg #[.bool z.any,.int .i64 z.high,.int .u64 (bits .or .u64 z.seen (u64.wrap ((1:Int)*2^(min ((z.high-n)).toNat 64))))]] (.agg #[.bool z.any,.int .i64 z.high,.int .u64 (bits .or .u64 z.seen (u64.wrap ((1:Int)*2^(min ((z.high-n)).toNat 64))))]) ⟨mu Z4 0 3 dq 0,trivial⟩) ?_;have ze:dM z n=(⟨z.any,z.high,(bits .or .u64 z.seen (u64.wrap ((1:Int)*2^(min ((z.high-n)).toNat 64))))⟩:Sd.gx):=by unfold dM;(repeat' split)<;>first|rfl|omega|(simp_all;done)|(simp_all;omega)|(cases z;simp_all)
  exact⟨by(rw[ze])<;>rfl,Z4.ch⟩
 intro ajN;have Db:=z7 ajN;refine jI (lq (aP (aQ (aX ?_))));refine jY cV 1 3 (iS z) bE 0 ?_;refine store_ cV 0 (.agg (iS z)) dq 0 ?_;intro awd Z5;refine aT (aP (gv ?_));refine gf rfl (fF [.cell 4 152] [.agg (iS z)] (.agg (iS z)) ⟨mu Z5 0 3 dq 0,trivial⟩) ?_;have ze:dM z n=z:=by unfold dM;(repeat' split)<;>first|rfl|omega|(simp_all;done)|(simp_all;omega)|(cases z;simp_all)
 exact⟨by(rw[ze])<;>rfl,Z5.ch⟩
theorem ajO (z:Sd.gx) (n:Int) (h0:0<=z.high/\z.high<=4294967295) (h1:0<=n/\n<=4294967295) (w:ae):
 aS prog 151 #[.agg (iS z),.int .i64 n] w λv w1=>v=.tuple #[.agg (iS (dM z n)),.bool (Gx (dM z n) z)]/\Ch [] w w1:=by
 have S0:=St.nil [] w;refine iL Tryz.func151 rfl ?_;refine aQ (aX ?_);refine eE S0 (λb=>.pointer (some ⟨b,0,none⟩)) (.cells (iS z) 152) ?_;intro bE hY dB;refine eE dB (λb=>.pointer (some ⟨b,0,none⟩)) (.cells #[.bool false,.int .i64 0,.int .u64 0] 152) ?_;intro dq l7 cV;refine ak (.bool false) ?_;refine aT (aP (aQ (aX ?_)));refine jY cV 1 3 (iS z) bE 0 ?_;refine ak (.int .i64 n) ?_;refine fu 194 #[.agg (iS z),.int .i64 n] ?_;refine(ajG z n (by omega) (by omega) _).mono ?_;rintro _ C_ ⟨rfl,ov⟩;have iR:=cV.quiet ov;refine eE iR (λb=>.pointer (some ⟨b,0,none⟩)) (.cells #[.bool false,.int .i64 0,.int .u64 0] 152) ?_;intro rA Yw pM;refine store_ pM 0 (.agg (iS (dM z n))) rA 0 ?_;intro Qi ow;refine aT (aP (aQ ?_));have zD:=ow.WG 1 0 3 (b:=dq) (by kernel_rfl);refine WI ow 5 4 1 dq 0 [] (.agg (iS (dM z n))) [.agg (iS (dM z n)),.agg (iS (dM z n)),.agg (iS z),.bool (!(((dM z n).any==z.any)&&(((dM z n).high==z.high)&&(((dM z n).seen==z.seen)&&true)))),undef] [[5,0],[5,1],[5,2],[5,3],[5,4]] (ly (ES zD 0 rA 0 3 (iS (dM z n))) (ly (ES zD 0 rA 0 3 (iS (dM z n))) (ly (ES zD 1 bE 0 3 (iS z)) (ly (Cw (h:=funext λ_=>aeG true (((dM z n).any==z.any)&&(((dM z n).high==z.high)&&(((dM z n).seen==z.seen)&&true))) (iS (dM z n)) (iS z) (by rfl))) (ly (WE ow 1 (.agg (iS (dM z n))) dq 0) (N_)))))) ?_;intro C8 pN;refine fS ?_;refine aT (aP (gv ?_));refine gf rfl (fF [.cell 4 152,.tmp 5] [.agg (iS (dM z n)),.bool (!(((dM z n).any==z.any)&&(((dM z n).high==z.high)&&(((dM z n).seen==z.seen)&&true))))] (.tuple #[.agg (iS (dM z n)),.bool (!(((dM z n).any==z.any)&&(((dM z n).high==z.high)&&(((dM z n).seen==z.seen)&&true))))]) ⟨mu pN 1 3 dq 0,jf,trivial⟩) ?_;exact⟨rfl,pN.ch⟩
end
end Go.Proofs.YtggfpcggakghnaaGreatDoor
namespace Sd
structure A4 (b:Prop) (r:Rec):Prop where
 kind:1<=r.kind/\r.kind<=12
 source:0<=r.source/\r.source<=4
 seq:0<=r.seq/\r.seq<=4294967295
 af:0<=r.af/\r.af<=65535
 code:b->0<=r.code/\r.code<=255
 how:0<=r.how/\r.how<=6
structure sU (r:aE):Prop where
 kind:129<=r.kind/\r.kind<=136
 seq:0<=r.seq/\r.seq<=4294967295
 role:0<=r.role/\r.role<=3
 dh:0<=r.dh/\r.dh<=4
 af:0<=r.af/\r.af<=65535
 code:0<=r.code/\r.code<=255
 aw:∀j,0<=r.aw j/\r.aw j<=255
 ajP:r.kind≠131/\r.kind≠132->r.seq=0
 ajQ:r.kind≠130->r.role=0
 ajR:r.kind≠130/\r.kind≠134/\r.kind≠135/\r.kind≠136->r.dh=0
 ajS:r.kind≠130/\r.kind≠133/\r.kind≠134/\r.kind≠135->r.af=0
 ajT:r.kind≠132/\r.kind≠136->r.code=0
 ajU:r.kind≠129->r.aw=λ_=>0
def rJ (x:Int×aE):Prop:=(1<=x.1/\x.1<=3)/\sU x.2
structure Quiet (C:aL) (b:Prop) (s s':aa):Prop where
 ay:s'.c.t.ay=s.c.t.ay
 af:s'.c.t.af=s.c.t.af
 p:s'.c.p=s.c.p
 bA:∃rs:List Rec,s'.bA=s.bA++rs/\(∀r∈rs,r.kind≠8/\r.af=s.c.t.af/\A4 b r)/\s'.c.head=rs.foldl C.next s.c.head
 bh:∃ts:List (Int×aE),s'.bh=s.bh++ts/\∀x∈ts,rJ x
theorem Quiet.refl (C:aL) (b:Prop) (s:aa):Quiet C b s s:=⟨rfl,rfl,rfl,⟨[],by simp,by simp,rfl⟩,⟨[],by simp,by simp⟩⟩
theorem Quiet.trans {C:aL} {b:Prop} {s t u:aa} (h:Quiet C b s t) (k:Quiet C b t u):Quiet C b s u:=by
 obtain⟨rs,r1,r2,r3⟩:=h.bA;obtain⟨qs,q1,q2,q3⟩:=k.bA;obtain⟨ts,t1,t2⟩:=h.bh;obtain⟨us,u1,u2⟩:=k.bh;refine⟨k.ay.trans h.ay,k.af.trans h.af,k.p.trans h.p,⟨rs++qs,by rw[q1,r1,bR],?_,by rw[q3,r3,List.foldl_append]⟩,⟨ts++us,by rw[u1,t1,bR],?_⟩⟩
 ·intro r hr;rcases eJ.1 hr with hr|hr
  ·exact r2 r hr
  ·have:=q2 r hr;rw[h.af]at this;exact this
 ·intro x hx;rcases eJ.1 hx with hx|hx
  ·exact t2 x hx
  ·exact u2 x hx
namespace aa
@[simp] theorem awe (s:aa) (l:Int) (r:aE):(s.tell l r).c=s.c:=rfl
@[simp] theorem awf (s:aa) (l:Int) (r:aE):(s.tell l r).bA=s.bA:=rfl
@[simp] theorem awg (s:aa) (l:Int) (r:aE):(s.tell l r).bh=s.bh++[(l,r)]:=rfl
@[simp] theorem k8 (s:aa) (l:Int) (r:aE):(s.dH l r).c=s.c:=by unfold dH;split<;>rfl
@[simp] theorem Kv (s:aa) (l:Int) (r:aE):(s.dH l r).bA=s.bA:=by unfold dH;split<;>rfl
@[simp] theorem pV (s:aa) (l w c:Int):(s.gone l w c).c=s.c:=k8 ..
@[simp] theorem ajV (s:aa) (l w c:Int):(s.gone l w c).bA=s.bA:=Kv ..
@[simp] theorem awh (s:aa) (l n:Int):(s.done l n).c=s.c:=rfl
@[simp] theorem awi (s:aa) (l n:Int):(s.done l n).bA=s.bA:=rfl
@[simp] theorem awj (C:aL) (s:aa) (k a n e h:Int):(s.record C k a n e h).c.t=s.c.t:=rfl
@[simp] theorem awk (C:aL) (s:aa) (k a n e h:Int):(s.record C k a n e h).c.p=s.c.p:=rfl
@[simp] theorem awl (C:aL) (s:aa) (k a n e h:Int):(s.record C k a n e h).c.q=s.c.q:=rfl
@[simp] theorem awm (C:aL) (s:aa) (k a n e h:Int):(s.record C k a n e h).c.ag=s.c.ag:=rfl
@[simp] theorem awn (C:aL) (s:aa) (k a n e h:Int):(s.record C k a n e h).bh=s.bh:=rfl
@[simp] theorem awo (C:aL) (s:aa) (k a n e h:Int):(s.record C k a n e h).bA=s.bA++[⟨k,a,n,s.c.t.af,e,h⟩]:=rfl
theorem Gy {C:aL} {b:Prop} {s:aa} {l:Int} {r:aE} (h:rJ (l,r)):Quiet C b s (s.tell l r):=
 ⟨rfl,rfl,rfl,⟨[],by simp,by simp,rfl⟩,⟨[(l,r)],rfl,by simpa using h⟩⟩
theorem yI {C:aL} {b:Prop} {s:aa} {l:Int} {r:aE} (h:sU r):Quiet C b s (s.dH l r):=by
 unfold dH;split
 ·rename_i hh;refine Gy ⟨?_,h⟩;simp[linked]at hh;exact hh.1
 ·exact Quiet.refl ..
theorem nB {C:aL} {b:Prop} {s:aa} {k a n e h:Int} (hk:k≠8) (hb:A4 b ⟨k,a,n,s.c.t.af,e,h⟩):Quiet C b s (s.record C k a n e h):=
 ⟨rfl,rfl,rfl,⟨[⟨k,a,n,s.c.t.af,e,h⟩],rfl,by simpa using⟨hk,hb⟩,rfl⟩,⟨[],by simp,by simp⟩⟩
theorem iA {C:aL} {b:Prop} {s:aa} {c:Core} (h1:c.t.ay=s.c.t.ay) (h2:c.t.af=s.c.t.af) (h3:c.p=s.c.p) (h4:c.head=s.c.head):Quiet C b s {s with c:=c}:=
 ⟨h1,h2,h3,⟨[],by simp,by simp,h4⟩,⟨[],by simp,by simp⟩⟩
end aa
theorem Inv.head {c:Core} (h:Inv c) (x:av):Inv {c with head:=x}:=⟨h.p,h.tok,h.q,h.ag,h.samples,h.mode,h.doors⟩
theorem Inv.record {C:aL} {s:aa} (h:Inv s.c) (k a n e w:Int):Inv (s.record C k a n e w).c:=h.head _
theorem Inv.tell {s:aa} (h:Inv s.c) (l:Int) (r:aE):Inv (s.tell l r).c:=h
theorem Inv.dH {s:aa} (h:Inv s.c) (l:Int) (r:aE):Inv (s.dH l r).c:=by rw[aa.k8];exact h
theorem pk.drop {p:aN} {t:aA} {h h':Int} {q:List Ask} (k:pk p t h q) (s:Int) (hh:∀a∈q,a.source≠s->a.source≠h'):pk p t h' (Q.drop q s) where
 each:=by
  intro a ha;simp only[Q.drop,List.mem_filter,decide_eq_true_eq]at ha;obtain⟨a1,a2,a3,a4,a5,a6⟩:=k.each a ha.1;exact⟨a1,a2,a3,a4,hh a ha.1 ha.2,a6⟩
 sorted:=k.sorted.filter _
 len:=by have:=List.length_filter_le (λa:Ask=>decide (a.source≠s)) q;have:=k.len;unfold Q.drop;omega
theorem lU.pass {p:aN} {ag:aA} {t:Tok} (hp:eO p) {aU e:Int} (ht:0<=aU/\aU<=4) (he:p.af<=e/\e<=65535):lU p ag (t.pass aU e):=
 ⟨ht,he,.inl rfl,.inl ⟨rfl,rfl⟩⟩
structure wD (C:aL) (b:Prop) (s s':aa) (how:Int):Prop where
 p:s'.c.p=s.c.p
 ay:s'.c.t.ay≠s.c.t.ay
 offer:s'.c.t.offer=-1
 af:(s.c.t.af<65535/\s'.c.t.af=s.c.t.af+1)\/(s.c.t.af=65535/\s'.c.t.af=65535/\how=6)
 bA:∃(pre:List Rec) (n:Int) (post:List Rec),s'.bA=s.bA++(pre++⟨8,s'.c.t.ay,n,s'.c.t.af,0,how⟩::post)/\
  (∀r∈pre,r.kind≠8/\r.af=s.c.t.af/\A4 b r)/\A4 b ⟨8,s'.c.t.ay,n,s'.c.t.af,0,how⟩/\
  (∀r∈post,r.kind≠8/\r.af=s'.c.t.af/\A4 b r)/\
  s'.c.head=(pre++⟨8,s'.c.t.ay,n,s'.c.t.af,0,how⟩::post).foldl C.next s.c.head
 bh:∃ts:List (Int×aE),s'.bh=s.bh++ts/\∀x∈ts,rJ x
theorem Quiet.goes {C:aL} {b:Prop} {s t u:aa} {how:Int} (h:Quiet C b s t) (k:wD C b t u how):wD C b s u how:=by
 obtain⟨rs,r1,r2,r3⟩:=h.bA;obtain⟨pre,n,post,q1,q2,q3,q4,q5⟩:=k.bA;obtain⟨ts,t1,t2⟩:=h.bh;obtain⟨us,u1,u2⟩:=k.bh;refine⟨k.p.trans h.p,by rw[<-h.ay];exact k.ay,k.offer,by have:=k.af;rw[h.af]at this;exact this,⟨rs++pre,n,post,by rw[q1,r1];simp,?_,q3,q4,by rw[q5,r3];simp[List.foldl_append]⟩,⟨ts++us,by rw[u1,t1,bR],?_⟩⟩
 ·intro r hr;rcases eJ.1 hr with hr|hr
  ·exact r2 r hr
  ·have:=q2 r hr;rw[h.af]at this;exact this
 ·intro x hx;rcases eJ.1 hx with hx|hx
  ·exact t2 x hx
  ·exact u2 x hx
theorem wD.quiet {C:aL} {b:Prop} {s t u:aa} {how:Int} (h:wD C b s t how) (k:Quiet C b t u) (ho:u.c.t.offer=-1):wD C b s u how:=by
 obtain⟨pre,n,post,q1,q2,q3,q4,q5⟩:=h.bA;obtain⟨rs,r1,r2,r3⟩:=k.bA;obtain⟨ts,t1,t2⟩:=h.bh;obtain⟨us,u1,u2⟩:=k.bh;refine⟨k.p.trans h.p,by rw[k.ay];exact h.ay,ho,by rw[k.af];exact h.af,⟨pre,n,post++rs,by rw[r1,q1,k.ay,k.af];simp,q2,by rw[k.ay,k.af];exact q3,?_,by rw[r3,q5,k.ay,k.af,<-List.foldl_append];simp⟩,⟨ts++us,by rw[u1,t1,bR],?_⟩⟩
 ·intro r hr;rw[k.af];rcases eJ.1 hr with hr|hr
  ·exact q4 r hr
  ·exact r2 r hr
 ·intro x hx;rcases eJ.1 hx with hx|hx
  ·exact t2 x hx
  ·exact u2 x hx
namespace aa
@[simp] theorem Z6 (C:aL) (s:aa) (t:Tok) (h n:Int):(s.goes C t h n).c.t=t:=by simp[goes]
@[simp] theorem awp (C:aL) (s:aa) (t:Tok) (h n:Int):(s.goes C t h n).c.p=s.c.p:=by simp[goes]
@[simp] theorem Rc (C:aL) (s:aa) (t:Tok) (h n:Int):(s.goes C t h n).c.q=Q.drop s.c.q t.ay:=by simp[goes]
@[simp] theorem awq (C:aL) (s:aa) (t:Tok) (h n:Int):(s.goes C t h n).c.ag=s.c.ag:=by simp[goes]
theorem Gz (C:aL) (s:aa) (t:Tok) (h n:Int):∃x,(s.goes C t h n).c={s.c with t:=t,q:=Q.drop s.c.q t.ay,head:=x}:=by
 refine⟨(s.goes C t h n).c.head,?_⟩;simp[goes,record]
theorem ajW {dh e:Int} (h:0<=dh/\dh<=4) (he:0<=e/\e<=65535):sU {kind:=134,dh:=dh,af:=e}:=by
 constructor<;>simp<;>omega
theorem ajX {e:Int} (he:0<=e/\e<=65535):sU {kind:=133,af:=e}:=by
 constructor<;>simp<;>omega
theorem ajY {dh e:Int} (h:0<=dh/\dh<=4) (he:0<=e/\e<=65535):sU {kind:=135,dh:=dh,af:=e}:=by
 constructor<;>simp<;>omega
theorem GA {dh c:Int} (h:0<=dh/\dh<=4) (hc:0<=c/\c<=255):sU {kind:=136,dh:=dh,code:=c}:=by
 constructor<;>simp<;>omega
theorem ajZ {n:Int} (h:0<=n/\n<=4294967295):sU {kind:=131,seq:=n}:=by
 constructor<;>simp<;>omega
theorem aj0 {n c:Int} (h:0<=n/\n<=4294967295) (hc:0<=c/\c<=255):sU {kind:=132,seq:=n,code:=c}:=by
 constructor<;>simp<;>omega
theorem aj1 {r w e:Int} (h:0<=r/\r<=3) (hw:0<=w/\w<=4) (he:0<=e/\e<=65535):sU {kind:=130,role:=r,dh:=w,af:=e}:=by
 constructor<;>simp<;>omega
theorem aj2 {n:av} (h:∀j,0<=n j/\n j<=255):sU {kind:=129,aw:=n}:=by
 constructor<;>simp<;>omega
theorem GB {C:aL} {b:Prop} {s:aa} {t:Tok} {how n:Int} (hh:0<=t.ay/\t.ay<=4) (hn:t.ay≠s.c.t.ay) (ho:t.offer=-1)
 (he:(s.c.t.af<65535/\t.af=s.c.t.af+1)\/(s.c.t.af=65535/\t.af=65535/\how=6)) (hs:0<=s.c.t.af)
 (Z7:0<=how/\how<=6) (awr:0<=n/\n<=4294967295):wD C b s (s.goes C t how n) how:=by
 have et:0<=t.af/\t.af<=65535:=by omega
 have q2:Quiet C b ({s with c:={s.c with t:=t,q:=Q.drop s.c.q t.ay}}:aa) ((({s with c:={s.c with t:=t,q:=Q.drop s.c.q t.ay}}:aa).dH s.c.t.ay {kind:=134,dh:=t.ay,af:=t.af}).dH t.ay {kind:=133,af:=t.af}):=
  (yI (ajW hh et)).trans (yI (ajX et))
 obtain⟨ts,t1,t2⟩:=q2.bh;exact⟨by simp,by simpa using hn,by simpa using ho,by simpa using he,
  ⟨[],n,[],by simp[goes],by simp,by constructor<;>simp<;>omega,by simp,by simp[goes,record]⟩,
  ⟨ts,by simpa[goes]using t1,t2⟩⟩
end aa
theorem Kw {t:Tok} {aU:Int} (h:(t.cY aU).2=0):(t.cY aU).1=t.pass aU (t.af+1)/\0<=aU/\aU<=4/\aU≠t.ay/\t.af<65535:=by
 unfold Tok.cY at*;split at h
 ·simp at h
 ·split at h
  ·simp at h
  ·split at h
   ·simp at h
   ·rename_i a b c;simp[a,b,c];omega
theorem Kx (t:Tok) (aU:Int):0<=(t.cY aU).2/\(t.cY aU).2<=25:=by
 unfold Tok.cY;split<;>(try split)<;>(try split)<;>simp
structure sV (m:aY):Prop where
 kind:1<=m.kind/\m.kind<=11
 seq:0<=m.seq/\m.seq<=4294967295
 role:0<=m.role/\m.role<=3
 aU:0<=m.aU/\m.aU<=4
 af:0<=m.af/\m.af<=65535
 mode:0<=m.mode/\m.mode<=4
 cls:0<=m.cls/\m.cls<=3
 aws:m.kind=11->1<=m.cls
def uu (wF now:Core) (kind link how:Int):Prop:=
 (how=1/\kind=0/\wF.t.offer=now.t.ay/\link=now.t.ay)\/
 (how=2/\kind<2/\(∃a l,wF.q=a::l/\a.source=now.t.ay)/\(kind=1↔wF.t.ay=0))\/
 (how=3/\kind=0/\link=now.t.ay/\fw wF.p now.t.ay wF.t.ay=true/\wF.t.bad=false)\/
 (how=4/\kind=1/\now.t.ay=0)\/
 (how=5/\kind=3/\now.ag.on wF.t.ay=false/\now.ag.on now.t.ay=true)\/
 (how=6/\now.t.ay=4/\((kind=2/\now.t.bad=true)\/(kind=3/\wF.t.af=65535/\now.ag.on wF.t.ay=false)))
structure fb (C:aL) (b:Prop) (s s':aa) (kind link:Int):Prop where
 inv:Inv s'.c
 A5:Quiet C b s s'\/∃how,wD C b s s' how/\uu s.c s'.c kind link how
theorem fb.jT {C:aL} {b:Prop} {s s':aa} {kind link:Int} (h:Inv s'.c) (q:Quiet C b s s'):fb C b s s' kind link:=⟨h,.inl q⟩
theorem Inv.Ky {c:Core} (h:Inv c) {t:Tok} {q:List Ask} (ht:lU c.p c.ag t) (hq:pk c.p c.ag t.ay q):Inv {c with t:=t,q:=q}:=
 ⟨h.p,ht,hq,h.ag,h.samples,h.mode,h.doors⟩
theorem Inv.goes {C:aL} {s:aa} (h:Inv s.c) {t:Tok} {how n:Int} (ht:lU s.c.p s.c.ag t):Inv (s.goes C t how n).c:=by
 obtain⟨x,hx⟩:=aa.Gz C s t how n;rw[hx];exact(h.Ky ht (h.q.drop t.ay (λa _ ha=>ha))).head x
variable{C:aL} {b:Prop} {s:aa} {l:Int} {m:aY}
theorem Inv.kF {c:Core} (h:Inv c):0<=c.t.af/\c.t.af<=65535:=by have:=h.tok.af;have:=h.p.af;omega
theorem Re {n e:Int} (h:Inv s.c) (hl:1<=l/\l<=3) (hn:0<=n/\n<=4294967295) (he:0<=e/\e<=255):Quiet C b s (s.refuse C l n e):=by
 have:=h.kF;exact(aa.Gy ⟨hl,aa.aj0 hn he⟩).trans (aa.nB (by simp) (by constructor<;>simp<;>omega))
theorem wG {n e kind link:Int} (h:Inv s.c) (hl:1<=l/\l<=3) (hn:0<=n/\n<=4294967295) (he:0<=e/\e<=255):fb C b s (s.refuse C l n e) kind link:=
 .jT (h.head _) (Re h hl hn he)
theorem Z8 {e:Int} (h:Inv s.c) (hl:1<=l/\l<=3) (he:b->0<=e/\e<=255):Quiet C b s (s.iF C l e):=by
 have:=h.kF;exact aa.nB (by simp) (by constructor<;>simp<;>first|omega|exact he)
theorem GC {e kind link:Int} (h:Inv s.c) (hl:1<=l/\l<=3) (he:b->0<=e/\e<=255):fb C b s (s.iF C l e) kind link:=
 .jT (h.head _) (Z8 h hl he)
theorem Z9 {n:Int} (hl:1<=l/\l<=3) (hn:0<=n/\n<=4294967295):Quiet C b s (s.done l n):=aa.Gy ⟨hl,aa.ajZ hn⟩
theorem yJ {t:aa} {n kind link:Int} (h:fb C b s t kind link) (hl:1<=l/\l<=3) (hn:0<=n/\n<=4294967295):fb C b s (t.done l n) kind link:=
 ⟨h.inv,h.A5.imp (λq=>q.trans (Z9 hl hn)) (λ⟨how,g,k⟩=>⟨how,g.quiet (Z9 hl hn) g.offer,k⟩)⟩
theorem aj3 (p:aN) (t:Tok) (f o:Int) (th:Bool):0<=(t.make p f o th).2/\(t.make p f o th).2<=28:=by
 unfold Tok.make;repeat' split
 all_goals simp
theorem aj4 {p:aN} {t:Tok} {f o:Int} {th:Bool} (h:(t.make p f o th).2=0):
 (t.make p f o th).1={t with offer:=o,oa:=.start p.offer}/\f=t.ay/\t.af<65535/\o≠f/\1<=o/\o<=3/\th=true/\t.offer<0:=by
 unfold Tok.make at*;split at h
 ·simp at h
 split at h
 ·simp at h
 split at h
 ·simp at h
 split at h
 ·simp at h
 split at h
 ·simp at h
 rename_i h1 h2 h3 h4 h5;have h6:th=true:=by
  cases th
  ·exact absurd (.inr (.inr rfl)) h4
  ·rfl
 rw[if_neg h1,if_neg h2,if_neg h3,if_neg h4,if_neg h5];exact⟨rfl,by simpa using h1,by omega,h3,by omega,by omega,h6,by omega⟩
theorem aj5 (t:Tok) (f e:Int):0<=(t.accept f e).2/\(t.accept f e).2<=28:=by
 unfold Tok.accept;split
 ·simp
 split
 ·simp
 have:=Kx t f;omega
theorem aj6 {t:Tok} {f e:Int} (h:(t.accept f e).2=0):
 (t.accept f e).1=t.pass f (t.af+1)/\t.offer=f/\e=t.af/\0<=f/\f<=4/\f≠t.ay/\t.af<65535:=by
 unfold Tok.accept at*;split at h
 ·simp at h
 split at h
 ·simp at h
 rename_i h1 h2;obtain⟨g1,g2,g3,g4,g5⟩:=Kw h;have h3:t.offer=f:=by
  by_cases hx:t.offer=f
  ·exact hx
  ·exact absurd (.inr hx) h1
 rw[if_neg h1,if_neg h2];exact⟨g1,h3,by simpa using h2,g2,g3,g4,g5⟩
theorem aj7 (t:Tok) (f:Int):0<=(t.fy f).2/\(t.fy f).2<=28:=by
 unfold Tok.fy;split<;>simp
theorem aj8 {t:Tok} {f:Int} (h:(t.fy f).2=0):(t.fy f).1=t.ir/\t.offer=f:=by
 unfold Tok.fy at*;split at h
 ·simp at h
 rename_i h1;rw[if_neg h1];refine⟨rfl,?_⟩;by_cases hx:t.offer=f
 ·exact hx
 ·exact absurd (.inr hx) h1
theorem aj9 (h:Inv s.c) (hl:1<=l/\l<=3) (hm:sV m):fb C b s (s.offer C l m) 0 l:=by
 have he:=h.kF;unfold aa.offer;dsimp only;split
 ·have:=aj3 s.c.p s.c.t l m.aU (s.c.ag.on m.aU);exact wG h hl hm.seq (by omega)
 rename_i hz;obtain⟨g1,g2,g3,g4,g5,g6,g7,g8⟩:=aj4 (by simpa using hz);rw[g1];refine yJ ?_ hl hm.seq;have ht:lU s.c.p s.c.ag {s.c.t with offer:=m.aU,oa:=Timer.start s.c.p.offer}:=
  ⟨h.tok.ay,h.tok.af,.inr ⟨g5,g6,by simp;omega,g7,by simp[Timer.start];have:=h.p.offer;omega,by simp[Timer.start],by simp[Timer.start];have:=h.p.offer;omega⟩,h.tok.lost⟩
 refine .jT ?_ ?_
 ·exact Inv.record (Inv.dH (s:=s.dX _) (h.Ky ht h.q) _ _) ..
 ·have hh:=h.tok.ay;refine Quiet.trans (t:=s.dX {s.c.t with offer:=m.aU,oa:=Timer.start s.c.p.offer}) (aa.iA rfl rfl rfl rfl) ?_;refine Quiet.trans (aa.yI (aa.ajY (by omega) (by simpa using he))) (aa.nB (by simp) ?_);have:=hm.seq;constructor<;>simp[aa.dX]<;>omega
theorem aj_ (h:Inv s.c) (hl:1<=l/\l<=3) (hm:sV m):fb C b s (s.accept C l m) 0 l:=by
 have he:=h.kF;unfold aa.accept;dsimp only;split
 ·have:=aj5 s.c.t l m.af;exact wG h hl hm.seq (by omega)
 rename_i hz;obtain⟨g1,g0,ge,g2,g3,g4,g5⟩:=aj6 (by simpa using hz);rw[g1];refine yJ ⟨?_,.inr ⟨1,?_,?_⟩⟩ hl hm.seq
 ·exact h.goes (lU.pass h.p (by omega) (by have:=h.tok.af;omega))
 ·exact aa.GB (by simp[Tok.pass];omega) (by simpa[Tok.pass]using g4) rfl (.inl ⟨g5,rfl⟩) he.1 (by simp) hm.seq
 ·exact .inl ⟨rfl,rfl,by simpa[Tok.pass]using g0,by simp[Tok.pass]⟩
theorem aka (h:Inv s.c) (hl:1<=l/\l<=3) (hm:sV m):fb C b s (s.fy C l m) 0 l:=by
 have he:=h.kF;unfold aa.fy;dsimp only;split
 ·have:=aj7 s.c.t l;exact wG h hl hm.seq (by omega)
 rename_i hz;obtain⟨g1,g2⟩:=aj8 (by simpa using hz);rw[g1];refine yJ ?_ hl hm.seq;have ht:lU s.c.p s.c.ag s.c.t.ir:=⟨h.tok.ay,h.tok.af,.inl rfl,h.tok.lost⟩;refine .jT ?_ ?_
 ·exact Inv.record (Inv.dH (s:=s.dX _) (h.Ky ht h.q) _ _) ..
 ·refine Quiet.trans (t:=s.dX s.c.t.ir) (aa.iA rfl rfl rfl rfl) ?_;refine Quiet.trans (aa.yI (aa.GA (by omega) (by simp))) (aa.nB (by simp) ?_);have:=hm.seq;constructor<;>simp[aa.dX,Tok.ir]<;>omega
end Sd
namespace Sd
theorem mem_insert {q:List Ask} {a x:Ask}:x∈Q.insert q a↔x=a\/x∈q:=by
 unfold Q.insert;rw[eJ,ca];have:=ad5 (p:=λx:Ask=>decide (x.bC<=a.bC)) (l:=q);constructor
 ·rintro(h|h|h)
  ·exact .inr (List.takeWhile_prefix _|>.subset h)
  ·exact .inl h
  ·exact .inr (List.dropWhile_suffix _|>.subset h)
 ·rintro(h|h)
  ·exact .inr (.inl h)
  ·rw[<-this,eJ]at h;rcases h with h|h
   ·exact .inl h
   ·exact .inr (.inr h)
theorem length_insert (q:List Ask) (a:Ask):(Q.insert q a).length=q.length+1:=by
 have:=congrArg List.length (ad5 (p:=λx:Ask=>decide (x.bC<=a.bC)) (l:=q));simp only[fq]at this;simp only[Q.insert,fq,kN];omega
theorem akb (y:Ask) (q:List Ask) (a:Ask):Q.insert (y::q) a=if y.bC<=a.bC then y::Q.insert q a else a::y::q:=by
 unfold Q.insert;simp only[List.takeWhile_cons,List.dropWhile_cons];by_cases h:y.bC<=a.bC<;>simp[h]
theorem insert_sorted {q:List Ask} {a:Ask} (h:q.Pairwise λa b=>a.bC<b.bC) (hn:∀x∈q,x.bC≠a.bC):(Q.insert q a).Pairwise λa b=>a.bC<b.bC:=by
 induction q with
 |nil=>simp[Q.insert]
 |cons y q ih=>
  rw[akb];rw[zR]at h;have hy:=hn y (by simp);split
  ·rw[zR];refine⟨λx hx=>?_,ih h.2 (λx hx=>hn x (by simp[hx]))⟩;rcases mem_insert.1 hx with rfl|hx
   ·omega
   ·exact h.1 x hx
  ·rw[zR,zR];refine⟨λx hx=>?_,h.1,h.2⟩;rcases ca.1 hx with rfl|hx
   ·omega
   ·have:=h.1 x hx;omega
theorem akc (most:Int) (q:List Ask) (a:Ask):0<=(Q.push most q a).2/\(Q.push most q a).2<=27:=by
 unfold Q.push;repeat' split
 all_goals simp
theorem akd {most:Int} {q:List Ask} {a:Ask} (h:(Q.push most q a).2=0):(Q.push most q a).1=Q.insert q a/\Q.waits q a.source=false/\(q.length:Int)<most:=by
 unfold Q.push at*;split at h
 ·simp at h
 split at h
 ·simp at h
 rename_i h1 h2;rw[if_neg h1,if_neg h2];exact⟨rfl,by simpa using h1,by omega⟩
theorem ake {q:List Ask} {s:Int} (h:Q.waits q s=false):∀x∈q,x.source≠s:=by
 intro x hx e;have:Q.waits q s=true:=by unfold Q.waits;rw[zK];exact⟨x,hx,by simp[e]⟩
 rw[this]at h;cases h
theorem pk.insert {p:aN} {t:aA} {h:Int} {q:List Ask} (hp:eO p) (k:pk p t h q) {s:Int} (hs:1<=s/\s<=3) (iT:t.on s=true) (hh:s≠h)
 (hw:Q.waits q s=false) (hl:(q.length:Int)<p.queue):pk p t h (Q.insert q ⟨s,bC p s,.start p.ask⟩) where
 each:=by
  intro a ha;rcases mem_insert.1 ha with rfl|ha
  ·have:=hp.ask;refine⟨rfl,hs.1,hs.2,iT,hh,?_,?_,?_⟩<;>simp[Timer.start]<;>omega
  ·exact k.each a ha
 sorted:=insert_sorted k.sorted (λx hx e=>by
  have h1:=k.each x hx;have h2:=ake hw x hx;rw[h1.1]at e;exact h2 (WV hp (by omega) (by omega) e))
 len:=by rw[length_insert];omega
theorem akf {p:aN} {t:Tok} {most:Int} {q:List Ask} {f:Int} {now:Bool}:0<=(eY p t most q f now).2.2.1/\(eY p t most q f now).2.2.1<=29:=by
 unfold eY;have h1:=Kx t f;have h2:=akc most q ⟨f,bC p f,.start p.ask⟩
 repeat' split
 all_goals first|(simp;done)|(simp;omega)|omega
theorem akg {p:aN} {t:Tok} {most:Int} {q:List Ask} {f:Int} {now:Bool} (h:(eY p t most q f now).2.2.1=0):
 t.bad=false/\f≠t.ay/\t.af<65535/\
 ((eY p t most q f now=(t.pass f (t.af+1),3,0,Q.drop q f)/\0<=f/\f<=4/\(t.ay=4\/fw p f t.ay=true))\/
  (eY p t most q f now=(t,0,0,Q.insert q ⟨f,bC p f,.start p.ask⟩)/\Q.waits q f=false/\(q.length:Int)<most/\t.ay≠4/\now=false)):=by
 unfold eY at*;split at h
 ·simp at h
 split at h
 ·simp at h
 split at h
 ·simp at h
 rename_i h1 h2 h3;rw[if_neg h1,if_neg h2,if_neg h3];refine⟨by simpa using h1,h2,by omega,?_⟩;split at h
 ·rename_i h4;rw[if_pos h4];split at h
  ·rename_i h5;exact absurd h h5
  ·rename_i h5;rw[if_neg h5];obtain⟨g1,g2,g3,g4,g5⟩:=Kw (by simpa using h5);exact .inl ⟨by rw[g1],g2,g3,h4.imp id And.right⟩
 ·rename_i h4;rw[if_neg h4];split at h
  ·simp at h
  ·rename_i h5;rw[if_neg h5];obtain⟨g1,g2,g3⟩:=akd h;refine .inr ⟨?_,g2,g3,λe=>h4 (.inl e),by simpa using h5⟩;rw[g1];exact Prod.ext rfl (Prod.ext rfl (Prod.ext h rfl))
theorem akh (t:Tok) (q:List Ask):0<=(fg t q).2.1/\(fg t q).2.1<=25:=by
 unfold fg;split
 ·simp
 ·rename_i a l;have:=Kx t a.source;split<;>first|(simp;done)|(simp;omega)|omega
theorem aki {t:Tok} {q:List Ask} (h:(fg t q).2.1=0):
 ∃a l,q=a::l/\fg t q=(t.pass a.source (t.af+1),0,Q.drop q a.source)/\0<=a.source/\a.source<=4/\a.source≠t.ay/\t.af<65535:=by
 unfold fg at*;split at h
 ·simp at h
 ·rename_i a l;split at h
  ·rename_i h5;exact absurd h h5
  ·rename_i h5;obtain⟨g1,g2,g3,g4,g5⟩:=Kw (by simpa using h5);refine⟨a,l,rfl,?_,g2,g3,g4,g5⟩;show(if(t.cY a.source).2≠0 then _ else _)=_;rw[if_neg h5,g1]
theorem Z_ (t:Tok) (q:List Ask) (f:Int):0<=(cZ t q f).2.1/\(cZ t q f).2.1<=25:=by
 unfold cZ;have:=akh t q
 repeat' split
 all_goals first|(simp;done)|(simp;omega)|omega
theorem aaa {t:Tok} {q:List Ask} {f:Int} (h:(cZ t q f).2.1=0):
 f=t.ay/\∃a l,q=a::l/\cZ t q f=(t.pass a.source (t.af+1),0,Q.drop q a.source)/\0<=a.source/\a.source<=4/\a.source≠t.ay/\t.af<65535:=by
 unfold cZ at*;split at h
 ·simp at h
 split at h
 ·simp at h
 rename_i h1 h2;rw[if_neg h1,if_neg h2];exact⟨by simpa using h1,aki h⟩
variable{C:aL} {b:Prop} {s:aa} {l:Int} {m:aY}
theorem GD {kind link how n f:Int} {q:List Ask} (h:Inv s.c) (hf:0<=f/\f<=4) (hq:∃x,q=Q.drop s.c.q x) (cw:f≠s.c.t.ay) (he:s.c.t.af<65535)
 (Z7:0<=how/\how<=6) (hn:0<=n/\n<=4294967295)
 (hk:uu s.c (aa.goes C ({s with c:={s.c with q:=q}}:aa) (s.c.t.pass f (s.c.t.af+1)) how n).c kind link how):
 fb C b s (aa.goes C ({s with c:={s.c with q:=q}}:aa) (s.c.t.pass f (s.c.t.af+1)) how n) kind link:=by
 have e0:=h.kF;obtain⟨x,rfl⟩:=hq;have h1:Inv ({s.c with q:=Q.drop s.c.q x}:Core):=⟨h.p,h.tok,h.q.drop x (λa ha hx=>(h.q.each a ha).2.2.2.2.1),h.ag,h.samples,h.mode,h.doors⟩;refine⟨?_,.inr ⟨how,?_,hk⟩⟩
 ·exact Inv.goes (s:={s with c:={s.c with q:=Q.drop s.c.q x}}) h1 (lU.pass h.p hf (by have:=h.tok.af;omega))
 ·have q0:Quiet C b s ({s with c:={s.c with q:=Q.drop s.c.q x}}:aa):=aa.iA rfl rfl rfl rfl;exact q0.goes (aa.GB (by simp[Tok.pass];omega) (by simpa[Tok.pass]using cw) rfl (.inl ⟨he,rfl⟩) e0.1 Z7 hn)
theorem akj (h:Inv s.c) (hl:1<=l/\l<=3) (hm:sV m):fb C b s (s.release C l m) 0 l:=by
 unfold aa.release;dsimp only;split
 ·have h2:=Z_ s.c.t s.c.q l;exact wG h hl hm.seq ⟨h2.1,Ci h2.2 (by decide)⟩
 rename_i hz;obtain⟨g0,a,r,g1,g2,g3,g4,g5,g6⟩:=aaa (by simpa using hz);rw[g2];refine yJ (GD h ⟨g3,g4⟩ ⟨_,rfl⟩ g5 g6 (by simp) hm.seq ?_) hl hm.seq;refine .inr (.inl ⟨rfl,by simp,⟨a,r,g1,by simp[Tok.pass]⟩,?_⟩);simp;omega
theorem akk (h:Inv s.c) (hl:1<=l/\l<=3) (hm:sV m) (iT:s.c.ag.on l=true):fb C b s (s.ask C l m) 0 l:=by
 have e0:=h.kF;unfold aa.ask;dsimp only;split
 ·have h2:=@akf s.c.p s.c.t s.c.p.queue s.c.q l m.now;exact wG h hl hm.seq ⟨h2.1,Ci h2.2 (by decide)⟩
 rename_i hz;obtain⟨g1,g2,g3,g4⟩:=akg (by simpa using hz);refine yJ ?_ hl hm.seq;rcases g4 with⟨g4,g5,g6,g7⟩|⟨g4,g5,g6,g7⟩
 ·rw[g4];rw[if_pos (by simp)];refine GD h ⟨g5,g6⟩ ⟨_,rfl⟩ g2 g3 (by simp) hm.seq ?_;refine .inr (.inr (.inl ⟨rfl,rfl,by simp[Tok.pass],?_,g1⟩));simp only[aa.Z6,Tok.pass];rcases g7 with g7|g7
  ·rw[g7,aeJ h.p (by omega) (by omega)];simpa using aeK h.p (by omega)
  ·exact g7
 ·rw[g4];rw[if_neg (by simp)];refine .jT ?_ ?_
  ·refine Inv.record (s:=({s with c:={s.c with q:=Q.insert s.c.q ⟨l,bC s.c.p l,Timer.start s.c.p.ask⟩}}:aa).dX s.c.t) (h.Ky h.tok ?_) ..;exact h.q.insert h.p hl iT g2 g5 g6
  ·refine Quiet.trans (t:=({s with c:={s.c with q:=Q.insert s.c.q ⟨l,bC s.c.p l,Timer.start s.c.p.ask⟩}}:aa).dX s.c.t) (aa.iA rfl rfl rfl rfl) (aa.nB (by simp) ?_);have:=hm.seq;constructor<;>simp[aa.dX]<;>omega
theorem Rf (p:aN) (t:Tok) (a r mo:Int) (m:aY):0<=lT p t a r mo m/\lT p t a r mo m<=23:=by
 unfold lT;by_cases h1:m.kind≠10/\m.kind≠11
 ·rw[if_pos h1];simp
 rw[if_neg h1];by_cases h2:a≠t.ay
 ·rw[if_pos h2];simp
 rw[if_neg h2];by_cases h3:m.af≠t.af
 ·rw[if_pos h3];simp
 rw[if_neg h3];by_cases h4:may p mo r (if m.kind=10 then 0 else m.cls)=false
 ·rw[if_pos h4];simp
 rw[if_neg h4];by_cases h5:m.kind=10/\Sd.goes p mo m.mode=false
 ·rw[if_pos h5];simp
 ·rw[if_neg h5];simp
theorem akl (h:Inv s.c) (hl:1<=l/\l<=3) (hm:sV m):fb C b s (s.command C l m) 0 l:=by
 have e0:=h.kF;unfold aa.command;dsimp only;split
 ·have:=Rf s.c.p s.c.t l (s.c.ag.role l) s.c.mode m;exact wG h hl hm.seq (by omega)
 refine yJ ?_ hl hm.seq;have:=hm.seq;split
 ·refine .jT (Inv.head (c:={s.c with mode:=m.mode,ff:=_}) ⟨h.p,h.tok,h.q,h.ag,h.samples,hm.mode,h.doors⟩ _) ?_;refine Quiet.trans (t:={s with c:={s.c with mode:=m.mode,ff:=⟨1,l,m.seq⟩}}) (aa.iA rfl rfl rfl rfl) (aa.nB (by simp) ?_);constructor<;>simp<;>omega
 ·refine .jT (Inv.head (c:={s.c with pt:=s.c.pt.set s.c.p m.cls m.x ⟨1,l,m.seq⟩}) ⟨h.p,h.tok,h.q,h.ag,h.samples,h.mode,h.doors⟩ _) ?_;refine Quiet.trans (t:={s with c:={s.c with pt:=s.c.pt.set s.c.p m.cls m.x ⟨1,l,m.seq⟩}}) (aa.iA rfl rfl rfl rfl) (aa.nB (by simp) ?_);constructor<;>simp<;>omega
end Sd
namespace Sd
variable{C:aL} {b:Prop} {s:aa} {l:Int} {m:aY}
theorem Kz (t:Tok) (x:Int):(t.drop x).1.ay=t.ay/\(t.drop x).1.af=t.af/\(t.drop x).1.la=t.la/\(t.drop x).1.bad=t.bad/\
 ((t.drop x).1=t/\(t.drop x).2=false/\(t.offer<0\/t.offer≠x)\/(t.drop x).1=t.ir/\(t.drop x).2=true/\t.offer=x):=by
 unfold Tok.drop;split
 ·rename_i h;exact⟨rfl,rfl,rfl,rfl,.inl ⟨rfl,rfl,h⟩⟩
 ·rename_i h;refine⟨rfl,rfl,rfl,rfl,.inr ⟨rfl,rfl,?_⟩⟩;by_cases hx:t.offer=x
  ·exact hx
  ·exact absurd (.inr hx) h
theorem Rg (C:aL) (s:aa) (x:Int):∃hd,(s.leave C x).c={s.c with q:=Q.drop s.c.q x,t:=(s.c.t.drop x).1,head:=hd}:=by
 unfold aa.leave;dsimp only;rcases(Kz s.c.t x).2.2.2.2 with⟨h1,h2,_⟩|⟨h1,h2,_⟩
 ·rw[if_pos h2,h1];exact⟨s.c.head,rfl⟩
 ·rw[if_neg (by rw[h2];simp)];refine⟨C.next s.c.head ⟨12,x,0,(s.c.t.drop x).1.af,16,0⟩,?_⟩;rw[show∀(y:aa) (k a n e w:Int),(y.record C k a n e w).c={y.c with head:=C.next y.c.head ⟨k,a,n,y.c.t.af,e,w⟩}from λ_ _ _ _ _ _=>rfl];simp only[aa.pV]
theorem aab {x:Int} (hx:1<=x/\x<=3) (he:0<=s.c.t.af/\s.c.t.af<=65535):Quiet C b s (s.leave C x):=by
 unfold aa.leave;dsimp only;have q0:Quiet C b s ({s with c:={s.c with q:=Q.drop s.c.q x}}:aa):=aa.iA rfl rfl rfl rfl;have hd:=Kz s.c.t x;split
 ·exact q0
 ·refine q0.trans (Quiet.trans (t:=({s with c:={s.c with q:=Q.drop s.c.q x,t:=(s.c.t.drop x).1}}:aa)) (aa.iA hd.1 hd.2.1 rfl rfl) ?_);refine Quiet.trans (aa.yI (aa.GA (by omega) (by simp))) (aa.nB (by simp) ?_);have e:(({s with c:={s.c with q:=Q.drop s.c.q x,t:=(s.c.t.drop x).1}}:aa).dH (s.c.t.drop x).1.ay {kind:=136,dh:=x,code:=16}).c.t.af=s.c.t.af:=by
   rw[aa.k8];exact hd.2.1
  constructor<;>first|(dsimp only;rw[e];exact he)|(simp;done)|(simp;omega)
theorem Inv.leave {T:aA} {x:Int} (h:Inv {s.c with ag:=T}):Inv {(s.leave C x).c with ag:=T}/\(s.leave C x).c.ag=s.c.ag/\(s.leave C x).c.p=s.c.p/\
 (s.leave C x).c.q=Q.drop s.c.q x/\(s.leave C x).c.t.offer≠x/\((s.leave C x).c.t.offer=s.c.t.offer\/(s.leave C x).c.t.offer=-1)/\(s.leave C x).c.t.ay=s.c.t.ay\/x<0:=by
 by_cases hx:x<0
 ·exact .inr hx
 refine .inl ?_;obtain⟨hd,e⟩:=Rg C s x;have GF:=Kz s.c.t x;rw[e];refine⟨?_,rfl,rfl,rfl,?_,?_,GF.1⟩
 ·have ht:lU s.c.p T (s.c.t.drop x).1:=by
   rcases GF.2.2.2.2 with⟨h1,_,_⟩|⟨h1,_,_⟩
   ·rw[h1];exact h.tok
   ·rw[h1];exact⟨h.tok.ay,h.tok.af,.inl rfl,h.tok.lost⟩
  exact⟨h.p,ht,h.q.drop x (λa ha _=>by show a.source≠(s.c.t.drop x).1.ay;rw[GF.1];exact(h.q.each a ha).2.2.2.2.1),h.ag,h.samples,h.mode,h.doors⟩
 ·show(s.c.t.drop x).1.offer≠x;rcases GF.2.2.2.2 with⟨h1,_,h2⟩|⟨h1,_,_⟩
  ·rw[h1];omega
  ·rw[h1];simp[Tok.ir];omega
 ·show(s.c.t.drop x).1.offer=s.c.t.offer\/(s.c.t.drop x).1.offer=-1;rcases GF.2.2.2.2 with⟨h1,_,h2⟩|⟨h1,_,_⟩
  ·rw[h1];exact .inl rfl
  ·rw[h1];exact .inr rfl
theorem Inv.A6 {c:Core} {T:aA} (h:Inv {c with ag:=T}) (e:c.ag=T):Inv c:=by subst e;exact h
theorem Inv.KA {c:Core} {T T':aA} (h:Inv {c with ag:=T}) (ht:CD c.p T') (hq:∀a∈c.q,T'.on a.source=true) (ho:0<=c.t.offer->T'.on c.t.offer=true):Inv {c with ag:=T'}:=
 ⟨h.p,⟨h.tok.ay,h.tok.af,h.tok.offer.imp id (λ⟨a,b,d,_,f⟩=>⟨a,b,d,ho (Ci (by decide) a),f⟩),h.tok.lost⟩,
  ⟨λa ha=>⟨(h.q.each a ha).1,(h.q.each a ha).2.1,(h.q.each a ha).2.2.1,hq a ha,(h.q.each a ha).2.2.2.2⟩,h.q.sorted,h.q.len⟩,ht,h.samples,h.mode,h.doors⟩
theorem akm {t:aA} {i:Nat} {x:gy} {u:Int} (hu:u.toNat-1≠i):(t.ei i x).on u=t.on u:=by
 simp[aA.on,aA.de,aA.ei,hu]
theorem KB {t:aA} {u:Int} {i:Nat} {x:gy} (h:t.on u=true) (hx:x.on=true):(t.ei i x).on u=true:=by
 unfold aA.on aA.de aA.ei at*;split at h
 ·rename_i h1;rw[if_pos h1]
 ·rename_i h1;rw[if_neg h1];split at h
  ·rename_i h2;rw[if_pos h2];exact h
  ·rename_i h2;rw[if_neg h2];simp only[bg]at h⊢;refine⟨h.1,?_⟩;split
   ·exact hx
   ·exact h.2
theorem akn {p:aN} {t:aA} (h:CD p t) (l:Int):CD p (t.end_ l):=by
 unfold aA.end_;split
 ·refine⟨h.c9,λi hi iT=>?_⟩;unfold aA.ei at*;dsimp only at*;split at iT
  ·cases iT
  ·rename_i cw;rw[if_neg cw];exact h.aj i hi iT
 ·exact h
theorem aac {t:aA} {l u:Int} (hl:1<=l/\l<=3) (hu:u≠l) (h:t.on u=true):(t.end_ l).on u=true:=by
 unfold aA.end_;split
 ·by_cases h1:u=4
  ·simp[aA.on,h1]
  by_cases h2:u=0
  ·subst h2;simpa[aA.on,aA.ei]using h
  have h3:1<=u/\u<=3:=by
   unfold aA.on aA.de at h;rw[if_neg h1,if_neg h2]at h;simp at h;exact h.1
  rw[akm (by omega)];exact h
 ·exact h
theorem ako (h:Inv s.c) (hl:1<=l/\l<=3) (hm:sV m):fb C b s (s.Ao C l m) 0 l:=by
 have e0:=h.kF;unfold aa.Ao;refine yJ ?_ hl hm.seq;have hq:Quiet C b s ((({s with c:={s.c with ag:=s.c.ag.end_ l}}:aa).leave C l)):=
  Quiet.trans (t:=({s with c:={s.c with ag:=s.c.ag.end_ l}}:aa)) (aa.iA rfl rfl rfl rfl) (aab hl e0)
 have hs:=hm.seq;refine .jT ?_ (hq.trans (aa.nB (by simp) ?_))
 ·refine Inv.record ?_ ..;rcases Inv.leave (C:=C) (s:=({s with c:={s.c with ag:=s.c.ag.end_ l}}:aa)) (T:=s.c.ag) (x:=l) h with⟨h1,h2,h3,h4,h5,h6,h7⟩|hx
  ·refine Inv.A6 (T:=s.c.ag.end_ l) (Inv.KA h1 (T':=s.c.ag.end_ l) (by simpa[h3]using akn h.ag l) ?_ ?_) h2
   ·intro a ha;have tS:a∈Q.drop s.c.q l:=by simpa[h4]using ha
    simp only[Q.drop,List.mem_filter,decide_eq_true_eq]at tS;exact aac hl tS.2 (h.q.each a tS.1).2.2.2.1
   ·intro ho;refine aac hl h5 ?_;rcases h6 with h6|h6
    ·rcases h.tok.offer with h9|⟨_,_,_,h9,_⟩
     ·simp at ho h6;omega
     ·simpa[h6]using h9
    ·simp[h6]at ho
  ·omega
 ·have e1:=hq.af;constructor<;>first|(dsimp only;rw[e1];exact e0)|(simp;done)|(simp;omega)
theorem akp {X:aa} {r:aE} {k a n e w:Int} (h:Quiet C b s X) (ht:rJ (l,r)) (hk:k≠8) (hb:A4 b ⟨k,a,n,X.c.t.af,e,w⟩):Quiet C b s ((X.tell l r).record C k a n e w):=
 h.trans (Quiet.trans (aa.Gy ht) (aa.nB hk hb))
structure GG (C:aL):Prop where
 aw:∀k s n j,0<=C.aw k s n j/\C.aw k s n j<=255
 take:∀n f m,C.take n f=some m->sV m
 eh:∀w n,0<=w.high/\w.high<=4294967295->0<=n/\n<=4294967295->0<=(C.eh w n).high/\(C.eh w n).high<=4294967295
theorem aad {d:Nat->dT} (h:Inv s.c) (hd:∀i,i<3->0<=(d i).many):Inv ({s.c with doors:=d}:Core)/\Quiet C b s ({s with c:={s.c with doors:=d}}:aa):=
 ⟨⟨h.p,h.tok,h.q,h.ag,h.samples,h.mode,hd⟩,aa.iA rfl rfl rfl rfl⟩
theorem aae {n:Nat} {f:av} (hC:GG C) (h:Inv s.c) (hl:1<=l/\l<=3):fb C b s (s.kQ C l n f) 0 l:=by
 have e0:=h.kF;unfold aa.kQ;split
 ·exact GC h hl (λ_=>by omega)
 rename_i m hm;split
 ·exact wG h hl (by omega) (by omega)
 dsimp only;split
 ·exact wG h hl (by omega) (by omega)
 have hd:=h.doors (l.toNat-1) (by omega);obtain⟨i1,q1⟩:=aad (C:=C) (b:=b) h (d:=λj=>if j=l.toNat-1 then⟨(s.c.doors (l.toNat-1)).many+1,true,C.aw (s.c.p.k 3) l ((s.c.doors (l.toNat-1)).many+1)⟩else s.c.doors j)
  (λi hi=>by split<;>first|(dsimp only;omega)|exact h.doors i hi)
 refine .jT (Inv.head i1 _) (q1.trans (Quiet.trans (aa.Gy ⟨hl,aa.aj2 (hC.aw (s.c.p.k 3) l ((s.c.doors (l.toNat-1)).many+1))⟩) ?_));exact aa.nB (by simp) (by constructor<;>simp<;>omega)
theorem akq {p:aN} {t:aA} {s r:Int} {k:av} (h:(aA.dV p t s r k).2=0):
 (aA.dV p t s r k).1=t.ei (s.toNat-1) ⟨true,.start p.bW,r,k,⟨false,0,0⟩⟩/\1<=s/\s<=3/\0<=r/\r<=3:=by
 unfold aA.dV at*;split at h
 ·simp at h
 split at h
 ·simp at h
 rename_i h1 h2;rw[if_neg h1,if_neg h2];exact⟨rfl,by omega,by omega,by omega,by omega⟩
theorem akr (p:aN) (t:aA) (s r:Int) (k:av):0<=(aA.dV p t s r k).2/\(aA.dV p t s r k).2<=19:=by
 unfold aA.dV;repeat' split
 all_goals simp
theorem Inv.ei {c:Core} (h:Inv c) {i:Nat} {x:gy} (hx:x.on=true) (AF:x.eL.most=c.p.bW/\0<=x.eL.n/\x.eL.n<c.p.bW/\0<=x.role/\x.role<=3/\0<=x.seen.high/\x.seen.high<=4294967295):Inv {c with ag:=c.ag.ei i x}:=by
 refine Inv.KA (T:=c.ag) h ?_ (λa ha=>KB (h.q.each a ha).2.2.2.1 hx) (λho=>?_)
 ·refine⟨h.ag.c9,λj hj iT=>?_⟩;unfold aA.ei at*;dsimp only at*;split at iT
  ·rename_i e;rw[if_pos e];exact AF
  ·rename_i e;rw[if_neg e];exact h.ag.aj j hj iT
 ·rcases h.tok.offer with h1|⟨_,_,_,h1,_⟩
  ·omega
  ·exact KB h1 hx
theorem aaf {n:Nat} {f:av} (hC:GG C) (h:Inv s.c) (hl:1<=l/\l<=3):fb C b s (s.prove C l n f) 0 l:=by
 have e0:=h.kF;unfold aa.prove;split
 ·exact GC h hl (λ_=>by omega)
 split
 ·exact GC h hl (λ_=>by omega)
 rename_i m hm;have hmb:=hC.take _ _ _ hm;dsimp only;split
 ·exact wG h hl (by omega) (by omega)
 have hd:=h.doors (l.toNat-1) (by omega);obtain⟨i1,q1⟩:=aad (C:=C) (b:=b) h (d:=λj=>if j=l.toNat-1 then⟨(s.c.doors (l.toNat-1)).many,false,λ_=>0⟩else s.c.doors j)
  (λi hi=>by split<;>first|(dsimp only;omega)|exact h.doors i hi)
 split
 ·exact⟨i1.head _,.inl (q1.trans (Z8 (s:=⟨_,_,_⟩) i1 hl (λ_=>by omega)))⟩
 split
 ·exact⟨i1.head _,.inl (q1.trans (Re (s:=⟨_,_,_⟩) i1 hl (by omega) (by omega)))⟩
 split
 ·have h2:=akr s.c.p s.c.ag l m.role (C.key (s.c.p.k (l.toNat-1)) l m.role (s.c.doors (l.toNat-1)).aw);exact⟨i1.head _,.inl (q1.trans (Re (s:=⟨_,_,_⟩) i1 hl (by omega) ⟨h2.1,Ci h2.2 (by decide)⟩))⟩
 rename_i hz;obtain⟨g1,g2,g3,g4,g5⟩:=akq (by simpa using hz);have hb:=h.p.bW;have i2:=Inv.ei (c:={s.c with doors:=_}) i1 (i:=l.toNat-1) (x:=⟨true,.start s.c.p.bW,m.role,C.key (s.c.p.k (l.toNat-1)) l m.role (s.c.doors (l.toNat-1)).aw,⟨false,0,0⟩⟩) rfl
  ⟨by simp[Timer.start];omega,by simp[Timer.start],by simp[Timer.start];omega,g4,g5,by simp,by simp⟩
 have hh:=h.tok.ay;rw[g1];refine .jT (Inv.head i2 _) (akp (q1.trans (aa.iA rfl rfl rfl rfl)) ⟨hl,aa.aj1 ⟨g4,g5⟩ hh e0⟩ (by simp) ?_);constructor<;>simp<;>omega
theorem aag {p:aN} {t t':aA} {l:Int} {n:Nat} {f:av} {m:aY} (hC:GG C) (h:aA.take C p t l n f=(t',.ok m)):
 t.de l=true/\sV m/\m.kind≠1/\m.kind≠2/\
 t'=t.ei (l.toNat-1) {(t.aj (l.toNat-1))with seen:=C.eh (t.aj (l.toNat-1)).seen m.seq,on:=true,eL:=.start p.bW}:=by
 unfold aA.take at h;split at h
 ·simp at h
 rename_i h1;split at h
 ·simp at h
 split at h
 ·simp at h
 rename_i m' hm;split at h
 ·simp at h
 split at h
 ·simp at h
 rename_i h2 h3;simp at h;obtain⟨rfl,rfl⟩:=h;exact⟨by simpa using h1,hC.take _ _ _ hm,by omega,by omega,rfl⟩
theorem Rh {p:aN} {t t':aA} {l:Int} {n:Nat} {f:av} {e:Int} (h:aA.take C p t l n f=(t',.error e)):13<=e/\e<=16:=by
 unfold aA.take at h;split at h
 ·simp at h;omega
 split at h
 ·simp at h;omega
 split at h
 ·simp at h;omega
 split at h
 ·simp at h;omega
 split at h
 ·simp at h;omega
 ·simp at h
theorem aah (h:Inv s.c) (hl:1<=l/\l<=3) (hm:sV m) (iT:s.c.ag.on l=true) (h1:m.kind≠1) (h2:m.kind≠2):fb C b s (s.jh C l m) 0 l:=by
 have hk:=hm.kind;unfold aa.jh;split
 ·exact yJ (.jT h (Quiet.refl ..)) hl hm.seq
 split
 ·exact ako h hl hm
 split
 ·exact akk h hl hm iT
 split
 ·exact aj9 h hl hm
 split
 ·exact aj_ h hl hm
 split
 ·exact aka h hl hm
 split
 ·exact akj h hl hm
 split
 ·exact akl h hl hm
 ·omega
theorem Ri {t:aA} {l:Int} (hl:1<=l/\l<=3):t.on l=t.de l:=by
 unfold aA.on;rw[if_neg (by omega),if_neg (by omega)]
theorem fb.A6 {t:aa} {T:aA} {kind link:Int} (k:fb C b ({s with c:={s.c with ag:=T}}:aa) t kind link):fb C b s t kind link:=
 ⟨k.inv,by
  rcases k.A5 with q|⟨how,g,w⟩
  ·refine .inl (Quiet.trans ?_ q);exact aa.iA rfl rfl rfl rfl
  ·refine .inr ⟨how,Quiet.goes ?_ g,w⟩;exact aa.iA rfl rfl rfl rfl⟩
theorem aai {n:Nat} {f:av} {code:Int} (hC:GG C) (h:Inv s.c) (hl:1<=l/\l<=3) (hb:b->0<=code/\code<=255):fb C b s (s.item C l code n f) 0 l:=by
 unfold aa.item;split
 ·exact GC h hl hb
 split
 ·exact aae hC h hl
 split
 ·exact aaf hC h hl
 split
 ·rename_i t e he;have:=Rh he;exact GC h hl (λ_=>by omega)
 ·rename_i t m he;obtain⟨g1,g2,g3,g4,g5⟩:=aag hC he;have hb:=h.p.bW;have KC:s.c.ag.on l=true:=by rw[Ri hl];exact g1
  have i1:=h.ei (i:=l.toNat-1) (x:={(s.c.ag.aj (l.toNat-1))with seen:=C.eh (s.c.ag.aj (l.toNat-1)).seen m.seq,on:=true,eL:=.start s.c.p.bW}) rfl
   (by
    have iT:(s.c.ag.aj (l.toNat-1)).on=true:=by unfold aA.de at g1;simp at g1;exact g1.2
    have:=h.ag.aj (l.toNat-1) (by omega) iT;have h9:=hC.eh (s.c.ag.aj (l.toNat-1)).seen m.seq ⟨by omega,by omega⟩ g2.seq;simp[Timer.start];omega)
  subst g5;exact fb.A6 (aah (s:=⟨{s.c with ag:=_},s.bh,s.bA⟩) i1 hl g2 (KB KC rfl) g3 g4)
end Sd
namespace Go.Proofs.YtggfpcggakghnaaGreatDoor
section
open Go Go.RowKit Go.BigFrame Sx
theorem Dt (x y:Int) (hx:0<=x/\x<2^56) (hy:0<=y/\y<256):bits .or .u64 (u64.wrap (x*2^8)) y=x*256+y:=by
 have hw:u64.wrap (x*2^8)=x*256:=by rw[rY];omega
 rw[hw];obtain⟨a,rfl⟩:∃a:Nat,x=a:=⟨x.toNat,by omega⟩;obtain⟨b,rfl⟩:∃b:Nat,y=b:=⟨y.toNat,by omega⟩;have ha:a<2^56:=by omega
 have hb:b<256:=by omega
 unfold bits;have h1:(n8 64 ((a:Int)*256)).toNat=a*256:=by simp only[IG];omega
 have h2:(n8 64 (b:Int)).toNat=b:=by simp only[IG];omega
 have h3:(a*256|||b)=a*256+b:=by
  have:=Nat.shiftLeft_add_eq_or_of_lt (i:=8) (b:=b) (by omega) a;rw[Nat.shiftLeft_eq]at this;exact this.symm
 show u64.wrap (((n8 64 ((a:Int)*256)|||n8 64 (b:Int)).toNat:Nat):Int)=_;rw[BitVec.toNat_or,h1,h2,h3,rY];omega
theorem Rj (y:Int) (hy:0<=y/\y<256):bits .or .u64 0 y=y:=by
 have h:=Dt 0 y (by omega) hy;rw[show u64.wrap (0*2^8)=0 from by decide]at h;rw[h];omega
def Du (f:Nat->Int):Int:=f 0
def gm (f:Nat->Int):Int:=f 0*256+f 1
def A7 (f:Nat->Int):Int:=((f 0*256+f 1)*256+f 2)*256+f 3
def By (f:Nat->Int):Prop:=∀j,0<=f j/\f j<=255
theorem aks {f:Nat->Int} (h:By f):0<=Du f/\Du f<=255:=h 0
theorem aaj {f:Nat->Int} (h:By f):0<=gm f/\gm f<=65535:=by have:=h 0;have:=h 1;unfold gm;omega
theorem akt {f:Nat->Int} (h:By f):0<=A7 f/\A7 f<=4294967295:=by have:=h 0;have:=h 1;have:=h 2;have:=h 3;unfold A7;omega
def yK (x:Int):Int:=if 32767<x then x-65536 else x
theorem aku (b o c:Nat) (f:Nat->Int) (hf:By f) (w:ae) (hB:cd w b o 1 f):
 aS prog 178 #[.slice (some ⟨b,o,none⟩) 1 c] w λv w1=>v=.tuple #[.int .u64 (Du f),.int .i64 0]/\Ch [] w w1:=by
 have S0:=St.nil [] w;refine iL Tryz.func178 rfl ?_;refine aQ (aX ?_);refine ak (.int .u64 0) ?_;refine ak (.int .i64 0) ?_;refine aT (aP (aQ (aQ (aX ?_))));refine dJ ?_;refine ak (.int .i64 1) ?_;refine ak (.bool false) ?_;refine aT (aP (oY ?_));refine jI (aP (aQ (aX ?_)));refine ak (.int .u64 0) ?_;refine aT (aP (aQ (aQ (aX ?_))));refine dJ ?_;refine ak (.int .i64 1) ?_;refine ak (.int .i64 0) ?_;refine aT (aP (jc (EE 24 (aQ (aX ?_)))));refine ak (.bool true) ?_;refine aT (aP (aQ (vm ?_)));refine jI (aP (aQ (jc (aQ (aX ?_)))));refine ak (.int .i64 0) ?_;refine ak (.int .i64 0) ?_;refine aT (aP (aX ?_));refine ak (.int .u64 0) ?_;refine ak (.int .u64 0) ?_;refine dJ ?_;refine ak (.int .i64 0) ?_;refine qQ (e:=5) b o 0 1 1 c .i64 0 (by omega) (by omega) (by omega) ?_;refine tQ b o 1 (o+0*1) 0 f (St.lz S0 hB (by simp)) (by omega) (by omega) ?_;have zh1:=hf 0;refine kO .u64 (f 0) (vg _ (by omega)) ?_;refine n_ (.int .u64 (bits .or .u64 0 (f 0))) (.int .u64 (f 0)) (congrArg _ (Rj (f 0) (by omega))) ?_;refine ak (.int .u64 (f 0)) ?_;refine aT (lq (aP (aX ?_)));refine ak (.int .i64 1) ?_;refine ak (.int .i64 1) ?_;refine aT (vl (aQ (aX ?_)));refine ak (.bool false) ?_;refine aT (aP (aQ (oY ?_)));refine wp_exit (ln (ln (vj (aP (aQ (aX ?_))))));refine ak (.int .u64 (f 0)) ?_;refine ak (.int .u64 (f 0)) ?_;refine ak (.int .i64 0) ?_;refine aT (aP (gv ?_));refine gf rfl (fF [.tmp 2,.tmp 3] [.int .u64 (f 0),.int .i64 0] (.tuple #[.int .u64 (f 0),.int .i64 0]) ⟨jf,jf,trivial⟩) ?_;exact⟨rfl,S0.ch⟩
theorem aak (b o c:Nat) (f:Nat->Int) (hf:By f) (w:ae) (hB:cd w b o 2 f):
 aS prog 178 #[.slice (some ⟨b,o,none⟩) 2 c] w λv w1=>v=.tuple #[.int .u64 (gm f),.int .i64 0]/\Ch [] w w1:=by
 have S0:=St.nil [] w;refine iL Tryz.func178 rfl ?_;refine aQ (aX ?_);refine ak (.int .u64 0) ?_;refine ak (.int .i64 0) ?_;refine aT (aP (aQ (aQ (aX ?_))));refine dJ ?_;refine ak (.int .i64 2) ?_;refine ak (.bool false) ?_;refine aT (aP (oY ?_));refine jI (aP (aQ (aX ?_)));refine ak (.int .u64 0) ?_;refine aT (aP (aQ (aQ (aX ?_))));refine dJ ?_;refine ak (.int .i64 2) ?_;refine ak (.int .i64 0) ?_;refine aT (aP (jc (EE 24 (aQ (aX ?_)))));refine ak (.bool true) ?_;refine aT (aP (aQ (vm ?_)));refine jI (aP (aQ (jc (aQ (aX ?_)))));refine ak (.int .i64 0) ?_;refine ak (.int .i64 0) ?_;refine aT (aP (aX ?_));refine ak (.int .u64 0) ?_;refine ak (.int .u64 0) ?_;refine dJ ?_;refine ak (.int .i64 0) ?_;refine qQ (e:=5) b o 0 2 1 c .i64 0 (by omega) (by omega) (by omega) ?_;refine tQ b o 2 (o+0*1) 0 f (St.lz S0 hB (by simp)) (by omega) (by omega) ?_;have zh1:=hf 0;refine kO .u64 (f 0) (vg _ (by omega)) ?_;refine n_ (.int .u64 (bits .or .u64 0 (f 0))) (.int .u64 (f 0)) (congrArg _ (Rj (f 0) (by omega))) ?_;refine ak (.int .u64 (f 0)) ?_;refine aT (lq (aP (aX ?_)));refine ak (.int .i64 1) ?_;refine ak (.int .i64 1) ?_;refine aT (vl (aQ (aX ?_)));refine ak (.bool true) ?_;refine aT (aP (aQ (vm ?_)));refine jI (aP (aQ (jc (aQ (aX ?_)))));refine ak (.int .i64 1) ?_;refine ak (.int .i64 1) ?_;refine aT (aP (aX ?_));refine ak (.int .u64 (f 0)) ?_;refine ak (.int .u64 (u64.wrap ((f 0)*2^8))) ?_;refine dJ ?_;refine ak (.int .i64 1) ?_;refine qQ (e:=5) b o 1 2 1 c .i64 1 (by omega) (by omega) (by omega) ?_;refine tQ b o 2 (o+1*1) 1 f (St.lz S0 hB (by simp)) (by omega) (by omega) ?_;have Rk:=hf 1;refine kO .u64 (f 1) (vg _ (by omega)) ?_;refine n_ (.int .u64 (bits .or .u64 (u64.wrap ((f 0)*2^8)) (f 1))) (.int .u64 ((f 0)*256+(f 1))) (congrArg _ (Dt (f 0) (f 1) (by omega) (by omega))) ?_;refine fS ?_;refine aT (lq (aP (aX ?_)));refine ak (.int .i64 2) ?_;refine ak (.int .i64 2) ?_;refine aT (vl (aQ (aX ?_)));refine ak (.bool false) ?_;refine aT (aP (aQ (oY ?_)));refine wp_exit (ln (ln (vj (aP (aQ (aX ?_))))));refine dJ ?_;refine fS ?_;refine ak (.int .i64 0) ?_;refine aT (aP (gv ?_));refine gf rfl (fF [.tmp 2,.tmp 3] [.int .u64 ((f 0)*256+(f 1)),.int .i64 0] (.tuple #[.int .u64 ((f 0)*256+(f 1)),.int .i64 0]) ⟨jf,jf,trivial⟩) ?_;exact⟨rfl,S0.ch⟩
theorem akv (b o c:Nat) (f:Nat->Int) (hf:By f) (w:ae) (hB:cd w b o 4 f):
 aS prog 178 #[.slice (some ⟨b,o,none⟩) 4 c] w λv w1=>v=.tuple #[.int .u64 (A7 f),.int .i64 0]/\Ch [] w w1:=by
 have S0:=St.nil [] w;refine iL Tryz.func178 rfl ?_;refine aQ (aX ?_);refine ak (.int .u64 0) ?_;refine ak (.int .i64 0) ?_;refine aT (aP (aQ (aQ (aX ?_))));refine dJ ?_;refine ak (.int .i64 4) ?_;refine ak (.bool false) ?_;refine aT (aP (oY ?_));refine jI (aP (aQ (aX ?_)));refine ak (.int .u64 0) ?_;refine aT (aP (aQ (aQ (aX ?_))));refine dJ ?_;refine ak (.int .i64 4) ?_;refine ak (.int .i64 0) ?_;refine aT (aP (jc (EE 24 (aQ (aX ?_)))));refine ak (.bool true) ?_;refine aT (aP (aQ (vm ?_)));refine jI (aP (aQ (jc (aQ (aX ?_)))));refine ak (.int .i64 0) ?_;refine ak (.int .i64 0) ?_;refine aT (aP (aX ?_));refine ak (.int .u64 0) ?_;refine ak (.int .u64 0) ?_;refine dJ ?_;refine ak (.int .i64 0) ?_;refine qQ (e:=5) b o 0 4 1 c .i64 0 (by omega) (by omega) (by omega) ?_;refine tQ b o 4 (o+0*1) 0 f (St.lz S0 hB (by simp)) (by omega) (by omega) ?_;have zh1:=hf 0;refine kO .u64 (f 0) (vg _ (by omega)) ?_;refine n_ (.int .u64 (bits .or .u64 0 (f 0))) (.int .u64 (f 0)) (congrArg _ (Rj (f 0) (by omega))) ?_;refine ak (.int .u64 (f 0)) ?_;refine aT (lq (aP (aX ?_)));refine ak (.int .i64 1) ?_;refine ak (.int .i64 1) ?_;refine aT (vl (aQ (aX ?_)));refine ak (.bool true) ?_;refine aT (aP (aQ (vm ?_)));refine jI (aP (aQ (jc (aQ (aX ?_)))));refine ak (.int .i64 1) ?_;refine ak (.int .i64 1) ?_;refine aT (aP (aX ?_));refine ak (.int .u64 (f 0)) ?_;refine ak (.int .u64 (u64.wrap ((f 0)*2^8))) ?_;refine dJ ?_;refine ak (.int .i64 1) ?_;refine qQ (e:=5) b o 1 4 1 c .i64 1 (by omega) (by omega) (by omega) ?_;refine tQ b o 4 (o+1*1) 1 f (St.lz S0 hB (by simp)) (by omega) (by omega) ?_;have Rk:=hf 1;refine kO .u64 (f 1) (vg _ (by omega)) ?_;refine n_ (.int .u64 (bits .or .u64 (u64.wrap ((f 0)*2^8)) (f 1))) (.int .u64 ((f 0)*256+(f 1))) (congrArg _ (Dt (f 0) (f 1) (by omega) (by omega))) ?_;refine fS ?_;refine aT (lq (aP (aX ?_)));refine ak (.int .i64 2) ?_;refine ak (.int .i64 2) ?_;refine aT (vl (aQ (aX ?_)));refine ak (.bool true) ?_;refine aT (aP (aQ (vm ?_)));refine jI (aP (aQ (jc (aQ (aX ?_)))));refine ak (.int .i64 2) ?_;refine ak (.int .i64 2) ?_;refine aT (aP (aX ?_));refine dJ ?_;refine ak (.int .u64 (u64.wrap (((f 0)*256+(f 1))*2^8))) ?_;refine dJ ?_;refine ak (.int .i64 2) ?_;refine qQ (e:=5) b o 2 4 1 c .i64 2 (by omega) (by omega) (by omega) ?_;refine tQ b o 4 (o+2*1) 2 f (St.lz S0 hB (by simp)) (by omega) (by omega) ?_;have zh3:=hf 2;refine kO .u64 (f 2) (vg _ (by omega)) ?_;refine n_ (.int .u64 (bits .or .u64 (u64.wrap (((f 0)*256+(f 1))*2^8)) (f 2))) (.int .u64 (((f 0)*256+(f 1))*256+(f 2))) (congrArg _ (Dt ((f 0)*256+(f 1)) (f 2) (by omega) (by omega))) ?_;refine fS ?_;refine aT (lq (aP (aX ?_)));refine ak (.int .i64 3) ?_;refine ak (.int .i64 3) ?_;refine aT (vl (aQ (aX ?_)));refine ak (.bool true) ?_;refine aT (aP (aQ (vm ?_)));refine jI (aP (aQ (jc (aQ (aX ?_)))));refine ak (.int .i64 3) ?_;refine ak (.int .i64 3) ?_;refine aT (aP (aX ?_));refine dJ ?_;refine ak (.int .u64 (u64.wrap ((((f 0)*256+(f 1))*256+(f 2))*2^8))) ?_;refine dJ ?_;refine ak (.int .i64 3) ?_;refine qQ (e:=5) b o 3 4 1 c .i64 3 (by omega) (by omega) (by omega) ?_;refine tQ b o 4 (o+3*1) 3 f (St.lz S0 hB (by simp)) (by omega) (by omega) ?_;have PT:=hf 3;refine kO .u64 (f 3) (vg _ (by omega)) ?_;refine n_ (.int .u64 (bits .or .u64 (u64.wrap ((((f 0)*256+(f 1))*256+(f 2))*2^8)) (f 3))) (.int .u64 ((((f 0)*256+(f 1))*256+(f 2))*256+(f 3))) (congrArg _ (Dt (((f 0)*256+(f 1))*256+(f 2)) (f 3) (by omega) (by omega))) ?_;refine fS ?_;refine aT (lq (aP (aX ?_)));refine ak (.int .i64 4) ?_;refine ak (.int .i64 4) ?_;refine aT (vl (aQ (aX ?_)));refine ak (.bool false) ?_;refine aT (aP (aQ (oY ?_)));refine wp_exit (ln (ln (vj (aP (aQ (aX ?_))))));refine dJ ?_;refine fS ?_;refine ak (.int .i64 0) ?_;refine aT (aP (gv ?_));refine gf rfl (fF [.tmp 2,.tmp 3] [.int .u64 ((((f 0)*256+(f 1))*256+(f 2))*256+(f 3)),.int .i64 0] (.tuple #[.int .u64 ((((f 0)*256+(f 1))*256+(f 2))*256+(f 3)),.int .i64 0]) ⟨jf,jf,trivial⟩) ?_;exact⟨rfl,S0.ch⟩
theorem akw (b o c:Nat) (f:Nat->Int) (hf:By f) (w:ae) (hB:cd w b o 2 f):
 aS prog 177 #[.slice (some ⟨b,o,none⟩) 2 c] w λv w1=>v=.tuple #[.int .i64 (yK (gm f)),.int .i64 0]/\Ch [] w w1:=by
 have S0:=St.nil [] w;refine iL Tryz.func177 rfl ?_;refine aQ (aX ?_);refine ak (.int .i64 0) ?_;refine ak (.int .i64 0) ?_;refine aT (aP (aQ (aQ (aX ?_))));refine dJ ?_;refine ak (.int .i64 2) ?_;refine ak (.bool false) ?_;refine aT (aP (oY ?_));refine jI (aP (aQ (aX ?_)));refine dJ ?_;refine fu 178 #[.slice (some ⟨b,o,none⟩) 2 c] ?_;refine(aak b o c f hf _ (St.lz S0 hB (by simp))).mono ?_;rintro _ zw1 ⟨rfl,Rk⟩;have dB:=S0.quiet Rk;have PT:=aaj hf;refine dJ ?_;refine ak (.int .u64 (gm f)) ?_;refine ak (.int .i64 0) ?_;refine ak (.int .u64 (gm f)) ?_;refine ak (.int .i64 0) ?_;refine aT (aP (aQ (aQ (aX ?_))));refine ak (.int .i64 0) ?_;refine ak (.bool false) ?_;refine aT (aP (oY ?_));refine jI (aP (aQ (aX ?_)));refine ak (.int .u64 (gm f)) ?_;refine kO .i64 (gm f) (zV _ (by omega)) ?_;refine ak (.int .i64 (gm f)) ?_;refine aT (aP (aQ (aQ (aX ?_))));refine ak (.int .i64 (gm f)) ?_;refine ak (.bool (decide (32767<(gm f)))) ?_;refine aT (aP ?_);refine rZ (decide (32767<(gm f))) ?_ ?_
 ·intro FW;have zh6:=z6 FW;refine aX ?_;refine ak (.int .i64 (gm f)) ?_;refine kO .i64 ((gm f)-65536) (zV _ (by omega)) ?_;refine fS ?_;refine aT (aP (aQ (aX ?_)));refine dJ ?_;refine fS ?_;refine ak (.int .i64 0) ?_;refine aT (aP (gv ?_));refine gf rfl (fF [.tmp 2,.tmp 3] [.int .i64 ((gm f)-65536),.int .i64 0] (.tuple #[.int .i64 ((gm f)-65536),.int .i64 0]) ⟨jf,jf,trivial⟩) ?_;have ze:yK (gm f)=((gm f)-65536):=by unfold yK;split<;>omega
  exact⟨by(rw[ze])<;>rfl,dB.ch⟩
 intro v8;have ov:=z7 v8;refine jI (aP (aQ (aX ?_)));refine ak (.int .i64 (gm f)) ?_;refine ak (.int .i64 (gm f)) ?_;refine ak (.int .i64 0) ?_;refine aT (aP (gv ?_));refine gf rfl (fF [.tmp 2,.tmp 3] [.int .i64 (gm f),.int .i64 0] (.tuple #[.int .i64 (gm f),.int .i64 0]) ⟨jf,jf,trivial⟩) ?_;have ze:yK (gm f)=(gm f):=by unfold yK;split<;>omega
 exact⟨by(rw[ze])<;>rfl,dB.ch⟩
end
section
open Go Go.RowKit Go.BigFrame Sx Vx
def Rl (t:Sd.Timer):List V:=[.int .i64 t.n,.int .i64 t.most]
def KD:List V->Option Sd.Timer
 |[.int .i64 x0,.int .i64 x1]=>some ⟨x0,x1⟩
 |_=>none
theorem aal {l:List V} {t:Sd.Timer} (h:KD l=some t):l=Rl t:=by
 unfold KD at h;split at h
 ·obtain rfl:=cA h;rfl
 ·cases h
def x4L (t:Sd.X4):List V:=[.int .i64 t.a,.int .i64 t.b,.int .i64 t.c,.int .i64 t.d]
def KE:List V->Option Sd.X4
 |[.int .i64 x0,.int .i64 x1,.int .i64 x2,.int .i64 x3]=>some ⟨x0,x1,x2,x3⟩
 |_=>none
theorem aam {l:List V} {t:Sd.X4} (h:KE l=some t):l=x4L t:=by
 unfold KE at h;split at h
 ·obtain rfl:=cA h;rfl
 ·cases h
def mI (t:Sd.Label):List V:=[.int .i64 t.mz,.int .i64 t.source,.int .i64 t.seq]
def GH:List V->Option Sd.Label
 |[.int .i64 x0,.int .i64 x1,.int .i64 x2]=>some ⟨x0,x1,x2⟩
 |_=>none
theorem Rn {l:List V} {t:Sd.Label} (h:GH l=some t):l=mI t:=by
 unfold GH at h;split at h
 ·obtain rfl:=cA h;rfl
 ·cases h
def cX (t:Sd.Tok):List V:=[.int .i64 t.ay,.int .i64 t.af,.int .i64 t.offer,.int .i64 t.oa.n,.int .i64 t.oa.most,.int .i64 t.la.n,.int .i64 t.la.most,.bool t.bad]
def kg:List V->Option Sd.Tok
 |[.int .i64 x0,.int .i64 x1,.int .i64 x2,.int .i64 x3,.int .i64 x4,.int .i64 x5,.int .i64 x6,.bool x7]=>some ⟨x0,x1,x2,⟨x3,x4⟩,⟨x5,x6⟩,x7⟩
 |_=>none
theorem nC {l:List V} {t:Sd.Tok} (h:kg l=some t):l=cX t:=by
 unfold kg at h;split at h
 ·obtain rfl:=cA h;rfl
 ·cases h
def yL (t:Sd.eF):List V:=[.int .i64 t.cls,.int .i64 t.aU.a,.int .i64 t.aU.b,.int .i64 t.aU.c,.int .i64 t.aU.d,.int .i64 t.now.a,.int .i64 t.now.b,.int .i64 t.now.c,.int .i64 t.now.d,.int .i64 t.bI.mz,.int .i64 t.bI.source,.int .i64 t.bI.seq]
def GI:List V->Option Sd.eF
 |[.int .i64 x0,.int .i64 x1,.int .i64 x2,.int .i64 x3,.int .i64 x4,.int .i64 x5,.int .i64 x6,.int .i64 x7,.int .i64 x8,.int .i64 x9,.int .i64 Ro,.int .i64 Rp]=>some ⟨x0,⟨x1,x2,x3,x4⟩,⟨x5,x6,x7,x8⟩,⟨x9,Ro,Rp⟩⟩
 |_=>none
theorem Rq {l:List V} {t:Sd.eF} (h:GI l=some t):l=yL t:=by
 unfold GI at h;split at h
 ·obtain rfl:=cA h;rfl
 ·cases h
def cI (t:Sd.aY):List V:=[.int .i64 t.kind,.int .i64 t.seq,.int .i64 t.role,.int .i64 t.aU,.int .i64 t.af,.int .i64 t.mode,.int .i64 t.cls,.bool t.now,.int .i64 t.x.a,.int .i64 t.x.b,.int .i64 t.x.c,.int .i64 t.x.d]
def yM:List V->Option Sd.aY
 |[.int .i64 x0,.int .i64 x1,.int .i64 x2,.int .i64 x3,.int .i64 x4,.int .i64 x5,.int .i64 x6,.bool x7,.int .i64 x8,.int .i64 x9,.int .i64 Ro,.int .i64 Rp]=>some ⟨x0,x1,x2,x3,x4,x5,x6,x7,⟨x8,x9,Ro,Rp⟩⟩
 |_=>none
theorem Dv {l:List V} {t:Sd.aY} (h:yM l=some t):l=cI t:=by
 unfold yM at h;split at h
 ·obtain rfl:=cA h;rfl
 ·cases h
theorem aan (ids:List Nat) (t:Sd.aY):den ids (.agg (cI t))=.agg (Kn t):=rfl
def oz (t:Sd.g9):List V:=[.bool t.valid,.int .i64 t.x.a,.int .i64 t.x.b,.int .i64 t.x.c,.int .i64 t.x.d,.bool t.Al]
def Dw:List V->Option Sd.g9
 |[.bool x0,.int .i64 x1,.int .i64 x2,.int .i64 x3,.int .i64 x4,.bool x5]=>some ⟨x0,⟨x1,x2,x3,x4⟩,x5⟩
 |_=>none
theorem KG {l:List V} {t:Sd.g9} (h:Dw l=some t):l=oz t:=by
 unfold Dw at h;split at h
 ·obtain rfl:=cA h;rfl
 ·cases h
def aao (t:Sd.gx):List V:=[.bool t.any,.int .i64 t.high,.int .u64 t.seen]
def Rr:List V->Option Sd.gx
 |[.bool x0,.int .i64 x1,.int .u64 x2]=>some ⟨x0,x1,x2⟩
 |_=>none
theorem akx {l:List V} {t:Sd.gx} (h:Rr l=some t):l=aao t:=by
 unfold Rr at h;split at h
 ·obtain rfl:=cA h;rfl
 ·cases h
def KH (t:Sd.Ask):List V:=[.int .i64 t.source,.int .i64 t.bC,.int .i64 t.gj.n,.int .i64 t.gj.most]
def KI:List V->Option Sd.Ask
 |[.int .i64 x0,.int .i64 x1,.int .i64 x2,.int .i64 x3]=>some ⟨x0,x1,⟨x2,x3⟩⟩
 |_=>none
theorem aky {l:List V} {t:Sd.Ask} (h:KI l=some t):l=KH t:=by
 unfold KI at h;split at h
 ·obtain rfl:=cA h;rfl
 ·cases h
def Rs:QF:=⟨78,λargs _=>match args with
 |[.int .i64 n,.int .i64 m]=>some ((-9223372036854775808<=n/\n<=9223372036854775807)/\(-9223372036854775808<=m/\m<=9223372036854775807),.int .i64 (Sd.sat n m))
 |_=>none⟩
theorem akz (gl:Nat->Option Nat):Rs.Ok prog gl:=by
 intro args bl p_ v_ h hp ids w _ _;unfold Rs at h;dsimp only at h;split at h
 ·rename_i n m;simp only[aV,bw]at h;obtain⟨rfl,rfl⟩:=h;obtain⟨Zt,Gk⟩:=hp;exact told (aiw n m Zt Gk w)
 ·cases h
def Rt:QF:=⟨183,λargs _=>match args with
 |[.int .i64 n,.int .i64 lo,.int .i64 hi]=>some (True,.int .i64 (Sd.tR n lo hi))
 |_=>none⟩
theorem akA (gl:Nat->Option Nat):Rt.Ok prog gl:=by
 intro args bl p_ v_ h hp ids w _ _;unfold Rt at h;dsimp only at h;split at h
 ·rename_i n lo hi;simp only[aV,bw]at h;obtain⟨rfl,rfl⟩:=h;exact told (Zu n lo hi w)
 ·cases h
def Ru:QF:=⟨142,λargs _=>match args with
 |[.int .i64 nw,.int .i64 t,.int .i64 b]=>some ((-9223372036854775808<=nw/\nw<=9223372036854775807)/\(-9223372036854775808<=t/\t<=9223372036854775807)/\(-9223372036854775808<=b/\b<=9223372036854775807),.int .i64 (Sd.qU nw t b))
 |_=>none⟩
theorem akB (gl:Nat->Option Nat):Ru.Ok prog gl:=by
 intro args bl p_ v_ h hp ids w _ _;unfold Ru at h;dsimp only at h;split at h
 ·rename_i nw t b;simp only[aV,bw]at h;obtain⟨rfl,rfl⟩:=h;obtain⟨Zx,Zy,Zz⟩:=hp;exact told (Zw nw t b Zx Zy Zz w)
 ·cases h
def Rv:QF:=⟨189,λargs _=>match args with
 |[.int .i64 s,.int .i64 i]=>some (True,.bool (Sd.has s i))
 |_=>none⟩
theorem akC (gl:Nat->Option Nat):Rv.Ok prog gl:=by
 intro args bl p_ v_ h hp ids w _ _;unfold Rv at h;dsimp only at h;split at h
 ·rename_i s i;simp only[aV,bw]at h;obtain⟨rfl,rfl⟩:=h;exact told (ZA s i w)
 ·cases h
def Rw:QF:=⟨179,λargs _=>match args with
 |[.int .i64 m]=>some ((-9223372036854775808<=m/\m<=9223372036854775807),.agg (Rl (Sd.Timer.start m)))
 |_=>none⟩
theorem akD (gl:Nat->Option Nat):Rw.Ok prog gl:=by
 intro args bl p_ v_ h hp ids w _ _;unfold Rw at h;dsimp only at h;split at h
 ·rename_i m;simp only[aV,bw]at h;obtain⟨rfl,rfl⟩:=h;have Gk:=hp;exact told (aiC m Gk w)
 ·cases h
def Rx:QF:=⟨138,λargs _=>match args with
 |[.agg gd]=>(match KD gd with|some t=>some ((-9223372036854775808<=t.n/\t.n<=9223372036854775807)/\(-9223372036854775808<=t.most/\t.most<=9223372036854775807),.agg (Rl (Sd.Timer.step t)))|none=>none)
 |_=>none⟩
theorem akE (gl:Nat->Option Nat):Rx.Ok prog gl:=by
 intro args bl p_ v_ h hp ids w _ _;unfold Rx at h;dsimp only at h;split at h
 ·rename_i gd;split at h
  ·rename_i t kh;simp only[aV,bw]at h;obtain⟨rfl,rfl⟩:=h;obtain rfl:=aal kh;obtain⟨ZD,ZE⟩:=hp;exact told (ZC t ZD ZE w)
  ·cases h
 ·cases h
def Ry:QF:=⟨139,λargs _=>match args with
 |[.agg gd]=>(match KD gd with|some t=>some (True,.bool (Sd.Timer.due t))|none=>none)
 |_=>none⟩
theorem akF (gl:Nat->Option Nat):Ry.Ok prog gl:=by
 intro args bl p_ v_ h hp ids w _ _;unfold Ry at h;dsimp only at h;split at h
 ·rename_i gd;split at h
  ·rename_i t kh;simp only[aV,bw]at h;obtain⟨rfl,rfl⟩:=h;obtain rfl:=aal kh;exact told (ZF t w)
  ·cases h
 ·cases h
def Rz:QF:=⟨130,λargs _=>match args with
 |[.agg gd,.int .i64 o]=>(match kg gd with|some t=>some ((-9223372036854775808<=t.af/\t.af<=9223372036854775807),.an [.agg (cX ((Sd.Tok.cY t o).1)),.int .i64 ((Sd.Tok.cY t o).2)])|none=>none)
 |_=>none⟩
theorem akH (gl:Nat->Option Nat):Rz.Ok prog gl:=by
 intro args bl p_ v_ h hp ids w _ _;unfold Rz at h;dsimp only at h;split at h
 ·rename_i gd o;split at h
  ·rename_i t kh;simp only[aV,bw]at h;obtain⟨rfl,rfl⟩:=h;obtain rfl:=nC kh;have uo:=hp;exact told (aiG t o uo w)
  ·cases h
 ·cases h
def RA:QF:=⟨84,λargs _=>match args with
 |[.agg gd]=>(match kg gd with|some t=>some ((-9223372036854775808<=t.af/\t.af<=9223372036854775807),.agg (cX (Sd.Tok.fY t)))|none=>none)
 |_=>none⟩
theorem akI (gl:Nat->Option Nat):RA.Ok prog gl:=by
 intro args bl p_ v_ h hp ids w _ _;unfold RA at h;dsimp only at h;split at h
 ·rename_i gd;split at h
  ·rename_i t kh;simp only[aV,bw]at h;obtain⟨rfl,rfl⟩:=h;obtain rfl:=nC kh;have uo:=hp;exact told (aiI t uo w)
  ·cases h
 ·cases h
def RC:QF:=⟨137,λargs _=>match args with
 |[.agg gd]=>(match kg gd with|some t=>some (True,.bool (decide (0<=t.offer)))|none=>none)
 |_=>none⟩
theorem akJ (gl:Nat->Option Nat):RC.Ok prog gl:=by
 intro args bl p_ v_ h hp ids w _ _;unfold RC at h;dsimp only at h;split at h
 ·rename_i gd;split at h
  ·rename_i t kh;simp only[aV,bw]at h;obtain⟨rfl,rfl⟩:=h;obtain rfl:=nC kh;exact told (open_ t w)
  ·cases h
 ·cases h
def RD:QF:=⟨140,λargs _=>match args with
 |[.agg gd]=>(match kg gd with|some t=>some (True,.agg (cX (Sd.Tok.ir t)))|none=>none)
 |_=>none⟩
theorem akK (gl:Nat->Option Nat):RD.Ok prog gl:=by
 intro args bl p_ v_ h hp ids w _ _;unfold RD at h;dsimp only at h;split at h
 ·rename_i gd;split at h
  ·rename_i t kh;simp only[aV,bw]at h;obtain⟨rfl,rfl⟩:=h;obtain rfl:=nC kh;exact told (QE t w)
  ·cases h
 ·cases h
def RE:QF:=⟨217,λargs _=>match args with
 |[.agg [.eo p ka kn kc],.int .i64 s]=>some (True,.int .i64 (Sd.placeOf p s))
 |_=>none⟩
theorem akL (gl:Nat->Option Nat):RE.Ok prog gl:=by
 intro args bl p_ v_ h hp ids w _ _;unfold RE at h;dsimp only at h;split at h
 ·rename_i p ka kn kc s;simp only[aV,bw]at h;obtain⟨rfl,rfl⟩:=h;exact told (aiQ p ka kn kc s w)
 ·cases h
def RF:QF:=⟨215,λargs _=>match args with
 |[.agg [.eo p ka kn kc],.int .i64 a,.int .i64 b]=>some (True,.bool (Sd.fw p a b))
 |_=>none⟩
theorem akM (gl:Nat->Option Nat):RF.Ok prog gl:=by
 intro args bl p_ v_ h hp ids w _ _;unfold RF at h;dsimp only at h;split at h
 ·rename_i p ka kn kc a b;simp only[aV,bw]at h;obtain⟨rfl,rfl⟩:=h;exact told (aiR p ka kn kc a b w)
 ·cases h
def RG:QF:=⟨144,λargs _=>match args with
 |[.agg [.eo p ka kn kc],.int .i64 s,.int .i64 r]=>some (True,.bool (Sd.iq p s r))
 |_=>none⟩
theorem akN (gl:Nat->Option Nat):RG.Ok prog gl:=by
 intro args bl p_ v_ h hp ids w _ _;unfold RG at h;dsimp only at h;split at h
 ·rename_i p ka kn kc s r;simp only[aV,bw]at h;obtain⟨rfl,rfl⟩:=h;exact told (aiV p ka kn kc s r w)
 ·cases h
def RH:QF:=⟨182,λargs _=>match args with
 |[.agg [.eo p ka kn kc],.int .i64 a,.int .i64 b]=>some (True,.bool (Sd.goes p a b))
 |_=>none⟩
theorem akO (gl:Nat->Option Nat):RH.Ok prog gl:=by
 intro args bl p_ v_ h hp ids w _ _;unfold RH at h;dsimp only at h;split at h
 ·rename_i p ka kn kc a b;simp only[aV,bw]at h;obtain⟨rfl,rfl⟩:=h;exact told (aiX p ka kn kc a b w)
 ·cases h
def RI:QF:=⟨181,λargs _=>match args with
 |[.agg [.eo p ka kn kc],.int .i64 m,.int .i64 r,.int .i64 c]=>some (True,.bool (Sd.may p m r c))
 |_=>none⟩
theorem akQ (gl:Nat->Option Nat):RI.Ok prog gl:=by
 intro args bl p_ v_ h hp ids w _ _;unfold RI at h;dsimp only at h;split at h
 ·rename_i p ka kn kc m r c;simp only[aV,bw]at h;obtain⟨rfl,rfl⟩:=h;exact told (aiZ p ka kn kc m r c w)
 ·cases h
def RJ:QF:=⟨30,λargs _=>match args with
 |[.agg [.eo p ka kn kc]]=>some (True,.agg (cX (Sd.Tok.new p)))
 |_=>none⟩
theorem akS (gl:Nat->Option Nat):RJ.Ok prog gl:=by
 intro args bl p_ v_ h hp ids w _ _;unfold RJ at h;dsimp only at h;split at h
 ·rename_i p ka kn kc;simp only[aV,bw]at h;obtain⟨rfl,rfl⟩:=h;exact told (ZL p ka kn kc w)
 ·cases h
def RK:QF:=⟨199,λargs _=>match args with
 |[.agg gd,.int .i64 f,.int .i64 e]=>(match kg gd with|some t=>some ((-9223372036854775808<=t.af/\t.af<=9223372036854775807),.an [.agg (cX ((Sd.Tok.accept t f e).1)),.int .i64 ((Sd.Tok.accept t f e).2)])|none=>none)
 |_=>none⟩
theorem akT (gl:Nat->Option Nat):RK.Ok prog gl:=by
 intro args bl p_ v_ h hp ids w _ _;unfold RK at h;dsimp only at h;split at h
 ·rename_i gd f e;split at h
  ·rename_i t kh;simp only[aV,bw]at h;obtain⟨rfl,rfl⟩:=h;obtain rfl:=nC kh;have uo:=hp;exact told (ai3 t f e uo w)
  ·cases h
 ·cases h
def RL:QF:=⟨200,λargs _=>match args with
 |[.agg gd,.int .i64 f]=>(match kg gd with|some t=>some (True,.an [.agg (cX ((Sd.Tok.fy t f).1)),.int .i64 ((Sd.Tok.fy t f).2)])|none=>none)
 |_=>none⟩
theorem akU (gl:Nat->Option Nat):RL.Ok prog gl:=by
 intro args bl p_ v_ h hp ids w _ _;unfold RL at h;dsimp only at h;split at h
 ·rename_i gd f;split at h
  ·rename_i t kh;simp only[aV,bw]at h;obtain⟨rfl,rfl⟩:=h;obtain rfl:=nC kh;exact told (ai5 t f w)
  ·cases h
 ·cases h
def RM:QF:=⟨136,λargs _=>match args with
 |[.agg gd,.int .i64 s]=>(match kg gd with|some t=>some (True,.an [.agg (cX ((Sd.Tok.drop t s).1)),.bool ((Sd.Tok.drop t s).2)])|none=>none)
 |_=>none⟩
theorem akV (gl:Nat->Option Nat):RM.Ok prog gl:=by
 intro args bl p_ v_ h hp ids w _ _;unfold RM at h;dsimp only at h;split at h
 ·rename_i gd s;split at h
  ·rename_i t kh;simp only[aV,bw]at h;obtain⟨rfl,rfl⟩:=h;obtain rfl:=nC kh;exact told (ai7 t s w)
  ·cases h
 ·cases h
def RN:QF:=⟨92,λargs _=>match args with
 |[.agg gd]=>(match kg gd with|some t=>some ((-9223372036854775808<=t.oa.n/\t.oa.n<=9223372036854775807)/\(-9223372036854775808<=t.oa.most/\t.oa.most<=9223372036854775807),.an [.agg (cX ((Sd.Tok.tick t).1)),.int .i64 ((Sd.Tok.tick t).2)])|none=>none)
 |_=>none⟩
theorem akW (gl:Nat->Option Nat):RN.Ok prog gl:=by
 intro args bl p_ v_ h hp ids w _ _;unfold RN at h;dsimp only at h;split at h
 ·rename_i gd;split at h
  ·rename_i t kh;simp only[aV,bw]at h;obtain⟨rfl,rfl⟩:=h;obtain rfl:=nC kh;obtain⟨ZM,ZN⟩:=hp;exact told (ai8 t ZM ZN w)
  ·cases h
 ·cases h
def RO:QF:=⟨198,λargs _=>match args with
 |[.agg [.eo p ka kn kc],.agg gd,.int .i64 f,.int .i64 o,.bool th]=>(match kg gd with|some t=>some ((Sd.eO p),.an [.agg (cX ((Sd.Tok.make p t f o th).1)),.int .i64 ((Sd.Tok.make p t f o th).2)])|none=>none)
 |_=>none⟩
theorem akX (gl:Nat->Option Nat):RO.Ok prog gl:=by
 intro args bl p_ v_ h hp ids w _ _;unfold RO at h;dsimp only at h;split at h
 ·rename_i p ka kn kc gd f o th;split at h
  ·rename_i t kh;simp only[aV,bw]at h;obtain⟨rfl,rfl⟩:=h;obtain rfl:=nC kh;have hp:=hp;exact told (ai_ p ka kn kc t f o th hp w)
  ·cases h
 ·cases h
def RP:QF:=⟨129,λargs _=>match args with
 |[.agg [.eo p ka kn kc],.agg yN,.int .i64 c,.agg GJ,.agg GK]=>(match GI yN with|some pt=>(match KE GJ with|some y=>(match GH GK with|some b=>some ((Sd.eO p),.agg (yL (Sd.eF.set p pt c y b)))|none=>none)|none=>none)|none=>none)
 |_=>none⟩
theorem akY (gl:Nat->Option Nat):RP.Ok prog gl:=by
 intro args bl p_ v_ h hp ids w _ _;unfold RP at h;dsimp only at h;split at h
 ·rename_i p ka kn kc yN c GJ GK;split at h
  ·rename_i pt GL;split at h
   ·rename_i y RQ;split at h
    ·rename_i b RR;simp only[aV,bw]at h;obtain⟨rfl,rfl⟩:=h;obtain rfl:=Rq GL;obtain rfl:=aam RQ;obtain rfl:=Rn RR;have hp:=hp;exact told (ajb p ka kn kc pt c y b hp w)
    ·cases h
   ·cases h
  ·cases h
 ·cases h
def RT:QF:=⟨134,λargs _=>match args with
 |[.agg yN,.agg GK]=>(match GI yN with|some pt=>(match GH GK with|some b=>some (True,.agg (yL (Sd.eF.hold pt b)))|none=>none)|none=>none)
 |_=>none⟩
theorem akZ (gl:Nat->Option Nat):RT.Ok prog gl:=by
 intro args bl p_ v_ h hp ids w _ _;unfold RT at h;dsimp only at h;split at h
 ·rename_i yN GK;split at h
  ·rename_i pt GL;split at h
   ·rename_i b RR;simp only[aV,bw]at h;obtain⟨rfl,rfl⟩:=h;obtain rfl:=Rq GL;obtain rfl:=Rn RR;exact told (ajd pt b w)
   ·cases h
  ·cases h
 ·cases h
def RU:QF:=⟨126,λargs _=>match args with
 |[.int .i64 m,.agg GJ]=>(match KE GJ with|some y=>some ((0<=m/\m<=1000),.bool (Sd.nf m y))|none=>none)
 |_=>none⟩
theorem ak0 (gl:Nat->Option Nat):RU.Ok prog gl:=by
 intro args bl p_ v_ h hp ids w _ _;unfold RU at h;dsimp only at h;split at h
 ·rename_i m GJ;split at h
  ·rename_i y RQ;simp only[aV,bw]at h;obtain⟨rfl,rfl⟩:=h;obtain rfl:=aam RQ;have hm:=hp;exact told (ZP m y hm w)
  ·cases h
 ·cases h
def RV:QF:=⟨80,λargs _=>match args with
 |[.agg [.eo p ka kn kc],.int .i64 r,.agg l_s]=>(match Dw l_s with|some s=>some ((Sd.eO p)/\(-9223372036854775808<=r/\r<=9223372036854775807),.an [.int .i64 ((Sd.eh p r s).1),.bool ((Sd.eh p r s).2)])|none=>none)
 |_=>none⟩
theorem ak1 (gl:Nat->Option Nat):RV.Ok prog gl:=by
 intro args bl p_ v_ h hp ids w _ _;unfold RV at h;dsimp only at h;split at h
 ·rename_i p ka kn kc r l_s;split at h
  ·rename_i s e_s;simp only[aV,bw]at h;obtain⟨rfl,rfl⟩:=h;obtain rfl:=KG e_s;obtain⟨hp,ZR⟩:=hp;exact told (ajh p ka kn kc r s hp ZR w)
  ·cases h
 ·cases h
def RW:QF:=⟨95,λargs _=>match args with
 |[.agg [.eo p ka kn kc],.agg yN]=>(match GI yN with|some pt=>some ((Sd.eO p)/\(-9223372036854775808<=pt.aU.a/\pt.aU.a<=9223372036854775807)/\(-9223372036854775808<=pt.aU.b/\pt.aU.b<=9223372036854775807)/\(-9223372036854775808<=pt.aU.c/\pt.aU.c<=9223372036854775807)/\(-9223372036854775808<=pt.aU.d/\pt.aU.d<=9223372036854775807)/\(-9223372036854775808<=pt.now.a/\pt.now.a<=9223372036854775807)/\(-9223372036854775808<=pt.now.b/\pt.now.b<=9223372036854775807)/\(-9223372036854775808<=pt.now.c/\pt.now.c<=9223372036854775807)/\(-9223372036854775808<=pt.now.d/\pt.now.d<=9223372036854775807),.agg (yL (Sd.eF.step p pt)))|none=>none)
 |_=>none⟩
theorem ak2 (gl:Nat->Option Nat):RW.Ok prog gl:=by
 intro args bl p_ v_ h hp ids w _ _;unfold RW at h;dsimp only at h;split at h
 ·rename_i p ka kn kc yN;split at h
  ·rename_i pt GL;simp only[aV,bw]at h;obtain⟨rfl,rfl⟩:=h;obtain rfl:=Rq GL;obtain⟨hp,QY,QZ,Q0,Q1,Q2,Q3,Q4,Q5⟩:=hp;exact told (ajj p ka kn kc pt hp QY QZ Q0 Q1 Q2 Q3 Q4 Q5 w)
  ·cases h
 ·cases h
def QV:List QF:=[Rs,Rt,Ru,Rv,Rw,Rx,Ry,Rz,RA,RC,RD,RE,RF,RG,RH,RI,RJ,RK,RL,RM,RN,RO,RP,RT,RU,RV,RW]
theorem GM (gl:Nat->Option Nat):bH prog gl QV:=(bH.cons (akz gl) (bH.cons (akA gl) (bH.cons (akB gl) (bH.cons (akC gl) (bH.cons (akD gl) (bH.cons (akE gl) (bH.cons (akF gl) (bH.cons (akH gl) (bH.cons (akI gl) (bH.cons (akJ gl) (bH.cons (akK gl) (bH.cons (akL gl) (bH.cons (akM gl) (bH.cons (akN gl) (bH.cons (akO gl) (bH.cons (akQ gl) (bH.cons (akS gl) (bH.cons (akT gl) (bH.cons (akU gl) (bH.cons (akV gl) (bH.cons (akW gl) (bH.cons (akX gl) (bH.cons (akY gl) (bH.cons (akZ gl) (bH.cons (ak0 gl) (bH.cons (ak1 gl) (bH.cons (ak2 gl) bH.nil)))))))))))))))))))))))))))
def KJ (args:List V) (bl:List VB):Option (Nat×Nat×Nat×Nat×(Nat->Int)):=match args with
 |[.sl i off n c]=>(match bl[i]?with
  |some b=>(match xV b.c off n with
   |some [.bJ .u8 m f]=>some (i,off,n,c,f)
   |_=>none)
  |none=>none)
 |_=>none
theorem aap {args:List V} {bl:List VB} {i off n c:Nat} {f:Nat->Int} (h:KJ args bl=some (i,off,n,c,f)) {ids:List Nat} {w:ae} (hm:Mem ids bl w):args=[.sl i off n c]/\cd w (ids.getD i 0) off n f:=by
 unfold KJ at h;split at h
 ·split at h
  ·rename_i i' Oe n' c' b hb;split at h
   ·rename_i m g hg;simp only[aV,bw]at h;obtain⟨rfl,rfl,rfl,rfl,rfl⟩:=h;refine⟨rfl,?_⟩;obtain⟨h1,h2,h3⟩:=xW (ids:=ids) hg;have aM:=hm.2 _ b hb;intro j hj;rw[cell_of aM];have e:(ah ids [V.bJ .u8 m g])=(bd m).map λj=>eg .u8 (g j):=by simp[ah,cl]
    rw[e]at h1 h2;simp at h2;have h4:=congrArg (λl=>l[j]?) h1;simp only[NH,Ez,iZ]at h4;rw[if_pos hj]at h4;have h5:(bd m)[j]?=some j:=by rw[m9 (by omega)]
    rw[h5]at h4;simpa using h4
   ·cases h
  ·cases h
 ·cases h
def RX:QF:=⟨178,λargs bl=>match KJ args bl with
 |some (i,off,n,c,f)=>bif aq n 1 then some (By f,.an [.int .u64 (Du f),.int .i64 0])else bif aq n 2 then some (By f,.an [.int .u64 (gm f),.int .i64 0])else bif aq n 4 then some (By f,.an [.int .u64 (A7 f),.int .i64 0])else none
 |none=>none⟩
def RY:QF:=⟨177,λargs bl=>match KJ args bl with
 |some (i,off,n,c,f)=>bif aq n 2 then some (By f,.an [.int .i64 (yK (gm f)),.int .i64 0])else none
 |none=>none⟩
theorem ak3 (gl:Nat->Option Nat):RX.Ok prog gl:=by
 intro args bl p v h hp ids w hg hm;unfold RX at h;dsimp only at h;split at h
 ·rename_i i off n c f hA;obtain⟨rfl,h8⟩:=aap hA hm;cases h1:aq n 1 with
  |true=>
   rw[h1]at h;obtain rfl:=ck h1;simp only[cond_true,aV,bw]at h;obtain⟨rfl,rfl⟩:=h;exact aku _ _ _ f hp w h8
  |false=>
   cases h2:aq n 2 with
   |true=>
    rw[h1,h2]at h;obtain rfl:=ck h2;simp only[cond_true,cond_false,aV,bw]at h;obtain⟨rfl,rfl⟩:=h;exact aak _ _ _ f hp w h8
   |false=>
    cases h4:aq n 4 with
    |true=>
     rw[h1,h2,h4]at h;obtain rfl:=ck h4;simp only[cond_true,cond_false,aV,bw]at h;obtain⟨rfl,rfl⟩:=h;exact akv _ _ _ f hp w h8
    |false=>rw[h1,h2,h4]at h;cases h
 ·cases h
theorem ak4 (gl:Nat->Option Nat):RY.Ok prog gl:=by
 intro args bl p v h hp ids w hg hm;unfold RY at h;dsimp only at h;split at h
 ·rename_i i off n c f hA;obtain⟨rfl,h8⟩:=aap hA hm;cases h2:aq n 2 with
  |true=>
   rw[h2]at h;obtain rfl:=ck h2;simp only[cond_true,aV,bw]at h;obtain⟨rfl,rfl⟩:=h;exact akw _ _ _ f hp w h8
  |false=>rw[h2]at h;cases h
 ·cases h
def LTk:List QF:=[RX,RY]
def lC:Nat->Option Nat:=λ_=>none
structure Fd where
 sz:Nat
 sg:Bool
 low:Int
 high:Int
 at_:Nat
 b:Bool
def Fd.val (d:Fd) (g:Nat->Int):Int:=bif d.sg then yK (gm g)else bif aq d.sz 1 then i64.wrap (Du g)else bif aq d.sz 2 then i64.wrap (gm g)else i64.wrap (A7 g)
def Fd.up (d:Fd) (g:Nat->Int) (m:List V):List V:=lW m d.at_ (bif d.b then .bool (d.val g==1)else .int .i64 (d.val g))
def nD:V:=.an [.agg [.int .i64 0,.int .i64 0,.int .i64 0,.int .i64 0,.int .i64 0,.int .i64 0,.int .i64 0,.bool false,.int .i64 0,.int .i64 0,.int .i64 0,.int .i64 0],.int .i64 13]
def Dx (n:Nat) (f:Nat->Int) (X:V->Prop):List Fd->Nat->List V->Prop
 |[],off,m=>bif aq (n-off) 0 then X (.an [.agg m,.int .i64 0])else X nD
 |d::l,off,m=>bif cu (n-off) d.sz then X nD else
  By (λj=>f (off+j))/\cond (decide (d.val (λj=>f (off+j))<d.low)) (X nD) (cond (decide (d.val (λj=>f (off+j))>d.high)) (X nD) (Dx n f X l (off+d.sz) (d.up (λj=>f (off+j)) m)))
def h_:Fd:=⟨4,false,0,4294967295,1,false⟩
def uv:Fd:=⟨1,false,0,3,2,false⟩
def yO:Fd:=⟨1,false,0,4,3,false⟩
def mJ:Fd:=⟨2,false,0,65535,4,false⟩
def wH:Fd:=⟨1,false,0,4,5,false⟩
def uw:Fd:=⟨1,false,1,3,6,false⟩
def yP:Fd:=⟨1,false,0,1,7,true⟩
def fX (i:Nat):Fd:=⟨2,true,-32768,32767,8+i,false⟩
def pW (f:Nat->Int):Int:=i64.wrap (f 0)
def m0 (f:Nat->Int):List V:=[.int .i64 (pW f),.int .i64 0,.int .i64 0,.int .i64 0,.int .i64 0,.int .i64 0,.int .i64 0,.bool false,.int .i64 0,.int .i64 0,.int .i64 0,.int .i64 0]
def yQ:Nat->List V
 |0=>[]
 |n+1=>.bool false::.bool false::.bool false::.bool false::.bool false::yQ n
def kG (n:Nat) (f:Nat->Int) (X:V->Prop):Prop:=
 let T (l:List Fd):Prop:=Dx n f X l 1 (m0 f)
 let T1:=T [uv]
 let T3:=T [h_]
 cond (pW f==1) T1 (cond (pW f==2) T1 (cond (pW f==3) T3 (cond (pW f==4) T3 (cond (pW f==8) T3 (cond (pW f==9) T3 (cond (pW f==5) (T [h_,yP]) (cond (pW f==6) (T [h_,yO]) (cond (pW f==7) (T [h_,mJ])
  (cond (pW f==10) (T [h_,mJ,wH]) (cond (pW f==11) (∀(c:Nat) (u:List ab),7<=c->T [h_,mJ,uw,fX 0,fX 1,fX 2,fX 3]) (X nD)))))))))))
end
end Go.Proofs.YtggfpcggakghnaaGreatDoor
namespace Sx
open Go Go.RowKit Go.BigFrame
def aaq (vs:Nat->ab) (i:Nat) (v:ab):Nat->ab:=λj=>if j=i then v else vs j
def aar (k0:Nat) (es:List Nat) (H:Nat->(Nat->ab)->ae->Prop) (l:List ao) (w0:ae) (i:Nat) (v:ab) (vs:Nat->ab) (w' fC:ae):Prop:=
 (i=k0->Ch es w' fC)/\(i≠k0->∃ns,Ch ns w' fC/\∀x∈ns,w0.heap.size<=x)/\H i (aaq vs i v) fC/\
  ∀(j:Nat) oj,l[j]?=some oj->j≠i->kp oj i=false->H j vs w'->H j (aaq vs i v) fC
def aas (P:aF) (k0:Nat) (pre:List (List Nat)) (es:List Nat) (H:Nat->(Nat->ab)->ae->Prop) (lf l:List ao) (y0:Nat->ab) (w:ae) (i:Nat) (o:ao):Prop:=
 ∀(y vs:Nat->ab) (w':ae),(i=k0\/preB pre i=true->Ch [] w w')->Ch es w w'->(∀t,vo l i t=true->y t=y0 t)->
  (∀j d,kp o j=true->(l[j]?).bind (·.dst)=some d->y d=vs j/\H j vs w')->
  (m_ lf o y=true->Yields P o (vn y) w' λv fC=>aar k0 es H l w i v vs w' fC)/\(m_ lf o y=false->aar k0 es H l w i undef vs w' w')
def KK (P:aF) (k0:Nat) (pre:List (List Nat)) (es:List Nat) (H:Nat->(Nat->ab)->ae->Prop) (lf l:List ao) (y0:Nat->ab) (w:ae):Nat->List ao->Prop
 |_,[]=>True
 |i,o::rest=>aas P k0 pre es H lf l y0 w i o/\KK P k0 pre es H lf l y0 w (i+1) rest
theorem KK.get {P:aF} {k0:Nat} {pre:List (List Nat)} {es:List Nat} {H:Nat->(Nat->ab)->ae->Prop} {lf l:List ao} {y0:Nat->ab} {w:ae}:∀{k:Nat} {m:List ao},KK P k0 pre es H lf l y0 w k m->∀(i:Nat) o,m[i]?=some o->aas P k0 pre es H lf l y0 w (k+i) o
 |_,[],_,i,o,h=>by simp at h
 |k,x::rest,⟨h1,h2⟩,0,o,h=>by obtain rfl:x=o:=by simpa using h
                              exact h1
 |k,x::rest,⟨h1,h2⟩,i+1,o,h=>by
  have:=KK.get h2 i o (by simpa using h)
  rwa [show k+1+i=k+(i+1) by omega]at this
structure awt (k0:Nat) (es:List Nat) (H:Nat->(Nat->ab)->ae->Prop) (l:List ao) (n2:Nat) (a0:Act) (w0:ae) (vs:Nat->ab) (listed:Array Bool) (a:Act) (w:ae):Prop where
 ls:listed.size=l.length+n2
 off:∀i,l.length<=i->i<l.length+n2->listed[i]?=some false
 size:a.tmps.size=a0.tmps.size
 defers:a.defers=a0.defers
 ch:if listed[k0]?=some true then Ch es w0 w else Ch [] w0 w
 done:∀(i:Nat) (o:ao),l[i]?=some o->listed[i]?=some true->(∀d,o.dst=some d->cG a d=vs i)/\H i vs w
 rest:∀(t:Nat),(∀(i:Nat) (o:ao),l[i]?=some o->o.dst=some t->listed[i]?=some false)->cG a t=cG a0 t
 back:∀(i:Nat) (o:ao),l[i]?=some o->listed[i]?=some true->∀j,kp o j=true->listed[j]?=some true
section
variable{P:aF} {l:List ao} {k0:Nat} {pre:List (List Nat)} {es:List Nat} {H:Nat->(Nat->ab)->ae->Prop} {a0:Act} {w0:ae} {Q:dR->Act->ae->Prop}
end
inductive GX where
 |v (x:ab)
 |a (obj:Obj)
 |n (cs mK:Array ab) (T:aG)
 |s (j:Nat)
def GX.sp:GX->Sp
 |.v x=>s0 x
 |.a o=>sA o
 |.n cs _ T=>sA (.cells cs T (0,0))
 |.s _=>s0 undef
def GX.fin:GX->VX
 |.v x=>.v x
 |.a o=>.a o
 |.n _ mK T=>.a (.cells mK T (0,0))
 |.s _=>.v undef
theorem Yields.mono {P:aF} {o:ao} {ρ:ba->ab} {w:ae} {R R':ab->ae->Prop} (h:Yields P o ρ w R) (k:∀v w',R v w'->R' v w'):Yields P o ρ w R':=by
 unfold Yields at*;split at h
 ·exact k _ _ h
 ·exact k _ _ h
 ·exact Calls.mono h λe w' ⟨v,e1,e2⟩=>⟨v,e1,k _ _ e2⟩
 ·exact h.elim
section
variable{P:aF} {lf l:List ao} {xs:List GX} {y0:Nat->ab} {w:ae} {i k0:Nat} {pre:List (List Nat)} {o:ao} {es:List Nat} {pv:ab->ae->Prop}
end
def WR (i:Nat):GX->Bool
 |.s j=>aq j i
 |_=>false
section
variable{P:aF} {a0:Act} {w w0:ae} {Q:dR->Act->ae->Prop} {id:Nat} {L:List ao} {ms:List Nat} {bs:List ai}
end
section
variable{P:aF} {lf l:List ao} {sp:Nat->Sp} {xs:List GX} {y0:Nat->ab} {a0:Act} {w:ae} {i k0 m:Nat} {pre:List (List Nat)} {o:ao} {es:List Nat} {pv:ab->ae->Prop}
end
section
variable{P:aF} {a0:Act} {w w0:ae} {Q:dR->Act->ae->Prop} {id:Nat} {L:List ao} {ms:List Nat}
theorem Cy.dm {val:ab} {C:List ai->Prop} {bl:List ai} {B:Nat} {T:aG} (hT:∀bl',C bl'->∀x∈bl',Cz x.obj≠some T) {v:ab} {w1 w2:ae} {b:Nat} {c2:Array ab} (hb:w1.heap[b]?=some (.cells c2 T (0,0))) (hc:Ch [b] w1 w2) (h:Cy val C bl B v w1):Cy val C bl B v w2:=by
 obtain⟨h1,bl',h2,h3,h4⟩:=h;refine⟨h1,bl',h2,λy hy=>⟨?_,(h3 y hy).2⟩,h4⟩;refine(hc.block _ (oW (h3 y hy).1) ?_).trans (h3 y hy).1;intro hm;have e:y.id=b:=by simpa using hm
 have:=(h3 y hy).1;rw[e,hb]at this;exact hT bl' h2 y hy (by rw[<-cA this];rfl)
end
end Sx
