/- Part 4 of the proof. -/
import Derived.Test.YtggfpcggakghnaaGreatDoorL3
set_option linter.all false
set_option maxRecDepth 100000
set_option maxHeartbeats 4000000
noncomputable section
open Go.Proofs.Tryz
open Go.IntKind (u8 u16 u32 u64 i64)
open Array renaming ext'->eO
open Bool renaming and_eq_true->a_,not_eq_true'->lv
open Go renaming Program->aC,TypeId->aD,Addr->aI,Operand->aZ,Value->ab,World->ae,FuncId->eN,heap_alloc_new->mC,MapEntry->uo
open Go.Addr renaming add_lit->hU
open Go.Builtin renaming append_->mD,zeroCells->nz
open Go.Instr renaming findNow->My
open Go.IntKind renaming bits->pJ,signed->pL,wrap->sE
open Go.Result renaming andThen_ok->cd
open Go.Sem renaming run_bind->bj,run_pure->cW
open Go.Value renaming slice->DP,int->dT
open Go.World renaming cell?->wx
open Int renaming le_trans->Bc,toNat_natCast->ux
open List renaming range_succ->Ba,mem_cons_self->Bb,flatMap_append->DM,countP_nil->DQ,getElem?_set_ne->HL,length_map->HV,foldl_nil->UB,length_singleton->Uv,take_zero->Uz,append_assoc->bN,mem_cons->bY,range->bh,append_nil->cI,map_cons->eQ,mem_append->ez,cons_append->fb,nil_append->fc,length_append->fi,getElem?_append_left->gI,getElem?_map->iI,getElem?_toArray->iX,take_append_drop->iZ,getD->ij,countP_append->ik,perm_middle->jH,replicate->kO,length_cons->ly,eq_nil_of_length_eq_zero->mE,getElem?_range->mF,map_map->mG,mem_append_left->mH,getD_eq_getElem?_getD->n7,sublist_append_right->n8,not_mem_nil->n9,mem_map->ny,map_congr_left->pH,mem_append_right->qU,perm_append_comm_assoc->qV,ext_getElem?->um,range_succ_eq_map->uu,foldl_cons->uv,map_nil->uw,mem_cons_of_mem->wy,getElem?_append_right->yB,getElem?_of_mem->yC,pairwise_cons->yH,countP_cons->yL
open List.Perm renaming trans->DO,append_left->pI,cons->ui
open List.Sublist renaming cons_cons->H2,append_left->yE
open Nat renaming beq->ax,eq_of_beq_eq_true->b9,ble->bA,lt_or_ge->cE,blt->cj,le_refl->dE,le_of_ble_eq_true->dz,zero_add->eh,blt_eq->gV,add_zero->nZ,beq_refl->qS,eq_zero_or_pos->uh,ble_eq_true_of_le->uj,le_add_right->wz
open Option renaming map_eq_some_iff->gH
open Option.some renaming injEq->aS,inj->ck
open Prod.mk renaming inj->Be,injEq->bd
namespace Go.Proofs.YtggfpcggakghnaaGreatDoor
section
open Go Go.RowKit Go.BigFrame Sx Vx
variable{fr:Sd.aF->Nat×Sd.aw}
def iE (n:Nat) (f:Nat->Int):Sd.bo:=match aP n f with
 |some m=>m
 |none=>Sd.l5 0
def r_ (n:Nat) (f:Nat->Int):Int:=match aP n f with
 |some _=>0
 |none=>13
def vX (n:Nat) (f:Nat->Int):V:=.ao [.agg (cG (iE n f)),.int .i64 (r_ n f)]
theorem RR (n:Nat) (f:Nat->Int):nk n f=vX n f:=by
 unfold nk vX iE r_;cases aP n f<;>rfl
theorem RT (n:Nat) (f:Nat->Int):cz 0 (vX n f)=true:=rfl
theorem am8 (x:Option aI) (c:Nat) (X:V->Prop):bu (ql prog k9 CV) 90 143 [.raw (.slice x 0 c)] [] [] (λv _ _=>X v)=X m_:=by kernel_rfl
theorem take_nil (x:Option aI) (c:Nat) (f:Nat->Int) (w:ae):aQ prog 143 #[.slice x 0 c] w λv w1=>v=den [] (nk 0 f)/\Ch [] w w1:=by
 have cJ:bu (ql prog k9 CV) 90 143 [.raw (.slice x 0 c)] [] [] (λv _ _=>v=m_):=by rw[am8]
 refine(eD KC.TS KC.QS 90 (C:=ql prog k9 CV) (ids:=[]) (bl:=[]) (ch:=[]) (R:=[]) (ms:=[]) (w0:=w) (args:=[.raw (.slice x 0 c)]) (λg i h=>by cases h) rfl (St.nil [] w) cJ).mono ?_;rintro v w' ⟨x,more,bl',ch',rfl,ng,S2,rfl⟩;refine⟨?_,S2.ch⟩;have:=fy (ids:=[]) (more:=[]++more) m_ rfl;have e:nk 0 f=m_:=rfl;rw[e];simpa using this
theorem ZU {b m n c:Nat} {f:Nat->Int} {t:List ab} {w:ae} (hf:By f) (hn:n<=m) (hc:n<=c) (hB:w.heap[b]?=some (.cells ((bh m).map (λj=>dT .u8 (f j))++t).toArray 5 (0,0))):
 aQ prog 143 #[.slice (some ⟨b,0,none⟩) n c] w λv w1=>v=den [] (nk n f)/\Ch [] w w1:=by
 refine amw b n c f (((bh m).map (λj=>dT .u8 (f j))).drop n++t) hf hc w ?_;have e:(bh n).map (λj=>dT .u8 (f j))=((bh m).map (λj=>dT .u8 (f j))).take n:=by
  rw[<-List.map_take,List.take_range,Nat.min_eq_left hn]
 rw[e,<-bN,iZ];exact hB
def KH:QF:=⟨143,λargs bl=>match args with
 |[.sl i 0 n c]=>(match bl[i]?with
  |some b=>(match b.c with
   |[.bH .u8 m f,.rest t]=>bif wZ b.ty 5 then some ((n<=m/\n<=c/\By f),vX n f)else none
   |_=>none)
  |none=>none)
 |[.raw (.slice x 0 c)]=>some (True,vX 0 λ_=>0)
 |_=>none⟩
theorem ZV (gl:Nat->Option Nat):KH.Ok prog gl:=by
 intro args bl p v h hp ids w hg hm;unfold KH at h;dsimp only at h;split at h
 ·rename_i i n c;split at h
  ·rename_i b hb;split at h
   ·rename_i m f t hc;cases hq:wZ b.ty 5 with
    |false=>rw[hq]at h;cases h
    |true=>
     rw[hq]at h;simp only[cond_true,aS,bd]at h;obtain⟨rfl,rfl⟩:=h;have aK:=hm.2 i b hb;rw[hc,NA hq]at aK;have e:(ah ids [V.bH .u8 m f,.rest t]).toArray=((bh m).map (λj=>dT .u8 (f j))++t).toArray:=by simp[ah,cl]
     rw[e]at aK;refine(ZU hp.2.2 hp.1 hp.2.1 aK).mono ?_;rintro x w' ⟨rfl,bT⟩;refine⟨?_,bT⟩;rw[RR];have:=fy (ids:=[]) (more:=ids) (vX n f) (RT n f);simpa using this.symm
   ·cases h
  ·cases h
 ·rename_i x c;obtain⟨rfl,rfl⟩:True=p/\vX 0 (λ_=>0)=v:=by simpa using h
  refine(take_nil x c (λ_=>0) w).mono ?_;rintro y w' ⟨rfl,bT⟩;refine⟨?_,bT⟩;rw[RR];have:=fy (ids:=[]) (more:=ids) (vX 0 λ_=>0) (RT 0 _);simpa using this.symm
 ·cases h
theorem am9:Sound prog gS 143 (Au (fr:=fr) (aO aP)):=by
 intro args ids bl ch R ms w0 w K hg hl S hc;unfold Au at hc;split at hc
 ·rename_i vp g rest;obtain⟨⟨rfl,hn,hf⟩,h1,h2⟩:=hc;have e0:av (g::rest) R=g.F.B++av rest R:=rfl;have S':=S;rw[e0]at S';have main:aQ prog 143 #[.slice g.d.k.px g.d.k.pn g.d.k.pc] w λv w1=>v=den [] (nk g.d.k.pn g.d.k.pf)/\Ch [] w w1:=by
   obtain⟨b0,b1,b2,b3,b4,hB,k0,k1,k2,k3,k4⟩:=g.F.hk;have aK:∀y∈g.F.Bk,w.heap[y.id]?=some y.obj:=λy hy=>S'.at' (by rw[rV];simp[hy]);rw[hB]at aK;obtain⟨hle,h|⟨b,hx,hb⟩⟩:=k4
   ·obtain⟨_,hz,_,_⟩:=h;rw[hz];exact take_nil _ _ _ w
   ·have h4:=aK ⟨b,true,.cells (bw g.d.k.pn g.d.k.pf g.d.k.pc) 5 (0,0)⟩ (by simp[hb]);rw[hx];have e:∃t,bw g.d.k.pn g.d.k.pf g.d.k.pc=((bh g.d.k.pn).map (λj=>dT .u8 (g.d.k.pf j))++t).toArray:=by
     exact⟨kO (g.d.k.pc-g.d.k.pn) (.int .u8 0),by unfold bw;congr 2⟩
    obtain⟨t,e⟩:=e;rw[e]at h4;exact ZU hf (dE _) hle h4
  have ea:(aA ids [.raw (dZ g.d.k)]).toArray=#[.slice g.d.k.px g.d.k.pn g.d.k.pc]:=rfl;rw[ea];refine main.mono ?_;rintro v w1 ⟨rfl,bT⟩;refine⟨nk g.d.k.pn g.d.k.pf,[],bl,g::rest,?_,by simpa using hl,by simpa using S.quiet bT,?_⟩
  ·rw[RR];have:=fy (ids:=[]) (more:=ids++[]) (vX g.d.k.pn g.d.k.pf) (RT _ _);simpa using this.symm
  ·unfold nk;cases h:aP g.d.k.pn g.d.k.pf with
   |some m=>exact h1 m h
   |none=>exact h2 h (Sd.l5 0) 13 (by decide)
 ·exact hc.elim
theorem am_ (ht:Body (fr:=fr) 147 dR):Body (fr:=fr) 98 (CZ (aO aP)):=am6 aP ht am9
def pY (b m:Int):Sd.aJ:=⟨λi=>if i=42 then b else if i=49 then m else 0,λ_=>(0,λ_=>0)⟩
def ZW:QT:=⟨149,λar y=>match ar with
 |[.int .i64 s,.int .i64 r,.agg [.bH .u8 32 key]]=>some ((0<=y.b/\y.b<=1000)/\1<=s/\s<=3,.int .i64 (Sd.az.dU (pY y.b y.m) (bM y) s r key).2,(Sd.az.dU (pY y.b y.m) (bM y) s r key).1)
 |_=>none⟩
theorem ana:ZW.Ok:=by
 intro ar y p v t hm hp bt bs ms w0 w S;replace hm:(match(generalizing:=false) ar with
  |[.int .i64 s,.int .i64 r,.agg [.bH .u8 32 key]]=>some ((0<=y.b/\y.b<=1000)/\1<=s/\s<=3,V.int .i64 (Sd.az.dU (pY y.b y.m) (bM y) s r key).2,(Sd.az.dU (pY y.b y.m) (bM y) s r key).1)
  |_=>none)=some (p,v,t):=hm
 split at hm
 ·rename_i s r key;simp only[aS,bd]at hm;obtain⟨rfl,rfl,rfl⟩:=hm;obtain⟨hb,h1,h3⟩:=hp;rcases(by omega:s=1\/s=2\/s=3)with rfl|rfl|rfl
  ·exact Rf y 0 (by omega) r key (pY y.b y.m) rfl rfl S
  ·exact Rf y 1 (by omega) r key (pY y.b y.m) rfl rfl S
  ·exact Rf y 2 (by omega) r key (pY y.b y.m) rfl rfl S
 ·cases hm
def Gw:cP (Gh fr):=λargs bl ch K=>match args,ch with
 |[.agg [.int .i64 m,.bool o,.bH .u8 8 nc],.raw vk,.int .i64 s,.int .i64 r,.agg [.bH .u8 8 pf]],g::rest=>
  (vk=.slice (g.d.k.ka (s.toNat-1)) (g.d.k.kn (s.toNat-1)) (g.d.k.kc (s.toNat-1))/\bl[0]?=some (bU g.d.k)/\(1<=s/\s<=3)/\(0<=r/\r<4294967296)/\(1<=g.d.k.kn (s.toNat-1)/\g.d.k.kn (s.toNat-1)<=64))/\
  cond (!o) (K (.ao [.agg [.int .i64 m,.bool o,.bH .u8 8 nc],.agg [.bH .u8 32 λ_=>0],.int .i64 17]) bl (g::rest))
   (cond (oT (g.d.k.kn (s.toNat-1)) (g.d.k.kf (s.toNat-1)) s r nc pf)
    (K (.ao [.agg [.int .i64 m,.bool false,.bH .u8 8 λ_=>0],.agg [.bH .u8 32 (gQ (g.d.k.kn (s.toNat-1)) (g.d.k.kf (s.toNat-1)) s r nc)],.int .i64 0]) bl (g::rest))
    (K (.ao [.agg [.int .i64 m,.bool false,.bH .u8 8 λ_=>0],.agg [.bH .u8 32 λ_=>0],.int .i64 14]) bl (g::rest)))
 |_,_=>False
theorem anb:gO (Gw (fr:=fr)):=by
 intro args bl ch K h;unfold Gw at h⊢;split at h
 ·rename_i m o nc vk s r pf g rest;refine⟨h.1,?_⟩;have h2:=h.2;cases o with
  |false=>exact⟨h2,[],by simp⟩
  |true=>
   cases hr:oT (g.d.k.kn (s.toNat-1)) (g.d.k.kf (s.toNat-1)) s r nc pf with
   |true=>rw[hr]at h2;exact⟨h2,[],by simp⟩
   |false=>rw[hr]at h2;exact⟨h2,[],by simp⟩
 ·exact h.elim
theorem anc:Sound prog gS 148 (Gw (fr:=fr)):=by
 intro args ids bl ch R ms w0 w K hg hl S hc;unfold Gw at hc;split at hc
 ·rename_i m o nc vk s r pf g rest;obtain⟨⟨rfl,hr,hs,KI,hk⟩,hK⟩:=hc;have e0:av (g::rest) R=g.F.B++av rest R:=rfl;have S':=S;rw[e0]at S';have hi:s.toNat-1<4:=by omega
  have xY:=ZO g.F S' (s.toNat-1) hi (by omega) (by omega);have kr:=ZP hg hl S hr;generalize hI:s.toNat-1=i at*;have e:(aA ids [.agg [.int .i64 m,.bool o,.bH .u8 8 nc],.raw (.slice (g.d.k.ka i) (g.d.k.kn i) (g.d.k.kc i)),.int .i64 s,.int .i64 r,.agg [.bH .u8 8 pf]]).toArray=#[.agg #[.int .i64 m,.bool o,.int .u8 (nc 0),.int .u8 (nc 1),.int .u8 (nc 2),.int .u8 (nc 3),.int .u8 (nc 4),.int .u8 (nc 5),.int .u8 (nc 6),.int .u8 (nc 7)],.slice (g.d.k.ka i) (g.d.k.kn i) (g.d.k.kc i),.int .i64 s,.int .i64 r,.agg (aq .u8 8 pf)]:=by kernel_rfl
  rw[e];have yZ:0<=s/\s<4294967296:=by omega
  cases o with
  |false=>
   refine(aia (g.d.k.ka i) (g.d.k.kn i) (g.d.k.kc i) (g.d.k.kf i) s r ⟨m,false,nc⟩ pf rfl w).mono ?_;rintro v w1 ⟨rfl,bT⟩;exact⟨_,[],bl,g::rest,by kernel_rfl,by simpa using hl,by simpa using S.quiet bT,hK⟩
  |true=>
   cases hq:oT (g.d.k.kn i) (g.d.k.kf i) s r nc pf with
   |true=>
    rw[hq]at hK;refine(aic (g.d.k.ka i) (g.d.k.kn i) (g.d.k.kc i) (g.d.k.kf i) s r ⟨m,true,nc⟩ pf hk yZ KI rfl hq w kr xY).mono ?_;rintro v w1 ⟨rfl,bT⟩;exact⟨.ao [.agg [.int .i64 m,.bool false,.bH .u8 8 λ_=>0],.agg [.bH .u8 32 (gQ (g.d.k.kn i) (g.d.k.kf i) s r nc)],.int .i64 0],[],bl,g::rest,by kernel_rfl,by simpa using hl,by simpa using S.quiet bT,hK⟩
   |false=>
    rw[hq]at hK;refine(aib (g.d.k.ka i) (g.d.k.kn i) (g.d.k.kc i) (g.d.k.kf i) s r ⟨m,true,nc⟩ pf hk yZ KI rfl hq w kr xY).mono ?_;rintro v w1 ⟨rfl,bT⟩;exact⟨.ao [.agg [.int .i64 m,.bool false,.bH .u8 8 λ_=>0],.agg [.bH .u8 32 λ_=>0],.int .i64 14],[],bl,g::rest,by kernel_rfl,by simpa using hl,by simpa using S.quiet bT,hK⟩
 ·exact hc.elim
def LP (fr:Sd.aF->Nat×Sd.aw) (C:Sd.aN):List (bK (Gh fr)):=qE (Gh fr) KH::⟨148,true,Gw⟩::⟨149,false,CS ZW⟩::L8 fr C
theorem ane (tk:Nat->Sd.aw->Option Sd.bo) (ht:Body (fr:=fr) 147 dR):aG prog gS (LP fr (aO tk)):=
 aG.cons ⟨I2 (ZV gS),λ_=>I1 _⟩ (aG.cons ⟨anc,λ_=>anb⟩ (aG.cons (Rw ana) (Gt tk ht)))
def eC (n:Nat) (f:Nat->Int) (t:List ab):VB:=⟨true,⟨5,(0,0)⟩,[.bH .u8 n f,.rest t]⟩
def RU (k:LK) (s:Sd.aa) (n:Nat) (f:Nat->Int) (t:List ab) (Kb:SK fr k):V->List VB->List (Gh fr)->Prop:=λv bl ch=>∃s' F',cz 0 v=true/\s'.c.p=s.c.p/\Kb v s' F'/\bl.take 6=bC k s' F'++[eC n f t]/\ch=[bb k s' F']
def Gx (s:Sd.aa) (a b c:Sd.dG) (E:Sd.az):Sd.aa:={s with c:={s.c with doors:=r3 a b c s.c.doors,ag:=⟨E.cO,r3 (E.aj 0) (E.aj 1) (E.aj 2) s.c.ag.aj⟩}}
def C1 (s:Sd.aa) (l r:Int) (key:Nat->Int):Sd.az×Int:=Sd.az.dU (pY s.c.p.b_ s.c.p.eS) (dV s.c.ag) l r key
section
variable(C:Sd.aN) (k:LK) (s:Sd.aa) (F:a9 fr (aY k s)) (Kb:SK fr k) (l:Int) (i:Nat) (e:Nat) (f:Nat->Int) (t:List ab) (D:Sd.dG->Sd.aa) (DT:Sd.dG->Sd.az->Sd.aa)
def lf (s0:Sd.aa) (s':Sd.aa) (F':a9 fr (aY k s')):Prop:=RU k s0 10 f t Kb (.ao []) (bC k s' F'++[eC 10 f t]) [bb k s' F']
def jZ (d:Sd.dG):Sd.dG:=⟨d.many,false,λ_=>0⟩
def RV (hD:∀e,aY k (D e)=aY k s) (tW:∀e E,aY k (DT e E)=aY k s):Prop:=
 let d:=s.c.doors i
 let m:=iE 2 f
 let key:=gQ (k.kn i) (k.kf i) l m.role d.au
 let E:=C1 s l m.role key
 (2<=10/\2<=e+10/\By f)/\cond (r_ 2 f !=0) (cy k s F/\o8 C [.int .i64 l,.int .i64 13] k (bR s) F λv s' F'=>lf k Kb f t s s' F')
 ((DP (k.ka i) (k.kn i) (k.kc i)=.slice (k.ka i) (k.kn i) (k.kc i)/\some (bU k)=some (bU k)/\(1<=l/\l<=3)/\(0<=m.role/\m.role<4294967296)/\(1<=k.kn i/\k.kn i<=64))/\
   cond (!d.gy) (cy k (D d) (hD d▸F)/\lj C [.int .i64 l,.int .i64 0,.int .i64 17] k (D d) (hD d▸F) λv s' F'=>lf k Kb f t s s' F')
   (cond (oT (k.kn i) (k.kf i) l m.role d.au λj=>f (2+j))
    (True/\cond (!(Sd.eJ s.c.p l m.role)) (cy k (D (jZ d)) (hD (jZ d)▸F)/\lj C [.int .i64 l,.int .i64 0,.int .i64 18] k (D (jZ d)) (hD (jZ d)▸F) λv s' F'=>lf k Kb f t s s' F')
     (((0<=s.c.p.b_/\s.c.p.b_<=1000)/\1<=l/\l<=3)/\cond (E.2!=0) (cy k (DT (jZ d) E.1) (tW (jZ d) E.1▸F)/\lj C [.int .i64 l,.int .i64 0,.int .i64 E.2] k (DT (jZ d) E.1) (tW (jZ d) E.1▸F) λv s' F'=>lf k Kb f t s s' F')
       (cy k (DT (jZ d) E.1) (tW (jZ d) E.1▸F)/\dR [.int .i64 l,.agg (lh 130 0 m.role s.c.t.aE s.c.t.af 0)] k (DT (jZ d) E.1) (tW (jZ d) E.1▸F) λv s2 F2=>
        cy k s2 F2/\iU C [.int .i64 3,.int .i64 l,.int .i64 0,.int .i64 0,.int .i64 0] k (bR s2) F2 λv s' F'=>lf k Kb f t s s' F')))
    (cy k (D (jZ d)) (hD (jZ d)▸F)/\o8 C [.int .i64 l,.int .i64 14] k (D (jZ d)) (hD (jZ d)▸F) λv s' F'=>lf k Kb f t s s' F')))
end
def RW (fr:Sd.aF->Nat×Sd.aw) (C:Sd.aN) (l:Int) (i:Nat) (D:Sd.aa->Sd.dG->Sd.aa) (DT:Sd.aa->Sd.dG->Sd.az->Sd.aa) (hD:∀k s e,aY k (D s e)=aY k s) (tW:∀k s e E,aY k (DT s e E)=aY k s):Prop:=∀(k:LK) (s:Sd.aa) (F:a9 fr (aY k s)) (Kb:SK fr k) (e:Nat) (f:Nat->Int) (t:List ab),
 bu (bQ prog gS (LP fr C)) 90 99 [.ptr 2 0,.int .i64 l,.sl 5 0 10 (e+10)] (bC k s F++[eC 10 f t]) [bb k s F] (RU k s 10 f t Kb)=RV C k s F Kb l i e f t (D s) (DT s) (hD k s) (tW k s)
theorem anf (fr:Sd.aF->Nat×Sd.aw) (C:Sd.aN):RW fr C 1 0 (λs e=>xZ s e (s.c.doors 1) (s.c.doors 2)) (λs e E=>Gx s e (s.c.doors 1) (s.c.doors 2) E) (λ_ _ _=>rfl) (λ_ _ _ _=>rfl):=λk s F Kb e f t=>by kernel_rfl
theorem ang (fr:Sd.aF->Nat×Sd.aw) (C:Sd.aN):RW fr C 2 1 (λs e=>xZ s (s.c.doors 0) e (s.c.doors 2)) (λs e E=>Gx s (s.c.doors 0) e (s.c.doors 2) E) (λ_ _ _=>rfl) (λ_ _ _ _=>rfl):=λk s F Kb e f t=>by kernel_rfl
theorem anh (fr:Sd.aF->Nat×Sd.aw) (C:Sd.aN):RW fr C 3 2 (λs e=>xZ s (s.c.doors 0) (s.c.doors 1) e) (λs e E=>Gx s (s.c.doors 0) (s.c.doors 1) e E) (λ_ _ _=>rfl) (λ_ _ _ _=>rfl):=λk s F Kb e f t=>by kernel_rfl
theorem ani (fr:Sd.aF->Nat×Sd.aw) (C:Sd.aN) (k:LK) (s:Sd.aa) (F:a9 fr (aY k s)) (Kb:SK fr k) (l:Int):bu (bQ prog gS (LP fr C)) 90 99 [.ptr 2 0,.int .i64 l,.raw (dZ k)] (bC k s F) [bb k s F] (cH k s Kb)
 =cond ((k.pn:Int)!=10) (cy k s F/\o8 C [.int .i64 l,.int .i64 13] k (bR s) F λv s' F'=>cH k s Kb (.ao []) (bC k s' F') [bb k s' F']) (((0:Int)<=2/\(2:Int)<=(k.pc:Int))/\False):=by kernel_rfl
structure KJ (k:LK) (s:Sd.aa) (l:Int):Prop where
 r:Rm s 8
 lo:1<=l/\l<=3
 key:1<=k.kn (l.toNat-1)/\k.kn (l.toNat-1)<=64
 ke:s.c.p.k (l.toNat-1)=(k.kn (l.toNat-1),k.kf (l.toNat-1))
 b_:0<=s.c.p.b_/\s.c.p.b_<=1000
 c_:N4 s.c.t.aE
 ep:vR s.c.t.af
def Av (s:Sd.aa) (i:Nat) (e:Sd.dG) (t:Sd.az):Sd.aa:={s with c:={s.c with doors:=λj=>if j=i then e else s.c.doors j,ag:=t}}
theorem Gy (s:Sd.aa) (l r:Int) (key:Nat->Int):(C1 s l r key).2=(Sd.az.dU s.c.p s.c.ag l r key).2/\(C1 s l r key).1.cO=(Sd.az.dU s.c.p s.c.ag l r key).1.cO/\(1<=l/\l<=3->(∀j,j<3->(C1 s l r key).1.aj j=(Sd.az.dU s.c.p s.c.ag l r key).1.aj j)/\∀j,(Sd.az.dU s.c.p s.c.ag l r key).1.aj (j+3)=s.c.ag.aj (j+3)):=by
 have hm:(dV s.c.ag).many=s.c.ag.many:=rfl;have hp:(pY s.c.p.b_ s.c.p.eS).eS=s.c.p.eS:=rfl;have hb:(pY s.c.p.b_ s.c.p.eS).b_=s.c.p.b_:=rfl;have q3:∀j,j<3->(dV s.c.ag).aj j=s.c.ag.aj j:=by
  intro j hj;have:j=0\/j=1\/j=2:=by omega
  rcases this with rfl|rfl|rfl<;>rfl
 unfold C1 Sd.az.dU;rw[Gd,hm,hp,hb];split
 ·exact⟨rfl,rfl,λ_=>⟨q3,λ_=>rfl⟩⟩
 ·split
  ·exact⟨rfl,rfl,λ_=>⟨q3,λ_=>rfl⟩⟩
  ·refine⟨rfl,rfl,λhl=>⟨λj hj=>?_,λj=>?_⟩⟩
   ·simp only[Sd.az.dW];split
    ·rfl
    ·exact q3 j hj
   ·simp only[Sd.az.dW];rw[if_neg (by omega)]
theorem RX {s:Sd.aa} {a b c:Sd.dG} {i:Nat} {e:Sd.dG} {E t:Sd.az} (hi:i<3) (ha:a=if 0=i then e else s.c.doors 0) (hb:b=if 1=i then e else s.c.doors 1) (hc:c=if 2=i then e else s.c.doors 2) (h1:E.cO=t.cO) (h2:∀j,j<3->E.aj j=t.aj j) (h3:∀j,t.aj (j+3)=s.c.ag.aj (j+3)):Gx s a b c E=Av s i e t:=by
 unfold Gx Av;have h:r3 a b c s.c.doors=λj=>if j=i then e else s.c.doors j:=by
  funext j
  match j with
  |0=>exact ha
  |1=>exact hb
  |2=>exact hc
  |j+3=>exact(if_neg (by omega)).symm
 have e:r3 (E.aj 0) (E.aj 1) (E.aj 2) s.c.ag.aj=t.aj:=by
  funext j
  match j with
  |0=>exact h2 0 (by decide)
  |1=>exact h2 1 (by decide)
  |2=>exact h2 2 (by decide)
  |j+3=>exact(h3 j).symm
 rw[h,e,h1]
theorem KK {k:LK} {s0:Sd.aa} {Kb:SK fr k} {f:Nat->Int} {t:List ab} {s' sF:Sd.aa} (e:s'=sF) (hK:∀F,Kb (.ao []) sF F) (F':a9 fr (aY k s')) (hp:s'.c.p=s0.c.p:=by rfl):lf k Kb f t s0 s' F':=by
 subst e;exact⟨s',F',rfl,hp,hK F',rfl,rfl⟩
theorem KM {n:Nat} {f:Nat->Int} (P:Sd.bo->Prop):∀(l:List Fd) (off:Nat) (m r:Sd.bo),(∀d∈l,∀v,d.low<=v->v<=d.high->∀m,P m->P (d.set v m))->P m->runM n f l off m=some r->P r
 |[],off,m,r,_,hm,h=>by
  unfold runM at h;split at h
  ·cases h;exact hm
  ·cases h
 |d::l,off,m,r,hd,hm,h=>by
  unfold runM at h;split at h
  ·cases h
  ·split at h
   ·cases h
   ·rename_i hv;exact KM P l _ _ r (λx hx=>hd x (by simp[hx])) (hd d (by simp) _ (by omega) (by omega) m hm) h
structure KO (k:Int) (m:Sd.bo):Prop where
 kind:m.kind=k
 seq:0<=m.seq/\m.seq<=4294967295
 role:0<=m.role/\m.role<=3
 aV:0<=m.aV/\m.aV<=4
 af:0<=m.af/\m.af<=65535
 mode:0<=m.mode/\m.mode<=4
 cls:0<=m.cls/\m.cls<=3
def okB (d:Fd):Prop:=∀v,d.low<=v->v<=d.high->∀k m,KO k m->KO k (d.set v m)
theorem anj:okB tL:=λv h1 h2 k m h=>⟨h.kind,h.seq,⟨h1,h2⟩,h.aV,h.af,h.mode,h.cls⟩
theorem ank:okB iB:=λv h1 h2 k m h=>⟨h.kind,⟨h1,h2⟩,h.role,h.aV,h.af,h.mode,h.cls⟩
theorem anl:okB CH:=λv h1 h2 k m h=>⟨h.kind,h.seq,h.role,⟨h1,h2⟩,h.af,h.mode,h.cls⟩
theorem anm:okB oU:=λv h1 h2 k m h=>⟨h.kind,h.seq,h.role,h.aV,⟨h1,h2⟩,h.mode,h.cls⟩
theorem ann:okB CI:=λv h1 h2 k m h=>⟨h.kind,h.seq,h.role,h.aV,h.af,⟨h1,h2⟩,h.cls⟩
theorem ano:okB tM:=λv h1 h2 k m h=>⟨h.kind,h.seq,h.role,h.aV,h.af,h.mode,⟨Bc (by decide) h1,h2⟩⟩
theorem anp:okB CJ:=λv h1 h2 k m h=>⟨h.kind,h.seq,h.role,h.aV,h.af,h.mode,h.cls⟩
theorem ZX (i:Nat) (hi:i<4) (v:Int) (m:Sd.bo):((fX i).set v m).kind=m.kind/\((fX i).set v m).seq=m.seq/\((fX i).set v m).role=m.role/\((fX i).set v m).aV=m.aV/\((fX i).set v m).af=m.af/\((fX i).set v m).mode=m.mode/\((fX i).set v m).cls=m.cls:=by
 have:i=0\/i=1\/i=2\/i=3:=by omega
 rcases this with rfl|rfl|rfl|rfl<;>exact⟨rfl,rfl,rfl,rfl,rfl,rfl,rfl⟩
theorem KQ (i:Nat) (hi:i<4):okB (fX i):=λv h1 h2 k m h=>by
 obtain⟨a,b,c,d,e,g,j⟩:=ZX i hi v m;exact⟨a.trans h.kind,by rw[b];exact h.seq,by rw[c];exact h.role,by rw[d];exact h.aV,by rw[e];exact h.af,by rw[g];exact h.mode,by rw[j];exact h.cls⟩
theorem z0 (n:Int) (h:0<=n):(0:Int)<=0/\(0:Int)<=n:=⟨Int.le_refl 0,h⟩
theorem anq (k:Int):KO k (Sd.l5 k):=⟨rfl,z0 _ (by decide),z0 _ (by decide),z0 _ (by decide),z0 _ (by decide),z0 _ (by decide),z0 _ (by decide)⟩
theorem anr {k:Int} {l:List Fd} (h:pd k=some l):∀d∈l,okB d:=by
 have a1:=anj;have a2:=ank;have a3:=anl;have a4:=anm;have a5:=ann;have a6:=ano;have a7:=anp
 have b0:=KQ 0 (by decide);have b1:=KQ 1 (by decide);have b2:=KQ 2 (by decide);have b3:=KQ 3 (by decide)
 unfold pd at h
 repeat' split at h
 all_goals first|(cases h;done)|(obtain rfl:=ck h;intro d hd;simp at hd;rcases hd with rfl|rfl|rfl|rfl|rfl|rfl|rfl<;>assumption)|(obtain rfl:=ck h;intro d hd;simp at hd;rcases hd with rfl|rfl|rfl<;>assumption)|(obtain rfl:=ck h;intro d hd;simp at hd;rcases hd with rfl|rfl<;>assumption)|(obtain rfl:=ck h;intro d hd;simp at hd;subst hd;assumption)
theorem ans {k:Int} {l:List Fd} (h:pd k=some l):1<=k/\k<=11:=by
 unfold pd at h
 repeat' split at h
 all_goals first|(cases h;done)|omega
theorem RY {n:Nat} {f:Nat->Int} {m:Sd.bo} (h:aP n f=some m):Sd.rO m:=by
 unfold aP at h;split at h
 ·cases h
 ·split at h
  ·rename_i l hl;have hb:=KM (KO (f 0)) l 1 _ m (λd hd v h1 h2 m hm=>anr hl d hd v h1 h2 _ m hm) (anq _) h;have hk:=ans hl;refine⟨by rw[hb.kind];exact hk,hb.seq,hb.role,hb.aV,hb.af,hb.mode,hb.cls,?_⟩;intro Gn;rw[hb.kind]at Gn;have ant:l=[iB,oU,tM,fX 0,fX 1,fX 2,fX 3]:=by
    rw[Gn]at hl;exact(ck hl).symm
   subst ant;unfold runM at h;split at h
   ·cases h
   split at h
   ·cases h
   unfold runM at h;split at h
   ·cases h
   split at h
   ·cases h
   unfold runM at h;split at h
   ·cases h
   split at h
   ·cases h
   rename_i hv;refine KM (λm=>1<=m.cls) _ _ _ m ?_ ?_ h
   ·intro d hd v _ _ m hm;have:∃i,i<4/\d=fX i:=by
     simp at hd;rcases hd with rfl|rfl|rfl|rfl
     ·exact⟨0,by decide,rfl⟩
     ·exact⟨1,by decide,rfl⟩
     ·exact⟨2,by decide,rfl⟩
     ·exact⟨3,by decide,rfl⟩
    obtain⟨i,hi,rfl⟩:=this;show 1<=((fX i).set v m).cls;rw[(ZX i hi v m).2.2.2.2.2.2];exact hm
   ·have h1:tM.low=1:=rfl;have:∀v m,(tM.set v m).cls=v:=λv m=>rfl;show 1<=(tM.set _ _).cls;rw[this];omega
  ·cases h
theorem anu {n:Nat} {f:Nat->Int} (h:aP n f≠none):0<=(iE n f).role/\(iE n f).role<=3:=by
 unfold iE;cases hh:aP n f with
 |some m=>exact(RY hh).role
 |none=>exact absurd hh h
theorem ZY {n:Nat} {f:Nat->Int} (h:(r_ n f !=0)=false):aP n f=some (iE n f):=by
 unfold r_ at h;unfold iE;cases hh:aP n f with
 |some m=>rfl
 |none=>rw[hh]at h;simp at h
theorem ZZ {n:Nat} {f:Nat->Int} (h:(r_ n f !=0)=true):aP n f=none:=by
 unfold r_ at h;cases hh:aP n f with
 |some m=>rw[hh]at h;simp at h
 |none=>rfl
theorem RZ {k:LK} {s:Sd.aa} {F:a9 fr (aY k s)} {Kb:SK fr k} {l:Int} {i e:Nat} {f:Nat->Int} {t:List ab} {D:Sd.dG->Sd.aa} {DT:Sd.dG->Sd.az->Sd.aa} {hD:∀e,aY k (D e)=aY k s} {tW:∀e E,aY k (DT e E)=aY k s}
 (x_:∀e,D e=ph s i e) (R1:∀e r key,DT e (C1 s l r key).1=Av s i e (Sd.az.dU s.c.p s.c.ag l r key).1) (hi:l.toNat-1=i) (h3:i<3) (hq:s.c.p.queue=k.most) (hP:KJ k s l) (hf:By f) (hK:∀F',Kb (.ao []) (s.prove (aO aP) l 10 f) F'):
 RV (aO aP) k s F Kb l i e f t D DT hD tW:=by
 subst hi;have R2:=hP.r;have hKk:s.c.p.k (l.toNat-1)=(k.kn (l.toNat-1),k.kf (l.toNat-1)):=hP.ke;have R3:∀(x:Sd.aa) (hx:aY k x=aY k s) (c:Int) (sF:Sd.aa),x.c.p=s.c.p->N8 c->x.refuse (aO aP) l 0 c=sF->(∀F,Kb (.ao []) sF F)->cy k x (hx▸F)/\lj (aO aP) [.int .i64 l,.int .i64 0,.int .i64 c] k x (hx▸F) λv s' F'=>lf k Kb f t s s' F':=by
  intro x hx c sF hp hc hE R4;have hs:x.bz=s.bz:=congrArg FD.bz hx;have hr:x.br=s.br:=congrArg FD.br hx;refine⟨cF (by rw[hp];exact hq),⟨⟨by rw[hs];have:=R2.1;omega,by rw[hr];have:=R2.2;omega⟩,vS,hc⟩,λF1=>KK hE R4 F1 hp⟩
 have anv:∀(x:Sd.aa) (hx:aY k x=aY k s) (c:Int) (sF:Sd.aa),x.c.p=s.c.p->x.gY (aO aP) l c=sF->(∀F,Kb (.ao []) sF F)->cy k x (hx▸F)/\o8 (aO aP) [.int .i64 l,.int .i64 c] k x (hx▸F) λv s' F'=>lf k Kb f t s s' F':=by
  intro x hx c sF hp hE R4;have hr:x.br=s.br:=congrArg FD.br hx;exact⟨cF (by rw[hp];exact hq),by show x.br.length<=1000;rw[hr];have:=R2.2;omega,λF1=>KK hE R4 F1 hp⟩
 have Z0:s.prove (aO aP) l 10 f=match aP 2 f with
  |none=>s.gY (aO aP) l 13
  |some m=>if(s.c.doors (l.toNat-1)).gy=false then s.refuse (aO aP) l 0 17
   else if oT (k.kn (l.toNat-1)) (k.kf (l.toNat-1)) l m.role (s.c.doors (l.toNat-1)).au (λj=>f (2+j))=false then(ph s (l.toNat-1) (jZ (s.c.doors (l.toNat-1)))).gY (aO aP) l 14
   else if Sd.eJ s.c.p l m.role=false then(ph s (l.toNat-1) (jZ (s.c.doors (l.toNat-1)))).refuse (aO aP) l 0 18
   else if(Sd.az.dU s.c.p s.c.ag l m.role (gQ (k.kn (l.toNat-1)) (k.kf (l.toNat-1)) l m.role (s.c.doors (l.toNat-1)).au)).2≠0 then(ph s (l.toNat-1) (jZ (s.c.doors (l.toNat-1)))).refuse (aO aP) l 0 (Sd.az.dU s.c.p s.c.ag l m.role (gQ (k.kn (l.toNat-1)) (k.kf (l.toNat-1)) l m.role (s.c.doors (l.toNat-1)).au)).2
   else((Av s (l.toNat-1) (jZ (s.c.doors (l.toNat-1))) (Sd.az.dU s.c.p s.c.ag l m.role (gQ (k.kn (l.toNat-1)) (k.kf (l.toNat-1)) l m.role (s.c.doors (l.toNat-1)).au)).1).tell l ⟨130,0,m.role,s.c.t.aE,s.c.t.af,0,λ_=>0⟩).record (aO aP) 3 l 0 0 0:=by
  unfold Sd.aa.prove;rw[if_neg (by decide)];show(match aP 2 f with|none=>_|some m=>_)=_;cases aP 2 f with
  |none=>rfl
  |some m=>
   simp only[aO,hKk];rfl
 unfold RV;refine⟨⟨by decide,by omega,hf⟩,aH (λe=>?_) (λe=>?_)⟩
 ·rw[Z0,ZZ e]at hK;exact⟨cF hq,Gf hP.r.r1 λF1=>KK rfl hK F1⟩
 ·have hm:=ZY e;have Z3:=anu (n:=2) (f:=f) (by rw[hm];simp);rw[Z0,hm]at hK;simp only at hK;refine⟨⟨rfl,rfl,hP.lo,⟨Z3.1,by omega⟩,hP.key⟩,aH (λe1=>?_) (λe1=>aH (λe2=>⟨trivial,aH (λe3=>?_) (λe3=>⟨⟨hP.b_,hP.lo⟩,aH (λe4=>?_) (λe4=>?_)⟩)⟩) (λe2=>?_))⟩
  ·rw[if_pos (by simpa using e1)]at hK;refine R3 _ (hD _) 17 _ (by rw[x_];rfl) ⟨by decide,by decide⟩ ?_ hK;rw[x_];have:ph s (l.toNat-1) (s.c.doors (l.toNat-1))=s:=by
    unfold ph;have:(λj=>if j=l.toNat-1 then s.c.doors (l.toNat-1)else s.c.doors j)=s.c.doors:=by funext j;split<;>simp_all
    rw[this]
   rw[this]
  ·rw[if_neg (by simpa using e1),if_neg (by rw[e2];decide),if_pos (by simpa using e3)]at hK;exact R3 _ (hD _) 18 _ (by rw[x_];rfl) ⟨by decide,by decide⟩ (by rw[x_]) hK
  ·obtain⟨b2,b1,b3⟩:=Gy s l (iE 2 f).role (gQ (k.kn (l.toNat-1)) (k.kf (l.toNat-1)) l (iE 2 f).role (s.c.doors (l.toNat-1)).au);rw[b2]at e4⊢;have Z4:(Sd.az.dU s.c.p s.c.ag l (iE 2 f).role (gQ (k.kn (l.toNat-1)) (k.kf (l.toNat-1)) l (iE 2 f).role (s.c.doors (l.toNat-1)).au)).2≠0:=by simpa using e4
   rw[if_neg (by simpa using e1),if_neg (by rw[e2];decide),if_neg (by simpa using e3),if_pos Z4]at hK;have Z5:(Sd.az.dU s.c.p s.c.ag l (iE 2 f).role (gQ (k.kn (l.toNat-1)) (k.kf (l.toNat-1)) l (iE 2 f).role (s.c.doors (l.toNat-1)).au)).1=s.c.ag/\N8 (Sd.az.dU s.c.p s.c.ag l (iE 2 f).role (gQ (k.kn (l.toNat-1)) (k.kf (l.toNat-1)) l (iE 2 f).role (s.c.doors (l.toNat-1)).au)).2:=by
    revert Z4;unfold Sd.az.dU;split
    ·intro _;exact⟨rfl,(show N8 1 from⟨by decide,by decide⟩)⟩
    ·split
     ·intro _;exact⟨rfl,(show N8 19 from⟨by decide,by decide⟩)⟩
     ·intro h;exact absurd rfl h
   refine R3 _ (tW _ _) _ _ (by rw[R1];rfl) Z5.2 ?_ hK;rw[R1,Z5.1];rfl
  ·obtain⟨b2,b1,b3⟩:=Gy s l (iE 2 f).role (gQ (k.kn (l.toNat-1)) (k.kf (l.toNat-1)) l (iE 2 f).role (s.c.doors (l.toNat-1)).au);rw[b2]at e4;rw[if_neg (by simpa using e1),if_neg (by rw[e2];decide),if_neg (by simpa using e3),if_neg (by simpa using e4)]at hK;have key:∀(x:Sd.aa) (hx:aY k x=aY k s),x=Av s (l.toNat-1) (jZ (s.c.doors (l.toNat-1))) (Sd.az.dU s.c.p s.c.ag l (iE 2 f).role (gQ (k.kn (l.toNat-1)) (k.kf (l.toNat-1)) l (iE 2 f).role (s.c.doors (l.toNat-1)).au)).1->
    (cy k x (hx▸F)/\dR [.int .i64 l,.agg (lh 130 0 (iE 2 f).role s.c.t.aE s.c.t.af 0)] k x (hx▸F) λv s2 F2=>cy k s2 F2/\iU (aO aP) [.int .i64 3,.int .i64 l,.int .i64 0,.int .i64 0,.int .i64 0] k (bR s2) F2 λv s' F'=>lf k Kb f t s s' F'):=by
    rintro x hx rfl;refine⟨cF hq,⟨⟨(show Rm (Av s _ _ _) 8 from hP.r).le (by decide),⟨(show(129:Int)<=130/\(130:Int)<=136 by decide),⟨vS,.inr rfl⟩,⟨Z3,.inl rfl⟩,⟨hP.c_,.inl (.inl rfl)⟩,⟨hP.ep,.inl (.inl rfl)⟩,⟨(show N8 0 from⟨by decide,by decide⟩),.inr rfl⟩,⟨λj=>(show(0:Int)<=0/\(0:Int)<=255 from⟨by decide,by decide⟩),.inr rfl⟩⟩⟩,λF2=>⟨cF hq,nj ?_ λF3=>KK rfl hK F3⟩⟩⟩;have:=hP.r.2;simp only[Sd.aa.tell,Av];omega
   exact key _ (tW _ _) (R1 _ _ _)
  ·rw[if_neg (by simpa using e1),if_pos e2]at hK;exact anv _ (hD _) 14 _ (by rw[x_];rfl) (by rw[x_]) hK
def ku (k:LK):LK:={k with px:=none,pn:=0,pc:=0}
def Gz (C:Sd.aN):SM fr:=λar k s F K=>match ar with
 |[.int .i64 l,.raw vp]=>(vp=dZ k/\KJ k s l/\By k.pf)/\∀F',K (.ao []) (s.prove C l k.pn k.pf) F'
 |_=>False
theorem Z6 (a b c:Nat) (more:List Nat):Gl gS (bJ a b c++more):=by
 intro g i dp;unfold gS at dp;split at dp
 ·obtain rfl:=ck dp;exact⟨by simp,rfl⟩
 ·obtain rfl:=ck dp;exact⟨by simp,rfl⟩
 ·cases dp
theorem anw {k:LK} {s:Sd.aa} (F:a9 fr (aY k s)) (h0:0<k.pn):∃(bp:Nat) (t:List ab) (F0:a9 fr (aY (ku k) s)),k.px=some ⟨bp,0,none⟩/\k.pn<=k.pc/\F0.vs=F.vs/\F0.vr=F.vr/\F.B=F0.B++[⟨bp,true,.cells (ah [] (eC k.pn k.pf t).c).toArray 5 (0,0)⟩]/\
 (ah [] (eC k.pn k.pf t).c).toArray=bw k.pn k.pf k.pc:=by
 obtain⟨b0,b1,b2,b3,b4,hB,k0,k1,k2,k3,k4⟩:=F.hk;obtain⟨hle,h|⟨bp,hx,hb⟩⟩:=k4
 ·have:=h.2.1;simp only[aY]at this;omega
 ·have e:(ah [] (eC k.pn k.pf (kO (k.pc-k.pn) (.int .u8 0))).c).toArray=bw k.pn k.pf k.pc:=by
   simp[eC,ah,cl,bw,bP]
  refine⟨bp,kO (k.pc-k.pn) (.int .u8 0),{F with Bk:=b0++(b1++(b2++(b3++[]))),hk:=⟨b0,b1,b2,b3,[],rfl,k0,k1,k2,k3,⟨dE _,.inl ⟨rfl,rfl,rfl,rfl⟩⟩⟩},hx,hle,rfl,rfl,?_,e⟩;rw[e,rV,rV];show _=(F.Br++(F.Bs++(F.Bf++(F.Bq++(b0++(b1++(b2++(b3++[]))))))))++_;rw[hB,hb];simp[bN,aY]
theorem anx {k:LK} {s:Sd.aa} (F0:a9 fr (aY (ku k) s)) {bp:Nat} (hx:k.px=some ⟨bp,0,none⟩) (hle:k.pn<=k.pc):∃F:a9 fr (aY k s),F.vs=F0.vs/\F.vr=F0.vr/\F.B=F0.B++[⟨bp,true,.cells (bw k.pn k.pf k.pc) 5 (0,0)⟩]:=by
 obtain⟨b0,b1,b2,b3,b4,hB,k0,k1,k2,k3,k4⟩:=F0.hk;have h4:b4=[]:=by
  obtain⟨_,h|⟨b,hx,_⟩⟩:=k4
  ·exact h.2.2.2
  ·cases hx
 subst h4;refine⟨{F0 with Bk:=b0++(b1++(b2++(b3++[⟨bp,true,.cells (bw k.pn k.pf k.pc) 5 (0,0)⟩]))),hk:=⟨b0,b1,b2,b3,_,rfl,k0,k1,k2,k3,⟨hle,.inr ⟨bp,hx,rfl⟩⟩⟩},rfl,rfl,?_⟩;rw[rV,rV];show(F0.Br++(F0.Bs++(F0.Bf++(F0.Bq++(b0++(b1++(b2++(b3++[(⟨bp,true,.cells (bw k.pn k.pf k.pc) 5 (0,0)⟩:ai)]))))))))=_;rw[hB];simp[bN]
theorem Z7 {k:LK} {s:Sd.aa} (F:a9 fr (aY k s)) (F0:a9 fr (aY (ku k) s)) (h1:F0.vs=F.vs) (h2:F0.vr=F.vr):bC (ku k) s F0=bC k s F:=by
 have e:rU 3 F0=rU 3 F:=by unfold rU;rw[h1,h2]
 show[bU (ku k),g_ (ku k),rU 3 F0,gC (ku k) 4 s,gp s]=_;rw[e];rfl
theorem anz (ht:Body (fr:=fr) 147 dR):Body (fr:=fr) 99 (Gz (aO aP)):=by
 intro ar k s F Kb a b c R ms w0 w h0 hq hM S;unfold Gz at hM;split at hM
 ·rename_i l vp;obtain⟨⟨rfl,hP,hf⟩,hK⟩:=hM;have R5:=ane (fr:=fr) aP ht;by_cases hn:k.pn=10
  ·obtain⟨bp,t,F0,hx,hle,v1,v2,hB,mu⟩:=anw F (by omega);obtain⟨e,he⟩:∃e,k.pc=e+10:=⟨k.pc-10,by omega⟩;rw[hn]at hB mu hK;have eP:lits (bJ a b c++[bp]) (bJ a b c++[bp]) (bC (ku k) s F0++[eC 10 k.pf t])=lits (bJ a b c) (bJ a b c) (bC k s F)++[⟨bp,true,.cells (ah [] (eC 10 k.pf t).c).toArray 5 (0,0)⟩]:=by
    rw[Z7 F F0 v1 v2,eZ _ _ _ _ rfl,e_ (ids:=bJ a b c) (more:=[bp]) (bJ a b c) (bC k s F) rfl];rfl
   have S1:St ms w0 (lits (bJ a b c++[bp]) (bJ a b c++[bp]) (bC (ku k) s F0++[eC 10 k.pf t])++av [bb (ku k) s F0] R) w:=by
    rw[eP];have en:av [bb (ku k) s F0] R=F0.B++R:=rfl;rw[en];rw[hB]at S;refine S.perm ?_;rw[bN,bN];refine pI _ ?_;exact qV _ _ _
   have cJ:bu (bQ prog gS (LP fr (aO aP))) 90 99 [.ptr 2 0,.int .i64 l,.sl 5 0 10 (e+10)] (bC (ku k) s F0++[eC 10 k.pf t]) [bb (ku k) s F0] (RU (ku k) s 10 k.pf t λv s' _=>∀F',Kb v s' F'):=by
    have R6:KJ (ku k) s l:=⟨hP.r,hP.lo,hP.key,hP.ke,hP.b_,hP.c_,hP.ep⟩;have hl:l=1\/l=2\/l=3:=by have:=hP.lo;omega
    have rL:∀F0':a9 fr (aY (ku k) (s.prove (aO aP) l 10 k.pf)),∀F',Kb (.ao []) (s.prove (aO aP) l 10 k.pf) F':=λ_=>hK;rcases hl with rfl|rfl|rfl
    ·rw[anf];refine RZ (λe=>vW (i:=0) (by decide) rfl rfl rfl) (λe r key=>?_) rfl (by decide) hq R6 hf rL;obtain⟨_,b1,b3⟩:=Gy s 1 r key;exact RX (i:=0) (by decide) rfl rfl rfl b1 (b3 (by decide)).1 (b3 (by decide)).2
    ·rw[ang];refine RZ (λe=>vW (i:=1) (by decide) rfl rfl rfl) (λe r key=>?_) rfl (by decide) hq R6 hf rL;obtain⟨_,b1,b3⟩:=Gy s 2 r key;exact RX (i:=1) (by decide) rfl rfl rfl b1 (b3 (by decide)).1 (b3 (by decide)).2
    ·rw[anh];refine RZ (λe=>vW (i:=2) (by decide) rfl rfl rfl) (λe r key=>?_) rfl (by decide) hq R6 hf rL;obtain⟨_,b1,b3⟩:=Gy s 3 r key;exact RX (i:=2) (by decide) rfl rfl rfl b1 (b3 (by decide)).1 (b3 (by decide)).2
   have ea:(aA (bJ a b c) (.ptr 2 0::[.int .i64 l,.raw (dZ k)])).toArray=(aA (bJ a b c++[bp]) [.ptr 2 0,.int .i64 l,.sl 5 0 10 (e+10)]).toArray:=by
    have:dZ k=.slice (some ⟨bp,0,none⟩) 10 (e+10):=by unfold dZ;rw[hx,hn,he]
    rw[this];rfl
   rw[ea];refine(eD R5.T R5.Q 90 (C:=bQ prog gS (LP fr (aO aP))) (Z6 a b c [bp]) rfl S1 cJ).mono ?_;rintro v w' ⟨x,more,bl',ch',rfl,h1,S',s',F',hv,hp,R7,hb,rfl⟩;have ev:den (bJ a b c++[bp]++more) x=den [] x:=by have:=fy (ids:=[]) (more:=bJ a b c++[bp]++more) x hv;simpa using this
   rw[<-hn]at mu;obtain⟨F2,u1,u2,Fi⟩:=anx F' hx hle;refine⟨x,s',F2,ev,hv,hp,R7 F2,?_⟩;have ni:bl'=(bC (ku k) s' F'++[eC 10 k.pf t])++bl'.drop 6:=by rw[<-hb,iZ]
   rw[ni]at S';have e2:lits (bJ a b c++[bp]++more) (bJ a b c++[bp]++more) ((bC (ku k) s' F'++[eC 10 k.pf t])++bl'.drop 6)=(lits (bJ a b c) (bJ a b c) (bC k s' F2)++[⟨bp,true,.cells (ah [] (eC 10 k.pf t).c).toArray 5 (0,0)⟩])++lits (bJ a b c++[bp]++more) more (bl'.drop 6):=by
    rw[eZ _ _ _ _ rfl,e_ (ids:=bJ a b c++[bp]) (more:=more) (bJ a b c++[bp]) _ rfl];rw[<-Z7 F2 F' u1.symm u2.symm,eZ _ _ _ _ rfl,e_ (ids:=bJ a b c) (more:=[bp]) (bJ a b c) (bC (ku k) s' F') rfl];rfl
   rw[e2]at S';have e3:av [bb (ku k) s' F'] R=F'.B++R:=rfl;rw[e3]at S';have S2:=S'.sub (bs':=(lits (bJ a b c) (bJ a b c) (bC k s' F2)++[⟨bp,true,.cells (ah [] (eC 10 k.pf t).c).toArray 5 (0,0)⟩])++(F'.B++R)) (by
    rw[bN (lits _ _ _++_)];exact yE (n8 _ _) _)
   rw[Fi];rw[hn]at mu⊢;rw[mu]at S2;refine S2.perm ?_;rw[bN,bN];refine pI _ ?_;exact qV _ _ _
  ·refine mq (M:=λar k s F K=>(ar=[.int .i64 l,.raw (dZ k)]/\k.pn≠10/\s.br.length<=1000)/\∀F',K (.ao []) (s.gY (aO aP) l 13) F') (n:=90) R5 ?_ _ k s F Kb a b c R ms w0 w h0 hq ⟨⟨rfl,hn,by have:=hP.r.2;omega⟩,?_⟩ S
   ·rintro ar k s F Kb _ hq ⟨⟨rfl,hn,hr⟩,hK⟩;rw[ani];refine aH (λe=>⟨cF hq,Gf hr λF1=>eH rfl hK F1⟩) (λe=>?_);have:(k.pn:Int)=10:=by simpa using e
    omega
   ·have:s.prove (aO aP) l k.pn k.pf=s.gY (aO aP) l 13:=by unfold Sd.aa.prove;rw[if_pos hn]
    rw[this]at hK;exact hK
 ·exact hM.elim
end
section
open Go Go.RowKit Go.BigFrame Sx Vx
def gR:Nat->Option Nat
 |1=>some 0
 |_=>none
def R9:QF:=⟨151,λargs _=>match args with
 |[.agg wl,.int .i64 n]=>(match Qc wl with
  |some z=>some ((0<=z.high/\z.high<=4294967295)/\(0<=n/\n<=4294967295),.ao [.agg (YT (dH z n)),.bool (FH (dH z n) z)])
  |none=>none)
 |_=>none⟩
theorem anA (gl:Nat->Option Nat):R9.Ok prog gl:=by
 intro args bl p v h hp ids w _ _;unfold R9 at h;dsimp only at h;split at h
 ·rename_i wl n;split at h
  ·rename_i z hz;simp only[aS,bd]at h;obtain⟨rfl,rfl⟩:=h;obtain rfl:=ai6 hz;exact told (aim z n hp.1 hp.2 w)
  ·cases h
 ·cases h
def R_ {G:Type} (k:LK):cP G:=λargs bl ch K=>match args with
 |[.agg [.bH .u8 32 key],.int .i64 l,.sl i 0 n c]=>(match bl[i]?with
  |some b=>(match b.c with
   |[.bH .u8 n' f,.rest t]=>cond (wZ b.ty 5&&bI bl.length bl) ((bl[0]?=some (bU k)/\n=n'/\n<=58/\n<=c/\(0<=l/\l<4294967296))/\
    ((n<8\/lO key l (n-8) f=false)->K (.ao [.raw (.slice none 0 0),.int .i64 14]) bl ch)/\
    (8<=n->lO key l (n-8) f=true->(n=8->∀(x:Option aI) (c':Nat),K (.ao [.raw (.slice x 0 c'),.int .i64 0]) bl ch)/\
     (8<n->∀(c':Nat) (t':List ab),n-8<=c'->K (.ao [.sl bl.length 0 (n-8) c',.int .i64 0]) (bl++[eC (n-8) f t']) ch))) False
   |_=>False)
  |none=>False)
 |[.agg [.bH .u8 32 key],.int .i64 l,.raw (.slice x 0 c)]=>K (.ao [.raw (.slice none 0 0),.int .i64 14]) bl ch
 |_=>False
theorem anB {G:Type} [Bl G] (k:LK):Sound (G:=G) prog gR 150 (R_ k):=by
 intro args ids bl ch R ms w0 w K hg hl S hc;unfold R_ at hc;split at hc
 ·rename_i key l i n c;split at hc
  ·rename_i b hb;split at hc
   ·rename_i n' f t hbc;cases hq:wZ b.ty 5&&bI bl.length bl with
    |false=>rw[hq]at hc;exact hc.elim
    |true=>
     rw[hq]at hc;simp only[cond_true]at hc;simp only[a_]at hq;obtain⟨⟨hr,rfl,hn,jc,s8⟩,qj,Z8⟩:=hc;have aK:=(fp hl S hb).2;rw[hbc,NA hq.1]at aK;have kr:w.heap[1]?=some (.cells (aq .u32 64 cx) k.tg (0,0)):=by
      have h1:=(fp hl S hr).2;rw[(hg 1 0 rfl).2]at h1;have e:(ah ids (bU k).c).toArray=aq .u32 64 cx:=by kernel_rfl
      rw[e]at h1;exact h1
     have h8:bV w (ids.getD i 0) 0 n f:=by
      intro j hj;rw[cell_of aK];have e:(ah ids [V.bH .u8 n f,.rest t]).toArray=((bh n).map (λj=>dT .u8 (f j))++t).toArray:=by simp[ah,cl]
      rw[e];simp only[eh,iX];rw[gI (by simpa using hj),iI,mF hj];rfl
     have ea:(aA ids [.agg [.bH .u8 32 key],.int .i64 l,.sl i 0 n c]).toArray=#[.agg (aq .u8 32 key),.int .i64 l,.slice (some ⟨ids.getD i 0,0,none⟩) n c]:=by kernel_rfl
     rw[ea];have fin:∀{v:ab} {w1:ae},v=.tuple #[.slice none 0 0,.int .i64 14]->Ch [] w w1->K (.ao [.raw (.slice none 0 0),.int .i64 14]) bl ch->∃x more bl' ch',v=den (ids++more) x/\(ids++more).length=bl'.length/\St ms w0 (lits (ids++more) (ids++more) bl'++av ch' R) w1/\K x bl' ch':=by
      rintro v w1 rfl bT hk;exact⟨_,[],bl,ch,by simp[den,aA],by simpa using hl,by simpa using S.quiet bT,hk⟩
     rcases cE n 8 with h|h
     ·exact(XT key l _ n c h w).mono λv w1 ⟨hv,bT⟩=>fin hv bT (qj (.inl h))
     ·obtain⟨m,rfl⟩:∃m,n=m+8:=⟨n-8,by omega⟩;rw[Nat.add_sub_cancel]at qj Z8;cases ho:lO key l m f with
      |false=>exact(agZ key l _ 0 m c f (by omega) jc s8 ho w kr h8).mono λv w1 ⟨hv,bT⟩=>fin hv bT (qj (.inr ho))
      |true=>
       refine(ag0 key l _ 0 m c f (by omega) jc s8 ho w kr h8).mono ?_;rintro v w1 ⟨x1,c1,jC,rfl,Sa,S1⟩;obtain⟨y0,y1⟩:=Z8 h ho;have hS:=S.quiet S1.ch;rcases uh m with rfl|h0
       ·exact⟨_,[],bl,ch,by simp[den,aA],by simpa using hl,by simpa using hS,y0 rfl x1 c1⟩
       ·obtain⟨bn,hle,rfl,rfl⟩:=Eh Sa h0;refine⟨_,[bn],_,ch,?_,by simp[hl],?_,y1 (by omega) c1 (kO (c1-m) (.int .u8 0)) hle⟩
        ·simp only[den,aA];rw[<-hl,j7]
        ·rw[eZ _ _ _ _ hl,e_ _ _ (by rw[hl];exact hq.2)];have e2:lits (ids++[bn]) [bn] [eC m f (kO (c1-m) (.int .u8 0))]=[⟨bn,true,.cells (bw m f c1) 5 (0,0)⟩]:=by
          simp[lits,ay,eC,ah,cl,bw,bP]
         rw[e2];have anC:=S1.nC (x:=⟨bn,true,.cells (bw m f c1) 5 (0,0)⟩) (by simp) rfl;have eo:w.heap.size<=bn:=by rcases anC with h|h;cases h;exact h
         have:=S.new S1.ch eo (S1.at' (x:=⟨bn,true,.cells (bw m f c1) 5 (0,0)⟩) (by simp));refine this.perm ?_;rw[bN];exact jH.symm
   ·exact hc.elim
  ·exact hc.elim
 ·rename_i key l x c;have ea:(aA ids [.agg [.bH .u8 32 key],.int .i64 l,.raw (.slice x 0 c)]).toArray=#[.agg (aq .u8 32 key),.int .i64 l,.slice x 0 c]:=by kernel_rfl
  rw[ea];refine(XT key l x 0 c (by decide) w).mono ?_;rintro v w1 ⟨rfl,bT⟩;exact⟨_,[],bl,ch,by simp[den,aA],by simpa using hl,by simpa using S.quiet bT,hc⟩
 ·exact hc.elim
def LO (k:LK):List (bK Empty):=⟨150,false,R_ k⟩::qL Empty (KH::R9::QV)
theorem KR (k:LK):aG prog gR (LO k):=aG.cons ⟨anB k,λe=>by cases e⟩ (kD (bF.cons (ZV gR) (bF.cons (anA gR) (FW gR))))
def gd (e:Int):V:=.ao [.agg (cG (Sd.l5 0)),.int .i64 e]
def GA (w:Sd.gi) (b:Int) (m:Sd.bo) (e:Int) (X:V->Option (Sd.gi×Sd.Timer)->Prop):Prop:=
 cond (e !=0) (X (gd 13) none) (cond (m.kind==1) (X (gd 13) none) (cond (m.kind==2) (X (gd 13) none)
  (((0<=w.high/\w.high<=4294967295)/\(0<=m.seq/\m.seq<=4294967295))/\cond (!(FH (dH w m.seq) w)) (X (gd 15) none)
    ((-9223372036854775808<=b/\b<=9223372036854775807)/\X (.ao [.agg (cG m),.int .i64 0]) (some (dH w m.seq,Sd.Timer.start b))))))
def GB (k:LK) (s:Sd.gz) (b l:Int) (n c:Nat) (f:Nat->Int) (X:V->Option (Sd.gi×Sd.Timer)->Prop):Prop:=
 cond (!s.on) (X (gd 16) none) ((some (bU k)=some (bU k)/\n=n/\n<=58/\n<=c/\(0<=l/\l<4294967296))/\
  ((n<8\/lO s.key l (n-8) f=false)->X (gd 14) none)/\
  (8<=n->lO s.key l (n-8) f=true->(n=8->∀(x:Option aI) (c':Nat),True/\GA s.seen b (iE 0 λ_=>0) (r_ 0 λ_=>0) X)/\
   (8<n->∀(c':Nat) (t':List ab),n-8<=c'->(n-8<=n-8/\n-8<=c'/\By f)/\GA s.seen b (iE (n-8) f) (r_ (n-8) f) X)))
def qJ (s:Sd.gz):Option (Sd.gi×Sd.Timer)->Sd.gz
 |none=>s
 |some (w,t)=>{s with seen:=w,on:=true,eB:=t}
def kT (X:V->List VB->Prop):VK Empty:=λv bl _=>X v (bl.take 3)
section
variable(k:LK) (y:TC) (n c:Nat) (f:Nat->Int) (t:List ab) (X:V->List VB->Prop)
theorem anD:bu (bQ prog gR (LO k)) 60 100 [.ptr 1 0,.int .i64 1,.sl 2 0 n c] [bU k,⟨true,⟨157,(0,0)⟩,cT y⟩,eC n f t] [] (kT X)=GB k y.s0 y.b 1 n c f λv o=>X v [bU k,⟨true,⟨157,(0,0)⟩,cT {y with s0:=qJ y.s0 o}⟩,eC n f t]:=by kernel_rfl
theorem anE:bu (bQ prog gR (LO k)) 60 100 [.ptr 1 0,.int .i64 2,.sl 2 0 n c] [bU k,⟨true,⟨157,(0,0)⟩,cT y⟩,eC n f t] [] (kT X)=GB k y.sa y.b 2 n c f λv o=>X v [bU k,⟨true,⟨157,(0,0)⟩,cT {y with sa:=qJ y.sa o}⟩,eC n f t]:=by kernel_rfl
theorem anF:bu (bQ prog gR (LO k)) 60 100 [.ptr 1 0,.int .i64 3,.sl 2 0 n c] [bU k,⟨true,⟨157,(0,0)⟩,cT y⟩,eC n f t] [] (kT X)=GB k y.sb y.b 3 n c f λv o=>X v [bU k,⟨true,⟨157,(0,0)⟩,cT {y with sb:=qJ y.sb o}⟩,eC n f t]:=by kernel_rfl
def kK (y:TC) (l:Int):Sd.gz:=if l=1 then y.s0 else if l=2 then y.sa else y.sb
theorem anG (x:Option aI):bu (bQ prog gR (LO k)) 60 100 [.ptr 1 0,.int .i64 1,.raw (.slice x 0 c)] [bU k,⟨true,⟨157,(0,0)⟩,cT y⟩] [] (λv bl _=>X v (bl.take 2))=cond (!y.s0.on) (X (gd 16) [bU k,⟨true,⟨157,(0,0)⟩,cT y⟩]) (X (gd 14) [bU k,⟨true,⟨157,(0,0)⟩,cT y⟩]):=by kernel_rfl
theorem anH (x:Option aI):bu (bQ prog gR (LO k)) 60 100 [.ptr 1 0,.int .i64 2,.raw (.slice x 0 c)] [bU k,⟨true,⟨157,(0,0)⟩,cT y⟩] [] (λv bl _=>X v (bl.take 2))=cond (!y.sa.on) (X (gd 16) [bU k,⟨true,⟨157,(0,0)⟩,cT y⟩]) (X (gd 14) [bU k,⟨true,⟨157,(0,0)⟩,cT y⟩]):=by kernel_rfl
theorem anI (x:Option aI):bu (bQ prog gR (LO k)) 60 100 [.ptr 1 0,.int .i64 3,.raw (.slice x 0 c)] [bU k,⟨true,⟨157,(0,0)⟩,cT y⟩] [] (λv bl _=>X v (bl.take 2))=cond (!y.sb.on) (X (gd 16) [bU k,⟨true,⟨157,(0,0)⟩,cT y⟩]) (X (gd 14) [bU k,⟨true,⟨157,(0,0)⟩,cT y⟩]):=by kernel_rfl
end
variable{fr:Sd.aF->Nat×Sd.aw}
def kL (s:Sd.gz) (b l:Int) (n:Nat) (f:Nat->Int):V×Option (Sd.gi×Sd.Timer):=
 if s.on=false then(gd 16,none)else if n<8\/lO s.key l (n-8) f=false then(gd 14,none)else match aP (n-8) f with
 |none=>(gd 13,none)
 |some m=>if m.kind=1\/m.kind=2 then(gd 13,none)else if dH s.seen m.seq=s.seen then(gd 15,none)else(.ao [.agg (cG m),.int .i64 0],some (dH s.seen m.seq,Sd.Timer.start b))
theorem anJ {w:Sd.gi} {b:Int} {n:Nat} {f:Nat->Int} {X:V->Option (Sd.gi×Sd.Timer)->Prop} (hw:0<=w.high/\w.high<=4294967295) (hb:0<=b/\b<=1000)
 (h0:aP n f=none->X (gd 13) none) (h1:∀m,aP n f=some m->if m.kind=1\/m.kind=2 then X (gd 13) none else if dH w m.seq=w then X (gd 15) none else X (.ao [.agg (cG m),.int .i64 0]) (some (dH w m.seq,Sd.Timer.start b))):
 GA w b (iE n f) (r_ n f) X:=by
 unfold GA;refine aH (λe=>h0 (ZZ e)) (λe=>?_);have hm:=ZY e;have h2:=h1 _ hm;have j8:=RY hm;refine aH (λe1=>?_) (λe1=>aH (λe2=>?_) (λe2=>⟨⟨hw,j8.seq⟩,aH (λe3=>?_) (λe3=>⟨by omega,?_⟩)⟩))
 ·rw[if_pos (.inl (by simpa using e1))]at h2;exact h2
 ·rw[if_pos (.inr (by simpa using e2))]at h2;exact h2
 ·rw[if_neg (by simp at e1 e2;simp[e1,e2]),if_pos ((Yw _ _).1 (by simpa using e3))]at h2;exact h2
 ·rw[if_neg (by simp at e1 e2;simp[e1,e2]),if_neg (λh=>by rw[(Yw _ _).2 h]at e3;simp at e3)]at h2;exact h2
theorem Sb {k:LK} {s:Sd.gz} {b l:Int} {n c:Nat} {f:Nat->Int} {X:V->Option (Sd.gi×Sd.Timer)->Prop} (hw:s.on=true->0<=s.seen.high/\s.seen.high<=4294967295) (hb:0<=b/\b<=1000) (hn:n<=58) (hc:n<=c) (hl:1<=l/\l<=3) (hf:By f)
 (h:X (kL s b l n f).1 (kL s b l n f).2):GB k s b l n c f X:=by
 unfold kL at h;unfold GB;refine aH (λe=>?_) (λe=>⟨⟨rfl,rfl,hn,hc,by omega,by omega⟩,λGp=>?_,λh8 ho=>?_⟩)
 ·rw[if_pos (by simpa using e)]at h;exact h
 ·rw[if_neg (by simpa using e),if_pos Gp]at h;exact h
 ·rw[if_neg (by simpa using e),if_neg (by rw[ho];simp;omega)]at h;have main:∀g:Nat->Int,aP (n-8) g=aP (n-8) f->GA s.seen b (iE (n-8) g) (r_ (n-8) g) X:=by
   intro g hg;refine anJ (hw (by simpa using e)) hb (λh0=>?_) (λm hm=>?_)
   ·rw[hg]at h0;rw[h0]at h;exact h
   ·rw[hg]at hm;rw[hm]at h;simp only at h;split
    ·rename_i h1;rw[if_pos h1]at h;exact h
    ·rename_i h1;rw[if_neg h1]at h;split
     ·rename_i h2;rw[if_pos h2]at h;exact h
     ·rename_i h2;rw[if_neg h2]at h;exact h
  refine⟨λSa x c'=>⟨trivial,?_⟩,λSa c' t' w6=>⟨⟨dE _,w6,hf⟩,main f rfl⟩⟩;have h0:n-8=0:=by omega
  have:=main (λ_=>0) (by rw[h0];rfl);rw[h0]at this;exact this
theorem anK (t:Sd.az) (p:Sd.aJ) (l:Int) (n:Nat) (f:Nat->Int) (hl:1<=l/\l<=3):
 (∃e,Sd.az.take (aO aP) p t l n f=(t,.error e)/\kL (t.aj (l.toNat-1)) p.b_ l n f=(gd e,none))\/
 (∃m w,Sd.az.take (aO aP) p t l n f=(t.dW (l.toNat-1) {(t.aj (l.toNat-1))with seen:=w,on:=true,eB:=.start p.b_},.ok m)/\kL (t.aj (l.toNat-1)) p.b_ l n f=(.ao [.agg (cG m),.int .i64 0],some (w,Sd.Timer.start p.b_))):=by
 have iA:t.dt l=(t.aj (l.toNat-1)).on:=by
  unfold Sd.az.dt;simp[hl.1,hl.2]
 unfold Sd.az.take kL;rw[iA];by_cases h1:(t.aj (l.toNat-1)).on=false
 ·rw[if_pos h1,if_pos h1];exact .inl ⟨16,rfl,rfl⟩
 ·rw[if_neg h1,if_neg h1];by_cases h2:n<8\/lO (t.aj (l.toNat-1)).key l (n-8) f=false
  ·rw[if_pos h2];have:n<8\/(aO aP).opens (t.aj (l.toNat-1)).key l n f=false:=h2;rw[if_pos this];exact .inl ⟨14,rfl,rfl⟩
  ·rw[if_neg h2];have:¬(n<8\/(aO aP).opens (t.aj (l.toNat-1)).key l n f=false):=h2;rw[if_neg this];rw[show(aO aP).take (n-8) f=aP (n-8) f from rfl];cases C2:aP (n-8) f with
   |none=>exact .inl ⟨13,rfl,rfl⟩
   |some m=>
    simp only;by_cases h3:m.kind=1\/m.kind=2
    ·rw[if_pos h3,if_pos h3];exact .inl ⟨13,rfl,rfl⟩
    ·rw[if_neg h3,if_neg h3];by_cases h4:dH (t.aj (l.toNat-1)).seen m.seq=(t.aj (l.toNat-1)).seen
     ·rw[if_pos h4];have:(aO aP).fh (t.aj (l.toNat-1)).seen m.seq=(t.aj (l.toNat-1)).seen:=h4;rw[if_pos this];exact .inl ⟨15,rfl,rfl⟩
     ·rw[if_neg h4];have:¬(aO aP).fh (t.aj (l.toNat-1)).seen m.seq=(t.aj (l.toNat-1)).seen:=h4;rw[if_neg this];exact .inr ⟨m,dH (t.aj (l.toNat-1)).seen m.seq,rfl,rfl⟩
theorem Z9 {d:FD} (F:a9 fr d) (h0:0<d.k.pn):∃(bp:Nat) (t:List ab) (X:List ai),d.k.px=some ⟨bp,0,none⟩/\d.k.pn<=d.k.pc/\F.B=X++[⟨bp,true,.cells (ah [] (eC d.k.pn d.k.pf t).c).toArray 5 (0,0)⟩]:=by
 obtain⟨b0,b1,b2,b3,b4,hB,k0,k1,k2,k3,k4⟩:=F.hk;obtain⟨hle,h|⟨bp,hx,hb⟩⟩:=k4
 ·have:=h.2.1;omega
 ·have e:(ah [] (eC d.k.pn d.k.pf (kO (d.k.pc-d.k.pn) (.int .u8 0))).c).toArray=bw d.k.pn d.k.pf d.k.pc:=by
   simp[eC,ah,cl,bw,bP]
  refine⟨bp,kO (d.k.pc-d.k.pn) (.int .u8 0),F.Br++(F.Bs++(F.Bf++(F.Bq++(b0++(b1++(b2++b3)))))),hx,hle,?_⟩;rw[e,rV,hB,hb];simp[bN]
def Sc (C:Sd.aN):cP (Gh fr):=λargs bl ch K=>match args,ch with
 |[.ptr it 0,.int .i64 l,.raw vp],g::rest=>(match bl[it]?with
  |some ⟨true,⟨157,(0,0)⟩,tc⟩=>(match rS tc with
   |some y=>cond (!(ax it 0)) ((vp=dZ g.d.k/\bl[0]?=some (bU g.d.k)/\g.d.k.pn<=58/\By g.d.k.pf/\(1<=l/\l<=3)/\(0<=y.b/\y.b<=1000)/\(∀i,i<3->((bM y).aj i).on=true->0<=((bM y).aj i).seen.high/\((bM y).aj i).seen.high<=4294967295))/\
    (∀e,Sd.az.take C (pY y.b y.m) (bM y) l g.d.k.pn g.d.k.pf=(bM y,.error e)->K (gd e) bl ch)/\
    (∀t' m,Sd.az.take C (pY y.b y.m) (bM y) l g.d.k.pn g.d.k.pf=(t',.ok m)->K (.ao [.agg (cG m),.int .i64 0]) (bl.set it ⟨true,⟨157,(0,0)⟩,cT (Ap t' y.b y.m)⟩) ch)) False
   |none=>False)
  |_=>False)
 |_,_=>False
theorem anL {bl:List VB} {i:Nat} {b:VB} (h:bl[i]?=some b):bl.set i b=bl:=by
 apply um;intro j;rw[List.getElem?_set];split
 ·rename_i e;subst e;have:=ia h;rw[if_pos this];exact h.symm
 ·rfl
theorem anM:Sound prog gS 100 (Sc (fr:=fr) (aO aP)):=by
 intro args ids bl ch R ms w0 w K hg hl S hc;unfold Sc at hc;split at hc
 ·rename_i it l vp g rest;split at hc
  ·rename_i tc hb;split at hc
   ·rename_i y hy;cases hq:!(ax it 0)with
    |false=>rw[hq]at hc;exact hc.elim
    |true=>
     rw[hq]at hc;simp only[cond_true]at hc;obtain⟨⟨rfl,hr,hn,hf,NH,Se,hwn⟩,hE,hO⟩:=hc;obtain rfl:=xS hy;have rR:it≠0:=by rintro rfl;simp at hq
     have hi:=ia hb;have hi0:=ia hr;have Z_:ids.getD 0 0=1:=(hg 1 0 rfl).2;obtain⟨r,KI,gD⟩:=xT hl (is:=[0,it]) (by simp[Ne.symm rR]) (by simp[hi,hi0]);have aaa:(pY y.b y.m).b_=y.b:=rfl;have p1:=gD bl rfl;simp only[eQ,uw,fb,fc]at p1;rw[iT hb,iT hr,Z_]at p1;have KT:(bM y).aj (l.toNat-1)=kK y l:=by
      have:l=1\/l=2\/l=3:=by omega
      rcases this with rfl|rfl|rfl<;>rfl
     have GC:=anK (bM y) (pY y.b y.m) l g.d.k.pn g.d.k.pf NH;rw[KT,aaa]at GC;have hw:(kK y l).on=true->0<=(kK y l).seen.high/\(kK y l).seen.high<=4294967295:=by rw[<-KT];exact hwn _ (by omega)
     have e0:av (g::rest) R=g.F.B++av rest R:=rfl;rw[e0]at S;have er:∀is:List Nat,ay is 1 (bU g.d.k)=ay [] 1 (bU g.d.k):=λis=>by
      have:=jO (ids:=[]) (more:=is) (bU g.d.k).c rfl;simp only[fc]at this;simp only[ay,this]
     have et:∀(is:List Nat) (i:Nat) (y:TC),ay is i ⟨true,⟨157,(0,0)⟩,cT y⟩=ay [] i ⟨true,⟨157,(0,0)⟩,cT y⟩:=λis i y=>by
      have:=jO (ids:=[]) (more:=is) (cT y) rfl;simp only[fc]at this;simp only[ay,this]
     have ep:∀(is:List Nat) (i n:Nat) (f:Nat->Int) (t:List ab),ay is i (eC n f t)=ay [] i (eC n f t):=λis i n f t=>by
      have:=jO (ids:=[]) (more:=is) (eC n f t).c rfl;simp only[fc]at this;simp only[ay,this]
     have back:∀(y':TC) (w':ae) (Z:List ai),St ms w0 (ay [] 1 (bU g.d.k)::ay [] (ids.getD it 0) ⟨true,⟨157,(0,0)⟩,cT y'⟩::((r.map λj=>ay ids (ids.getD j 0) (bl.getD j cX))++Z)) w'->St ms w0 (lits ids ids (bl.set it ⟨true,⟨157,(0,0)⟩,cT y'⟩)++Z) w':=by
      intro y' w' Z hS;have p2:=gD (bl.set it ⟨true,⟨157,(0,0)⟩,cT y'⟩) (by simp);simp only[eQ,uw,fb,fc]at p2;have e3:(r.map λj=>ay ids (ids.getD j 0) ((bl.set it ⟨true,⟨157,(0,0)⟩,cT y'⟩).getD j cX))=r.map λj=>ay ids (ids.getD j 0) (bl.getD j cX):=by
       apply pH;intro j hj;have:=KI j hj;simp only[ij];rw[kq (λh=>this (by simp[h]))]
      rw[e3,iT (Af hi),iT (i:=0) (b:=bU g.d.k) (by rw[HL rR];exact hr),Z_,er,et]at p2;exact hS.perm (p2.symm.append_right Z)
     have done:∀{w':ae} (y':TC) (v:V) (o:Option (Sd.gi×Sd.Timer)),cz 0 v=true->kL (kK y l) y.b l g.d.k.pn g.d.k.pf=(v,o)->y'=(if l=1 then{y with s0:=qJ y.s0 o}else if l=2 then{y with sa:=qJ y.sa o}else{y with sb:=qJ y.sb o})->
      St ms w0 (lits ids ids (bl.set it ⟨true,⟨157,(0,0)⟩,cT y'⟩)++(g.F.B++av rest R)) w'->∃x more bl' ch',den [] v=den (ids++more) x/\(ids++more).length=bl'.length/\St ms w0 (lits (ids++more) (ids++more) bl'++av ch' R) w'/\K x bl' ch':=by
      intro w' y' v o hv ht KU hS;have ev:∀is,den is v=den [] v:=λis=>by have:=fy (ids:=[]) (more:=is) v hv;simpa using this
      rcases GC with⟨e,h1,h2⟩|⟨m,w2,h1,h2⟩
      ·rw[h2]at ht;obtain⟨rfl,rfl⟩:=Be ht;have Sf:y'=y:=by
        rw[KU];split
        ·rfl
        ·split<;>rfl
       rw[Sf]at hS;have s7:bl.set it ⟨true,⟨157,(0,0)⟩,cT y⟩=bl:=anL hb;rw[s7]at hS;exact⟨gd e,[],bl,g::rest,(ev _).symm,by simpa using hl,by rw[cI,e0];exact hS,hE e h1⟩
      ·rw[h2]at ht;obtain⟨rfl,rfl⟩:=Be ht;refine⟨.ao [.agg (cG m),.int .i64 0],[],_,g::rest,(ev _).symm,by simpa using hl,?_,hO _ m h1⟩;rw[cI,e0];have Sf:Ap ((bM y).dW (l.toNat-1) {kK y l with seen:=w2,on:=true,eB:=.start y.b}) y.b y.m=y':=by
        rw[KU];have:l=1\/l=2\/l=3:=by omega
        rcases this with rfl|rfl|rfl<;>rfl
       rw[Sf];exact hS
     have hX:∀(y':TC) (o:Option (Sd.gi×Sd.Timer)) (v:V),kL (kK y l) y.b l g.d.k.pn g.d.k.pf=(v,o)->cz 0 v=true:=by
      intro y' o v hv;rcases GC with⟨e,h1,h2⟩|⟨m,w2,h1,h2⟩<;>(rw[h2]at hv;obtain⟨rfl,rfl⟩:=Be hv;rfl)
     rcases uh g.d.k.pn with hz|zO
     ·
      have FE:Gl gR [1,ids.getD it 0]:=by
       intro gg i dp;unfold gR at dp;split at dp
       ·obtain rfl:=ck dp;exact⟨by simp,rfl⟩
       ·cases dp
      have S1:=S.perm (p1.append_right _);simp only[fb]at S1;rw[er,et]at S1;have S2:St ms w0 (lits [1,ids.getD it 0] [1,ids.getD it 0] [bU g.d.k,⟨true,⟨157,(0,0)⟩,cT y⟩]++av ([]:List Empty) ((r.map λj=>ay ids (ids.getD j 0) (bl.getD j cX))++(g.F.B++av rest R))) w:=by
       simp only[lits,av,er,et,fb,fc];exact S1
      let X:V->List VB->Prop:=λv b=>v=(kL (kK y l) y.b l g.d.k.pn g.d.k.pf).1/\b=[bU g.d.k,⟨true,⟨157,(0,0)⟩,cT y⟩]
      have hT:kL (kK y l) y.b l g.d.k.pn g.d.k.pf=if(kK y l).on=false then(gd 16,none)else(gd 14,none):=by
       unfold kL;rw[hz];split
       ·rfl
       ·rw[if_pos (.inl (by decide))]
      have cJ:bu (bQ prog gR (LO g.d.k)) 60 100 [.ptr 1 0,.int .i64 l,.raw (.slice g.d.k.px 0 g.d.k.pc)] [bU g.d.k,⟨true,⟨157,(0,0)⟩,cT y⟩] [] (λv bl _=>X v (bl.take 2)):=by
       have Sg:cond (!(kK y l).on) (X (gd 16) [bU g.d.k,⟨true,⟨157,(0,0)⟩,cT y⟩]) (X (gd 14) [bU g.d.k,⟨true,⟨157,(0,0)⟩,cT y⟩]):=by
        refine aH (λe=>⟨?_,rfl⟩) (λe=>⟨?_,rfl⟩)
        ·rw[hT,if_pos (by simpa using e)]
        ·rw[hT,if_neg (by simpa using e)]
       have:l=1\/l=2\/l=3:=by omega
       rcases this with rfl|rfl|rfl
       ·rw[anG];exact Sg
       ·rw[anH];exact Sg
       ·rw[anI];exact Sg
      have ea:(aA ids [.ptr it 0,.int .i64 l,.raw (dZ g.d.k)]).toArray=(aA [1,ids.getD it 0] [.ptr 1 0,.int .i64 l,.raw (.slice g.d.k.px 0 g.d.k.pc)]).toArray:=by
       have:dZ g.d.k=.slice g.d.k.px 0 g.d.k.pc:=by unfold dZ;rw[hz]
       rw[this];rfl
      rw[ea];refine(eD (KR g.d.k).T (KR g.d.k).Q 60 (C:=bQ prog gR (LO g.d.k)) FE rfl S2 cJ).mono ?_;rintro v w' ⟨x,more,bl',ch',rfl,h1,S3,hv,j8⟩;have vY:cz 0 x=true:=by
       rw[hv];exact hX y _ _ rfl
      have ni:bl'=[bU g.d.k,⟨true,⟨157,(0,0)⟩,cT y⟩]++bl'.drop 2:=by rw[<-j8,iZ]
      rw[ni]at S3;have e2:lits ([1,ids.getD it 0]++more) ([1,ids.getD it 0]++more) ([bU g.d.k,⟨true,⟨157,(0,0)⟩,cT y⟩]++bl'.drop 2)=ay [] 1 (bU g.d.k)::ay [] (ids.getD it 0) ⟨true,⟨157,(0,0)⟩,cT y⟩::lits ([1,ids.getD it 0]++more) more (bl'.drop 2):=by
       simp only[fb,fc,lits,er,et]
      rw[e2]at S3;have e3:av ch' ((r.map λj=>ay ids (ids.getD j 0) (bl.getD j cX))++(g.F.B++av rest R))=(r.map λj=>ay ids (ids.getD j 0) (bl.getD j cX))++(g.F.B++av rest R):=by cases ch' with
       |nil=>rfl
       |cons c _=>cases c
      rw[e3]at S3;have S4:=S3.sub (bs':=ay [] 1 (bU g.d.k)::ay [] (ids.getD it 0) ⟨true,⟨157,(0,0)⟩,cT y⟩::((r.map λj=>ay ids (ids.getD j 0) (bl.getD j cX))++(g.F.B++av rest R))) (by
       simp only[fb];exact H2 _ (H2 _ (n8 _ _)))
      have ex:den ([1,ids.getD it 0]++more) x=den [] x:=by have:=fy (ids:=[]) (more:=[1,ids.getD it 0]++more) x vY;simpa using this
      rw[ex];have ho:(kL (kK y l) y.b l g.d.k.pn g.d.k.pf).2=none:=by rw[hT];split<;>rfl
      refine done y x none vY ?_ ?_ (back y w' _ S4)
      ·rw[hv,<-ho]
      ·split
       ·rfl
       ·split<;>rfl
     ·
      obtain⟨bp,t,XX,hx,hle,Sh⟩:=Z9 g.F zO;have FE:Gl gR [1,ids.getD it 0,bp]:=by
       intro gg i dp;unfold gR at dp;split at dp
       ·obtain rfl:=ck dp;exact⟨by simp,rfl⟩
       ·cases dp
      have anN:(⟨bp,true,.cells (ah [] (eC g.d.k.pn g.d.k.pf t).c).toArray 5 (0,0)⟩:ai)=ay [] bp (eC g.d.k.pn g.d.k.pf t):=rfl;rw[anN]at Sh;have S1:=S.perm (p1.append_right _);rw[Sh]at S1;simp only[fb]at S1;rw[er,et]at S1;have pm:∀(a b c:ai) (A B Z:List ai),(a::b::(A++((B++[c])++Z))).Perm (a::b::c::(A++(B++Z))):=by
       intro a b c A B Z;refine ui a (ui b ?_);have:=jH (a:=c) (l₁:=A++B) (l₂:=Z);simpa[bN]using this
      have S2:St ms w0 (lits [1,ids.getD it 0,bp] [1,ids.getD it 0,bp] [bU g.d.k,⟨true,⟨157,(0,0)⟩,cT y⟩,eC g.d.k.pn g.d.k.pf t]++av ([]:List Empty) ((r.map λj=>ay ids (ids.getD j 0) (bl.getD j cX))++(XX++av rest R))) w:=by
       simp only[lits,av,er,et,ep,fb,fc];exact S1.perm (pm _ _ _ _ _ _)
      let X:V->List VB->Prop:=λv b=>v=(kL (kK y l) y.b l g.d.k.pn g.d.k.pf).1/\b=[bU g.d.k,⟨true,⟨157,(0,0)⟩,cT (if l=1 then{y with s0:=qJ y.s0 (kL (kK y l) y.b l g.d.k.pn g.d.k.pf).2}else if l=2 then{y with sa:=qJ y.sa (kL (kK y l) y.b l g.d.k.pn g.d.k.pf).2}else{y with sb:=qJ y.sb (kL (kK y l) y.b l g.d.k.pn g.d.k.pf).2})⟩,eC g.d.k.pn g.d.k.pf t]
      have cJ:bu (bQ prog gR (LO g.d.k)) 60 100 [.ptr 1 0,.int .i64 l,.sl 2 0 g.d.k.pn g.d.k.pc] [bU g.d.k,⟨true,⟨157,(0,0)⟩,cT y⟩,eC g.d.k.pn g.d.k.pf t] [] (kT X):=by
       have:l=1\/l=2\/l=3:=by omega
       rcases this with rfl|rfl|rfl
       ·rw[anD];exact Sb hw Se hn hle (by decide) hf ⟨rfl,rfl⟩
       ·rw[anE];exact Sb hw Se hn hle (by decide) hf ⟨rfl,rfl⟩
       ·rw[anF];exact Sb hw Se hn hle (by decide) hf ⟨rfl,rfl⟩
      have ea:(aA ids [.ptr it 0,.int .i64 l,.raw (dZ g.d.k)]).toArray=(aA [1,ids.getD it 0,bp] [.ptr 1 0,.int .i64 l,.sl 2 0 g.d.k.pn g.d.k.pc]).toArray:=by
       have:dZ g.d.k=.slice (some ⟨bp,0,none⟩) g.d.k.pn g.d.k.pc:=by unfold dZ;rw[hx]
       rw[this];rfl
      rw[ea];refine(eD (KR g.d.k).T (KR g.d.k).Q 60 (C:=bQ prog gR (LO g.d.k)) FE rfl S2 cJ).mono ?_;rintro v w' ⟨x,more,bl',ch',rfl,h1,S3,hv,j8⟩;generalize KU:(if l=1 then{y with s0:=qJ y.s0 (kL (kK y l) y.b l g.d.k.pn g.d.k.pf).2}else if l=2 then{y with sa:=qJ y.sa (kL (kK y l) y.b l g.d.k.pn g.d.k.pf).2}else{y with sb:=qJ y.sb (kL (kK y l) y.b l g.d.k.pn g.d.k.pf).2}:TC)=y' at j8;have vY:cz 0 x=true:=by
       rw[hv];exact hX y _ _ rfl
      have ni:bl'=[bU g.d.k,⟨true,⟨157,(0,0)⟩,cT y'⟩,eC g.d.k.pn g.d.k.pf t]++bl'.drop 3:=by rw[<-j8,iZ]
      rw[ni]at S3;have e2:lits ([1,ids.getD it 0,bp]++more) ([1,ids.getD it 0,bp]++more) ([bU g.d.k,⟨true,⟨157,(0,0)⟩,cT y'⟩,eC g.d.k.pn g.d.k.pf t]++bl'.drop 3)=ay [] 1 (bU g.d.k)::ay [] (ids.getD it 0) ⟨true,⟨157,(0,0)⟩,cT y'⟩::ay [] bp (eC g.d.k.pn g.d.k.pf t)::lits ([1,ids.getD it 0,bp]++more) more (bl'.drop 3):=by
       simp only[fb,fc,lits,er,et,ep]
      rw[e2]at S3;have e3:∀Z,av ch' Z=Z:=by
       intro Z;cases ch' with
       |nil=>rfl
       |cons c _=>cases c
      rw[e3]at S3;have S4:=S3.sub (bs':=ay [] 1 (bU g.d.k)::ay [] (ids.getD it 0) ⟨true,⟨157,(0,0)⟩,cT y'⟩::ay [] bp (eC g.d.k.pn g.d.k.pf t)::((r.map λj=>ay ids (ids.getD j 0) (bl.getD j cX))++(XX++av rest R))) (by
       simp only[fb];exact H2 _ (H2 _ (H2 _ (n8 _ _))))
      have S5:=S4.perm (pm _ _ _ _ _ _).symm;rw[<-Sh]at S5;have ex:den ([1,ids.getD it 0,bp]++more) x=den [] x:=by have:=fy (ids:=[]) (more:=[1,ids.getD it 0,bp]++more) x vY;simpa using this
      rw[ex];exact done y' x _ vY (by rw[hv]) KU.symm (back y' w' _ S5)
   ·exact hc.elim
  ·exact hc.elim
 ·exact hc.elim
def qK (a:Nat) (f:eN):ab:=.func (.func f) #[.pointer (some ⟨a,0,none⟩)] #[]
def nK (a:Nat):List (Int×ab):=[(3,qK a 152),(4,qK a 153),(5,qK a 154),(6,qK a 155),(7,qK a 156),(8,qK a 157),(9,qK a 158),(10,qK a 159),(11,qK a 159)]
def aab:Nat->Prop->Prop->Prop
 |0,_,q=>q
 |n+1,p,q=>p/\aab n p q
theorem anO (a:Nat) (K:VK xp):bu (Ov prog gN []) 60 101 [.raw (.pointer (some ⟨a,0,none⟩))] [] [] K=∀id:Nat,aab 9 (Value.map (some id)=.map (some id)) (K (.raw (.map (some id))) [] [⟨id,nK a⟩]):=by kernel_rfl
theorem anP (a:Nat) {ms:List Nat} {w0 w:ae} {B:List ai} (S:St ms w0 B w):aQ prog 101 #[.pointer (some ⟨a,0,none⟩)] w λv w1=>∃id,v=.map (some id)/\St ms w0 (⟨id,true,lX .i64 (nK a)⟩::B) w1:=by
 have cJ:bu (Ov prog gN []) 60 101 [.raw (.pointer (some ⟨a,0,none⟩))] [] [] (λv bl ch=>∃id,v=.raw (.map (some id))/\bl=[]/\ch=[⟨id,nK a⟩]):=by
  rw[anO];exact λid=>⟨rfl,rfl,rfl,rfl,rfl,rfl,rfl,rfl,rfl,id,rfl,rfl,rfl⟩
 refine(eD (G:=xp) (aG.nil (P:=prog) (gl:=gN)).T (aG.nil (P:=prog) (gl:=gN)).Q 60 (C:=Ov prog gN []) (ids:=[]) (bl:=[]) (ch:=[]) (R:=B) (args:=[.raw (.pointer (some ⟨a,0,none⟩))]) (λg i h=>by cases h) rfl S cJ).mono ?_;rintro v w' ⟨x,more,bl',ch',rfl,ng,S2,id,rfl,rfl,rfl⟩;have hm:more=[]:=by cases more with
  |nil=>rfl
  |cons=>simp at ng
 subst hm;exact⟨id,by simp[den],S2⟩
def se (a:Nat):Nat->Option Nat:=λg=>match gS g with
 |some i=>some i
 |none=>bif ax g a then some 2 else none
theorem anQ {a:Nat} {ids:List Nat} (h:Gl (se a) ids):Gl gS ids:=λg i hi=>h g i (by unfold se;rw[hi])
theorem aac {a:Nat} {ids:List Nat} (h:Gl (se a) ids) (ha:gS a=none):2<ids.length/\ids.getD 2 0=a:=h a 2 (by unfold se;rw[ha];simp)
def GD (a:Nat):cP (Sm (Gh fr)):=λargs bl ch K=>match args with
 |[.ptr 2 0]=>gS a=none/\∀id:Nat,K (.raw (.map (some id))) bl (ch++[.m ⟨id,nK a⟩])
 |_=>False
theorem anR (a:Nat):Sound prog (se a) 101 (GD (fr:=fr) a):=by
 intro args ids bl ch R ms w0 w K hg hl S hc;unfold GD at hc;split at hc
 ·obtain⟨ha,hK⟩:=hc;have h2:=(aac hg ha).2;have ea:(aA ids [.ptr 2 0]).toArray=#[.pointer (some ⟨a,0,none⟩)]:=by simp only[aA,den,h2]
  rw[ea];refine(anP a S).mono ?_;rintro v w1 ⟨id,rfl,S1⟩;refine⟨_,[],bl,_,?_,by simpa using hl,?_,hK id⟩
  ·simp[den]
  ·rw[cI,ma,hY _ ch];have e:av [(.m ⟨id,nK a⟩:Sm (Gh fr))] R=⟨id,true,lX .i64 (nK a)⟩::R:=rfl;rw[e];rw[hY R ch]at S1;refine S1.perm ?_;rw[<-bN,<-bN];exact jH.symm
 ·exact hc.elim
theorem anS (a:Nat):gO (GD (fr:=fr) a):=by
 intro args bl ch K h;unfold GD at h⊢;split at h
 ·exact⟨h.1,λid=>⟨h.2 id,[],by simp⟩⟩
 ·exact h.elim
def qM (f:eN):V:=.ao [.fn f [.ptr 2 0] [],.bool true]
def KV (a:Nat):(aZ->V)->Op->List VB->List (Sm (Gh fr))->VK (Sm (Gh fr))->Prop:=λe op bl ch K=>match op with
 |.lookup mt m k true=>(match ch,e m,e k with
  |[.g x,.m g],.raw mv,.int .i64 kd=>(match prog.underlying mt with
   |some (.map kt _)=>(match prog.underlying kt with
    |some (.int .i64)=>(mv=.map (some g.id)/\g.tb=nK a/\gS a=none/\3<=kd/\kd<=11)/\
     cond (kd==3) (K (qM 152) bl ch) (cond (kd==4) (K (qM 153) bl ch) (cond (kd==5) (K (qM 154) bl ch) (cond (kd==6) (K (qM 155) bl ch) (cond (kd==7) (K (qM 156) bl ch) (cond (kd==8) (K (qM 157) bl ch) (cond (kd==9) (K (qM 158) bl ch) (K (qM 159) bl ch)))))))
    |_=>False)
   |_=>False)
  |_,_,_=>False)
 |_=>False
theorem aad (a:Nat):fC prog (se a) (KV (fr:=fr) a):=by
 intro e op ids bl ch R ms w0 w K ρ o hg hl S aW ho h;unfold KV at h;split at h
 ·rename_i mt m k;split at h
  ·rename_i x g mv kd hm hk;split at h
   ·rename_i kt et hu;split at h
    ·rename_i Ou;obtain⟨⟨rfl,Si,ha,h3,Gn⟩,hK⟩:=h;have h2:=(aac hg ha).2;have e0:av [(.g x:Sm (Gh fr)),.m g] R=Bl.B x++(⟨g.id,true,lX .i64 g.tb⟩::R):=rfl;have S':=S;rw[e0,Si]at S';have aK:=S'.at' (x:=⟨g.id,true,lX .i64 (nK a)⟩) (by simp);have run:∀f,(∃j,My (.int .i64) (.int .i64 kd) (((nK a).zipIdx.map λx=>(⟨.int .i64 x.1.1,x.1.2,x.2⟩:uo)).toArray).toList 0=some (some (j,qK a f)))->K (qM f) bl [(.g x:Sm (Gh fr)),.m g]->
      ∃Sj more bl' ch' w',((execOp ρ o).run prog w=.ok (.value (den (ids++more) Sj)) w'\/((execOp ρ o).run prog w=.ok .skip w'/\Sj=fA))/\(ids++more).length=bl'.length/\St ms w0 (lits (ids++more) (ids++more) bl'++av ch' R) w'/\K Sj bl' ch':=by
      intro f hf hkf;refine⟨qM f,[],bl,_,w,.inl ?_,by simpa using hl,by simpa using S,hkf⟩;have bE:=aem (P:=prog) hu Ou aK hf;unfold execOp;simp only[ho,aW,hm,hk,den]at bE⊢;have KW:den ids (qM f)=.tuple #[qK a f,.bool true]:=by simp only[qM,den,aA,h2,qK]
      rw[cI,KW];simp only[bj,bE,cd,cW]
     have hkd:kd=3\/kd=4\/kd=5\/kd=6\/kd=7\/kd=8\/kd=9\/kd=10\/kd=11:=by omega
     rcases hkd with rfl|rfl|rfl|rfl|rfl|rfl|rfl|rfl|rfl
     ·exact run 152 ⟨0,by kernel_rfl⟩ hK
     ·exact run 153 ⟨1,by kernel_rfl⟩ hK
     ·exact run 154 ⟨2,by kernel_rfl⟩ hK
     ·exact run 155 ⟨3,by kernel_rfl⟩ hK
     ·exact run 156 ⟨4,by kernel_rfl⟩ hK
     ·exact run 157 ⟨5,by kernel_rfl⟩ hK
     ·exact run 158 ⟨6,by kernel_rfl⟩ hK
     ·exact run 159 ⟨7,by kernel_rfl⟩ hK
     ·exact run 159 ⟨8,by kernel_rfl⟩ hK
    ·exact h.elim
   ·exact h.elim
  ·exact h.elim
 ·exact h.elim
def GF:cP (Gh fr):=λargs bl ch K=>match args,ch with
 |[.raw vp,.int .u8 kd],g::rest=>vp=dZ g.d.k/\K (.bool (decide (0<g.d.k.pn)&&(g.d.k.pf 0==kd))) bl (g::rest)
 |_,_=>False
theorem anT:gO (GF (fr:=fr)):=by
 intro args bl ch K h;unfold GF at h⊢;split at h
 ·exact⟨h.1,h.2,[],by simp⟩
 ·exact h.elim
def GG:List (bK Empty):=[]
theorem anU (x:Option aI) (c:Nat) (kd:Int) (X:V->Prop):bu (bQ (G:=Empty) prog k9 GG) 40 97 [.raw (.slice x 0 c),.int .u8 kd] [] [] (λv _ _=>X v)=X (.bool false):=by kernel_rfl
theorem anV (n c:Nat) (kd:Int) (f:Nat->Int) (t:List ab) (X:V->Prop):bu (bQ (G:=Empty) prog k9 GG) 40 97 [.sl 0 0 (n+1) c,.int .u8 kd] [⟨false,⟨5,(0,0)⟩,[.bH .u8 (n+1) f,.rest t]⟩] [] (λv _ _=>X v)=cond (decide (((n+1:Nat):Int)>0)) (X (.bool (f 0==kd))) (X (.bool false)):=by kernel_rfl
theorem KX:aG (G:=Empty) prog k9 GG:=aG.nil
theorem anW:Sound prog gS 97 (GF (fr:=fr)):=by
 intro args ids bl ch R ms w0 w K hg hl S hc;unfold GF at hc;split at hc
 ·rename_i vp kd g rest;obtain⟨rfl,hK⟩:=hc;have e0:av (g::rest) R=g.F.B++av rest R:=rfl;have S':=S;rw[e0]at S';have main:aQ prog 97 #[dZ g.d.k,.int .u8 kd] w λv w1=>v=.bool (decide (0<g.d.k.pn)&&(g.d.k.pf 0==kd))/\Ch [] w w1:=by
   rcases uh g.d.k.pn with hz|zO
   ·have ep:dZ g.d.k=.slice g.d.k.px 0 g.d.k.pc:=by unfold dZ;rw[hz]
    rw[ep];refine(eD (G:=Empty) KX.T KX.Q 40 (C:=bQ prog k9 GG) (ids:=[]) (bl:=[]) (ch:=[]) (R:=[]) (ms:=[]) (w0:=w) (args:=[.raw (.slice g.d.k.px 0 g.d.k.pc),.int .u8 kd]) (λg i h=>by cases h) rfl (St.nil [] w) (K:=λv _ _=>v=.bool false) (f:=97) (by rw[anU])).mono ?_;rintro v w' ⟨x,more,bl',ch',rfl,ng,S2,rfl⟩;exact⟨by simp[den,hz],S2.ch⟩
   ·obtain⟨bp,t,X,hx,hle,hB⟩:=Z9 g.F zO;rw[hB]at S';have aK:=S'.at' (x:=⟨bp,true,.cells (ah [] (eC g.d.k.pn g.d.k.pf t).c).toArray 5 (0,0)⟩) (by simp);obtain⟨n,hn⟩:∃n,g.d.k.pn=n+1:=⟨g.d.k.pn-1,by omega⟩;have ep:dZ g.d.k=.slice (some ⟨bp,0,none⟩) (n+1) g.d.k.pc:=by unfold dZ;rw[hx,hn]
    rw[ep];rw[hn]at aK;have S0:=St.given (w:=w) [(bp,.cells (ah [] (eC (n+1) g.d.k.pf t).c).toArray 5 (0,0))] (all_cons aK all_nil);have S1:St [] w (lits [bp] [bp] [⟨false,⟨5,(0,0)⟩,[.bH .u8 (n+1) g.d.k.pf,.rest t]⟩]++av ([]:List Empty) []) w:=by
     simpa[lits,ay,ah,cl,av,eC]using S0
    refine(eD (G:=Empty) KX.T KX.Q 40 (C:=bQ prog k9 GG) (args:=[.sl 0 0 (n+1) g.d.k.pc,.int .u8 kd]) (λg i h=>by cases h) rfl S1 (K:=λv _ _=>v=.bool (g.d.k.pf 0==kd)) (f:=97) (by rw[anV];exact aH (λ_=>rfl) (λe=>by have:=of_decide_eq_false e;omega))).mono ?_;rintro v w' ⟨x,more,bl',ch',rfl,ng,S2,rfl⟩;refine⟨?_,S2.ch⟩;have:decide (0<g.d.k.pn)=true:=by simp[zO]
    simp[den,this]
  have ea:(aA ids [.raw (dZ g.d.k),.int .u8 kd]).toArray=#[dZ g.d.k,.int .u8 kd]:=rfl;rw[ea];refine main.mono ?_;rintro v w1 ⟨rfl,bT⟩;exact⟨_,[],bl,g::rest,by simp only[den],by simpa using hl,by simpa using S.quiet bT,hK⟩
 ·exact hc.elim
def Sk (C:Sd.aN):cP (Gh fr):=λargs bl ch K=>match args,ch with
 |[.ptr it 0,.int .i64 l,.raw vp],g::rest=>(match bl[it]?with
  |some ⟨true,⟨157,(0,0)⟩,tc⟩=>(match rS tc with
   |some y=>cond (!(ax it 0)) ((vp=dZ g.d.k/\bl[0]?=some (bU g.d.k)/\g.d.k.pn<=58/\By g.d.k.pf/\(1<=l/\l<=3)/\(0<=y.b/\y.b<=1000)/\(∀i,i<3->((bM y).aj i).on=true->0<=((bM y).aj i).seen.high/\((bM y).aj i).seen.high<=4294967295))/\
    (Sd.az.take C (pY y.b y.m) (bM y) l g.d.k.pn g.d.k.pf=(bM y,.error 16)->K (gd 16) bl ch)/\
    (Sd.az.take C (pY y.b y.m) (bM y) l g.d.k.pn g.d.k.pf=(bM y,.error 14)->K (gd 14) bl ch)/\
    (Sd.az.take C (pY y.b y.m) (bM y) l g.d.k.pn g.d.k.pf=(bM y,.error 13)->K (gd 13) bl ch)/\
    (Sd.az.take C (pY y.b y.m) (bM y) l g.d.k.pn g.d.k.pf=(bM y,.error 15)->K (gd 15) bl ch)/\
    (∀t' m,Sd.az.take C (pY y.b y.m) (bM y) l g.d.k.pn g.d.k.pf=(t',.ok m)->K (.ao [.agg (cG m),.int .i64 0]) (bl.set it ⟨true,⟨157,(0,0)⟩,cT (Ap t' y.b y.m)⟩) ch)) False
   |none=>False)
  |_=>False)
 |_,_=>False
theorem P4 {C:Sd.aN} {p:Sd.aJ} {t t':Sd.az} {l:Int} {n:Nat} {f:Nat->Int} {e:Int} (h:Sd.az.take C p t l n f=(t',.error e)):e=16\/e=14\/e=13\/e=15:=by
 unfold Sd.az.take at h
 repeat' split at h
 all_goals first|(cases h;done)|(obtain⟨_,h2⟩:=Be h;cases h2;simp)
theorem anX:Sound prog gS 100 (Sk (fr:=fr) (aO aP)):=by
 intro args ids bl ch R ms w0 w K hg hl S hc;refine anM args ids bl ch R ms w0 w K hg hl S ?_;unfold Sk at hc;unfold Sc;split at hc
 ·rename_i it l vp g rest;split at hc
  ·rename_i tc hb;try simp only[hb]
   split at hc
   ·rename_i y hy;try simp only[hy]
    cases hq:!(ax it 0)with
    |false=>rw[hq]at hc;exact hc.elim
    |true=>
     rw[hq]at hc;obtain⟨hp,RC,Gp,RA,CW,hok⟩:=hc;refine⟨hp,λe he=>?_,hok⟩;rcases P4 he with rfl|rfl|rfl|rfl
     ·exact RC he
     ·exact Gp he
     ·exact RA he
     ·exact CW he
   ·exact hc.elim
  ·exact hc.elim
 ·exact hc.elim
def LIg (fr:Sd.aF->Nat×Sd.aw) (C:Sd.aN):List (bK (Gh fr)):=⟨98,false,gT (CZ C)⟩::⟨99,false,gT (Gz C)⟩::⟨100,false,Sk C⟩::⟨97,true,GF⟩::⟨152,false,gT (iD λs l m=>s.done l m.seq)⟩::⟨153,false,gT (iD λs l m=>s.zf C l m)⟩::⟨154,false,gT (iD λs l m=>s.ask C l m)⟩::
 ⟨155,false,gT (iD λs l m=>s.offer C l m)⟩::⟨156,false,gT (iD λs l m=>s.accept C l m)⟩::⟨157,false,gT (iD λs l m=>s.fg C l m)⟩::⟨158,false,gT (iD λs l m=>s.release C l m)⟩::⟨159,false,gT (Gq C)⟩::L8 fr C
theorem anY (ht:Body (fr:=fr) 147 dR):aG prog gS (LIg fr (aO aP)):=
 aG.cons (iC (am_ ht)) (aG.cons (iC (anz ht)) (aG.cons ⟨anX,λe=>by cases e⟩ (aG.cons ⟨anW,λ_=>anT⟩ (aG.cons (iC (alT aP ht)) (aG.cons (iC (amE aP ht)) (aG.cons (iC (alY aP ht)) (aG.cons (iC (alW aP ht)) (aG.cons (iC (alU aP ht)) (aG.cons (iC (alV aP ht)) (aG.cons (iC (alX aP ht)) (aG.cons (iC (amF aP ht)) (Gt aP ht))))))))))))
def LI (fr:Sd.aF->Nat×Sd.aw) (a:Nat) (C:Sd.aN):List (bK (Sm (Gh fr))):=⟨101,true,GD a⟩::Ow (LIg fr C)
theorem anZ (a:Nat) (ht:Body (fr:=fr) 147 dR):aG prog (se a) (LI fr a (aO aP)):=aG.cons ⟨anR a,λ_=>anS a⟩ (WE (λids h=>anQ h) (anY ht))
def Sl (k:LK) (s:Sd.aa) (Kb:SK fr k):V->List VB->List (Sm (Gh fr))->Prop:=λv bl ch=>∃s' F' r,cz 0 v=true/\s'.c.p=s.c.p/\Kb v s' F'/\bl.take 5=bC k s' F'/\ch=.g (bb k s' F')::r
section
variable(a:Nat) (C:Sd.aN) (k:LK) (s:Sd.aa) (F:a9 fr (aY k s)) (Kb:SK fr k) (l code:Int)
def yb (r:List (Sm (Gh fr))) (s':Sd.aa) (F':a9 fr (aY k s')):Prop:=Sl k s Kb (.ao []) (bC k s' F') (.g (bb k s' F')::r)
def GH (e:Int):Prop:=Sd.az.take C (pY s.c.p.b_ s.c.p.eS) (dV s.c.ag) l k.pn k.pf=(dV s.c.ag,.error e)->cy k s F/\o8 C [.int .i64 l,.int .i64 e] k (bR s) F λv s' F'=>yb k s Kb [] s' F'
def vZ (M:SM fr) (t':Sd.az) (m:Sd.bo) (id:Nat):Prop:=cy k s F/\M [.int .i64 l,.agg (cG m)] k (Ar s t') F λv s' F'=>yb k s Kb [.m ⟨id,nK a⟩] s' F'
def itO (t':Sd.az) (m:Sd.bo):Prop:=gS a=none/\∀id:Nat,(Value.map (some id)=.map (some id)/\nK a=nK a/\gS a=none/\3<=m.kind/\m.kind<=11)/\
 cond (m.kind==3) (vZ a k s F Kb l (iD λs l m=>s.done l m.seq) t' m id) (cond (m.kind==4) (vZ a k s F Kb l (iD λs l m=>s.zf C l m) t' m id) (cond (m.kind==5) (vZ a k s F Kb l (iD λs l m=>s.ask C l m) t' m id) (cond (m.kind==6) (vZ a k s F Kb l (iD λs l m=>s.offer C l m) t' m id)
 (cond (m.kind==7) (vZ a k s F Kb l (iD λs l m=>s.accept C l m) t' m id) (cond (m.kind==8) (vZ a k s F Kb l (iD λs l m=>s.fg C l m) t' m id) (cond (m.kind==9) (vZ a k s F Kb l (iD λs l m=>s.release C l m) t' m id) (vZ a k s F Kb l (Gq C) t' m id)))))))
def Sn:Prop:=
 cond (code !=0) (cy k s F/\o8 C [.int .i64 l,.int .i64 code] k (bR s) F λv s' F'=>yb k s Kb [] s' F')
 (dZ k=dZ k/\cond (decide (0<k.pn)&&(k.pf 0==1)) (cy k s F/\CZ C [.int .i64 l,.raw (dZ k)] k (bR s) F λv s' F'=>yb k s Kb [] s' F')
 (dZ k=dZ k/\cond (decide (0<k.pn)&&(k.pf 0==2)) (cy k s F/\Gz C [.int .i64 l,.raw (dZ k)] k (bR s) F λv s' F'=>yb k s Kb [] s' F')
 ((dZ k=dZ k/\some (bU k)=some (bU k)/\k.pn<=58/\By k.pf/\(1<=l/\l<=3)/\(0<=s.c.p.b_/\s.c.p.b_<=1000)/\(∀i,i<3->((bM (tP s)).aj i).on=true->0<=((bM (tP s)).aj i).seen.high/\((bM (tP s)).aj i).seen.high<=4294967295))/\
   GH C k s F Kb l 16/\GH C k s F Kb l 14/\GH C k s F Kb l 13/\GH C k s F Kb l 15/\∀t' m,Sd.az.take C (pY s.c.p.b_ s.c.p.eS) (dV s.c.ag) l k.pn k.pf=(t',.ok m)->itO a C k s F Kb l t' m)))
theorem an0:bu (fE prog (se a) (LI fr a C) (KV a) (aad a)) 90 56 [.ptr 2 0,.int .i64 l,.agg [.int .i64 code,.raw (dZ k)]] (bC k s F) [.g (bb k s F)] (Sl k s Kb)=Sn a C k s F Kb l code:=by kernel_rfl
end
theorem an1 {w:Sd.gi} {n:Int} (h:0<=w.high/\w.high<=4294967295) (hn:0<=n/\n<=4294967295):0<=(dH w n).high/\(dH w n).high<=4294967295:=by
 unfold dH
 repeat' split
 all_goals first|exact hn|exact h
theorem aae (H:Nat->Int):By (xw H):=by
 intro j;have hw:∀n:Int,0<=u8.wrap n/\u8.wrap n<=255:=by intro n;simp[sE,pJ,pL];omega
 unfold xw;split<;>exact hw _
theorem an2 (n:Nat) (f:Nat->Int):By (jD n f):=by
 unfold jD;cases bA n 55
 ·exact aae _
 ·exact aae _
theorem C3:Sd.FP (aO aP):=⟨λk s n j=>by
 show 0<=fG k.1 k.2 s n j/\fG k.1 k.2 s n j<=255;unfold fG fU;exact an2 _ _ j,λn f m h=>RY h,λw n h1 h2=>an1 h1 h2⟩
structure C4 (k:LK) (s:Sd.aa) (l:Int):Prop where
 r:Rm s 8
 i:Sd.Inv s.c
 lo:1<=l/\l<=3
 d:∀i,i<3->(s.c.doors i).many<=9223372036854775807
 key:∀i,i<4->1<=k.kn i/\k.kn i<=64
 ke:∀i,i<4->s.c.p.k i=(k.kn i,k.kf i)
 ln:k.pn<=58/\By k.pf
def GI (C:Sd.aN):SM fr:=λar k s F K=>match ar with
 |[.int .i64 l,.agg [.int .i64 code,.raw vp]]=>(vp=dZ k/\C4 k s l)/\∀F',K (.ao []) (s.item C l code k.pn k.pf) F'
 |_=>False
theorem C4.nE {k:LK} {s:Sd.aa} {l:Int} (h:C4 k s l):RQ k s l:=⟨h.r,λi hi=>⟨h.i.doors i hi,h.d i hi⟩,h.key 3 (by decide),h.ke 3 (by decide),⟨by have:=h.ln.1;omega,h.ln.2⟩,h.lo⟩
theorem C4.prv {k:LK} {s:Sd.aa} {l:Int} (h:C4 k s l):KJ k s l:=⟨h.r,h.lo,h.key _ (by have:=h.lo;omega),h.ke _ (by have:=h.lo;omega),by have:=h.i.p.b_;omega,h.i.tok.aE,h.i.km⟩
theorem aaf (C:Sd.aN) (s:Sd.aa) (l:Int) (n:Nat) (f:Nat->Int) (hl:1<=l/\l<=3):
 (∃e,Sd.az.take C (pY s.c.p.b_ s.c.p.eS) (dV s.c.ag) l n f=(dV s.c.ag,.error e)/\Sd.az.take C s.c.p s.c.ag l n f=(s.c.ag,.error e))\/
 (∃m E t,Sd.az.take C (pY s.c.p.b_ s.c.p.eS) (dV s.c.ag) l n f=(E,.ok m)/\Sd.az.take C s.c.p s.c.ag l n f=(t,.ok m)/\Ar s E=ll s t):=by
 have KT:(dV s.c.ag).aj (l.toNat-1)=s.c.ag.aj (l.toNat-1):=by
  have:l=1\/l=2\/l=3:=by omega
  rcases this with rfl|rfl|rfl<;>rfl
 have hb:(pY s.c.p.b_ s.c.p.eS).b_=s.c.p.b_:=rfl;unfold Sd.az.take;rw[Gd,KT,hb];by_cases h1:s.c.ag.dt l=false
 ·rw[if_pos h1,if_pos h1];exact .inl ⟨16,rfl,rfl⟩
 rw[if_neg h1,if_neg h1];by_cases h2:n<8\/C.opens (s.c.ag.aj (l.toNat-1)).key l n f=false
 ·rw[if_pos h2,if_pos h2];exact .inl ⟨14,rfl,rfl⟩
 rw[if_neg h2,if_neg h2];cases C.take (n-8) f with
 |none=>exact .inl ⟨13,rfl,rfl⟩
 |some m=>
  simp only;by_cases h3:m.kind=1\/m.kind=2
  ·rw[if_pos h3,if_pos h3];exact .inl ⟨13,rfl,rfl⟩
  rw[if_neg h3,if_neg h3];by_cases h4:C.fh (s.c.ag.aj (l.toNat-1)).seen m.seq=(s.c.ag.aj (l.toNat-1)).seen
  ·rw[if_pos h4,if_pos h4];exact .inl ⟨15,rfl,rfl⟩
  rw[if_neg h4,if_neg h4];refine .inr ⟨m,_,_,rfl,rfl,RD rfl (λj hj=>?_) (λj=>?_)⟩
  ·simp only[Sd.az.dW];split
   ·rfl
   ·have:j=0\/j=1\/j=2:=by omega
    rcases this with rfl|rfl|rfl<;>rfl
  ·simp only[Sd.az.dW];rw[if_neg (by omega)]
theorem So {C:Sd.aN} {b:Prop} {s s':Sd.aa} {kd l:Int} (h:Sd.eL C b s s' kd l):s'.c.p=s.c.p:=by
 rcases h.z6 with q|⟨how,g,_⟩
 ·exact q.p
 ·exact g.p
theorem an3 {a:Nat} {k:LK} {s:Sd.aa} {F:a9 fr (aY k s)} {Kb:SK fr k} {l code:Int} (ha:gS a=none) (hq:s.c.p.queue=k.most) (hP:C4 k s l) (hK:∀F',Kb (.ao []) (s.item (aO aP) l code k.pn k.pf) F'):Sn a (aO aP) k s F Kb l code:=by
 have leaf:∀(r:List (Sm (Gh fr))) (s':Sd.aa) (F':a9 fr (aY k s')),s'=s.item (aO aP) l code k.pn k.pf->s'.c.p=s.c.p->yb k s Kb r s' F':=by
  intro r s' F' e hp;subst e;exact⟨_,F',r,rfl,hp,hK F',rfl,rfl⟩
 have KY:∀e,code=0->¬(0<k.pn/\k.pf 0=1)->¬(0<k.pn/\k.pf 0=2)->GH (aO aP) k s F Kb l e:=by
  intro e hc h1 h2 he;refine⟨cF hq,Gf (hP.r.r1) λF1=>leaf _ _ F1 ?_ rfl⟩;unfold Sd.aa.item;rw[if_neg (by simp[hc]),if_neg h1,if_neg h2];rcases aaf (aO aP) s l k.pn k.pf hP.lo with⟨e',h3,h4⟩|⟨m,E,t,h3,_,_⟩
  ·rw[h4];rw[h3]at he;have:=(Be he).2;cases this;rfl
  ·rw[h3]at he;have:=(Be he).2;cases this
 unfold Sn;refine aH (λe=>⟨cF hq,Gf hP.r.r1 λF1=>leaf _ _ F1 ?_ rfl⟩) (λe=>⟨rfl,aH (λe1=>⟨cF hq,oZ (M:=CZ (aO aP)) ⟨⟨rfl,hP.nE⟩,λF1=>leaf _ _ F1 ?_ ?_⟩⟩) (λe1=>⟨rfl,aH (λe2=>⟨cF hq,oZ (M:=Gz (aO aP)) ⟨⟨rfl,hP.prv,hP.ln.2⟩,λF1=>leaf _ _ F1 ?_ ?_⟩⟩) (λe2=>?_)⟩)⟩)
 ·unfold Sd.aa.item;rw[if_pos (by simpa using e)]
 ·unfold Sd.aa.item;rw[if_neg (by simpa using e),if_pos (by simpa using e1)]
 ·exact So (b:=False) (Sd.YI C3 hP.i hP.lo)
 ·unfold Sd.aa.item;rw[if_neg (by simpa using e),if_neg (by simpa using e1),if_pos (by simpa using e2)]
 ·exact So (b:=False) (Sd.YJ C3 hP.i hP.lo)
 ·have hc:code=0:=by simpa using e
  have n1:¬(0<k.pn/\k.pf 0=1):=by simpa using e1
  have n2:¬(0<k.pn/\k.pf 0=2):=by simpa using e2
  refine⟨⟨rfl,rfl,hP.ln.1,hP.ln.2,hP.lo,by have:=hP.i.p.b_;omega,λi hi iA=>?_⟩,KY 16 hc n1 n2,KY 14 hc n1 n2,KY 13 hc n1 n2,KY 15 hc n1 n2,λt' m ht=>⟨ha,λid=>?_⟩⟩
  ·have hs:(bM (tP s)).aj i=s.c.ag.aj i:=by
    have:i=0\/i=1\/i=2:=by omega
    rcases this with rfl|rfl|rfl<;>rfl
   rw[hs]at iA⊢;have:=hP.i.ag.aj i hi iA;exact⟨this.2.2.2.2.2.1,this.2.2.2.2.2.2⟩
  ·rcases aaf (aO aP) s l k.pn k.pf hP.lo with⟨e',h3,h4⟩|⟨m',E,t,h3,h4,h5⟩
   ·rw[h3]at ht;have:=(Be ht).2;cases this
   ·rw[h3]at ht;obtain⟨rfl,hm⟩:=Be ht;cases hm;obtain⟨g1,g2,g3,g4,g5⟩:=Sd.YK C3 h4;have hkd:=g2.kind;have aaa:=hP.i.p.b_;have JQ:s.c.ag.on l=true:=by rw[Sd.P5 hP.lo];exact g1
    have iA:(s.c.ag.aj (l.toNat-1)).on=true:=by unfold Sd.az.dt at g1;simp at g1;exact g1.2
    have i1:Sd.Inv (ll s t).c:=by
     have:=hP.i.dW (i:=l.toNat-1) (x:={(s.c.ag.aj (l.toNat-1))with seen:=(aO aP).fh (s.c.ag.aj (l.toNat-1)).seen m.seq,on:=true,eB:=.start s.c.p.b_}) rfl
      (by
       have:=hP.i.ag.aj (l.toNat-1) (by have:=hP.lo;omega) iA;have h9:=C3.fh (s.c.ag.aj (l.toNat-1)).seen m.seq ⟨by omega,by omega⟩ g2.seq;simp[Sd.Timer.start];omega)
     rw[<-g5]at this;exact this
    have hS:Sy (ll s t) l m:=⟨hP.r,i1,g2.seq,hP.lo.1,hP.lo.2⟩;have an4:(ll s t).c.ag.on l=true:=by
     show t.on l=true;rw[g5];exact Sd.JO JQ rfl
    have rR:s.item (aO aP) l code k.pn k.pf=(ll s t).jN (aO aP) l m:=by
     unfold Sd.aa.item;rw[if_neg (by simp[hc]),if_neg n1,if_neg n2,h4];rfl
    have aag:((ll s t).jN (aO aP) l m).c.p=s.c.p:=(So (C:=aO aP) (b:=False) (Sd.YL i1 hP.lo g2 an4 g3 g4)).trans rfl;have go:∀(act:Sd.aa->Int->Sd.bo->Sd.aa),act (ll s t) l m=(ll s t).jN (aO aP) l m->vZ a k s F Kb l (iD act) E m id:=by
     intro act GJ;refine⟨cF hq,Kc (M:=λs' F'=>iD act [.int .i64 l,.agg (cG m)] k s' F' λv s' F'=>yb k s Kb [.m ⟨id,nK a⟩] s' F') h5 F ?_⟩;exact⟨hS,λF1=>leaf _ _ F1 (by rw[rR,GJ]) (by rw[GJ];exact aag)⟩
    refine⟨⟨rfl,rfl,ha,by omega,by omega⟩,?_⟩;have sy:∀j:Int,m.kind=j->(ll s t).jN (aO aP) l m=(ll s t).jN (aO aP) l m:=λ_ _=>rfl;refine aH (λe=>go _ ?_) (λx3=>aH (λe=>go _ ?_) (λx4=>aH (λe=>go _ ?_) (λx5=>aH (λe=>go _ ?_) (λx6=>aH (λe=>go _ ?_) (λx7=>aH (λe=>go _ ?_) (λx8=>aH (λe=>go _ ?_) (λx9=>?_)))))))
    ·unfold Sd.aa.jN;rw[if_pos (by simpa using e)]
    ·unfold Sd.aa.jN;rw[if_neg (by simpa using x3),if_pos (by simpa using e)]
    ·unfold Sd.aa.jN;rw[if_neg (by simpa using x3),if_neg (by simpa using x4),if_pos (by simpa using e)]
    ·unfold Sd.aa.jN;rw[if_neg (by simpa using x3),if_neg (by simpa using x4),if_neg (by simpa using x5),if_pos (by simpa using e)]
    ·unfold Sd.aa.jN;rw[if_neg (by simpa using x3),if_neg (by simpa using x4),if_neg (by simpa using x5),if_neg (by simpa using x6),if_pos (by simpa using e)]
    ·unfold Sd.aa.jN;rw[if_neg (by simpa using x3),if_neg (by simpa using x4),if_neg (by simpa using x5),if_neg (by simpa using x6),if_neg (by simpa using x7),if_pos (by simpa using e)]
    ·unfold Sd.aa.jN;rw[if_neg (by simpa using x3),if_neg (by simpa using x4),if_neg (by simpa using x5),if_neg (by simpa using x6),if_neg (by simpa using x7),if_neg (by simpa using x8),if_pos (by simpa using e)]
    ·have KB:m.kind=10\/m.kind=11:=by simp at x3 x4 x5 x6 x7 x8 x9;omega
     have GJ:(ll s t).command (aO aP) l m=(ll s t).jN (aO aP) l m:=by
      unfold Sd.aa.jN;rw[if_neg (by simpa using x3),if_neg (by simpa using x4),if_neg (by simpa using x5),if_neg (by simpa using x6),if_neg (by simpa using x7),if_neg (by simpa using x8),if_neg (by simpa using x9),if_pos KB]
     refine⟨cF hq,Kc (M:=λs' F'=>Gq (aO aP) [.int .i64 l,.agg (cG m)] k s' F' λv s' F'=>yb k s Kb [.m ⟨id,nK a⟩] s' F') h5 F ?_⟩;exact⟨⟨hS,KB⟩,λF1=>leaf _ _ F1 (by rw[rR,GJ]) (by rw[GJ];exact aag)⟩
theorem an5 (ht:Body (fr:=fr) 147 dR):Body (fr:=fr) 56 (GI (aO aP)):=by
 intro ar k s F Kb a b c R ms w0 w h0 hq hM S;unfold GI at hM;split at hM
 ·rename_i l code vp;obtain⟨⟨rfl,hP⟩,hK⟩:=hM;have an6:bJ a b c=[1,0,a,b,c]:=rfl;have ha:gS a=none:=by
   have h1:(lits (bJ a b c) (bJ a b c) (bC k s F)++(F.B++R))[0]?=some (ay (bJ a b c) 1 (bU k)):=rfl;have h2:(lits (bJ a b c) (bJ a b c) (bC k s F)++(F.B++R))[1]?=some (ay (bJ a b c) 0 (g_ k)):=rfl;have h3:(lits (bJ a b c) (bJ a b c) (bC k s F)++(F.B++R))[2]?=some (ay (bJ a b c) a (rU 3 F)):=rfl;have n0:a≠1:=S.apart 2 0 _ _ h3 h1 (by decide) rfl;have n2:a≠0:=S.apart 2 1 _ _ h3 h2 (by decide) rfl;unfold gS;split
   ·exact absurd rfl n0
   ·exact absurd rfl n2
   ·rfl
  have hg:Gl (se a) (bJ a b c):=by
   intro g i dp;unfold se at dp;split at dp
   ·rename_i j hj;obtain rfl:=ck dp;have:=Z6 a b c [] g j hj;simpa using this
   ·cases hb:ax g a with
    |false=>rw[hb]at dp;cases dp
    |true=>
     rw[hb]at dp;obtain rfl:=ck dp;obtain rfl:=b9 hb;exact⟨by simp[an6],rfl⟩
  have S1:St ms w0 (lits (bJ a b c) (bJ a b c) (bC k s F)++av [(.g (bb k s F):Sm (Gh fr))] R) w:=S;have hL:=anZ (fr:=fr) a ht;refine(eD (G:=Sm (Gh fr)) hL.T hL.Q 90 (C:=fE prog (se a) (LI fr a (aO aP)) (KV a) (aad a)) (f:=56) (args:=[.ptr 2 0,.int .i64 l,.agg [.int .i64 code,.raw (dZ k)]]) (K:=Sl k s Kb) hg rfl S1 (by
   rw[an0];exact an3 ha hq hP hK)).mono ?_
  rintro v w' ⟨x,more,bl',ch',rfl,h1,S',s',F',r,hv,hp,R7,hb,rfl⟩;have ev:den (bJ a b c++more) x=den [] x:=by have:=fy (ids:=[]) (more:=bJ a b c++more) x hv;simpa using this
  refine⟨x,s',F',ev,hv,hp,R7,?_⟩;have ni:bl'=bC k s' F'++bl'.drop 5:=by rw[<-hb,iZ]
  rw[ni]at S';have e2:lits (bJ a b c++more) (bJ a b c++more) (bC k s' F'++bl'.drop 5)=lits (bJ a b c) (bJ a b c) (bC k s' F')++lits (bJ a b c++more) more (bl'.drop 5):=by
   rw[eZ _ _ _ _ rfl,e_ (ids:=bJ a b c) (more:=more) (bJ a b c) (bC k s' F') rfl]
  rw[e2]at S';have e3:av (.g (bb k s' F')::r:List (Sm (Gh fr))) R=F'.B++av r R:=rfl;rw[e3,hY R r]at S';refine S'.sub ?_;rw[bN];refine yE ?_ _;refine List.Sublist.trans ?_ (n8 _ _);exact yE (n8 _ _) _
 ·exact hM.elim
end
section
open Go Go.RowKit Go.BigFrame Sx Vx
variable{fr:Sd.aF->Nat×Sd.aw}
structure gv (c:Sd.Core):Prop where
 p:Sd.eF c.p
 t:TB c.t
 o1:cv c.t.oa.n
 o2:cv c.t.oa.most
 l1:cv c.t.la.n
 l2:cv c.t.la.most
 vh:c.t.offer<=4
 q:∀a∈c.q,N4 a.source/\cv a.fZ.n/\cv a.fZ.most
 pt:PtB c.pt
theorem b0:cv 0:=⟨by decide,by decide⟩
theorem an7 {n m:Int} (h1:cv n) (h2:cv m):cv (Sd.sat n m):=by
 obtain⟨a,b⟩:=h1;obtain⟨c,d⟩:=h2;unfold Sd.sat;split
 ·exact⟨by omega,by omega⟩
 ·exact⟨c,d⟩
theorem gv.tok {c:Sd.Core} (h:gv c) {t:Sd.Tok} (ht:TB t) (o1:cv t.oa.n) (o2:cv t.oa.most) (vh:t.offer<=4) (hl:t.la=c.t.la):gv {c with t:=t}:=⟨h.p,ht,o1,o2,hl▸h.l1,hl▸h.l2,vh,h.q,h.pt⟩
theorem gv.drop {c:Sd.Core} (h:gv c) (l:Int):gv {c with t:=(c.t.drop l).1}:=by
 unfold Sd.Tok.drop;split
 ·exact h
 ·exact h.tok ⟨h.t.h,h.t.e⟩ b0 b0 (by simp[Sd.Tok.gX]) rfl
theorem gv.tick {c:Sd.Core} (h:gv c):gv {c with t:=c.t.tick.1}/\c.t.tick.2<=4:=by
 unfold Sd.Tok.tick;split
 ·exact⟨h,by simp⟩
 ·split
  ·exact⟨h.tok ⟨h.t.h,h.t.e⟩ b0 b0 (by simp[Sd.Tok.gX]) rfl,h.vh⟩
  ·exact⟨h.tok ⟨h.t.h,h.t.e⟩ (an7 h.o1 h.o2) h.o2 h.vh rfl,by simp⟩
theorem gv.qs {c:Sd.Core} (h:gv c) {q:List Sd.Ask} (hq:∀a∈q,N4 a.source/\cv a.fZ.n/\cv a.fZ.most):gv {c with q:=q}:=⟨h.p,h.t,h.o1,h.o2,h.l1,h.l2,h.vh,hq,h.pt⟩
theorem gv.head {c:Sd.Core} (h:gv c) (x:Sd.aw):gv {c with head:=x}:=⟨h.p,h.t,h.o1,h.o2,h.l1,h.l2,h.vh,h.q,h.pt⟩
theorem gv.Sr {s:Sd.aa} (h:gv s.c) (C:Sd.aN) (a b c d e:Int):gv (s.record C a b c d e).c:=h.head _
theorem gv.gone {s:Sd.aa} (h:gv s.c) (l w c:Int):gv (s.gone l w c).c:=by rw[qF];exact h
theorem gv.leave {s:Sd.aa} (h:gv s.c) (C:Sd.aN) (l:Int):gv (s.leave C l).c:=by
 have h1:gv (qd s l).c:=h.qs λa ha=>h.q a (List.mem_filter.1 ha).1;rw[RF];split
 ·exact h1
 ·exact((show gv (jm (qd s l) (s.c.t.drop l).1).c from h1.drop l).gone _ _ _).Sr _ _ _ _ _ _
def an8 (C:Sd.aN) (s:Sd.aa) (a:Sd.Ask):Sd.aa:=(s.gone a.source a.source 30).record C 12 a.source 0 30 0
def Aw (C:Sd.aN) (s:Sd.aa) (x:Int):Sd.aa:=if Sd.linked x then(s.record C 5 x 0 0 0).leave C x else s.record C 5 x 0 0 0
def an9 (C:Sd.aN) (s:Sd.aa):Sd.aa:=if 0<=s.c.t.tick.2 then((jm s s.c.t.tick.1).gone s.c.t.tick.1.aE s.c.t.tick.2 30).record C 12 s.c.t.tick.2 0 30 0 else jm s s.c.t.tick.1
section
variable{tk:Nat->Sd.aw->Option Sd.bo} {k:LK} {s0:Sd.aa} {Kb:SK fr k}
theorem gv.Aw {s:Sd.aa} (h:gv s.c) (C:Sd.aN) (x:Int):gv (Aw C s x).c:=by
 unfold Go.Proofs.YtggfpcggakghnaaGreatDoor.Aw;split
 ·exact(h.Sr C _ _ _ _ _).leave C x
 ·exact h.Sr C _ _ _ _ _
theorem Rm.Aw {C:Sd.aN} {s:Sd.aa} {x:Int} {n:Nat} (h:Rm s (n+3)):Rm (Aw C s x) n:=by
 unfold Go.Proofs.YtggfpcggakghnaaGreatDoor.Aw;have h1:Rm (s.record C 5 x 0 0 0) (n+2):=Rm.rec h;split
 ·exact h1.leave
 ·exact h1.le (by omega)
end
def Hi (s:Sd.aa):Prop:=∀j,(s.c.ag.aj (j+3)).on=false
def Ss (C:Sd.aN) (s:Sd.aa):Sd.aa:=an9 C (s.c.ag.ended.foldl (Aw C) (ll s s.c.ag.tick))
theorem Su (C:Sd.aN) (s:Sd.aa):s.tick C=am7 (((Sd.Q.gone (Ss C s).c.q).foldl (an8 C) (cN (Ss C s) (Sd.Q.kept (Ss C s).c.q))).dP C):=by kernel_rfl
structure TkP (s:Sd.aa):Prop where
 c:gv s.c
 r:Rm s 28
 h:Hi s
 b:TB3 s.c.ag
def cV:ab:=.slice none 0 0
def dc (k:LK) (s:Sd.aa):List VB:=[bU k,g_ k,gC k 3 s,gp s]
def aah (k:LK) (s:Sd.aa) (F:a9 fr (aY k s)):Prop:=cV=F.vs/\cV=F.vr/\some (bU k)=some (bU k)/\some (g_ k)=some (g_ k)/\lg k 3 s=lg k 3 (bR s)/\s.c.p.b_=s.c.p.b_/\s.c.p.eS=s.c.p.eS/\s.c.p.queue=k.most
def GK (s:Sd.aa) (vs vr:ab):List V:=[.int .i64 s.c.mode,.int .i64 s.c.pt.cls,.int .i64 s.c.pt.now.a,.int .i64 s.c.pt.now.b,.int .i64 s.c.pt.now.c,.int .i64 s.c.pt.now.d,.int .i64 s.c.fm.lY,.int .i64 s.c.fm.source,.int .i64 s.c.fm.seq,
 .int .i64 s.c.pt.bG.lY,.int .i64 s.c.pt.bG.source,.int .i64 s.c.pt.bG.seq,.raw vs,.raw vr,.bH .u8 32 s.c.head]
def GL (k:LK) (s:Sd.aa) (Kb:(s':Sd.aa)->a9 fr (aY k s')->Prop):VK (Gh fr):=λv bl ch=>∃(s':Sd.aa) (F':a9 fr (aY k s')),v=.agg (GK s' F'.vs F'.vr)/\bl.take 4=dc k s'/\ch=[bb k s' F']/\Kb s' F'
def LCi (fr:Sd.aF->Nat×Sd.aw) (C:Sd.aN):List (bK (Gh fr)):=[⟨56,false,gT (GI C)⟩]
theorem an_ (ht:Body (fr:=fr) 147 dR):aG prog gS (LCi fr (aO aP)):=aG.cons (iC (an5 ht)) aG.nil
section
variable(C:Sd.aN) (k:LK) (s:Sd.aa) (F:a9 fr (aY k s)) (Kb:(s':Sd.aa)->a9 fr (aY k s')->Prop)
def lfC (s':Sd.aa) (F':a9 fr (aY k s')):Prop:=GL k s Kb (.agg (GK s' F'.vs F'.vr)) (dc k s') [bb k s' F']
def aai (l code:Int):Prop:=
 let no:Prop:=GL k s Kb (.agg (GK s cV cV)) (dc k s) [bb k s F]
 cond (decide (l>=1)) (cond (decide (l<=3)) (aah k s F/\GI C [.int .i64 l,.agg [.int .i64 code,.raw (dZ k)]] k (bR s) F λv s' F'=>lfC k s Kb s' F') no) no
theorem aoa (l code:Int):bu (bQ prog gS (LCi fr C)) 60 24 [.ptr 2 0,.int .i64 l,.agg [.int .i64 code,.raw (dZ k)]] (dc k s) [bb k s F] (GL k s Kb)=aai C k s F Kb l code:=by kernel_rfl
end
def tX (s:Sd.aa) (qv:V):List V:=[.int .i64 s.c.t.aE,.int .i64 s.c.t.af,.int .i64 s.c.t.offer,.int .i64 s.c.mode]++(mZ s.c.fm++(xL s.c.pt++(qv::([.bool ((dV s.c.ag).on 0),.bool ((dV s.c.ag).on 1),.bool ((dV s.c.ag).on 2),.bool ((dV s.c.ag).on 3),.bool ((dV s.c.ag).on 4)]++
 [.int .i64 ((dV s.c.ag).role 0),.int .i64 ((dV s.c.ag).role 1),.int .i64 ((dV s.c.ag).role 2),.int .i64 ((dV s.c.ag).role 3),.int .i64 ((dV s.c.ag).role 4),.bool s.c.t.bad]))))
def sf:List Sd.Ask->List V
 |[]=>[]
 |a::l=>.int .i64 a.source::sf l
def Ax (l:List Sd.Ask) (u:List ab):VB:=⟨true,⟨3,(0,0)⟩,sf l++[.rest u]⟩
def KZ:Nat->Nat->Prop->Prop
 |0,_,q=>q
 |n+1,j,q=>True/\(0<=(j:Int)/\(j:Int)<(5:Nat))/\True/\True/\KZ n (j+1) q
section
variable(C:Sd.aN) (k:LK) (s:Sd.aa) (F:a9 fr (aY k s)) (K:VK (Gh fr))
def aob:Prop:=KZ 5 0 (K (.agg (tX s (.raw cV))) (dc k s) [bb k s F])
def Sv (l:List Sd.Ask) (c:Nat) (u:List ab):Prop:=KZ 5 0 (K (.agg (tX s (.sl 4 0 l.length c))) (dc k s++[Ax l u]) [bb k s F])
def Sw (n:Nat) (l:List Sd.Ask) (P:Prop) (k:Nat->List ab->Prop):Prop:=P/\(∀(c:Nat) (u:List ab),n+1<=c->bW (sf l++[.rest u])=c*1->k c u)/\(∀(c:Nat) (u:List ab),n+1<=c->bW (sf l++[.rest u])=c*1->k c u)
def Sz (a:Sd.Ask) (k:Nat->List ab->Prop):Prop:=∀(c:Nat) (u:List ab),0+1<=c->bW (sf [a]++[.rest u])=c*1->k c u
def aoc:Prop:=vq k=vq k/\(s.c.q=[]->∀(x:Option aI) (c:Nat),aob k s F K)/\
 (∀a,s.c.q=[a]->∀(c:Nat) (t:List ab),Sz a λc u=>Sv k s F K [a] c u)/\
 (∀a b,s.c.q=[a,b]->∀(c:Nat) (t:List ab),Sz a λc u=>Sw 1 [a,b] (1<=c/\bW (sf [a]++[.rest u])=c*1) λc u=>Sv k s F K [a,b] c u)/\
 (∀a b d,s.c.q=[a,b,d]->∀(c:Nat) (t:List ab),Sz a λc u=>Sw 1 [a,b] (1<=c/\bW (sf [a]++[.rest u])=c*1) λc u=>Sw 2 [a,b,d] (2<=c/\bW (sf [a,b]++[.rest u])=c*1) λc u=>Sv k s F K [a,b,d] c u)
theorem aod:bu (fE prog gS (L8 fr C) (EU prog) Ja) 60 14 [.ptr 2 0] (dc k s) [bb k s F] (bm 4 K)=aoc k s F K:=by kernel_rfl
end
end
end Go.Proofs.YtggfpcggakghnaaGreatDoor
namespace Sd
variable{C:aN} {b:Prop} {s:aa} {l:Int} {m:bo}
theorem K1 {X:aa} {k a n e w:Int} (h:Quiet C b s X) (hk:k≠8) (hb:z5 b ⟨k,a,n,X.c.t.af,e,w⟩):Quiet C b s (X.record C k a n e w):=
 h.trans (aa.mY hk hb)
theorem Inv.aoe {c:Core} (h:Inv c) {n y:Int} (hn:0<=n/\n<=4294967295):Inv {c with samples:=n,ag:=c.ag.kY c.p,beyond:=y}:=by
 have hb:=h.p.b_;have h1:=Inv.JN (T:=c.ag) (T':=c.ag.kY c.p) h ⟨λ_=>by simp[az.kY,Timer.start];omega,h.ag.aj⟩
  (λa ha=>by
   have:=(h.q.each a ha).2.2.2.1;unfold az.on at*;split
   ·rfl
   ·rename_i h4;rw[if_neg h4]at this;split
    ·rfl
    ·rename_i h0;rw[if_neg h0]at this;exact this)
  (λho=>by
   have:c.ag.on c.t.offer=true:=by
    rcases h.tok.offer with h1|⟨_,_,_,h1,_⟩
    ·omega
    ·exact h1
   unfold az.on at*;split
   ·rfl
   ·rename_i h4;rw[if_neg h4]at this;split
    ·rfl
    ·rename_i h0;rw[if_neg h0]at this;exact this)
 exact⟨h1.p,h1.tok,h1.q,h1.ag,hn,h1.mode,h1.doors⟩
theorem eL.aof {t:aa} {c:Core} {kind link:Int} (k:eL C b ({s with c:=c}:aa) t kind link) (h1:c.t=s.c.t) (h2:c.q=s.c.q) (h3:c.p=s.c.p) (h4:c.head=s.c.head):eL C b s t kind link:=by
 have q0:Quiet C b s ({s with c:=c}:aa):=aa.g9 (by rw[h1]) (by rw[h1]) h3 h4;refine⟨k.inv,?_⟩;rcases k.z6 with q|⟨how,g,w⟩
 ·exact .inl (q0.trans q)
 ·refine .inr ⟨how,q0.goes g,?_⟩;unfold tK at*;simpa only[h1,h2,h3]using w
theorem aog {x:mO} (h:Inv s.c):eL C b s (s.kY C x) 1 0:=by
 have e0:=h.km;unfold aa.kY;split
 ·exact .jF ⟨h.p,h.tok,h.q,h.ag,h.samples,h.mode,h.doors⟩ (aa.g9 rfl rfl rfl rfl)
 dsimp only;have hn:=adj h.samples.1 (m:=4294967295) (by omega) h.samples.2;have i1:=h.aoe (y:=(fh s.c.p s.c.beyond x).1) hn;have q1:Quiet C b s ({s with c:={s.c with samples:=sat s.c.samples 4294967295,ag:=s.c.ag.kY s.c.p,beyond:=(fh s.c.p s.c.beyond x).1}}:aa):=aa.g9 rfl rfl rfl rfl;split
 ·rename_i hg;split
  ·have h2:=YD s.c.t s.c.q 0;refine .jF (i1.head _) (K1 q1 (by simp) ?_);exact⟨by simp,by simp,hn,e0,λ_=>⟨h2.1,Bc h2.2 (by decide)⟩,by simp⟩
  ·rename_i hz;obtain⟨g0,a,r,g1,g2,g3,g4,g5,g6⟩:=YE (by simpa using hz);rw[g2];refine eL.aof (c:={s.c with samples:=sat s.c.samples 4294967295,ag:=s.c.ag.kY s.c.p,beyond:=(fh s.c.p s.c.beyond x).1}) (FN (s:=⟨_,s.bz,s.br⟩) i1 ⟨g3,g4⟩ ⟨_,rfl⟩ g5 g6 (by simp) hn ?_) rfl rfl rfl rfl;refine .inr (.inl ⟨rfl,by simp,⟨a,r,g1,by simp[Tok.pass]⟩,?_⟩);simp;exact g0.symm
 split
 ·rename_i h0;split
  ·have h2:=P2 s.c.p s.c.t 0 0 s.c.mode {l5 11 with af:=s.c.t.af,cls:=1};refine .jF (i1.head _) (K1 q1 (by simp) ?_);exact⟨by simp,by simp,hn,e0,λ_=>⟨h2.1,Bc h2.2 (by decide)⟩,by simp⟩
  ·refine .jF (Inv.head (c:={s.c with samples:=sat s.c.samples 4294967295,ag:=s.c.ag.kY s.c.p,beyond:=(fh s.c.p s.c.beyond x).1,pt:=s.c.pt.set s.c.p 1 x.x ⟨1,0,sat s.c.samples 4294967295⟩}) ⟨i1.p,i1.tok,i1.q,i1.ag,i1.samples,i1.mode,i1.doors⟩ _) (K1 (q1.trans (aa.g9 rfl rfl rfl rfl)) (by simp) ?_);exact⟨by simp,by simp,hn,e0,by simp,by simp⟩
 split
 ·rename_i h0;split
  ·have h2:=JK s.c.t 0;refine .jF (i1.head _) (K1 q1 (by simp) ?_);exact⟨by simp,by simp,hn,e0,λ_=>⟨h2.1,Bc h2.2 (by decide)⟩,by simp⟩
  ·rename_i hz;obtain⟨g1,g2,g3,g4,g5⟩:=JJ (by simpa using hz);rw[g1];refine⟨Inv.goes (s:=⟨_,s.bz,s.br⟩) i1 (lC.pass h.p ⟨g2,g3⟩ (by have:=h.tok.af;omega)),.inr ⟨4,?_,.inr (.inr (.inr (.inl ⟨rfl,rfl,by simp[Tok.pass]⟩)))⟩⟩;exact q1.goes (aa.FL (by simp[Tok.pass]) (by simpa[Tok.pass]using g4) rfl (.inl ⟨g5,rfl⟩) e0.1 (by simp) hn)
 ·exact .jF i1 q1
theorem Inv.GM {c:Core} (h:Inv c) {mo:Int} (hm:0<=mo/\mo<=4) (y:Label) (pt:eu):Inv {c with mode:=mo,fm:=y,pt:=pt}:=
 ⟨h.p,h.tok,h.q,h.ag,h.samples,hm,h.doors⟩
theorem Ay {mo:Int} {y:Label}:Quiet C b s (s.d_ mo y):=aa.g9 rfl rfl rfl rfl
def mw (s:aa) (a:Ask):aa:=({s with c:={s.c with q:=Q.drop s.c.q a.source}}:aa).gone a.source 4 29
theorem aoh {a:Ask}:Quiet C b s (mw s a):=
 Quiet.trans (t:=({s with c:={s.c with q:=Q.drop s.c.q a.source}}:aa)) (aa.g9 rfl rfl rfl rfl) (aa.xI (aa.FK (by omega) (by omega)))
theorem K2 {a:Ask}:(mw s a).c={s.c with q:=Q.drop s.c.q a.source}:=by unfold mw;rw[aa.qF]
theorem Inv.mw {a:Ask} (h:Inv s.c):Inv (Sd.mw s a).c:=by
 rw[K2];exact⟨h.p,h.tok,h.q.drop a.source (λx hx _=>(h.q.each x hx).2.2.2.2.1),h.ag,h.samples,h.mode,h.doors⟩
theorem aaj (q:List Ask):∀s:aa,Inv s.c->Inv (q.foldl mw s).c/\Quiet C b s (q.foldl mw s)/\(q.foldl mw s).c.t=s.c.t/\(q.foldl mw s).c.ag=s.c.ag/\
 (∀x∈(q.foldl mw s).c.q,x∈s.c.q/\∀a∈q,x.source≠a.source)/\∃q',(q.foldl mw s).c={s.c with q:=q'}:=by
 induction q with
 |nil=>intro s h;exact⟨h,Quiet.refl ..,rfl,rfl,λx hx=>⟨hx,by simp⟩,s.c.q,rfl⟩
 |cons a q ih=>
  intro s h;obtain⟨h1,h2,h3,h4,h5,q',h6⟩:=ih (mw s a) h.mw;rw[K2]at h3 h4 h5 h6;refine⟨h1,aoh.trans h2,h3,h4,λx hx=>?_,q',h6⟩;obtain⟨h7,h8⟩:=h5 x hx;simp only[Q.drop,List.mem_filter,decide_eq_true_eq]at h7;exact⟨h7.1,λy hy=>by
   rcases bY.1 hy with rfl|hy
   ·exact h7.2
   ·exact h8 y hy⟩
theorem aak (bad:Bool) (hb:bad=true):s.wQ C bad=
 ((((if s.c.t.aE≠4 then(s.dQ {s.c.t with bad:=bad}).goes C ({s.c.t with bad:=bad}:Tok).jv 6 0 else(s.dQ {s.c.t with bad:=bad}).dQ ({s.c.t with bad:=bad}:Tok).jv):aa).c.q.foldl mw
   (if s.c.t.aE≠4 then(s.dQ {s.c.t with bad:=bad}).goes C ({s.c.t with bad:=bad}:Tok).jv 6 0 else(s.dQ {s.c.t with bad:=bad}).dQ ({s.c.t with bad:=bad}:Tok).jv)).d_
    s.c.p.safe sW):=by
 unfold aa.wQ;rw[if_neg (by simp[hb])];dsimp only;congr 1;have:∀(q:List Ask) (s:aa),(q.foldl mw s).c.p=s.c.p:=by
  intro q;induction q with
  |nil=>intro s;rfl
  |cons a q ih=>intro s;rw[uv,ih,K2]
 refine Eq.trans (congrArg aJ.safe (this _ _)) ?_;split<;>simp[aa.dQ]
theorem aoi {bad:Bool} (h:Inv s.c):eL C b s (s.wQ C bad) 2 0:=by
 have e0:=h.km;have he:=h.tok.af;have hh:=h.tok.aE;have i0:Inv {s.c with t:={s.c.t with bad:=bad}}:=⟨h.p,⟨h.tok.aE,h.tok.af,h.tok.offer,h.tok.lost⟩,h.q,h.ag,h.samples,h.mode,h.doors⟩;have q0:Quiet C b s (s.dQ {s.c.t with bad:=bad}):=aa.g9 rfl rfl rfl rfl;cases bad
 ·exact .jF i0 q0
 rw[aak true rfl];split
 ·rename_i h4;have hs:sat s.c.t.af 65535=if s.c.t.af<65535 then s.c.t.af+1 else 65535:=rfl
  have et:({s.c.t with bad:=true}:Tok).jv=Tok.pass {s.c.t with bad:=true} 4 (sat s.c.t.af 65535):=by simp[Tok.jv,h4]
  rw[et];have i1:Inv ((s.dQ {s.c.t with bad:=true}).goes C (Tok.pass {s.c.t with bad:=true} 4 (sat s.c.t.af 65535)) 6 0).c:=
   Inv.goes (s:=s.dQ _) i0 (lC.pass h.p (by omega) (by show s.c.p.af<=_/\_;rw[hs];split<;>omega))
  obtain⟨h1,h2,h3,h5,h6,q',h7⟩:=aaj (C:=C) (b:=b) ((s.dQ {s.c.t with bad:=true}).goes C (Tok.pass {s.c.t with bad:=true} 4 (sat s.c.t.af 65535)) 6 0).c.q _ i1;refine⟨h1.GM h.p.safe _ _,.inr ⟨6,?_,?_⟩⟩
  ·refine vH.quiet (Quiet.goes q0 (aa.FL (by simp[Tok.pass]) (by simpa[Tok.pass,aa.dQ]using λe=>h4 e.symm) rfl ?_ e0.1 (by simp) (by simp))) (h2.trans Ay) ?_
   ·show(s.c.t.af<65535/\sat s.c.t.af 65535=s.c.t.af+1)\/(s.c.t.af=65535/\sat s.c.t.af 65535=65535/\(6:Int)=6);rw[hs];split<;>omega
   ·show(aa.d_ _ _ _).c.t.offer=-1;simp only[aa.d_];rw[h3];simp[Tok.pass]
  ·refine .inr (.inr (.inr (.inr (.inr ⟨rfl,?_,.inl ⟨rfl,?_⟩⟩))))
   ·simp only[aa.d_];rw[h3];simp[Tok.pass]
   ·simp only[aa.d_];rw[h3];simp[Tok.pass]
 ·rename_i h4;have SA:s.c.t.aE=4:=by simpa using h4
  have et:({s.c.t with bad:=true}:Tok).jv=Tok.pass {s.c.t with bad:=true} 4 s.c.t.af:=by simp[Tok.jv,SA]
  rw[et];have i1:Inv ((s.dQ {s.c.t with bad:=true}).dQ (Tok.pass {s.c.t with bad:=true} 4 s.c.t.af)).c:=
   ⟨h.p,lC.pass h.p (by omega) he,⟨λa ha=>by have:=h.q.each a ha;simpa[Tok.pass,aa.dQ,SA]using this,h.q.sorted,h.q.len⟩,h.ag,h.samples,h.mode,h.doors⟩
  obtain⟨h1,h2,h3,h5,h6,q',h7⟩:=aaj (C:=C) (b:=b) ((s.dQ {s.c.t with bad:=true}).dQ (Tok.pass {s.c.t with bad:=true} 4 s.c.t.af)).c.q _ i1;refine .jF (h1.GM h.p.safe _ _) ?_;exact Quiet.trans (Quiet.trans (t:=(s.dQ {s.c.t with bad:=true}).dQ (Tok.pass {s.c.t with bad:=true} 4 s.c.t.af)) (aa.g9 (by simp[Tok.pass,SA]) rfl rfl rfl) h2) Ay
def nL (C:aN) (s:aa) (x:Int):aa:=let s:=s.record C 5 x 0 0 0;if linked x then s.leave C x else s
def v3 (q:List Ask) (xs:List Int):List Ask:=xs.foldl (λq x=>if linked x then Q.drop q x else q) q
def kx (t:Tok) (xs:List Int):Tok:=xs.foldl (λt x=>if linked x then(t.drop x).1 else t) t
theorem aal (C:aN) (s:aa) (x:Int):∃hd,(nL C s x).c={s.c with q:=v3 s.c.q [x],t:=kx s.c.t [x],head:=hd}:=by
 unfold nL v3 kx;simp only[uv,UB];split
 ·obtain⟨hd,e⟩:=P3 C (s.record C 5 x 0 0 0) x;exact⟨hd,by rw[e];rfl⟩
 ·exact⟨_,rfl⟩
theorem aoj {x:Int} (hx:0<=x/\x<=3) (he:0<=s.c.t.af/\s.c.t.af<=65535):Quiet C b s (nL C s x):=by
 unfold nL;have q1:Quiet C b s (s.record C 5 x 0 0 0):=aa.mY (by simp) ⟨by simp,by simp;omega,by simp,he,by simp,by simp⟩;dsimp only;split
 ·rename_i h;simp[linked]at h;exact q1.trans (YF (by omega) he)
 ·exact q1
theorem Inv.nL {T:az} {x:Int} (hx:0<=x/\x<=3) (h:Inv {s.c with ag:=T}):Inv {(Sd.nL C s x).c with ag:=T}:=by
 unfold Sd.nL;dsimp only;split
 ·rcases Inv.leave (C:=C) (s:=s.record C 5 x 0 0 0) (T:=T) (x:=x) (h.head _)with⟨h1,_⟩|h1
  ·exact h1
  ·omega
 ·exact h.head _
theorem aam (xs:List Int):∀t:Tok,(kx t xs).aE=t.aE/\(kx t xs).af=t.af/\(kx t xs).la=t.la/\(kx t xs).bad=t.bad/\
 (((kx t xs)=t/\∀x∈xs,linked x=true->t.offer≠x)\/(kx t xs=t.gX/\t.offer∈xs)\/t.offer=-1/\kx t xs=t):=by
 induction xs with
 |nil=>intro t;exact⟨rfl,rfl,rfl,rfl,.inl ⟨rfl,by simp⟩⟩
 |cons x xs ih=>
  intro t;unfold kx;simp only[uv];by_cases hl:linked x=true
  ·simp only[hl,if_true];have hd:=JM t x;obtain⟨h1,h2,h3,h4,h5⟩:=ih (t.drop x).1;unfold kx at h1 h2 h3 h4 h5;refine⟨h1.trans hd.1,h2.trans hd.2.1,h3.trans hd.2.2.1,h4.trans hd.2.2.2.1,?_⟩;have hx:1<=x:=by simp[linked]at hl;exact hl.1
   rcases hd.2.2.2.2 with⟨e,_,e2⟩|⟨e,_,e2⟩
   ·rw[e]at h5⊢;rcases h5 with⟨h5,h6⟩|⟨h5,h6⟩|⟨h5,h6⟩
    ·refine .inl ⟨h5,λy hy K3=>?_⟩;rcases bY.1 hy with rfl|hy
     ·omega
     ·exact h6 y hy K3
    ·exact .inr (.inl ⟨h5,by simp[h6]⟩)
    ·exact .inr (.inr ⟨h5,h6⟩)
   ·rw[e]at h5⊢;refine .inr (.inl ⟨?_,by simp[e2]⟩);rcases h5 with⟨h5,h6⟩|⟨h5,h6⟩|⟨h5,h6⟩
    ·exact h5
    ·rw[h5];rfl
    ·exact h6
  ·simp only[hl];obtain⟨h1,h2,h3,h4,h5⟩:=ih t;unfold kx at h1 h2 h3 h4 h5;refine⟨h1,h2,h3,h4,?_⟩;rcases h5 with⟨h5,h6⟩|⟨h5,h6⟩|⟨h5,h6⟩
   ·refine .inl ⟨h5,λy hy K3=>?_⟩;rcases bY.1 hy with rfl|hy
    ·exact absurd K3 hl
    ·exact h6 y hy K3
   ·exact .inr (.inl ⟨h5,by simp[h6]⟩)
   ·exact .inr (.inr ⟨h5,h6⟩)
theorem aol (xs:List Int):∀(q:List Ask) (a:Ask),a∈v3 q xs↔a∈q/\∀x∈xs,linked x=true->a.source≠x:=by
 induction xs with
 |nil=>intro q a;simp[v3]
 |cons x xs ih=>
  intro q a;have:=ih (if linked x then Q.drop q x else q) a;unfold v3 at*;simp only[uv];rw[this];by_cases hl:linked x=true
  ·simp[hl,Q.drop,and_assoc]
  ·simp[hl]
theorem aom (xs:List Int):∀(s:aa) (T:az),(∀x∈xs,0<=x/\x<=3)->Inv {s.c with ag:=T}->
 Inv {(xs.foldl (nL C) s).c with ag:=T}/\Quiet C b s (xs.foldl (nL C) s)/\∃hd,(xs.foldl (nL C) s).c={s.c with q:=v3 s.c.q xs,t:=kx s.c.t xs,head:=hd}:=by
 induction xs with
 |nil=>intro s T _ h;exact⟨h,Quiet.refl ..,s.c.head,rfl⟩
 |cons x xs ih=>
  intro s T hx h;have BC:=hx x (by simp);have e0:0<=s.c.t.af/\s.c.t.af<=65535:=Inv.km (c:={s.c with ag:=T}) h;obtain⟨h1,h2,hd,h3⟩:=ih (nL C s x) T (λy hy=>hx y (by simp[hy])) (h.nL BC);obtain⟨C5,h4⟩:=aal C s x;refine⟨h1,(aoj BC e0).trans h2,hd,?_⟩;simp only[uv];rw[h3,h4];rfl
theorem C6 {t:Timer} {m:Int} (h:t.most=m/\0<=t.n/\t.n<m):t.step=⟨t.n+1,m⟩/\(t.step.due=true↔t.n+1=m):=by
 obtain⟨h1,h2,h3⟩:=h;have:t.step=⟨t.n+1,m⟩:=by unfold Timer.step sat;rw[if_pos (by omega),h1]
 rw[this];refine⟨rfl,?_⟩;simp[Timer.due];omega
theorem aon {p:aJ} {t:az} (hp:eF p) (h:BF p t):BF p t.tick:=by
 have hb:=hp.b_;constructor
 ·intro ho;unfold az.tick at*;dsimp only at*;split at ho
  ·rename_i h1;rw[if_pos h1];obtain⟨h2,h3⟩:=C6 (h.cO h1);split at ho
   ·cases ho
   ·rename_i h4;rw[if_neg h4,h2];have:=h.cO h1;simp at h4;have:t.cO.2.n+1≠p.b_:=λe=>by rw[h3.2 e]at h4;cases h4
    dsimp only;omega
  ·rename_i h1;exact absurd ho h1
 ·intro i hi ho;unfold az.tick at*;dsimp only at*;split at ho
  ·rename_i h1;rw[if_pos h1];have h0:=h.aj i hi h1;obtain⟨h2,h3⟩:=C6 (m:=p.b_) ⟨h0.1,h0.2.1,h0.2.2.1⟩;split at ho
   ·cases ho
   ·rename_i h4;rw[if_neg h4];dsimp only;rw[h2];simp at h4;have:(t.aj i).eB.n+1≠p.b_:=λe=>by rw[h3.2 e]at h4;cases h4
    dsimp only;omega
  ·rename_i h1;exact absurd ho h1
theorem aoo {t:az} {x:Int} (h:x∈t.ended):0<=x/\x<=3:=by
 unfold az.ended at h;simp only[ez]at h;rcases h with((h|h)|h)|h<;>split at h<;>simp at h<;>omega
theorem aan {t:az} {x:Int} (hx:1<=x/\x<=3) (h:t.on x=true) (hn:x∉t.ended):t.tick.on x=true:=by
 have e:x=1\/x=2\/x=3:=by omega
 rw[P5 hx]at*;unfold az.dt az.tick at*;rcases e with rfl|rfl|rfl<;>simp[az.ended,az.It]at*<;>simp[h]<;>simp[h]at hn<;>simp[hn,h]
theorem aop {q:List Ask} {a:Ask} (h:a∈Q.kept q):∃x∈q,a={x with fZ:=x.fZ.step}/\a.fZ.due=false:=by
 unfold Q.kept Q.zd at h;simp only[List.mem_filter,ny]at h;obtain⟨⟨x,hx,rfl⟩,h2⟩:=h;exact⟨x,hx,rfl,by simpa using h2⟩
theorem aoq {q:List Ask} {a:Ask} (h:a∈Q.gone q):∃x∈q,a={x with fZ:=x.fZ.step}/\a.fZ.due=true:=by
 unfold Q.gone Q.zd at h;simp only[List.mem_filter,ny]at h;obtain⟨⟨x,hx,rfl⟩,h2⟩:=h;exact⟨x,hx,rfl,by simpa using h2⟩
theorem ox.kept {p:aJ} {t:az} {h:Int} {q:List Ask} (k:ox p t h q):ox p t h (Q.kept q) where
 each:=by
  intro a ha;obtain⟨x,hx,rfl,hd⟩:=aop ha;obtain⟨a1,a2,a3,a4,a5,a6,a7,a8⟩:=k.each x hx;obtain⟨e1,e2⟩:=C6 ⟨a6,a7,a8⟩;refine⟨a1,a2,a3,a4,a5,by dsimp only;rw[e1],by dsimp only;rw[e1];dsimp only;omega,?_⟩;dsimp only at*;rw[e1];have:x.fZ.n+1≠p.ask:=λe=>by rw[e2.2 e]at hd;cases hd
  dsimp only;omega
 sorted:=by
  unfold Q.kept Q.zd;refine List.Pairwise.filter _ ?_;rw[List.pairwise_map];exact k.sorted
 len:=by
  have:=List.length_filter_le (λa:Ask=>!a.fZ.due) (Q.zd q);have h2:=k.len;unfold Q.kept;simp only[Q.zd,HV]at*;omega
def yc (C:aN) (s:aa) (a:Ask):aa:=(s.gone a.source a.source 30).record C 12 a.source 0 30 0
theorem aor (q:List Ask):∀s:aa,(∀a∈q,1<=a.source/\a.source<=3)->0<=s.c.t.af/\s.c.t.af<=65535->
 Quiet C b s (q.foldl (yc C) s)/\∃hd,(q.foldl (yc C) s).c={s.c with head:=hd}:=by
 induction q with
 |nil=>intro s _ _;exact⟨Quiet.refl ..,s.c.head,rfl⟩
 |cons a q ih=>
  intro s hq he;have ha:=hq a (by simp);have e1:(yc C s a).c={s.c with head:=C.next s.c.head ⟨12,a.source,0,s.c.t.af,30,0⟩}:=by
   unfold yc;rw[show∀(y:aa) (k a n e w:Int),(y.record C k a n e w).c={y.c with head:=C.next y.c.head ⟨k,a,n,y.c.t.af,e,w⟩}from λ_ _ _ _ _ _=>rfl,aa.qF]
  have q1:Quiet C b s (yc C s a):=by
   refine Quiet.trans (aa.xI (aa.FK (by omega) (by omega))) (aa.mY (by simp) ?_);refine⟨by simp,by dsimp only;omega,by simp,?_,by simp,by simp⟩;dsimp only;rw[aa.kJ];exact he
  obtain⟨h1,hd,h2⟩:=ih (yc C s a) (λx hx=>hq x (by simp[hx])) (by rw[e1];exact he);refine⟨q1.trans h1,hd,?_⟩;simp only[uv];rw[h2,e1]
theorem aos {p:aJ} {ag:az} {t:Tok} (h:lC p ag t):t.tick.1.aE=t.aE/\t.tick.1.af=t.af/\t.tick.1.la=t.la/\t.tick.1.bad=t.bad/\
 lC p ag t.tick.1/\((t.tick.2=-1/\t.tick.1.offer=t.offer)\/(t.tick.2=t.offer/\1<=t.offer/\t.offer<=3/\t.tick.1.offer=-1)):=by
 unfold Tok.tick;rcases h.offer with ho|⟨o1,o2,o3,o4,o5,o6,o7⟩
 ·rw[if_pos (by omega)];exact⟨rfl,rfl,rfl,rfl,h,.inl ⟨rfl,rfl⟩⟩
 ·rw[if_neg (by omega)];obtain⟨e1,e2⟩:=C6 ⟨o5,o6,o7⟩;split
  ·exact⟨rfl,rfl,rfl,rfl,⟨h.aE,h.af,.inl rfl,h.lost⟩,.inr ⟨rfl,o1,o2,rfl⟩⟩
  ·rename_i hd;refine⟨rfl,rfl,rfl,rfl,⟨h.aE,h.af,.inr ⟨o1,o2,o3,o4,?_⟩,h.lost⟩,.inl ⟨rfl,rfl⟩⟩;have:t.oa.n+1≠p.offer:=λe=>hd (e2.2 e);dsimp only;rw[e1];dsimp only;omega
inductive yd (p:aJ) (t:Tok) (q:List Ask) (there:Bool):Tok->Int->List Ask->Prop
 |here (h:t.aE=4\/there=true):yd p t q there {t with la:=.zero} 0 q
 |aao (la:Timer) (h1:t.aE≠4) (h2:there=false) (hm:la.most=p.dP) (hn:la.n=t.la.n+1) (dh:la.n<p.dP):yd p t q there {t with la:=la} 0 q
 |safe (h1:t.aE≠4) (h2:there=false) (hn:t.la.n+1=p.dP) (he:t.af=65535):yd p t q there (t.pass 4 65535) 6 q
 |first (a:Ask) (l:List Ask) (h1:t.aE≠4) (h2:there=false) (hn:t.la.n+1=p.dP) (he:t.af<65535) (hq:q=a::l):yd p t q there (t.pass a.source (t.af+1)) 5 (Q.drop q a.source)
 |none (h1:t.aE≠4) (h2:there=false) (hn:t.la.n+1=p.dP) (he:t.af<65535) (hq:q=[]):yd p t q there (t.pass 4 (t.af+1)) 5 q
theorem aot {p:aJ} {ag:az} {t:Tok} {q:List Ask} {there:Bool} (hp:eF p) (h:lC p ag t) (hq:ox p ag t.aE q):
 yd p t q there (fR p t q there).1 (fR p t q there).2.1 (fR p t q there).2.2:=by
 unfold fR;have hb:=hp.dP;split
 ·rename_i h1;exact .here h1
 rename_i h1;have C7:t.aE≠4:=λe=>h1 (.inl e);have K4:there=false:=by
  cases there
  ·rfl
  ·exact absurd (.inr rfl) h1
 have rq:∃la:Timer,(if t.la.most=0 then Timer.start p.dP else t.la).step=la/\la.most=p.dP/\la.n=t.la.n+1/\(la.due=true↔t.la.n+1=p.dP):=by
  rcases h.lost with⟨l1,l2⟩|⟨l1,l2,l3⟩
  ·rw[if_pos l1];obtain⟨e1,e2⟩:=C6 (t:=Timer.start p.dP) (m:=p.dP) (by simp[Timer.start];omega);have e0:(Timer.start p.dP).n=0:=rfl;refine⟨_,rfl,by rw[e1],by rw[e1,e0,l2],?_⟩;rw[e2,e0,l2]
  ·rw[if_neg (by omega)];obtain⟨e1,e2⟩:=C6 ⟨l1,l2,l3⟩;exact⟨_,rfl,by rw[e1],by rw[e1],e2⟩
 obtain⟨la,e0,e1,e2,e3⟩:=rq;simp only[e0];split
 ·rename_i hd;refine .aao la C7 K4 e1 e2 ?_;have bZ:t.la.n+1≠p.dP:=λe=>by rw[e3.2 e]at hd;cases hd
  rcases h.lost with⟨l1,l2⟩|⟨l1,l2,l3⟩<;>omega
 rename_i hd;have hn:t.la.n+1=p.dP:=e3.1 (by simpa using hd);have he:=h.af;split
 ·rename_i h6;have h6':t.af=65535:=by omega
  have:({t with la:=la}:Tok).jv=t.pass 4 65535:=by
   simp only[Tok.jv,Tok.pass];rw[if_pos C7,h6'];rfl
  rw[this];exact .safe C7 K4 hn h6'
 rename_i h6;have dh:t.af<65535:=by omega
 have g4:({t with la:=la}:Tok).c9 4=(t.pass 4 (t.af+1),0):=by
  unfold Tok.c9;rw[if_neg (by omega),if_neg (λe=>C7 e.symm),if_neg (by dsimp only;omega)];rfl
 cases q with
 |nil=>
  have:(eT ({t with la:=la}:Tok) []).2.1≠0:=by simp[eT]
  rw[if_pos this,g4];exact .none C7 K4 hn dh rfl
 |cons a r=>
  have ha:=hq.each a (by simp);have ga:({t with la:=la}:Tok).c9 a.source=(t.pass a.source (t.af+1),0):=by
   unfold Tok.c9;rw[if_neg (by omega),if_neg ha.2.2.2.2.1,if_neg (by dsimp only;omega)];rfl
  have e:eT ({t with la:=la}:Tok) (a::r)=(t.pass a.source (t.af+1),0,Q.drop (a::r) a.source):=by
   unfold eT;simp only[ga];rw[if_neg (by simp)]
  rw[e,if_neg (by simp)];exact .first a r C7 K4 hn dh rfl
theorem aou (h:Inv s.c):eL C b s (s.dP C) 3 0/\(s.dP C).c.ag=s.c.ag/\(s.dP C).c.p=s.c.p/\
 yd s.c.p s.c.t s.c.q (s.c.ag.on s.c.t.aE) (s.dP C).c.t (fR s.c.p s.c.t s.c.q (s.c.ag.on s.c.t.aE)).2.1 (s.dP C).c.q/\
 ((fR s.c.p s.c.t s.c.q (s.c.ag.on s.c.t.aE)).2.1=5->(s.dP C).c.mode=s.c.p.lost/\(s.dP C).c.fm=⟨3,4,0⟩/\(s.dP C).c.pt=s.c.pt.hold ⟨3,4,0⟩)/\
 ((fR s.c.p s.c.t s.c.q (s.c.ag.on s.c.t.aE)).2.1=0->(s.dP C).c.mode=s.c.mode/\(s.dP C).c.fm=s.c.fm/\(s.dP C).c.pt=s.c.pt):=by
 have e0:=h.km;have he:=h.tok.af;have hh:=h.tok.aE;have hb:=h.p.dP;have hL:=aot (there:=s.c.ag.on s.c.t.aE) h.p h.tok h.q;unfold aa.dP;dsimp only;generalize ht:(fR s.c.p s.c.t s.c.q (s.c.ag.on s.c.t.aE)).1=t at hL⊢;generalize hw:(fR s.c.p s.c.t s.c.q (s.c.ag.on s.c.t.aE)).2.1=how at hL⊢;generalize hq:(fR s.c.p s.c.t s.c.q (s.c.ag.on s.c.t.aE)).2.2=q at hL⊢;have GN:=hL;cases hL with
 |here h1=>
  rw[if_pos (by omega)];refine⟨.jF ⟨h.p,⟨h.tok.aE,h.tok.af,h.tok.offer,.inl ⟨rfl,rfl⟩⟩,h.q,h.ag,h.samples,h.mode,h.doors⟩ (aa.g9 rfl rfl rfl rfl),rfl,rfl,GN,by simp,λ_=>⟨rfl,rfl,rfl⟩⟩
 |aao la h1 h2 hm hn dh=>
  rw[if_pos (by omega)];have:0<=la.n:=by rcases h.tok.lost with⟨_,l2⟩|⟨_,l2,_⟩<;>omega
  refine⟨.jF ⟨h.p,⟨h.tok.aE,h.tok.af,h.tok.offer,.inr ⟨hm,this,dh⟩⟩,h.q,h.ag,h.samples,h.mode,h.doors⟩ (aa.g9 rfl rfl rfl rfl),rfl,rfl,GN,by simp,λ_=>⟨rfl,rfl,rfl⟩⟩
 |safe h1 h2 hn h6=>
  rw[if_neg (by omega),if_neg (by omega)];have i1:Inv (aa.goes C ({s with c:={s.c with q:=s.c.q}}:aa) (s.c.t.pass 4 65535) 6 0).c:=Inv.goes (s:=s) h (lC.pass h.p (by omega) (by omega));have hd:Q.drop s.c.q 4=s.c.q:=by
   unfold Q.drop;rw[List.filter_eq_self];intro a ha;have:=(h.q.each a ha).2.2.1;simp;omega
  have Az:(aa.goes C ({s with c:={s.c with q:=s.c.q}}:aa) (s.c.t.pass 4 65535) 6 0).c.q=s.c.q:=by
   rw[aa.PZ];exact hd
  refine⟨⟨i1.GM (by simpa using h.p.safe) _ _,.inr ⟨6,?_,?_⟩⟩,by simp[aa.d_],by simp[aa.d_],?_,by simp,by simp⟩
  ·refine vH.quiet (aa.FL (s:=s) (by simp[Tok.pass]) (by simpa[Tok.pass]using λe=>h1 e.symm) rfl (.inr ⟨h6,rfl,rfl⟩) e0.1 (by simp) (by simp)) Ay ?_;simp[aa.d_,Tok.pass]
  ·refine .inr (.inr (.inr (.inr (.inr ⟨rfl,by simp[aa.d_,Tok.pass],.inr ⟨rfl,h6,?_⟩⟩))));simpa[aa.d_]using h2
  ·have e1:(aa.d_ (aa.goes C ({s with c:={s.c with q:=s.c.q}}:aa) (s.c.t.pass 4 65535) 6 0) (aa.goes C ({s with c:={s.c with q:=s.c.q}}:aa) (s.c.t.pass 4 65535) 6 0).c.p.safe sW).c.t=s.c.t.pass 4 65535:=by simp[aa.d_]
   rw[e1];have e2:(aa.d_ (aa.goes C ({s with c:={s.c with q:=s.c.q}}:aa) (s.c.t.pass 4 65535) 6 0) (aa.goes C ({s with c:={s.c with q:=s.c.q}}:aa) (s.c.t.pass 4 65535) 6 0).c.p.safe sW).c.q=s.c.q:=Az;rw[e2];exact GN
 |first a r h1 h2 hn dh SB=>
  rw[if_neg (by omega),if_pos rfl];have ha:=h.q.each a (by rw[SB];simp);obtain⟨g1,g2⟩:=FN (C:=C) (b:=b) (s:=s) (kind:=3) (link:=0) (how:=5) (n:=0) (f:=a.source) (q:=Q.drop s.c.q a.source) h (by omega) ⟨_,rfl⟩ ha.2.2.2.2.1 dh (by simp) (by simp)
   (.inr (.inr (.inr (.inr (.inl ⟨rfl,rfl,by simpa using h2,by simpa[Tok.pass]using ha.2.2.2.1⟩)))))
  have hdd:Q.drop (Q.drop s.c.q a.source) a.source=Q.drop s.c.q a.source:=by
   unfold Q.drop;rw[List.filter_filter];congr 1;funext x;simp
  have Az:(aa.goes C ({s with c:={s.c with q:=Q.drop s.c.q a.source}}:aa) (s.c.t.pass a.source (s.c.t.af+1)) 5 0).c.q=Q.drop s.c.q a.source:=by
   rw[aa.PZ];exact hdd
  generalize hX:aa.goes C ({s with c:={s.c with q:=Q.drop s.c.q a.source}}:aa) (s.c.t.pass a.source (s.c.t.af+1)) 5 0=X at g1 g2 Az;have eX:X.c.t=s.c.t.pass a.source (s.c.t.af+1)/\X.c.p=s.c.p/\X.c.ag=s.c.ag:=by subst hX;simp
  have SC:X.c.pt=s.c.pt:=by
   subst hX;obtain⟨x,e⟩:=aa.FJ C ({s with c:={s.c with q:=Q.drop s.c.q a.source}}:aa) (s.c.t.pass a.source (s.c.t.af+1)) 5 0;rw[e]
  refine⟨⟨g1.GM (by rw[eX.2.1];exact h.p.lost) _ _,?_⟩,by simp[aa.d_,eX],by simp[aa.d_,eX],by simpa[aa.d_,eX,Az]using GN,λ_=>⟨by simp[aa.d_,eX],rfl,by simp[aa.d_,SC]⟩,by simp⟩;rcases g2 with g2|⟨how,g2,g3⟩
  ·exact .inl (g2.trans Ay)
  ·exact .inr ⟨how,g2.quiet Ay (by simp[aa.d_,eX,Tok.pass]),by simpa[tK,aa.d_]using g3⟩
 |none h1 h2 hn dh SB=>
  rw[if_neg (by omega),if_pos rfl];have K5:s.c.q=Q.drop s.c.q 4:=by rw[SB];rfl
  obtain⟨g1,g2⟩:=FN (C:=C) (b:=b) (s:=s) (kind:=3) (link:=0) (how:=5) (n:=0) (f:=4) (q:=s.c.q) h (by omega) ⟨4,K5⟩ (λe=>h1 e.symm) dh (by simp) (by simp)
   (.inr (.inr (.inr (.inr (.inl ⟨rfl,rfl,by simpa using h2,by simp[Tok.pass,az.on]⟩)))))
  have Az:(aa.goes C ({s with c:={s.c with q:=s.c.q}}:aa) (s.c.t.pass 4 (s.c.t.af+1)) 5 0).c.q=s.c.q:=by
   rw[aa.PZ];exact K5.symm
  generalize hX:aa.goes C ({s with c:={s.c with q:=s.c.q}}:aa) (s.c.t.pass 4 (s.c.t.af+1)) 5 0=X at g1 g2 Az;have eX:X.c.t=s.c.t.pass 4 (s.c.t.af+1)/\X.c.p=s.c.p/\X.c.ag=s.c.ag:=by subst hX;simp
  have SC:X.c.pt=s.c.pt:=by
   subst hX;obtain⟨x,e⟩:=aa.FJ C ({s with c:={s.c with q:=s.c.q}}:aa) (s.c.t.pass 4 (s.c.t.af+1)) 5 0;rw[e]
  refine⟨⟨g1.GM (by rw[eX.2.1];exact h.p.lost) _ _,?_⟩,by simp[aa.d_,eX],by simp[aa.d_,eX],by simpa[aa.d_,eX,Az]using GN,λ_=>⟨by simp[aa.d_,eX],rfl,by simp[aa.d_,SC]⟩,by simp⟩;rcases g2 with g2|⟨how,g2,g3⟩
  ·exact .inl (g2.trans Ay)
  ·exact .inr ⟨how,g2.quiet Ay (by simp[aa.d_,eX,Tok.pass]),by simpa[tK,aa.d_]using g3⟩
structure Mid (c c':Core):Prop where
 inv:Inv c'
 p:c'.p=c.p
 ag:c'.ag=c.ag.tick
 aE:c'.t.aE=c.t.aE
 af:c'.t.af=c.t.af
 la:c'.t.la=c.t.la
 bad:c'.t.bad=c.t.bad
 q:c'.q=Q.kept (v3 c.q c.ag.ended)
 offer:c'.t.offer=(kx c.t c.ag.ended).tick.1.offer
 mode:c'.mode=c.mode/\c'.fm=c.fm/\c'.pt=c.pt
 rest:c'.samples=c.samples/\c'.beyond=c.beyond/\c'.doors=c.doors
def pj (C:aN) (s:aa):aa:=s.c.ag.ended.foldl (nL C) ({s with c:={s.c with ag:=s.c.ag.tick}}:aa)
def pk (C:aN) (s:aa):aa:=
 let s2:=s.dQ s.c.t.tick.1
 if 0<=s.c.t.tick.2 then(s2.gone s.c.t.tick.1.aE s.c.t.tick.2 30).record C 12 s.c.t.tick.2 0 30 0 else s2
def v5 (C:aN) (s:aa):aa:=(Q.gone s.c.q).foldl (yc C) ({s with c:={s.c with q:=Q.kept s.c.q}}:aa)
theorem Su (C:aN) (s:aa):s.tick C=(let s6:=(v5 C (pk C (pj C s))).dP C;{s6 with c:={s6.c with pt:=s6.c.pt.step s6.c.p}}):=rfl
theorem aap (h:Inv s.c):Quiet C b s (v5 C (pk C (pj C s)))/\Mid s.c (v5 C (pk C (pj C s))).c:=by
 have e0:=h.km;obtain⟨a1,a2,C5,a3⟩:=aom (C:=C) (b:=b) s.c.ag.ended ({s with c:={s.c with ag:=s.c.ag.tick}}:aa) s.c.ag (λx hx=>aoo hx) h;have q1:Quiet C b s (pj C s):=Quiet.trans (t:=({s with c:={s.c with ag:=s.c.ag.tick}}:aa)) (aa.g9 rfl rfl rfl rfl) a2;have i1:Inv (pj C s).c:=by
  have e3:(pj C s).c={s.c with ag:=s.c.ag.tick,q:=v3 s.c.q s.c.ag.ended,t:=kx s.c.t s.c.ag.ended,head:=C5}:=a3;refine Inv.CA (T:=s.c.ag.tick) (Inv.JN (T:=s.c.ag) a1 (by rw[e3];exact aon h.p h.ag) ?_ ?_) (by rw[e3])
  ·rw[e3];intro x hx;obtain⟨mV,zA⟩:=(aol _ _ _).1 hx;have:=h.q.each x mV;refine aan ⟨this.2.1,this.2.2.1⟩ this.2.2.2.1 (λhm=>zA x.source hm ?_ rfl);simp[linked];omega
  ·rw[e3];intro ho;have hf:=aam s.c.ag.ended s.c.t;show s.c.ag.tick.on (kx s.c.t s.c.ag.ended).offer=true;have jJ:0<=(kx s.c.t s.c.ag.ended).offer:=ho;rcases hf.2.2.2.2 with⟨e,bZ⟩|⟨e,_⟩|⟨e,e'⟩
   ·rw[e]at jJ⊢;rcases h.tok.offer with h1|⟨h1,h2,_,h3,_⟩
    ·omega
    ·refine aan ⟨h1,h2⟩ h3 (λhm=>bZ _ hm ?_ rfl);simp[linked];omega
   ·rw[e]at jJ;simp[Tok.gX]at jJ
   ·rw[e',e]at jJ;omega
 have e1:(pj C s).c={s.c with ag:=s.c.ag.tick,q:=v3 s.c.q s.c.ag.ended,t:=kx s.c.t s.c.ag.ended,head:=C5}:=a3;have hf:=aam s.c.ag.ended s.c.t;generalize pj C s=s1 at*;have Rz:=i1.km;have hk:=aos i1.tok;have i2:Inv {s1.c with t:=s1.c.t.tick.1}:=⟨i1.p,hk.2.2.2.2.1,by show ox _ _ s1.c.t.tick.1.aE _;rw[hk.1];exact i1.q,i1.ag,i1.samples,i1.mode,i1.doors⟩;have q2:Quiet C b s1 (pk C s1)/\∃hd,(pk C s1).c={s1.c with t:=s1.c.t.tick.1,head:=hd}:=by
  have q20:Quiet C b s1 (s1.dQ s1.c.t.tick.1):=aa.g9 hk.1 hk.2.1 rfl rfl;unfold pk;dsimp only;split
  ·rename_i hw;have hw':1<=s1.c.t.tick.2/\s1.c.t.tick.2<=3:=by rcases hk.2.2.2.2.2 with⟨e,_⟩|⟨e,_,_,_⟩<;>omega
   refine⟨q20.trans (Quiet.trans (aa.xI (aa.FK (by omega) (by omega))) (aa.mY (by simp) ?_)),?_⟩
   ·refine⟨by simp,by dsimp only;omega,by simp,?_,by simp,by simp⟩;dsimp only;rw[aa.kJ];show 0<=s1.c.t.tick.1.af/\s1.c.t.tick.1.af<=65535;rw[hk.2.1];exact Rz
   ·refine⟨C.next s1.c.head ⟨12,s1.c.t.tick.2,0,s1.c.t.tick.1.af,30,0⟩,?_⟩;rw[show∀(y:aa) (k a n e w:Int),(y.record C k a n e w).c={y.c with head:=C.next y.c.head ⟨k,a,n,y.c.t.af,e,w⟩}from λ_ _ _ _ _ _=>rfl,aa.qF];rfl
  ·exact⟨q20,s1.c.head,rfl⟩
 obtain⟨q2,FG,e2⟩:=q2;have v7:Inv (pk C s1).c:=by rw[e2];exact i2.head _
 generalize pk C s1=s2 at*;have e20:=v7.km;obtain⟨a4,hd3,e3⟩:=aor (C:=C) (b:=b) (Q.gone s2.c.q) ({s2 with c:={s2.c with q:=Q.kept s2.c.q}}:aa)
  (λa ha=>by
   obtain⟨x,hx,rfl,_⟩:=aoq ha;have:=v7.q.each x hx;exact⟨this.2.1,this.2.2.1⟩) e20
 have q3:Quiet C b s2 (v5 C s2):=Quiet.trans (t:=({s2 with c:={s2.c with q:=Q.kept s2.c.q}}:aa)) (aa.g9 rfl rfl rfl rfl) a4;have sh:(v5 C s2).c={s2.c with q:=Q.kept s2.c.q,head:=hd3}:=e3;have i3:Inv (v5 C s2).c:=by
  rw[sh];exact⟨v7.p,v7.tok,v7.q.kept,v7.ag,v7.samples,v7.mode,v7.doors⟩
 refine⟨q1.trans (q2.trans q3),i3,?_,?_,?_,?_,?_,?_,?_,?_,?_,?_⟩
 ·rw[sh,e2,e1]
 ·rw[sh,e2,e1]
 ·rw[sh,e2];show s1.c.t.tick.1.aE=_;rw[hk.1,e1];exact hf.1
 ·rw[sh,e2];show s1.c.t.tick.1.af=_;rw[hk.2.1,e1];exact hf.2.1
 ·rw[sh,e2];show s1.c.t.tick.1.la=_;rw[hk.2.2.1,e1];exact hf.2.2.1
 ·rw[sh,e2];show s1.c.t.tick.1.bad=_;rw[hk.2.2.2.1,e1];exact hf.2.2.2.1
 ·rw[sh,e2,e1]
 ·rw[sh,e2,e1]
 ·rw[sh,e2,e1];exact⟨rfl,rfl,rfl⟩
 ·rw[sh,e2,e1];exact⟨rfl,rfl,rfl⟩
structure aov (c m c':Core) (how:Int):Prop where
 p:c'.p=c.p
 ag:c'.ag=c.ag.tick
 lost:yd c.p m.t m.q (m.ag.on m.t.aE) c'.t how c'.q
 aue:how=5->c'.mode=c.p.lost/\c'.fm=⟨3,4,0⟩/\c'.pt=(c.pt.hold ⟨3,4,0⟩).step c.p
 stays:how=0->c'.mode=c.mode/\c'.fm=c.fm/\c'.pt=c.pt.step c.p
theorem aow (h:Inv s.c):eL C b s (s.tick C) 3 0/\∃m how,Mid s.c m/\aov s.c m (s.tick C).c how:=by
 obtain⟨q3,hm⟩:=aap (C:=C) (b:=b) h;rw[Su];generalize v5 C (pk C (pj C s))=s3 at*;obtain⟨⟨i4,w4⟩,t4,p4,l4,r4,dc⟩:=aou (C:=C) (b:=b) hm.inv;generalize hs4:s3.dP C=s4 at*;dsimp only;have i5:Inv {s4.c with pt:=s4.c.pt.step s4.c.p}:=⟨i4.p,i4.tok,i4.q,i4.ag,i4.samples,i4.mode,i4.doors⟩;have q5:Quiet C b s4 ({s4 with c:={s4.c with pt:=s4.c.pt.step s4.c.p}}:aa):=aa.g9 rfl rfl rfl rfl;refine⟨⟨i5,?_⟩,s3.c,(fR s3.c.p s3.c.t s3.c.q (s3.c.ag.on s3.c.t.aE)).2.1,hm,p4.trans hm.p,t4.trans hm.ag,?_,?_,?_⟩
 ·rcases w4 with w4|⟨how,g4,w4⟩
  ·exact .inl (q3.trans (w4.trans q5))
  ·refine .inr ⟨how,(q3.goes g4).quiet q5 g4.offer,?_⟩;unfold tK at*;simp only[hm.aE,hm.af]at w4;rcases w4 with⟨e,k,_⟩|⟨e,k,_⟩|⟨e,k,_⟩|⟨e,k,_⟩|w4|⟨e,k,w4⟩
   ·omega
   ·omega
   ·omega
   ·omega
   ·exact .inr (.inr (.inr (.inr (.inl ⟨w4.1,rfl,w4.2.2⟩))))
   ·refine .inr (.inr (.inr (.inr (.inr ⟨e,k,?_⟩))));rcases w4 with⟨e',_⟩|w4
    ·omega
    ·exact .inr ⟨rfl,w4.2⟩
 ·rw[hm.p]at l4;rw[hm.p];exact l4
 ·intro e;obtain⟨r1,r2,r3⟩:=r4 e;refine⟨by rw[<-hm.p];exact r1,r2,?_⟩;show s4.c.pt.step s4.c.p=_;rw[r3,p4,hm.p,hm.mode.2.2]
 ·intro e;obtain⟨r1,r2,r3⟩:=dc e;refine⟨by rw[<-hm.mode.1];exact r1,by rw[<-hm.mode.2.1];exact r2,?_⟩;show s4.c.pt.step s4.c.p=_;rw[r3,p4,hm.p,hm.mode.2.2]
structure Calm (s s':aa):Prop where
 br:∃rs:List Rec,s'.br=s.br++rs/\∀r∈rs,r.kind≠1/\r.kind≠7
 bz:∃ts:List (Int×aF),s'.bz=s.bz++ts/\∀x∈ts,132<x.2.kind
theorem Calm.refl (s:aa):Calm s s:=⟨⟨[],by simp,by simp⟩,⟨[],by simp,by simp⟩⟩
theorem Calm.trans {s t u:aa} (h:Calm s t) (k:Calm t u):Calm s u:=by
 obtain⟨⟨rs,r1,r2⟩,⟨ts,t1,t2⟩⟩:=h;obtain⟨⟨qs,q1,q2⟩,⟨us,u1,u2⟩⟩:=k;exact⟨⟨rs++qs,by rw[q1,r1,bN],λr hr=>(ez.1 hr).elim (r2 r) (q2 r)⟩,⟨ts++us,by rw[u1,t1,bN],λx hx=>(ez.1 hx).elim (t2 x) (u2 x)⟩⟩
structure K6 (c c':Core):Prop where
 p:c'.p=c.p
 t:c'.t=c.t
 q:c'.q=c.q
 on:∀x,c'.ag.on x=c.ag.on x
 role:∀x,c'.ag.role x=c.ag.role x
 mode:c'.mode=c.mode
 fm:c'.fm=c.fm
 pt:c'.pt=c.pt
inductive Class (s s':aa) (l:Int):Prop
 |rejected (e:Int) (he:e≠0) (hr:s'.br=s.br++[⟨1,l,0,s.c.t.af,e,0⟩]) (hs:s'.bz=s.bz) (hc:K6 s.c s'.c)
 |refused (n e:Int) (he:e≠0) (hr:s'.br=s.br++[⟨7,l,n,s.c.t.af,e,0⟩]) (hs:s'.bz=s.bz++[(l,{kind:=132,seq:=n,code:=e})]) (hc:K6 s.c s'.c)
 |done (r:aF) (hr:129<=r.kind/\r.kind<=131) (rs:List Rec) (h1:s'.br=s.br++rs) (h2:∀r∈rs,r.kind≠1/\r.kind≠7) (xs ys:List (Int×aF)) (h3:s'.bz=s.bz++(xs++(l,r)::ys)) (h4:∀x∈xs++ys,132<x.2.kind)
theorem K6.refl (c:Core):K6 c c:=⟨rfl,rfl,rfl,λ_=>rfl,λ_=>rfl,rfl,rfl,rfl⟩
theorem Class.CA {T:az} {t:aa} (k:Class ({s with c:={s.c with ag:=T}}:aa) t l) (iA:∀x,T.on x=s.c.ag.on x) (hr:∀x,T.role x=s.c.ag.role x):Class s t l:=by
 cases k with
 |rejected e he fl hs hc=>exact .rejected e he fl hs ⟨hc.p,hc.t,hc.q,λx=>(hc.on x).trans (iA x),λx=>(hc.role x).trans (hr x),hc.mode,hc.fm,hc.pt⟩
 |refused n e he fl hs hc=>exact .refused n e he fl hs ⟨hc.p,hc.t,hc.q,λx=>(hc.on x).trans (iA x),λx=>(hc.role x).trans (hr x),hc.mode,hc.fm,hc.pt⟩
 |done r hr rs h1 h2 xs ys h3 h4=>exact .done r hr rs h1 h2 xs ys h3 h4
end Sd
namespace Sd
variable{C:aN}
def C8 (C:aN) (c:Core):Core:=((⟨c,[],[]⟩:aa).tick C).c
end Sd
namespace Sd
variable{C:aN} {s:aa}
def Bd (n:Int):Prop:=-9223372036854775808<=n/\n<=9223372036854775807
def tY (t:Timer):Prop:=Bd t.n/\Bd t.most
structure nM (t:az):Prop where
 hi:∀j,(t.aj (j+3)).on=false
 st:tY t.cO.2
 ss:∀j,tY (t.aj j).eB
structure gF (t:Tok):Prop where
 oa:tY t.oa
 la:tY t.la
def nN (x:X4):Prop:=Bd x.a/\Bd x.b/\Bd x.c/\Bd x.d
structure GO (p:eu):Prop where
 aV:nN p.aV
 now:nN p.now
structure Ext (c:Core):Prop where
 ag:nM c.ag
 t:gF c.t
 pt:GO c.pt
 d:∀i,(c.doors i).many<=4294967295
 be:Bd c.beyond
theorem tZ:Bd 0:=⟨by decide,by decide⟩
theorem qN:tY Timer.zero:=⟨tZ,tZ⟩
theorem GP:nN X4.zero:=⟨tZ,tZ,tZ,tZ⟩
theorem aaq {n m:Int} (h:Bd n) (k:Bd m):Bd (sat n m):=by
 unfold Bd sat at*;split<;>omega
theorem C9 {n a b:Int} (h:a<=n/\n<=b) (ha:-9223372036854775808<=a) (hb:b<=9223372036854775807):Bd n:=⟨by omega,by omega⟩
theorem GQ {m:Int} (h:Bd m):tY (Timer.start m):=⟨tZ,by unfold Timer.start Bd at*;dsimp only;omega⟩
theorem GR {t:Timer} (h:tY t):tY t.step:=⟨aaq h.1 h.2,h.2⟩
theorem Ext.eq {c c':Core} (h:Ext c) (h1:c'.ag=c.ag) (h2:c'.t=c.t) (h3:c'.pt=c.pt) (h4:c'.doors=c.doors) (h5:c'.beyond=c.beyond):Ext c':=
 ⟨h1▸h.ag,h2▸h.t,h3▸h.pt,h4▸h.d,h5▸h.be⟩
theorem Ext.new {p:aJ}:Ext (Core.new p):=⟨⟨λ_=>rfl,qN,λ_=>qN⟩,⟨qN,qN⟩,⟨GP,GP⟩,λ_=>show(0:Int)<=4294967295 by decide,tZ⟩
theorem K7 {t:Tok} {a b:Int}:gF (t.pass a b):=⟨qN,qN⟩
theorem GS {t:Tok} (h:gF t) {a:Int}:gF (t.c9 a).1:=by
 unfold Tok.c9;split
 ·exact h
 split
 ·exact h
 split
 ·exact h
 exact K7
theorem aar {t:Tok} (h:gF t):gF t.gX:=⟨qN,h.la⟩
theorem aox {p:aJ} (hp:eF p) {t:Tok} (h:gF t) {a b:Int} {th:Bool}:gF (t.make p a b th).1:=by
 unfold Tok.make;split
 ·exact h
 split
 ·exact h
 split
 ·exact h
 split
 ·exact h
 split
 ·exact h
 exact⟨GQ (C9 hp.offer (by decide) (by decide)),h.la⟩
theorem aoy {t:Tok} (h:gF t) {a b:Int}:gF (t.accept a b).1:=by
 unfold Tok.accept;split
 ·exact h
 split
 ·exact h
 exact GS h
theorem aoz {t:Tok} (h:gF t) {a:Int}:gF (t.fg a).1:=by
 unfold Tok.fg;split
 ·exact h
 exact aar h
theorem aas {t:Tok} (h:gF t) {a:Int}:gF (t.drop a).1:=by
 unfold Tok.drop;split
 ·exact h
 exact aar h
theorem aat {t:Tok} (h:gF t):gF t.tick.1:=by
 unfold Tok.tick;split
 ·exact h
 split
 ·exact⟨qN,h.la⟩
 exact⟨GR h.oa,h.la⟩
theorem aau {p:aJ} {t:Tok} {m:Int} {q:List Ask} {f:Int} {now:Bool} (h:gF t):gF (fI p t m q f now).1:=by
 unfold fI;split
 ·exact h
 split
 ·exact h
 split
 ·exact h
 split
 ·split
  ·exact h
  ·exact GS h
 split
 ·exact h
 exact h
theorem aav {t:Tok} (h:gF t) {q:List Ask}:gF (eT t q).1:=by
 unfold eT;split
 ·exact h
 split
 ·exact h
 exact GS h
theorem aaw {t:Tok} (h:gF t) {q:List Ask} {f:Int}:gF (cQ t q f).1:=by
 unfold cQ;split
 ·exact h
 split
 ·exact h
 exact aav h
theorem SD {p:aJ} (hp:eF p) {t:Tok} (h:gF t) {q:List Ask} {th:Bool}:gF (fR p t q th).1:=by
 unfold fR;split
 ·exact⟨h.oa,qN⟩
 have rq:tY (if t.la.most=0 then Timer.start p.dP else t.la).step:=by
  split
  ·exact GR (GQ (C9 hp.dP (by decide) (by decide)))
  ·exact GR h.la
 dsimp only;generalize (if t.la.most=0 then Timer.start p.dP else t.la).step=la at*;have h1:gF {t with la:=la}:=⟨h.oa,rq⟩;split
 ·exact h1
 split
 ·exact K7
 split
 ·exact GS h1
 exact aav h1
theorem Ext.record {k a n e w:Int} (h:Ext s.c):Ext (s.record C k a n e w).c:=⟨h.ag,h.t,h.pt,h.d,h.be⟩
theorem Ext.dI {l:Int} {r:aF} (h:Ext s.c):Ext (s.dI l r).c:=by rw[aa.kJ];exact h
theorem Ext.gone {l w e:Int} (h:Ext s.c):Ext (s.gone l w e).c:=h.dI
theorem Ext.tell {l:Int} {r:aF} (h:Ext s.c):Ext (s.tell l r).c:=h
theorem Ext.done {l n:Int} (h:Ext s.c):Ext (s.done l n).c:=h
theorem Ext.refuse {l n e:Int} (h:Ext s.c):Ext (s.refuse C l n e).c:=Ext.record (s:=s.tell l _) h
theorem Ext.gY {l e:Int} (h:Ext s.c):Ext (s.gY C l e).c:=h.record
theorem Ext.goes {t:Tok} {how n:Int} (h:Ext s.c) (ht:gF t):Ext (s.goes C t how n).c:=by
 obtain⟨x,e⟩:=aa.FJ C s t how n;rw[e];exact⟨h.ag,ht,h.pt,h.d,h.be⟩
theorem Ext.leave {x:Int} (h:Ext s.c):Ext (s.leave C x).c:=by
 obtain⟨hd,e⟩:=P3 C s x;rw[e];exact⟨h.ag,aas h.t,h.pt,h.d,h.be⟩
theorem Ext.dQ {t:Tok} (h:Ext s.c) (ht:gF t):Ext (s.dQ t).c:=⟨h.ag,ht,h.pt,h.d,h.be⟩
theorem Ext.GU {q:List Ask} (h:Ext s.c):Ext ({s with c:={s.c with q:=q}}:aa).c:=⟨h.ag,h.t,h.pt,h.d,h.be⟩
theorem Ext.d_ {m:Int} {y:Label} (h:Ext s.c):Ext (s.d_ m y).c:=⟨h.ag,h.t,⟨GP,h.pt.now⟩,h.d,h.be⟩
theorem SE {t:az} (h:nM t) {i:Nat} (hi:i<3) {x:gz} (hx:tY x.eB):nM (t.dW i x) where
 hi:=by
  intro j;unfold az.dW;dsimp only;rw[if_neg (by omega)];exact h.hi j
 st:=h.st
 ss:=by
  intro j;unfold az.dW;dsimp only;split
  ·exact hx
  ·exact h.ss j
theorem aoA {t:az} (h:nM t) {l:Int} (hl:1<=l/\l<=3):nM (t.end_ l):=by
 unfold az.end_;split
 ·exact SE h (by omega) qN
 ·exact h
theorem aoB {p:aJ} (hp:eF p) {t:az} (h:nM t) {l r:Int} {key:aw}:nM (az.dU p t l r key).1:=by
 unfold az.dU;split
 ·exact h
 split
 ·exact h
 exact SE h (by omega) (GQ (C9 hp.b_ (by decide) (by decide)))
theorem aoC {p:aJ} (hp:eF p) {t:az} (h:nM t) {l:Int} (hl:1<=l/\l<=3) {n:Nat} {f:aw}:nM (az.take C p t l n f).1:=by
 unfold az.take;split
 ·exact h
 split
 ·exact h
 split
 ·exact h
 split
 ·exact h
 split
 ·exact h
 exact SE h (by omega) (GQ (C9 hp.b_ (by decide) (by decide)))
theorem aoD {p:aJ} (hp:eF p) {t:az} (h:nM t):nM (t.kY p):=⟨h.hi,GQ (C9 hp.b_ (by decide) (by decide)),h.ss⟩
theorem aoE {t:az} (h:nM t):nM t.tick where
 hi:=by
  intro j;simp only[az.tick,h.hi j];simp[h.hi j]
 st:=by
  unfold az.tick;dsimp only;split
  ·split
   ·exact qN
   ·exact GR h.st
  ·exact h.st
 ss:=by
  intro j;unfold az.tick;dsimp only;split
  ·split
   ·exact qN
   ·exact GR (h.ss j)
  ·exact h.ss j
theorem K8 {n a b:Int} (ha:Bd a) (hb:Bd b) (h:Bd n):Bd (sV n a b):=by
 unfold sV;split
 ·exact ha
 split
 ·exact hb
 exact h
theorem aax {p:aJ} (hp:eF p) {pt:eu} (h:GO pt) {c:Int} {x:X4} (hx:nN x) {y:Label}:GO (pt.set p c x y) where
 aV:=by
  unfold eu.set;dsimp only;split
  ·exact GP
  ·have hm:=hp.most c.toNat (by omega);have h1:Bd (-(p.most c.toNat)):=⟨by omega,by omega⟩;have h2:Bd (p.most c.toNat):=⟨by omega,by omega⟩;exact⟨K8 h1 h2 hx.1,K8 h1 h2 hx.2.1,K8 h1 h2 hx.2.2.1,K8 h1 h2 hx.2.2.2⟩
 now:=h.now
theorem K9 {a b r:Int} (ha:Bd a) (hb:Bd b):Bd (qb a b r):=by
 unfold qb Bd at*;split
 ·exact ha
 split
 ·split<;>omega
 ·split<;>omega
theorem aoF {p:aJ} {pt:eu} (h:GO pt):GO (pt.step p) where
 aV:=h.aV
 now:=⟨K9 h.now.1 h.aV.1,K9 h.now.2.1 h.aV.2.1,K9 h.now.2.2.1 h.aV.2.2.1,K9 h.now.2.2.2 h.aV.2.2.2⟩
theorem aoG {m:bo} {l:Int} (hl:1<=l/\l<=3) (hp:eF s.c.p) (hx:nN m.x) (h:Ext s.c):Ext (s.jN C l m).c:=by
 unfold aa.jN;split
 ·exact h.done
 split
 ·unfold aa.zf;refine Ext.done (Ext.record (Ext.leave ?_));exact⟨aoA h.ag hl,h.t,h.pt,h.d,h.be⟩
 split
 ·unfold aa.ask;dsimp only;split
  ·exact h.refuse
  refine Ext.done ?_;split
  ·exact Ext.goes (h.GU) (aau h.t)
  ·exact Ext.record (Ext.dQ h.GU (aau h.t))
 split
 ·unfold aa.offer;dsimp only;split
  ·exact h.refuse
  exact Ext.done (Ext.record (Ext.dI (Ext.dQ h (aox hp h.t))))
 split
 ·unfold aa.accept;dsimp only;split
  ·exact h.refuse
  exact Ext.done (Ext.goes h (aoy h.t))
 split
 ·unfold aa.fg;dsimp only;split
  ·exact h.refuse
  exact Ext.done (Ext.record (Ext.gone (Ext.dQ h (aoz h.t))))
 split
 ·unfold aa.release;dsimp only;split
  ·exact h.refuse
  exact Ext.done (Ext.goes h.GU (aaw h.t))
 split
 ·unfold aa.command;dsimp only;split
  ·exact h.refuse
  refine Ext.done (Ext.record ?_);split
  ·exact⟨h.ag,h.t,h.pt,h.d,h.be⟩
  ·exact⟨h.ag,h.t,aax hp h.pt hx,h.d,h.be⟩
 ·exact h
theorem aoH {l code:Int} {n:Nat} {f:aw} (hx:∀n f m,C.take n f=some m->nN m.x) (hl:1<=l/\l<=3) (hp:eF s.c.p) (h:Ext s.c):Ext (s.item C l code n f).c:=by
 unfold aa.item;split
 ·exact h.gY
 split
 ·unfold aa.jw;split
  ·exact h.gY
  split
  ·exact h.refuse
  dsimp only;split
  ·exact h.refuse
  refine Ext.record (Ext.tell ?_);refine⟨h.ag,h.t,h.pt,?_,h.be⟩;intro i;dsimp only;split
  ·dsimp only;omega
  ·exact h.d i
 split
 ·unfold aa.prove;split
  ·exact h.gY
  split
  ·exact h.gY
  dsimp only;split
  ·exact h.refuse
  have h1:∀{b:Bool} {x:aw},Ext ({s.c with doors:=λj=>if j=l.toNat-1 then⟨(s.c.doors (l.toNat-1)).many,b,x⟩else s.c.doors j}:Core):=by
   intro b x;refine⟨h.ag,h.t,h.pt,?_,h.be⟩;intro i;dsimp only;split
   ·exact h.d _
   ·exact h.d i
  split
  ·exact Ext.gY (s:=({s with c:=_}:aa)) h1
  split
  ·exact Ext.refuse (s:=({s with c:=_}:aa)) h1
  split
  ·exact Ext.refuse (s:=({s with c:=_}:aa)) h1
  refine Ext.record (Ext.tell ?_);exact⟨aoB hp h.ag,h.t,h.pt,(@h1 false λ_=>0).d,h.be⟩
 split
 ·exact h.gY
 ·rename_i ag m heq;have h1:nM ag:=by have:=aoC (C:=C) hp h.ag hl (n:=n) (f:=f);rw[heq]at this;exact this
  have hm:nN m.x:=by
   unfold az.take at heq;split at heq
   ·cases heq
   split at heq
   ·cases heq
   split at heq
   ·cases heq
   ·rename_i m' rA;split at heq
    ·cases heq
    split at heq
    ·cases heq
    cases heq;exact hx _ _ _ rA
  exact aoG hl hp hm ⟨h1,h.t,h.pt,h.d,h.be⟩
theorem aoI {x:mO} (hx:nN x.x) (hp:eF s.c.p) (h:Ext s.c):Ext (s.kY C x).c:=by
 have hs:Bd (fh s.c.p s.c.beyond x).1:=by
  unfold fh;split
  ·exact tZ
  ·exact aaq (by have:=h.be;unfold Bd at*;omega) (C9 hp.sU (by decide) (by decide))
 unfold aa.kY;split
 ·exact⟨h.ag,h.t,h.pt,h.d,tZ⟩
 dsimp only;have h1:Ext ({s.c with samples:=sat s.c.samples 4294967295,ag:=s.c.ag.kY s.c.p,beyond:=(fh s.c.p s.c.beyond x).1}:Core):=⟨aoD hp h.ag,h.t,h.pt,h.d,hs⟩;split
 ·split
  ·exact Ext.record (s:=({s with c:=_}:aa)) h1
  ·exact Ext.goes ⟨h1.ag,h1.t,h1.pt,h1.d,h1.be⟩ (aaw h.t)
 split
 ·split
  ·exact Ext.record (s:=({s with c:=_}:aa)) h1
  ·exact Ext.record (s:=({s with c:=_}:aa)) ⟨h1.ag,h1.t,aax hp h.pt hx,h1.d,h1.be⟩
 split
 ·split
  ·exact Ext.record (s:=({s with c:=_}:aa)) h1
  ·exact Ext.goes (s:=({s with c:=_}:aa)) h1 (GS h.t)
 ·exact h1
theorem aoJ (q:List Ask):∀s:aa,Ext s.c->Ext (q.foldl mw s).c:=by
 induction q with
 |nil=>intro s h;exact h
 |cons a q ih=>intro s h;exact ih _ (by rw[K2];exact⟨h.ag,h.t,h.pt,h.d,h.be⟩)
theorem aoK {bad:Bool} (h:Ext s.c):Ext (s.wQ C bad).c:=by
 cases bad with
 |false=>exact⟨h.ag,⟨h.t.oa,h.t.la⟩,h.pt,h.d,h.be⟩
 |true=>
  rw[aak true rfl];refine Ext.d_ (aoJ _ _ ?_);have h0:Ext (s.dQ {s.c.t with bad:=true}).c:=Ext.dQ h ⟨h.t.oa,h.t.la⟩;split
  ·exact Ext.goes h0 K7
  ·exact Ext.dQ h0 K7
theorem aoL (xs:List Int):∀t:Tok,gF t->gF (kx t xs):=by
 induction xs with
 |nil=>intro t h;exact h
 |cons x xs ih=>
  intro t h;unfold kx at*;rw[uv];refine ih _ ?_;split
  ·exact aas h
  ·exact h
theorem aoM (xs:List Int):∀s:aa,Ext s.c->Ext (xs.foldl (nL C) s).c:=by
 induction xs with
 |nil=>intro s h;exact h
 |cons x xs ih=>
  intro s h;refine ih _ ?_;obtain⟨hd,e⟩:=aal C s x;rw[e];exact⟨h.ag,aoL _ _ h.t,h.pt,h.d,h.be⟩
theorem aoN (q:List Ask):∀s:aa,Ext s.c->Ext (q.foldl (yc C) s).c:=by
 induction q with
 |nil=>intro s h;exact h
 |cons a q ih=>intro s h;exact ih _ (Ext.record (Ext.gone h))
theorem aoO (hp:eF s.c.p) (h:Ext s.c):Ext (s.dP C).c:=by
 unfold aa.dP;dsimp only;split
 ·exact Ext.dQ h (SD hp h.t)
 split
 ·exact Ext.d_ (Ext.goes h.GU (SD hp h.t))
 ·exact Ext.d_ (Ext.goes h.GU (SD hp h.t))
theorem aoP (hi:Inv s.c) (h:Ext s.c):Ext (s.tick C).c:=by
 rw[Su];have h1:Ext (pj C s).c:=aoM _ _ ⟨aoE h.ag,h.t,h.pt,h.d,h.be⟩;have h2:Ext (pk C (pj C s)).c:=by
  unfold pk;dsimp only;split
  ·exact Ext.record (Ext.gone (Ext.dQ h1 (aat h1.t)))
  ·exact Ext.dQ h1 (aat h1.t)
 have h3:Ext (v5 C (pk C (pj C s))).c:=aoN _ _ ⟨h2.ag,h2.t,h2.pt,h2.d,h2.be⟩;have hp:eF (v5 C (pk C (pj C s))).c.p:=by rw[(aap (b:=True) hi).2.p];exact hi.p
 have h4:=aoO (C:=C) hp h3;exact⟨h4.ag,h4.t,aoF h4.pt,h4.d,h4.be⟩
end Sd
namespace Sx
open Go Go.RowKit Go.BigFrame
theorem St.dup {ms:List Nat} {w0 w:ae} {bs:List ai} {b:ai} (S:St ms w0 bs w) (hb:b∈bs) (hw:b.wr=false):St ms w0 (b::bs) w:=by
 refine St.mk' S.ch ?_ ?_ ?_
 ·intro x hx;rcases bY.1 hx with rfl|hx
  ·exact S.at' hb
  ·exact S.at' hx
 ·intro x hx h;rcases bY.1 hx with rfl|hx
  ·rw[hw]at h;cases h
  ·exact S.nC hx h
 ·refine yH.2 ⟨?_,S.pw⟩;intro y hy;obtain⟨i,hi⟩:=yC hb;obtain⟨j,hj⟩:=yC hy;intro h;have SF:y.wr=true:=by
   rcases h with h|h
   ·rw[hw]at h;cases h
   ·exact h
  have bZ:j≠i:=λe=>by
   rw[e,hi]at hj;have:=ck hj;rw[this]at hw;rw[hw]at SF;cases SF
  exact(S.apart j i y b hj hi bZ SF).symm
end Sx
namespace Go.Proofs.YtggfpcggakghnaaGreatDoor
open Go Go.RowKit Go.BigFrame Sx Vx
variable{fr:Sd.aF->Nat×Sd.aw}
inductive LG (fr:Sd.aF->Nat×Sd.aw) where
 |aX (u:ae)
 |core (g:Gh fr) (fB:List ai)
 |row (r:bO)
instance:Bl (LG fr):=⟨λg=>match g with|.aX u=>dv u|.core g fB=>g.F.B++fB|.row r=>r.bl⟩
mutual
def gG (n:Nat):V->V
 |.ptr i o=>.ptr (i+n) o
 |.sl i o m c=>.sl (i+n) o m c
 |.fS i o m c x=>.fS (i+n) o m c x
 |.pe i o j z k=>.pe (i+n) o j z k
 |.fn f a b=>.fn f (nO n a) (nO n b)
 |.lD t v=>.lD t (gG n v)
 |.agg l=>.agg (nO n l)
 |.ao l=>.ao (nO n l)
 |v=>v
def nO (n:Nat):List V->List V
 |[]=>[]
 |v::l=>gG n v::nO n l
end
theorem K_ {ids xs:List Nat} (i:Nat):(ids++xs).getD (i+ids.length) 0=xs.getD i 0:=by
 simp[ij,yB (show ids.length<=i+ids.length by omega)]
mutual
theorem C_ {ids xs:List Nat}:∀v:V,den (ids++xs) (gG ids.length v)=den xs v
 |.ptr i _=>by simp only[gG,den,K_]
 |.sl i _ _ _=>by simp only[gG,den,K_]
 |.fS i _ _ _ _=>by simp only[gG,den,K_]
 |.pe i _ _ _ _=>by simp only[gG,den,K_]
 |.fn _ a b=>by simp only[gG,den,La a,La b]
 |.lD _ v=>by simp only[gG,den,C_ v]
 |.agg l=>by simp only[gG,den,SG l]
 |.ao l=>by simp only[gG,den,La l]
 |.int _ _=>by simp[gG,den]
 |.bool _=>by simp[gG,den]
 |.bH _ _ _=>by simp[gG,den]
 |.arr _ _ _=>by simp[gG,den]
 |.dS _ _ _ _=>by simp[gG,den]
 |.rest _=>by simp[gG,den]
 |.eU _ _ _=>by simp[gG,den]
 |.raw _=>by simp[gG,den]
theorem La {ids xs:List Nat}:∀l:List V,aA (ids++xs) (nO ids.length l)=aA xs l
 |[]=>by simp[nO,aA]
 |v::l=>by simp only[nO,aA,C_ v,La l]
theorem SG {ids xs:List Nat}:∀l:List V,ah (ids++xs) (nO ids.length l)=ah xs l
 |[]=>by simp[nO,ah]
 |v::l=>by
  simp only[nO,ah,SG l];congr 1;have h:=C_ (ids:=ids) (xs:=xs) v;cases v<;>simp only[gG,cl]at h⊢<;>first|rfl|rw[h]
end
def yf (n:Nat):List VB->List VB
 |[]=>[]
 |b::l=>⟨b.wr,b.ty,nO n b.c⟩::yf n l
theorem aay (n:Nat):∀l:List VB,(yf n l).length=l.length
 |[]=>rfl
 |_::l=>by simp[yf,aay n l]
theorem aaz {ids xs:List Nat}:∀(is:List Nat) (bl:List VB),lits (ids++xs) is (yf ids.length bl)=lits xs is bl
 |[],_=>by simp[lits]
 |_::_,[]=>by simp[lits,yf]
 |i::is,b::bl=>by
  simp only[yf,lits,aaz is bl];unfold ay;simp only[SG]
abbrev GV (fr:Sd.aF->Nat×Sd.aw) (k:LK):=V->(s':Sd.aa)->a9 fr (aY k s')->List ai->List VB->Prop
abbrev LM (fr:Sd.aF->Nat×Sd.aw):=List V->(k:LK)->(s:Sd.aa)->a9 fr (aY k s)->GV fr k->Prop
def ef (bl:List VB) (ic it:Nat) (k:LK) (s:Sd.aa):List VB:=(bl.set ic (gC k it s)).set it (gp s)
def Da (M:ae->LM fr):cP (LG fr):=λargs bl ch K=>match args,ch with
 |.ptr ic 0::ar,.aX u::.core g fB::rest=>(match bl[ic]?with
  |some ⟨true,⟨105,(0,0)⟩,cc⟩=>(match Ae cc with
   |some x=>(match bl[x.it]?with
    |some ⟨true,⟨157,(0,0)⟩,tc⟩=>(match rS tc with
     |some y=>cond (ba 0 ar&&(bI bl.length bl&&(cj 1 ic&&(cj 1 x.it&&!(ax ic x.it)))))
      ((bl[0]?=some (bU g.d.k)/\bl[1]?=some (g_ g.d.k)/\x=lg g.d.k x.it (eV x y g.d g.dx g.sx)/\y.b=x.p.b_/\y.m=x.p.eS/\x.p.queue=g.d.k.most)/\
        M u ar g.d.k (eV x y g.d g.dx g.sx) g.F λvv s' F' fn ex=>K (gG bl.length vv) (ef bl ic x.it g.d.k s'++ex) (.aX u::.core (bb g.d.k s' F') (fn++fB)::rest)) False
     |none=>False)
    |_=>False)
   |none=>False)
  |_=>False)
 |_,_=>False
abbrev cK (a b:Nat):List Nat:=[1,0,a,b]
def GW (f:eN) (M:ae->LM fr):Prop:=∀(u:ae) (ar:List V) (k:LK) (s:Sd.aa) (F:a9 fr (aY k s)) (Kb:GV fr k) (a b:Nat) (R:List ai) (ms:List Nat) (w0 w:ae),ba 0 ar=true->s.c.p.queue=k.most->M u ar k s F Kb->
 St ms w0 (lits (cK a b) (cK a b) (dc k s)++(F.B++(dv u++R))) w->
 aQ prog f (aA (cK a b) (.ptr 2 0::ar)).toArray w λv w'=>∃(vv:V) (s':Sd.aa) (F':a9 fr (aY k s')) (fn:List ai) (ex:List VB) (xs:List Nat),xs.length=ex.length/\den xs vv=v/\bI 0 ex=true/\Kb vv s' F' fn ex/\
  St ms w0 (lits (cK a b) (cK a b) (dc k s')++(lits xs xs ex++(F'.B++(fn++(dv u++R))))) w'
theorem aaA {ids:List Nat} {it a b:Nat} (n:Nat) {k:LK} {s:Sd.aa} (h:ids.getD it 0=b):ay ids n (gC k it s)=ay (cK a b) n (gC k 3 s):=by
 have e:(cK a b).getD 3 0=b:=rfl;simp only[ay,gC,CO,lg,ah,cl,den,h,e]
structure AA (bl:List VB) (ic it:Nat) (k:LK) (s:Sd.aa):Prop where
 h0:bl[0]?=some (bU k)
 h1:bl[1]?=some (g_ k)
 hc:bl[ic]?=some (gC k it s)
 ht:bl[it]?=some (gp s)
theorem Db {ids:List Nat} {bl:List VB} {ic it:Nat} {k:LK} {s:Sd.aa} (H:AA bl ic it k s) (hg:Gl gS ids):
 ([0,1,ic,it].map λj=>ay ids (ids.getD j 0) (bl.getD j cX))=lits (cK (ids.getD ic 0) (ids.getD it 0)) (cK (ids.getD ic 0) (ids.getD it 0)) (dc k s):=by
 have g0:=(hg 1 0 rfl).2;have g1:=(hg 0 1 rfl).2;simp only[eQ,uw,iT H.h0,iT H.h1,iT H.hc,iT H.ht,g0,g1,dc,lits];rw[mn (ids':=cK (ids.getD ic 0) (ids.getD it 0)) (Gb k),mn (ids':=cK (ids.getD ic 0) (ids.getD it 0)) (Zb k),mn (ids':=cK (ids.getD ic 0) (ids.getD it 0)) (Ga s),
  aaA (a:=ids.getD ic 0) _ rfl]
theorem SH {bl:List VB} {ic it:Nat} {k:LK} {s:Sd.aa} (H:AA bl ic it k s) (h2:1<ic) (h3:1<it) (n3:ic≠it) (s':Sd.aa):AA (ef bl ic it k s') ic it k s':=by
 have l2:=ia H.hc;have l3:=ia H.ht;unfold ef;refine⟨?_,?_,?_,?_⟩
 ·rw[kq (by omega),kq (by omega)];exact H.h0
 ·rw[kq (by omega),kq (by omega)];exact H.h1
 ·rw[kq (by omega),Af l2]
 ·rw[Af (by simpa using l3)]
theorem SI {bl:List VB} {ids r:List Nat} {a b:Nat} {x y:VB} (hr:∀j∈r,j≠a/\j≠b):
 (r.map λj=>ay ids (ids.getD j 0) (((bl.set a x).set b y).getD j cX))=r.map λj=>ay ids (ids.getD j 0) (bl.getD j cX):=by
 apply pH;intro j hj;obtain⟨h1,h2⟩:=hr j hj;simp only[ij,List.getElem?_set];rw[if_neg (Ne.symm h2),if_neg (Ne.symm h1)]
theorem GY {n:Nat} {b:VB} (hb:ba n b.c=true):∀(bl:List VB) (i:Nat),bI n bl=true->bI n (bl.set i b)=true
 |[],_,_=>by simp[bI]
 |c::l,0,h=>by simp only[bI,a_,List.set_cons_zero]at h⊢;exact⟨hb,h.2⟩
 |c::l,i+1,h=>by simp only[bI,a_,List.set_cons_succ]at h⊢;exact⟨h.1,GY hb l i h.2⟩
theorem AB {ids ids':List Nat}:∀(xs:List Nat) (ex:List VB),bI 0 ex=true->lits ids xs ex=lits ids' xs ex
 |[],_,_=>by simp[lits]
 |_::_,[],_=>by simp[lits]
 |i::is,b::bl,h=>by
  simp only[bI,a_]at h;simp only[lits];rw[mn (ids':=ids') h.1,AB is bl h.2]
theorem aaB {f:Nat} {M:ae->LM fr} (h:GW f M):Sound prog gS f (Da M):=by
 intro args ids bl ch R ms w0 w K hg hl S hc;unfold Da at hc;split at hc
 ·rename_i ic ar u g fB rest;split at hc
  ·rename_i cc qf;split at hc
   ·rename_i x hx;split at hc
    ·rename_i tc tQ;split at hc
     ·rename_i y hy;cases hq:ba 0 ar&&(bI bl.length bl&&(cj 1 ic&&(cj 1 x.it&&!(ax ic x.it))))with
      |false=>rw[hq]at hc;exact hc.elim
      |true=>
       rw[hq]at hc;simp only[a_,lv,gV]at hq;obtain⟨q0,qw,q2,q3,q6⟩:=hq;have n3:ic≠x.it:=λe=>by rw[e,qS]at q6;cases q6
       obtain⟨⟨e3,e4,e5,e6,e7,e8⟩,hM⟩:=hc;obtain rfl:=F_ hx;obtain rfl:=xS hy;have H:AA bl ic x.it g.d.k (eV x y g.d g.dx g.sx):=by
        refine⟨e3,e4,?_,?_⟩
        ·rw[qf];congr 1;unfold gC;rw[<-e5]
        ·rw[tQ];congr 1;unfold gp;have:y=tP (eV x y g.d g.dx g.sx):=by
          obtain⟨y1,y2,y3,y4,y5,y6,y7,y8⟩:=y;simp only at e6 e7;subst e6 e7;rfl
         rw[<-this]
       have l2:=ia H.hc;have l3:=ia H.ht;obtain⟨r,hr,hp⟩:=xT (bl:=bl) (ids:=ids) hl (is:=[0,1,ic,x.it]) (by simp;omega) (by
        intro i hi;simp only[bY,n9,or_false]at hi;rcases hi with rfl|rfl|rfl|rfl<;>omega)
       have gD:=hp bl rfl;rw[Db H hg]at gD;have S1:=S.perm (bs':=lits (cK (ids.getD ic 0) (ids.getD x.it 0)) (cK (ids.getD ic 0) (ids.getD x.it 0)) (dc g.d.k (eV x y g.d g.dx g.sx))++(g.F.B++(dv u++((r.map λj=>ay ids (ids.getD j 0) (bl.getD j cX))++(fB++av rest R))))) (by
        refine(gD.append_right _).trans ?_;rw[bN];refine pI _ ?_;show((r.map λj=>ay ids (ids.getD j 0) (bl.getD j cX))++(dv u++((g.F.B++fB)++av rest R))).Perm _;exact hJ λf=>by simp only[ik];omega)
       have Gc:=h u ar g.d.k (eV x y g.d g.dx g.sx) g.F _ _ _ _ ms w0 w q0 e8 hM S1;have cC:aA ids (.ptr ic 0::ar)=aA (cK (ids.getD ic 0) (ids.getD x.it 0)) (.ptr 2 0::ar):=by
        have a1:aA ids ar=aA [] ar:=by have:=mP (ids:=[]) (more:=ids) ar q0;simpa using this
        have a2:aA (cK (ids.getD ic 0) (ids.getD x.it 0)) ar=aA [] ar:=by have:=mP (ids:=[]) (more:=cK (ids.getD ic 0) (ids.getD x.it 0)) ar q0;simpa using this
        simp only[aA,den,a1,a2];rfl
       rw[cC];refine Gc.mono ?_;rintro v w' ⟨vv,s',F',fn,ex,xs,fk,SJ,vY,hK,S2⟩;refine⟨gG bl.length vv,xs,ef bl ic x.it g.d.k s'++ex,.aX u::.core (bb g.d.k s' F') (fn++fB)::rest,?_,?_,?_,hK⟩
       ·rw[<-hl,C_];exact SJ.symm
       ·simp[ef,hl,fk]
       ·have H':=SH H q2 q3 n3 s';have nh:=hp (ef bl ic x.it g.d.k s') (by simp[ef]);rw[Db H' hg]at nh;have Ag:(r.map λj=>ay ids (ids.getD j 0) ((ef bl ic x.it g.d.k s').getD j cX))=r.map λj=>ay ids (ids.getD j 0) (bl.getD j cX):=by
         unfold ef;refine SI ?_;intro j hj;have:=hr j hj;simp only[bY,n9,or_false,not_or]at this;omega
        rw[Ag]at nh;have dw:ids.length=(ef bl ic x.it g.d.k s').length:=by simp[ef,hl]
        have GZ:bI ids.length (ef bl ic x.it g.d.k s')=true:=by
         unfold ef;rw[<-hl]at qw l3;refine GY ?_ _ _ (GY ?_ _ _ qw)
         ·exact uW (Nat.zero_le _) _ (Ga s')
         ·simp only[gC,CO,lg,ba,cz,a_,gV,Bool.true_and,Bool.and_true];exact l3
        rw[eZ _ _ _ _ dw,e_ _ _ GZ,AB (ids':=xs) xs ex vY];refine S2.perm ?_;show List.Perm _ ((lits ids ids (ef bl ic x.it g.d.k s')++lits xs xs ex)++(dv u++((F'.B++(fn++fB))++av rest R)));refine DO ?_ ((nh.symm.append_right _).append_right _);exact hJ λf=>by simp only[ik];omega
     ·exact hc.elim
    ·exact hc.elim
   ·exact hc.elim
  ·exact hc.elim
 ·exact hc.elim
theorem aoQ {f:Nat} {M:ae->LM fr} (h:GW f M):tn prog gS ⟨f,false,Da M⟩:=⟨aaB h,λe=>by cases e⟩
end Go.Proofs.YtggfpcggakghnaaGreatDoor
namespace Sx
open Go Go.RowKit Go.BigFrame
theorem St.kp {ms:List Nat} {w0 w:ae} {b:ai} {bs:List ai} (S:St ms w0 (b::bs) w):St ms w0 (⟨b.id,false,b.obj⟩::bs) w:=by
 refine St.mk' S.ch ?_ ?_ ?_
 ·intro x hx;rcases bY.1 hx with rfl|hx
  ·exact S.at' (x:=b) (Bb)
  ·exact S.at' (wy _ hx)
 ·intro x hx h;rcases bY.1 hx with rfl|hx
  ·cases h
  ·exact S.nC (wy _ hx) h
 ·have:=yH.1 S.pw;refine yH.2 ⟨?_,this.2⟩;intro y hy h;refine this.1 y hy ?_;rcases h with h|h
  ·cases h
  ·exact .inr h
end Sx
namespace Go.Proofs.YtggfpcggakghnaaGreatDoor
open Go Go.RowKit Go.BigFrame Sx Vx
variable{fr:Sd.aF->Nat×Sd.aw}
def eM (s:Sd.aa):Sd.aa:=⟨s.c,[],[]⟩
def AD (l:List Sd.Rec) (j:Nat):List ab:=[.int .i64 (l.getD j default).kind,.int .i64 (l.getD j default).source,.int .i64 (l.getD j default).seq,.int .i64 (l.getD j default).af,.int .i64 (l.getD j default).code,.int .i64 (l.getD j default).how]
theorem aaC:∀(l:List Sd.Rec),(bh l.length).flatMap (AD l)=tN l
 |[]=>rfl
 |r::l=>by
  rw[ly,uu,List.flatMap_cons,List.flatMap_map];have e:(λj=>AD (r::l) (Nat.succ j))=AD l:=by funext j;rfl
  rw[e,aaC l];rfl
def AE (ty:aD) (z n:Nat) (g:Nat->List ab) (us:List ab):VB:=⟨false,ty,[.eU z n g,.rest us]⟩
theorem aaD (ids:List Nat) (ty z n:Nat) (g:Nat->List ab) (us:List ab):ah ids (AE ty z n g us).c=(bh n).flatMap g++us:=by
 simp only[AE,ah,cl,cI]
structure t_ where
 x:Option aI
 n:Nat
 c:Nat
def nn (l:List (Int×Sd.aF)) (fv:Nat->t_) (j:Nat):List ab:=[.int .i64 (l.getD j default).1,.slice (fv j).x (fv j).n (fv j).c]
def nQ (fr:Sd.aF->Nat×Sd.aw) (l:List (Int×Sd.aF)) (fv:Nat->t_) (fn:List ai):Prop:=∀j,j<l.length->∃x c b,fv j=⟨x,(fr (l.getD j default).2).1,c⟩/\eA 5 (fr (l.getD j default).2).1 (fr (l.getD j default).2).2 x c b/\∀y∈b,y∈fn
theorem aoR {l:List (Int×Sd.aF)} {so:List ab} {B:List ai} (h:Ad fr l so B):∃fv,so=(bh l.length).flatMap (nn l fv)/\nQ fr l fv B:=by
 induction h with
 |nil=>exact⟨λ_=>⟨none,0,0⟩,rfl,λj hj=>absurd hj (by simp)⟩
 |@snoc l olds bl h k r x c b hb ih=>
  obtain⟨fv,e,hf⟩:=ih;refine⟨λj=>if j=l.length then⟨x,(fr r).1,c⟩else fv j,?_,?_⟩
  ·rw[fi,Uv,Ba,DM,e];congr 1
   ·simp only[List.flatMap_def];congr 1;apply pH;intro j hj;have hj:=List.mem_range.1 hj;unfold nn;dsimp only;rw[if_neg (show¬j=l.length by omega),n7,n7,gI hj]
   ·simp[nn,ij]
  ·intro j hj;by_cases h1:j=l.length
   ·subst h1;have e2:(l++[(k,r)]).getD l.length default=(k,r):=by simp[ij]
    rw[e2];exact⟨x,c,b,by simp,hb,λy hy=>by simp[hy]⟩
   ·have wK:j<l.length:=by simp at hj;omega
    obtain⟨x',c',b',h2,h3,h4⟩:=hf j wK;have e2:(l++[(k,r)]).getD j default=l.getD j default:=by rw[n7,n7,gI wK]
    rw[e2];exact⟨x',c',b',by simp only[if_neg h1];exact h2,h3,λy hy=>by simp[h4 y hy]⟩
def aaE (s:Sd.aa) (vs vr:V):V:=.agg [.int .i64 s.c.mode,.int .i64 s.c.pt.cls,.int .i64 s.c.pt.now.a,.int .i64 s.c.pt.now.b,.int .i64 s.c.pt.now.c,.int .i64 s.c.pt.now.d,.int .i64 s.c.fm.lY,.int .i64 s.c.fm.source,.int .i64 s.c.fm.seq,
 .int .i64 s.c.pt.bG.lY,.int .i64 s.c.pt.bG.source,.int .i64 s.c.pt.bG.seq,vs,vr,.bH .u8 32 s.c.head]
structure TR where
 xs:Option aI
 cs:Nat
 ts:Nat
 us:List ab
 fv:Nat->t_
 xr:Option aI
 cr:Nat
 tr:Nat
 ur:List ab
def TR.sB (r:TR) (s:Sd.aa):VB:=AE r.ts 2 s.bz.length (nn s.bz r.fv) r.us
def TR.rB (r:TR) (s:Sd.aa):VB:=AE r.tr 6 s.br.length (AD s.br) r.ur
def TR.v (r:TR) (s:Sd.aa) (i:Nat):V:=aaE s (.fS i 0 s.bz.length r.cs r.xs) (.fS (i+1) 0 s.br.length r.cr r.xr)
def Lb (k:LK) (sv:Sd.aa) (K:GV fr k):Prop:=∀(s':Sd.aa),s'=sv->∀(r:TR) (fn:List ai) (F0:a9 fr (aY k (eM s'))),cV=F0.vs->cV=F0.vr->nQ fr s'.bz r.fv fn->K (r.v s' 0) (eM s') F0 fn [r.sB s',r.rB s']
theorem aoS {k:LK} {s':Sd.aa} (F':a9 fr (aY k s')):∃F0:a9 fr (aY k (eM s')),cV=F0.vs/\cV=F0.vr/\F0.B=F'.Bq++F'.Bk:=
 ⟨⟨none,0,none,0,F'.Bq,[],[],[],F'.Bk,[],F'.hq,wN 6 75,wN 2 85,.nil,F'.hk⟩,rfl,rfl,rfl⟩
theorem aaF {ms:List Nat} {w0 w:ae} {z T n c:Nat} {olds:List ab} {x:Option aI} {B R:List ai} {k:LK} {g:Nat->List ab} (h:eI z T olds x n c B) (S:St ms w0 (B++R) w) (kr:(⟨1,false,.cells (ah [] (bU k).c).toArray k.tg (0,0)⟩:ai)∈R) (hg:olds=(bh n).flatMap g):
 ∃(i ty:Nat) (us:List ab),DP x n c=.slice (bif ax n 0 then x else some ⟨i,0,none⟩) n c/\St ms w0 (⟨i,false,.cells ((bh n).flatMap g++us).toArray ty (0,0)⟩::R) w:=by
 rcases h.2.2 with⟨rfl,rfl,rfl,rfl⟩|⟨b,tail,rfl,rfl,_⟩
 ·exact⟨1,k.tg,ah [] (bU k).c,rfl,by simpa using S.dup kr rfl⟩
 ·refine⟨b,T,tail,?_,?_⟩
  ·cases ax n 0<;>rfl
  ·rw[<-hg];exact S.kp
theorem aoT {f n:Nat} {M:ae->LM fr} {L:List (bK (Gh fr))} (hL:aG prog gS L)
 (h:∀(u:ae) (ar:List V) (k:LK) (s:Sd.aa) (F:a9 fr (aY k s)) (Kb:GV fr k),ba 0 ar=true->s.c.p.queue=k.most->M u ar k s F Kb->bu (bQ prog gS L) n f (.ptr 2 0::ar) (dc k s) [bb k s F] (GL k s λs' F'=>Lb k s' Kb)):GW f M:=by
 intro u ar k s F Kb a b R0 ms w0 w h0 hq hM S;generalize hR:dv u++R0=R at S⊢;have hg:Gl gS (cK a b):=by
  intro g i dp;unfold gS at dp;split at dp
  ·obtain rfl:=ck dp;exact⟨by simp,rfl⟩
  ·obtain rfl:=ck dp;exact⟨by simp,rfl⟩
  ·cases dp
 refine(eD hL.T hL.Q n (C:=bQ prog gS L) (ids:=cK a b) (bl:=dc k s) (ch:=[bb k s F]) (R:=R) (ms:=ms) (w0:=w0) (w:=w) hg rfl (by
  have e:av [bb k s F] R=F.B++R:=rfl;rw[e];exact S) (h u ar k s F Kb h0 hq hM)).mono ?_
 rintro v w' ⟨x,more,bl',ch',rfl,h1,S',s',F',rfl,hb,rfl,hT⟩;have hl4:(dc k s').length=4:=rfl;have ni:bl'=dc k s'++bl'.drop 4:=by rw[<-hb,iZ]
 rw[ni]at S';have e2:lits (cK a b++more) (cK a b++more) (dc k s'++bl'.drop 4)=lits (cK a b) (cK a b) (dc k s')++lits (cK a b++more) more (bl'.drop 4):=by
  rw[eZ _ _ _ _ (by rw[hl4];rfl)];rw[e_ (ids:=cK a b) (more:=more) (cK a b) (dc k s') rfl]
 rw[e2]at S';obtain⟨F0,v1,v2,hB⟩:=aoS F';have e3:av [bb k s' F'] R=F'.Br++(F'.Bs++(F'.Bf++(F'.Bq++F'.Bk)))++R:=rfl;rw[e3]at S';have fw:dc k (eM s')=dc k s':=rfl;have S1:St ms w0 (F'.Br++(F'.Bs++(lits (cK a b) (cK a b) (dc k (eM s'))++(F0.B++(F'.Bf++R))))) w':=by
  rw[fw,hB];have S2:St ms w0 (lits (cK a b) (cK a b) (dc k s')++(F'.Br++(F'.Bs++(F'.Bf++(F'.Bq++F'.Bk)))++R)) w':=by
   refine S'.sub ?_;simp only[bN];exact yE (n8 _ _) _
  exact S2.perm (hJ λf=>by simp only[ik];omega)
 have kr:(⟨1,false,.cells (ah [] (bU k).c).toArray k.tg (0,0)⟩:ai)∈lits (cK a b) (cK a b) (dc k (eM s')):=by
  have:ay (cK a b) 1 (bU k)=ay [] 1 (bU k):=mn (Gb k);show _∈ay (cK a b) 1 (bU k)::_;rw[this];exact Bb
 obtain⟨fv,hso,Lc⟩:=aoR F'.hf;have S2:=S1.perm (bs':=F'.Bs++(F'.Br++(lits (cK a b) (cK a b) (dc k (eM s'))++(F0.B++(F'.Bf++R))))) (hJ λf=>by simp only[ik];omega);obtain⟨i1,t1,u1,q1,S3⟩:=aaF (k:=k) F'.hs S2 (by simp[kr]) hso;have S3':St ms w0 (⟨i1,false,.cells ((bh s'.bz.length).flatMap (nn s'.bz fv)++u1).toArray t1 (0,0)⟩::(F'.Br++(lits (cK a b) (cK a b) (dc k (eM s'))++(F0.B++(F'.Bf++R))))) w':=S3;have S4:=S3'.perm (bs':=F'.Br++(⟨i1,false,.cells ((bh s'.bz.length).flatMap (nn s'.bz fv)++u1).toArray t1 (0,0)⟩::(lits (cK a b) (cK a b) (dc k (eM s'))++(F0.B++(F'.Bf++R))))) (hJ λf=>by simp only[ik,yL];omega);obtain⟨i2,t2,u2,q2,S5⟩:=aaF (k:=k) F'.hr S4 (by simp[kr]) (aaC s'.br).symm
 let r:TR:=⟨F'.xs,F'.cs,t1,u1,fv,F'.xr,F'.cr,t2,u2⟩
 refine⟨_,_,F0,F'.Bf,_,[i1,i2],rfl,?_,rfl,hT _ rfl r F'.Bf F0 v1 v2 Lc,?_⟩
 ·simp only[TR.v,aaE,GK,a9.vs,a9.vr,den,ah,cl];have e1:DP F'.xs (aY k s').bz.length F'.cs=_:=q1;have e2:DP F'.xr (aY k s').br.length F'.cr=_:=q2;rw[e1,e2];rfl
 ·have e1:lits [i1,i2] [i1,i2] [r.sB s',r.rB s']=[⟨i1,false,.cells ((bh s'.bz.length).flatMap (nn s'.bz fv)++u1).toArray t1 (0,0)⟩,⟨i2,false,.cells ((bh s'.br.length).flatMap (AD s'.br)++u2).toArray t2 (0,0)⟩]:=by
   simp only[lits,ay,TR.rB,TR.sB,aaD,r];rfl
  rw[e1];have S6:St ms w0 (⟨i2,false,.cells ((bh s'.br.length).flatMap (AD s'.br)++u2).toArray t2 (0,0)⟩::(⟨i1,false,.cells ((bh s'.bz.length).flatMap (nn s'.bz fv)++u1).toArray t1 (0,0)⟩::(lits (cK a b) (cK a b) (dc k (eM s'))++(F0.B++(F'.Bf++R))))) w':=S5;refine S6.perm ?_;exact hJ λf=>by simp only[ik,yL,DQ];omega
structure ew (k:LK) (s:Sd.aa):Prop where
 i:Sd.Inv s.c
 x:Sd.Ext s.c
 key:∀i,i<4->1<=k.kn i/\k.kn i<=64
 ke:∀i,i<4->s.c.p.k i=(k.kn i,k.kf i)
 e1:s.bz=[]
 e2:s.br=[]
theorem ew.rm {k:LK} {s:Sd.aa} (h:ew k s) (n:Nat) (hn:n<=1000):Rm s n:=⟨by rw[h.e1];simpa using hn,by rw[h.e2];simpa using hn⟩
theorem ew.tb {k:LK} {s:Sd.aa} (h:ew k s):TB s.c.t:=⟨h.i.tok.aE,h.i.km⟩
theorem ew.tk {k:LK} {s:Sd.aa} (h:ew k s):TkP s where
 c:=⟨h.i.p,h.tb,h.x.t.oa.1,h.x.t.oa.2,h.x.t.la.1,h.x.t.la.2,by rcases h.i.tok.offer with e|e<;>omega,
  λa ha=>by
   obtain⟨_,h1,h2,_,_,h3,h4,h5⟩:=h.i.q.each a ha;have:=h.i.p.ask;exact⟨⟨by omega,by omega⟩,⟨by omega,by omega⟩,⟨by omega,by omega⟩⟩,
  ⟨h.x.pt.aV.1,h.x.pt.aV.2.1,h.x.pt.aV.2.2.1,h.x.pt.aV.2.2.2,h.x.pt.now.1,h.x.pt.now.2.1,h.x.pt.now.2.2.1,h.x.pt.now.2.2.2⟩⟩
 r:=h.rm 28 (by decide)
 h:=h.x.ag.hi
 b:=⟨h.x.ag.st,h.x.ag.ss 0,h.x.ag.ss 1,h.x.ag.ss 2⟩
def gU (C:Sd.aN) (s:Sd.aa) (l code:Int) (n:Nat) (f:Sd.aw):Sd.aa:=if 1<=l/\l<=3 then s.item C l code n f else s
def aaG (C:Sd.aN):LM fr:=λar k s F K=>match ar with
 |[.int .i64 l,.agg [.int .i64 code,.raw vp]]=>(ew k s/\cV=F.vs/\cV=F.vr/\vp=dZ k/\k.pn<=58/\By k.pf)/\Lb k (gU C s l code k.pn k.pf) K
 |_=>False
theorem aoU {k:LK} {s:Sd.aa} {F:a9 fr (aY k s)} (hq:s.c.p.queue=k.most) (h1:cV=F.vs) (h2:cV=F.vr):aah k s F:=⟨h1,h2,rfl,rfl,rfl,rfl,rfl,hq⟩
section
variable(k:LK) (s:Sd.aa) (F:a9 fr (aY k s)) (Kb:(s':Sd.aa)->a9 fr (aY k s')->Prop)
end
end Go.Proofs.YtggfpcggakghnaaGreatDoor
namespace Go.Proofs.YtggfpcggakghnaaGreatDoor
section
open Go Go.RowKit Go.BigFrame Sx Vx
variable{fr:Sd.aF->Nat×Sd.aw}
section
variable(ht:Body (fr:=fr) 147 dR)
include ht
theorem aoV:GW (fr:=fr) 24 (λ_=>aaG (aO aP)):=by
 refine aoT (n:=60) (an_ ht) ?_;intro u ar k s F Kb h0 hq hM;unfold aaG at hM;split at hM
 ·rename_i l code vp;have hC:=hM.1.1;have v1:=hM.1.2.1;have v2:=hM.1.2.2.1;have p1:=hM.1.2.2.2.2.1;have p2:=hM.1.2.2.2.2.2;have hT:=hM.2;rw[hM.1.2.2.2.1,aoa];unfold aai;have qj:¬(1<=l/\l<=3)->GL k s (λs' F'=>Lb k s' Kb) (.agg (GK s cV cV)) (dc k s) [bb k s F]:=λh=>⟨s,F,by rw[<-v1,<-v2],rfl,rfl,by unfold gU at hT;rw[if_neg h]at hT;exact hT⟩;refine aH (λe1=>aH (λe2=>?_) (λe2=>qj (by simp at e1 e2;omega))) (λe1=>qj (by simp at e1;omega));have hl:1<=l/\l<=3:=by simp at e1 e2;omega
  unfold gU at hT;rw[if_pos hl]at hT;have hd:∀i,i<3->(s.c.doors i).many<=9223372036854775807:=λi _=>by have:=hC.x.d i;omega
  exact⟨aoU hq v1 v2,oZ (M:=GI (aO aP)) ⟨⟨rfl,⟨hC.rm 8 (by decide),hC.i,hl,hd,hC.key,hC.ke,p1,p2⟩⟩,λF'=>⟨_,F',rfl,rfl,rfl,hT⟩⟩⟩
 ·exact hM.elim
end
def ua (l:List Sd.Ask) (j:Nat):List ab:=[.int .i64 (l.getD j default).source]
theorem aaH:∀(l:List Sd.Ask) (ids:List Nat),(bh l.length).flatMap (ua l)=ah ids (sf l)
 |[],_=>rfl
 |r::l,ids=>by
  rw[ly,uu,List.flatMap_cons,List.flatMap_map];have e:(λj=>ua (r::l) (Nat.succ j))=ua l:=by funext j;rfl
  rw[e,aaH l ids];rfl
def aoW (k:LK) (s:Sd.aa) (F:a9 fr (aY k s)) (K:GV fr k):Prop:=
 ∀(x:Option aI) (c ty:Nat) (us:List ab),K (.agg (tX s (.fS 0 0 s.c.q.length c x))) s F [] [AE ty 1 s.c.q.length (ua s.c.q) us]
def Ld:LM fr:=λar k s F K=>match ar with
 |[]=>aoW k s F K
 |_=>False
theorem aoX (l:List Sd.Ask) (u:List ab):bI 0 [Ax l u]=true:=by
 have:∀l:List Sd.Ask,ba 0 (sf l++[.rest u])=true:=by
  intro l;induction l with
  |nil=>rfl
  |cons a l ih=>simp only[sf,fb,ba,cz,ih,Bool.and_self]
 simp only[bI,Ax,this,Bool.and_self]
theorem v8 {Q:Prop} (hq:Q):∀(n j:Nat),n+j<=5->KZ n j Q
 |0,_,_=>hq
 |n+1,j,h=>⟨trivial,⟨by omega,by omega⟩,trivial,trivial,v8 hq n (j+1) (by omega)⟩
theorem aaI (ht:Body (fr:=fr) 147 dR):GW (fr:=fr) 14 (λ_=>Ld (fr:=fr)):=by
 intro u0 ar k s F Kb a b R0 ms w0 w h0 hq hM S;generalize hR:dv u0++R0=R at S⊢;unfold Ld at hM;split at hM
 ·have hg:Gl gS (cK a b):=by
   intro g i dp;unfold gS at dp;split at dp
   ·obtain rfl:=ck dp;exact⟨by simp,rfl⟩
   ·obtain rfl:=ck dp;exact⟨by simp,rfl⟩
   ·cases dp
  let K:VK (Gh fr):=λv bl ch=>ch=[bb k s F]/\((s.c.q=[]/\v=.agg (tX s (.raw cV))/\bl=dc k s)\/(s.c.q≠[]/\∃c u,v=.agg (tX s (.sl 4 0 s.c.q.length c))/\bl=dc k s++[Ax s.c.q u]))
  have k0:s.c.q=[]->K (.agg (tX s (.raw cV))) (dc k s) [bb k s F]:=λe=>⟨rfl,.inl ⟨e,rfl,rfl⟩⟩;have k1:s.c.q≠[]->∀c u,K (.agg (tX s (.sl 4 0 s.c.q.length c))) (dc k s++[Ax s.c.q u]) [bb k s F]:=λe c u=>⟨rfl,.inr ⟨e,c,u,rfl,rfl⟩⟩;have cJ:bu (fE prog gS (L8 fr (aO aP)) (EU prog) Ja) 60 14 [.ptr 2 0] (dc k s) [bb k s F] (bm 4 K):=by
   rw[aod];refine⟨rfl,λe x c=>v8 (k0 e) 5 0 (by decide),λa1 e c t c1 u1 _ _=>?_,λa1 b1 e c t c1 u1 h1 h2=>?_,λa1 b1 d1 e c t c1 u1 h1 h2=>?_⟩
   ·have:=k1 (by rw[e];simp) c1 u1;rw[e]at this;exact v8 this 5 0 (by decide)
   ·have hk:=k1 (by rw[e];simp);rw[e]at hk;exact⟨⟨h1,h2⟩,λc2 u2 _ _=>v8 (hk c2 u2) 5 0 (by decide),λc2 u2 _ _=>v8 (hk c2 u2) 5 0 (by decide)⟩
   ·have hk:=k1 (by rw[e];simp);rw[e]at hk;exact⟨⟨h1,h2⟩,λc2 u2 g1 g2=>⟨⟨g1,g2⟩,λc3 u3 _ _=>v8 (hk c3 u3) 5 0 (by decide),λc3 u3 _ _=>v8 (hk c3 u3) 5 0 (by decide)⟩,λc2 u2 g1 g2=>⟨⟨g1,g2⟩,λc3 u3 _ _=>v8 (hk c3 u3) 5 0 (by decide),λc3 u3 _ _=>v8 (hk c3 u3) 5 0 (by decide)⟩⟩
  refine(eD (Gt aP ht).T (Gt aP ht).Q 60 (C:=fE prog gS (L8 fr (aO aP)) (EU prog) Ja) (ids:=cK a b) (bl:=dc k s) (ch:=[bb k s F]) (R:=R) (ms:=ms) (w0:=w0) (w:=w) hg rfl (by
   have e:av [bb k s F] R=F.B++R:=rfl;rw[e];exact S) cJ).mono ?_
  rintro v w' ⟨x,more,bl',ch',rfl,h1,S',hK⟩;obtain⟨v2,cD,bl2,hv,dw,S2,rfl,oO⟩:=h_ (n0:=4) h1 (by simp) S' hK;have ht4:(cK a b++more).take 4=cK a b:=rfl;rw[ht4]at hv dw S2;have eR:av [bb k s F] R=F.B++R:=rfl;rw[eR]at S2;rw[hv];have ju:∀(i ty:Nat) (us:List ab),lits [i] [i] [AE ty 1 s.c.q.length (ua s.c.q) us]=[⟨i,false,.cells ((bh s.c.q.length).flatMap (ua s.c.q)++us).toArray ty (0,0)⟩]:=λi ty us=>by
   simp only[lits,ay,aaD];rfl
  rcases oO with⟨e,rfl,rfl⟩|⟨e,c,u,rfl,rfl⟩
  ·obtain rfl:cD=[]:=mE (by simpa[dc]using dw);refine⟨_,s,F,[],_,[1],rfl,?_,rfl,hM none 0 k.tg (ah [] (bU k).c),?_⟩
   ·simp only[tX,mZ,xL,den,ah,cl,cI,fb,fc,e];rfl
   ·simp only[cI]at S2;have S3:=S2.dup (b:=ay [0] 1 (bU k)) (by
     refine mH _ ?_;rw[mn (ids':=cK a b) (Gb k)];exact Bb) rfl
    rw[ju];have e2:(⟨1,false,.cells ((bh s.c.q.length).flatMap (ua s.c.q)++ah [] (bU k).c).toArray k.tg (0,0)⟩:ai)=ay [0] 1 (bU k):=by
     rw[e,mn (ids':=[]) (Gb k)];rfl
    rw[e2];exact S3.perm jH.symm
  ·match cD,dw with
   |[x],_=>
    refine⟨_,s,F,[],_,[x],rfl,?_,rfl,hM none c 3 u,?_⟩
    ·have hn:ax s.c.q.length 0=false:=by
      cases hb:ax s.c.q.length 0 with
      |false=>rfl
      |true=>exact absurd (mE (b9 hb)) e
     have hg4:(cK a b++[x]).getD 4 0=x:=rfl;have Le:([x]:List Nat).getD 0 0=x:=rfl;simp only[tX,mZ,xL,den,ah,cl,cI,fb,fc,hn,cond_false,hg4,Le];rfl
    ·have e2:lits (cK a b++[x]) (cK a b++[x]) (dc k s++[Ax s.c.q u])=lits (cK a b) (cK a b) (dc k s)++[⟨x,true,.cells ((bh s.c.q.length).flatMap (ua s.c.q)++u).toArray 3 (0,0)⟩]:=by
      rw[eZ _ _ _ _ rfl,e_ (ids:=cK a b) (more:=[x]) (cK a b) (dc k s) rfl,AB (ids':=[x]) [x] _ (aoX _ _)];simp only[lits,ay,Ax,iq,ah,cl,cI,aaH s.c.q [x]]
     rw[e2]at S2;have S3:=(S2.perm (bs':=⟨x,true,.cells ((bh s.c.q.length).flatMap (ua s.c.q)++u).toArray 3 (0,0)⟩::(lits (cK a b) (cK a b) (dc k s)++(F.B++R))) (hJ λf=>by simp only[ik,yL,DQ];omega)).kp;rw[ju];exact S3.perm (hJ λf=>by simp only[ik,yL,DQ];omega)
   |[],h=>simp[dc]at h
   |_::_::_,h=>simp[dc]at h
 ·exact hM.elim
theorem aoY (d:Fd) (h:(∃i,i<4/\d=fX i)\/∀v m,(d.set v m).x=m.x):∀v,d.low<=v->v<=d.high->∀m:Sd.bo,Sd.nN m.x->Sd.nN (d.set v m).x:=by
 intro v h1 h2 m hm;rcases h with⟨i,hi,rfl⟩|h
 ·have hv:Sd.Bd v:=⟨by have:(-32768:Int)<=v:=h1;omega,by have:v<=(32767:Int):=h2;omega⟩;have:i=0\/i=1\/i=2\/i=3:=by omega
  rcases this with rfl|rfl|rfl|rfl
  ·exact⟨hv,hm.2.1,hm.2.2.1,hm.2.2.2⟩
  ·exact⟨hm.1,hv,hm.2.2.1,hm.2.2.2⟩
  ·exact⟨hm.1,hm.2.1,hv,hm.2.2.2⟩
  ·exact⟨hm.1,hm.2.1,hm.2.2.1,hv⟩
 ·rw[h];exact hm
theorem aoZ {n:Nat} {f:Nat->Int} {m:Sd.bo} (h:aP n f=some m):Sd.nN m.x:=by
 unfold aP at h;split at h
 ·cases h
 split at h
 ·rename_i l hl;refine KM (λm=>Sd.nN m.x) l 1 _ m ?_ Sd.GP h;intro d hd;refine aoY d ?_;have fx:∀i,i<4->(∃j,j<4/\fX i=fX j)\/∀v m,((fX i).set v m).x=m.x:=λi hi=>.inl ⟨i,hi,rfl⟩;have b0:=fx 0 (by decide);have b1:=fx 1 (by decide);have b2:=fx 2 (by decide);have b3:=fx 3 (by decide)
  have fo:∀d:Fd,(∀v m,(d.set v m).x=m.x)->(∃i,i<4/\d=fX i)\/∀v m,(d.set v m).x=m.x:=λd h=>.inr h;have a1:=fo tL λ_ _=>rfl;have a2:=fo iB λ_ _=>rfl;have a3:=fo CH λ_ _=>rfl;have a4:=fo oU λ_ _=>rfl;have a5:=fo CI λ_ _=>rfl;have a6:=fo tM λ_ _=>rfl;have a7:=fo CJ λ_ _=>rfl
  unfold pd at hl
  repeat' split at hl
  all_goals first|(cases hl;done)|(obtain rfl:=ck hl;simp at hd;rcases hd with rfl|rfl|rfl|rfl|rfl|rfl|rfl<;>assumption)|(obtain rfl:=ck hl;simp at hd;rcases hd with rfl|rfl|rfl|rfl|rfl|rfl<;>assumption)|(obtain rfl:=ck hl;simp at hd;rcases hd with rfl|rfl|rfl|rfl|rfl<;>assumption)|(obtain rfl:=ck hl;simp at hd;rcases hd with rfl|rfl|rfl|rfl<;>assumption)|(obtain rfl:=ck hl;simp at hd;rcases hd with rfl|rfl|rfl<;>assumption)|(obtain rfl:=ck hl;simp at hd;rcases hd with rfl|rfl<;>assumption)|(obtain rfl:=ck hl;simp at hd;subst hd;assumption)|(obtain rfl:=ck hl;simp at hd)
 ·cases h
section
variable{k:LK} {s:Sd.aa} {b:Prop}
theorem aaJ {C:Sd.aN} {s':Sd.aa} {kind l:Int} (e:Sd.eL C b s s' kind l):s'.c.p=s.c.p:=by
 rcases e.z6 with h|⟨how,h,_⟩
 ·exact h.p
 ·exact h.p
theorem ew.of {C:Sd.aN} {s':Sd.aa} {kind l:Int} (h:ew k s) (e:Sd.eL C b s s' kind l) (x:Sd.Ext s'.c):ew k (eM s'):=⟨e.1,x,h.key,λi hi=>by show s'.c.p.k i=_;rw[aaJ e];exact h.ke i hi,rfl,rfl⟩
theorem ew.tick (h:ew k s):ew k (eM (s.tick (aO aP))):=h.of (b:=False) (Sd.aow h.i).1 (Sd.aoP h.i h.x)
theorem ew.wQ (h:ew k s) (x:Bool):ew k (eM (s.wQ (aO aP) x)):=h.of (b:=False) (Sd.aoi h.i) (Sd.aoK h.x)
theorem ew.kY (h:ew k s) {x:Sd.mO} (hx:Sd.nN x.x):ew k (eM (s.kY (aO aP) x)):=h.of (b:=False) (Sd.aog h.i) (Sd.aoI hx h.i.p h.x)
theorem ew.item (h:ew k s) (l code:Int) (n:Nat) (f:Sd.aw):ew k (eM (gU (aO aP) s l code n f)):=by
 unfold gU;split
 ·rename_i hl;exact h.of (b:=False) (Sd.YM C3 h.i hl (λe=>e.elim)) (Sd.aoH (λ_ _ _ hm=>aoZ hm) hl h.i.p h.x)
 ·exact⟨h.i,h.x,h.key,h.ke,rfl,rfl⟩
end
def da (u:ae) (a:Option aI):Sd.aw:=λj=>match a with
 |some x=>(match u.cell? (x.add j)with|some (.int _ v)=>if 0<=v/\v<=255 then v else 0|_=>0)
 |none=>0
theorem ao0 {u:ae} {a:Option aI} {n c:Nat} {f:Nat->Int} (h:im u a n c f) (hb:∀j,j<n->0<=f j/\f j<=255):im u a n c (da u a):=by
 refine⟨h.1,h.2.1,λx e j hj=>?_⟩;have hc:=h.2.2 x e j hj;have:da u a j=f j:=by
  unfold da;rw[e];simp only[hc];rw[if_pos (hb j hj)]
 rw[this];exact hc
def lq:Sd.aw:=λ_=>0
def eg (n d:Nat) (f:Sd.aw):VB:=⟨true,⟨5,(0,0)⟩,[.bH .u8 n f,.bH .u8 d lq]⟩
theorem yg (ids:List Nat) (n d:Nat) (f:Sd.aw):(ah ids (eg n d f).c).toArray=bw n f (n+d):=by
 have e:(bh d).map (λj=>dT .u8 (lq j))=kO d (.int .u8 0):=by
  show(bh d).map (λ_=>dT .u8 0)=_;rw[List.map_const'];simp
 simp only[eg,ah,cl,bw,bP,cI,e];rw[show n+d-n=d by omega]
theorem ao1 {u w:ae} {B:List ai} {ms:List Nat} {w0:ae} (S:St ms w0 B w) (h:∀y∈dv u,y∈B) {x:aI} {v:ab} (hc:u.cell? x=some v):w.cell? x=some v:=by
 unfold wx at hc⊢;split at hc
 ·rename_i cs ty fr' hb;have:=S.at' (h _ (Jn hb));simp only at this;rw[this];exact hc
 ·cases hc
theorem SL {u w:ae} {B:List ai} {ms:List Nat} {w0:ae} (S:St ms w0 B w) (h:∀y∈dv u,y∈B) {a:Option aI} {n c:Nat} {f:Nat->Int} (hk:im u a n c f):im w a n c f:=
 ⟨hk.1,hk.2.1,λx e j hj=>ao1 S h (hk.2.2 x e j hj)⟩
theorem Lf {w:ae} {m:Nat} {g:Nat->Int} {x:Option aI} {t tx ty:aD} {xv:ab} (hs:Src prog 1 tx xv m (bP m g) w) (ht:prog.underlying t=some (.slice 5)) (hm:0<m) (hb:m<=140737488355328) (x:aI):
 ∃c' w',(mD #[t,tx] ty #[.slice (some x) 0 0,xv]).run prog w=.ok (.slice (some ⟨w.heap.size,0,none⟩) m c') w'/\Ch [] w w'/\m<=c'/\w'.heap[w.heap.size]?=some (.cells (bw m g c') 5 (0,0)):=by
 have hi:(prog.info? 5).map (λi=>(i.zero.map (·.cells),i.size,i.bytes))=some (some #[.int .u8 0],1,1):=by kernel_rfl
 obtain⟨i,bS,hi⟩:=gH.1 hi;simp only[bd]at hi;obtain⟨hz,di,gW⟩:=hi;obtain⟨z0,kV,mL⟩:=gH.1 hz;have iQ:Src prog i.size tx xv m (bP m g) w:=by rw[di];exact hs
 have hold:(Builtin.firstCells i.size 0 (.slice (some x) 0 0)).run prog w.drew=.ok (([]:List ab).toArray) w.drew:=
  run_firstCells_some (P:=prog) w.drew i.size 0 x 0 0 [] (by rw[Nat.zero_mul];rfl) (λj v hj=>nomatch hj)
 have bE:=run_append_grow_src (P:=prog) w t tx ty 5 i z0 ht bS kV (some x) 0 0 [] hold xv m (bP m g) iQ (by omega) (by omega) (by rw[gW];exact growslice_fits (by omega) (by omega));have eo:=grownCap_ge w (0+m) 0 5;rw[eh]at bE eo;refine⟨_,_,bE,((Ch.refl [] w).drew).trans (Ch.alloc [] w.drew _) (λx hx=>.inl hx),eo,?_⟩;have:=mC w.drew (.cells (([]++bP m g).toArray++nz z0.cells (grownCap w m 0 5-m)) 5);refine Eq.trans this ?_;congr 2;apply eO;rw[mL,Array.toList_append,Iq];rfl
theorem aaK {w:ae} {g:Nat->Int} {t tx ty:aD} {xv:ab} (hs:Src prog 1 tx xv 0 (bP 0 g) w) (ht:prog.underlying t=some (.slice 5)) (x:aI):
 (mD #[t,tx] ty #[.slice (some x) 0 0,xv]).run prog w=.ok (.slice (some x) 0 0) w:=by
 have hi:(prog.info? 5).map (λi=>(i.zero.map (·.cells),i.size,i.bytes))=some (some #[.int .u8 0],1,1):=by kernel_rfl
 obtain⟨i,bS,hi⟩:=gH.1 hi;simp only[bd]at hi;obtain⟨hz,di,gW⟩:=hi;exact run_append_nothing (P:=prog) w t tx ty 5 i ht bS (some x) 0 0 (dE _) xv (by rw[di];exact hs)
def Dc (k:LK) (x:Option aI) (n c:Nat) (f:Sd.aw):LK:={k with px:=x,pn:=n,pc:=c,pf:=f}
def si (k:LK):Prop:=k.px=none/\k.pn=0/\k.pc=0
theorem ao2 {k:LK} {s:Sd.aa} (F:a9 fr (aY k s)) (h:si k) {b n c:Nat} {f:Sd.aw} (hle:n<=c):∃F1:a9 fr (aY (Dc k (some ⟨b,0,none⟩) n c f) s),F1.vs=F.vs/\F1.vr=F.vr/\F1.B=F.B++[⟨b,true,.cells (bw n f c) 5 (0,0)⟩]:=by
 refine⟨⟨F.xs,F.cs,F.xr,F.cr,F.Bq,F.Br,F.Bs,F.Bf,F.Bk++[⟨b,true,.cells (bw n f c) 5 (0,0)⟩],F.so,F.hq,F.hr,F.hs,F.hf,?_⟩,rfl,rfl,?_⟩
 ·obtain⟨b0,b1,b2,b3,b4,hB,h0,h1,h2,h3,h4⟩:=F.hk;have e4:b4=[]:=by
   rcases h4.2 with⟨_,_,_,e⟩|⟨y,e,_⟩
   ·exact e
   ·have:k.px=some ⟨y,0,none⟩:=e;rw[h.1]at this;cases this
  subst e4;exact⟨b0,b1,b2,b3,[⟨b,true,.cells (bw n f c) 5 (0,0)⟩],by rw[hB];simp,h0,h1,h2,h3,hle,.inr ⟨b,rfl,rfl⟩⟩
 ·simp only[a9.B,bN]
theorem ao3 {k:LK} {s:Sd.aa} (h:si k) {b n c:Nat} {f:Sd.aw} (F1:a9 fr (aY (Dc k (some ⟨b,0,none⟩) n c f) s)):∃F:a9 fr (aY k s),F.vs=F1.vs/\F.vr=F1.vr/\F1.B=F.B++[⟨b,true,.cells (bw n f c) 5 (0,0)⟩]:=by
 obtain⟨b0,b1,b2,b3,b4,hB,h0,h1,h2,h3,h4⟩:=F1.hk;have e4:b4=[⟨b,true,.cells (bw n f c) 5 (0,0)⟩]:=by
  rcases h4.2 with⟨e,_,_,_⟩|⟨y,e,e2⟩
  ·cases e
  ·have:(some ⟨b,0,none⟩:Option aI)=some ⟨y,0,none⟩:=e;obtain rfl:b=y:=by simpa using this
   exact e2
 subst e4;refine⟨⟨F1.xs,F1.cs,F1.xr,F1.cr,F1.Bq,F1.Br,F1.Bs,F1.Bf,b0++(b1++(b2++(b3++[]))),F1.so,F1.hq,F1.hr,F1.hs,F1.hf,⟨b0,b1,b2,b3,[],rfl,h0,h1,h2,h3,by show k.pn<=k.pc;rw[h.2.1,h.2.2];exact dE _,.inl ⟨h.1,h.2.1,h.2.2,rfl⟩⟩⟩,rfl,rfl,?_⟩;simp only[a9.B,hB,bN,cI]
def Lg (C:Sd.aN):cP (LG fr):=λargs bl ch K=>match args,ch with
 |[.ptr ic 0,.int .i64 l,.agg [.int .i64 code,.sl ip 0 n c]],.aX u::.core g fB::rest=>(match bl[ip]?with
  |some ⟨true,⟨5,(0,0)⟩,[.bH .u8 n' f,.bH .u8 d z]⟩=>(match bl[ic]?with
   |some ⟨true,⟨105,(0,0)⟩,cc⟩=>(match Ae cc with
    |some x=>(match bl[x.it]?with
     |some ⟨true,⟨157,(0,0)⟩,tc⟩=>(match rS tc with
      |some y=>cond (bI bl.length bl&&(cj 1 ip&&(cj 1 ic&&(cj 1 x.it&&(!(ax ic x.it)&&(!(ax ic ip)&&!(ax x.it ip)))))))
       ((bl[0]?=some (bU g.d.k)/\bl[1]?=some (g_ g.d.k)/\x=lg g.d.k x.it (eV x y g.d g.dx g.sx)/\y.b=x.p.b_/\y.m=x.p.eS/\x.p.queue=g.d.k.most)/\
         (n'=n/\n+d=c/\z=lq)/\si g.d.k/\(ew g.d.k (eV x y g.d g.dx g.sx)/\cV=g.F.vs/\cV=g.F.vr/\n<=58/\By f)/\
         Lb g.d.k (gU C (eV x y g.d g.dx g.sx) l code n f) λvv s' F' fn ex=>K (gG bl.length vv) (ef bl ic x.it g.d.k s'++ex) (.aX u::.core (bb g.d.k s' F') (fn++fB)::rest)) False
      |none=>False)
     |_=>False)
    |none=>False)
   |_=>False)
  |_=>False)
 |_,_=>False
theorem aaL (ht:Body (fr:=fr) 147 dR):Sound prog gS 24 (Lg (fr:=fr) (aO aP)):=by
 intro args ids bl ch R ms w0 w K hg hl S hc;unfold Lg at hc;split at hc
 ·rename_i ic l code ip n c u g fB rest;split at hc
  ·rename_i n' f d z v9;split at hc
   ·rename_i cc qf;split at hc
    ·rename_i x hx;split at hc
     ·rename_i tc tQ;split at hc
      ·rename_i y hy;cases hq:bI bl.length bl&&(cj 1 ip&&(cj 1 ic&&(cj 1 x.it&&(!(ax ic x.it)&&(!(ax ic ip)&&!(ax x.it ip))))))with
       |false=>rw[hq]at hc;exact hc.elim
       |true=>
        rw[hq]at hc;simp only[a_,lv,gV]at hq;obtain⟨qw,q1,q2,q3,q4,q5,q6⟩:=hq;have nb:∀{a b:Nat},ax a b=false->a≠b:=λh e=>by rw[e,qS]at h;cases h
        have n4:=nb q4;have n5:=nb q5;have n6:=nb q6;obtain⟨⟨e3,e4,e5,e6,e7,e8⟩,⟨rfl,rfl,rfl⟩,Dd,⟨hC,v1,v2,p1,p2⟩,hT⟩:=hc;obtain rfl:=F_ hx;obtain rfl:=xS hy;have H:AA bl ic x.it g.d.k (eV x y g.d g.dx g.sx):=by
         refine⟨e3,e4,?_,?_⟩
         ·rw[qf];congr 1;unfold gC;rw[<-e5]
         ·rw[tQ];congr 1;unfold gp;have:y=tP (eV x y g.d g.dx g.sx):=by
           obtain⟨y1,y2,y3,y4,y5,y6,y7,y8⟩:=y;simp only at e6 e7;subst e6 e7;rfl
          rw[<-this]
        have l1:=ia v9;have l2:=ia H.hc;have l3:=ia H.ht;obtain⟨r,hr,hp⟩:=xT (bl:=bl) (ids:=ids) hl (is:=[0,1,ic,x.it,ip]) (by simp;omega) (by
         intro i hi;simp only[bY,n9,or_false]at hi;rcases hi with rfl|rfl|rfl|rfl|rfl<;>omega)
        have emp:∀(bl':List VB),[0,1,ic,x.it,ip].map (λj=>ay ids (ids.getD j 0) (bl'.getD j cX))=([0,1,ic,x.it].map λj=>ay ids (ids.getD j 0) (bl'.getD j cX))++[ay ids (ids.getD ip 0) (bl'.getD ip cX)]:=λ_=>rfl;have G0:ay ids (ids.getD ip 0) (eg n' d f)=⟨ids.getD ip 0,true,.cells (bw n' f (n'+d)) 5 (0,0)⟩:=by
         unfold ay;rw[yg];rfl
        have gD:=hp bl rfl;rw[emp,Db H hg,iT (show bl[ip]?=some (eg n' d f)from v9)]at gD;obtain⟨F1,f1,f2,f3⟩:=ao2 (k:=g.d.k) (s:=eV x y g.d g.dx g.sx) g.F Dd (b:=ids.getD ip 0) (f:=f) (wz n' d);have S1:=S.perm (bs':=lits (cK (ids.getD ic 0) (ids.getD x.it 0)) (cK (ids.getD ic 0) (ids.getD x.it 0)) (dc g.d.k (eV x y g.d g.dx g.sx))++(F1.B++(dv u++((r.map λj=>ay ids (ids.getD j 0) (bl.getD j cX))++(fB++av rest R))))) (by
         refine(gD.append_right _).trans ?_;rw[show F1.B=a9.B (d:=g.d) g.F++[⟨ids.getD ip 0,true,.cells (bw n' f (n'+d)) 5 (0,0)⟩]from f3,<-G0];show(_++(dv u++((g.F.B++fB)++av rest R))).Perm _;exact hJ λf=>by simp only[ik];omega)
        have hC':ew (Dc g.d.k (some ⟨ids.getD ip 0,0,none⟩) n' (n'+d) f) (eV x y g.d g.dx g.sx):=⟨hC.i,hC.x,hC.key,hC.ke,hC.e1,hC.e2⟩;have Gc:=aoV ht u [.int .i64 l,.agg [.int .i64 code,.raw (dZ (Dc g.d.k (some ⟨ids.getD ip 0,0,none⟩) n' (n'+d) f))]] (Dc g.d.k (some ⟨ids.getD ip 0,0,none⟩) n' (n'+d) f) (eV x y g.d g.dx g.sx) F1
         (λvv s' Lh fn ex=>cV=Lh.vs/\cV=Lh.vr/\∀F':a9 fr (aY g.d.k s'),cV=F'.vs->cV=F'.vr->K (gG bl.length vv) (ef bl ic x.it g.d.k s'++ex) (.aX u::.core (bb g.d.k s' F') (fn++fB)::rest))
         _ _ _ ms w0 w rfl e8 ⟨⟨hC',by rw[f1];exact v1,by rw[f2];exact v2,rfl,p1,p2⟩,λs2 e2 tr fn F0 w1 w2 hf=>⟨w1,w2,λF' z1 z2=>hT s2 e2 tr fn F' z1 z2 hf⟩⟩ S1
        have cC:aA ids [.ptr ic 0,.int .i64 l,.agg [.int .i64 code,.sl ip 0 n' (n'+d)]]=aA (cK (ids.getD ic 0) (ids.getD x.it 0)) (.ptr 2 0::[.int .i64 l,.agg [.int .i64 code,.raw (dZ (Dc g.d.k (some ⟨ids.getD ip 0,0,none⟩) n' (n'+d) f))]]):=rfl;rw[cC];refine Gc.mono ?_;rintro v w' ⟨vv,s',Lh,fn,ex,xs,fk,SJ,vY,⟨w1,w2,hK⟩,S2⟩;obtain⟨F',g1,g2,g3⟩:=ao3 Dd Lh;refine⟨gG bl.length vv,xs,ef bl ic x.it g.d.k s'++ex,.aX u::.core (bb g.d.k s' F') (fn++fB)::rest,?_,?_,?_,hK F' (by rw[g1];exact w1) (by rw[g2];exact w2)⟩
        ·rw[<-hl,C_];exact SJ.symm
        ·simp[ef,hl,fk]
        ·have H':=SH H q2 q3 n4 s';have nh:=hp (ef bl ic x.it g.d.k s') (by simp[ef]);have BY:(ef bl ic x.it g.d.k s').getD ip cX=eg n' d f:=by
          have:(ef bl ic x.it g.d.k s')[ip]?=some (eg n' d f):=by
           unfold ef;rw[kq n6,kq n5];exact v9
          exact iT this
         rw[emp,Db H' hg,BY]at nh;have Ag:(r.map λj=>ay ids (ids.getD j 0) ((ef bl ic x.it g.d.k s').getD j cX))=r.map λj=>ay ids (ids.getD j 0) (bl.getD j cX):=by
          unfold ef;refine SI ?_;intro j hj;have:=hr j hj;simp only[bY,n9,or_false,not_or]at this;omega
         rw[Ag]at nh;have dw:ids.length=(ef bl ic x.it g.d.k s').length:=by simp[ef,hl]
         have GZ:bI ids.length (ef bl ic x.it g.d.k s')=true:=by
          unfold ef;rw[<-hl]at qw l3;refine GY ?_ _ _ (GY ?_ _ _ qw)
          ·exact uW (Nat.zero_le _) _ (Ga s')
          ·simp only[gC,CO,lg,ba,cz,a_,gV,Bool.true_and,Bool.and_true];exact l3
         rw[eZ _ _ _ _ dw,e_ _ _ GZ,AB (ids':=xs) xs ex vY];rw[g3,<-G0]at S2;have S3:St ms w0 (lits (cK (ids.getD ic 0) (ids.getD x.it 0)) (cK (ids.getD ic 0) (ids.getD x.it 0)) (dc g.d.k s')++(lits xs xs ex++((F'.B++[ay ids (ids.getD ip 0) (eg n' d f)])++(fn++(dv u++((r.map λj=>ay ids (ids.getD j 0) (bl.getD j cX))++(fB++av rest R))))))) w':=S2;refine S3.perm ?_;show List.Perm _ ((lits ids ids (ef bl ic x.it g.d.k s')++lits xs xs ex)++(dv u++((F'.B++(fn++fB))++av rest R)));refine DO ?_ ((nh.symm.append_right _).append_right _);exact hJ λf=>by simp only[ik];omega
      ·exact hc.elim
     ·exact hc.elim
    ·exact hc.elim
   ·exact hc.elim
  ·exact hc.elim
 ·exact hc.elim
end
section
open Go Go.RowKit Go.BigFrame Sx Vx
variable{fr:Sd.aF->Nat×Sd.aw}
structure De where
 kind:Int
 link:Int
 code:Int
 x:Option aI
 n:Nat
 c:Nat
 s:Sd.mO
 bad:Bool
def aaM (C:Sd.aN) (u:ae) (s:Sd.aa) (o:De):Sd.aa:=
 if o.kind.tmod 4=1 then s.kY C o.s else if o.kind.tmod 4=2 then s.wQ C o.bad else if o.kind.tmod 4=3 then s.tick C else gU C s o.link o.code (jd 40 o.n) (da u o.x)
def SN (k:LK) (s:Sd.aa):Prop:=some (bU k)=some (bU k)/\some (g_ k)=some (g_ k)/\lg k 3 s=lg k 3 (bR s)/\s.c.p.b_=s.c.p.b_/\s.c.p.eS=s.c.p.eS/\s.c.p.queue=k.most
section
variable(C:Sd.aN) (k:LK) (s:Sd.aa) (F:a9 fr (aY k s)) (u:ae) (fB:List ai) (o:De) (X:VK (LG fr))
end
theorem ew.step {k:LK} {s:Sd.aa} (h:ew k s) (u:ae) (o:De) (hx:Sd.nN o.s.x):ew k (eM (aaM (aO aP) u s o)):=by
 unfold aaM;split
 ·exact h.kY hx
 split
 ·exact h.wQ _
 split
 ·exact h.tick
 ·exact h.item _ _ _ _
end
section
open Go Go.RowKit Go.BigFrame Sx Vx
section
variable{G:Type} [Bl G]
end
section
variable(n c c':Nat) (y y':Option aI) (q:Nat->Int) (a b:Bool) (ty ty':BT) (u u':List ab) (K:VK Empty)
end
variable{fr:Sd.aF->Nat×Sd.aw}
def G1 (P:aC):(aZ->V)->Op->List VB->List (LG fr)->VK (LG fr)->Prop:=λe op bl ch K=>match op with
 |.call c=>(match c.callee,c.args.toList,c.argTypes.toList with
  |.builtin .append,[s,xs],[t,tx]=>(match P.underlying t,P.underlying tx with
   |some (.slice 5),some (.slice _)=>(match e s,e xs,ch with
    |.sl i 0 0 0,.raw (.slice a m c),.aX u::rest=>cond (bI bl.length bl) ((im u a m c (da u a)/\m<=1000000)/\(m=0->K (.sl i 0 0 0) bl (.aX u::rest))/\(0<m->∀d:Nat,K (.sl bl.length 0 m (m+d)) (bl++[eg m d (da u a)]) (.aX u::rest))) False
    |_,_,_=>False)
   |_,_=>False)
  |_,_,_=>False)
 |_=>False
theorem SO {gl:Nat->Option Nat}:fC (G:=LG fr) prog gl (G1 prog):=by
 intro e op ids bl ch R ms w0 w K ρ o hg hl S aW ho h;unfold G1 at h;split at h
 ·rename_i c;split at h
  ·rename_i s xs t tx eb cC dr;split at h
   ·rename_i T ht fH;split at h
    ·rename_i i a m c' u rest fQ fk;cases hq:bI bl.length bl with
     |false=>rw[hq]at h;exact h.elim
     |true=>
      rw[hq]at h;obtain⟨⟨hk,hm⟩,h0,h1⟩:=h;have rA:∀y∈dv u,y∈lits ids ids bl++av (.aX u::rest) R:=λy hy=>by
       refine qU _ ?_;show y∈dv u++av rest R;exact mH _ hy
      have eY:=Ir (P:=prog) (⟨hm,SL S rA hk⟩:dD w a m c' (da u a)) fH;obtain⟨l9,ar,gA⟩:=c;simp only at eb cC dr;have e2:ar=#[s,xs]:=by rw[<-cC]
      have e3:gA=#[t,tx]:=by rw[<-dr]
      subst eb e2 e3;have gx:ρ s=.slice (some ⟨ids.getD i 0,0,none⟩) 0 0:=by rw[aW,fQ];simp only[den]
      have mV:ρ xs=.slice a m c':=by rw[aW,fk];simp only[den]
      by_cases jL:m=0
      ·subst jL;refine⟨_,[],bl,_,w,.inl ?_,by simpa using hl,by simpa using S,h0 rfl⟩;rw[iR (P:=prog) (ρ:=ρ) (o:=o) ho gx mV (aaK (g:=da u a) eY ht ⟨ids.getD i 0,0,none⟩)];simp only[den,cI]
      ·obtain⟨c2,w2,bE,bT,hle,AF⟩:=Lf (g:=da u a) (x:=a) (ty:=o.type) (t:=t) eY ht (by omega) (by omega) ⟨ids.getD i 0,0,none⟩;have h2:=h1 (by omega) (c2-m);rw[show m+(c2-m)=c2 by omega]at h2;refine⟨_,[w.heap.size],_,_,w2,.inl ?_,by simp[hl],?_,h2⟩
       ·rw[iR (P:=prog) (ρ:=ρ) (o:=o) ho gx mV bE];simp only[den];rw[<-hl,j7]
       ·have e:ay (ids++[w.heap.size]) w.heap.size (eg m (c2-m) (da u a))=⟨w.heap.size,true,.cells (bw m (da u a) c2) 5 (0,0)⟩:=by
         unfold ay;rw[yg,show m+(c2-m)=c2 by omega];rfl
        rw[eZ _ _ _ _ hl,e_ _ _ (by rw[hl];exact hq)];simp only[lits,e];refine(S.new bT (dE _) AF).perm ?_;rw[bN];exact jH.symm
    ·exact h.elim
   ·exact h.elim
  ·exact h.elim
 ·exact h.elim
theorem B3 {G:Type} [Bl G] {C:Ctx G} {f n:Nat} {args:List V} {ch0:List G} {K:VK G} (hT:∀f c,C.T f=some c->Sound C.P C.gl f c) (hQ:oE C) (G2:C.gl=cR) (cJ:bu C n f args [] ch0 K)
 {Y:List ai} {ms:List Nat} {w0 w:ae} (S:St ms w0 (av ch0 Y) w):
 aQ C.P f (aA [] args).toArray w λv w'=>∃(x:V) (more:List Nat) (bl':List VB) (ch':List G),v=den more x/\more.length=bl'.length/\St ms w0 (lits more more bl'++av ch' Y) w'/\K x bl' ch':=
 eD hT hQ n (ids:=[]) (bl:=[]) (λg i h=>by rw[G2]at h;cases h) rfl S cJ
theorem ao4 {G:Type} [Bl G] {C:Ctx G} {f n:Nat} {ids:List Nat} {bl:List VB} {args args':List V} {ch0 rest:List G} {R:List ai} {ms:List Nat} {w0 w:ae} {K:VK G} (hT:∀f c,C.T f=some c->Sound C.P C.gl f c) (hQ:oE C) (G2:C.gl=cR) (hl:ids.length=bl.length)
 (hw:bI bl.length bl=true) (ha:aA ids args=aA [] args') (S:St ms w0 (lits ids ids bl++av (ch0++rest) R) w) (cJ:bu C n f args' [] ch0 (bm 0 λv b c=>K (gG bl.length v) (bl++yf bl.length b) (c++rest))):
 aQ C.P f (aA ids args).toArray w λv w'=>∃x more bl' ch',v=den (ids++more) x/\(ids++more).length=bl'.length/\St ms w0 (lits (ids++more) (ids++more) bl'++av ch' R) w'/\K x bl' ch':=by
 have S1:St ms w0 (av ch0 (lits ids ids bl++av rest R)) w:=S.perm (by
  rw[ma,hY (av rest R) ch0,hY (lits ids ids bl++av rest R) ch0];exact hJ λf=>by simp only[ik];omega)
 rw[ha];refine(B3 hT hQ G2 cJ S1).mono ?_;rintro v w' ⟨x,more,bl',ch',rfl,h1,S',hK⟩;obtain⟨v2,cD,bl2,hv,dw,S2,oO⟩:=h_ (n0:=0) h1 (Nat.zero_le _) S' hK;simp only[Uz,fc]at hv dw S2;refine⟨_,cD,_,_,?_,?_,?_,oO⟩
 ·rw[hv,<-hl,C_]
 ·rw[fi,fi,aay,hl,dw]
 ·rw[eZ _ _ _ _ hl,e_ _ _ (by rw[hl];exact hw),<-hl,aaz];refine S2.perm ?_;rw[ma,hY (av rest R) ch',hY (lits ids ids bl++av rest R) ch'];exact hJ λf=>by simp only[ik];omega
theorem ao5 {ids:List Nat} {args:List V} (ha:ba 0 args=true):aA ids args=aA [] args:=by have:=mP (ids:=[]) (more:=ids) args ha;simpa using this
def nR (n:Nat):Nat:=if n=0 then 1 else jd 64 n
def my (n:Nat) (f:Sd.aw):Sd.aw:=if n=0 then λ_=>7 else f
theorem aaN (n:Nat):1<=nR n/\nR n<=64:=by unfold nR jd;split<;>omega
def G3:cP (LG fr):=λargs bl ch K=>match args,ch with
 |[.raw (.slice a n c)],.aX u::rest=>cond (bI bl.length bl) (im u a n c (da u a)/\∀d:Nat,K (.sl bl.length 0 (nR n) (nR n+d)) (bl++[eg (nR n) d (my n (da u a))]) (.aX u::rest)) False
 |_,_=>False
def ao6 (u:ae) (a:Option aI) (n c:Nat) (K:VK (LG fr)):Prop:=
 let m:Int:=if(64:Int)<((n:Nat):Int)then 64 else((n:Nat):Int)
 cond ((n:Int)==0) (K (.sl 0 0 1 1) [⟨true,⟨5,(0,0)⟩,[.int .u8 7]⟩] [.aX u])
  ((0<=m/\m<=(c:Int))/\(im u a m.toNat c (da u a)/\m.toNat<=1000000)/\(m.toNat=0->K (.sl 0 0 0 0) [⟨true,⟨5,(0,0)⟩,[]⟩] [.aX u])/\(0<m.toNat->∀d:Nat,K (.sl 0 0 m.toNat (m.toNat+d)) [eg m.toNat d (da u a)] [.aX u]))
theorem ao7 (u:ae) (a:Option aI) (n c:Nat) (K:VK (LG fr)):bu (fE prog cR ([]:List (bK (LG fr))) (G1 prog) SO) 60 25 [.raw (.slice a n c)] [] [.aX u] (bm 0 K)=ao6 u a n c K:=by kernel_rfl
theorem ao8 {gl:Nat->Option Nat}:Sound prog gl 25 (G3 (fr:=fr)):=by
 intro args ids bl ch R ms w0 w K hg hl S hc;unfold G3 at hc;split at hc
 ·rename_i a n c u rest;cases hq:bI bl.length bl with
  |false=>rw[hq]at hc;exact hc.elim
  |true=>
   rw[hq]at hc;obtain⟨hk,hK⟩:=hc
   let K0:VK (LG fr):=λv b ch=>ch=[.aX u]/\∃m d,nR n=m/\v=.sl 0 0 m (m+d)/\∃B,b=[B]/\ay [0] 0 B=ay [0] 0 (eg m d (my n (da u a)))/\ba 0 B.c=true
   have cJ:bu (fE prog cR ([]:List (bK (LG fr))) (G1 prog) SO) 60 25 [.raw (.slice a n c)] [] [.aX u] (bm 0 K0):=by
    rw[ao7];refine aH (λe=>?_) (λe=>?_)
    ·have e:n=0:=by simpa using e
     subst e;exact⟨rfl,1,0,rfl,rfl,_,rfl,rfl,rfl⟩
    ·have e:n≠0:=by simpa using e
     have hm:(if(64:Int)<((n:Nat):Int)then 64 else((n:Nat):Int))=((jd 64 n:Nat):Int):=Vd 64 n;rw[hm];have hn:nR n=jd 64 n:=by unfold nR;rw[if_neg e]
     have hf:my n (da u a)=da u a:=by unfold my;rw[if_neg e]
     have h1:=hk.1;have hle:jd 64 n<=n:=by unfold jd;omega
     have zO:0<jd 64 n:=by unfold jd;omega
     have h64:jd 64 n<=64:=by unfold jd;omega
     refine⟨⟨by omega,by omega⟩,?_⟩;rw[ux];exact⟨⟨(hk.cut hle (by omega)).2,by omega⟩,λh0=>absurd h0 (by omega),λ_ d=>⟨rfl,_,d,hn,rfl,_,rfl,by rw[hf],rfl⟩⟩
   rw[ao5 (ids:=ids) (args:=[.raw (.slice a n c)]) rfl];refine(B3 (C:=fE prog cR ([]:List (bK (LG fr))) (G1 prog) SO) (aG.nil (P:=prog) (gl:=cR)).T (aG.nil (P:=prog) (gl:=cR)).Q rfl cJ (Y:=lits ids ids bl++av rest R) (S.perm (hJ λf=>by simp only[av,ik];show _+(List.countP f (dv u)+_)=List.countP f (dv u)+_;omega))).mono ?_;rintro v w' ⟨x,more,bl',ch',rfl,h1,S',rL⟩;obtain⟨v2,cD,bl2,hv,dw,S2,rfl,m,d,hm,rfl,B,rfl,hB,hwB⟩:=h_ (n0:=0) h1 (Nat.zero_le _) S' rL
   match cD,dw with
   |[b],_=>
    have hd:=hK d;rw[hm]at hd;refine⟨_,[b],_,_,?_,by simp[hl],?_,hd⟩
    ·rw[hv];have:(ids++[b]).getD bl.length 0=b:=by rw[<-hl];simp[ij]
     simp only[den,this,Uz,fc];rfl
    ·have e1:ay [b] b B=ay (ids++[b]) b (eg m d (my n (da u a))):=by
      have q1:ay [b] b B=ay [0] b B:=mn hwB;have q2:ay (ids++[b]) b (eg m d (my n (da u a)))=ay [0] b (eg m d (my n (da u a))):=mn rfl;rw[q1,q2];unfold ay at hB⊢;simp only[ai.mk.injEq,Obj.cells.injEq]at hB⊢;exact⟨trivial,hB.2⟩
     rw[eZ _ _ _ _ hl,e_ _ _ (by rw[hl];exact hq)];simp only[Uz,fc,lits]at S2;rw[e1]at S2;refine S2.perm ?_;show List.Perm ([_]++(dv u++(lits ids ids bl++av rest R))) ((lits ids ids bl++[_])++(dv u++av rest R));exact hJ λf=>by simp only[ik,yL,DQ];omega
   |[],h=>simp at h
   |_::_::_,h=>simp at h
 ·exact hc.elim
theorem ao9:gO (G3 (fr:=fr)):=by
 intro args bl ch K hc;unfold G3 at hc⊢;split at hc
 ·cases hq:bI bl.length bl with
  |false=>rw[hq]at hc;exact hc.elim
  |true=>rw[hq]at hc;exact⟨hc.1,λd=>⟨hc.2 d,_,rfl⟩⟩
 ·exact hc.elim
def cY (a m:Int):Int:=(i64.wrap (a.tmod m+m)).tmod m
theorem Df (a:Int) {m:Int} (h:0<m) (h2:m<=1000000):0<=cY a m/\cY a m<m:=by
 unfold cY;have h1:=Int.tmod_lt_of_pos a h;have h3:-m<a.tmod m:=by
  have:=Int.lt_tmod_of_pos a h;omega
 have hw:i64.wrap (a.tmod m+m)=a.tmod m+m:=qI (by omega);rw[hw];exact⟨Int.tmod_nonneg _ (by omega),Int.tmod_lt_of_pos _ h⟩
def G4:cP (LG fr):=λargs bl ch K=>match args with
 |[.int .i64 a,.int .i64 (.ofNat 3)]=>cond (cj bl.length 5) ((cY a 3=0->K (.int .i64 0) bl ch)/\(cY a 3=1->K (.int .i64 1) bl ch)/\(cY a 3=2->K (.int .i64 2) bl ch)) (K (.int .i64 (cY a 3)) bl ch)
 |[.int .i64 a,.int .i64 (.ofNat 2)]=>(cY a 2=0->K (.int .i64 0) bl ch)/\(cY a 2=1->K (.int .i64 1) bl ch)
 |[.int .i64 a,.int .i64 (.ofNat (m+1))]=>K (.int .i64 (cY a (.ofNat (m+1)))) bl ch
 |_=>False
theorem ao_ (a:Int) (m:Nat) (X:V->Prop):dL prog [] 60 26 [.int .i64 a,.int .i64 (.ofNat (m+1))] X=X (.int .i64 (cY a (.ofNat (m+1)))):=by kernel_rfl
theorem apa (a:Int) (m:Nat) (ids:List Nat) (w:ae):aQ prog 26 (aA ids [.int .i64 a,.int .i64 (.ofNat (m+1))]).toArray w λx w'=>x=den ids (.int .i64 (cY a (.ofNat (m+1))))/\Ch [] w w':=
 zB bF.nil 60 (by rw[ao_]) rfl rfl ids w
theorem apb {gl:Nat->Option Nat}:Sound prog gl 26 (G4 (fr:=fr)):=by
 intro args ids bl ch R ms w0 w K hg hl S hc;have go:∀(a:Int) (m:Nat),K (.int .i64 (cY a (.ofNat (m+1)))) bl ch->aQ prog 26 (aA ids [.int .i64 a,.int .i64 (.ofNat (m+1))]).toArray w λv w'=>∃x more bl' ch',v=den (ids++more) x/\(ids++more).length=bl'.length/\St ms w0 (lits (ids++more) (ids++more) bl'++av ch' R) w'/\K x bl' ch':=by
  intro a m hK;refine(apa a m ids w).mono ?_;rintro v w' ⟨rfl,bT⟩;exact⟨_,[],bl,ch,by simp,by simpa using hl,by simpa using S.quiet bT,hK⟩
 have cast:∀(a:Int) (m:Nat) (r:Int),cY a (.ofNat (m+1))=r->K (.int .i64 r) bl ch->K (.int .i64 (cY a (.ofNat (m+1)))) bl ch:=λa m r e h=>by rw[e];exact h
 unfold G4 at hc;split at hc
 ·rename_i a;refine go a 2 ?_;have hb:=Df a (m:=3) (by decide) (by decide);cases hq:cj bl.length 5 with
  |false=>rw[hq]at hc;exact hc
  |true=>
   rw[hq]at hc;have h3:cY a (.ofNat (2+1))=cY a 3:=rfl;have:cY a 3=0\/cY a 3=1\/cY a 3=2:=by omega
   rcases this with e|e|e
   ·exact cast a 2 _ e (hc.1 e)
   ·exact cast a 2 _ e (hc.2.1 e)
   ·exact cast a 2 _ e (hc.2.2 e)
 ·rename_i a;refine go a 1 ?_;have hb:=Df a (m:=2) (by decide) (by decide);have:cY a 2=0\/cY a 2=1:=by omega
  rcases this with e|e
  ·exact cast a 1 _ e (hc.1 e)
  ·exact cast a 1 _ e (hc.2 e)
 ·rename_i a m _ _;exact go a m hc
 ·exact hc.elim
theorem apc:gO (G4 (fr:=fr)):=by
 intro args bl ch K hc;unfold G4 at hc⊢;split at hc
 ·cases hq:cj bl.length 5 with
  |false=>rw[hq]at hc;exact⟨hc,[],by simp⟩
  |true=>rw[hq]at hc;exact⟨λe=>⟨hc.1 e,[],by simp⟩,λe=>⟨hc.2.1 e,[],by simp⟩,λe=>⟨hc.2.2 e,[],by simp⟩⟩
 ·exact⟨λe=>⟨hc.1 e,[],by simp⟩,λe=>⟨hc.2 e,[],by simp⟩⟩
 ·exact⟨hc,[],by simp⟩
 ·exact hc.elim
def iN:V->Int|.int .i64 n=>n|_=>0
def sA:V->Option aI|.raw (.slice a _ _)=>a|_=>none
def sN:V->Nat|.raw (.slice _ n _)=>n|_=>0
def sC:V->Nat|.raw (.slice _ _ c)=>c|_=>0
def iF (i:Nat):Bool:=bA 5 i&&bA i 8
def aaO (i:Nat) (v:V):Bool:=match v with
 |.int .i64 _=>!iF i
 |.raw (.slice _ _ _)=>iF i
 |_=>false
def G5:List V->Nat->Bool
 |[],i=>ax i 56
 |v::l,i=>aaO i v&&G5 l (i+1)
structure j1 where
 q:Nat->Int
 ka:Nat->Option aI
 kn:Nat->Nat
 kc:Nat->Nat
def SP (l:List V):Option j1:=match l with
 |[.dS p ka kn kc]=>some ⟨p.i,ka,kn,kc⟩
 |l=>bif G5 l 0 then some ⟨λi=>iN (nth l i),λj=>sA (nth l (j+5)),λj=>sN (nth l (j+5)),λj=>sC (nth l (j+5))⟩else none
def wa (i:Nat) (v:V):ab:=bif iF i then .slice (sA v) (sN v) (sC v)else .int .i64 (iN v)
theorem aaP (ids:List Nat):∀(l:List V) (i:Nat),G5 l i=true->i+l.length=56/\ah ids l=(bh l.length).map λj=>wa (i+j) (nth l j)
 |[],i,h=>⟨b9 h,rfl⟩
 |v::l,i,h=>by
  unfold G5 at h;rw[a_]at h;obtain⟨h1,h2⟩:=aaP ids l (i+1) h.2;refine⟨by simp;omega,?_⟩;rw[ly,uu,eQ,mG];simp only[ah,h2];have e:ah ids l=(bh l.length).map ((λj=>wa (i+j) (nth (v::l) j))∘Nat.succ):=by
   rw[h2];apply pH;intro j _;show wa (i+1+j) (nth l j)=wa (i+(j+1)) (nth l j);rw[show i+1+j=i+(j+1) by omega]
  rw[<-h2,e];have hv:cl v (den ids v)=[wa (i+0) (nth (v::l) 0)]:=by
   have h3:=h.1;unfold aaO at h3;split at h3
   ·have:iF i=false:=by simpa using h3
    simp only[cl,den,jx,jy,je,wa,nZ,this,cond_false,iN]
   ·simp only[cl,den,jx,jy,je,wa,nZ,h3,cond_true,sA,sN,sC]
   ·cases h3
  rw[hv];rfl
theorem apd {l:List V} {x:j1} (h:SP l=some x) (k:Nat->Nat×Sd.aw) (ids:List Nat):ah ids l=qc ⟨x.q,k⟩ x.ka x.kn x.kc:=by
 unfold SP at h;split at h
 ·cases h;simp only[ah,cl,cI];rfl
 ·cases hb:G5 l 0 with
  |false=>rw[hb]at h;cases h
  |true=>
   rw[hb]at h;cases h;obtain⟨h1,h2⟩:=aaP ids l 0 hb;rw[h2,show l.length=56 by omega];unfold qc;apply pH;intro j hj;have hj:=List.mem_range.1 hj;show wa (0+j) (nth l j)=_;rw[eh];unfold wa iF;cases hk:bA 5 j&&bA j 8 with
   |false=>rfl
   |true=>
    rw[a_]at hk;have:=dz hk.1;simp only[cond_true];rw[show j-5+5=j by omega]
def mz (o1 o2 o3:Int) (q:Nat->Int) (i:Nat):Int:=
 bif bA i 13 then(bif ax i 1 then o1 else bif ax i 2 then o2 else bif ax i 3 then o3 else bif ax i 4 then 4 else bif ax i 9 then 1 else bif bA 10 i&&bA i 12 then bits .and .i64 (q i) 14 else 0)
 else bif bA i 33 then bits .and .i64 (q i) 15
 else bif bA i 38 then bits .and .i64 (q i) 31
 else bif bA i 41 then cY (q i) 5
 else bif bA i 46 then i64.wrap (1+cY (q i) 1000)
 else bif ax i 47 then cY (q i) 1001
 else bif bA i 49 then i64.wrap (1+cY (q i) 3)
 else bif ax i 50 then 0
 else bif bA i 53 then cY (q i) 1001
 else bif ax i 54 then i64.wrap (1+cY (q i) 1000)
 else bits .and .i64 (q i) 65535
def AG (q:Nat->Int) (o1 o2 o3:Int):Prop:=
 (cY (q 1) 3=0/\((cY (q 2) 2=0/\o1=1/\o2=2/\o3=3)\/(cY (q 2) 2=1/\o1=1/\o2=3/\o3=2)))\/
 (cY (q 1) 3=1/\((cY (q 2) 2=0/\o1=2/\o2=1/\o3=3)\/(cY (q 2) 2=1/\o1=2/\o2=3/\o3=1)))\/
 (cY (q 1) 3=2/\((cY (q 2) 2=0/\o1=3/\o2=2/\o3=1)\/(cY (q 2) 2=1/\o1=3/\o2=1/\o3=2)))
def k4 {α:Type} (a b c d:α):Nat->α:=λj=>match j with|0=>a|1=>b|2=>c|_=>d
def ape (o1 o2 o3:Int) (q:Nat->Int) (kn d:Nat->Nat):List V:=(bh 56).map λi=>bif iF i then .sl (i-5) 0 (nR (kn (i-5))) (nR (kn (i-5))+d (i-5))else .int .i64 (mz o1 o2 o3 q i)
def Li (p:Nat->Int) (n d:Nat->Nat):List V:=(bh 56).map λi=>bif iF i then .sl (i-5) 0 (n (i-5)) (n (i-5)+d (i-5))else .int .i64 (p i)
section
variable(x:j1) (f:Nat->Nat×Sd.aw) (u:ae) (K:VK (LG fr))
def Lj (i d:Nat):VB:=eg (nR (x.kn i)) d (my (x.kn i) (da u (x.ka i)))
def mA (i:Nat):Prop:=im u (x.ka i) (x.kn i) (x.kc i) (da u (x.ka i))
def SQ (d3:Nat) (o1 o2 o3:Int):Prop:=mA x u 0/\∀d0:Nat,mA x u 1/\∀d1:Nat,mA x u 2/\∀d2:Nat,K (.agg (ape o1 o2 o3 x.q x.kn (k4 d0 d1 d2 d3))) [Lj x u 0 d0,Lj x u 1 d1,Lj x u 2 d2,Lj x u 3 d3] [.aX u]
def SR (d3:Nat) (o1 o2 o3:Int):Prop:=(cY (x.q 2) 2=0->SQ x u K d3 o1 o2 o3)/\(cY (x.q 2) 2=1->SQ x u K d3 o1 o3 o2)
def aaQ:Prop:=mA x u 3/\∀d3:Nat,(cY (x.q 1) 3=0->SR x u K d3 1 2 3)/\(cY (x.q 1) 3=1->SR x u K d3 2 1 3)/\(cY (x.q 1) 3=2->SR x u K d3 3 2 1)
def SS (fr:Sd.aF->Nat×Sd.aw):List (bK (LG fr)):=[⟨25,true,G3⟩,⟨26,true,G4⟩]
theorem aaR:aG prog cR (SS fr):=aG.cons ⟨ao8,λ_=>ao9⟩ (aG.cons ⟨apb,λ_=>apc⟩ aG.nil)
theorem apf:bu (bQ prog cR (SS fr)) 60 10 [.agg [.dS ⟨x.q,f⟩ x.ka x.kn x.kc]] [] [.aX u] (bm 0 K)=aaQ x u K:=by kernel_rfl
end
structure Made (x:j1) (p:Nat->Int) (n:Nat->Nat):Prop where
 o:AG x.q (p 1) (p 2) (p 3)
 p:∀i,i<56->iF i=false->p i=mz (p 1) (p 2) (p 3) x.q i
 n:∀j,n j=nR (x.kn j)
def aaS (x:j1) (u:ae) (K:VK (LG fr)):Prop:=(mA x u 0/\mA x u 1/\mA x u 2/\mA x u 3)/\∀(p:Nat->Int) (n d:Nat->Nat),Made x p n->
 K (.agg (Li p n d)) [eg (n 0) (d 0) (my (x.kn 0) (da u (x.ka 0))),eg (n 1) (d 1) (my (x.kn 1) (da u (x.ka 1))),eg (n 2) (d 2) (my (x.kn 2) (da u (x.ka 2))),eg (n 3) (d 3) (my (x.kn 3) (da u (x.ka 3)))] [.aX u]
theorem apg {x:j1} {u:ae} {K:VK (LG fr)} (h:aaS x u K):aaQ x u K:=by
 obtain⟨⟨r0,r1,r2,r3⟩,hK⟩:=h;have g:∀(d3:Nat) (o1 o2 o3:Int),AG x.q o1 o2 o3->SQ x u K d3 o1 o2 o3:=λd3 o1 o2 o3 h=>⟨r0,λd0=>⟨r1,λd1=>⟨r2,λd2=>hK (mz o1 o2 o3 x.q) (λj=>nR (x.kn j)) (k4 d0 d1 d2 d3) ⟨h,λ_ _ _=>rfl,λ_=>rfl⟩⟩⟩⟩;refine⟨r3,λd3=>⟨λe=>⟨λe2=>g d3 _ _ _ ?_,λe2=>g d3 _ _ _ ?_⟩,λe=>⟨λe2=>g d3 _ _ _ ?_,λe2=>g d3 _ _ _ ?_⟩,λe=>⟨λe2=>g d3 _ _ _ ?_,λe2=>g d3 _ _ _ ?_⟩⟩⟩<;>(unfold AG;omega)
def Lk:cP (LG fr):=λargs bl ch K=>match args,ch with
 |[.agg l],.aX u::rest=>(match SP l with
  |some x=>cond (bI bl.length bl) (aaS x u λv b c=>K (gG bl.length v) (bl++yf bl.length b) (c++rest)) False
  |none=>False)
 |_,_=>False
theorem aaT {gl:Nat->Option Nat}:Sound prog gl 10 (Lk (fr:=fr)):=by
 intro args ids bl ch R ms w0 w K hg hl S hc;unfold Lk at hc;split at hc
 ·rename_i l u rest;split at hc
  ·rename_i x hx;cases hq:bI bl.length bl with
   |false=>rw[hq]at hc;exact hc.elim
   |true=>
    rw[hq]at hc;refine ao4 (C:=bQ prog cR (SS fr)) (n:=60) (args':=[.agg [.dS ⟨x.q,λ_=>(0,λ_=>0)⟩ x.ka x.kn x.kc]]) (ch0:=[.aX u]) (rest:=rest) aaR.T aaR.Q rfl hl hq ?_ S (by rw[apf];exact apg hc);simp only[aA,den,apd hx (λ_=>(0,λ_=>0)) ids,ah,cl,cI]
  ·exact hc.elim
 ·exact hc.elim
def aaU (i:Nat) (v:V):Bool:=match v with
 |.int .i64 _=>!iF i
 |.raw (.slice _ _ _)=>iF i
 |.sl _ _ _ _=>iF i
 |_=>false
def sj:List V->Nat->Bool
 |[],i=>ax i 56
 |v::l,i=>aaU i v&&sj l (i+1)
def Ll (ids:List Nat):V->Option aI|.raw (.slice a _ _)=>a|.sl i o _ _=>some ⟨ids.getD i 0,o,none⟩|_=>none
def Dg:V->Nat|.raw (.slice _ n _)=>n|.sl _ _ n _=>n|_=>0
def Lm:V->Nat|.raw (.slice _ _ c)=>c|.sl _ _ _ c=>c|_=>0
def wb (ids:List Nat) (i:Nat) (v:V):ab:=bif iF i then .slice (Ll ids v) (Dg v) (Lm v)else .int .i64 (iN v)
theorem aaV (ids:List Nat):∀(l:List V) (i:Nat),sj l i=true->i+l.length=56/\ah ids l=(bh l.length).map λj=>wb ids (i+j) (nth l j)
 |[],i,h=>⟨b9 h,rfl⟩
 |v::l,i,h=>by
  unfold sj at h;rw[a_]at h;obtain⟨h1,h2⟩:=aaV ids l (i+1) h.2;refine⟨by simp;omega,?_⟩;rw[ly,uu,eQ,mG];simp only[ah,h2];have e:(bh l.length).map (λj=>wb ids (i+1+j) (nth l j))=(bh l.length).map ((λj=>wb ids (i+j) (nth (v::l) j))∘Nat.succ):=by
   apply pH;intro j _;show wb ids (i+1+j) (nth l j)=wb ids (i+(j+1)) (nth l j);rw[show i+1+j=i+(j+1) by omega]
  rw[e];have hv:cl v (den ids v)=[wb ids (i+0) (nth (v::l) 0)]:=by
   have h3:=h.1;unfold aaU at h3;split at h3
   ·have:iF i=false:=by simpa using h3
    simp only[cl,den,jx,jy,je,wb,nZ,this,cond_false,iN]
   ·simp only[cl,den,jx,jy,je,wb,nZ,h3,cond_true,Ll,Dg,Lm]
   ·simp only[cl,den,jx,jy,je,wb,nZ,h3,cond_true,Ll,Dg,Lm]
   ·cases h3
  rw[hv];rfl
def Dh (l:List V) (f:Nat->Nat×Sd.aw):Sd.aJ:=⟨λi=>iN (nth l i),f⟩
theorem SU {l:List V} (h:sj l 0=true) (f:Nat->Nat×Sd.aw) (ids:List Nat):(aA ids [.agg l]).toArray=#[.agg (jV (Dh l f) (λj=>Ll ids (nth l (j+5))) (λj=>Dg (nth l (j+5))) (λj=>Lm (nth l (j+5))))]:=by
 obtain⟨h1,h2⟩:=aaV ids l 0 h;simp only[aA,den];rw[h2,show l.length=56 by omega];rfl
def yi:Nat->Nat×Sd.aw:=λ_=>(0,λ_=>0)
def SV:QF:=⟨27,λargs _=>match args with
 |[.agg l]=>bif sj l 0 then some (True,.int .i64 (k_ (λi=>iN (nth l i)) (λj=>Dg (nth l (j+5)))))else none
 |_=>none⟩
def SW:QF:=⟨30,λargs _=>match args with
 |[.agg l]=>bif sj l 0 then some (True,.agg (cS (Sd.Tok.new (Dh l yi))))else none
 |_=>none⟩
def SX:QF:=⟨33,λargs _=>match args with
 |[.raw (.slice none 0 0)]=>some (True,.agg [.bH .u8 32 λ_=>0])
 |_=>none⟩
theorem aph (gl:Nat->Option Nat):SV.Ok prog gl:=by
 intro args bl p_ v_ h hp ids w _ _;unfold SV at h;dsimp only at h;split at h
 ·rename_i l;cases hq:sj l 0 with
  |false=>rw[hq]at h;cases h
  |true=>
   rw[hq]at h;simp only[cond_true,aS,bd]at h;obtain⟨rfl,rfl⟩:=h;rw[SU hq yi ids];exact ajJ (Dh l yi) _ _ _ w
 ·cases h
theorem api (gl:Nat->Option Nat):SW.Ok prog gl:=by
 intro args bl p_ v_ h hp ids w _ _;unfold SW at h;dsimp only at h;split at h
 ·rename_i l;cases hq:sj l 0 with
  |false=>rw[hq]at h;cases h
  |true=>
   rw[hq]at h;simp only[cond_true,aS,bd]at h;obtain⟨rfl,rfl⟩:=h;rw[SU hq yi ids];exact Yg (Dh l yi) _ _ _ w
 ·cases h
theorem apj (gl:Nat->Option Nat):SX.Ok prog gl:=by
 intro args bl p_ v_ h hp ids w _ _;unfold SX at h;dsimp only at h;split at h
 ·simp only[aS,bd]at h;obtain⟨rfl,rfl⟩:=h;exact told (ajM w)
 ·cases h
def Di (p:Sd.aJ):Sd.aa:=⟨.new p,[],[]⟩
def Ln:cP (LG fr):=λargs bl ch K=>match args with
 |[.agg l]=>cond (sj l 0&&bI bl.length bl) (K (.ptr bl.length 0) (bl++[gp (Di (Dh l yi))]) ch) False
 |_=>False
theorem G6 (p:Sd.aJ) (bt:Nat) (ids:List Nat):ay ids bt (gp (Di p))=⟨bt,true,.cells (iS (false,⟨0,0⟩) (f3 ⟨false,⟨0,0⟩,0,(λ_=>0),⟨false,0,0⟩⟩ ⟨false,⟨0,0⟩,0,(λ_=>0),⟨false,0,0⟩⟩ ⟨false,⟨0,0⟩,0,(λ_=>0),⟨false,0,0⟩⟩) (p.i 42) (p.i 49)) 157 (0,0)⟩:=by kernel_rfl
def SY:List V:=[.bool false,.int .i64 0,.int .i64 0,.int .i64 0]++(kO 32 (.int .u8 0)++[.bool false,.int .i64 0,.int .u64 0])
def Lo (b m:Int):List V:=[.bool false,.int .i64 0,.int .i64 0]++(SY++(SY++(SY++[.int .i64 b,.int .i64 m])))
theorem apk (p:Sd.aJ) (ka:Nat->Option aI) (kn kc:Nat->Nat) (K:VK Empty):bu (bQ prog cR ([]:List (bK Empty))) 30 31 [.agg (eK p ka kn kc)] [] [] (bm 0 K)=K (.ptr 0 0) [⟨true,⟨157,(0,0)⟩,Lo (p.i 42) (p.i 49)⟩] []:=by kernel_rfl
theorem apl (p:Sd.aJ) (bt:Nat) (ids:List Nat):ay ids bt ⟨true,⟨157,(0,0)⟩,Lo (p.i 42) (p.i 49)⟩=ay ids bt (gp (Di p)):=by kernel_rfl
theorem aaW {G:Type} [Bl G] {C:Ctx G} {f n:Nat} {args:List V} {ch0:List G} {K:VK G} (hT:∀f c,C.T f=some c->Sound C.P C.gl f c) (hQ:oE C) (G2:C.gl=cR) (cJ:Hd (bu C n f args [] ch0 K))
 {Y:List ai} {ms:List Nat} {w0 w:ae} (S:St ms w0 (av ch0 Y) w):
 aQ C.P f (aA [] args).toArray w λv w'=>∃(x:V) (more:List Nat) (bl':List VB) (ch':List G),v=den more x/\more.length=bl'.length/\St ms w0 (lits more more bl'++av ch' Y) w'/\K x bl' ch':=B3 hT hQ G2 cJ.h S
theorem apm (p:Sd.aJ) (ka:Nat->Option aI) (kn kc:Nat->Nat) {Y:List ai} {ms:List Nat} {w0 w:ae} (S:St ms w0 Y w):aQ prog 31 #[.agg (jV p ka kn kc)] w λv w1=>∃bt,v=.pointer (some ⟨bt,0,none⟩)/\St ms w0 (ay [] bt (gp (Di p))::Y) w1:=by
 have hv:Hd (bu (bQ prog cR ([]:List (bK Empty))) 30 31 [.agg (eK p ka kn kc)] [] [] (bm 0 λv b _=>v=.ptr 0 0/\b=[⟨true,⟨157,(0,0)⟩,Lo (p.i 42) (p.i 49)⟩])):=⟨by rw[apk];exact⟨rfl,rfl⟩⟩;have hr:=aaW (C:=bQ prog cR ([]:List (bK Empty))) (aG.nil (P:=prog) (gl:=cR)).T (aG.nil (P:=prog) (gl:=cR)).Q rfl hv (Y:=Y) S;clear hv;refine hr.mono ?_;rintro v w' ⟨y,more,bl',ch',rfl,h1,S',hK⟩;obtain⟨v2,cD,bl2,e,dw,S2,rfl,rfl⟩:=h_ (n0:=0) (ids:=more) h1 (by simp) S' hK
 match cD,dw,e,S2 with
 |[bt],_,e,S2=>
  have S3:St ms w0 ([ay [bt] bt ⟨true,⟨157,(0,0)⟩,Lo (p.i 42) (p.i 49)⟩]++Y) w':=match ch',S2 with
   |[],S2=>S2
   |e::_,_=>nomatch e
  rw[apl,G6,<-G6 p bt []]at S3;exact⟨bt,e,S3⟩
theorem apn:tn prog cR (⟨31,true,Ln⟩:bK (LG fr)):=by
 refine⟨?_,λ_ args bl ch K h=>?_⟩
 ·intro args ids bl ch R ms w0 w K hg hl S hc;simp only at hc;unfold Ln at hc;split at hc
  ·rename_i l;cases hq:sj l 0&&bI bl.length bl with
   |false=>rw[hq]at hc;exact hc.elim
   |true=>
    rw[hq]at hc;simp only[a_]at hq;rw[SU hq.1 yi ids];refine(apm (Dh l yi) _ _ _ S).mono ?_;rintro v w' ⟨bt,rfl,S2⟩;rw[G6]at S2;refine⟨_,[bt],_,ch,?_,by simp[hl],?_,hc⟩
    ·simp only[den];rw[<-hl,j7]
    ·rw[eZ _ _ _ _ hl,e_ _ _ (by rw[hl];exact hq.2)];simp only[lits];rw[G6];refine S2.perm ?_;rw[bN];exact jH.symm
  ·exact hc.elim
 ·simp only at h⊢;unfold Ln at h⊢;split at h
  ·rename_i l;cases hq:sj l 0&&bI bl.length bl with
   |false=>rw[hq]at h;exact h.elim
   |true=>rw[hq]at h;exact⟨h,_,rfl⟩
  ·exact h.elim
def G7 (P:aC):(aZ->V)->Op->List VB->List (LG fr)->VK (LG fr)->Prop:=λe op bl ch K=>match op with
 |.call c=>(match c.callee,c.args.toList,c.argTypes.toList with
  |.builtin .append,[s,xs],[t,tx]=>(match P.underlying t,P.underlying tx with
   |some (.slice 5),some (.slice _)=>(match e s,e xs,ch with
    |.sl i 0 0 0,.raw (.slice a m c),.aX u::rest=>cond (bI bl.length bl) (∃f,(im u a m c f/\m<=1000000/\0<m)/\∀d:Nat,K (.sl bl.length 0 m (m+d)) (bl++[eg m d f]) (.aX u::rest)) False
    |_,_,_=>False)
   |_,_=>False)
  |_,_,_=>False)
 |_=>False
theorem SZ {gl:Nat->Option Nat}:fC (G:=LG fr) prog gl (G7 prog):=by
 intro e op ids bl ch R ms w0 w K ρ o hg hl S aW ho h;unfold G7 at h;split at h
 ·rename_i c;split at h
  ·rename_i s xs t tx eb cC dr;split at h
   ·rename_i T ht fH;split at h
    ·rename_i i a m c' u rest fQ fk;cases hq:bI bl.length bl with
     |false=>rw[hq]at h;exact h.elim
     |true=>
      rw[hq]at h;obtain⟨f,⟨hk,hm,jL⟩,h1⟩:=h;have rA:∀y∈dv u,y∈lits ids ids bl++av (.aX u::rest) R:=λy hy=>by
       refine qU _ ?_;show y∈dv u++av rest R;exact mH _ hy
      have eY:=Ir (P:=prog) (⟨hm,SL S rA hk⟩:dD w a m c' f) fH;obtain⟨l9,ar,gA⟩:=c;simp only at eb cC dr;have e2:ar=#[s,xs]:=by rw[<-cC]
      have e3:gA=#[t,tx]:=by rw[<-dr]
      subst eb e2 e3;have gx:ρ s=.slice (some ⟨ids.getD i 0,0,none⟩) 0 0:=by rw[aW,fQ];simp only[den]
      have mV:ρ xs=.slice a m c':=by rw[aW,fk];simp only[den]
      obtain⟨c2,w2,bE,bT,hle,AF⟩:=Lf (g:=f) (x:=a) (ty:=o.type) (t:=t) eY ht jL (by omega) ⟨ids.getD i 0,0,none⟩;have h2:=h1 (c2-m);rw[show m+(c2-m)=c2 by omega]at h2;refine⟨_,[w.heap.size],_,_,w2,.inl ?_,by simp[hl],?_,h2⟩
      ·rw[iR (P:=prog) (ρ:=ρ) (o:=o) ho gx mV bE];simp only[den];rw[<-hl,j7]
      ·have e:ay (ids++[w.heap.size]) w.heap.size (eg m (c2-m) f)=⟨w.heap.size,true,.cells (bw m f c2) 5 (0,0)⟩:=by
        unfold ay;rw[yg,show m+(c2-m)=c2 by omega];rfl
       rw[eZ _ _ _ _ hl,e_ _ _ (by rw[hl];exact hq)];simp only[lits,e];refine(S.new bT (dE _) AF).perm ?_;rw[bN];exact jH.symm
    ·exact h.elim
   ·exact h.elim
  ·exact h.elim
 ·exact h.elim
def Lq (fr:Sd.aF->Nat×Sd.aw):List (bK (LG fr)):=⟨31,true,Ln⟩::qL (LG fr) [SV,SW,SX,KD]
theorem aaX:aG prog cR (Lq fr):=aG.cons apn (kD (bF.cons (aph _) (bF.cons (api _) (bF.cons (apj _) (bF.cons (ZK _) bF.nil)))))
def apo (p:Sd.aJ) (kn d:Nat->Nat):List V:=(bh 56).map λo=>bif bA 5 o&&bA o 8 then .sl (o-4) 0 (kn (o-5)) (kn (o-5)+d (o-5))else .int .i64 (p.i o)
def S7:List V:=[.int .i64 0,.bool false]++kO 8 (.int .u8 0)
def S8 (p:Sd.aJ) (kn d:Nat->Nat):List V:=apo p kn d++(cS (Sd.Tok.new p)++(.ptr 5 0::(S7++(S7++(S7++([.ptr 6 0,.int .i64 0,.int .i64 0,.int .i64 (p.i 39)]++(mZ ⟨2,4,0⟩++(xL ⟨1,⟨0,0,0,0⟩,⟨0,0,0,0⟩,⟨2,4,0⟩⟩++[.bH .u8 32 λ_=>0]))))))))
def Lr (p:Sd.aJ) (kn d:Nat->Nat) (kf:Nat->Nat->Int):List VB:=[⟨true,⟨105,(0,0)⟩,S8 p kn d⟩,eg (kn 0) (d 0) (kf 0),eg (kn 1) (d 1) (kf 1),eg (kn 2) (d 2) (kf 2),eg (kn 3) (d 3) (kf 3),
 ⟨true,⟨146,(0,0)⟩,[.raw (.slice none 0 0),.int .i64 (p.i 48),.int .u64 0]⟩,gp (Di p)]
def Ls (u:ae) (xa:Nat->aI) (kn kc:Nat->Nat) (i:Nat) (X:(Nat->Int)->Nat->Prop):Prop:=∃f,(im u (some (xa i)) (kn i) (kc i) f/\kn i<=1000000/\0<kn i)/\∀d,X f d
def Lt (p:Sd.aJ) (xa:Nat->aI) (kn kc:Nat->Nat):Int:=k_ (λi=>iN (nth (eK p (λi=>some (xa i)) kn kc) i)) (λj=>Dg (nth (eK p (λi=>some (xa i)) kn kc) (j+5)))
theorem apq (p:Sd.aJ) (xa:Nat->aI) (kn kc:Nat->Nat):Lt p xa kn kc=k_ p.i kn:=by kernel_rfl
def Eb (u:ae) (p:Sd.aJ) (xa:Nat->aI) (kn kc:Nat->Nat) (K:VK (LG fr)):Prop:=True/\cond (Lt p xa kn kc !=0) (K (.ao [.raw (.pointer none),.int .i64 (Lt p xa kn kc)]) [] [.aX u])
 (cond (decide (p.i 48<1)) (K (.ao [.raw (.pointer none),.int .i64 1]) [] [.aX u]) (cond (decide (p.i 48>64)) (K (.ao [.raw (.pointer none),.int .i64 1]) [] [.aX u])
  (Ls u xa kn kc 0 λf0 d0=>Ls u xa kn kc 1 λf1 d1=>Ls u xa kn kc 2 λf2 d2=>Ls u xa kn kc 3 λf3 d3=>True/\True/\True/\True/\K (.ao [.ptr 0 0,.int .i64 0]) (Lr p kn (λj=>[d0,d1,d2,d3].getD j 0) λj=>[f0,f1,f2,f3].getD j f0) [.aX u])))
theorem apr (u:ae) (p:Sd.aJ) (xa:Nat->aI) (kn kc:Nat->Nat) (K:VK (LG fr)):bu (fE prog cR (Lq fr) (G7 prog) SZ) 60 11 [.agg (eK p (λi=>some (xa i)) kn kc)] [] [.aX u] (bm 0 K)=Eb u p xa kn kc K:=by kernel_rfl
def KN (u:ae) (p:Sd.aJ) (kn:Nat->Nat) (kf:Nat->Nat->Int):VK (LG fr):=λv b ch=>∃d,v=.ao [.ptr 0 0,.int .i64 0]/\b=Lr p kn d kf/\ch=[.aX u]
theorem aps {u:ae} {p:Sd.aJ} {xa:Nat->aI} {kn kc:Nat->Nat} {kf:Nat->Nat->Int} (h:k_ p.i kn=0) (hk:∀i,i<4->dD u (some (xa i)) (kn i) (kc i) (kf i)) (h1:∀i,i<4->0<kn i):Eb (fr:=fr) u p xa kn kc (KN u p kn kf):=by
 have hc:Lt p xa kn kc=0:=(apq p xa kn kc).trans h;have hq:=ajK h;refine⟨trivial,aH (λe=>absurd hc (by simpa using e)) λ_=>aH (λe=>absurd (of_decide_eq_true e) (by omega)) λ_=>aH (λe=>absurd (of_decide_eq_true e) (by omega)) λ_=>?_⟩;exact⟨kf 0,⟨(hk 0 (by omega)).2,(hk 0 (by omega)).1,h1 0 (by omega)⟩,λd0=>⟨kf 1,⟨(hk 1 (by omega)).2,(hk 1 (by omega)).1,h1 1 (by omega)⟩,λd1=>⟨kf 2,⟨(hk 2 (by omega)).2,(hk 2 (by omega)).1,h1 2 (by omega)⟩,λd2=>⟨kf 3,⟨(hk 3 (by omega)).2,(hk 3 (by omega)).1,h1 3 (by omega)⟩,
  λd3=>⟨trivial,trivial,trivial,trivial,λj=>[d0,d1,d2,d3].getD j 0,rfl,rfl,rfl⟩⟩⟩⟩⟩
theorem apt (p:Sd.aJ) (kn d:Nat->Nat) (b k0 k1 k2 k3 bq bt:Nat):ay [b,k0,k1,k2,k3,bq,bt] b ⟨true,⟨105,(0,0)⟩,S8 p kn d⟩=⟨b,true,.cells (qG p (λi=>some ⟨[k0,k1,k2,k3].getD i 0,0,none⟩) kn (λi=>kn i+d i) (⟨4,(p.i 55),(-1),(⟨0,0⟩:Sd.Timer),(⟨0,0⟩:Sd.Timer),false⟩:Sd.Tok) bq
 (f3 (⟨(0:Int),false,(λ_=>0)⟩:Sd.dG) (⟨(0:Int),false,(λ_=>0)⟩:Sd.dG) (⟨(0:Int),false,(λ_=>0)⟩:Sd.dG)) bt (0:Int) (0:Int) (p.i 39) (⟨2,4,0⟩:Sd.Label) (⟨1,(⟨0,0,0,0⟩:Sd.X4),(⟨0,0,0,0⟩:Sd.X4),(⟨2,4,0⟩:Sd.Label)⟩:Sd.eu) (λ_=>0)) 105 (0,0)⟩:=by kernel_rfl
theorem apu (p:Sd.aJ) (ka:Nat->Option aI) (kn kc:Nat->Nat) (kf:Nat->Nat->Int) (h:k_ p.i kn=0) (w:ae) (hk:∀i,i<4->dD w (ka i) (kn i) (kc i) (kf i)):
 aQ prog 11 #[.agg (jV p ka kn kc)] w λv w1=>∃(b bq bt:Nat) (xa:Nat->Option aI) (xc:Nat->Nat) (B:Nat->List ai),v=.tuple #[.pointer (some ⟨b,0,none⟩),.int .i64 0]/\(∀i,i<4->eA 5 (kn i) (kf i) (xa i) (xc i) (B i))/\St [] w ([⟨b,true,.cells (qG p xa kn xc (⟨4,(p.i 55),(-1),(⟨0,0⟩:Sd.Timer),(⟨0,0⟩:Sd.Timer),false⟩:Sd.Tok) bq (f3 (⟨(0:Int),false,(λ_=>0)⟩:Sd.dG) (⟨(0:Int),false,(λ_=>0)⟩:Sd.dG) (⟨(0:Int),false,(λ_=>0)⟩:Sd.dG)) bt (0:Int) (0:Int) (p.i 39) (⟨2,4,0⟩:Sd.Label) (⟨1,(⟨0,0,0,0⟩:Sd.X4),(⟨0,0,0,0⟩:Sd.X4),(⟨2,4,0⟩:Sd.Label)⟩:Sd.eu) (λ_=>0)) 105 (0,0)⟩,⟨bq,true,.cells #[.slice none 0 0,.int .i64 (p.i 48),.int .u64 0] 146 (0,0)⟩,⟨bt,true,.cells (iS (false,(⟨(0:Int),(0:Int)⟩:Sd.Timer)) (f3 (⟨false,⟨(0:Int),(0:Int)⟩,(0:Int),(λ_=>0),⟨false,(0:Int),(0:Int)⟩⟩:Sd.gz) (⟨false,⟨(0:Int),(0:Int)⟩,(0:Int),(λ_=>0),⟨false,(0:Int),(0:Int)⟩⟩:Sd.gz) (⟨false,⟨(0:Int),(0:Int)⟩,(0:Int),(λ_=>0),⟨false,(0:Int),(0:Int)⟩⟩:Sd.gz)) (p.i 42) (p.i 49)) 157 (0,0)⟩]++(B 0++(B 1++(B 2++(B 3++[]))))) w1:=by
 have qX:∀i,i<4->0<kn i:=by
  have:(xO kn&&rP (kn 3))=true:=by
   cases e:(xO kn&&rP (kn 3))with
   |true=>rfl
   |false=>exfalso;unfold k_ at h;repeat' split at h
           all_goals first|omega|(rename_i QY;simp[e]at QY)
  simp only[xO,rP,a_,decide_eq_true_eq]at this;intro i hi
  match i,hi with
  |0,_=>omega
  |1,_=>omega
  |2,_=>omega
  |3,_=>omega
  |i+4,h=>exact absurd h (by omega)
 have hx:∀i,∃x,i<4->ka i=some x:=by
  intro i;by_cases hi:i<4
  ·cases e:ka i with
   |none=>have:=((hk i hi).2.2.1 e).1;have:=qX i hi;omega
   |some x=>exact⟨x,λ_=>rfl⟩
  ·exact⟨⟨0,0,none⟩,λh=>absurd h hi⟩
 let ya:Nat->aI:=λi=>Classical.choose (hx i)
 have hy:∀i,i<4->ka i=some (ya i):=λi=>Classical.choose_spec (hx i);have e0:#[Value.agg (jV p ka kn kc)]=(aA [] [.agg (eK p (λi=>some (ya i)) kn kc)]).toArray:=by
  have e1:jV p ka kn kc=jV p (λi=>some (ya i)) kn kc:=by
   unfold jV;rw[hy 0 (by omega),hy 1 (by omega),hy 2 (by omega),hy 3 (by omega)]
  exact(congrArg (λx=>#[Value.agg x]) e1).trans (by kernel_rfl)
 rw[e0];have hv:Hd (bu (fE prog cR (Lq λ_=>(0,λ_=>0)) (G7 prog) SZ) 60 11 [.agg (eK p (λi=>some (ya i)) kn kc)] [] [.aX w] (bm 0 (KN w p kn kf))):=⟨by rw[apr];exact aps h (λi hi=>by rw[<-hy i hi];exact hk i hi) qX⟩;have hr:=aaW (C:=fE prog cR (Lq λ_=>(0,λ_=>0)) (G7 prog) SZ) aaX.T aaX.Q rfl hv (Y:=[]) (show St [] w (av [LG.aX w] []) w from Xe w);clear hv;refine hr.mono ?_;rintro v w' ⟨y,more,bl',ch',rfl,S9,S',hK⟩;obtain⟨v2,cD,bl2,e,dw,S2,d,rfl,rfl,rfl⟩:=h_ (n0:=0) (ids:=more) S9 (by simp) S' hK
 match cD,dw,e,S2 with
 |[b,k0,k1,k2,k3,bq,bt],_,e,S2=>
  refine⟨b,bq,bt,λi=>some ⟨[k0,k1,k2,k3].getD i 0,0,none⟩,λi=>kn i+d i,λi=>[⟨[k0,k1,k2,k3].getD i 0,true,.cells (bw (kn i) (kf i) (kn i+d i)) 5 (0,0)⟩],e,λi hi=>⟨wz _ _,.inr ⟨_,rfl,rfl⟩⟩,?_⟩;have Lu:∀(ids:List Nat) (k i:Nat),ay ids k (eg (kn i) (d i) (kf i))=⟨k,true,.cells (bw (kn i) (kf i) (kn i+d i)) 5 (0,0)⟩:=λids k i=>by unfold ay;rw[yg];rfl
  have el:lits [b,k0,k1,k2,k3,bq,bt] [b,k0,k1,k2,k3,bq,bt] (Lr p kn d kf)=ay [b,k0,k1,k2,k3,bq,bt] b ⟨true,⟨105,(0,0)⟩,S8 p kn d⟩::([ay [b,k0,k1,k2,k3,bq,bt] k0 (eg (kn 0) (d 0) (kf 0)),ay [b,k0,k1,k2,k3,bq,bt] k1 (eg (kn 1) (d 1) (kf 1)),ay [b,k0,k1,k2,k3,bq,bt] k2 (eg (kn 2) (d 2) (kf 2)),
   ay [b,k0,k1,k2,k3,bq,bt] k3 (eg (kn 3) (d 3) (kf 3))]++[⟨bq,true,.cells #[.slice none 0 0,.int .i64 (p.i 48),.int .u64 0] 146 (0,0)⟩,ay [b,k0,k1,k2,k3,bq,bt] bt (gp (Di p))]):=rfl
  rw[Lu,Lu,Lu,Lu,G6,apt]at el;have S3:=S2.sub (List.sublist_append_left _ _);have S4:St [] w (lits [b,k0,k1,k2,k3,bq,bt] [b,k0,k1,k2,k3,bq,bt] (Lr p kn d kf)) w':=S3;rw[el]at S4;exact S4.perm (ui _ List.perm_append_comm)
def aaY (i:Nat) (v:V):Bool:=match v with
 |.int .i64 _=>!iF i
 |.sl _ 0 _ _=>iF i
 |_=>false
def wc:List V->Nat->Bool
 |[],i=>ax i 56
 |v::l,i=>aaY i v&&wc l (i+1)
def sI:V->Nat|.sl i _ _ _=>i|_=>0
def sM:V->Nat|.sl _ _ n _=>n|_=>0
def sK:V->Nat|.sl _ _ _ c=>c|_=>0
def AH (ids:List Nat) (i:Nat) (v:V):ab:=bif iF i then .slice (some ⟨ids.getD (sI v) 0,0,none⟩) (sM v) (sK v)else .int .i64 (iN v)
theorem aaZ (ids:List Nat):∀(l:List V) (i:Nat),wc l i=true->i+l.length=56/\ah ids l=(bh l.length).map λj=>AH ids (i+j) (nth l j)
 |[],i,h=>⟨b9 h,rfl⟩
 |v::l,i,h=>by
  unfold wc at h;rw[a_]at h;obtain⟨h1,h2⟩:=aaZ ids l (i+1) h.2;refine⟨by simp;omega,?_⟩;rw[ly,uu,eQ,mG];simp only[ah,h2];have e:ah ids l=(bh l.length).map ((λj=>AH ids (i+j) (nth (v::l) j))∘Nat.succ):=by
   rw[h2];apply pH;intro j _;show AH ids (i+1+j) (nth l j)=AH ids (i+(j+1)) (nth l j);rw[show i+1+j=i+(j+1) by omega]
  rw[<-h2,e];have hv:cl v (den ids v)=[AH ids (i+0) (nth (v::l) 0)]:=by
   have h3:=h.1;unfold aaY at h3;split at h3
   ·have:iF i=false:=by simpa using h3
    simp only[cl,den,jx,jy,je,AH,nZ,this,cond_false,iN]
   ·simp only[cl,den,jx,jy,je,AH,nZ,h3,cond_true,sI,sM,sK]
   ·cases h3
  rw[hv];rfl
def Dj (ids:List Nat) (l:List V) (j:Nat):Option aI:=some ⟨ids.getD (sI (nth l (j+5))) 0,0,none⟩
def iG (l:List V) (j:Nat):Nat:=sM (nth l (j+5))
def we (l:List V) (j:Nat):Nat:=sK (nth l (j+5))
def nP (l:List V) (f:Nat->Sd.aw):Sd.aJ:=⟨λi=>iN (nth l i),λj=>(iG l j,f j)⟩
theorem aa0 {l:List V} (h:wc l 0=true) (f:Nat->Sd.aw) (ids:List Nat):(ah ids l).toArray=jV (nP l f) (Dj ids l) (iG l) (we l):=by
 obtain⟨h1,h2⟩:=aaZ ids l 0 h;rw[h2,show l.length=56 by omega];rfl
def Dk (bl:List VB) (v:V):Option (Nat×Sd.aw):=match v with
 |.sl i _ _ _=>(match bl[i]?with|some ⟨_,⟨5,(0,0)⟩,.bH .u8 m f::_⟩=>some (m,f)|_=>none)
 |_=>none
def mkK (l:List V) (f:Nat->Sd.aw) (ka:Nat->Option aI) (kc:Nat->Nat) (bq tg tc:Nat):LK:=⟨ka,iG l,kc,f,bq,tg,tc,iN (nth l 48),none,0,0,λ_=>0⟩
def ib (p:Sd.aJ):Sd.aa:=⟨.new p,[],[]⟩
structure G8 (l:List V) (n:Nat->Nat):Prop where
 code:k_ (λi=>iN (nth l i)) (iG l)=0
 n:∀j,j<4->n j=iG l j
 k:∀j,j<4->iG l j<=64/\iG l j<=we l j
structure G9 (l:List V) (f:Nat->Sd.aw) (tg tc:Nat) (p:Sd.aJ) (k:LK):Prop where
 eq:p=nP l f
 kn:k.kn=iG l
 kf:k.kf=f
 tg:k.tg=tg
 tc:k.tc=tc
 most:k.most=p.queue
 ln:k.px=none/\k.pn=0/\k.pc=0
def Lv:cP (LG fr):=λargs bl ch K=>match args,ch,bl with
 |[.agg l],.aX u::rest,⟨w0,⟨tg,(0,0)⟩,c0⟩::⟨w1,⟨tc,(0,0)⟩,c1⟩::bl2=>(match Dk (⟨w0,⟨tg,(0,0)⟩,c0⟩::⟨w1,⟨tc,(0,0)⟩,c1⟩::bl2) (nth l 5),Dk (⟨w0,⟨tg,(0,0)⟩,c0⟩::⟨w1,⟨tc,(0,0)⟩,c1⟩::bl2) (nth l 6),Dk (⟨w0,⟨tg,(0,0)⟩,c0⟩::⟨w1,⟨tc,(0,0)⟩,c1⟩::bl2) (nth l 7),Dk (⟨w0,⟨tg,(0,0)⟩,c0⟩::⟨w1,⟨tc,(0,0)⟩,c1⟩::bl2) (nth l 8)with
  |some (n0,f0),some (n1,f1),some (n2,f2),some (n3,f3)=>cond (wc l 0&&bI (bl2.length+2) (⟨w0,⟨tg,(0,0)⟩,c0⟩::⟨w1,⟨tc,(0,0)⟩,c1⟩::bl2))
   (G8 l (k4 n0 n1 n2 n3)/\∀(p:Sd.aJ) (k:LK) (F:a9 fr (aY k (ib p))),G9 l (k4 f0 f1 f2 f3) tg tc p k->cV=F.vs->cV=F.vr->
    K (.ao [.ptr (bl2.length+2) 0,.int .i64 0]) (⟨w0,⟨tg,(0,0)⟩,c0⟩::⟨w1,⟨tc,(0,0)⟩,c1⟩::(bl2++[gC k (bl2.length+3) (ib p),gp (ib p)])) (.aX u::.core (bb k (ib p) F) []::rest)) False
  |_,_,_,_=>False)
 |_,_,_=>False
theorem Lw {ids:List Nat} {bl:List VB} {X:List ai} {ms:List Nat} {w0 w:ae} {v:V} {m:Nat} {f:Sd.aw} (hl:ids.length=bl.length) (S:St ms w0 (lits ids ids bl++X) w) (h:Dk bl v=some (m,f)) (hm:m<=64) {c:Nat} (hc:m<=c):dD w (some ⟨ids.getD (sI v) 0,0,none⟩) m c f:=by
 unfold Dk at h;split at h
 ·rename_i i o n c';split at h
  ·rename_i wr m' f' r hb;obtain⟨rfl,rfl⟩:m'=m/\f'=f:=by simpa using h
   have aK:=(fp hl S hb).2;refine⟨by omega,hc,(λe=>nomatch e),λx e j hj=>?_⟩;obtain rfl:⟨ids.getD i 0,0,none⟩=x:=by simpa[sI]using e
   rw[hU,cell_of aK,eh];simp only[ah,cl,iX];rw[gI (by simpa using hj)];simp[mF hj]
  ·cases h
 ·cases h
theorem apv (k:LK) (p:Sd.aJ) (b bt:Nat):ay (cK b bt) b (gC k 3 (ib p))=⟨b,true,.cells (qG p k.ka k.kn k.kc ⟨4,p.i 55,-1,⟨0,0⟩,⟨0,0⟩,false⟩ k.bq (f3 ⟨0,false,λ_=>0⟩ ⟨0,false,λ_=>0⟩ ⟨0,false,λ_=>0⟩) bt 0 0 (p.i 39) ⟨2,4,0⟩ ⟨1,⟨0,0,0,0⟩,⟨0,0,0,0⟩,⟨2,4,0⟩⟩ (λ_=>0)) 105 (0,0)⟩:=by kernel_rfl
theorem apw (p:Sd.aJ) (bt:Nat):ay [] bt (gp (ib p))=⟨bt,true,.cells (iS (false,⟨0,0⟩) (f3 ⟨false,⟨0,0⟩,0,(λ_=>0),⟨false,0,0⟩⟩ ⟨false,⟨0,0⟩,0,(λ_=>0),⟨false,0,0⟩⟩ ⟨false,⟨0,0⟩,0,(λ_=>0),⟨false,0,0⟩⟩) (p.i 42) (p.i 49)) 157 (0,0)⟩:=by kernel_rfl
theorem aa1:Sound prog gS 11 (Lv (fr:=fr)):=by
 intro args ids bl ch R ms w0 w K hg hl S hc;unfold Lv at hc;split at hc
 ·rename_i l u rest G_ tg c0 Ha tc c1 bl2;split at hc
  ·rename_i n0 y0 n1 y1 n2 y2 n3 y3 e0 e1 e2 e3;cases hq:wc l 0&&bI (bl2.length+2) (⟨G_,⟨tg,(0,0)⟩,c0⟩::⟨Ha,⟨tc,(0,0)⟩,c1⟩::bl2)with
   |false=>rw[hq]at hc;exact hc.elim
   |true=>
    rw[hq]at hc;simp only[a_]at hq;obtain⟨⟨apx,hn,hk⟩,hK⟩:=hc;have m0:n0=iG l 0:=hn 0 (by decide);have m1:n1=iG l 1:=hn 1 (by decide);have m2:n2=iG l 2:=hn 2 (by decide);have m3:n3=iG l 3:=hn 3 (by decide);have xY:∀i,i<4->dD w (Dj ids l i) (iG l i) (we l i) (k4 y0 y1 y2 y3 i):=by
     intro i hi
     match i,hi with
     |0,_=>subst m0;exact Lw hl S e0 (hk 0 (by decide)).1 (hk 0 (by decide)).2
     |1,_=>subst m1;exact Lw hl S e1 (hk 1 (by decide)).1 (hk 1 (by decide)).2
     |2,_=>subst m2;exact Lw hl S e2 (hk 2 (by decide)).1 (hk 2 (by decide)).2
     |3,_=>subst m3;exact Lw hl S e3 (hk 3 (by decide)).1 (hk 3 (by decide)).2
     |i+4,h=>exact absurd h (by omega)
    have cC:(aA ids [.agg l]).toArray=#[.agg (jV (nP l (k4 y0 y1 y2 y3)) (Dj ids l) (iG l) (we l))]:=by
     simp only[aA,den,aa0 hq.1 (k4 y0 y1 y2 y3) ids]
    rw[cC];refine(apu (nP l (k4 y0 y1 y2 y3)) (Dj ids l) (iG l) (we l) (k4 y0 y1 y2 y3) apx w xY).mono ?_;rintro v w' ⟨b,bq,bt,xa,xc,B,rfl,hr,T⟩;have S2:=S.beside T (Wr.app (Wr.cons rfl (Wr.cons rfl (Wr.cons rfl Wr.nil))) (Wr.app (hr 0 (by decide)).wr (Wr.app (hr 1 (by decide)).wr (Wr.app (hr 2 (by decide)).wr (Wr.app (hr 3 (by decide)).wr Wr.nil)))))
    let k:LK:=mkK l (k4 y0 y1 y2 y3) xa xc bq tg tc
    let s:Sd.aa:=ib (nP l (k4 y0 y1 y2 y3))
    let F:a9 fr (aY k s):=⟨none,0,none,0,[⟨bq,true,.cells #[.slice none 0 0,.int .i64 k.most,.int .u64 0] 146 (0,0)⟩],[],[],[],B 0++(B 1++(B 2++(B 3++[]))),[],⟨[],none,0,0,[],rfl,wN _ _,trivial,rfl⟩,wN 6 75,wN 2 85,.nil,⟨B 0,B 1,B 2,B 3,[],rfl,hr 0 (by decide),hr 1 (by decide),hr 2 (by decide),hr 3 (by decide),M8 5⟩⟩
    have ng:ids.length=bl2.length+2:=by simpa using hl
    refine⟨_,[b,bt],_,_,?_,by simp[ng],?_,hK _ k F ⟨rfl,rfl,rfl,rfl,rfl,rfl,rfl,rfl,rfl⟩ rfl rfl⟩
    ·have h1:(ids++[b,bt]).getD (bl2.length+2) 0=b:=by rw[<-ng];simp[ij]
     simp only[den,aA,h1]
    ·have h2:(ids++[b,bt]).getD (bl2.length+3) 0=bt:=by rw[show bl2.length+3=ids.length+1 by omega];simp[ij]
     have e1:ay (ids++[b,bt]) b (gC k (bl2.length+3) s)=⟨b,true,.cells (qG (nP l (k4 y0 y1 y2 y3)) xa (iG l) xc ⟨4,(nP l (k4 y0 y1 y2 y3)).i 55,-1,⟨0,0⟩,⟨0,0⟩,false⟩ bq (f3 ⟨0,false,λ_=>0⟩ ⟨0,false,λ_=>0⟩ ⟨0,false,λ_=>0⟩) bt 0 0 ((nP l (k4 y0 y1 y2 y3)).i 39) ⟨2,4,0⟩ ⟨1,⟨0,0,0,0⟩,⟨0,0,0,0⟩,⟨2,4,0⟩⟩ (λ_=>0)) 105 (0,0)⟩:=by
      rw[aaA (a:=b) b h2];exact apv k (nP l (k4 y0 y1 y2 y3)) b bt
     have e2:ay (ids++[b,bt]) bt (gp s)=⟨bt,true,.cells (iS (false,⟨0,0⟩) (f3 ⟨false,⟨0,0⟩,0,(λ_=>0),⟨false,0,0⟩⟩ ⟨false,⟨0,0⟩,0,(λ_=>0),⟨false,0,0⟩⟩ ⟨false,⟨0,0⟩,0,(λ_=>0),⟨false,0,0⟩⟩) ((nP l (k4 y0 y1 y2 y3)).i 42) ((nP l (k4 y0 y1 y2 y3)).i 49)) 157 (0,0)⟩:=by
      rw[mn (ids':=[]) (Ga s)];exact apw (nP l (k4 y0 y1 y2 y3)) bt
     have e3:(⟨G_,⟨tg,(0,0)⟩,c0⟩::⟨Ha,⟨tc,(0,0)⟩,c1⟩::(bl2++[gC k (bl2.length+3) s,gp s]))=(⟨G_,⟨tg,(0,0)⟩,c0⟩::⟨Ha,⟨tc,(0,0)⟩,c1⟩::bl2)++[gC k (bl2.length+3) s,gp s]:=rfl;rw[e3,eZ _ _ _ _ hl,e_ _ _ (by rw[hl];exact hq.2)];show St ms w0 ((lits ids ids (⟨G_,⟨tg,(0,0)⟩,c0⟩::⟨Ha,⟨tc,(0,0)⟩,c1⟩::bl2)++[ay (ids++[b,bt]) b (gC k (bl2.length+3) s),ay (ids++[b,bt]) bt (gp s)])++(dv u++((F.B++[])++av rest R))) w';rw[e1,e2];have hF:F.B=⟨bq,true,.cells #[.slice none 0 0,.int .i64 ((nP l (k4 y0 y1 y2 y3)).i 48),.int .u64 0] 146 (0,0)⟩::(B 0++(B 1++(B 2++(B 3++[])))):=rfl;rw[hF];refine S2.perm ?_;show List.Perm (_++(_++(dv u++av rest R))) _;exact hJ λf=>by simp only[ik,yL,DQ];omega
  ·exact hc.elim
 ·exact hc.elim
theorem S_ (n:Nat):∀(l:List V) (i:Nat),nth (nO n l) i=gG n (nth l i)
 |[],_=>rfl
 |_::_,0=>rfl
 |_::l,i+1=>S_ n l i
theorem Tb {α:Type} (f:α->V):∀(l:List α) (i:Nat) (a:α),l[i]?=some a->nth (l.map f) i=f a
 |[],_,_,h=>by simp at h
 |x::l,0,a,h=>by simp at h;subst h;rfl
 |x::l,i+1,a,h=>Tb f l i a (by simpa using h)
section
variable(n:Nat) (p:Nat->Int) (kn d:Nat->Nat)
abbrev ie:List V:=nO n (Li p kn d)
theorem Lx {i:Nat} (hi:i<56) (hk:iF i=false):iN (nth (ie n p kn d) i)=p i:=by
 unfold ie;rw[S_,Li,Tb _ _ i i (by rw[mF hi]),hk];rfl
theorem aa2 {j:Nat} (hj:j<4):nth (ie n p kn d) (j+5)=.sl (j+n) 0 (kn j) (kn j+d j):=by
 unfold ie;rw[S_,Li,Tb _ _ (j+5) (j+5) (by rw[mF (by omega)])];have hk:iF (j+5)=true:=by
  match j,hj with
  |0,_=>rfl
  |1,_=>rfl
  |2,_=>rfl
  |3,_=>rfl
  |j+4,h=>exact absurd h (by omega)
 rw[hk,Nat.add_sub_cancel];rfl
theorem Dl {j:Nat} (hj:j<4):iG (ie n p kn d) j=kn j:=by unfold iG;rw[aa2 _ _ _ _ hj];rfl
theorem apy {j:Nat} (hj:j<4):we (ie n p kn d) j=kn j+d j:=by unfold we;rw[aa2 _ _ _ _ hj];rfl
end
theorem apz (x:Int):0<=bits .and .i64 x 15/\bits .and .i64 x 15<=15:=by
 have:=pN .i64 x 15 16 4 (by decide) (by decide) (by decide);omega
theorem apA (x:Int):0<=bits .and .i64 x 31/\bits .and .i64 x 31<=31:=by
 have:=pN .i64 x 31 32 5 (by decide) (by decide) (by decide);omega
theorem apB (x:Int):0<=bits .and .i64 x 65535/\bits .and .i64 x 65535<=65535:=by
 have:=pN .i64 x 65535 65536 16 (by decide) (by decide) (by decide);omega
theorem Tc (x:Int):na (bits .and .i64 x 14)=true:=by
 rw[ZQ];simp only[na,ji,a_,decide_eq_true_eq,beq_iff_eq];omega
theorem one_mod (a:Int) {m:Int} (h:0<m) (h2:m<=1000000):i64.wrap (1+cY a m)=1+cY a m:=by
 have:=Df a h h2;exact qI (by omega)
theorem AG.perm {q:Nat->Int} {o1 o2 o3:Int} (h:AG q o1 o2 o3):(o1=1/\o2=2/\o3=3)\/(o1=1/\o2=3/\o3=2)\/(o1=2/\o2=1/\o3=3)\/(o1=2/\o2=3/\o3=1)\/(o1=3/\o2=1/\o3=2)\/(o1=3/\o2=2/\o3=1):=by
 rcases h with⟨_,⟨_,a,b,c⟩|⟨_,a,b,c⟩⟩|⟨_,⟨_,a,b,c⟩|⟨_,a,b,c⟩⟩|⟨_,⟨_,a,b,c⟩|⟨_,a,b,c⟩⟩<;>subst a b c<;>simp
theorem aa3 {q:Nat->Int} {kn:Nat->Nat} (hp:(q 1=1/\q 2=2/\q 3=3)\/(q 1=1/\q 2=3/\q 3=2)\/(q 1=2/\q 2=1/\q 3=3)\/(q 1=2/\q 2=3/\q 3=1)\/(q 1=3/\q 2=1/\q 3=2)\/(q 1=3/\q 2=2/\q 3=1))
 (h0:q 0=0/\q 4=4/\q 9=1/\q 13=0/\q 50=0) (hk:∀j,j<4->1<=kn j/\kn j<=64) (hr:na (q 10)=true/\na (q 11)=true/\na (q 12)=true) (ht:∀i,14<=i->i<=33->0<=q i/\q i<=15) (hg:∀i,34<=i->i<=38->0<=q i/\q i<=31)
 (hm:∀i,39<=i->i<=41->0<=q i/\q i<=4) (hs:∀i,42<=i->i<=46->1<=q i/\q i<=1000) (hb:0<=q 47/\q 47<=1000) (hq:∀i,48<=i->i<=49->1<=q i/\q i<=3) (hl:∀i,51<=i->i<=53->0<=q i/\q i<=1000) (ha:1<=q 54/\q 54<=1000) (he:0<=q 55/\q 55<=65535):
 k_ q kn=0/\∀ks,Sd.eF ⟨q,ks⟩:=by
 obtain⟨z0,z4,z9,z13,z50⟩:=h0;have ub:∀{lo hi n:Int},lo<=n/\n<=hi->ji lo hi n=true:=λh=>by simp[ji,h.1,h.2]
 have apC:FX q=true:=by
  rcases hp with⟨a,b,c⟩|⟨a,b,c⟩|⟨a,b,c⟩|⟨a,b,c⟩|⟨a,b,c⟩|⟨a,b,c⟩<;>simp[FX,oW,z0,z4,a,b,c]
 have xY:(xO kn&&rP (kn 3))=true:=by
  have:=hk 0 (by decide);have:=hk 1 (by decide);have:=hk 2 (by decide);have:=hk 3 (by decide)
  simp only[xO,rP,a_,decide_eq_true_eq];omega
 have apD:(q 9==1&&(q 13==0&&Aa q))=true:=by simp[Aa,z9,z13,hr]
 have apE:FY q=true:=by
  simp only[FY,allI,a_];refine⟨?_,?_,?_,?_,?_⟩<;>refine⟨?_,?_,?_,?_,trivial⟩<;>exact ub (ht _ (by decide) (by decide))
 have hgr:allI 0 31 [q 34,q 35,q 36,q 37,q 38]=true:=by
  simp only[allI,a_];refine⟨?_,?_,?_,?_,?_,trivial⟩<;>exact ub (hg _ (by decide) (by decide))
 have hmo:allI 0 4 [q 39,q 40,q 41]=true:=by
  simp only[allI,a_];refine⟨?_,?_,?_,trivial⟩<;>exact ub (hm _ (by decide) (by decide))
 have hti:allI 1 1000 [q 42,q 43,q 44,q 45]=true:=by
  simp only[allI,a_];refine⟨?_,?_,?_,?_,trivial⟩<;>exact ub (hs _ (by decide) (by decide))
 have fw:(ji 1 1000 (q 46)&&ji 0 1000 (q 47))=true:=by rw[ub (hs 46 (by decide) (by decide)),ub hb];rfl
 have Hb:allI 1 3 [q 48,q 49]=true:=by
  simp only[allI,a_];refine⟨?_,?_,trivial⟩<;>exact ub (hq _ (by decide) (by decide))
 have AI:(q 50==0&&(allI 0 1000 [q 51,q 52,q 53]&&ji 1 1000 (q 54)))=true:=by
  rw[z50,ub ha];simp only[allI,a_];refine⟨by decide,⟨?_,?_,?_,trivial⟩,trivial⟩<;>exact ub (hl _ (by decide) (by decide))
 refine⟨?_,λks=>?_⟩
 ·unfold k_;rw[apC,xY,apD,apE,hgr,hmo,hti,fw,Hb,AI,ub he];rfl
 ·refine⟨z0,z4,hp,hm 39 (by decide) (by decide),hm 40 (by decide) (by decide),hm 41 (by decide) (by decide),hs 42 (by decide) (by decide),hs 43 (by decide) (by decide),hs 44 (by decide) (by decide),hs 45 (by decide) (by decide),hs 46 (by decide) (by decide),hb,hq 48 (by decide) (by decide),hq 49 (by decide) (by decide),?_,ha,he⟩;intro c hc;show 0<=q (50+c)/\q (50+c)<=1000
  match c,hc with
  |0,_=>rw[z50];decide
  |1,_=>exact hl 51 (by decide) (by decide)
  |2,_=>exact hl 52 (by decide) (by decide)
  |3,_=>exact hl 53 (by decide) (by decide)
  |c+4,h=>exact absurd h (by omega)
structure AJ (p:Nat->Int) (o1 o2 o3:Int) (q:Nat->Int):Prop where
 lo:∀i,i<=4\/(9<=i/\i<=41)\/(47<=i/\i<=55)->p i=mz o1 o2 o3 q i
 ti:∀i,42<=i->i<=46->1<=p i/\p i<=1000
theorem apF {o1 o2 o3:Int} {q:Nat->Int} {i:Nat} (h1:42<=i) (h2:i<=46):1<=mz o1 o2 o3 q i/\mz o1 o2 o3 q i<=1000:=by
 have:mz o1 o2 o3 q i=i64.wrap (1+cY (q i) 1000):=by
  have:i=42\/i=43\/i=44\/i=45\/i=46:=by omega
  rcases this with rfl|rfl|rfl|rfl|rfl<;>rfl
 rw[this,one_mod _ (by decide) (by decide)];have:=Df (q i) (m:=1000) (by decide) (by decide);omega
theorem AJ.ok {p:Nat->Int} {o1 o2 o3:Int} {q:Nat->Int} (h:AJ p o1 o2 o3 q) (ho:AG q o1 o2 o3) {kn:Nat->Nat} (hk:∀j,j<4->1<=kn j/\kn j<=64):k_ p kn=0/\∀ks,Sd.eF ⟨p,ks⟩:=by
 have g:=λi hi=>h.lo i hi;have md:=λ(i:Nat) (m:Int) (h1:0<m) (h2:m<=1000000)=>Df (q i) h1 h2;refine aa3 ?_ ⟨g 0 (by decide),g 4 (by decide),g 9 (by decide),g 13 (by decide),g 50 (by decide)⟩ hk ⟨?_,?_,?_⟩ ?_ ?_ ?_ h.ti ?_ ?_ ?_ ?_ ?_
 ·rw[g 1 (by decide),g 2 (by decide),g 3 (by decide)];exact ho.perm
 ·rw[g 10 (by decide)];exact Tc _
 ·rw[g 11 (by decide)];exact Tc _
 ·rw[g 12 (by decide)];exact Tc _
 ·intro i h1 h2;rw[g i (by omega)];have:mz o1 o2 o3 q i=bits .and .i64 (q i) 15:=by
   unfold mz;have e1:bA i 13=false:=by cases hb:bA i 13 with|false=>rfl|true=>exact absurd (dz hb) (by omega)
   have e2:bA i 33=true:=uj h2;rw[e1,e2];rfl
  rw[this];exact apz _
 ·intro i h1 h2;rw[g i (by omega)];have:mz o1 o2 o3 q i=bits .and .i64 (q i) 31:=by
   have:i=34\/i=35\/i=36\/i=37\/i=38:=by omega
   rcases this with rfl|rfl|rfl|rfl|rfl<;>rfl
  rw[this];exact apA _
 ·intro i h1 h2;rw[g i (by omega)];have:mz o1 o2 o3 q i=cY (q i) 5:=by
   have:i=39\/i=40\/i=41:=by omega
   rcases this with rfl|rfl|rfl<;>rfl
  rw[this];have:=md i 5 (by decide) (by decide);omega
 ·rw[g 47 (by decide)];have:=md 47 1001 (by decide) (by decide);show 0<=cY (q 47) 1001/\cY (q 47) 1001<=1000;omega
 ·intro i h1 h2;rw[g i (by omega)];have:mz o1 o2 o3 q i=i64.wrap (1+cY (q i) 3):=by
   have:i=48\/i=49:=by omega
   rcases this with rfl|rfl<;>rfl
  rw[this,one_mod _ (by decide) (by decide)];have:=md i 3 (by decide) (by decide);omega
 ·intro i h1 h2;rw[g i (by omega)];have:mz o1 o2 o3 q i=cY (q i) 1001:=by
   have:i=51\/i=52\/i=53:=by omega
   rcases this with rfl|rfl|rfl<;>rfl
  rw[this];have:=md i 1001 (by decide) (by decide);omega
 ·rw[g 54 (by decide)];show 1<=i64.wrap (1+cY (q 54) 1000)/\i64.wrap (1+cY (q 54) 1000)<=1000;rw[one_mod _ (by decide) (by decide)];have:=md 54 1000 (by decide) (by decide);omega
 ·rw[g 55 (by decide)];exact apB _
theorem nT {i:Nat} (h:i<5\/8<i):iF i=false:=by
 unfold iF;cases h1:bA 5 i with
 |false=>rfl
 |true=>
  cases h2:bA i 8 with
  |false=>rfl
  |true=>have:=dz h1;have:=dz h2;omega
theorem Made.I {x:j1} {p:Nat->Int} {n:Nat->Nat} (h:Made x p n):AJ p (p 1) (p 2) (p 3) x.q:=
 ⟨λi hi=>h.p i (by omega) (nT (by omega)),λi h1 h2=>by rw[h.p i (by omega) (nT (by omega))];exact apF h1 h2⟩
theorem AJ.at {p p':Nat->Int} {o1 o2 o3:Int} {q:Nat->Int} (h:AJ p o1 o2 o3 q) (e:∀i,i<56->iF i=false->p' i=p i):AJ p' o1 o2 o3 q:=
 ⟨λi hi=>by rw[e i (by omega) (nT (by omega))];exact h.lo i hi,λi h1 h2=>by rw[e i (by omega) (nT (by omega))];exact h.ti i h1 h2⟩
theorem aa4 {m:Nat} {p:Nat->Int} {n d:Nat->Nat} {o1 o2 o3:Int} {q:Nat->Int} (h:AJ p o1 o2 o3 q) (ho:AG q o1 o2 o3) (hn:∀j,j<4->1<=n j/\n j<=64):G8 (ie m p n d) n/\∀f,Sd.eF (nP (ie m p n d) f):=by
 have hb:∀j,j<4->1<=iG (ie m p n d) j/\iG (ie m p n d) j<=64:=λj hj=>by rw[Dl _ _ _ _ hj];exact hn j hj
 have h1:=(h.at (p':=λi=>iN (nth (ie m p n d) i)) (λi h1 h2=>Lx m p n d h1 h2)).ok ho hb;refine⟨⟨h1.1,λj hj=>(Dl _ _ _ _ hj).symm,λj hj=>⟨(hb j hj).2,?_⟩⟩,λf=>h1.2 _⟩;rw[Dl _ _ _ _ hj,apy _ _ _ _ hj];omega
theorem aa5 {l:List V} {f:Nat->Sd.aw} {tg tc:Nat} {p:Sd.aJ} {k:LK} (hN:G9 l f tg tc p k) (h:Sd.eF (nP l f)) (hk:∀j,j<4->1<=iG l j/\iG l j<=64):ew k (ib p):=by
 obtain⟨rfl,h1,h2,h3,h4,h5,h6⟩:=hN;exact⟨Sd.Inv.new h,Sd.Ext.new,λi hi=>by rw[h1];exact hk i hi,λi hi=>by rw[h1,h2];rfl,rfl,rfl⟩
end
end Go.Proofs.YtggfpcggakghnaaGreatDoor
