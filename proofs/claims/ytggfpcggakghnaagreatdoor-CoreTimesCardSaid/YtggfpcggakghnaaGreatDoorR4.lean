/- Part 4 of the proof. -/
import Derived.Test.YtggfpcggakghnaaGreatDoorR3
set_option linter.all false
set_option maxRecDepth 100000
set_option maxHeartbeats 4000000
open Go.Proofs.Tryz
open Go.IntKind (u8 u16 u32 u64 i64)
open Array renaming ext'->fM
open Bool renaming and_eq_true->bu,not_eq_true'->my
open Go renaming TypeId->aJ,Program->aL,Addr->aQ,Value->ae,World->ag,Operand->bh,FuncId->fL,heap_alloc_new->nT,MapEntry->vS
open Go.Builtin renaming append_->nU,zeroCells->oQ
open Go.Instr renaming findNow->PA
open Go.IntKind renaming signed->uA,bits->uz,wrap->yr
open Go.Result renaming andThen_ok->cK
open Go.Sem renaming run_bind->bE,run_pure->du
open Go.Value renaming int->eA
open Go.World renaming cell?->yq
open Int renaming le_trans->vW
open List renaming mem_filter->AE,getElem?_append_right->AF,getElem?_of_mem->AG,pairwise_cons->AK,singleton_append->AM,countP_cons->AP,countP_nil->AR,range_succ->Dd,mem_cons_self->De,flatMap_append->FH,length_filter_le->FJ,getElem?_set_ne->J1,length_singleton->Yq,take_zero->Yu,filter_cons->Yw,foldl_nil->Yx,append_assoc->bU,range->bw,append_nil->cH,mem_cons->cn,map_cons->eF,mem_append->fc,cons_append->fe,nil_append->fi,length_append->ft,length_cons->h_,countP_append->iI,getElem?_append_left->iq,getD->ir,getElem?_toArray->jQ,take_append_drop->jS,perm_middle->jU,getElem?_map->jt,mem_map->lP,map_map->lQ,sublist_append_right->mA,getElem?_range->nV,eq_nil_of_length_eq_zero->nf,replicate->nh,getD_eq_getElem?_getD->pH,map_congr_left->pI,mem_append_left->pJ,perm_append_comm_assoc->pM,not_mem_nil->pN,map_nil->s8,foldl_cons->sZ,mem_append_right->uy,ext_getElem?->vR,range_succ_eq_map->vU,mem_cons_of_mem->yu
open List.Perm renaming trans->Dg,append_left->pL,cons->uq
open List.Sublist renaming cons_cons->Df,trans->agQ,append_left->uv
open Nat renaming beq->az,ble->bG,blt->cD,lt_or_ge->cZ,eq_of_beq_eq_true->cz,le_refl->dH,le_of_ble_eq_true->dJ,zero_add->eY,blt_eq->iG,add_zero->pG,beq_refl->sY,eq_zero_or_pos->vP,le_add_right->yv
open Option renaming map_eq_some_iff->im
open Option.some renaming injEq->aY,inj->cG
open Prod.mk renaming inj->Dh,injEq->bC
namespace Go.Proofs.YtggfpcggakghnaaGreatDoor
section
open Go Go.RowKit Go.BigFrame Sx Vx
variable{fr:Sd.aF->Nat×Sd.ao}
def Np:List Int->List V
 |[]=>[]
 |n::l=>.int .i64 n::Np l
def Iu (l:List Int) (t:List ae):VB:=⟨true,⟨3,(0,0)⟩,Np l++[.rest t]⟩
def lc (x:Int) (A B:Prop):Prop:=match x with
 |.ofNat 0=>B
 |x=>cond (Sd.linked x) A B
theorem arf {x:Int} {A B:Prop} (h:cond (Sd.linked x) A B):lc x A B:=by
 unfold lc;split
 ·exact h
 ·exact h
def mn:List Bool->Int->List Int
 |[],_=>[]
 |b::l,n=>cond b (n::mn l (n+1)) (mn l (n+1))
def vx (t:Sd.aw):List Bool:=[t.uK,t.fA 0,t.fA 1,t.fA 2]
def Nq (t:Sd.aw):Prop:=(bY t.cN.2.n/\bY t.cN.2.most)/\(bY (t.ak 0).cI.n/\bY (t.ak 0).cI.most)/\(bY (t.ak 1).cI.n/\bY (t.ak 1).cI.most)/\(bY (t.ak 2).cI.n/\bY (t.ak 2).cI.most)
def Cv (bl:List VB) (ch:List (Gh fr)) (K:VK (Gh fr)) (n:Nat) (B:List ae->VB):Prop:=match n with
 |0=>∀(x:Option aQ) (c:Nat),K (.raw (.slice x 0 c)) bl ch
 |n+1=>∀(c:Nat) (t:List ae),K (.sl bl.length 0 (n+1) c) (bl++[B t]) ch
def Iv (bs:List Bool):dc (Gh fr):=λargs bl ch K=>match args with
 |[.ptr it 0]=>(match bl[it]?with
  |some ⟨true,⟨157,(0,0)⟩,tc⟩=>(match sw tc with
   |some y=>cond (bM bl.length bl) ((Nq (bD y)/\vx (bD y)=bs)/\Cv (bl.set it ⟨true,⟨157,(0,0)⟩,cM (nF (bD y).tick y.b y.m)⟩) ch K (mn bs 0).length (Iu (mn bs 0))) False
   |none=>False)
  |_=>False)
 |_=>False
def Iw:dc (Gh fr):=λargs bl ch K=>match args,ch with
 |[.raw vp],g::rest=>cond (bM bl.length bl) ((vp=vq g.d.k/\∀a∈g.d.q,bY a.dp.n/\bY a.dp.most)/\∀B (h:QS g.d.k.bq g.d.k.most (Sd.Q.kept g.d.q) B),
  (Sd.Q.gone g.d.q=[]->Cv bl (⟨{g.d with q:=Sd.Q.kept g.d.q},g.dx,g.sx,g.F.cC _ B h⟩::rest) K 0 (mV []))/\
  (∀a,Sd.Q.gone g.d.q=[a]->Cv bl (⟨{g.d with q:=Sd.Q.kept g.d.q},g.dx,g.sx,g.F.cC _ B h⟩::rest) K 1 (mV [a]))/\
  (∀a b,Sd.Q.gone g.d.q=[a,b]->Cv bl (⟨{g.d with q:=Sd.Q.kept g.d.q},g.dx,g.sx,g.F.cC _ B h⟩::rest) K 2 (mV [a,b]))/\
  (∀a b d,Sd.Q.gone g.d.q=[a,b,d]->Cv bl (⟨{g.d with q:=Sd.Q.kept g.d.q},g.dx,g.sx,g.F.cC _ B h⟩::rest) K 3 (mV [a,b,d]))) False
 |_,_=>False
def L9 (fr:Sd.aF->Nat×Sd.ao) (C:Sd.aK) (bs:List Bool):List (bR (Gh fr)):=⟨89,false,Iv bs⟩::⟨93,false,Iw⟩::L8 fr C
theorem arh (tk:Nat->Sd.ao->Option Sd.a9) (ht:Body (fr:=fr) 147 dY) (bs:List Bool) (h1:Sound prog gS 89 (Iv (fr:=fr) bs)) (h2:Sound prog gS 93 (Iw (fr:=fr))):aI prog gS (L9 fr (aq tk) bs):=
 aI.cons ⟨h1,λe=>by cases e⟩ (aI.cons ⟨h2,λe=>by cases e⟩ (EO tk ht))
section
variable(C:Sd.aK) (k:LK) (s0:Sd.aa) (Kb:SK fr k)
abbrev SC (fr:Sd.aF->Nat×Sd.ao) (k:LK):=(s:Sd.aa)->aX fr (aU k s)->List VB->Prop
def Cw (cont:SC fr k):List Int->SC fr k
 |[],s,F,j=>cont s F j
 |x::l,s,F,j=>cy k s F/\ig C [.int .i64 5,.int .i64 x,.int .i64 0,.int .i64 0,.int .i64 0] k (bP s) F λv s2 F2=>True/\lc x (cy k s2 F2/\tU C [.int .i64 x] k (bP s2) F2 λv s3 F3=>Cw cont l s3 F3 j) (Cw cont l s2 F2 j)
def ES (p:Sd.e_):Prop:=bY p.aT.a/\bY p.aT.b/\bY p.aT.c/\bY p.aT.d/\bY p.now.a/\bY p.now.b/\bY p.now.c/\bY p.now.d
def Cx (s:Sd.aa):Sd.aa:={s with c:={s.c with pt:=s.c.pt.step s.c.p}}
def ET:List Sd.Ask->SC fr k
 |[],s,F,j=>cy k s F/\Ct C [] k (bP s) F λv s2 F2=>(Sd.fk s2.c.p/\ES s2.c.pt)/\cY k s0 Kb (.av []) (bK k (Cx s2) F2++j) [bj k (Cx s2) F2]
 |a::l,s,F,j=>cy k s F/\vo [.int .i64 a.source,.int .i64 a.source,.int .i64 30] k (bP s) F λv s2 F2=>cy k s2 F2/\ig C [.int .i64 12,.int .i64 a.source,.int .i64 0,.int .i64 30,.int .i64 0] k (bP s2) F2 λv s3 F3=>ET l s3 F3 (j++[⟨true,⟨112,(0,0)⟩,MD a⟩])
def Vi:SC fr k:=λs F j=>(vq k=vq k/\∀a∈s.c.q,bY a.dp.n/\bY a.dp.most)/\∀B (h:QS k.bq k.most (Sd.Q.kept s.c.q) B),
 (Sd.Q.gone s.c.q=[]->∀(x:Option aQ) (c:Nat),ET C k s0 Kb [] (cC s (Sd.Q.kept s.c.q)) (F.cC (Sd.Q.kept s.c.q) B h) j)/\
 (∀a,Sd.Q.gone s.c.q=[a]->∀(c:Nat) (t:List ae),ET C k s0 Kb [a] (cC s (Sd.Q.kept s.c.q)) (F.cC (Sd.Q.kept s.c.q) B h) (j++[mV [a] t]))/\
 (∀a b,Sd.Q.gone s.c.q=[a,b]->∀(c:Nat) (t:List ae),ET C k s0 Kb [a,b] (cC s (Sd.Q.kept s.c.q)) (F.cC (Sd.Q.kept s.c.q) B h) (j++[mV [a,b] t]))/\
 (∀a b d,Sd.Q.gone s.c.q=[a,b,d]->∀(c:Nat) (t:List ae),ET C k s0 Kb [a,b,d] (cC s (Sd.Q.kept s.c.q)) (F.cC (Sd.Q.kept s.c.q) B h) (j++[mV [a,b,d] t]))
def EU:SC fr k:=λs F j=>(bY s.c.t.oa.n/\bY s.c.t.oa.most)/\cond (decide (s.c.t.tick.2>=0))
 (cy k (gO s s.c.t.tick.1) F/\vo [.int .i64 s.c.t.tick.1.aG,.int .i64 s.c.t.tick.2,.int .i64 30] k (bP (gO s s.c.t.tick.1)) F λv s2 F2=>cy k s2 F2/\ig C [.int .i64 12,.int .i64 s.c.t.tick.2,.int .i64 0,.int .i64 30,.int .i64 0] k (bP s2) F2 λv s3 F3=>Vi C k s0 Kb s3 F3 (j++[⟨true,⟨95,(0,0)⟩,di s.c.t.tick.1⟩]))
 (Vi C k s0 Kb (gO s s.c.t.tick.1) F (j++[⟨true,⟨95,(0,0)⟩,di s.c.t.tick.1⟩]))
def tkF (E:Sd.aw):List Int->SC fr k
 |[],s,F,j=>EU C k s0 Kb (vw s E) F j
 |x::l,s,F,j=>cy k s F/\ig C [.int .i64 5,.int .i64 x,.int .i64 0,.int .i64 0,.int .i64 0] k (vw s E) F λv s2 F2=>True/\lc x (cy k s2 F2/\tU C [.int .i64 x] k (bP s2) F2 λv s3 F3=>Cw C k (EU C k s0 Kb) l s3 F3 j) (Cw C k (EU C k s0 Kb) l s2 F2 j)
end
def ari (C:Sd.aK) (k:LK) (s:Sd.aa) (F:aX fr (aU k s)) (Kb:SK fr k) (l:List Int):Prop:=match l with
 |[]=>∀(x:Option aQ) (c:Nat),tkF C k s Kb (dA s.c.af).tick [] s F []
 |a::l=>∀(c:Nat) (t:List ae),tkF C k s Kb (dA s.c.af).tick (a::l) s F [Iu (a::l) t]
def mW (fr:Sd.aF->Nat×Sd.ao) (C:Sd.aK) (bs:List Bool):Prop:=∀(k:LK) (s:Sd.aa) (F:aX fr (aU k s)) (Kb:SK fr k),br (bZ prog gS (L9 fr C bs)) 90 54 [.ptr 2 0] (bK k s F) [bj k s F] (cY k s Kb)
 =((Nq (dA s.c.af)/\vx (dA s.c.af)=bs)/\ari C k s F Kb (mn bs 0))
def gN:Nat->Option Nat:=λ_=>none
def adb (a0 a1 a2 a3:List V) (b m:Int):VB:=⟨true,⟨157,(0,0)⟩,a0++(a1++(a2++(a3++[.int .i64 b,.int .i64 m])))⟩
def Vj (r:bm) (x:Int) (k:bm->Prop):Prop:=(r.v=r.v/\r.n+1<=1000000)/\∀(xa:Option aQ) (c:Nat) (bk:List aj) (h:fu r.z r.T (r.os++[.int .i64 x]) xa (r.n+1) c bk),k ⟨r.T,r.z,r.os++[.int .i64 x],xa,r.n+1,c,bk,h⟩
def Nr (on:Bool) (t:Sd.Timer) (arj ark arl:Prop):Prop:=cond (!on) arj ((bY t.n/\bY t.most)/\True/\cond t.step.due arl ark)
def Ns (on:Bool) (t:Sd.Timer):List V:=[.bool on,.int .i64 t.n,.int .i64 t.most]
def ade (x:Sd.fN):List V:=[.int .i64 x.role,.bS .u8 32 x.key,.bool x.seen.any,.int .i64 x.seen.high,.int .u64 x.seen.seen]
def adf:List V:=[.bool false,.int .i64 0,.int .i64 0]
def Nt:List V:=[.int .u8 0,.int .u8 0,.int .u8 0,.int .u8 0,.int .u8 0,.int .u8 0,.int .u8 0,.int .u8 0]
def arn:List V:=adf++(.int .i64 0::(Nt++(Nt++(Nt++(Nt++[.bool false,.int .i64 0,.int .u64 0])))))
def adg (x:Int):VB:=⟨true,⟨3,(0,0)⟩,[.int .i64 x]⟩
def Cy (s:Sd.fN) (x:Int) (j:List VB) (r:bm) (k:List V->List VB->bm->Prop):Prop:=
 Nr s.on s.cI (k (Ns s.on s.cI++ade s) j r) (k (Ns s.on s.cI.step++ade s) j r) (Vj r x (k arn (j++[adg x])))
def ttX (y:TC) (K:VK bm):Prop:=
 let S3 (a0 a1 a2:List V) (j:List VB) (r:bm):Prop:=Cy y.sb 3 j r λa3 j r=>K r.v (adb a0 a1 a2 a3 y.b y.m::j) [r]
 let S2 (a0 a1:List V) (j:List VB) (r:bm):Prop:=Cy y.sa 2 j r λa2 j r=>S3 a0 a1 a2 j r
 let S1 (a0:List V) (j:List VB) (r:bm):Prop:=Cy y.s0 1 j r λa1 j r=>S2 a0 a1 j r
 Nr y.s1 ⟨y.sn,y.sm⟩ (S1 (Ns y.s1 ⟨y.sn,y.sm⟩) [] (.nil 3 1)) (S1 (Ns y.s1 (Sd.Timer.step ⟨y.sn,y.sm⟩)) [] (.nil 3 1)) (Vj (.nil 3 1) 0 (S1 adf [adg 0]))
theorem aro (y:TC) (K:VK bm):br (l7 prog gN (qL bm QV)) 60 89 [.ptr 0 0] [⟨true,⟨157,(0,0)⟩,cM y⟩] [.nil 3 1] K=ttX y K:=by kernel_rfl
theorem adh {on:Bool} {t:Sd.Timer} {k0 k1 k2:Prop} (h:bY t.n/\bY t.most) (h0:on=false->k0) (h1:on=true->t.step.due=false->k1) (h2:on=true->t.step.due=true->k2):Nr on t k0 k1 k2:=by
 unfold Nr;cases on with
 |false=>exact h0 rfl
 |true=>exact⟨h,trivial,aM (λe=>h2 rfl e) (λe=>h1 rfl e)⟩
def Cz (r:bm) (l:List Int):Prop:=r.T=3/\r.z=1/\r.os=l.map (eA .i64)/\r.n=l.length/\l.length<=100
theorem adi {r:bm} {x:Int} {k:bm->Prop} {l:List Int} (h:Cz r l) (hl:l.length<100) (hk:∀r',Cz r' (l++[x])->k r'):Vj r x k:=by
 obtain⟨h1,h2,h3,h4,h5⟩:=h;refine⟨⟨rfl,by omega⟩,λxa c bk hh=>hk _ ⟨h1,h2,?_,?_,?_⟩⟩
 ·simp[h3]
 ·simp[h4]
 ·simp;omega
def CA (s:Sd.fN):Sd.fN:=if s.on then(if s.cI.step.due then Sd.fN.zero else{s with cI:=s.cI.step})else s
theorem Vk {s:Sd.fN} {x:Int} {j:List VB} {r:bm} {k:List V->List VB->bm->Prop} {l:List Int} (hb:bY s.cI.n/\bY s.cI.most) (h:Cz r l) (hl:l.length<100)
 (hk:∀a j' r',bo 0 a=true->ai [] a=ai [] (qO (CA s))->Cz r' (l++(if s.on&&s.cI.step.due then[x]else[]))->k a j' r'):Cy s x j r k:=by
 refine adh hb (λe=>hk _ _ _ rfl ?_ ?_) (λe e2=>hk _ _ _ rfl ?_ ?_) (λe e2=>adi h hl λr' hr=>hk _ _ _ rfl ?_ ?_)
 ·rw[CA,if_neg (by simp[e])];rfl
 ·simpa[e]using h
 ·simp only[CA,e,e2];rfl
 ·simpa[e,e2]using h
 ·simp only[CA,e,e2];kernel_rfl
 ·simpa[e,e2]using hr
def KT (y:TC):VK bm:=λv bl ch=>∃(a:List V) (j:List VB) (r:bm),v=r.v/\bl=⟨true,⟨157,(0,0)⟩,a⟩::j/\bo 0 a=true/\ch=[r]/\ai [] a=ai [] (cM (nF (bD y).tick y.b y.m))/\Cz r (mn (vx (bD y)) 0)
theorem Nu (ids:List Nat):∀a b:List V,ai ids (a++b)=ai ids a++ai ids b
 |[],b=>by simp[ai]
 |v::a,b=>by simp only[fe,ai,Nu ids a b,bU]
theorem adj (n:Nat):∀a b:List V,bo n (a++b)=(bo n a&&bo n b)
 |[],b=>by simp[bo]
 |v::a,b=>by simp only[fe,bo,adj n a b,Bool.and_assoc]
theorem arp (y:TC) (h:Nq (bD y)):ttX y (KT y):=by
 have e0:Cz (.nil 3 1) []:=⟨rfl,rfl,rfl,rfl,by simp⟩;have fin:∀(a0:List V) (l:List Int) (j:List VB) (r:bm),bo 0 a0=true->ai [] a0=ai [] [.bool (bD y).tick.cN.1,.int .i64 (bD y).tick.cN.2.n,.int .i64 (bD y).tick.cN.2.most]->Cz r l->l=(if(bD y).uK then[0]else[])->
  Cy y.s0 1 j r λa1 j r=>Cy y.sa 2 j r λa2 j r=>Cy y.sb 3 j r λa3 j r=>KT y r.v (adb a0 a1 a2 a3 y.b y.m::j) [r]:=by
  intro a0 l j r w0 ha hr hl;have tv:l.length<=1:=by rw[hl];split<;>simp
  refine Vk h.2.1 hr (by omega) λa1 j1 r1 w1 h1 k1=>?_;refine Vk h.2.2.1 k1 (by simp only[ft];split<;>simp<;>omega) λa2 j2 r2 w2 h2 k2=>?_;refine Vk h.2.2.2 k2 (by simp only[ft];split<;>split<;>simp<;>omega) λa3 j3 r3 w3 h3 k3=>?_;refine⟨_,j3,r3,rfl,rfl,?_,rfl,?_,?_⟩
  ·simp only[adj,w0,w1,w2,w3];rfl
  ·have e:cM (nF (bD y).tick y.b y.m)=[.bool (bD y).tick.cN.1,.int .i64 (bD y).tick.cN.2.n,.int .i64 (bD y).tick.cN.2.most]++(qO (CA y.s0)++(qO (CA y.sa)++(qO (CA y.sb)++[.int .i64 y.b,.int .i64 y.m]))):=rfl;rw[e];simp only[Nu,ha,h1,h2,h3]
  ·have e:mn (vx (bD y)) 0=l++(if y.s0.on&&y.s0.cI.step.due then[1]else[])++(if y.sa.on&&y.sa.cI.step.due then[2]else[])++(if y.sb.on&&y.sb.cI.step.due then[3]else[]):=by
    rw[hl];have f0:(bD y).fA 0=(y.s0.on&&y.s0.cI.step.due):=rfl;have f1:(bD y).fA 1=(y.sa.on&&y.sa.cI.step.due):=rfl;have f2:(bD y).fA 2=(y.sb.on&&y.sb.cI.step.due):=rfl;simp only[vx,mn,f0,f1,f2];cases(bD y).uK<;>cases(y.s0.on&&y.s0.cI.step.due)<;>cases(y.sa.on&&y.sa.cI.step.due)<;>cases(y.sb.on&&y.sb.cI.step.due)<;>rfl
   rw[e];exact k3
 have hs:(bD y).uK=(y.s1&&(Sd.Timer.step ⟨y.sn,y.sm⟩).due):=rfl;have ht:(bD y).tick.cN=if y.s1 then(if(Sd.Timer.step ⟨y.sn,y.sm⟩).due then(false,.zero)else(true,Sd.Timer.step ⟨y.sn,y.sm⟩))else(y.s1,⟨y.sn,y.sm⟩):=rfl
 refine adh h.1 (λe=>fin _ [] _ _ rfl ?_ e0 ?_) (λe e2=>fin _ [] _ _ rfl ?_ e0 ?_) (λe e2=>adi e0 (by simp) λr' hr=>fin _ [0] _ _ rfl ?_ hr ?_)
 ·rw[ht,if_neg (by simp[e])];rfl
 ·rw[hs,e];rfl
 ·rw[ht,if_pos e,if_neg (by simp[e2]),e];rfl
 ·rw[hs,e,e2];rfl
 ·rw[ht,if_pos e,if_pos e2];rfl
 ·rw[hs,e,e2];rfl
theorem adk {n:Nat} {b:VB} (hb:bo n b.c=true):∀{bl:List VB} (i:Nat),bM n bl=true->bM n (bl.set i b)=true
 |[],i,h=>by simp[bM]
 |x::l,0,h=>by simp only[bM,bu,List.set]at h⊢;exact⟨hb,h.2⟩
 |x::l,i+1,h=>by simp only[bM,bu,List.set]at h⊢;exact⟨h.1,adk hb i h.2⟩
theorem adl (ids:List Nat):∀l:List Int,ai ids (Np l)=l.map (eA .i64)
 |[]=>rfl
 |n::l=>by simp only[Np,ai,cl,den,adl ids l,eF,AM]
theorem adm {r:bm} {n:Nat} {B:List ae->VB} (hB:∀(ids:List Nat) (b:Nat) (t:List ae),aD ids b (B t)=⟨b,true,.cells (r.os++t).toArray r.T (0,0)⟩) (hn:r.n=n) {bl:List VB} {ids:List Nat} {ch:List (Gh fr)} {R:List aj} {ms:List Nat} {w0 w:ag} {K:VK (Gh fr)}
 (hl:ids.length=bl.length) (hw:bM bl.length bl=true) (S:St ms w0 (lits ids ids bl++(r.bl++aC ch R)) w) (hK:Cv bl ch K n B):
 ∃x more bl' ch',Value.slice r.x r.n r.c=den (ids++more) x/\(ids++more).length=bl'.length/\St ms w0 (lits (ids++more) (ids++more) bl'++aC ch' R) w/\K x bl' ch':=by
 obtain⟨h1,h2,h3⟩:=r.h;cases n with
 |zero=>
  refine⟨_,[],bl,ch,?_,by simpa using hl,?_,hK r.x r.c⟩
  ·simp only[den];rw[hn]
  ·rw[cH];exact S.sub (uv (mA _ _) _)
 |succ n=>
  rcases h3 with⟨_,hz,_⟩|⟨b,tail,hx,Uw,_⟩
  ·omega
  ·refine⟨_,[b],_,ch,?_,by simp[hl],?_,hK r.c tail⟩
   ·simp only[den];rw[<-hl,kZ,hx,hn]
   ·rw[fC _ _ _ _ hl,fD _ _ (by rw[hl];exact hw)];simp only[lits,hB,bU];rw[Uw]at S;exact S
theorem arq (bs:List Bool) (gl:Nat->Option Nat):Sound prog gl 89 (Iv (fr:=fr) bs):=by
 intro args ids bl ch R ms w0 w K hg hl S hc;unfold Iv at hc;split at hc
 ·rename_i it;split at hc
  ·rename_i tc hb;split at hc
   ·rename_i y hy;cases hq:bM bl.length bl with
    |false=>rw[hq]at hc;exact hc.elim
    |true=>
     rw[hq]at hc;obtain⟨⟨hT,hO⟩,hK⟩:=hc;obtain rfl:=xC hy;have hi:=iZ hb;obtain⟨r,hr,gE⟩:=U0 hl hi;have p1:=gE bl rfl;have S1:=S.perm (p1.append_right _);rw[iY hb]at S1;have S2:St ms w0 (lits [ids.getD it 0] [ids.getD it 0] [⟨true,⟨157,(0,0)⟩,cM y⟩]++aC [bm.nil 3 1] ((r.map λj=>aD ids (ids.getD j 0) (bl.getD j dk))++aC ch R)) w:=by
      have e:lits [ids.getD it 0] [ids.getD it 0] [⟨true,⟨157,(0,0)⟩,cM y⟩]=[aD ids (ids.getD it 0) ⟨true,⟨157,(0,0)⟩,cM y⟩]:=by
       simp only[lits,aD];have a:=jg (ids:=[]) (more:=[ids.getD it 0]) (cM y) rfl;have b:=jg (ids:=[]) (more:=ids) (cM y) rfl;simp only[fi]at a b;rw[a,b]
      rw[e];simpa[aC,bm.nil,Bl.B]using S1
     have main:=eO (kj (zM gN)).TR (kj (zM gN)).QR 60 (C:=l7 prog gN (qL bm QV)) (args:=[.ptr 0 0]) (K:=KT y) (λg i h=>by cases h) rfl S2 (by rw[aro];exact arp y hT);have a1:(aH ids [.ptr it 0]).toArray=(aH [ids.getD it 0] [.ptr 0 0]).toArray:=rfl;rw[a1];refine main.mono ?_;rintro v w' ⟨x,more,bl',ch',rfl,mS,S3,a,j,r',rfl,rfl,hwa,rfl,ha,hR⟩;have S4:St ms w0 (lits ids ids (bl.set it ⟨true,⟨157,(0,0)⟩,cM (nF (bD y).tick y.b y.m)⟩)++(r'.bl++aC ch R)) w':=by
      have p2:=gE (bl.set it ⟨true,⟨157,(0,0)⟩,cM (nF (bD y).tick y.b y.m)⟩) (by simp);have e3:(r.map λj=>aD ids (ids.getD j 0) ((bl.set it ⟨true,⟨157,(0,0)⟩,cM (nF (bD y).tick y.b y.m)⟩).getD j dk))=r.map λj=>aD ids (ids.getD j 0) (bl.getD j dk):=by
       apply pI;intro j hj;simp only[ir];rw[kO (Ne.symm (hr j hj))]
      rw[e3,iY (zX hi)]at p2;have e4:lits ([ids.getD it 0]++more) ([ids.getD it 0]++more) (⟨true,⟨157,(0,0)⟩,a⟩::j)=aD ids (ids.getD it 0) ⟨true,⟨157,(0,0)⟩,cM (nF (bD y).tick y.b y.m)⟩::lits ([ids.getD it 0]++more) more j:=by
       simp only[AM,lits,aD];have d1:=jg (ids:=[]) (more:=ids.getD it 0::more) a hwa;have d2:=jg (ids:=[]) (more:=ids) (cM (nF (bD y).tick y.b y.m)) rfl;simp only[fi]at d1 d2;rw[d1,d2,ha]
      rw[e4]at S3;simp only[aC,Bl.B]at S3;have S5:=S3.sub (bs':=aD ids (ids.getD it 0) ⟨true,⟨157,(0,0)⟩,cM (nF (bD y).tick y.b y.m)⟩::(r'.bl++((r.map λj=>aD ids (ids.getD j 0) (bl.getD j dk))++aC ch R))) (by
       rw[fe];exact Df _ (mA _ _))
      refine S5.perm ?_;refine Dg ?_ (p2.symm.append_right _);rw[fe];exact uq _ (pM _ _ _)
     obtain⟨x,cJ,bl2,ch2,g1,g2,g3,g4⟩:=adm (r:=r') (n:=(mn bs 0).length) (B:=Iu (mn bs 0)) (by
      intro ids b t;simp only[aD,Iu,Nu,adl,hR.2.2.1,hR.1,hO,ai,cl,cH]) (by rw[hR.2.2.2.1,hO]) (by simpa using hl) (by rw[List.length_set];exact adk (by rfl) it hq) S4 hK
     exact⟨x,cJ,bl2,ch2,by rw[<-g1];simp only[bm.v,den],g2,g3,g4⟩
   ·exact hc.elim
  ·exact hc.elim
 ·exact hc.elim
def jI (e:One):One:=⟨{e.a with dp:=e.a.dp.step},e.came⟩
def z_ (most came:Int) (gq:bm) (K:VK bm):List One->List VB->bm->bm->Prop
 |[],j,g1,g2=>K g1.v (cv g2.v most came::j) [g1,g2,gq]
 |e::l,j,g1,g2=>(bY e.a.dp.n/\bY e.a.dp.most)/\True/\cond e.a.dp.step.due
  (apps g1 (ai [] (pg (jI e).a)) λg1=>z_ most came gq K l (j++[⟨true,⟨162,(0,0)⟩,tR (jI e)⟩,⟨true,⟨112,(0,0)⟩,pg (jI e).a⟩]) g1 g2)
  (apps g2 (ai [] (tR (jI e))) λg2=>z_ most came gq K l (j++[⟨true,⟨162,(0,0)⟩,tR (jI e)⟩,⟨true,⟨162,(0,0)⟩,tR (jI e)⟩]) g1 g2)
def Ix (n:Nat) (most came:Int) (gq:bm) (es:List One) (K:VK bm):Prop:=
 (cv gq.v most came=cv gq.v most came/\gq.T=162/\gq.z=5/\gq.os=gL es/\gq.n=es.length/\es.length=n/\fJ es)/\H9 n es (λx c=>z_ most came gq K [] [] (.nil 112 4) (.nil 162 5)) (λc l t=>z_ most came gq K l [dE l t] (.nil 112 4) (.nil 162 5))
section
variable(most came:Int) (gq:bm) (es:List One) (K:VK bm)
abbrev LQ (n:Nat) (es:List One) (most came:Int):List (bR bm):=⟨68,false,MM n es most came⟩::qL bm QV
theorem ars:br (l7 prog gN (LQ 0 es most came)) 60 93 [.ptr 0 0] [cv gq.v most came] [.nil 112 4,.nil 162 5,gq] K=Ix 0 most came gq es K:=by kernel_rfl
theorem art:br (l7 prog gN (LQ 1 es most came)) 60 93 [.ptr 0 0] [cv gq.v most came] [.nil 112 4,.nil 162 5,gq] K=Ix 1 most came gq es K:=by kernel_rfl
theorem aru:br (l7 prog gN (LQ 2 es most came)) 60 93 [.ptr 0 0] [cv gq.v most came] [.nil 112 4,.nil 162 5,gq] K=Ix 2 most came gq es K:=by kernel_rfl
theorem arv:br (l7 prog gN (LQ 3 es most came)) 60 93 [.ptr 0 0] [cv gq.v most came] [.nil 112 4,.nil 162 5,gq] K=Ix 3 most came gq es K:=by kernel_rfl
end
def KQ (most came:Int) (gq:bm) (G:List Sd.Ask) (ko:List One):VK bm:=λv bl ch=>∃(j:List VB) (g1 g2:bm),v=g1.v/\bl=cv g2.v most came::j/\ch=[g1,g2,gq]/\xB g1 112 4 (qN G) G.length/\xB g2 162 5 (gL ko) ko.length
theorem adn:∀a b:List One,gL (a++b)=gL a++gL b
 |[],b=>rfl
 |x::a,b=>by simp only[fe,gL,adn a b,bU]
theorem Vl (most came:Int) (gq:bm):∀(l:List One) (j:List VB) (g1 g2:bm) (G:List Sd.Ask) (Kp:List One),xB g1 112 4 (qN G) G.length->xB g2 162 5 (gL Kp) Kp.length->G.length+l.length<100->Kp.length+l.length<100->
 (∀e∈l,bY e.a.dp.n/\bY e.a.dp.most)->z_ most came gq (KQ most came gq (G++((l.map jI).map (·.a)).filter λa=>a.dp.due) (Kp++(l.map jI).filter λe=>!e.a.dp.due)) l j g1 g2
 |[],j,g1,g2,G,Kp,h1,h2,_,_,_=>by
  refine⟨j,g1,g2,rfl,rfl,rfl,?_,?_⟩
  ·simpa using h1
  ·simpa using h2
 |e::l,j,g1,g2,G,Kp,h1,h2,l1,l2,hb=>by
  simp only[h_]at l1 l2;refine⟨hb e (by simp),trivial,aM (λhd=>Uu h1 (by omega) λr' hr=>?_) (λhd=>Uu h2 (by omega) λr' hr=>?_)⟩
  ·have gi:(jI e).a.dp.due=true:=hd;have:=Vl most came gq l (j++[⟨true,⟨162,(0,0)⟩,tR (jI e)⟩,⟨true,⟨112,(0,0)⟩,pg (jI e).a⟩]) r' g2 (G++[(jI e).a]) Kp (by rw[Ut,ft];exact hr) h2 (by simp;omega) (by omega) (λx hx=>hb x (by simp[hx]));simp only[eF,Yw,gi,if_true,Bool.not_true,Bool.false_eq_true,if_false];simpa[bU]using this
  ·have gi:(jI e).a.dp.due=false:=hd;have:=Vl most came gq l (j++[⟨true,⟨162,(0,0)⟩,tR (jI e)⟩,⟨true,⟨162,(0,0)⟩,tR (jI e)⟩]) g1 r' G (Kp++[jI e]) h1 (by rw[adn,ft];exact hr) (by omega) (by simp;omega) (λx hx=>hb x (by simp[hx]));simp only[eF,Yw,gi,Bool.false_eq_true,if_false,Bool.not_false,if_true];simpa[bU]using this
def xL (x y:Sd.Ask):Prop:=x.bb<y.bb/\¬x.source=y.source
theorem arw {es:List One} (h:fJ es):(b_ es).Pairwise xL:=by
 match es,h with
 |[],_=>simp[b_]
 |[x],_=>simp[b_]
 |[x,y],h=>simp only[fJ]at h;simp[b_,xL];exact h
 |[x,y,z],h=>
  simp only[fJ]at h;simp only[b_];split
  ·simp[xL];omega
  ·simp[xL];omega
 |_::_::_::_::_,h=>exact absurd h (by simp[fJ])
theorem arx {l:List One} (hl:l.length<=3) (h:(l.map (·.a)).Pairwise xL):fJ l/\b_ l=l.map (·.a):=by
 match l,hl,h with
 |[],_,_=>exact⟨trivial,rfl⟩
 |[x],_,_=>exact⟨trivial,rfl⟩
 |[x,y],_,h=>simp[xL]at h;exact⟨h,rfl⟩
 |[x,y,z],_,h=>
  simp[xL]at h;refine⟨⟨⟨h.1.1.1,h.1.2.1,by omega⟩,h.1.1.2,h.1.2.2,h.2.2⟩,?_⟩;simp only[b_,if_pos h.2.1];rfl
theorem ary {L:List Sd.Ask} (h:L.Pairwise xL):(Sd.Q.mE L).Pairwise xL:=by
 unfold Sd.Q.mE;rw[List.pairwise_map];exact h
theorem arz {bq:Nat} {most:Int} {L:List Sd.Ask} {B bs:List aj} {ms:List Nat} {w0 w:ag} (hQ:QS bq most L B) (hB:∀a∈L,bY a.dp.n/\bY a.dp.most) (S0:St ms w0 (B++bs) w):
 aV prog 93 #[.pointer (some ⟨bq,0,none⟩)] w λv w1=>∃(B':List aj) (r:bm),v=.slice r.x r.n r.c/\xB r 112 4 (qN (Sd.Q.gone L)) (Sd.Q.gone L).length/\QS bq most (Sd.Q.kept L) B'/\St ms w0 (r.bl++(B'++bs)) w1:=by
 obtain⟨es,x,c,came,rows,rfl,hr,hH,rfl⟩:=hQ;obtain⟨MO,nx⟩:=Uv hH
 let gq:bm:=⟨162,5,gL es,x,es.length,c,rows,hr⟩
 have S1:St ms w0 (lits [bq] [bq] [cv gq.v most came]++aC [bm.nil 112 4,.nil 162 5,gq] bs) w:=by simpa[lits,aC,Bl.B,bm.nil,gq,aD,cv,bm.v,ai,cl,den]using S0
 let KK:VK bm:=λv bl ch=>∃l:List One,l.map (·.a)=b_ es/\l.length=es.length/\KQ most came gq (((l.map jI).map (·.a)).filter λa=>a.dp.due) ((l.map jI).filter λe=>!e.a.dp.due) v bl ch
 have hq:∀(l:List One) (j:List VB),l.map (·.a)=b_ es->l.length=es.length->z_ most came gq KK l j (.nil 112 4) (.nil 162 5):=by
  intro l j hm hl;have h1:=Vl most came gq l j (.nil 112 4) (.nil 162 5) [] [] ⟨rfl,rfl,rfl,rfl⟩ ⟨rfl,rfl,rfl,rfl⟩ (by simp;omega) (by simp;omega) (λe he=>hB e.a (by rw[<-hm];exact lP.2 ⟨e,he,rfl⟩));have mono:∀(l:List One) (j:List VB) (g1 g2:bm) (K K':VK bm),(∀v bl ch,K v bl ch->K' v bl ch)->z_ most came gq K l j g1 g2->z_ most came gq K' l j g1 g2:=by
   intro l;induction l with
   |nil=>intro j g1 g2 K K' h hk;exact h _ _ _ hk
   |cons e l ih=>
    intro j g1 g2 K K' h hk;obtain⟨a1,a2,a3⟩:=hk;refine⟨a1,a2,?_⟩;cases hd:e.a.dp.step.due with
    |true=>rw[hd]at a3;exact⟨a3.1,λxa c bk hh=>ih _ _ _ K K' h (a3.2 xa c bk hh)⟩
    |false=>rw[hd]at a3;exact⟨a3.1,λxa c bk hh=>ih _ _ _ K K' h (a3.2 xa c bk hh)⟩
  exact mono _ _ _ _ _ _ (λv bl ch hk=>⟨l,hm,hl,by simpa using hk⟩) h1
 have hA:Ix es.length most came gq es KK:=by
  refine⟨⟨rfl,rfl,rfl,rfl,rfl,rfl,hH⟩,acy nx (λh0 x c=>hq [] [] ?_ ?_) (λl c t hm hl=>hq l _ hm hl)⟩
  ·rw[nf h0];rfl
  ·rw[h0];rfl
 have cS:br (l7 prog gN (LQ es.length es most came)) 60 93 [.ptr 0 0] [cv gq.v most came] [.nil 112 4,.nil 162 5,gq] KK:=by
  rcases(by omega:es.length=0\/es.length=1\/es.length=2\/es.length=3)with h|h|h|h<;>rw[h]at hA⊢
  ·rw[ars];exact hA
  ·rw[art];exact hA
  ·rw[aru];exact hA
  ·rw[arv];exact hA
 have dw:aI prog gN (LQ es.length es most came):=aI.cons ⟨acz _ es most came,λe=>by cases e⟩ (kj (zM gN));have main:=eO dw.TR dw.QR 60 (C:=l7 prog gN (LQ es.length es most came)) (args:=[.ptr 0 0]) (K:=KK) (λg i h=>by cases h) rfl S1 cS;refine Calls.mono main ?_;rintro e w' ⟨v,rfl,xx,more,bl',ch',rfl,mS,S3,l,hm,hl,j,g1,g2,rfl,rfl,rfl,h1,h2⟩;have hg:Sd.Q.gone (b_ es)=((l.map jI).map (·.a)).filter λa=>a.dp.due:=by
  rw[<-hm];simp only[Sd.Q.gone,Sd.Q.mE,lQ];rfl
 have hk:Sd.Q.kept (b_ es)=((l.map jI).filter λe=>!e.a.dp.due).map (·.a):=by
  rw[<-hm];simp only[Sd.Q.kept,Sd.Q.mE,lQ,List.filter_map];rfl
 have hko:((l.map jI).filter λe=>!e.a.dp.due).length<=3:=by
  have:=FJ (λe:One=>!e.a.dp.due) (l.map jI);simp at this⊢;omega
 obtain⟨Uy,jJ⟩:=arx hko (by rw[<-hk];exact(ary (arw hH)).filter _);obtain⟨t1,t2,t3,t4⟩:=h2;have yJ:=g2.h;rw[t1,t2,t3,t4]at yJ;refine⟨_,rfl,⟨bq,true,.cells #[.slice g2.x ((l.map jI).filter λe=>!e.a.dp.due).length g2.c,.int .i64 most,.int .u64 came] 146 (0,0)⟩::g2.bl,g1,?_,?_,?_,?_⟩
 ·simp only[bm.v,den]
 ·rw[hg];exact h1
 ·exact⟨_,g2.x,g2.c,came,g2.bl,rfl,yJ,Uy,by rw[jJ,hk]⟩
 ·have e1:lits ([bq]++more) ([bq]++more) (cv g2.v most came::j)=⟨bq,true,.cells #[.slice g2.x g2.n g2.c,.int .i64 most,.int .u64 came] 146 (0,0)⟩::lits ([bq]++more) more j:=rfl;rw[e1,t4]at S3;have S4:=S3.sub (bs':=⟨bq,true,.cells #[.slice g2.x ((l.map jI).filter λe=>!e.a.dp.due).length g2.c,.int .i64 most,.int .u64 came] 146 (0,0)⟩::(g1.bl++(g2.bl++bs))) (by
   rw[fe];refine Df _ ?_;refine agQ ?_ (mA _ _);exact uv (uv (mA _ _) _) _)
  refine S4.perm ?_;exact jU.symm
theorem arA (gl:Nat->Option Nat):Sound prog gl 93 (Iw (fr:=fr)):=by
 intro args ids bl ch R ms w0 w K hg hl S hc;unfold Iw at hc;split at hc
 ·rename_i vp g rest;cases hq:bM bl.length bl with
  |false=>rw[hq]at hc;exact hc.elim
  |true=>
   rw[hq]at hc;obtain⟨⟨rfl,hb⟩,hK⟩:=hc;have e0:aC (g::rest) R=g.F.B++aC rest R:=rfl;rw[e0,sD]at S;have hL:=arz g.F.hq hb (S.perm (Cn _ _ _ _ _ _ _));have ea:(aH ids [.raw (vq g.d.k)]).toArray=#[.pointer (some ⟨g.d.k.bq,0,none⟩)]:=rfl;rw[ea];refine hL.mono ?_;rintro v w1 ⟨B',r,rfl,hr,Nv,S1⟩;obtain⟨k0,k1,k2,k3⟩:=hK B' Nv;have S2:St ms w0 (lits ids ids bl++(r.bl++aC (⟨{g.d with q:=Sd.Q.kept g.d.q},g.dx,g.sx,g.F.cC _ B' Nv⟩::rest) R)) w1:=by
    have e1:aC (⟨{g.d with q:=Sd.Q.kept g.d.q},g.dx,g.sx,g.F.cC _ B' Nv⟩::rest:List (Gh fr)) R=(g.F.Br++(g.F.Bs++(g.F.Bf++(B'++g.F.Bk))))++aC rest R:=rfl;rw[e1];refine S1.perm ?_;refine(pL r.bl (Cn (lits ids ids bl) _ _ _ _ _ _).symm).trans ?_;exact pM _ _ _
   have hlen:(Sd.Q.gone g.d.q).length<=3:=by
    have h1:=ac7 g.F.hq;have:=FJ (λa:Sd.Ask=>a.dp.due) (Sd.Q.mE g.d.q);simp only[Sd.Q.gone,Sd.Q.mE,List.length_map]at this⊢;omega
   have fin:∀(A:List Sd.Ask) (n:Nat),Sd.Q.gone g.d.q=A->A.length=n->Cv bl (⟨{g.d with q:=Sd.Q.kept g.d.q},g.dx,g.sx,g.F.cC _ B' Nv⟩::rest) K n (mV A)->
    ∃x more bl' ch',Value.slice r.x r.n r.c=den (ids++more) x/\(ids++more).length=bl'.length/\St ms w0 (lits (ids++more) (ids++more) bl'++aC ch' R) w1/\K x bl' ch':=by
    rintro A n hA rfl hk;obtain⟨t1,t2,t3,t4⟩:=hr;rw[hA]at t3 t4;exact adm (r:=r) (B:=mV A) (λids b t=>by simp only[aD,mV,Nu,Vb,t3,t1,ai,cl,cH]) t4 hl hq S2 hk
   match hG:Sd.Q.gone g.d.q with
   |[]=>exact fin [] 0 hG rfl (k0 hG)
   |[a]=>exact fin [a] 1 hG rfl (k1 a hG)
   |[a,b]=>exact fin [a,b] 2 hG rfl (k2 a b hG)
   |[a,b,d]=>exact fin [a,b,d] 3 hG rfl (k3 a b d hG)
   |_::_::_::_::_=>rw[hG]at hlen;simp at hlen
 ·exact hc.elim
def jq (n:Nat) (f:Nat->Int):Sd.a9:=match ay n f with
 |some m=>m
 |none=>Sd.c_ 0
def tZ (n:Nat) (f:Nat->Int):Int:=match ay n f with
 |some _=>0
 |none=>13
def xM (n:Nat) (f:Nat->Int):V:=.av [.agg (cQ (jq n f)),.int .i64 (tZ n f)]
theorem Vm (n:Nat) (f:Nat->Int):oF n f=xM n f:=by
 unfold oF xM jq tZ;cases ay n f<;>rfl
theorem Vn (n:Nat) (f:Nat->Int):cR 0 (xM n f)=true:=rfl
theorem arB (x:Option aQ) (c:Nat) (X:V->Prop):br (rS prog l_ EK) 90 143 [.raw (.slice x 0 c)] [] [] (λv _ _=>X v)=X oB:=by kernel_rfl
theorem take_nil (x:Option aQ) (c:Nat) (f:Nat->Int) (w:ag):aV prog 143 #[.slice x 0 c] w λv w1=>v=den [] (oF 0 f)/\Ch [] w w1:=by
 have cS:br (rS prog l_ EK) 90 143 [.raw (.slice x 0 c)] [] [] (λv _ _=>v=oB):=by rw[arB]
 refine(eO Ni.TS Ni.QS 90 (C:=rS prog l_ EK) (ids:=[]) (bl:=[]) (ch:=[]) (R:=[]) (ms:=[]) (w0:=w) (args:=[.raw (.slice x 0 c)]) (λg i h=>by cases h) rfl (St.nil [] w) cS).mono ?_;rintro v w' ⟨x,more,bl',ch',rfl,mS,S2,rfl⟩;refine⟨?_,S2.ch⟩;have:=gf (ids:=[]) (more:=[]++more) oB rfl;have e:oF 0 f=oB:=rfl;rw[e];simpa using this
theorem ado {b m n c:Nat} {f:Nat->Int} {t:List ae} {w:ag} (hf:By f) (hn:n<=m) (hc:n<=c) (hB:w.heap[b]?=some (.cells ((bw m).map (λj=>eA .u8 (f j))++t).toArray 5 (0,0))):
 aV prog 143 #[.slice (some ⟨b,0,none⟩) n c] w λv w1=>v=den [] (oF n f)/\Ch [] w w1:=by
 refine aqF b n c f (((bw m).map (λj=>eA .u8 (f j))).drop n++t) hf hc w ?_;have e:(bw n).map (λj=>eA .u8 (f j))=((bw m).map (λj=>eA .u8 (f j))).take n:=by
  rw[<-List.map_take,List.take_range,Nat.min_eq_left hn]
 rw[e,<-bU,jS];exact hB
def Nw:QF:=⟨143,λargs bl=>match args with
 |[.sl i 0 n c]=>(match bl[i]?with
  |some b=>(match b.c with
   |[.bS .u8 m f,.rest t]=>bif yQ b.ty 5 then some ((n<=m/\n<=c/\By f),xM n f)else none
   |_=>none)
  |none=>none)
 |[.raw (.slice x 0 c)]=>some (True,xM 0 λ_=>0)
 |_=>none⟩
theorem adp (gl:Nat->Option Nat):Nw.Ok prog gl:=by
 intro args bl p v h hp ids w hg hm;unfold Nw at h;dsimp only at h;split at h
 ·rename_i i n c;split at h
  ·rename_i b hb;split at h
   ·rename_i m f t hc;cases hq:yQ b.ty 5 with
    |false=>rw[hq]at h;cases h
    |true=>
     rw[hq]at h;simp only[cond_true,aY,bC]at h;obtain⟨rfl,rfl⟩:=h;have aP:=hm.2 i b hb;rw[hc,QD hq]at aP;have e:(ai ids [V.bS .u8 m f,.rest t]).toArray=((bw m).map (λj=>eA .u8 (f j))++t).toArray:=by simp[ai,cl]
     rw[e]at aP;refine(ado hp.2.2 hp.1 hp.2.1 aP).mono ?_;rintro x w' ⟨rfl,cB⟩;refine⟨?_,cB⟩;rw[Vm];have:=gf (ids:=[]) (more:=ids) (xM n f) (Vn n f);simpa using this.symm
   ·cases h
  ·cases h
 ·rename_i x c;obtain⟨rfl,rfl⟩:True=p/\xM 0 (λ_=>0)=v:=by simpa using h
  refine(take_nil x c (λ_=>0) w).mono ?_;rintro y w' ⟨rfl,cB⟩;refine⟨?_,cB⟩;rw[Vm];have:=gf (ids:=[]) (more:=ids) (xM 0 λ_=>0) (Vn 0 _);simpa using this.symm
 ·cases h
theorem arC:Sound prog gS 143 (Cu (fr:=fr) (aq ay)):=by
 intro args ids bl ch R ms w0 w K hg hl S hc;unfold Cu at hc;split at hc
 ·rename_i vp g rest;obtain⟨⟨rfl,hn,hf⟩,h1,h2⟩:=hc;have e0:aC (g::rest) R=g.F.B++aC rest R:=rfl;have S':=S;rw[e0]at S';have main:aV prog 143 #[.slice g.d.k.px g.d.k.pn g.d.k.pc] w λv w1=>v=den [] (oF g.d.k.pn g.d.k.pf)/\Ch [] w w1:=by
   obtain⟨b0,b1,b2,b3,b4,hB,k0,k1,k2,k3,k4⟩:=g.F.hk;have aP:∀y∈g.F.Bk,w.heap[y.id]?=some y.obj:=λy hy=>S'.at' (by rw[sD];simp[hy]);rw[hB]at aP;obtain⟨hle,h|⟨b,hx,hb⟩⟩:=k4
   ·obtain⟨_,hz,_,_⟩:=h;rw[hz];exact take_nil _ _ _ w
   ·have h4:=aP ⟨b,true,.cells (bI g.d.k.pn g.d.k.pf g.d.k.pc) 5 (0,0)⟩ (by simp[hb]);rw[hx];have e:∃t,bI g.d.k.pn g.d.k.pf g.d.k.pc=((bw g.d.k.pn).map (λj=>eA .u8 (g.d.k.pf j))++t).toArray:=by
     exact⟨nh (g.d.k.pc-g.d.k.pn) (.int .u8 0),by unfold bI;congr 2⟩
    obtain⟨t,e⟩:=e;rw[e]at h4;exact ado hf (dH _) hle h4
  have ea:(aH ids [.raw (eU g.d.k)]).toArray=#[.slice g.d.k.px g.d.k.pn g.d.k.pc]:=rfl;rw[ea];refine main.mono ?_;rintro v w1 ⟨rfl,cB⟩;refine⟨oF g.d.k.pn g.d.k.pf,[],bl,g::rest,?_,by simpa using hl,by simpa using S.quiet cB,?_⟩
  ·rw[Vm];have:=gf (ids:=[]) (more:=ids++[]) (xM g.d.k.pn g.d.k.pf) (Vn _ _);simpa using this.symm
  ·unfold oF;cases h:ay g.d.k.pn g.d.k.pf with
   |some m=>exact h1 m h
   |none=>exact h2 h (Sd.c_ 0) 13 (by decide)
 ·exact hc.elim
theorem arD (ht:Body (fr:=fr) 147 dY):Body (fr:=fr) 98 (EP (aq ay)):=are ay ht arC
def pY (b m:Int):Sd.aO:=⟨λi=>if i=42 then b else if i=49 then m else 0,λ_=>(0,λ_=>0)⟩
def adq:QT:=⟨149,λar y=>match ar with
 |[.int .i64 s,.int .i64 r,.agg [.bS .u8 32 key]]=>some ((0<=y.b/\y.b<=1000)/\1<=s/\s<=3,.int .i64 (Sd.aw.eL (pY y.b y.m) (bD y) s r key).2,(Sd.aw.eL (pY y.b y.m) (bD y) s r key).1)
 |_=>none⟩
theorem arE:adq.Ok:=by
 intro ar y p v t hm hp bt bs ms w0 w S;replace hm:(match(generalizing:=false) ar with
  |[.int .i64 s,.int .i64 r,.agg [.bS .u8 32 key]]=>some ((0<=y.b/\y.b<=1000)/\1<=s/\s<=3,V.int .i64 (Sd.aw.eL (pY y.b y.m) (bD y) s r key).2,(Sd.aw.eL (pY y.b y.m) (bD y) s r key).1)
  |_=>none)=some (p,v,t):=hm
 split at hm
 ·rename_i s r key;simp only[aY,bC]at hm;obtain⟨rfl,rfl,rfl⟩:=hm;obtain⟨hb,h1,h3⟩:=hp;rcases(by omega:s=1\/s=2\/s=3)with rfl|rfl|rfl
  ·exact UI y 0 (by omega) r key (pY y.b y.m) rfl rfl S
  ·exact UI y 1 (by omega) r key (pY y.b y.m) rfl rfl S
  ·exact UI y 2 (by omega) r key (pY y.b y.m) rfl rfl S
 ·cases hm
def Iy:dc (Gh fr):=λargs bl ch K=>match args,ch with
 |[.agg [.int .i64 m,.bool o,.bS .u8 8 nc],.raw vk,.int .i64 s,.int .i64 r,.agg [.bS .u8 8 pf]],g::rest=>
  (vk=.slice (g.d.k.ka (s.toNat-1)) (g.d.k.kn (s.toNat-1)) (g.d.k.kc (s.toNat-1))/\bl[0]?=some (cw g.d.k)/\(1<=s/\s<=3)/\(0<=r/\r<4294967296)/\(1<=g.d.k.kn (s.toNat-1)/\g.d.k.kn (s.toNat-1)<=64))/\
  cond (!o) (K (.av [.agg [.int .i64 m,.bool o,.bS .u8 8 nc],.agg [.bS .u8 32 λ_=>0],.int .i64 17]) bl (g::rest))
   (cond (xn (g.d.k.kn (s.toNat-1)) (g.d.k.kf (s.toNat-1)) s r nc pf)
    (K (.av [.agg [.int .i64 m,.bool false,.bS .u8 8 λ_=>0],.agg [.bS .u8 32 (jm (g.d.k.kn (s.toNat-1)) (g.d.k.kf (s.toNat-1)) s r nc)],.int .i64 0]) bl (g::rest))
    (K (.av [.agg [.int .i64 m,.bool false,.bS .u8 8 λ_=>0],.agg [.bS .u8 32 λ_=>0],.int .i64 14]) bl (g::rest)))
 |_,_=>False
theorem arF:ia (Iy (fr:=fr)):=by
 intro args bl ch K h;unfold Iy at h⊢;split at h
 ·rename_i m o nc vk s r pf g rest;refine⟨h.1,?_⟩;have h2:=h.2;cases o with
  |false=>exact⟨h2,[],by simp⟩
  |true=>
   cases hr:xn (g.d.k.kn (s.toNat-1)) (g.d.k.kf (s.toNat-1)) s r nc pf with
   |true=>rw[hr]at h2;exact⟨h2,[],by simp⟩
   |false=>rw[hr]at h2;exact⟨h2,[],by simp⟩
 ·exact h.elim
theorem arG:Sound prog gS 148 (Iy (fr:=fr)):=by
 intro args ids bl ch R ms w0 w K hg hl S hc;unfold Iy at hc;split at hc
 ·rename_i m o nc vk s r pf g rest;obtain⟨⟨rfl,hr,hs,Nx,hk⟩,hK⟩:=hc;have e0:aC (g::rest) R=g.F.B++aC rest R:=rfl;have S':=S;rw[e0]at S';have hi:s.toNat-1<4:=by omega
  have z5:=ac8 g.F S' (s.toNat-1) hi (by omega) (by omega);have lr:=ac9 hg hl S hr;generalize hI:s.toNat-1=i at*;have e:(aH ids [.agg [.int .i64 m,.bool o,.bS .u8 8 nc],.raw (.slice (g.d.k.ka i) (g.d.k.kn i) (g.d.k.kc i)),.int .i64 s,.int .i64 r,.agg [.bS .u8 8 pf]]).toArray=#[.agg #[.int .i64 m,.bool o,.int .u8 (nc 0),.int .u8 (nc 1),.int .u8 (nc 2),.int .u8 (nc 3),.int .u8 (nc 4),.int .u8 (nc 5),.int .u8 (nc 6),.int .u8 (nc 7)],.slice (g.d.k.ka i) (g.d.k.kn i) (g.d.k.kc i),.int .i64 s,.int .i64 r,.agg (aE .u8 8 pf)]:=by kernel_rfl
  rw[e];have qc:0<=s/\s<4294967296:=by omega
  cases o with
  |false=>
   refine(amk (g.d.k.ka i) (g.d.k.kn i) (g.d.k.kc i) (g.d.k.kf i) s r ⟨m,false,nc⟩ pf rfl w).mono ?_;rintro v w1 ⟨rfl,cB⟩;exact⟨_,[],bl,g::rest,by kernel_rfl,by simpa using hl,by simpa using S.quiet cB,hK⟩
  |true=>
   cases hq:xn (g.d.k.kn i) (g.d.k.kf i) s r nc pf with
   |true=>
    rw[hq]at hK;refine(amm (g.d.k.ka i) (g.d.k.kn i) (g.d.k.kc i) (g.d.k.kf i) s r ⟨m,true,nc⟩ pf hk qc Nx rfl hq w lr z5).mono ?_;rintro v w1 ⟨rfl,cB⟩;exact⟨.av [.agg [.int .i64 m,.bool false,.bS .u8 8 λ_=>0],.agg [.bS .u8 32 (jm (g.d.k.kn i) (g.d.k.kf i) s r nc)],.int .i64 0],[],bl,g::rest,by kernel_rfl,by simpa using hl,by simpa using S.quiet cB,hK⟩
   |false=>
    rw[hq]at hK;refine(aml (g.d.k.ka i) (g.d.k.kn i) (g.d.k.kc i) (g.d.k.kf i) s r ⟨m,true,nc⟩ pf hk qc Nx rfl hq w lr z5).mono ?_;rintro v w1 ⟨rfl,cB⟩;exact⟨.av [.agg [.int .i64 m,.bool false,.bS .u8 8 λ_=>0],.agg [.bS .u8 32 λ_=>0],.int .i64 14],[],bl,g::rest,by kernel_rfl,by simpa using hl,by simpa using S.quiet cB,hK⟩
 ·exact hc.elim
def LP (fr:Sd.aF->Nat×Sd.ao) (C:Sd.aK):List (bR (Gh fr)):=qE (Gh fr) Nw::⟨148,true,Iy⟩::⟨149,false,EH adq⟩::L8 fr C
theorem arH (tk:Nat->Sd.ao->Option Sd.a9) (ht:Body (fr:=fr) 147 dY):aI prog gS (LP fr (aq tk)):=
 aI.cons ⟨Lm (adp gS),λ_=>Ll _⟩ (aI.cons ⟨arG,λ_=>arF⟩ (aI.cons (U1 arE) (EO tk ht)))
def fh (n:Nat) (f:Nat->Int) (t:List ae):VB:=⟨true,⟨5,(0,0)⟩,[.bS .u8 n f,.rest t]⟩
def Vo (k:LK) (s:Sd.aa) (n:Nat) (f:Nat->Int) (t:List ae) (Kb:SK fr k):V->List VB->List (Gh fr)->Prop:=λv bl ch=>∃s' F',cR 0 v=true/\s'.c.p=s.c.p/\Kb v s' F'/\bl.take 6=bK k s' F'++[fh n f t]/\ch=[bj k s' F']
def Iz (s:Sd.aa) (a b c:Sd.eC) (E:Sd.aw):Sd.aa:={s with c:={s.c with doors:=r3 a b c s.c.doors,af:=⟨E.cN,r3 (E.ak 0) (E.ak 1) (E.ak 2) s.c.af.ak⟩}}
def EV (s:Sd.aa) (l r:Int) (key:Nat->Int):Sd.aw×Int:=Sd.aw.eL (pY s.c.p.bV s.c.p.fj) (dA s.c.af) l r key
section
variable(C:Sd.aK) (k:LK) (s:Sd.aa) (F:aX fr (aU k s)) (Kb:SK fr k) (l:Int) (i:Nat) (e:Nat) (f:Nat->Int) (t:List ae) (D:Sd.eC->Sd.aa) (DT:Sd.eC->Sd.aw->Sd.aa)
def lf (s0:Sd.aa) (s':Sd.aa) (F':aX fr (aU k s')):Prop:=Vo k s0 10 f t Kb (.av []) (bK k s' F'++[fh 10 f t]) [bj k s' F']
def kS (d:Sd.eC):Sd.eC:=⟨d.many,false,λ_=>0⟩
def Vp (hD:∀e,aU k (D e)=aU k s) (vy:∀e E,aU k (DT e E)=aU k s):Prop:=
 let d:=s.c.doors i
 let m:=jq 2 f
 let key:=jm (k.kn i) (k.kf i) l m.role d.aA
 let E:=EV s l m.role key
 (2<=10/\2<=e+10/\By f)/\cond (tZ 2 f !=0) (cy k s F/\qP C [.int .i64 l,.int .i64 13] k (bP s) F λv s' F'=>lf k Kb f t s s' F')
 ((Value.slice (k.ka i) (k.kn i) (k.kc i)=.slice (k.ka i) (k.kn i) (k.kc i)/\some (cw k)=some (cw k)/\(1<=l/\l<=3)/\(0<=m.role/\m.role<4294967296)/\(1<=k.kn i/\k.kn i<=64))/\
   cond (!d.iA) (cy k (D d) (hD d▸F)/\mi C [.int .i64 l,.int .i64 0,.int .i64 17] k (D d) (hD d▸F) λv s' F'=>lf k Kb f t s s' F')
   (cond (xn (k.kn i) (k.kf i) l m.role d.aA λj=>f (2+j))
    (True/\cond (!(Sd.jf s.c.p l m.role)) (cy k (D (kS d)) (hD (kS d)▸F)/\mi C [.int .i64 l,.int .i64 0,.int .i64 18] k (D (kS d)) (hD (kS d)▸F) λv s' F'=>lf k Kb f t s s' F')
     (((0<=s.c.p.bV/\s.c.p.bV<=1000)/\1<=l/\l<=3)/\cond (E.2!=0) (cy k (DT (kS d) E.1) (vy (kS d) E.1▸F)/\mi C [.int .i64 l,.int .i64 0,.int .i64 E.2] k (DT (kS d) E.1) (vy (kS d) E.1▸F) λv s' F'=>lf k Kb f t s s' F')
       (cy k (DT (kS d) E.1) (vy (kS d) E.1▸F)/\dY [.int .i64 l,.agg (mh 130 0 m.role s.c.t.aG s.c.t.ah 0)] k (DT (kS d) E.1) (vy (kS d) E.1▸F) λv s2 F2=>
        cy k s2 F2/\ig C [.int .i64 3,.int .i64 l,.int .i64 0,.int .i64 0,.int .i64 0] k (bP s2) F2 λv s' F'=>lf k Kb f t s s' F')))
    (cy k (D (kS d)) (hD (kS d)▸F)/\qP C [.int .i64 l,.int .i64 14] k (D (kS d)) (hD (kS d)▸F) λv s' F'=>lf k Kb f t s s' F')))
end
def Vq (fr:Sd.aF->Nat×Sd.ao) (C:Sd.aK) (l:Int) (i:Nat) (D:Sd.aa->Sd.eC->Sd.aa) (DT:Sd.aa->Sd.eC->Sd.aw->Sd.aa) (hD:∀k s e,aU k (D s e)=aU k s) (vy:∀k s e E,aU k (DT s e E)=aU k s):Prop:=∀(k:LK) (s:Sd.aa) (F:aX fr (aU k s)) (Kb:SK fr k) (e:Nat) (f:Nat->Int) (t:List ae),
 br (bZ prog gS (LP fr C)) 90 99 [.ptr 2 0,.int .i64 l,.sl 5 0 10 (e+10)] (bK k s F++[fh 10 f t]) [bj k s F] (Vo k s 10 f t Kb)=Vp C k s F Kb l i e f t (D s) (DT s) (hD k s) (vy k s)
theorem arI (fr:Sd.aF->Nat×Sd.ao) (C:Sd.aK):Vq fr C 1 0 (λs e=>z6 s e (s.c.doors 1) (s.c.doors 2)) (λs e E=>Iz s e (s.c.doors 1) (s.c.doors 2) E) (λ_ _ _=>rfl) (λ_ _ _ _=>rfl):=λk s F Kb e f t=>by kernel_rfl
theorem arJ (fr:Sd.aF->Nat×Sd.ao) (C:Sd.aK):Vq fr C 2 1 (λs e=>z6 s (s.c.doors 0) e (s.c.doors 2)) (λs e E=>Iz s (s.c.doors 0) e (s.c.doors 2) E) (λ_ _ _=>rfl) (λ_ _ _ _=>rfl):=λk s F Kb e f t=>by kernel_rfl
theorem arK (fr:Sd.aF->Nat×Sd.ao) (C:Sd.aK):Vq fr C 3 2 (λs e=>z6 s (s.c.doors 0) (s.c.doors 1) e) (λs e E=>Iz s (s.c.doors 0) (s.c.doors 1) e E) (λ_ _ _=>rfl) (λ_ _ _ _=>rfl):=λk s F Kb e f t=>by kernel_rfl
theorem arL (fr:Sd.aF->Nat×Sd.ao) (C:Sd.aK) (k:LK) (s:Sd.aa) (F:aX fr (aU k s)) (Kb:SK fr k) (l:Int):br (bZ prog gS (LP fr C)) 90 99 [.ptr 2 0,.int .i64 l,.raw (eU k)] (bK k s F) [bj k s F] (cY k s Kb)
 =cond ((k.pn:Int)!=10) (cy k s F/\qP C [.int .i64 l,.int .i64 13] k (bP s) F λv s' F'=>cY k s Kb (.av []) (bK k s' F') [bj k s' F']) (((0:Int)<=2/\(2:Int)<=(k.pc:Int))/\False):=by kernel_rfl
structure Ny (k:LK) (s:Sd.aa) (l:Int):Prop where
 r:Rm s 8
 lo:1<=l/\l<=3
 key:1<=k.kn (l.toNat-1)/\k.kn (l.toNat-1)<=64
 ke:s.c.p.k (l.toNat-1)=(k.kn (l.toNat-1),k.kf (l.toNat-1))
 bV:0<=s.c.p.bV/\s.c.p.bV<=1000
 cX:N4 s.c.t.aG
 ep:xF s.c.t.ah
def CB (s:Sd.aa) (i:Nat) (e:Sd.eC) (t:Sd.aw):Sd.aa:={s with c:={s.c with doors:=λj=>if j=i then e else s.c.doors j,af:=t}}
theorem IA (s:Sd.aa) (l r:Int) (key:Nat->Int):(EV s l r key).2=(Sd.aw.eL s.c.p s.c.af l r key).2/\(EV s l r key).1.cN=(Sd.aw.eL s.c.p s.c.af l r key).1.cN/\(1<=l/\l<=3->(∀j,j<3->(EV s l r key).1.ak j=(Sd.aw.eL s.c.p s.c.af l r key).1.ak j)/\∀j,(Sd.aw.eL s.c.p s.c.af l r key).1.ak (j+3)=s.c.af.ak (j+3)):=by
 have hm:(dA s.c.af).many=s.c.af.many:=rfl;have hp:(pY s.c.p.bV s.c.p.fj).fj=s.c.p.fj:=rfl;have hb:(pY s.c.p.bV s.c.p.fj).bV=s.c.p.bV:=rfl;have q3:∀j,j<3->(dA s.c.af).ak j=s.c.af.ak j:=by
  intro j hj;have:j=0\/j=1\/j=2:=by omega
  rcases this with rfl|rfl|rfl<;>rfl
 unfold EV Sd.aw.eL;rw[Ig,hm,hp,hb];split
 ·exact⟨rfl,rfl,λ_=>⟨q3,λ_=>rfl⟩⟩
 ·split
  ·exact⟨rfl,rfl,λ_=>⟨q3,λ_=>rfl⟩⟩
  ·refine⟨rfl,rfl,λhl=>⟨λj hj=>?_,λj=>?_⟩⟩
   ·simp only[Sd.aw.eD];split
    ·rfl
    ·exact q3 j hj
   ·simp only[Sd.aw.eD];rw[if_neg (by omega)]
theorem Vr {s:Sd.aa} {a b c:Sd.eC} {i:Nat} {e:Sd.eC} {E t:Sd.aw} (hi:i<3) (ha:a=if 0=i then e else s.c.doors 0) (hb:b=if 1=i then e else s.c.doors 1) (hc:c=if 2=i then e else s.c.doors 2) (h1:E.cN=t.cN) (h2:∀j,j<3->E.ak j=t.ak j) (h3:∀j,t.ak (j+3)=s.c.af.ak (j+3)):Iz s a b c E=CB s i e t:=by
 unfold Iz CB;have h:r3 a b c s.c.doors=λj=>if j=i then e else s.c.doors j:=by
  funext j
  match j with
  |0=>exact ha
  |1=>exact hb
  |2=>exact hc
  |j+3=>exact(if_neg (by omega)).symm
 have e:r3 (E.ak 0) (E.ak 1) (E.ak 2) s.c.af.ak=t.ak:=by
  funext j
  match j with
  |0=>exact h2 0 (by decide)
  |1=>exact h2 1 (by decide)
  |2=>exact h2 2 (by decide)
  |j+3=>exact(h3 j).symm
 rw[h,e,h1]
theorem Nz {k:LK} {s0:Sd.aa} {Kb:SK fr k} {f:Nat->Int} {t:List ae} {s' sF:Sd.aa} (e:s'=sF) (hK:∀F,Kb (.av []) sF F) (F':aX fr (aU k s')) (hp:s'.c.p=s0.c.p:=by rfl):lf k Kb f t s0 s' F':=by
 subst e;exact⟨s',F',rfl,hp,hK F',rfl,rfl⟩
theorem NA {n:Nat} {f:Nat->Int} (P:Sd.a9->Prop):∀(l:List Fd) (off:Nat) (m r:Sd.a9),(∀d∈l,∀v,d.low<=v->v<=d.high->∀m,P m->P (d.set v m))->P m->runM n f l off m=some r->P r
 |[],off,m,r,_,hm,h=>by
  unfold runM at h;split at h
  ·cases h;exact hm
  ·cases h
 |d::l,off,m,r,hd,hm,h=>by
  unfold runM at h;split at h
  ·cases h
  ·split at h
   ·cases h
   ·rename_i hv;exact NA P l _ _ r (λx hx=>hd x (by simp[hx])) (hd d (by simp) _ (by omega) (by omega) m hm) h
structure NB (k:Int) (m:Sd.a9):Prop where
 kind:m.kind=k
 seq:0<=m.seq/\m.seq<=4294967295
 role:0<=m.role/\m.role<=3
 aT:0<=m.aT/\m.aT<=4
 ah:0<=m.ah/\m.ah<=65535
 mode:0<=m.mode/\m.mode<=4
 cls:0<=m.cls/\m.cls<=3
def okB (d:Fd):Prop:=∀v,d.low<=v->v<=d.high->∀k m,NB k m->NB k (d.set v m)
theorem arM:okB vf:=λv h1 h2 k m h=>⟨h.kind,h.seq,⟨h1,h2⟩,h.aT,h.ah,h.mode,h.cls⟩
theorem arN:okB iD:=λv h1 h2 k m h=>⟨h.kind,⟨h1,h2⟩,h.role,h.aT,h.ah,h.mode,h.cls⟩
theorem arO:okB zN:=λv h1 h2 k m h=>⟨h.kind,h.seq,h.role,⟨h1,h2⟩,h.ah,h.mode,h.cls⟩
theorem arP:okB nA:=λv h1 h2 k m h=>⟨h.kind,h.seq,h.role,h.aT,⟨h1,h2⟩,h.mode,h.cls⟩
theorem arQ:okB xw:=λv h1 h2 k m h=>⟨h.kind,h.seq,h.role,h.aT,h.ah,⟨h1,h2⟩,h.cls⟩
theorem arR:okB vg:=λv h1 h2 k m h=>⟨h.kind,h.seq,h.role,h.aT,h.ah,h.mode,⟨vW (by decide) h1,h2⟩⟩
theorem arS:okB zO:=λv h1 h2 k m h=>⟨h.kind,h.seq,h.role,h.aT,h.ah,h.mode,h.cls⟩
theorem adr (i:Nat) (hi:i<4) (v:Int) (m:Sd.a9):((fX i).set v m).kind=m.kind/\((fX i).set v m).seq=m.seq/\((fX i).set v m).role=m.role/\((fX i).set v m).aT=m.aT/\((fX i).set v m).ah=m.ah/\((fX i).set v m).mode=m.mode/\((fX i).set v m).cls=m.cls:=by
 have:i=0\/i=1\/i=2\/i=3:=by omega
 rcases this with rfl|rfl|rfl|rfl<;>exact⟨rfl,rfl,rfl,rfl,rfl,rfl,rfl⟩
theorem NC (i:Nat) (hi:i<4):okB (fX i):=λv h1 h2 k m h=>by
 obtain⟨a,b,c,d,e,g,j⟩:=adr i hi v m;exact⟨a.trans h.kind,by rw[b];exact h.seq,by rw[c];exact h.role,by rw[d];exact h.aT,by rw[e];exact h.ah,by rw[g];exact h.mode,by rw[j];exact h.cls⟩
theorem z0 (n:Int) (h:0<=n):(0:Int)<=0/\(0:Int)<=n:=⟨Int.le_refl 0,h⟩
theorem arT (k:Int):NB k (Sd.c_ k):=⟨rfl,z0 _ (by decide),z0 _ (by decide),z0 _ (by decide),z0 _ (by decide),z0 _ (by decide),z0 _ (by decide)⟩
theorem arU {k:Int} {l:List Fd} (h:pj k=some l):∀d∈l,okB d:=by
 have a1:=arM;have a2:=arN;have a3:=arO;have a4:=arP;have a5:=arQ;have a6:=arR;have a7:=arS
 have b0:=NC 0 (by decide);have b1:=NC 1 (by decide);have b2:=NC 2 (by decide);have b3:=NC 3 (by decide)
 unfold pj at h
 repeat' split at h
 all_goals first|(cases h;done)|(obtain rfl:=cG h;intro d hd;simp at hd;rcases hd with rfl|rfl|rfl|rfl|rfl|rfl|rfl<;>assumption)|(obtain rfl:=cG h;intro d hd;simp at hd;rcases hd with rfl|rfl|rfl<;>assumption)|(obtain rfl:=cG h;intro d hd;simp at hd;rcases hd with rfl|rfl<;>assumption)|(obtain rfl:=cG h;intro d hd;simp at hd;subst hd;assumption)
theorem arV {k:Int} {l:List Fd} (h:pj k=some l):1<=k/\k<=11:=by
 unfold pj at h
 repeat' split at h
 all_goals first|(cases h;done)|omega
theorem Vs {n:Nat} {f:Nat->Int} {m:Sd.a9} (h:ay n f=some m):Sd.tO m:=by
 unfold ay at h;split at h
 ·cases h
 ·split at h
  ·rename_i l hl;have hb:=NA (NB (f 0)) l 1 _ m (λd hd v h1 h2 m hm=>arU hl d hd v h1 h2 _ m hm) (arT _) h;have hk:=arV hl;refine⟨by rw[hb.kind];exact hk,hb.seq,hb.role,hb.aT,hb.ah,hb.mode,hb.cls,?_⟩;intro Im;rw[hb.kind]at Im;have arW:l=[iD,nA,vg,fX 0,fX 1,fX 2,fX 3]:=by
    rw[Im]at hl;exact(cG hl).symm
   subst arW;unfold runM at h;split at h
   ·cases h
   split at h
   ·cases h
   unfold runM at h;split at h
   ·cases h
   split at h
   ·cases h
   unfold runM at h;split at h
   ·cases h
   split at h
   ·cases h
   rename_i hv;refine NA (λm=>1<=m.cls) _ _ _ m ?_ ?_ h
   ·intro d hd v _ _ m hm;have:∃i,i<4/\d=fX i:=by
     simp at hd;rcases hd with rfl|rfl|rfl|rfl
     ·exact⟨0,by decide,rfl⟩
     ·exact⟨1,by decide,rfl⟩
     ·exact⟨2,by decide,rfl⟩
     ·exact⟨3,by decide,rfl⟩
    obtain⟨i,hi,rfl⟩:=this;show 1<=((fX i).set v m).cls;rw[(adr i hi v m).2.2.2.2.2.2];exact hm
   ·have h1:vg.low=1:=rfl;have:∀v m,(vg.set v m).cls=v:=λv m=>rfl;show 1<=(vg.set _ _).cls;rw[this];omega
  ·cases h
theorem arX {n:Nat} {f:Nat->Int} (h:ay n f≠none):0<=(jq n f).role/\(jq n f).role<=3:=by
 unfold jq;cases hh:ay n f with
 |some m=>exact(Vs hh).role
 |none=>exact absurd hh h
theorem ads {n:Nat} {f:Nat->Int} (h:(tZ n f !=0)=false):ay n f=some (jq n f):=by
 unfold tZ at h;unfold jq;cases hh:ay n f with
 |some m=>rfl
 |none=>rw[hh]at h;simp at h
theorem adt {n:Nat} {f:Nat->Int} (h:(tZ n f !=0)=true):ay n f=none:=by
 unfold tZ at h;cases hh:ay n f with
 |some m=>rw[hh]at h;simp at h
 |none=>rfl
theorem Vt {k:LK} {s:Sd.aa} {F:aX fr (aU k s)} {Kb:SK fr k} {l:Int} {i e:Nat} {f:Nat->Int} {t:List ae} {D:Sd.eC->Sd.aa} {DT:Sd.eC->Sd.aw->Sd.aa} {hD:∀e,aU k (D e)=aU k s} {vy:∀e E,aU k (DT e E)=aU k s}
 (z7:∀e,D e=qT s i e) (Vu:∀e r key,DT e (EV s l r key).1=CB s i e (Sd.aw.eL s.c.p s.c.af l r key).1) (hi:l.toNat-1=i) (h3:i<3) (hq:s.c.p.queue=k.most) (hP:Ny k s l) (hf:By f) (hK:∀F',Kb (.av []) (s.prove (aq ay) l 10 f) F'):
 Vp (aq ay) k s F Kb l i e f t D DT hD vy:=by
 subst hi;have Vv:=hP.r;have hKk:s.c.p.k (l.toNat-1)=(k.kn (l.toNat-1),k.kf (l.toNat-1)):=hP.ke;have Vw:∀(x:Sd.aa) (hx:aU k x=aU k s) (c:Int) (sF:Sd.aa),x.c.p=s.c.p->N8 c->x.refuse (aq ay) l 0 c=sF->(∀F,Kb (.av []) sF F)->cy k x (hx▸F)/\mi (aq ay) [.int .i64 l,.int .i64 0,.int .i64 c] k x (hx▸F) λv s' F'=>lf k Kb f t s s' F':=by
  intro x hx c sF hp hc hE Vy;have hs:x.bg=s.bg:=congrArg FD.bg hx;have hr:x.bH=s.bH:=congrArg FD.bH hx;refine⟨cF (by rw[hp];exact hq),⟨⟨by rw[hs];have:=Vv.1;omega,by rw[hr];have:=Vv.2;omega⟩,xG,hc⟩,λF1=>Nz hE Vy F1 hp⟩
 have arY:∀(x:Sd.aa) (hx:aU k x=aU k s) (c:Int) (sF:Sd.aa),x.c.p=s.c.p->x.iU (aq ay) l c=sF->(∀F,Kb (.av []) sF F)->cy k x (hx▸F)/\qP (aq ay) [.int .i64 l,.int .i64 c] k x (hx▸F) λv s' F'=>lf k Kb f t s s' F':=by
  intro x hx c sF hp hE Vy;have hr:x.bH=s.bH:=congrArg FD.bH hx;exact⟨cF (by rw[hp];exact hq),by show x.bH.length<=1000;rw[hr];have:=Vv.2;omega,λF1=>Nz hE Vy F1 hp⟩
 have hpr:s.prove (aq ay) l 10 f=match ay 2 f with
  |none=>s.iU (aq ay) l 13
  |some m=>if(s.c.doors (l.toNat-1)).iA=false then s.refuse (aq ay) l 0 17
   else if xn (k.kn (l.toNat-1)) (k.kf (l.toNat-1)) l m.role (s.c.doors (l.toNat-1)).aA (λj=>f (2+j))=false then(qT s (l.toNat-1) (kS (s.c.doors (l.toNat-1)))).iU (aq ay) l 14
   else if Sd.jf s.c.p l m.role=false then(qT s (l.toNat-1) (kS (s.c.doors (l.toNat-1)))).refuse (aq ay) l 0 18
   else if(Sd.aw.eL s.c.p s.c.af l m.role (jm (k.kn (l.toNat-1)) (k.kf (l.toNat-1)) l m.role (s.c.doors (l.toNat-1)).aA)).2≠0 then(qT s (l.toNat-1) (kS (s.c.doors (l.toNat-1)))).refuse (aq ay) l 0 (Sd.aw.eL s.c.p s.c.af l m.role (jm (k.kn (l.toNat-1)) (k.kf (l.toNat-1)) l m.role (s.c.doors (l.toNat-1)).aA)).2
   else((CB s (l.toNat-1) (kS (s.c.doors (l.toNat-1))) (Sd.aw.eL s.c.p s.c.af l m.role (jm (k.kn (l.toNat-1)) (k.kf (l.toNat-1)) l m.role (s.c.doors (l.toNat-1)).aA)).1).tell l ⟨130,0,m.role,s.c.t.aG,s.c.t.ah,0,λ_=>0⟩).record (aq ay) 3 l 0 0 0:=by
  unfold Sd.aa.prove;rw[if_neg (by decide)];show(match ay 2 f with|none=>_|some m=>_)=_;cases ay 2 f with
  |none=>rfl
  |some m=>
   simp only[aq,hKk];rfl
 unfold Vp;refine⟨⟨by decide,by omega,hf⟩,aM (λe=>?_) (λe=>?_)⟩
 ·rw[hpr,adt e]at hK;exact⟨cF hq,Ih hP.r.r1 λF1=>Nz rfl hK F1⟩
 ·have hm:=ads e;have adu:=arX (n:=2) (f:=f) (by rw[hm];simp);rw[hpr,hm]at hK;simp only at hK;refine⟨⟨rfl,rfl,hP.lo,⟨adu.1,by omega⟩,hP.key⟩,aM (λe1=>?_) (λe1=>aM (λe2=>⟨trivial,aM (λe3=>?_) (λe3=>⟨⟨hP.bV,hP.lo⟩,aM (λe4=>?_) (λe4=>?_)⟩)⟩) (λe2=>?_))⟩
  ·rw[if_pos (by simpa using e1)]at hK;refine Vw _ (hD _) 17 _ (by rw[z7];rfl) ⟨by decide,by decide⟩ ?_ hK;rw[z7];have:qT s (l.toNat-1) (s.c.doors (l.toNat-1))=s:=by
    unfold qT;have:(λj=>if j=l.toNat-1 then s.c.doors (l.toNat-1)else s.c.doors j)=s.c.doors:=by funext j;split<;>simp_all
    rw[this]
   rw[this]
  ·rw[if_neg (by simpa using e1),if_neg (by rw[e2];decide),if_pos (by simpa using e3)]at hK;exact Vw _ (hD _) 18 _ (by rw[z7];rfl) ⟨by decide,by decide⟩ (by rw[z7]) hK
  ·obtain⟨b2,b1,b3⟩:=IA s l (jq 2 f).role (jm (k.kn (l.toNat-1)) (k.kf (l.toNat-1)) l (jq 2 f).role (s.c.doors (l.toNat-1)).aA);rw[b2]at e4⊢;have e4':(Sd.aw.eL s.c.p s.c.af l (jq 2 f).role (jm (k.kn (l.toNat-1)) (k.kf (l.toNat-1)) l (jq 2 f).role (s.c.doors (l.toNat-1)).aA)).2≠0:=by simpa using e4
   rw[if_neg (by simpa using e1),if_neg (by rw[e2];decide),if_neg (by simpa using e3),if_pos e4']at hK;have hbg:(Sd.aw.eL s.c.p s.c.af l (jq 2 f).role (jm (k.kn (l.toNat-1)) (k.kf (l.toNat-1)) l (jq 2 f).role (s.c.doors (l.toNat-1)).aA)).1=s.c.af/\N8 (Sd.aw.eL s.c.p s.c.af l (jq 2 f).role (jm (k.kn (l.toNat-1)) (k.kf (l.toNat-1)) l (jq 2 f).role (s.c.doors (l.toNat-1)).aA)).2:=by
    revert e4';unfold Sd.aw.eL;split
    ·intro _;exact⟨rfl,(show N8 1 from⟨by decide,by decide⟩)⟩
    ·split
     ·intro _;exact⟨rfl,(show N8 19 from⟨by decide,by decide⟩)⟩
     ·intro h;exact absurd rfl h
   refine Vw _ (vy _ _) _ _ (by rw[Vu];rfl) hbg.2 ?_ hK;rw[Vu,hbg.1];rfl
  ·obtain⟨b2,b1,b3⟩:=IA s l (jq 2 f).role (jm (k.kn (l.toNat-1)) (k.kf (l.toNat-1)) l (jq 2 f).role (s.c.doors (l.toNat-1)).aA);rw[b2]at e4;rw[if_neg (by simpa using e1),if_neg (by rw[e2];decide),if_neg (by simpa using e3),if_neg (by simpa using e4)]at hK;have key:∀(x:Sd.aa) (hx:aU k x=aU k s),x=CB s (l.toNat-1) (kS (s.c.doors (l.toNat-1))) (Sd.aw.eL s.c.p s.c.af l (jq 2 f).role (jm (k.kn (l.toNat-1)) (k.kf (l.toNat-1)) l (jq 2 f).role (s.c.doors (l.toNat-1)).aA)).1->
    (cy k x (hx▸F)/\dY [.int .i64 l,.agg (mh 130 0 (jq 2 f).role s.c.t.aG s.c.t.ah 0)] k x (hx▸F) λv s2 F2=>cy k s2 F2/\ig (aq ay) [.int .i64 3,.int .i64 l,.int .i64 0,.int .i64 0,.int .i64 0] k (bP s2) F2 λv s' F'=>lf k Kb f t s s' F'):=by
    rintro x hx rfl;refine⟨cF hq,⟨⟨(show Rm (CB s _ _ _) 8 from hP.r).le (by decide),⟨(show(129:Int)<=130/\(130:Int)<=136 by decide),⟨xG,.inr rfl⟩,⟨adu,.inl rfl⟩,⟨hP.cX,.inl (.inl rfl)⟩,⟨hP.ep,.inl (.inl rfl)⟩,⟨(show N8 0 from⟨by decide,by decide⟩),.inr rfl⟩,⟨λj=>(show(0:Int)<=0/\(0:Int)<=255 from⟨by decide,by decide⟩),.inr rfl⟩⟩⟩,λF2=>⟨cF hq,mj ?_ λF3=>Nz rfl hK F3⟩⟩⟩;have:=hP.r.2;simp only[Sd.aa.tell,CB];omega
   exact key _ (vy _ _) (Vu _ _ _)
  ·rw[if_neg (by simpa using e1),if_pos e2]at hK;exact arY _ (hD _) 14 _ (by rw[z7];rfl) (by rw[z7]) hK
def lu (k:LK):LK:={k with px:=none,pn:=0,pc:=0}
def IB (C:Sd.aK):SM fr:=λar k s F K=>match ar with
 |[.int .i64 l,.raw vp]=>(vp=eU k/\Ny k s l/\By k.pf)/\∀F',K (.av []) (s.prove C l k.pn k.pf) F'
 |_=>False
theorem adv (a b c:Nat) (more:List Nat):Gl gS (bW a b c++more):=by
 intro g i dN;unfold gS at dN;split at dN
 ·obtain rfl:=cG dN;exact⟨by simp,rfl⟩
 ·obtain rfl:=cG dN;exact⟨by simp,rfl⟩
 ·cases dN
theorem arZ {k:LK} {s:Sd.aa} (F:aX fr (aU k s)) (h0:0<k.pn):∃(bp:Nat) (t:List ae) (F0:aX fr (aU (lu k) s)),k.px=some ⟨bp,0,none⟩/\k.pn<=k.pc/\F0.vs=F.vs/\F0.vr=F.vr/\F.B=F0.B++[⟨bp,true,.cells (ai [] (fh k.pn k.pf t).c).toArray 5 (0,0)⟩]/\
 (ai [] (fh k.pn k.pf t).c).toArray=bI k.pn k.pf k.pc:=by
 obtain⟨b0,b1,b2,b3,b4,hB,k0,k1,k2,k3,k4⟩:=F.hk;obtain⟨hle,h|⟨bp,hx,hb⟩⟩:=k4
 ·have:=h.2.1;simp only[aU]at this;omega
 ·have e:(ai [] (fh k.pn k.pf (nh (k.pc-k.pn) (.int .u8 0))).c).toArray=bI k.pn k.pf k.pc:=by
   simp[fh,ai,cl,bI,b9]
  refine⟨bp,nh (k.pc-k.pn) (.int .u8 0),{F with Bk:=b0++(b1++(b2++(b3++[]))),hk:=⟨b0,b1,b2,b3,[],rfl,k0,k1,k2,k3,⟨dH _,.inl ⟨rfl,rfl,rfl,rfl⟩⟩⟩},hx,hle,rfl,rfl,?_,e⟩;rw[e,sD,sD];show _=(F.Br++(F.Bs++(F.Bf++(F.Bq++(b0++(b1++(b2++(b3++[]))))))))++_;rw[hB,hb];simp[bU,aU]
theorem ar0 {k:LK} {s:Sd.aa} (F0:aX fr (aU (lu k) s)) {bp:Nat} (hx:k.px=some ⟨bp,0,none⟩) (hle:k.pn<=k.pc):∃F:aX fr (aU k s),F.vs=F0.vs/\F.vr=F0.vr/\F.B=F0.B++[⟨bp,true,.cells (bI k.pn k.pf k.pc) 5 (0,0)⟩]:=by
 obtain⟨b0,b1,b2,b3,b4,hB,k0,k1,k2,k3,k4⟩:=F0.hk;have h4:b4=[]:=by
  obtain⟨_,h|⟨b,hx,_⟩⟩:=k4
  ·exact h.2.2.2
  ·cases hx
 subst h4;refine⟨{F0 with Bk:=b0++(b1++(b2++(b3++[⟨bp,true,.cells (bI k.pn k.pf k.pc) 5 (0,0)⟩]))),hk:=⟨b0,b1,b2,b3,_,rfl,k0,k1,k2,k3,⟨hle,.inr ⟨bp,hx,rfl⟩⟩⟩},rfl,rfl,?_⟩;rw[sD,sD];show(F0.Br++(F0.Bs++(F0.Bf++(F0.Bq++(b0++(b1++(b2++(b3++[(⟨bp,true,.cells (bI k.pn k.pf k.pc) 5 (0,0)⟩:aj)]))))))))=_;rw[hB];simp[bU]
theorem adw {k:LK} {s:Sd.aa} (F:aX fr (aU k s)) (F0:aX fr (aU (lu k) s)) (h1:F0.vs=F.vs) (h2:F0.vr=F.vr):bK (lu k) s F0=bK k s F:=by
 have e:tT 3 F0=tT 3 F:=by unfold tT;rw[h1,h2]
 show[cw (lu k),iQ (lu k),tT 3 F0,g_ (lu k) 4 s,gM s]=_;rw[e];rfl
theorem ar1 (ht:Body (fr:=fr) 147 dY):Body (fr:=fr) 99 (IB (aq ay)):=by
 intro ar k s F Kb a b c R ms w0 w h0 hq hM S;unfold IB at hM;split at hM
 ·rename_i l vp;obtain⟨⟨rfl,hP,hf⟩,hK⟩:=hM;have Vz:=arH (fr:=fr) ay ht;by_cases hn:k.pn=10
  ·obtain⟨bp,t,F0,hx,hle,v1,v2,hB,nG⟩:=arZ F (by omega);obtain⟨e,he⟩:∃e,k.pc=e+10:=⟨k.pc-10,by omega⟩;rw[hn]at hB nG hK;have eP:lits (bW a b c++[bp]) (bW a b c++[bp]) (bK (lu k) s F0++[fh 10 k.pf t])=lits (bW a b c) (bW a b c) (bK k s F)++[⟨bp,true,.cells (ai [] (fh 10 k.pf t).c).toArray 5 (0,0)⟩]:=by
    rw[adw F F0 v1 v2,fC _ _ _ _ rfl,fD (ids:=bW a b c) (more:=[bp]) (bW a b c) (bK k s F) rfl];rfl
   have S1:St ms w0 (lits (bW a b c++[bp]) (bW a b c++[bp]) (bK (lu k) s F0++[fh 10 k.pf t])++aC [bj (lu k) s F0] R) w:=by
    rw[eP];have en:aC [bj (lu k) s F0] R=F0.B++R:=rfl;rw[en];rw[hB]at S;refine S.perm ?_;rw[bU,bU];refine pL _ ?_;exact pM _ _ _
   have cS:br (bZ prog gS (LP fr (aq ay))) 90 99 [.ptr 2 0,.int .i64 l,.sl 5 0 10 (e+10)] (bK (lu k) s F0++[fh 10 k.pf t]) [bj (lu k) s F0] (Vo (lu k) s 10 k.pf t λv s' _=>∀F',Kb v s' F'):=by
    have VA:Ny (lu k) s l:=⟨hP.r,hP.lo,hP.key,hP.ke,hP.bV,hP.cX,hP.ep⟩;have hl:l=1\/l=2\/l=3:=by have:=hP.lo;omega
    have tL:∀F0':aX fr (aU (lu k) (s.prove (aq ay) l 10 k.pf)),∀F',Kb (.av []) (s.prove (aq ay) l 10 k.pf) F':=λ_=>hK;rcases hl with rfl|rfl|rfl
    ·rw[arI];refine Vt (λe=>xK (i:=0) (by decide) rfl rfl rfl) (λe r key=>?_) rfl (by decide) hq VA hf tL;obtain⟨_,b1,b3⟩:=IA s 1 r key;exact Vr (i:=0) (by decide) rfl rfl rfl b1 (b3 (by decide)).1 (b3 (by decide)).2
    ·rw[arJ];refine Vt (λe=>xK (i:=1) (by decide) rfl rfl rfl) (λe r key=>?_) rfl (by decide) hq VA hf tL;obtain⟨_,b1,b3⟩:=IA s 2 r key;exact Vr (i:=1) (by decide) rfl rfl rfl b1 (b3 (by decide)).1 (b3 (by decide)).2
    ·rw[arK];refine Vt (λe=>xK (i:=2) (by decide) rfl rfl rfl) (λe r key=>?_) rfl (by decide) hq VA hf tL;obtain⟨_,b1,b3⟩:=IA s 3 r key;exact Vr (i:=2) (by decide) rfl rfl rfl b1 (b3 (by decide)).1 (b3 (by decide)).2
   have ea:(aH (bW a b c) (.ptr 2 0::[.int .i64 l,.raw (eU k)])).toArray=(aH (bW a b c++[bp]) [.ptr 2 0,.int .i64 l,.sl 5 0 10 (e+10)]).toArray:=by
    have:eU k=.slice (some ⟨bp,0,none⟩) 10 (e+10):=by unfold eU;rw[hx,hn,he]
    rw[this];rfl
   rw[ea];refine(eO Vz.T Vz.Q 90 (C:=bZ prog gS (LP fr (aq ay))) (adv a b c [bp]) rfl S1 cS).mono ?_;rintro v w' ⟨x,more,bl',ch',rfl,h1,S',s',F',hv,hp,VC,hb,rfl⟩;have ev:den (bW a b c++[bp]++more) x=den [] x:=by have:=gf (ids:=[]) (more:=bW a b c++[bp]++more) x hv;simpa using this
   rw[<-hn]at nG;obtain⟨F2,u1,u2,Hl⟩:=ar0 F' hx hle;refine⟨x,s',F2,ev,hv,hp,VC F2,?_⟩;have oE:bl'=(bK (lu k) s' F'++[fh 10 k.pf t])++bl'.drop 6:=by rw[<-hb,jS]
   rw[oE]at S';have e2:lits (bW a b c++[bp]++more) (bW a b c++[bp]++more) ((bK (lu k) s' F'++[fh 10 k.pf t])++bl'.drop 6)=(lits (bW a b c) (bW a b c) (bK k s' F2)++[⟨bp,true,.cells (ai [] (fh 10 k.pf t).c).toArray 5 (0,0)⟩])++lits (bW a b c++[bp]++more) more (bl'.drop 6):=by
    rw[fC _ _ _ _ rfl,fD (ids:=bW a b c++[bp]) (more:=more) (bW a b c++[bp]) _ rfl];rw[<-adw F2 F' u1.symm u2.symm,fC _ _ _ _ rfl,fD (ids:=bW a b c) (more:=[bp]) (bW a b c) (bK (lu k) s' F') rfl];rfl
   rw[e2]at S';have e3:aC [bj (lu k) s' F'] R=F'.B++R:=rfl;rw[e3]at S';have S2:=S'.sub (bs':=(lits (bW a b c) (bW a b c) (bK k s' F2)++[⟨bp,true,.cells (ai [] (fh 10 k.pf t).c).toArray 5 (0,0)⟩])++(F'.B++R)) (by
    rw[bU (lits _ _ _++_)];exact uv (mA _ _) _)
   rw[Hl];rw[hn]at nG⊢;rw[nG]at S2;refine S2.perm ?_;rw[bU,bU];refine pL _ ?_;exact pM _ _ _
  ·refine mT (M:=λar k s F K=>(ar=[.int .i64 l,.raw (eU k)]/\k.pn≠10/\s.bH.length<=1000)/\∀F',K (.av []) (s.iU (aq ay) l 13) F') (n:=90) Vz ?_ _ k s F Kb a b c R ms w0 w h0 hq ⟨⟨rfl,hn,by have:=hP.r.2;omega⟩,?_⟩ S
   ·rintro ar k s F Kb _ hq ⟨⟨rfl,hn,hr⟩,hK⟩;rw[arL];refine aM (λe=>⟨cF hq,Ih hr λF1=>fm rfl hK F1⟩) (λe=>?_);have:(k.pn:Int)=10:=by simpa using e
    omega
   ·have:s.prove (aq ay) l k.pn k.pf=s.iU (aq ay) l 13:=by unfold Sd.aa.prove;rw[if_pos hn]
    rw[this]at hK;exact hK
 ·exact hM.elim
end
section
open Go Go.RowKit Go.BigFrame Sx Vx
def gR:Nat->Option Nat
 |1=>some 0
 |_=>none
def VD:QF:=⟨151,λargs _=>match args with
 |[.agg wl,.int .i64 n]=>(match TF wl with
  |some z=>some ((0<=z.high/\z.high<=4294967295)/\(0<=n/\n<=4294967295),.av [.agg (ack (ee z n)),.bool (HG (ee z n) z)])
  |none=>none)
 |_=>none⟩
theorem ar2 (gl:Nat->Option Nat):VD.Ok prog gl:=by
 intro args bl p v h hp ids w _ _;unfold VD at h;dsimp only at h;split at h
 ·rename_i wl n;split at h
  ·rename_i z hz;simp only[aY,bC]at h;obtain⟨rfl,rfl⟩:=h;obtain rfl:=anf hz;exact told (amv z n hp.1 hp.2 w)
  ·cases h
 ·cases h
def VE {G:Type} (k:LK):dc G:=λargs bl ch K=>match args with
 |[.agg [.bS .u8 32 key],.int .i64 l,.sl i 0 n c]=>(match bl[i]?with
  |some b=>(match b.c with
   |[.bS .u8 n' f,.rest t]=>cond (yQ b.ty 5&&bM bl.length bl) ((bl[0]?=some (cw k)/\n=n'/\n<=58/\n<=c/\(0<=l/\l<4294967296))/\
    ((n<8\/lj key l (n-8) f=false)->K (.av [.raw (.slice none 0 0),.int .i64 14]) bl ch)/\
    (8<=n->lj key l (n-8) f=true->(n=8->∀(x:Option aQ) (c':Nat),K (.av [.raw (.slice x 0 c'),.int .i64 0]) bl ch)/\
     (8<n->∀(c':Nat) (t':List ae),n-8<=c'->K (.av [.sl bl.length 0 (n-8) c',.int .i64 0]) (bl++[fh (n-8) f t']) ch))) False
   |_=>False)
  |none=>False)
 |[.agg [.bS .u8 32 key],.int .i64 l,.raw (.slice x 0 c)]=>K (.av [.raw (.slice none 0 0),.int .i64 14]) bl ch
 |_=>False
theorem ar3 {G:Type} [Bl G] (k:LK):Sound (G:=G) prog gR 150 (VE k):=by
 intro args ids bl ch R ms w0 w K hg hl S hc;unfold VE at hc;split at hc
 ·rename_i key l i n c;split at hc
  ·rename_i b hb;split at hc
   ·rename_i n' f t hbc;cases hq:yQ b.ty 5&&bM bl.length bl with
    |false=>rw[hq]at hc;exact hc.elim
    |true=>
     rw[hq]at hc;simp only[cond_true]at hc;simp only[bu]at hq;obtain⟨⟨hr,rfl,hn,jV,tv⟩,rQ,adx⟩:=hc;have aP:=(fV hl S hb).2;rw[hbc,QD hq.1]at aP;have lr:w.heap[1]?=some (.cells (aE .u32 64 cT) k.tg (0,0)):=by
      have h1:=(fV hl S hr).2;rw[(hg 1 0 rfl).2]at h1;have e:(ai ids (cw k).c).toArray=aE .u32 64 cT:=by kernel_rfl
      rw[e]at h1;exact h1
     have h8:cx w (ids.getD i 0) 0 n f:=by
      intro j hj;rw[cell_of aP];have e:(ai ids [V.bS .u8 n f,.rest t]).toArray=((bw n).map (λj=>eA .u8 (f j))++t).toArray:=by simp[ai,cl]
      rw[e];simp only[eY,jQ];rw[iq (by simpa using hj),jt,nV hj];rfl
     have ea:(aH ids [.agg [.bS .u8 32 key],.int .i64 l,.sl i 0 n c]).toArray=#[.agg (aE .u8 32 key),.int .i64 l,.slice (some ⟨ids.getD i 0,0,none⟩) n c]:=by kernel_rfl
     rw[ea];have fin:∀{v:ae} {w1:ag},v=.tuple #[.slice none 0 0,.int .i64 14]->Ch [] w w1->K (.av [.raw (.slice none 0 0),.int .i64 14]) bl ch->∃x more bl' ch',v=den (ids++more) x/\(ids++more).length=bl'.length/\St ms w0 (lits (ids++more) (ids++more) bl'++aC ch' R) w1/\K x bl' ch':=by
      rintro v w1 rfl cB hk;exact⟨_,[],bl,ch,by simp[den,aH],by simpa using hl,by simpa using S.quiet cB,hk⟩
     rcases cZ n 8 with h|h
     ·exact(abr key l _ n c h w).mono λv w1 ⟨hv,cB⟩=>fin hv cB (rQ (.inl h))
     ·obtain⟨m,rfl⟩:∃m,n=m+8:=⟨n-8,by omega⟩;rw[Nat.add_sub_cancel]at rQ adx;cases ho:lj key l m f with
      |false=>exact(ak7 key l _ 0 m c f (by omega) jV tv ho w lr h8).mono λv w1 ⟨hv,cB⟩=>fin hv cB (rQ (.inr ho))
      |true=>
       refine(ak8 key l _ 0 m c f (by omega) jV tv ho w lr h8).mono ?_;rintro v w1 ⟨x1,c1,km,rfl,VF,S1⟩;obtain⟨y0,y1⟩:=adx h ho;have hS:=S.quiet S1.ch;rcases vP m with rfl|h0
       ·exact⟨_,[],bl,ch,by simp[den,aH],by simpa using hl,by simpa using hS,y0 rfl x1 c1⟩
       ·obtain⟨bn,hle,rfl,rfl⟩:=Gi VF h0;refine⟨_,[bn],_,ch,?_,by simp[hl],?_,y1 (by omega) c1 (nh (c1-m) (.int .u8 0)) hle⟩
        ·simp only[den,aH];rw[<-hl,kZ]
        ·rw[fC _ _ _ _ hl,fD _ _ (by rw[hl];exact hq.2)];have e2:lits (ids++[bn]) [bn] [fh m f (nh (c1-m) (.int .u8 0))]=[⟨bn,true,.cells (bI m f c1) 5 (0,0)⟩]:=by
          simp[lits,aD,fh,ai,cl,bI,b9]
         rw[e2];have ar4:=S1.oT (x:=⟨bn,true,.cells (bI m f c1) 5 (0,0)⟩) (by simp) rfl;have eG:w.heap.size<=bn:=by rcases ar4 with h|h;cases h;exact h
         have:=S.new S1.ch eG (S1.at' (x:=⟨bn,true,.cells (bI m f c1) 5 (0,0)⟩) (by simp));refine this.perm ?_;rw[bU];exact jU.symm
   ·exact hc.elim
  ·exact hc.elim
 ·rename_i key l x c;have ea:(aH ids [.agg [.bS .u8 32 key],.int .i64 l,.raw (.slice x 0 c)]).toArray=#[.agg (aE .u8 32 key),.int .i64 l,.slice x 0 c]:=by kernel_rfl
  rw[ea];refine(abr key l x 0 c (by decide) w).mono ?_;rintro v w1 ⟨rfl,cB⟩;exact⟨_,[],bl,ch,by simp[den,aH],by simpa using hl,by simpa using S.quiet cB,hc⟩
 ·exact hc.elim
def LO (k:LK):List (bR Empty):=⟨150,false,VE k⟩::qL Empty (Nw::VD::QV)
theorem ND (k:LK):aI prog gR (LO k):=aI.cons ⟨ar3 k,λe=>by cases e⟩ (kj (bO.cons (adp gR) (bO.cons (ar2 gR) (zM gR))))
def gP (e:Int):V:=.av [.agg (cQ (Sd.c_ 0)),.int .i64 e]
def IC (w:Sd.gW) (b:Int) (m:Sd.a9) (e:Int) (X:V->Option (Sd.gW×Sd.Timer)->Prop):Prop:=
 cond (e !=0) (X (gP 13) none) (cond (m.kind==1) (X (gP 13) none) (cond (m.kind==2) (X (gP 13) none)
  (((0<=w.high/\w.high<=4294967295)/\(0<=m.seq/\m.seq<=4294967295))/\cond (!(HG (ee w m.seq) w)) (X (gP 15) none)
    ((-9223372036854775808<=b/\b<=9223372036854775807)/\X (.av [.agg (cQ m),.int .i64 0]) (some (ee w m.seq,Sd.Timer.start b))))))
def ID (k:LK) (s:Sd.fN) (b l:Int) (n c:Nat) (f:Nat->Int) (X:V->Option (Sd.gW×Sd.Timer)->Prop):Prop:=
 cond (!s.on) (X (gP 16) none) ((some (cw k)=some (cw k)/\n=n/\n<=58/\n<=c/\(0<=l/\l<4294967296))/\
  ((n<8\/lj s.key l (n-8) f=false)->X (gP 14) none)/\
  (8<=n->lj s.key l (n-8) f=true->(n=8->∀(x:Option aQ) (c':Nat),True/\IC s.seen b (jq 0 λ_=>0) (tZ 0 λ_=>0) X)/\
   (8<n->∀(c':Nat) (t':List ae),n-8<=c'->(n-8<=n-8/\n-8<=c'/\By f)/\IC s.seen b (jq (n-8) f) (tZ (n-8) f) X)))
def sG (s:Sd.fN):Option (Sd.gW×Sd.Timer)->Sd.fN
 |none=>s
 |some (w,t)=>{s with seen:=w,on:=true,cI:=t}
def kT (X:V->List VB->Prop):VK Empty:=λv bl _=>X v (bl.take 3)
section
variable(k:LK) (y:TC) (n c:Nat) (f:Nat->Int) (t:List ae) (X:V->List VB->Prop)
theorem ar5:br (bZ prog gR (LO k)) 60 100 [.ptr 1 0,.int .i64 1,.sl 2 0 n c] [cw k,⟨true,⟨157,(0,0)⟩,cM y⟩,fh n f t] [] (kT X)=ID k y.s0 y.b 1 n c f λv o=>X v [cw k,⟨true,⟨157,(0,0)⟩,cM {y with s0:=sG y.s0 o}⟩,fh n f t]:=by kernel_rfl
theorem ar6:br (bZ prog gR (LO k)) 60 100 [.ptr 1 0,.int .i64 2,.sl 2 0 n c] [cw k,⟨true,⟨157,(0,0)⟩,cM y⟩,fh n f t] [] (kT X)=ID k y.sa y.b 2 n c f λv o=>X v [cw k,⟨true,⟨157,(0,0)⟩,cM {y with sa:=sG y.sa o}⟩,fh n f t]:=by kernel_rfl
theorem ar7:br (bZ prog gR (LO k)) 60 100 [.ptr 1 0,.int .i64 3,.sl 2 0 n c] [cw k,⟨true,⟨157,(0,0)⟩,cM y⟩,fh n f t] [] (kT X)=ID k y.sb y.b 3 n c f λv o=>X v [cw k,⟨true,⟨157,(0,0)⟩,cM {y with sb:=sG y.sb o}⟩,fh n f t]:=by kernel_rfl
def lK (y:TC) (l:Int):Sd.fN:=if l=1 then y.s0 else if l=2 then y.sa else y.sb
theorem ar8 (x:Option aQ):br (bZ prog gR (LO k)) 60 100 [.ptr 1 0,.int .i64 1,.raw (.slice x 0 c)] [cw k,⟨true,⟨157,(0,0)⟩,cM y⟩] [] (λv bl _=>X v (bl.take 2))=cond (!y.s0.on) (X (gP 16) [cw k,⟨true,⟨157,(0,0)⟩,cM y⟩]) (X (gP 14) [cw k,⟨true,⟨157,(0,0)⟩,cM y⟩]):=by kernel_rfl
theorem ar9 (x:Option aQ):br (bZ prog gR (LO k)) 60 100 [.ptr 1 0,.int .i64 2,.raw (.slice x 0 c)] [cw k,⟨true,⟨157,(0,0)⟩,cM y⟩] [] (λv bl _=>X v (bl.take 2))=cond (!y.sa.on) (X (gP 16) [cw k,⟨true,⟨157,(0,0)⟩,cM y⟩]) (X (gP 14) [cw k,⟨true,⟨157,(0,0)⟩,cM y⟩]):=by kernel_rfl
theorem ar_ (x:Option aQ):br (bZ prog gR (LO k)) 60 100 [.ptr 1 0,.int .i64 3,.raw (.slice x 0 c)] [cw k,⟨true,⟨157,(0,0)⟩,cM y⟩] [] (λv bl _=>X v (bl.take 2))=cond (!y.sb.on) (X (gP 16) [cw k,⟨true,⟨157,(0,0)⟩,cM y⟩]) (X (gP 14) [cw k,⟨true,⟨157,(0,0)⟩,cM y⟩]):=by kernel_rfl
end
variable{fr:Sd.aF->Nat×Sd.ao}
def lL (s:Sd.fN) (b l:Int) (n:Nat) (f:Nat->Int):V×Option (Sd.gW×Sd.Timer):=
 if s.on=false then(gP 16,none)else if n<8\/lj s.key l (n-8) f=false then(gP 14,none)else match ay (n-8) f with
 |none=>(gP 13,none)
 |some m=>if m.kind=1\/m.kind=2 then(gP 13,none)else if ee s.seen m.seq=s.seen then(gP 15,none)else(.av [.agg (cQ m),.int .i64 0],some (ee s.seen m.seq,Sd.Timer.start b))
theorem asa {w:Sd.gW} {b:Int} {n:Nat} {f:Nat->Int} {X:V->Option (Sd.gW×Sd.Timer)->Prop} (hw:0<=w.high/\w.high<=4294967295) (hb:0<=b/\b<=1000)
 (h0:ay n f=none->X (gP 13) none) (h1:∀m,ay n f=some m->if m.kind=1\/m.kind=2 then X (gP 13) none else if ee w m.seq=w then X (gP 15) none else X (.av [.agg (cQ m),.int .i64 0]) (some (ee w m.seq,Sd.Timer.start b))):
 IC w b (jq n f) (tZ n f) X:=by
 unfold IC;refine aM (λe=>h0 (adt e)) (λe=>?_);have hm:=ads e;have h2:=h1 _ hm;have jD:=Vs hm;refine aM (λe1=>?_) (λe1=>aM (λe2=>?_) (λe2=>⟨⟨hw,jD.seq⟩,aM (λe3=>?_) (λe3=>⟨by omega,?_⟩)⟩))
 ·rw[if_pos (.inl (by simpa using e1))]at h2;exact h2
 ·rw[if_pos (.inr (by simpa using e2))]at h2;exact h2
 ·rw[if_neg (by simp at e1 e2;simp[e1,e2]),if_pos ((abV _ _).1 (by simpa using e3))]at h2;exact h2
 ·rw[if_neg (by simp at e1 e2;simp[e1,e2]),if_neg (λh=>by rw[(abV _ _).2 h]at e3;simp at e3)]at h2;exact h2
theorem VG {k:LK} {s:Sd.fN} {b l:Int} {n c:Nat} {f:Nat->Int} {X:V->Option (Sd.gW×Sd.Timer)->Prop} (hw:s.on=true->0<=s.seen.high/\s.seen.high<=4294967295) (hb:0<=b/\b<=1000) (hn:n<=58) (hc:n<=c) (hl:1<=l/\l<=3) (hf:By f)
 (h:X (lL s b l n f).1 (lL s b l n f).2):ID k s b l n c f X:=by
 unfold lL at h;unfold ID;refine aM (λe=>?_) (λe=>⟨⟨rfl,rfl,hn,hc,by omega,by omega⟩,λIo=>?_,λh8 ho=>?_⟩)
 ·rw[if_pos (by simpa using e)]at h;exact h
 ·rw[if_neg (by simpa using e),if_pos Io]at h;exact h
 ·rw[if_neg (by simpa using e),if_neg (by rw[ho];simp;omega)]at h;have main:∀g:Nat->Int,ay (n-8) g=ay (n-8) f->IC s.seen b (jq (n-8) g) (tZ (n-8) g) X:=by
   intro g hg;refine asa (hw (by simpa using e)) hb (λh0=>?_) (λm hm=>?_)
   ·rw[hg]at h0;rw[h0]at h;exact h
   ·rw[hg]at hm;rw[hm]at h;simp only at h;split
    ·rename_i h1;rw[if_pos h1]at h;exact h
    ·rename_i h1;rw[if_neg h1]at h;split
     ·rename_i h2;rw[if_pos h2]at h;exact h
     ·rename_i h2;rw[if_neg h2]at h;exact h
  refine⟨λVF x c'=>⟨trivial,?_⟩,λVF c' t' yT=>⟨⟨dH _,yT,hf⟩,main f rfl⟩⟩;have h0:n-8=0:=by omega
  have:=main (λ_=>0) (by rw[h0];rfl);rw[h0]at this;exact this
theorem asb (t:Sd.aw) (p:Sd.aO) (l:Int) (n:Nat) (f:Nat->Int) (hl:1<=l/\l<=3):
 (∃e,Sd.aw.take (aq ay) p t l n f=(t,.error e)/\lL (t.ak (l.toNat-1)) p.bV l n f=(gP e,none))\/
 (∃m w,Sd.aw.take (aq ay) p t l n f=(t.eD (l.toNat-1) {(t.ak (l.toNat-1))with seen:=w,on:=true,cI:=.start p.bV},.ok m)/\lL (t.ak (l.toNat-1)) p.bV l n f=(.av [.agg (cQ m),.int .i64 0],some (w,Sd.Timer.start p.bV))):=by
 have fa:t.cj l=(t.ak (l.toNat-1)).on:=by
  unfold Sd.aw.cj;simp[hl.1,hl.2]
 unfold Sd.aw.take lL;rw[fa];by_cases h1:(t.ak (l.toNat-1)).on=false
 ·rw[if_pos h1,if_pos h1];exact .inl ⟨16,rfl,rfl⟩
 ·rw[if_neg h1,if_neg h1];by_cases h2:n<8\/lj (t.ak (l.toNat-1)).key l (n-8) f=false
  ·rw[if_pos h2];have:n<8\/(aq ay).opens (t.ak (l.toNat-1)).key l n f=false:=h2;rw[if_pos this];exact .inl ⟨14,rfl,rfl⟩
  ·rw[if_neg h2];have:¬(n<8\/(aq ay).opens (t.ak (l.toNat-1)).key l n f=false):=h2;rw[if_neg this];rw[show(aq ay).take (n-8) f=ay (n-8) f from rfl];cases NF:ay (n-8) f with
   |none=>exact .inl ⟨13,rfl,rfl⟩
   |some m=>
    simp only;by_cases h3:m.kind=1\/m.kind=2
    ·rw[if_pos h3,if_pos h3];exact .inl ⟨13,rfl,rfl⟩
    ·rw[if_neg h3,if_neg h3];by_cases h4:ee (t.ak (l.toNat-1)).seen m.seq=(t.ak (l.toNat-1)).seen
     ·rw[if_pos h4];have:(aq ay).fg (t.ak (l.toNat-1)).seen m.seq=(t.ak (l.toNat-1)).seen:=h4;rw[if_pos this];exact .inl ⟨15,rfl,rfl⟩
     ·rw[if_neg h4];have:¬(aq ay).fg (t.ak (l.toNat-1)).seen m.seq=(t.ak (l.toNat-1)).seen:=h4;rw[if_neg this];exact .inr ⟨m,ee (t.ak (l.toNat-1)).seen m.seq,rfl,rfl⟩
theorem ady {d:FD} (F:aX fr d) (h0:0<d.k.pn):∃(bp:Nat) (t:List ae) (X:List aj),d.k.px=some ⟨bp,0,none⟩/\d.k.pn<=d.k.pc/\F.B=X++[⟨bp,true,.cells (ai [] (fh d.k.pn d.k.pf t).c).toArray 5 (0,0)⟩]:=by
 obtain⟨b0,b1,b2,b3,b4,hB,k0,k1,k2,k3,k4⟩:=F.hk;obtain⟨hle,h|⟨bp,hx,hb⟩⟩:=k4
 ·have:=h.2.1;omega
 ·have e:(ai [] (fh d.k.pn d.k.pf (nh (d.k.pc-d.k.pn) (.int .u8 0))).c).toArray=bI d.k.pn d.k.pf d.k.pc:=by
   simp[fh,ai,cl,bI,b9]
  refine⟨bp,nh (d.k.pc-d.k.pn) (.int .u8 0),F.Br++(F.Bs++(F.Bf++(F.Bq++(b0++(b1++(b2++b3)))))),hx,hle,?_⟩;rw[e,sD,hB,hb];simp[bU]
def VH (C:Sd.aK):dc (Gh fr):=λargs bl ch K=>match args,ch with
 |[.ptr it 0,.int .i64 l,.raw vp],g::rest=>(match bl[it]?with
  |some ⟨true,⟨157,(0,0)⟩,tc⟩=>(match sw tc with
   |some y=>cond (!(az it 0)) ((vp=eU g.d.k/\bl[0]?=some (cw g.d.k)/\g.d.k.pn<=58/\By g.d.k.pf/\(1<=l/\l<=3)/\(0<=y.b/\y.b<=1000)/\(∀i,i<3->((bD y).ak i).on=true->0<=((bD y).ak i).seen.high/\((bD y).ak i).seen.high<=4294967295))/\
    (∀e,Sd.aw.take C (pY y.b y.m) (bD y) l g.d.k.pn g.d.k.pf=(bD y,.error e)->K (gP e) bl ch)/\
    (∀t' m,Sd.aw.take C (pY y.b y.m) (bD y) l g.d.k.pn g.d.k.pf=(t',.ok m)->K (.av [.agg (cQ m),.int .i64 0]) (bl.set it ⟨true,⟨157,(0,0)⟩,cM (nF t' y.b y.m)⟩) ch)) False
   |none=>False)
  |_=>False)
 |_,_=>False
theorem asc {bl:List VB} {i:Nat} {b:VB} (h:bl[i]?=some b):bl.set i b=bl:=by
 apply vR;intro j;rw[List.getElem?_set];split
 ·rename_i e;subst e;have:=iZ h;rw[if_pos this];exact h.symm
 ·rfl
theorem asd:Sound prog gS 100 (VH (fr:=fr) (aq ay)):=by
 intro args ids bl ch R ms w0 w K hg hl S hc;unfold VH at hc;split at hc
 ·rename_i it l vp g rest;split at hc
  ·rename_i tc hb;split at hc
   ·rename_i y hy;cases hq:!(az it 0)with
    |false=>rw[hq]at hc;exact hc.elim
    |true=>
     rw[hq]at hc;simp only[cond_true]at hc;obtain⟨⟨rfl,hr,hn,hf,QO,VI,hwn⟩,hE,hO⟩:=hc;obtain rfl:=xC hy;have tS:it≠0:=by rintro rfl;simp at hq
     have hi:=iZ hb;have hi0:=iZ hr;have adz:ids.getD 0 0=1:=(hg 1 0 rfl).2;obtain⟨r,Nx,gE⟩:=zW hl (is:=[0,it]) (by simp[Ne.symm tS]) (by simp[hi,hi0]);have adA:(pY y.b y.m).bV=y.b:=rfl;have p1:=gE bl rfl;simp only[eF,s8,fe,fi]at p1;rw[iY hb,iY hr,adz]at p1;have vz:(bD y).ak (l.toNat-1)=lK y l:=by
      have:l=1\/l=2\/l=3:=by omega
      rcases this with rfl|rfl|rfl<;>rfl
     have IE:=asb (bD y) (pY y.b y.m) l g.d.k.pn g.d.k.pf QO;rw[vz,adA]at IE;have hw:(lK y l).on=true->0<=(lK y l).seen.high/\(lK y l).seen.high<=4294967295:=by rw[<-vz];exact hwn _ (by omega)
     have e0:aC (g::rest) R=g.F.B++aC rest R:=rfl;rw[e0]at S;have er:∀is:List Nat,aD is 1 (cw g.d.k)=aD [] 1 (cw g.d.k):=λis=>by
      have:=jg (ids:=[]) (more:=is) (cw g.d.k).c rfl;simp only[fi]at this;simp only[aD,this]
     have et:∀(is:List Nat) (i:Nat) (y:TC),aD is i ⟨true,⟨157,(0,0)⟩,cM y⟩=aD [] i ⟨true,⟨157,(0,0)⟩,cM y⟩:=λis i y=>by
      have:=jg (ids:=[]) (more:=is) (cM y) rfl;simp only[fi]at this;simp only[aD,this]
     have ep:∀(is:List Nat) (i n:Nat) (f:Nat->Int) (t:List ae),aD is i (fh n f t)=aD [] i (fh n f t):=λis i n f t=>by
      have:=jg (ids:=[]) (more:=is) (fh n f t).c rfl;simp only[fi]at this;simp only[aD,this]
     have back:∀(y':TC) (w':ag) (Z:List aj),St ms w0 (aD [] 1 (cw g.d.k)::aD [] (ids.getD it 0) ⟨true,⟨157,(0,0)⟩,cM y'⟩::((r.map λj=>aD ids (ids.getD j 0) (bl.getD j dk))++Z)) w'->St ms w0 (lits ids ids (bl.set it ⟨true,⟨157,(0,0)⟩,cM y'⟩)++Z) w':=by
      intro y' w' Z hS;have p2:=gE (bl.set it ⟨true,⟨157,(0,0)⟩,cM y'⟩) (by simp);simp only[eF,s8,fe,fi]at p2;have e3:(r.map λj=>aD ids (ids.getD j 0) ((bl.set it ⟨true,⟨157,(0,0)⟩,cM y'⟩).getD j dk))=r.map λj=>aD ids (ids.getD j 0) (bl.getD j dk):=by
       apply pI;intro j hj;have:=Nx j hj;simp only[ir];rw[kO (λh=>this (by simp[h]))]
      rw[e3,iY (zX hi),iY (i:=0) (b:=cw g.d.k) (by rw[J1 tS];exact hr),adz,er,et]at p2;exact hS.perm (p2.symm.append_right Z)
     have done:∀{w':ag} (y':TC) (v:V) (o:Option (Sd.gW×Sd.Timer)),cR 0 v=true->lL (lK y l) y.b l g.d.k.pn g.d.k.pf=(v,o)->y'=(if l=1 then{y with s0:=sG y.s0 o}else if l=2 then{y with sa:=sG y.sa o}else{y with sb:=sG y.sb o})->
      St ms w0 (lits ids ids (bl.set it ⟨true,⟨157,(0,0)⟩,cM y'⟩)++(g.F.B++aC rest R)) w'->∃x more bl' ch',den [] v=den (ids++more) x/\(ids++more).length=bl'.length/\St ms w0 (lits (ids++more) (ids++more) bl'++aC ch' R) w'/\K x bl' ch':=by
      intro w' y' v o hv ht NG hS;have ev:∀is,den is v=den [] v:=λis=>by have:=gf (ids:=[]) (more:=is) v hv;simpa using this
      rcases IE with⟨e,h1,h2⟩|⟨m,w2,h1,h2⟩
      ·rw[h2]at ht;obtain⟨rfl,rfl⟩:=Dh ht;have VJ:y'=y:=by
        rw[NG];split
        ·rfl
        ·split<;>rfl
       rw[VJ]at hS;have yU:bl.set it ⟨true,⟨157,(0,0)⟩,cM y⟩=bl:=asc hb;rw[yU]at hS;exact⟨gP e,[],bl,g::rest,(ev _).symm,by simpa using hl,by rw[cH,e0];exact hS,hE e h1⟩
      ·rw[h2]at ht;obtain⟨rfl,rfl⟩:=Dh ht;refine⟨.av [.agg (cQ m),.int .i64 0],[],_,g::rest,(ev _).symm,by simpa using hl,?_,hO _ m h1⟩;rw[cH,e0];have VJ:nF ((bD y).eD (l.toNat-1) {lK y l with seen:=w2,on:=true,cI:=.start y.b}) y.b y.m=y':=by
        rw[NG];have:l=1\/l=2\/l=3:=by omega
        rcases this with rfl|rfl|rfl<;>rfl
       rw[VJ];exact hS
     have hX:∀(y':TC) (o:Option (Sd.gW×Sd.Timer)) (v:V),lL (lK y l) y.b l g.d.k.pn g.d.k.pf=(v,o)->cR 0 v=true:=by
      intro y' o v hv;rcases IE with⟨e,h1,h2⟩|⟨m,w2,h1,h2⟩<;>(rw[h2]at hv;obtain⟨rfl,rfl⟩:=Dh hv;rfl)
     rcases vP g.d.k.pn with hz|BL
     ·
      have HE:Gl gR [1,ids.getD it 0]:=by
       intro gg i dN;unfold gR at dN;split at dN
       ·obtain rfl:=cG dN;exact⟨by simp,rfl⟩
       ·cases dN
      have S1:=S.perm (p1.append_right _);simp only[fe]at S1;rw[er,et]at S1;have S2:St ms w0 (lits [1,ids.getD it 0] [1,ids.getD it 0] [cw g.d.k,⟨true,⟨157,(0,0)⟩,cM y⟩]++aC ([]:List Empty) ((r.map λj=>aD ids (ids.getD j 0) (bl.getD j dk))++(g.F.B++aC rest R))) w:=by
       simp only[lits,aC,er,et,fe,fi];exact S1
      let X:V->List VB->Prop:=λv b=>v=(lL (lK y l) y.b l g.d.k.pn g.d.k.pf).1/\b=[cw g.d.k,⟨true,⟨157,(0,0)⟩,cM y⟩]
      have hT:lL (lK y l) y.b l g.d.k.pn g.d.k.pf=if(lK y l).on=false then(gP 16,none)else(gP 14,none):=by
       unfold lL;rw[hz];split
       ·rfl
       ·rw[if_pos (.inl (by decide))]
      have cS:br (bZ prog gR (LO g.d.k)) 60 100 [.ptr 1 0,.int .i64 l,.raw (.slice g.d.k.px 0 g.d.k.pc)] [cw g.d.k,⟨true,⟨157,(0,0)⟩,cM y⟩] [] (λv bl _=>X v (bl.take 2)):=by
       have VL:cond (!(lK y l).on) (X (gP 16) [cw g.d.k,⟨true,⟨157,(0,0)⟩,cM y⟩]) (X (gP 14) [cw g.d.k,⟨true,⟨157,(0,0)⟩,cM y⟩]):=by
        refine aM (λe=>⟨?_,rfl⟩) (λe=>⟨?_,rfl⟩)
        ·rw[hT,if_pos (by simpa using e)]
        ·rw[hT,if_neg (by simpa using e)]
       have:l=1\/l=2\/l=3:=by omega
       rcases this with rfl|rfl|rfl
       ·rw[ar8];exact VL
       ·rw[ar9];exact VL
       ·rw[ar_];exact VL
      have ea:(aH ids [.ptr it 0,.int .i64 l,.raw (eU g.d.k)]).toArray=(aH [1,ids.getD it 0] [.ptr 1 0,.int .i64 l,.raw (.slice g.d.k.px 0 g.d.k.pc)]).toArray:=by
       have:eU g.d.k=.slice g.d.k.px 0 g.d.k.pc:=by unfold eU;rw[hz]
       rw[this];rfl
      rw[ea];refine(eO (ND g.d.k).T (ND g.d.k).Q 60 (C:=bZ prog gR (LO g.d.k)) HE rfl S2 cS).mono ?_;rintro v w' ⟨x,more,bl',ch',rfl,h1,S3,hv,jD⟩;have xN:cR 0 x=true:=by
       rw[hv];exact hX y _ _ rfl
      have oE:bl'=[cw g.d.k,⟨true,⟨157,(0,0)⟩,cM y⟩]++bl'.drop 2:=by rw[<-jD,jS]
      rw[oE]at S3;have e2:lits ([1,ids.getD it 0]++more) ([1,ids.getD it 0]++more) ([cw g.d.k,⟨true,⟨157,(0,0)⟩,cM y⟩]++bl'.drop 2)=aD [] 1 (cw g.d.k)::aD [] (ids.getD it 0) ⟨true,⟨157,(0,0)⟩,cM y⟩::lits ([1,ids.getD it 0]++more) more (bl'.drop 2):=by
       simp only[fe,fi,lits,er,et]
      rw[e2]at S3;have e3:aC ch' ((r.map λj=>aD ids (ids.getD j 0) (bl.getD j dk))++(g.F.B++aC rest R))=(r.map λj=>aD ids (ids.getD j 0) (bl.getD j dk))++(g.F.B++aC rest R):=by cases ch' with
       |nil=>rfl
       |cons c _=>cases c
      rw[e3]at S3;have S4:=S3.sub (bs':=aD [] 1 (cw g.d.k)::aD [] (ids.getD it 0) ⟨true,⟨157,(0,0)⟩,cM y⟩::((r.map λj=>aD ids (ids.getD j 0) (bl.getD j dk))++(g.F.B++aC rest R))) (by
       simp only[fe];exact Df _ (Df _ (mA _ _)))
      have ex:den ([1,ids.getD it 0]++more) x=den [] x:=by have:=gf (ids:=[]) (more:=[1,ids.getD it 0]++more) x xN;simpa using this
      rw[ex];have ho:(lL (lK y l) y.b l g.d.k.pn g.d.k.pf).2=none:=by rw[hT];split<;>rfl
      refine done y x none xN ?_ ?_ (back y w' _ S4)
      ·rw[hv,<-ho]
      ·split
       ·rfl
       ·split<;>rfl
     ·
      obtain⟨bp,t,XX,hx,hle,VM⟩:=ady g.F BL;have HE:Gl gR [1,ids.getD it 0,bp]:=by
       intro gg i dN;unfold gR at dN;split at dN
       ·obtain rfl:=cG dN;exact⟨by simp,rfl⟩
       ·cases dN
      have ase:(⟨bp,true,.cells (ai [] (fh g.d.k.pn g.d.k.pf t).c).toArray 5 (0,0)⟩:aj)=aD [] bp (fh g.d.k.pn g.d.k.pf t):=rfl;rw[ase]at VM;have S1:=S.perm (p1.append_right _);rw[VM]at S1;simp only[fe]at S1;rw[er,et]at S1;have pm:∀(a b c:aj) (A B Z:List aj),(a::b::(A++((B++[c])++Z))).Perm (a::b::c::(A++(B++Z))):=by
       intro a b c A B Z;refine uq a (uq b ?_);have:=jU (a:=c) (l₁:=A++B) (l₂:=Z);simpa[bU]using this
      have S2:St ms w0 (lits [1,ids.getD it 0,bp] [1,ids.getD it 0,bp] [cw g.d.k,⟨true,⟨157,(0,0)⟩,cM y⟩,fh g.d.k.pn g.d.k.pf t]++aC ([]:List Empty) ((r.map λj=>aD ids (ids.getD j 0) (bl.getD j dk))++(XX++aC rest R))) w:=by
       simp only[lits,aC,er,et,ep,fe,fi];exact S1.perm (pm _ _ _ _ _ _)
      let X:V->List VB->Prop:=λv b=>v=(lL (lK y l) y.b l g.d.k.pn g.d.k.pf).1/\b=[cw g.d.k,⟨true,⟨157,(0,0)⟩,cM (if l=1 then{y with s0:=sG y.s0 (lL (lK y l) y.b l g.d.k.pn g.d.k.pf).2}else if l=2 then{y with sa:=sG y.sa (lL (lK y l) y.b l g.d.k.pn g.d.k.pf).2}else{y with sb:=sG y.sb (lL (lK y l) y.b l g.d.k.pn g.d.k.pf).2})⟩,fh g.d.k.pn g.d.k.pf t]
      have cS:br (bZ prog gR (LO g.d.k)) 60 100 [.ptr 1 0,.int .i64 l,.sl 2 0 g.d.k.pn g.d.k.pc] [cw g.d.k,⟨true,⟨157,(0,0)⟩,cM y⟩,fh g.d.k.pn g.d.k.pf t] [] (kT X):=by
       have:l=1\/l=2\/l=3:=by omega
       rcases this with rfl|rfl|rfl
       ·rw[ar5];exact VG hw VI hn hle (by decide) hf ⟨rfl,rfl⟩
       ·rw[ar6];exact VG hw VI hn hle (by decide) hf ⟨rfl,rfl⟩
       ·rw[ar7];exact VG hw VI hn hle (by decide) hf ⟨rfl,rfl⟩
      have ea:(aH ids [.ptr it 0,.int .i64 l,.raw (eU g.d.k)]).toArray=(aH [1,ids.getD it 0,bp] [.ptr 1 0,.int .i64 l,.sl 2 0 g.d.k.pn g.d.k.pc]).toArray:=by
       have:eU g.d.k=.slice (some ⟨bp,0,none⟩) g.d.k.pn g.d.k.pc:=by unfold eU;rw[hx]
       rw[this];rfl
      rw[ea];refine(eO (ND g.d.k).T (ND g.d.k).Q 60 (C:=bZ prog gR (LO g.d.k)) HE rfl S2 cS).mono ?_;rintro v w' ⟨x,more,bl',ch',rfl,h1,S3,hv,jD⟩;generalize NG:(if l=1 then{y with s0:=sG y.s0 (lL (lK y l) y.b l g.d.k.pn g.d.k.pf).2}else if l=2 then{y with sa:=sG y.sa (lL (lK y l) y.b l g.d.k.pn g.d.k.pf).2}else{y with sb:=sG y.sb (lL (lK y l) y.b l g.d.k.pn g.d.k.pf).2}:TC)=y' at jD;have xN:cR 0 x=true:=by
       rw[hv];exact hX y _ _ rfl
      have oE:bl'=[cw g.d.k,⟨true,⟨157,(0,0)⟩,cM y'⟩,fh g.d.k.pn g.d.k.pf t]++bl'.drop 3:=by rw[<-jD,jS]
      rw[oE]at S3;have e2:lits ([1,ids.getD it 0,bp]++more) ([1,ids.getD it 0,bp]++more) ([cw g.d.k,⟨true,⟨157,(0,0)⟩,cM y'⟩,fh g.d.k.pn g.d.k.pf t]++bl'.drop 3)=aD [] 1 (cw g.d.k)::aD [] (ids.getD it 0) ⟨true,⟨157,(0,0)⟩,cM y'⟩::aD [] bp (fh g.d.k.pn g.d.k.pf t)::lits ([1,ids.getD it 0,bp]++more) more (bl'.drop 3):=by
       simp only[fe,fi,lits,er,et,ep]
      rw[e2]at S3;have e3:∀Z,aC ch' Z=Z:=by
       intro Z;cases ch' with
       |nil=>rfl
       |cons c _=>cases c
      rw[e3]at S3;have S4:=S3.sub (bs':=aD [] 1 (cw g.d.k)::aD [] (ids.getD it 0) ⟨true,⟨157,(0,0)⟩,cM y'⟩::aD [] bp (fh g.d.k.pn g.d.k.pf t)::((r.map λj=>aD ids (ids.getD j 0) (bl.getD j dk))++(XX++aC rest R))) (by
       simp only[fe];exact Df _ (Df _ (Df _ (mA _ _))))
      have S5:=S4.perm (pm _ _ _ _ _ _).symm;rw[<-VM]at S5;have ex:den ([1,ids.getD it 0,bp]++more) x=den [] x:=by have:=gf (ids:=[]) (more:=[1,ids.getD it 0,bp]++more) x xN;simpa using this
      rw[ex];exact done y' x _ xN (by rw[hv]) NG.symm (back y' w' _ S5)
   ·exact hc.elim
  ·exact hc.elim
 ·exact hc.elim
def sH (a:Nat) (f:fL):ae:=.func (.func f) #[.pointer (some ⟨a,0,none⟩)] #[]
def pk (a:Nat):List (Int×ae):=[(3,sH a 152),(4,sH a 153),(5,sH a 154),(6,sH a 155),(7,sH a 156),(8,sH a 157),(9,sH a 158),(10,sH a 159),(11,sH a 159)]
def adB:Nat->Prop->Prop->Prop
 |0,_,q=>q
 |n+1,p,q=>p/\adB n p q
theorem asf (a:Nat) (K:VK zi):br (RE prog gN []) 60 101 [.raw (.pointer (some ⟨a,0,none⟩))] [] [] K=∀id:Nat,adB 9 (Value.map (some id)=.map (some id)) (K (.raw (.map (some id))) [] [⟨id,pk a⟩]):=by kernel_rfl
theorem asg (a:Nat) {ms:List Nat} {w0 w:ag} {B:List aj} (S:St ms w0 B w):aV prog 101 #[.pointer (some ⟨a,0,none⟩)] w λv w1=>∃id,v=.map (some id)/\St ms w0 (⟨id,true,nk .i64 (pk a)⟩::B) w1:=by
 have cS:br (RE prog gN []) 60 101 [.raw (.pointer (some ⟨a,0,none⟩))] [] [] (λv bl ch=>∃id,v=.raw (.map (some id))/\bl=[]/\ch=[⟨id,pk a⟩]):=by
  rw[asf];exact λid=>⟨rfl,rfl,rfl,rfl,rfl,rfl,rfl,rfl,rfl,id,rfl,rfl,rfl⟩
 refine(eO (G:=zi) (aI.nil (P:=prog) (gl:=gN)).T (aI.nil (P:=prog) (gl:=gN)).Q 60 (C:=RE prog gN []) (ids:=[]) (bl:=[]) (ch:=[]) (R:=B) (args:=[.raw (.pointer (some ⟨a,0,none⟩))]) (λg i h=>by cases h) rfl S cS).mono ?_;rintro v w' ⟨x,more,bl',ch',rfl,mS,S2,id,rfl,rfl,rfl⟩;have hm:more=[]:=by cases more with
  |nil=>rfl
  |cons=>simp at mS
 subst hm;exact⟨id,by simp[den],S2⟩
def t_ (a:Nat):Nat->Option Nat:=λg=>match gS g with
 |some i=>some i
 |none=>bif az g a then some 2 else none
theorem ash {a:Nat} {ids:List Nat} (h:Gl (t_ a) ids):Gl gS ids:=λg i hi=>h g i (by unfold t_;rw[hi])
theorem adC {a:Nat} {ids:List Nat} (h:Gl (t_ a) ids) (ha:gS a=none):2<ids.length/\ids.getD 2 0=a:=h a 2 (by unfold t_;rw[ha];simp)
def IF (a:Nat):dc (Sm (Gh fr)):=λargs bl ch K=>match args with
 |[.ptr 2 0]=>gS a=none/\∀id:Nat,K (.raw (.map (some id))) bl (ch++[.m ⟨id,pk a⟩])
 |_=>False
theorem asi (a:Nat):Sound prog (t_ a) 101 (IF (fr:=fr) a):=by
 intro args ids bl ch R ms w0 w K hg hl S hc;unfold IF at hc;split at hc
 ·obtain⟨ha,hK⟩:=hc;have h2:=(adC hg ha).2;have ea:(aH ids [.ptr 2 0]).toArray=#[.pointer (some ⟨a,0,none⟩)]:=by simp only[aH,den,h2]
  rw[ea];refine(asg a S).mono ?_;rintro v w1 ⟨id,rfl,S1⟩;refine⟨_,[],bl,_,?_,by simpa using hl,?_,hK id⟩
  ·simp[den]
  ·rw[cH,nt,iX _ ch];have e:aC [(.m ⟨id,pk a⟩:Sm (Gh fr))] R=⟨id,true,nk .i64 (pk a)⟩::R:=rfl;rw[e];rw[iX R ch]at S1;refine S1.perm ?_;rw[<-bU,<-bU];exact jU.symm
 ·exact hc.elim
theorem asj (a:Nat):ia (IF (fr:=fr) a):=by
 intro args bl ch K h;unfold IF at h⊢;split at h
 ·exact⟨h.1,λid=>⟨h.2 id,[],by simp⟩⟩
 ·exact h.elim
def sJ (f:fL):V:=.av [.fn f [.ptr 2 0] [],.bool true]
def NH (a:Nat):(bh->V)->Op->List VB->List (Sm (Gh fr))->VK (Sm (Gh fr))->Prop:=λe op bl ch K=>match op with
 |.lookup mt m k true=>(match ch,e m,e k with
  |[.g x,.m g],.raw mv,.int .i64 kd=>(match prog.underlying mt with
   |some (.map kt _)=>(match prog.underlying kt with
    |some (.int .i64)=>(mv=.map (some g.id)/\g.tb=pk a/\gS a=none/\3<=kd/\kd<=11)/\
     cond (kd==3) (K (sJ 152) bl ch) (cond (kd==4) (K (sJ 153) bl ch) (cond (kd==5) (K (sJ 154) bl ch) (cond (kd==6) (K (sJ 155) bl ch) (cond (kd==7) (K (sJ 156) bl ch) (cond (kd==8) (K (sJ 157) bl ch) (cond (kd==9) (K (sJ 158) bl ch) (K (sJ 159) bl ch)))))))
    |_=>False)
   |_=>False)
  |_,_,_=>False)
 |_=>False
theorem adD (a:Nat):gv prog (t_ a) (NH (fr:=fr) a):=by
 intro e op ids bl ch R ms w0 w K ρ o hg hl S ba ho h;unfold NH at h;split at h
 ·rename_i mt m k;split at h
  ·rename_i x g mv kd hm hk;split at h
   ·rename_i kt et hu;split at h
    ·rename_i RD;obtain⟨⟨rfl,VN,ha,h3,Im⟩,hK⟩:=h;have h2:=(adC hg ha).2;have e0:aC [(.g x:Sm (Gh fr)),.m g] R=Bl.B x++(⟨g.id,true,nk .i64 g.tb⟩::R):=rfl;have S':=S;rw[e0,VN]at S';have aP:=S'.at' (x:=⟨g.id,true,nk .i64 (pk a)⟩) (by simp);have run:∀f,(∃j,PA (.int .i64) (.int .i64 kd) (((pk a).zipIdx.map λx=>(⟨.int .i64 x.1.1,x.1.2,x.2⟩:vS)).toArray).toList 0=some (some (j,sH a f)))->K (sJ f) bl [(.g x:Sm (Gh fr)),.m g]->
      ∃VO more bl' ch' w',((execOp ρ o).run prog w=.ok (.value (den (ids++more) VO)) w'\/((execOp ρ o).run prog w=.ok .skip w'/\VO=gu))/\(ids++more).length=bl'.length/\St ms w0 (lits (ids++more) (ids++more) bl'++aC ch' R) w'/\K VO bl' ch':=by
      intro f hf hkf;refine⟨sJ f,[],bl,_,w,.inl ?_,by simpa using hl,by simpa using S,hkf⟩;have bQ:=aiw (P:=prog) hu RD aP hf;unfold execOp;simp only[ho,ba,hm,hk,den]at bQ⊢;have asl:den ids (sJ f)=.tuple #[sH a f,.bool true]:=by simp only[sJ,den,aH,h2,sH]
      rw[cH,asl];simp only[bE,bQ,cK,du]
     have hkd:kd=3\/kd=4\/kd=5\/kd=6\/kd=7\/kd=8\/kd=9\/kd=10\/kd=11:=by omega
     rcases hkd with rfl|rfl|rfl|rfl|rfl|rfl|rfl|rfl|rfl
     ·exact run 152 ⟨0,by kernel_rfl⟩ hK
     ·exact run 153 ⟨1,by kernel_rfl⟩ hK
     ·exact run 154 ⟨2,by kernel_rfl⟩ hK
     ·exact run 155 ⟨3,by kernel_rfl⟩ hK
     ·exact run 156 ⟨4,by kernel_rfl⟩ hK
     ·exact run 157 ⟨5,by kernel_rfl⟩ hK
     ·exact run 158 ⟨6,by kernel_rfl⟩ hK
     ·exact run 159 ⟨7,by kernel_rfl⟩ hK
     ·exact run 159 ⟨8,by kernel_rfl⟩ hK
    ·exact h.elim
   ·exact h.elim
  ·exact h.elim
 ·exact h.elim
def IG:dc (Gh fr):=λargs bl ch K=>match args,ch with
 |[.raw vp,.int .u8 kd],g::rest=>vp=eU g.d.k/\K (.bool (decide (0<g.d.k.pn)&&(g.d.k.pf 0==kd))) bl (g::rest)
 |_,_=>False
theorem asm:ia (IG (fr:=fr)):=by
 intro args bl ch K h;unfold IG at h⊢;split at h
 ·exact⟨h.1,h.2,[],by simp⟩
 ·exact h.elim
def IH:List (bR Empty):=[]
theorem asn (x:Option aQ) (c:Nat) (kd:Int) (X:V->Prop):br (bZ (G:=Empty) prog l_ IH) 40 97 [.raw (.slice x 0 c),.int .u8 kd] [] [] (λv _ _=>X v)=X (.bool false):=by kernel_rfl
theorem aso (n c:Nat) (kd:Int) (f:Nat->Int) (t:List ae) (X:V->Prop):br (bZ (G:=Empty) prog l_ IH) 40 97 [.sl 0 0 (n+1) c,.int .u8 kd] [⟨false,⟨5,(0,0)⟩,[.bS .u8 (n+1) f,.rest t]⟩] [] (λv _ _=>X v)=cond (decide (((n+1:Nat):Int)>0)) (X (.bool (f 0==kd))) (X (.bool false)):=by kernel_rfl
theorem NI:aI (G:=Empty) prog l_ IH:=aI.nil
theorem asp:Sound prog gS 97 (IG (fr:=fr)):=by
 intro args ids bl ch R ms w0 w K hg hl S hc;unfold IG at hc;split at hc
 ·rename_i vp kd g rest;obtain⟨rfl,hK⟩:=hc;have e0:aC (g::rest) R=g.F.B++aC rest R:=rfl;have S':=S;rw[e0]at S';have main:aV prog 97 #[eU g.d.k,.int .u8 kd] w λv w1=>v=.bool (decide (0<g.d.k.pn)&&(g.d.k.pf 0==kd))/\Ch [] w w1:=by
   rcases vP g.d.k.pn with hz|BL
   ·have ep:eU g.d.k=.slice g.d.k.px 0 g.d.k.pc:=by unfold eU;rw[hz]
    rw[ep];refine(eO (G:=Empty) NI.T NI.Q 40 (C:=bZ prog l_ IH) (ids:=[]) (bl:=[]) (ch:=[]) (R:=[]) (ms:=[]) (w0:=w) (args:=[.raw (.slice g.d.k.px 0 g.d.k.pc),.int .u8 kd]) (λg i h=>by cases h) rfl (St.nil [] w) (K:=λv _ _=>v=.bool false) (f:=97) (by rw[asn])).mono ?_;rintro v w' ⟨x,more,bl',ch',rfl,mS,S2,rfl⟩;exact⟨by simp[den,hz],S2.ch⟩
   ·obtain⟨bp,t,X,hx,hle,hB⟩:=ady g.F BL;rw[hB]at S';have aP:=S'.at' (x:=⟨bp,true,.cells (ai [] (fh g.d.k.pn g.d.k.pf t).c).toArray 5 (0,0)⟩) (by simp);obtain⟨n,hn⟩:∃n,g.d.k.pn=n+1:=⟨g.d.k.pn-1,by omega⟩;have ep:eU g.d.k=.slice (some ⟨bp,0,none⟩) (n+1) g.d.k.pc:=by unfold eU;rw[hx,hn]
    rw[ep];rw[hn]at aP;have S0:=St.given (w:=w) [(bp,.cells (ai [] (fh (n+1) g.d.k.pf t).c).toArray 5 (0,0))] (all_cons aP all_nil);have S1:St [] w (lits [bp] [bp] [⟨false,⟨5,(0,0)⟩,[.bS .u8 (n+1) g.d.k.pf,.rest t]⟩]++aC ([]:List Empty) []) w:=by
     simpa[lits,aD,ai,cl,aC,fh]using S0
    refine(eO (G:=Empty) NI.T NI.Q 40 (C:=bZ prog l_ IH) (args:=[.sl 0 0 (n+1) g.d.k.pc,.int .u8 kd]) (λg i h=>by cases h) rfl S1 (K:=λv _ _=>v=.bool (g.d.k.pf 0==kd)) (f:=97) (by rw[aso];exact aM (λ_=>rfl) (λe=>by have:=of_decide_eq_false e;omega))).mono ?_;rintro v w' ⟨x,more,bl',ch',rfl,mS,S2,rfl⟩;refine⟨?_,S2.ch⟩;have:decide (0<g.d.k.pn)=true:=by simp[BL]
    simp[den,this]
  have ea:(aH ids [.raw (eU g.d.k),.int .u8 kd]).toArray=#[eU g.d.k,.int .u8 kd]:=rfl;rw[ea];refine main.mono ?_;rintro v w1 ⟨rfl,cB⟩;exact⟨_,[],bl,g::rest,by simp only[den],by simpa using hl,by simpa using S.quiet cB,hK⟩
 ·exact hc.elim
def VP (C:Sd.aK):dc (Gh fr):=λargs bl ch K=>match args,ch with
 |[.ptr it 0,.int .i64 l,.raw vp],g::rest=>(match bl[it]?with
  |some ⟨true,⟨157,(0,0)⟩,tc⟩=>(match sw tc with
   |some y=>cond (!(az it 0)) ((vp=eU g.d.k/\bl[0]?=some (cw g.d.k)/\g.d.k.pn<=58/\By g.d.k.pf/\(1<=l/\l<=3)/\(0<=y.b/\y.b<=1000)/\(∀i,i<3->((bD y).ak i).on=true->0<=((bD y).ak i).seen.high/\((bD y).ak i).seen.high<=4294967295))/\
    (Sd.aw.take C (pY y.b y.m) (bD y) l g.d.k.pn g.d.k.pf=(bD y,.error 16)->K (gP 16) bl ch)/\
    (Sd.aw.take C (pY y.b y.m) (bD y) l g.d.k.pn g.d.k.pf=(bD y,.error 14)->K (gP 14) bl ch)/\
    (Sd.aw.take C (pY y.b y.m) (bD y) l g.d.k.pn g.d.k.pf=(bD y,.error 13)->K (gP 13) bl ch)/\
    (Sd.aw.take C (pY y.b y.m) (bD y) l g.d.k.pn g.d.k.pf=(bD y,.error 15)->K (gP 15) bl ch)/\
    (∀t' m,Sd.aw.take C (pY y.b y.m) (bD y) l g.d.k.pn g.d.k.pf=(t',.ok m)->K (.av [.agg (cQ m),.int .i64 0]) (bl.set it ⟨true,⟨157,(0,0)⟩,cM (nF t' y.b y.m)⟩) ch)) False
   |none=>False)
  |_=>False)
 |_,_=>False
theorem Tt {C:Sd.aK} {p:Sd.aO} {t t':Sd.aw} {l:Int} {n:Nat} {f:Nat->Int} {e:Int} (h:Sd.aw.take C p t l n f=(t',.error e)):e=16\/e=14\/e=13\/e=15:=by
 unfold Sd.aw.take at h
 repeat' split at h
 all_goals first|(cases h;done)|(obtain⟨_,h2⟩:=Dh h;cases h2;simp)
theorem asq:Sound prog gS 100 (VP (fr:=fr) (aq ay)):=by
 intro args ids bl ch R ms w0 w K hg hl S hc;refine asd args ids bl ch R ms w0 w K hg hl S ?_;unfold VP at hc;unfold VH;split at hc
 ·rename_i it l vp g rest;split at hc
  ·rename_i tc hb;try simp only[hb]
   split at hc
   ·rename_i y hy;try simp only[hy]
    cases hq:!(az it 0)with
    |false=>rw[hq]at hc;exact hc.elim
    |true=>
     rw[hq]at hc;obtain⟨hp,U6,Io,U5,EL,hok⟩:=hc;refine⟨hp,λe he=>?_,hok⟩;rcases Tt he with rfl|rfl|rfl|rfl
     ·exact U6 he
     ·exact Io he
     ·exact U5 he
     ·exact EL he
   ·exact hc.elim
  ·exact hc.elim
 ·exact hc.elim
def LIg (fr:Sd.aF->Nat×Sd.ao) (C:Sd.aK):List (bR (Gh fr)):=⟨98,false,ie (EP C)⟩::⟨99,false,ie (IB C)⟩::⟨100,false,VP C⟩::⟨97,true,IG⟩::⟨152,false,ie (jo λs l m=>s.done l m.seq)⟩::⟨153,false,ie (jo λs l m=>s.A_ C l m)⟩::⟨154,false,ie (jo λs l m=>s.ask C l m)⟩::
 ⟨155,false,ie (jo λs l m=>s.offer C l m)⟩::⟨156,false,ie (jo λs l m=>s.accept C l m)⟩::⟨157,false,ie (jo λs l m=>s.fU C l m)⟩::⟨158,false,ie (jo λs l m=>s.release C l m)⟩::⟨159,false,ie (Ip C)⟩::L8 fr C
theorem asr (ht:Body (fr:=fr) 147 dY):aI prog gS (LIg fr (aq ay)):=
 aI.cons (i_ (arD ht)) (aI.cons (i_ (ar1 ht)) (aI.cons ⟨asq,λe=>by cases e⟩ (aI.cons ⟨asp,λ_=>asm⟩ (aI.cons (i_ (ap0 ay ht)) (aI.cons (i_ (aqN ay ht)) (aI.cons (i_ (ap5 ay ht)) (aI.cons (i_ (ap3 ay ht)) (aI.cons (i_ (ap1 ay ht)) (aI.cons (i_ (ap2 ay ht)) (aI.cons (i_ (ap4 ay ht)) (aI.cons (i_ (aqO ay ht)) (EO ay ht))))))))))))
def LI (fr:Sd.aF->Nat×Sd.ao) (a:Nat) (C:Sd.aK):List (bR (Sm (Gh fr))):=⟨101,true,IF a⟩::RF (LIg fr C)
theorem ass (a:Nat) (ht:Body (fr:=fr) 147 dY):aI prog (t_ a) (LI fr a (aq ay)):=aI.cons ⟨asi a,λ_=>asj a⟩ (aap (λids h=>ash h) (asr ht))
def VQ (k:LK) (s:Sd.aa) (Kb:SK fr k):V->List VB->List (Sm (Gh fr))->Prop:=λv bl ch=>∃s' F' r,cR 0 v=true/\s'.c.p=s.c.p/\Kb v s' F'/\bl.take 5=bK k s' F'/\ch=.g (bj k s' F')::r
section
variable(a:Nat) (C:Sd.aK) (k:LK) (s:Sd.aa) (F:aX fr (aU k s)) (Kb:SK fr k) (l code:Int)
def Aa (r:List (Sm (Gh fr))) (s':Sd.aa) (F':aX fr (aU k s')):Prop:=VQ k s Kb (.av []) (bK k s' F') (.g (bj k s' F')::r)
def II (e:Int):Prop:=Sd.aw.take C (pY s.c.p.bV s.c.p.fj) (dA s.c.af) l k.pn k.pf=(dA s.c.af,.error e)->cy k s F/\qP C [.int .i64 l,.int .i64 e] k (bP s) F λv s' F'=>Aa k s Kb [] s' F'
def xO (M:SM fr) (t':Sd.aw) (m:Sd.a9) (id:Nat):Prop:=cy k s F/\M [.int .i64 l,.agg (cQ m)] k (vw s t') F λv s' F'=>Aa k s Kb [.m ⟨id,pk a⟩] s' F'
def itO (t':Sd.aw) (m:Sd.a9):Prop:=gS a=none/\∀id:Nat,(Value.map (some id)=.map (some id)/\pk a=pk a/\gS a=none/\3<=m.kind/\m.kind<=11)/\
 cond (m.kind==3) (xO a k s F Kb l (jo λs l m=>s.done l m.seq) t' m id) (cond (m.kind==4) (xO a k s F Kb l (jo λs l m=>s.A_ C l m) t' m id) (cond (m.kind==5) (xO a k s F Kb l (jo λs l m=>s.ask C l m) t' m id) (cond (m.kind==6) (xO a k s F Kb l (jo λs l m=>s.offer C l m) t' m id)
 (cond (m.kind==7) (xO a k s F Kb l (jo λs l m=>s.accept C l m) t' m id) (cond (m.kind==8) (xO a k s F Kb l (jo λs l m=>s.fU C l m) t' m id) (cond (m.kind==9) (xO a k s F Kb l (jo λs l m=>s.release C l m) t' m id) (xO a k s F Kb l (Ip C) t' m id)))))))
def VR:Prop:=
 cond (code !=0) (cy k s F/\qP C [.int .i64 l,.int .i64 code] k (bP s) F λv s' F'=>Aa k s Kb [] s' F')
 (eU k=eU k/\cond (decide (0<k.pn)&&(k.pf 0==1)) (cy k s F/\EP C [.int .i64 l,.raw (eU k)] k (bP s) F λv s' F'=>Aa k s Kb [] s' F')
 (eU k=eU k/\cond (decide (0<k.pn)&&(k.pf 0==2)) (cy k s F/\IB C [.int .i64 l,.raw (eU k)] k (bP s) F λv s' F'=>Aa k s Kb [] s' F')
 ((eU k=eU k/\some (cw k)=some (cw k)/\k.pn<=58/\By k.pf/\(1<=l/\l<=3)/\(0<=s.c.p.bV/\s.c.p.bV<=1000)/\(∀i,i<3->((bD (vi s)).ak i).on=true->0<=((bD (vi s)).ak i).seen.high/\((bD (vi s)).ak i).seen.high<=4294967295))/\
   II C k s F Kb l 16/\II C k s F Kb l 14/\II C k s F Kb l 13/\II C k s F Kb l 15/\∀t' m,Sd.aw.take C (pY s.c.p.bV s.c.p.fj) (dA s.c.af) l k.pn k.pf=(t',.ok m)->itO a C k s F Kb l t' m)))
theorem ast:br (fW prog (t_ a) (LI fr a C) (NH a) (adD a)) 90 56 [.ptr 2 0,.int .i64 l,.agg [.int .i64 code,.raw (eU k)]] (bK k s F) [.g (bj k s F)] (VQ k s Kb)=VR a C k s F Kb l code:=by kernel_rfl
end
theorem asu {w:Sd.gW} {n:Int} (h:0<=w.high/\w.high<=4294967295) (hn:0<=n/\n<=4294967295):0<=(ee w n).high/\(ee w n).high<=4294967295:=by
 unfold ee
 repeat' split
 all_goals first|exact hn|exact h
theorem adE (H:Nat->Int):By (zl H):=by
 intro j;have hw:∀n:Int,0<=u8.wrap n/\u8.wrap n<=255:=by intro n;simp[yr,uz,uA];omega
 unfold zl;split<;>exact hw _
theorem asv (n:Nat) (f:Nat->Int):By (ji n f):=by
 unfold ji;cases bG n 55
 ·exact adE _
 ·exact adE _
theorem EW:Sd.HO (aq ay):=⟨λk s n j=>by
 show 0<=jE k.1 k.2 s n j/\jE k.1 k.2 s n j<=255;unfold jE fR;exact asv _ _ j,λn f m h=>Vs h,λw n h1 h2=>asu h1 h2⟩
structure EX (k:LK) (s:Sd.aa) (l:Int):Prop where
 r:Rm s 8
 i:Sd.Inv s.c
 lo:1<=l/\l<=3
 d:∀i,i<3->(s.c.doors i).many<=9223372036854775807
 key:∀i,i<4->1<=k.kn i/\k.kn i<=64
 ke:∀i,i<4->s.c.p.k i=(k.kn i,k.kf i)
 kR:k.pn<=58/\By k.pf
def IJ (C:Sd.aK):SM fr:=λar k s F K=>match ar with
 |[.int .i64 l,.agg [.int .i64 code,.raw vp]]=>(vp=eU k/\EX k s l)/\∀F',K (.av []) (s.item C l code k.pn k.pf) F'
 |_=>False
theorem EX.nx {k:LK} {s:Sd.aa} {l:Int} (h:EX k s l):Vh k s l:=⟨h.r,λi hi=>⟨h.i.doors i hi,h.d i hi⟩,h.key 3 (by decide),h.ke 3 (by decide),⟨by have:=h.kR.1;omega,h.kR.2⟩,h.lo⟩
theorem EX.prv {k:LK} {s:Sd.aa} {l:Int} (h:EX k s l):Ny k s l:=⟨h.r,h.lo,h.key _ (by have:=h.lo;omega),h.ke _ (by have:=h.lo;omega),by have:=h.i.p.bV;omega,h.i.tok.aG,h.i.ln⟩
theorem adF (C:Sd.aK) (s:Sd.aa) (l:Int) (n:Nat) (f:Nat->Int) (hl:1<=l/\l<=3):
 (∃e,Sd.aw.take C (pY s.c.p.bV s.c.p.fj) (dA s.c.af) l n f=(dA s.c.af,.error e)/\Sd.aw.take C s.c.p s.c.af l n f=(s.c.af,.error e))\/
 (∃m E t,Sd.aw.take C (pY s.c.p.bV s.c.p.fj) (dA s.c.af) l n f=(E,.ok m)/\Sd.aw.take C s.c.p s.c.af l n f=(t,.ok m)/\vw s E=ku s t):=by
 have vz:(dA s.c.af).ak (l.toNat-1)=s.c.af.ak (l.toNat-1):=by
  have:l=1\/l=2\/l=3:=by omega
  rcases this with rfl|rfl|rfl<;>rfl
 have hb:(pY s.c.p.bV s.c.p.fj).bV=s.c.p.bV:=rfl;unfold Sd.aw.take;rw[Ig,vz,hb];by_cases h1:s.c.af.cj l=false
 ·rw[if_pos h1,if_pos h1];exact .inl ⟨16,rfl,rfl⟩
 rw[if_neg h1,if_neg h1];by_cases h2:n<8\/C.opens (s.c.af.ak (l.toNat-1)).key l n f=false
 ·rw[if_pos h2,if_pos h2];exact .inl ⟨14,rfl,rfl⟩
 rw[if_neg h2,if_neg h2];cases C.take (n-8) f with
 |none=>exact .inl ⟨13,rfl,rfl⟩
 |some m=>
  simp only;by_cases h3:m.kind=1\/m.kind=2
  ·rw[if_pos h3,if_pos h3];exact .inl ⟨13,rfl,rfl⟩
  rw[if_neg h3,if_neg h3];by_cases h4:C.fg (s.c.af.ak (l.toNat-1)).seen m.seq=(s.c.af.ak (l.toNat-1)).seen
  ·rw[if_pos h4,if_pos h4];exact .inl ⟨15,rfl,rfl⟩
  rw[if_neg h4,if_neg h4];refine .inr ⟨m,_,_,rfl,rfl,Nj rfl (λj hj=>?_) (λj=>?_)⟩
  ·simp only[Sd.aw.eD];split
   ·rfl
   ·have:j=0\/j=1\/j=2:=by omega
    rcases this with rfl|rfl|rfl<;>rfl
  ·simp only[Sd.aw.eD];rw[if_neg (by omega)]
theorem VS {C:Sd.aK} {b:Prop} {s s':Sd.aa} {kd l:Int} (h:Sd.fI C b s s' kd l):s'.c.p=s.c.p:=by
 rcases h.B8 with q|⟨how,g,_⟩
 ·exact q.p
 ·exact g.p
theorem asw {a:Nat} {k:LK} {s:Sd.aa} {F:aX fr (aU k s)} {Kb:SK fr k} {l code:Int} (ha:gS a=none) (hq:s.c.p.queue=k.most) (hP:EX k s l) (hK:∀F',Kb (.av []) (s.item (aq ay) l code k.pn k.pf) F'):VR a (aq ay) k s F Kb l code:=by
 have leaf:∀(r:List (Sm (Gh fr))) (s':Sd.aa) (F':aX fr (aU k s')),s'=s.item (aq ay) l code k.pn k.pf->s'.c.p=s.c.p->Aa k s Kb r s' F':=by
  intro r s' F' e hp;subst e;exact⟨_,F',r,rfl,hp,hK F',rfl,rfl⟩
 have NJ:∀e,code=0->¬(0<k.pn/\k.pf 0=1)->¬(0<k.pn/\k.pf 0=2)->II (aq ay) k s F Kb l e:=by
  intro e hc h1 h2 he;refine⟨cF hq,Ih (hP.r.r1) λF1=>leaf _ _ F1 ?_ rfl⟩;unfold Sd.aa.item;rw[if_neg (by simp[hc]),if_neg h1,if_neg h2];rcases adF (aq ay) s l k.pn k.pf hP.lo with⟨e',h3,h4⟩|⟨m,E,t,h3,_,_⟩
  ·rw[h4];rw[h3]at he;have:=(Dh he).2;cases this;rfl
  ·rw[h3]at he;have:=(Dh he).2;cases this
 unfold VR;refine aM (λe=>⟨cF hq,Ih hP.r.r1 λF1=>leaf _ _ F1 ?_ rfl⟩) (λe=>⟨rfl,aM (λe1=>⟨cF hq,nD (M:=EP (aq ay)) ⟨⟨rfl,hP.nx⟩,λF1=>leaf _ _ F1 ?_ ?_⟩⟩) (λe1=>⟨rfl,aM (λe2=>⟨cF hq,nD (M:=IB (aq ay)) ⟨⟨rfl,hP.prv,hP.kR.2⟩,λF1=>leaf _ _ F1 ?_ ?_⟩⟩) (λe2=>?_)⟩)⟩)
 ·unfold Sd.aa.item;rw[if_pos (by simpa using e)]
 ·unfold Sd.aa.item;rw[if_neg (by simpa using e),if_pos (by simpa using e1)]
 ·exact VS (b:=False) (Sd.ab9 EW hP.i hP.lo)
 ·unfold Sd.aa.item;rw[if_neg (by simpa using e),if_neg (by simpa using e1),if_pos (by simpa using e2)]
 ·exact VS (b:=False) (Sd.ab_ EW hP.i hP.lo)
 ·have hc:code=0:=by simpa using e
  have n1:¬(0<k.pn/\k.pf 0=1):=by simpa using e1
  have n2:¬(0<k.pn/\k.pf 0=2):=by simpa using e2
  refine⟨⟨rfl,rfl,hP.kR.1,hP.kR.2,hP.lo,by have:=hP.i.p.bV;omega,λi hi fa=>?_⟩,NJ 16 hc n1 n2,NJ 14 hc n1 n2,NJ 13 hc n1 n2,NJ 15 hc n1 n2,λt' m ht=>⟨ha,λid=>?_⟩⟩
  ·have hs:(bD (vi s)).ak i=s.c.af.ak i:=by
    have:i=0\/i=1\/i=2:=by omega
    rcases this with rfl|rfl|rfl<;>rfl
   rw[hs]at fa⊢;have:=hP.i.af.ak i hi fa;exact⟨this.2.2.2.2.2.1,this.2.2.2.2.2.2⟩
  ·rcases adF (aq ay) s l k.pn k.pf hP.lo with⟨e',h3,h4⟩|⟨m',E,t,h3,h4,h5⟩
   ·rw[h3]at ht;have:=(Dh ht).2;cases this
   ·rw[h3]at ht;obtain⟨rfl,hm⟩:=Dh ht;cases hm;obtain⟨g1,g2,g3,g4,g5⟩:=Sd.aca EW h4;have hkd:=g2.kind;have adA:=hP.i.p.bV;have My:s.c.af.on l=true:=by rw[Sd.Tu hP.lo];exact g1
    have fa:(s.c.af.ak (l.toNat-1)).on=true:=by unfold Sd.aw.cj at g1;simp at g1;exact g1.2
    have i1:Sd.Inv (ku s t).c:=by
     have:=hP.i.eD (i:=l.toNat-1) (x:={(s.c.af.ak (l.toNat-1))with seen:=(aq ay).fg (s.c.af.ak (l.toNat-1)).seen m.seq,on:=true,cI:=.start s.c.p.bV}) rfl
      (by
       have:=hP.i.af.ak (l.toNat-1) (by have:=hP.lo;omega) fa;have h9:=EW.fg (s.c.af.ak (l.toNat-1)).seen m.seq ⟨by omega,by omega⟩ g2.seq;simp[Sd.Timer.start];omega)
     rw[<-g5]at this;exact this
    have hS:Sy (ku s t) l m:=⟨hP.r,i1,g2.seq,hP.lo.1,hP.lo.2⟩;have VT:(ku s t).c.af.on l=true:=by
     show t.on l=true;rw[g5];exact Sd.Mx My rfl
    have tS:s.item (aq ay) l code k.pn k.pf=(ku s t).jC (aq ay) l m:=by
     unfold Sd.aa.item;rw[if_neg (by simp[hc]),if_neg n1,if_neg n2,h4];rfl
    have adG:((ku s t).jC (aq ay) l m).c.p=s.c.p:=(VS (C:=aq ay) (b:=False) (Sd.acb i1 hP.lo g2 VT g3 g4)).trans rfl;have go:∀(act:Sd.aa->Int->Sd.a9->Sd.aa),act (ku s t) l m=(ku s t).jC (aq ay) l m->xO a k s F Kb l (jo act) E m id:=by
     intro act IK;refine⟨cF hq,ED (M:=λs' F'=>jo act [.int .i64 l,.agg (cQ m)] k s' F' λv s' F'=>Aa k s Kb [.m ⟨id,pk a⟩] s' F') h5 F ?_⟩;exact⟨hS,λF1=>leaf _ _ F1 (by rw[tS,IK]) (by rw[IK];exact adG)⟩
    refine⟨⟨rfl,rfl,ha,by omega,by omega⟩,?_⟩;have sy:∀j:Int,m.kind=j->(ku s t).jC (aq ay) l m=(ku s t).jC (aq ay) l m:=λ_ _=>rfl;refine aM (λe=>go _ ?_) (λx3=>aM (λe=>go _ ?_) (λx4=>aM (λe=>go _ ?_) (λx5=>aM (λe=>go _ ?_) (λx6=>aM (λe=>go _ ?_) (λx7=>aM (λe=>go _ ?_) (λx8=>aM (λe=>go _ ?_) (λx9=>?_)))))))
    ·unfold Sd.aa.jC;rw[if_pos (by simpa using e)]
    ·unfold Sd.aa.jC;rw[if_neg (by simpa using x3),if_pos (by simpa using e)]
    ·unfold Sd.aa.jC;rw[if_neg (by simpa using x3),if_neg (by simpa using x4),if_pos (by simpa using e)]
    ·unfold Sd.aa.jC;rw[if_neg (by simpa using x3),if_neg (by simpa using x4),if_neg (by simpa using x5),if_pos (by simpa using e)]
    ·unfold Sd.aa.jC;rw[if_neg (by simpa using x3),if_neg (by simpa using x4),if_neg (by simpa using x5),if_neg (by simpa using x6),if_pos (by simpa using e)]
    ·unfold Sd.aa.jC;rw[if_neg (by simpa using x3),if_neg (by simpa using x4),if_neg (by simpa using x5),if_neg (by simpa using x6),if_neg (by simpa using x7),if_pos (by simpa using e)]
    ·unfold Sd.aa.jC;rw[if_neg (by simpa using x3),if_neg (by simpa using x4),if_neg (by simpa using x5),if_neg (by simpa using x6),if_neg (by simpa using x7),if_neg (by simpa using x8),if_pos (by simpa using e)]
    ·have Nh:m.kind=10\/m.kind=11:=by simp at x3 x4 x5 x6 x7 x8 x9;omega
     have IK:(ku s t).command (aq ay) l m=(ku s t).jC (aq ay) l m:=by
      unfold Sd.aa.jC;rw[if_neg (by simpa using x3),if_neg (by simpa using x4),if_neg (by simpa using x5),if_neg (by simpa using x6),if_neg (by simpa using x7),if_neg (by simpa using x8),if_neg (by simpa using x9),if_pos Nh]
     refine⟨cF hq,ED (M:=λs' F'=>Ip (aq ay) [.int .i64 l,.agg (cQ m)] k s' F' λv s' F'=>Aa k s Kb [.m ⟨id,pk a⟩] s' F') h5 F ?_⟩;exact⟨⟨hS,Nh⟩,λF1=>leaf _ _ F1 (by rw[tS,IK]) (by rw[IK];exact adG)⟩
theorem asx (ht:Body (fr:=fr) 147 dY):Body (fr:=fr) 56 (IJ (aq ay)):=by
 intro ar k s F Kb a b c R ms w0 w h0 hq hM S;unfold IJ at hM;split at hM
 ·rename_i l code vp;obtain⟨⟨rfl,hP⟩,hK⟩:=hM;have asy:bW a b c=[1,0,a,b,c]:=rfl;have ha:gS a=none:=by
   have h1:(lits (bW a b c) (bW a b c) (bK k s F)++(F.B++R))[0]?=some (aD (bW a b c) 1 (cw k)):=rfl;have h2:(lits (bW a b c) (bW a b c) (bK k s F)++(F.B++R))[1]?=some (aD (bW a b c) 0 (iQ k)):=rfl;have h3:(lits (bW a b c) (bW a b c) (bK k s F)++(F.B++R))[2]?=some (aD (bW a b c) a (tT 3 F)):=rfl;have n0:a≠1:=S.apart 2 0 _ _ h3 h1 (by decide) rfl;have n2:a≠0:=S.apart 2 1 _ _ h3 h2 (by decide) rfl;unfold gS;split
   ·exact absurd rfl n0
   ·exact absurd rfl n2
   ·rfl
  have hg:Gl (t_ a) (bW a b c):=by
   intro g i dN;unfold t_ at dN;split at dN
   ·rename_i j hj;obtain rfl:=cG dN;have:=adv a b c [] g j hj;simpa using this
   ·cases hb:az g a with
    |false=>rw[hb]at dN;cases dN
    |true=>
     rw[hb]at dN;obtain rfl:=cG dN;obtain rfl:=cz hb;exact⟨by simp[asy],rfl⟩
  have S1:St ms w0 (lits (bW a b c) (bW a b c) (bK k s F)++aC [(.g (bj k s F):Sm (Gh fr))] R) w:=S;have hL:=ass (fr:=fr) a ht;refine(eO (G:=Sm (Gh fr)) hL.T hL.Q 90 (C:=fW prog (t_ a) (LI fr a (aq ay)) (NH a) (adD a)) (f:=56) (args:=[.ptr 2 0,.int .i64 l,.agg [.int .i64 code,.raw (eU k)]]) (K:=VQ k s Kb) hg rfl S1 (by
   rw[ast];exact asw ha hq hP hK)).mono ?_
  rintro v w' ⟨x,more,bl',ch',rfl,h1,S',s',F',r,hv,hp,VC,hb,rfl⟩;have ev:den (bW a b c++more) x=den [] x:=by have:=gf (ids:=[]) (more:=bW a b c++more) x hv;simpa using this
  refine⟨x,s',F',ev,hv,hp,VC,?_⟩;have oE:bl'=bK k s' F'++bl'.drop 5:=by rw[<-hb,jS]
  rw[oE]at S';have e2:lits (bW a b c++more) (bW a b c++more) (bK k s' F'++bl'.drop 5)=lits (bW a b c) (bW a b c) (bK k s' F')++lits (bW a b c++more) more (bl'.drop 5):=by
   rw[fC _ _ _ _ rfl,fD (ids:=bW a b c) (more:=more) (bW a b c) (bK k s' F') rfl]
  rw[e2]at S';have e3:aC (.g (bj k s' F')::r:List (Sm (Gh fr))) R=F'.B++aC r R:=rfl;rw[e3,iX R r]at S';refine S'.sub ?_;rw[bU];refine uv ?_ _;refine agQ ?_ (mA _ _);exact uv (mA _ _) _
 ·exact hM.elim
end
section
open Go Go.RowKit Go.BigFrame Sx Vx
theorem asz (fr:Sd.aF->Nat×Sd.ao) (C:Sd.aK):mW fr C [false,false,false,false]:=λk s F Kb=>by kernel_rfl
theorem asA (fr:Sd.aF->Nat×Sd.ao) (C:Sd.aK):mW fr C [false,false,false,true]:=λk s F Kb=>by kernel_rfl
theorem asB (fr:Sd.aF->Nat×Sd.ao) (C:Sd.aK):mW fr C [false,false,true,false]:=λk s F Kb=>by kernel_rfl
theorem asC (fr:Sd.aF->Nat×Sd.ao) (C:Sd.aK):mW fr C [false,false,true,true]:=λk s F Kb=>by kernel_rfl
theorem asD (fr:Sd.aF->Nat×Sd.ao) (C:Sd.aK):mW fr C [false,true,false,false]:=λk s F Kb=>by kernel_rfl
theorem asE (fr:Sd.aF->Nat×Sd.ao) (C:Sd.aK):mW fr C [false,true,false,true]:=λk s F Kb=>by kernel_rfl
theorem asF (fr:Sd.aF->Nat×Sd.ao) (C:Sd.aK):mW fr C [false,true,true,false]:=λk s F Kb=>by kernel_rfl
theorem asG (fr:Sd.aF->Nat×Sd.ao) (C:Sd.aK):mW fr C [false,true,true,true]:=λk s F Kb=>by kernel_rfl
theorem asH (fr:Sd.aF->Nat×Sd.ao) (C:Sd.aK):mW fr C [true,false,false,false]:=λk s F Kb=>by kernel_rfl
theorem asI (fr:Sd.aF->Nat×Sd.ao) (C:Sd.aK):mW fr C [true,false,false,true]:=λk s F Kb=>by kernel_rfl
theorem asJ (fr:Sd.aF->Nat×Sd.ao) (C:Sd.aK):mW fr C [true,false,true,false]:=λk s F Kb=>by kernel_rfl
theorem asK (fr:Sd.aF->Nat×Sd.ao) (C:Sd.aK):mW fr C [true,false,true,true]:=λk s F Kb=>by kernel_rfl
theorem asL (fr:Sd.aF->Nat×Sd.ao) (C:Sd.aK):mW fr C [true,true,false,false]:=λk s F Kb=>by kernel_rfl
theorem asM (fr:Sd.aF->Nat×Sd.ao) (C:Sd.aK):mW fr C [true,true,false,true]:=λk s F Kb=>by kernel_rfl
theorem asN (fr:Sd.aF->Nat×Sd.ao) (C:Sd.aK):mW fr C [true,true,true,false]:=λk s F Kb=>by kernel_rfl
theorem asO (fr:Sd.aF->Nat×Sd.ao) (C:Sd.aK):mW fr C [true,true,true,true]:=λk s F Kb=>by kernel_rfl
variable{fr:Sd.aF->Nat×Sd.ao}
theorem asP (fr:Sd.aF->Nat×Sd.ao) (C:Sd.aK) (a b c d:Bool):mW fr C [a,b,c,d]:=by
 cases a<;>cases b<;>cases c<;>cases d
 ·exact asz fr C
 ·exact asA fr C
 ·exact asB fr C
 ·exact asC fr C
 ·exact asD fr C
 ·exact asE fr C
 ·exact asF fr C
 ·exact asG fr C
 ·exact asH fr C
 ·exact asI fr C
 ·exact asJ fr C
 ·exact asK fr C
 ·exact asL fr C
 ·exact asM fr C
 ·exact asN fr C
 ·exact asO fr C
structure fK (c:Sd.Core):Prop where
 p:Sd.fk c.p
 t:TB c.t
 o1:bY c.t.oa.n
 o2:bY c.t.oa.most
 l1:bY c.t.la.n
 l2:bY c.t.la.most
 u6:c.t.offer<=4
 q:∀a∈c.q,N4 a.source/\bY a.dp.n/\bY a.dp.most
 pt:ES c.pt
theorem b0:bY 0:=⟨by decide,by decide⟩
theorem adH {n m:Int} (h1:bY n) (h2:bY m):bY (Sd.sat n m):=by
 obtain⟨a,b⟩:=h1;obtain⟨c,d⟩:=h2;unfold Sd.sat;split
 ·exact⟨by omega,by omega⟩
 ·exact⟨c,d⟩
theorem fK.tok {c:Sd.Core} (h:fK c) {t:Sd.Tok} (ht:TB t) (o1:bY t.oa.n) (o2:bY t.oa.most) (u6:t.offer<=4) (hl:t.la=c.t.la):fK {c with t:=t}:=⟨h.p,ht,o1,o2,hl▸h.l1,hl▸h.l2,u6,h.q,h.pt⟩
theorem fK.drop {c:Sd.Core} (h:fK c) (l:Int):fK {c with t:=(c.t.drop l).1}:=by
 unfold Sd.Tok.drop;split
 ·exact h
 ·exact h.tok ⟨h.t.h,h.t.e⟩ b0 b0 (by simp[Sd.Tok.iL]) rfl
theorem fK.tick {c:Sd.Core} (h:fK c):fK {c with t:=c.t.tick.1}/\c.t.tick.2<=4:=by
 unfold Sd.Tok.tick;split
 ·exact⟨h,by simp⟩
 ·split
  ·exact⟨h.tok ⟨h.t.h,h.t.e⟩ b0 b0 (by simp[Sd.Tok.iL]) rfl,h.u6⟩
  ·exact⟨h.tok ⟨h.t.h,h.t.e⟩ (adH h.o1 h.o2) h.o2 h.u6 rfl,by simp⟩
theorem fK.qs {c:Sd.Core} (h:fK c) {q:List Sd.Ask} (hq:∀a∈q,N4 a.source/\bY a.dp.n/\bY a.dp.most):fK {c with q:=q}:=⟨h.p,h.t,h.o1,h.o2,h.l1,h.l2,h.u6,hq,h.pt⟩
theorem fK.head {c:Sd.Core} (h:fK c) (x:Sd.ao):fK {c with head:=x}:=⟨h.p,h.t,h.o1,h.o2,h.l1,h.l2,h.u6,h.q,h.pt⟩
theorem fK.IL {s:Sd.aa} (h:fK s.c) (C:Sd.aK) (a b c d e:Int):fK (s.record C a b c d e).c:=h.head _
theorem fK.gone {s:Sd.aa} (h:fK s.c) (l w c:Int):fK (s.gone l w c).c:=by rw[lJ];exact h
theorem fK.leave {s:Sd.aa} (h:fK s.c) (C:Sd.aK) (l:Int):fK (s.leave C l).c:=by
 have h1:fK (qd s l).c:=h.qs λa ha=>h.q a (AE.1 ha).1;rw[U8];split
 ·exact h1
 ·exact((show fK (gO (qd s l) (s.c.t.drop l).1).c from h1.drop l).gone _ _ _).IL _ _ _ _ _ _
theorem adI {c:Sd.Core} (h:fK c):∀a∈Sd.Q.mE c.q,N4 a.source/\bY a.dp.n/\bY a.dp.most:=by
 intro a ha;obtain⟨b,hb,rfl⟩:=lP.1 ha;obtain⟨h1,h2,h3⟩:=h.q b hb;exact⟨h1,adH h2 h3,h3⟩
def EY (C:Sd.aK) (s:Sd.aa) (a:Sd.Ask):Sd.aa:=(s.gone a.source a.source 30).record C 12 a.source 0 30 0
def mq (C:Sd.aK) (s:Sd.aa) (x:Int):Sd.aa:=if Sd.linked x then(s.record C 5 x 0 0 0).leave C x else s.record C 5 x 0 0 0
def EZ (C:Sd.aK) (s:Sd.aa):Sd.aa:=if 0<=s.c.t.tick.2 then((gO s s.c.t.tick.1).gone s.c.t.tick.1.aG s.c.t.tick.2 30).record C 12 s.c.t.tick.2 0 30 0 else gO s s.c.t.tick.1
theorem adJ (C:Sd.aK) (s:Sd.aa) (a:Sd.Ask):(EY C s a).c.p=s.c.p:=by show(Sd.aa.gone _ _ _ _).c.p=_;rw[lJ]
theorem NK (C:Sd.aK) (s:Sd.aa) (x:Int):(mq C s x).c.p=s.c.p:=by
 unfold mq;split
 ·rw[Nk];rfl
 ·rfl
theorem adK (C:Sd.aK) (s:Sd.aa) (t:Sd.Tok) (h n:Int):(s.goes C t h n).c.pt=s.c.pt:=by
 show(Sd.aa.dP _ _ _).c.pt=_;rw[kL,kL]
theorem adL (C:Sd.aK) (s:Sd.aa):(s.cW C).c.p=s.c.p:=by
 rw[Iq _ _ _ rfl];split
 ·rfl
 ·split
  ·exact Nm _ _ _ _ _ _ _
  ·exact Nm _ _ _ _ _ _ _
theorem asQ {C:Sd.aK} {s:Sd.aa} (h:ES s.c.pt):ES (s.cW C).c.pt:=by
 have hf:∀(t:Sd.aa) (m:Int) (b:Sd.Label),t.c.pt=s.c.pt->ES (t.eM m b).c.pt:=by
  intro t m b e;show ES (t.c.pt.hold b);rw[e];exact⟨b0,b0,b0,b0,h.2.2.2.2⟩
 rw[Iq _ _ _ rfl];split
 ·exact h
 ·split
  ·exact hf _ _ _ (adK _ _ _ _ _)
  ·exact hf _ _ _ (adK _ _ _ _ _)
section
variable{tk:Nat->Sd.ao->Option Sd.a9} {k:LK} {s0:Sd.aa} {Kb:SK fr k}
theorem asR {C:Sd.aK} {s:Sd.aa} {F:aX fr (aU k s)} {K:SK fr k} (h:Va s) (hK:∀F',K (.av []) (s.cW C) F'):Ct C [] k (bP s) F K:=by
 have e:Ct C [] k s F K=(Va s/\∀F',K (.av []) (s.cW C) F'):=by kernel_rfl
 exact nD (M:=Ct C) (e▸⟨h,hK⟩)
theorem asS {C:Sd.aK} {s:Sd.aa} {F:aX fr (aU k s)} {K:SK fr k} {l:Int} (h:Rm s 2/\N4 l) (hK:∀F',K (.av []) (s.leave C l) F'):tU C [.int .i64 l] k (bP s) F K:=by
 have e:tU C [.int .i64 l] k s F K=((Rm s 2/\N4 l)/\∀F',K (.av []) (s.leave C l) F'):=by kernel_rfl
 exact nD (M:=tU C) (e▸⟨h,hK⟩)
theorem IM:∀(l:List Sd.Ask) (s:Sd.aa) (F:aX fr (aU k s)) (j:List VB),s.c.p=s0.c.p->s.c.p.queue=k.most->fK s.c->(∀a∈l,N4 a.source)->Rm s (2*l.length+8)->
 (∀F',Kb (.av []) (Cx ((l.foldl (EY (aq tk)) s).cW (aq tk))) F')->ET (aq tk) k s0 Kb l s F j
 |[],s,F,j,hp,hq,hT,hl,hr,hK=>⟨cF hq,asR ⟨hr,hT.p,hT.t,hT.l1,hT.l2⟩ λF2=>⟨⟨by rw[adL];exact hT.p,asQ hT.pt⟩,fm (s':=Cx (s.cW (aq tk))) rfl hK F2 (hp:=by show(Sd.aa.cW _ _).c.p=_;rw[adL];exact hp) (hb:=by kernel_rfl)⟩⟩
 |a::l,s,F,j,hp,hq,hT,hl,hr,hK=>by
  have ha:=hl a (by simp);have jG:Rm s (2*l.length+8+1+1):=hr.le (by simp only[h_];omega);refine⟨cF hq,M6 ⟨hr.le (by omega),ha,⟨by decide,by decide⟩⟩ λF2=>⟨cF (by rw[lJ];exact hq),mj jG.gone.r1 λF3=>IM l (EY (aq tk) s a) F3 _ (by rw[adJ];exact hp) (by rw[adJ];exact hq) ((hT.gone _ _ _).IL _ _ _ _ _ _) (λb hb=>hl b (by simp[hb])) jG.gone.rec hK⟩⟩
theorem adM (s:Sd.aa) (F:aX fr (aU k s)) (j:List VB) (hp:s.c.p=s0.c.p) (hq:s.c.p.queue=k.most) (hT:fK s.c) (hr:Rm s 14)
 (hK:∀F',Kb (.av []) (Cx (((Sd.Q.gone s.c.q).foldl (EY (aq tk)) (cC s (Sd.Q.kept s.c.q))).cW (aq tk))) F'):Vi (aq tk) k s0 Kb s F j:=by
 have vA:fK (cC s (Sd.Q.kept s.c.q)).c:=hT.qs λa ha=>adI hT a (AE.1 ha).1;have hg:∀a∈Sd.Q.gone s.c.q,N4 a.source:=λa ha=>(adI hT a (AE.1 ha).1).1;have jG:Rm (cC s (Sd.Q.kept s.c.q)) 14:=hr;refine⟨⟨rfl,λa ha=>(hT.q a ha).2⟩,λB h=>⟨λe x c=>?_,λa e c t=>?_,λa b e c t=>?_,λa b d e c t=>?_⟩⟩<;>rw[e]at hK hg
 ·exact IM [] _ _ _ hp hq vA hg (jG.le (by simp)) hK
 ·exact IM [a] _ _ _ hp hq vA hg (jG.le (by simp)) hK
 ·exact IM [a,b] _ _ _ hp hq vA hg (jG.le (by simp)) hK
 ·exact IM [a,b,d] _ _ _ hp hq vA hg (jG.le (by simp)) hK
theorem adN (s:Sd.aa) (F:aX fr (aU k s)) (j:List VB) (hp:s.c.p=s0.c.p) (hq:s.c.p.queue=k.most) (hT:fK s.c) (hr:Rm s 16)
 (hK:∀F',Kb (.av []) (Cx (((Sd.Q.gone (EZ (aq tk) s).c.q).foldl (EY (aq tk)) (cC (EZ (aq tk) s) (Sd.Q.kept (EZ (aq tk) s).c.q))).cW (aq tk))) F'):EU (aq tk) k s0 Kb s F j:=by
 have vA:fK (gO s s.c.t.tick.1).c:=hT.tick.1;have jG:Rm (gO s s.c.t.tick.1) 16:=hr;refine⟨⟨hT.o1,hT.o2⟩,aM (λe=>?_) (λe=>?_)⟩
 ·have e1:0<=s.c.t.tick.2:=by simpa using e
  have e2:EZ (aq tk) s=((gO s s.c.t.tick.1).gone s.c.t.tick.1.aG s.c.t.tick.2 30).record (aq tk) 12 s.c.t.tick.2 0 30 0:=if_pos e1;rw[e2]at hK;refine⟨cF hq,M6 ⟨jG.le (by decide),⟨e1,hT.tick.2⟩,⟨by decide,by decide⟩⟩ λF2=>⟨cF (by rw[lJ];exact hq),mj jG.gone.r1 λF3=>adM _ F3 _ ?_ ?_ ((vA.gone _ _ _).IL _ _ _ _ _ _) (jG.gone.rec) hK⟩⟩
  ·show(Sd.aa.gone _ _ _ _).c.p=_;rw[lJ];exact hp
  ·show(Sd.aa.gone _ _ _ _).c.p.queue=_;rw[lJ];exact hq
 ·have e1:¬0<=s.c.t.tick.2:=by simpa using e
  have e2:EZ (aq tk) s=gO s s.c.t.tick.1:=if_neg e1;rw[e2]at hK;exact adM (gO s s.c.t.tick.1) F _ hp hq vA (jG.le (by decide)) hK
theorem fK.mq {s:Sd.aa} (h:fK s.c) (C:Sd.aK) (x:Int):fK (mq C s x).c:=by
 unfold Go.Proofs.YtggfpcggakghnaaGreatDoor.mq;split
 ·exact(h.IL C _ _ _ _ _).leave C x
 ·exact h.IL C _ _ _ _ _
theorem Rm.mq {C:Sd.aK} {s:Sd.aa} {x:Int} {n:Nat} (h:Rm s (n+3)):Rm (mq C s x) n:=by
 unfold Go.Proofs.YtggfpcggakghnaaGreatDoor.mq;have h1:Rm (s.record C 5 x 0 0 0) (n+2):=Rm.rec h;split
 ·exact h1.leave
 ·exact h1.le (by omega)
theorem adO {C:Sd.aK} {x:Int} {s:Sd.aa} {X:(s2:Sd.aa)->aX fr (aU k s2)->Prop} (hq:s.c.p.queue=k.most) (hr:Rm s 4) (hx:0<=x/\x<=3) (h:∀F3:aX fr (aU k (mq C s x)),X (mq C s x) F3):
 ∀F2:aX fr (aU k (s.record C 5 x 0 0 0)),True/\lc x (cy k (s.record C 5 x 0 0 0) F2/\tU C [.int .i64 x] k (bP (s.record C 5 x 0 0 0)) F2 λv s3 F3=>X s3 F3) (X (s.record C 5 x 0 0 0) F2):=by
 intro F2;refine⟨trivial,arf (aM (λe=>⟨cF hq,asS ⟨(Rm.rec hr).le (by decide),⟨hx.1,by omega⟩⟩ λF3=>?_⟩) (λe=>?_))⟩
 ·have e1:mq C s x=(s.record C 5 x 0 0 0).leave C x:=if_pos e;rw[e1]at h;exact h F3
 ·have e1:mq C s x=s.record C 5 x 0 0 0:=if_neg (by rw[e];decide);rw[e1]at h;exact h F2
theorem adP {cont:SC fr k}:∀(l:List Int) (s:Sd.aa) (F:aX fr (aU k s)) (j:List VB),s.c.p=s0.c.p->s.c.p.queue=k.most->fK s.c->(∀x∈l,0<=x/\x<=3)->Rm s (3*l.length+16)->
 (∀s2:Sd.aa,s2=l.foldl (mq (aq tk)) s->s2.c.p=s0.c.p->s2.c.p.queue=k.most->fK s2.c->Rm s2 16->∀F2,cont s2 F2 j)->Cw (aq tk) k cont l s F j
 |[],s,F,j,hp,hq,hT,hl,hr,hc=>hc s rfl hp hq hT (hr.le (by simp)) F
 |x::l,s,F,j,hp,hq,hT,hl,hr,hc=>by
  have jG:Rm s (3*l.length+16+3):=hr.le (by simp only[h_];omega);exact⟨cF hq,mj hr.r1 (adO (X:=λs2 F2=>Cw (aq tk) k cont l s2 F2 j) hq (hr.le (by omega)) (hl x (by simp)) λF3=>adP l _ F3 j (by rw[NK];exact hp) (by rw[NK];exact hq) (hT.mq _ _) (λy hy=>hl y (by simp[hy])) jG.mq hc)⟩
end
def Hi (s:Sd.aa):Prop:=∀j,(s.c.af.ak (j+3)).on=false
theorem adQ {s:Sd.aa} (h:Hi s):vw s (dA s.c.af).tick=ku s s.c.af.tick:=by
 refine Nj rfl ?_ ?_
 ·intro j hj;have:j=0\/j=1\/j=2:=by omega
  rcases this with rfl|rfl|rfl<;>rfl
 ·intro j;simp[Sd.aw.tick,h j]
theorem adR (t:Sd.aw):mn (vx t) 0=t.ended:=by
 unfold vx Sd.aw.ended;cases t.uK<;>cases t.fA 0<;>cases t.fA 1<;>cases t.fA 2<;>rfl
theorem adS:∀(bs:List Bool) (n:Int),(∀x∈mn bs n,n<=x/\x<n+bs.length)/\(mn bs n).length<=bs.length
 |[],n=>⟨by simp[mn],by simp[mn]⟩
 |b::l,n=>by
  obtain⟨h1,h2⟩:=adS l (n+1);cases b
  ·refine⟨λx hx=>?_,?_⟩
   ·have:=h1 x hx;simp only[h_];omega
   ·show(mn l (n+1)).length<=_;simp only[h_];omega
  ·refine⟨λx hx=>?_,?_⟩
   ·rcases cn.1 hx with rfl|hx
    ·simp only[h_];omega
    ·have:=h1 x hx;simp only[h_];omega
   ·show(n::mn l (n+1)).length<=_;simp only[h_];omega
theorem adT (t:Sd.aw):(∀x∈t.ended,0<=x/\x<=3)/\t.ended.length<=4:=by
 rw[<-adR];obtain⟨h1,h2⟩:=adS (vx t) 0;have e:(vx t).length=4:=rfl;rw[e]at h1 h2;exact⟨λx hx=>by have:=h1 x hx;omega,h2⟩
def NL (C:Sd.aK) (s:Sd.aa):Sd.aa:=EZ C (s.c.af.ended.foldl (mq C) (ku s s.c.af.tick))
theorem CD (C:Sd.aK) (s:Sd.aa):s.tick C=Cx (((Sd.Q.gone (NL C s).c.q).foldl (EY C) (cC (NL C s) (Sd.Q.kept (NL C s).c.q))).cW C):=by kernel_rfl
structure TkP (s:Sd.aa):Prop where
 c:fK s.c
 r:Rm s 28
 h:Hi s
 b:Nq s.c.af
def IN (C:Sd.aK):SM fr:=λar k s F K=>match ar with
 |[]=>TkP s/\∀F',K (.av []) (s.tick C) F'
 |_=>False
theorem asT {f:Nat} {M:SM fr} (h:∀s0:Sd.aa,Body f (λar k s F K=>s=s0/\M ar k s F K)):Body f M:=λar k s F Kb a b c R ms w0 w h0 hq hM S=>h s ar k s F Kb a b c R ms w0 w h0 hq ⟨rfl,hM⟩ S
theorem asU (tk:Nat->Sd.ao->Option Sd.a9) (ht:Body (fr:=fr) 147 dY) (h1:∀bs,Sound prog gS 89 (Iv (fr:=fr) bs)) (h2:Sound prog gS 93 (Iw (fr:=fr))):Body (fr:=fr) 54 (IN (aq tk)):=by
 refine asT λs0=>mT (n:=90) (arh tk ht (vx (dA s0.c.af)) (h1 _) h2) ?_;intro ar k s F Kb h0 hq hM;obtain⟨rfl,hM⟩:=hM;unfold IN at hM;split at hM
 ·have hP:=hM.1;have hK:=hM.2;rw[CD]at hK;have hv:=asP fr (aq tk) (dA s.c.af).uK ((dA s.c.af).fA 0) ((dA s.c.af).fA 1) ((dA s.c.af).fA 2) k s F Kb;refine hv▸⟨⟨hP.b,rfl⟩,?_⟩;have el:mn [(dA s.c.af).uK,(dA s.c.af).fA 0,(dA s.c.af).fA 1,(dA s.c.af).fA 2] 0=s.c.af.ended:=adR s.c.af;rw[el];have jG:Rm (ku s s.c.af.tick) 28:=hP.r;have vA:fK (ku s s.c.af.tick).c:=⟨hP.c.p,hP.c.t,hP.c.o1,hP.c.o2,hP.c.l1,hP.c.l2,hP.c.u6,hP.c.q,hP.c.pt⟩;obtain⟨hb,hn⟩:=adT s.c.af;unfold NL at hK;revert hK hb hn;generalize s.c.af.ended=l;intro hK hb hn;cases l with
  |nil=>
   intro x c;exact ED (M:=λs' F=>EU (aq tk) k s Kb s' F []) (adQ hP.h) F (adN _ _ _ rfl hq vA (jG.le (by decide)) hK)
  |cons a l=>
   intro c t;simp only[h_]at hn;refine⟨cF hq,ED (M:=λs' F=>ig (aq tk) [.int .i64 5,.int .i64 a,.int .i64 0,.int .i64 0,.int .i64 0] k s' F _) (adQ hP.h) F ⟨jG.r1,adO (s:=ku s s.c.af.tick) (X:=λs2 F2=>Cw (aq tk) k (EU (aq tk) k s Kb) l s2 F2 [Iu (a::l) t]) hq (jG.le (by decide)) (hb a (by simp)) λF3=>?_⟩⟩;refine adP l _ F3 _ (NK _ _ _) (by rw[NK];exact hq) (vA.mq _ _) (λx hx=>hb x (by simp[hx])) ((Rm.mq (n:=25) jG).le (by omega)) ?_;intro s2 e2 wC HD hT2 yJ F2;subst e2;exact adN _ F2 _ wC HD hT2 yJ hK
 ·exact hM.elim
def da:ae:=.slice none 0 0
def c9 (k:LK) (s:Sd.aa):List VB:=[cw k,iQ k,g_ k 3 s,gM s]
def VU (k:LK) (s:Sd.aa) (F:aX fr (aU k s)):Prop:=da=F.vs/\da=F.vr/\some (cw k)=some (cw k)/\some (iQ k)=some (iQ k)/\mg k 3 s=mg k 3 (bP s)/\s.c.p.bV=s.c.p.bV/\s.c.p.fj=s.c.p.fj/\s.c.p.queue=k.most
def IP (s:Sd.aa) (vs vr:ae):List V:=[.int .i64 s.c.mode,.int .i64 s.c.pt.cls,.int .i64 s.c.pt.now.a,.int .i64 s.c.pt.now.b,.int .i64 s.c.pt.now.c,.int .i64 s.c.pt.now.d,.int .i64 s.c.d_.lZ,.int .i64 s.c.d_.source,.int .i64 s.c.d_.seq,
 .int .i64 s.c.pt.bx.lZ,.int .i64 s.c.pt.bx.source,.int .i64 s.c.pt.bx.seq,.raw vs,.raw vr,.bS .u8 32 s.c.head]
def E0 (k:LK) (s:Sd.aa) (Kb:(s':Sd.aa)->aX fr (aU k s')->Prop):VK (Gh fr):=λv bl ch=>∃(s':Sd.aa) (F':aX fr (aU k s')),v=.agg (IP s' F'.vs F'.vr)/\bl.take 4=c9 k s'/\ch=[bj k s' F']/\Kb s' F'
def LCt (fr:Sd.aF->Nat×Sd.ao) (C:Sd.aK):List (bR (Gh fr)):=[⟨54,false,ie (IN C)⟩]
theorem asV (ht:Body (fr:=fr) 147 dY):aI prog gS (LCt fr (aq ay)):=aI.cons (i_ (asU ay ht (λbs=>arq bs gS) (arA gS))) aI.nil
def LCi (fr:Sd.aF->Nat×Sd.ao) (C:Sd.aK):List (bR (Gh fr)):=[⟨56,false,ie (IJ C)⟩]
theorem asW (ht:Body (fr:=fr) 147 dY):aI prog gS (LCi fr (aq ay)):=aI.cons (i_ (asx ht)) aI.nil
section
variable(C:Sd.aK) (k:LK) (s:Sd.aa) (F:aX fr (aU k s)) (Kb:(s':Sd.aa)->aX fr (aU k s')->Prop)
def lfC (s':Sd.aa) (F':aX fr (aU k s')):Prop:=E0 k s Kb (.agg (IP s' F'.vs F'.vr)) (c9 k s') [bj k s' F']
theorem asY:br (bZ prog gS (LCt fr C)) 60 23 [.ptr 2 0] (c9 k s) [bj k s F] (E0 k s Kb)=(VU k s F/\IN C [] k (bP s) F λv s' F'=>lfC k s Kb s' F'):=by kernel_rfl
def adU (l code:Int):Prop:=
 let no:Prop:=E0 k s Kb (.agg (IP s da da)) (c9 k s) [bj k s F]
 cond (decide (l>=1)) (cond (decide (l<=3)) (VU k s F/\IJ C [.int .i64 l,.agg [.int .i64 code,.raw (eU k)]] k (bP s) F λv s' F'=>lfC k s Kb s' F') no) no
theorem asZ (l code:Int):br (bZ prog gS (LCi fr C)) 60 24 [.ptr 2 0,.int .i64 l,.agg [.int .i64 code,.raw (eU k)]] (c9 k s) [bj k s F] (E0 k s Kb)=adU C k s F Kb l code:=by kernel_rfl
end
def ua (s:Sd.aa) (qv:V):List V:=[.int .i64 s.c.t.aG,.int .i64 s.c.t.ah,.int .i64 s.c.t.offer,.int .i64 s.c.mode]++(oz s.c.d_++(zJ s.c.pt++(qv::([.bool ((dA s.c.af).on 0),.bool ((dA s.c.af).on 1),.bool ((dA s.c.af).on 2),.bool ((dA s.c.af).on 3),.bool ((dA s.c.af).on 4)]++
 [.int .i64 ((dA s.c.af).role 0),.int .i64 ((dA s.c.af).role 1),.int .i64 ((dA s.c.af).role 2),.int .i64 ((dA s.c.af).role 3),.int .i64 ((dA s.c.af).role 4),.bool s.c.t.bad]))))
def ub:List Sd.Ask->List V
 |[]=>[]
 |a::l=>.int .i64 a.source::ub l
def CE (l:List Sd.Ask) (u:List ae):VB:=⟨true,⟨3,(0,0)⟩,ub l++[.rest u]⟩
def NM:Nat->Nat->Prop->Prop
 |0,_,q=>q
 |n+1,j,q=>True/\(0<=(j:Int)/\(j:Int)<(5:Nat))/\True/\True/\NM n (j+1) q
section
variable(C:Sd.aK) (k:LK) (s:Sd.aa) (F:aX fr (aU k s)) (K:VK (Gh fr))
def as0:Prop:=NM 5 0 (K (.agg (ua s (.raw da))) (c9 k s) [bj k s F])
def VV (l:List Sd.Ask) (c:Nat) (u:List ae):Prop:=NM 5 0 (K (.agg (ua s (.sl 4 0 l.length c))) (c9 k s++[CE l u]) [bj k s F])
def VW (n:Nat) (l:List Sd.Ask) (P:Prop) (k:Nat->List ae->Prop):Prop:=P/\(∀(c:Nat) (u:List ae),n+1<=c->ck (ub l++[.rest u])=c*1->k c u)/\(∀(c:Nat) (u:List ae),n+1<=c->ck (ub l++[.rest u])=c*1->k c u)
def VY (a:Sd.Ask) (k:Nat->List ae->Prop):Prop:=∀(c:Nat) (u:List ae),0+1<=c->ck (ub [a]++[.rest u])=c*1->k c u
def as1:Prop:=vq k=vq k/\(s.c.q=[]->∀(x:Option aQ) (c:Nat),as0 k s F K)/\
 (∀a,s.c.q=[a]->∀(c:Nat) (t:List ae),VY a λc u=>VV k s F K [a] c u)/\
 (∀a b,s.c.q=[a,b]->∀(c:Nat) (t:List ae),VY a λc u=>VW 1 [a,b] (1<=c/\ck (ub [a]++[.rest u])=c*1) λc u=>VV k s F K [a,b] c u)/\
 (∀a b d,s.c.q=[a,b,d]->∀(c:Nat) (t:List ae),VY a λc u=>VW 1 [a,b] (1<=c/\ck (ub [a]++[.rest u])=c*1) λc u=>VW 2 [a,b,d] (2<=c/\ck (ub [a,b]++[.rest u])=c*1) λc u=>VV k s F K [a,b,d] c u)
theorem as2:br (fW prog gS (L8 fr C) (GY prog) Lw) 60 14 [.ptr 2 0] (c9 k s) [bj k s F] (bA 4 K)=as1 k s F K:=by kernel_rfl
end
end
end Go.Proofs.YtggfpcggakghnaaGreatDoor
namespace Sd
variable{C:aK} {b:Prop} {s:aa} {l:Int} {m:a9}
theorem NN {X:aa} {k a n e w:Int} (h:Quiet C b s X) (hk:k≠8) (hb:BZ b ⟨k,a,n,X.c.t.ah,e,w⟩):Quiet C b s (X.record C k a n e w):=
 h.trans (aa.ox hk hb)
theorem Inv.as3 {c:Core} (h:Inv c) {n y:Int} (hn:0<=n/\n<=4294967295):Inv {c with samples:=n,af:=c.af.l5 c.p,beyond:=y}:=by
 have hb:=h.p.bV;have h1:=Inv.Mw (T:=c.af) (T':=c.af.l5 c.p) h ⟨λ_=>by simp[aw.l5,Timer.start];omega,h.af.ak⟩
  (λa ha=>by
   have:=(h.q.each a ha).2.2.2.1;unfold aw.on at*;split
   ·rfl
   ·rename_i h4;rw[if_neg h4]at this;split
    ·rfl
    ·rename_i h0;rw[if_neg h0]at this;exact this)
  (λho=>by
   have:c.af.on c.t.offer=true:=by
    rcases h.tok.offer with h1|⟨_,_,_,h1,_⟩
    ·omega
    ·exact h1
   unfold aw.on at*;split
   ·rfl
   ·rename_i h4;rw[if_neg h4]at this;split
    ·rfl
    ·rename_i h0;rw[if_neg h0]at this;exact this)
 exact⟨h1.p,h1.tok,h1.q,h1.af,hn,h1.mode,h1.doors⟩
theorem fI.as4 {t:aa} {c:Core} {kind link:Int} (k:fI C b ({s with c:=c}:aa) t kind link) (h1:c.t=s.c.t) (h2:c.q=s.c.q) (h3:c.p=s.c.p) (h4:c.head=s.c.head):fI C b s t kind link:=by
 have q0:Quiet C b s ({s with c:=c}:aa):=aa.iP (by rw[h1]) (by rw[h1]) h3 h4;refine⟨k.inv,?_⟩;rcases k.B8 with q|⟨how,g,w⟩
 ·exact .inl (q0.trans q)
 ·refine .inr ⟨how,q0.goes g,?_⟩;unfold ve at*;simpa only[h1,h2,h3]using w
theorem as5 {x:n9} (h:Inv s.c):fI C b s (s.l5 C x) 1 0:=by
 have e0:=h.ln;unfold aa.l5;split
 ·exact .kq ⟨h.p,h.tok,h.q,h.af,h.samples,h.mode,h.doors⟩ (aa.iP rfl rfl rfl rfl)
 dsimp only;have hn:=ahs h.samples.1 (m:=4294967295) (by omega) h.samples.2;have i1:=h.as3 (y:=(fg s.c.p s.c.beyond x).1) hn;have q1:Quiet C b s ({s with c:={s.c with samples:=sat s.c.samples 4294967295,af:=s.c.af.l5 s.c.p,beyond:=(fg s.c.p s.c.beyond x).1}}:aa):=aa.iP rfl rfl rfl rfl;split
 ·rename_i hg;split
  ·have h2:=ab4 s.c.t s.c.q 0;refine .kq (i1.head _) (NN q1 (by simp) ?_);exact⟨by simp,by simp,hn,e0,λ_=>⟨h2.1,vW h2.2 (by decide)⟩,by simp⟩
  ·rename_i hz;obtain⟨g0,a,r,g1,g2,g3,g4,g5,g6⟩:=ab5 (by simpa using hz);rw[g2];refine fI.as4 (c:={s.c with samples:=sat s.c.samples 4294967295,af:=s.c.af.l5 s.c.p,beyond:=(fg s.c.p s.c.beyond x).1}) (HM (s:=⟨_,s.bg,s.bH⟩) i1 ⟨g3,g4⟩ ⟨_,rfl⟩ g5 g6 (by simp) hn ?_) rfl rfl rfl rfl;refine .inr (.inl ⟨rfl,by simp,⟨a,r,g1,by simp[Tok.pass]⟩,?_⟩);simp;exact g0.symm
 split
 ·rename_i h0;split
  ·have h2:=Tr s.c.p s.c.t 0 0 s.c.mode {c_ 11 with ah:=s.c.t.ah,cls:=1};refine .kq (i1.head _) (NN q1 (by simp) ?_);exact⟨by simp,by simp,hn,e0,λ_=>⟨h2.1,vW h2.2 (by decide)⟩,by simp⟩
  ·refine .kq (Inv.head (c:={s.c with samples:=sat s.c.samples 4294967295,af:=s.c.af.l5 s.c.p,beyond:=(fg s.c.p s.c.beyond x).1,pt:=s.c.pt.set s.c.p 1 x.x ⟨1,0,sat s.c.samples 4294967295⟩}) ⟨i1.p,i1.tok,i1.q,i1.af,i1.samples,i1.mode,i1.doors⟩ _) (NN (q1.trans (aa.iP rfl rfl rfl rfl)) (by simp) ?_);exact⟨by simp,by simp,hn,e0,by simp,by simp⟩
 split
 ·rename_i h0;split
  ·have h2:=Mt s.c.t 0;refine .kq (i1.head _) (NN q1 (by simp) ?_);exact⟨by simp,by simp,hn,e0,λ_=>⟨h2.1,vW h2.2 (by decide)⟩,by simp⟩
  ·rename_i hz;obtain⟨g1,g2,g3,g4,g5⟩:=Ms (by simpa using hz);rw[g1];refine⟨Inv.goes (s:=⟨_,s.bg,s.bH⟩) i1 (mG.pass h.p ⟨g2,g3⟩ (by have:=h.tok.ah;omega)),.inr ⟨4,?_,.inr (.inr (.inr (.inl ⟨rfl,rfl,by simp[Tok.pass]⟩)))⟩⟩;exact q1.goes (aa.HK (by simp[Tok.pass]) (by simpa[Tok.pass]using g4) rfl (.inl ⟨g5,rfl⟩) e0.1 (by simp) hn)
 ·exact .kq i1 q1
theorem Inv.IQ {c:Core} (h:Inv c) {mo:Int} (hm:0<=mo/\mo<=4) (y:Label) (pt:e_):Inv {c with mode:=mo,d_:=y,pt:=pt}:=
 ⟨h.p,h.tok,h.q,h.af,h.samples,hm,h.doors⟩
theorem CF {mo:Int} {y:Label}:Quiet C b s (s.eM mo y):=aa.iP rfl rfl rfl rfl
def nH (s:aa) (a:Ask):aa:=({s with c:={s.c with q:=Q.drop s.c.q a.source}}:aa).gone a.source 4 29
theorem as6 {a:Ask}:Quiet C b s (nH s a):=
 Quiet.trans (t:=({s with c:={s.c with q:=Q.drop s.c.q a.source}}:aa)) (aa.iP rfl rfl rfl rfl) (aa.zG (aa.HJ (by omega) (by omega)))
theorem NO {a:Ask}:(nH s a).c={s.c with q:=Q.drop s.c.q a.source}:=by unfold nH;rw[aa.lJ]
theorem Inv.nH {a:Ask} (h:Inv s.c):Inv (Sd.nH s a).c:=by
 rw[NO];exact⟨h.p,h.tok,h.q.drop a.source (λx hx _=>(h.q.each x hx).2.2.2.2.1),h.af,h.samples,h.mode,h.doors⟩
theorem adV (q:List Ask):∀s:aa,Inv s.c->Inv (q.foldl nH s).c/\Quiet C b s (q.foldl nH s)/\(q.foldl nH s).c.t=s.c.t/\(q.foldl nH s).c.af=s.c.af/\
 (∀x∈(q.foldl nH s).c.q,x∈s.c.q/\∀a∈q,x.source≠a.source)/\∃q',(q.foldl nH s).c={s.c with q:=q'}:=by
 induction q with
 |nil=>intro s h;exact⟨h,Quiet.refl ..,rfl,rfl,λx hx=>⟨hx,by simp⟩,s.c.q,rfl⟩
 |cons a q ih=>
  intro s h;obtain⟨h1,h2,h3,h4,h5,q',h6⟩:=ih (nH s a) h.nH;rw[NO]at h3 h4 h5 h6;refine⟨h1,as6.trans h2,h3,h4,λx hx=>?_,q',h6⟩;obtain⟨h7,h8⟩:=h5 x hx;simp only[Q.drop,AE,decide_eq_true_eq]at h7;exact⟨h7.1,λy hy=>by
   rcases cn.1 hy with rfl|hy
   ·exact h7.2
   ·exact h8 y hy⟩
theorem adW (bad:Bool) (hb:bad=true):s.yL C bad=
 ((((if s.c.t.aG≠4 then(s.eu {s.c.t with bad:=bad}).goes C ({s.c.t with bad:=bad}:Tok).kg 6 0 else(s.eu {s.c.t with bad:=bad}).eu ({s.c.t with bad:=bad}:Tok).kg):aa).c.q.foldl nH
   (if s.c.t.aG≠4 then(s.eu {s.c.t with bad:=bad}).goes C ({s.c.t with bad:=bad}:Tok).kg 6 0 else(s.eu {s.c.t with bad:=bad}).eu ({s.c.t with bad:=bad}:Tok).kg)).eM
    s.c.p.safe uL):=by
 unfold aa.yL;rw[if_neg (by simp[hb])];dsimp only;congr 1;have:∀(q:List Ask) (s:aa),(q.foldl nH s).c.p=s.c.p:=by
  intro q;induction q with
  |nil=>intro s;rfl
  |cons a q ih=>intro s;rw[sZ,ih,NO]
 refine Eq.trans (congrArg aO.safe (this _ _)) ?_;split<;>simp[aa.eu]
theorem as7 {bad:Bool} (h:Inv s.c):fI C b s (s.yL C bad) 2 0:=by
 have e0:=h.ln;have he:=h.tok.ah;have hh:=h.tok.aG;have i0:Inv {s.c with t:={s.c.t with bad:=bad}}:=⟨h.p,⟨h.tok.aG,h.tok.ah,h.tok.offer,h.tok.lost⟩,h.q,h.af,h.samples,h.mode,h.doors⟩;have q0:Quiet C b s (s.eu {s.c.t with bad:=bad}):=aa.iP rfl rfl rfl rfl;cases bad
 ·exact .kq i0 q0
 rw[adW true rfl];split
 ·rename_i h4;have hs:sat s.c.t.ah 65535=if s.c.t.ah<65535 then s.c.t.ah+1 else 65535:=rfl
  have et:({s.c.t with bad:=true}:Tok).kg=Tok.pass {s.c.t with bad:=true} 4 (sat s.c.t.ah 65535):=by simp[Tok.kg,h4]
  rw[et];have i1:Inv ((s.eu {s.c.t with bad:=true}).goes C (Tok.pass {s.c.t with bad:=true} 4 (sat s.c.t.ah 65535)) 6 0).c:=
   Inv.goes (s:=s.eu _) i0 (mG.pass h.p (by omega) (by show s.c.p.ah<=_/\_;rw[hs];split<;>omega))
  obtain⟨h1,h2,h3,h5,h6,q',h7⟩:=adV (C:=C) (b:=b) ((s.eu {s.c.t with bad:=true}).goes C (Tok.pass {s.c.t with bad:=true} 4 (sat s.c.t.ah 65535)) 6 0).c.q _ i1;refine⟨h1.IQ h.p.safe _ _,.inr ⟨6,?_,?_⟩⟩
  ·refine xp.quiet (Quiet.goes q0 (aa.HK (by simp[Tok.pass]) (by simpa[Tok.pass,aa.eu]using λe=>h4 e.symm) rfl ?_ e0.1 (by simp) (by simp))) (h2.trans CF) ?_
   ·show(s.c.t.ah<65535/\sat s.c.t.ah 65535=s.c.t.ah+1)\/(s.c.t.ah=65535/\sat s.c.t.ah 65535=65535/\(6:Int)=6);rw[hs];split<;>omega
   ·show(aa.eM _ _ _).c.t.offer=-1;simp only[aa.eM];rw[h3];simp[Tok.pass]
  ·refine .inr (.inr (.inr (.inr (.inr ⟨rfl,?_,.inl ⟨rfl,?_⟩⟩))))
   ·simp only[aa.eM];rw[h3];simp[Tok.pass]
   ·simp only[aa.eM];rw[h3];simp[Tok.pass]
 ·rename_i h4;have VZ:s.c.t.aG=4:=by simpa using h4
  have et:({s.c.t with bad:=true}:Tok).kg=Tok.pass {s.c.t with bad:=true} 4 s.c.t.ah:=by simp[Tok.kg,VZ]
  rw[et];have i1:Inv ((s.eu {s.c.t with bad:=true}).eu (Tok.pass {s.c.t with bad:=true} 4 s.c.t.ah)).c:=
   ⟨h.p,mG.pass h.p (by omega) he,⟨λa ha=>by have:=h.q.each a ha;simpa[Tok.pass,aa.eu,VZ]using this,h.q.sorted,h.q.len⟩,h.af,h.samples,h.mode,h.doors⟩
  obtain⟨h1,h2,h3,h5,h6,q',h7⟩:=adV (C:=C) (b:=b) ((s.eu {s.c.t with bad:=true}).eu (Tok.pass {s.c.t with bad:=true} 4 s.c.t.ah)).c.q _ i1;refine .kq (h1.IQ h.p.safe _ _) ?_;exact Quiet.trans (Quiet.trans (t:=(s.eu {s.c.t with bad:=true}).eu (Tok.pass {s.c.t with bad:=true} 4 s.c.t.ah)) (aa.iP (by simp[Tok.pass,VZ]) rfl rfl rfl) h2) CF
def nI (C:aK) (s:aa) (x:Int):aa:=let s:=s.record C 5 x 0 0 0;if linked x then s.leave C x else s
def xP (q:List Ask) (xs:List Int):List Ask:=xs.foldl (λq x=>if linked x then Q.drop q x else q) q
def lv (t:Tok) (xs:List Int):Tok:=xs.foldl (λt x=>if linked x then(t.drop x).1 else t) t
theorem adX (C:aK) (s:aa) (x:Int):∃hd,(nI C s x).c={s.c with q:=xP s.c.q [x],t:=lv s.c.t [x],head:=hd}:=by
 unfold nI xP lv;simp only[sZ,Yx];split
 ·obtain⟨hd,e⟩:=Ts C (s.record C 5 x 0 0 0) x;exact⟨hd,by rw[e];rfl⟩
 ·exact⟨_,rfl⟩
theorem as8 {x:Int} (hx:0<=x/\x<=3) (he:0<=s.c.t.ah/\s.c.t.ah<=65535):Quiet C b s (nI C s x):=by
 unfold nI;have q1:Quiet C b s (s.record C 5 x 0 0 0):=aa.ox (by simp) ⟨by simp,by simp;omega,by simp,he,by simp,by simp⟩;dsimp only;split
 ·rename_i h;simp[linked]at h;exact q1.trans (ab6 (by omega) he)
 ·exact q1
theorem Inv.nI {T:aw} {x:Int} (hx:0<=x/\x<=3) (h:Inv {s.c with af:=T}):Inv {(Sd.nI C s x).c with af:=T}:=by
 unfold Sd.nI;dsimp only;split
 ·rcases Inv.leave (C:=C) (s:=s.record C 5 x 0 0 0) (T:=T) (x:=x) (h.head _)with⟨h1,_⟩|h1
  ·exact h1
  ·omega
 ·exact h.head _
theorem adY (xs:List Int):∀t:Tok,(lv t xs).aG=t.aG/\(lv t xs).ah=t.ah/\(lv t xs).la=t.la/\(lv t xs).bad=t.bad/\
 (((lv t xs)=t/\∀x∈xs,linked x=true->t.offer≠x)\/(lv t xs=t.iL/\t.offer∈xs)\/t.offer=-1/\lv t xs=t):=by
 induction xs with
 |nil=>intro t;exact⟨rfl,rfl,rfl,rfl,.inl ⟨rfl,by simp⟩⟩
 |cons x xs ih=>
  intro t;unfold lv;simp only[sZ];by_cases hl:linked x=true
  ·simp only[hl,if_true];have hd:=Mv t x;obtain⟨h1,h2,h3,h4,h5⟩:=ih (t.drop x).1;unfold lv at h1 h2 h3 h4 h5;refine⟨h1.trans hd.1,h2.trans hd.2.1,h3.trans hd.2.2.1,h4.trans hd.2.2.2.1,?_⟩;have hx:1<=x:=by simp[linked]at hl;exact hl.1
   rcases hd.2.2.2.2 with⟨e,_,e2⟩|⟨e,_,e2⟩
   ·rw[e]at h5⊢;rcases h5 with⟨h5,h6⟩|⟨h5,h6⟩|⟨h5,h6⟩
    ·refine .inl ⟨h5,λy hy NP=>?_⟩;rcases cn.1 hy with rfl|hy
     ·omega
     ·exact h6 y hy NP
    ·exact .inr (.inl ⟨h5,by simp[h6]⟩)
    ·exact .inr (.inr ⟨h5,h6⟩)
   ·rw[e]at h5⊢;refine .inr (.inl ⟨?_,by simp[e2]⟩);rcases h5 with⟨h5,h6⟩|⟨h5,h6⟩|⟨h5,h6⟩
    ·exact h5
    ·rw[h5];rfl
    ·exact h6
  ·simp only[hl];obtain⟨h1,h2,h3,h4,h5⟩:=ih t;unfold lv at h1 h2 h3 h4 h5;refine⟨h1,h2,h3,h4,?_⟩;rcases h5 with⟨h5,h6⟩|⟨h5,h6⟩|⟨h5,h6⟩
   ·refine .inl ⟨h5,λy hy NP=>?_⟩;rcases cn.1 hy with rfl|hy
    ·exact absurd NP hl
    ·exact h6 y hy NP
   ·exact .inr (.inl ⟨h5,by simp[h6]⟩)
   ·exact .inr (.inr ⟨h5,h6⟩)
theorem as9 (xs:List Int):∀(q:List Ask) (a:Ask),a∈xP q xs↔a∈q/\∀x∈xs,linked x=true->a.source≠x:=by
 induction xs with
 |nil=>intro q a;simp[xP]
 |cons x xs ih=>
  intro q a;have:=ih (if linked x then Q.drop q x else q) a;unfold xP at*;simp only[sZ];rw[this];by_cases hl:linked x=true
  ·simp[hl,Q.drop,and_assoc]
  ·simp[hl]
theorem as_ (xs:List Int):∀(s:aa) (T:aw),(∀x∈xs,0<=x/\x<=3)->Inv {s.c with af:=T}->
 Inv {(xs.foldl (nI C) s).c with af:=T}/\Quiet C b s (xs.foldl (nI C) s)/\∃hd,(xs.foldl (nI C) s).c={s.c with q:=xP s.c.q xs,t:=lv s.c.t xs,head:=hd}:=by
 induction xs with
 |nil=>intro s T _ h;exact⟨h,Quiet.refl ..,s.c.head,rfl⟩
 |cons x xs ih=>
  intro s T hx h;have Dy:=hx x (by simp);have e0:0<=s.c.t.ah/\s.c.t.ah<=65535:=Inv.ln (c:={s.c with af:=T}) h;obtain⟨h1,h2,hd,h3⟩:=ih (nI C s x) T (λy hy=>hx y (by simp[hy])) (h.nI Dy);obtain⟨E1,h4⟩:=adX C s x;refine⟨h1,(as8 Dy e0).trans h2,hd,?_⟩;simp only[sZ];rw[h3,h4];rfl
theorem E2 {t:Timer} {m:Int} (h:t.most=m/\0<=t.n/\t.n<m):t.step=⟨t.n+1,m⟩/\(t.step.due=true↔t.n+1=m):=by
 obtain⟨h1,h2,h3⟩:=h;have:t.step=⟨t.n+1,m⟩:=by unfold Timer.step sat;rw[if_pos (by omega),h1]
 rw[this];refine⟨rfl,?_⟩;simp[Timer.due];omega
theorem ata {p:aO} {t:aw} (hp:fk p) (h:DA p t):DA p t.tick:=by
 have hb:=hp.bV;constructor
 ·intro ho;unfold aw.tick at*;dsimp only at*;split at ho
  ·rename_i h1;rw[if_pos h1];obtain⟨h2,h3⟩:=E2 (h.cN h1);split at ho
   ·cases ho
   ·rename_i h4;rw[if_neg h4,h2];have:=h.cN h1;simp at h4;have:t.cN.2.n+1≠p.bV:=λe=>by rw[h3.2 e]at h4;cases h4
    dsimp only;omega
  ·rename_i h1;exact absurd ho h1
 ·intro i hi ho;unfold aw.tick at*;dsimp only at*;split at ho
  ·rename_i h1;rw[if_pos h1];have h0:=h.ak i hi h1;obtain⟨h2,h3⟩:=E2 (m:=p.bV) ⟨h0.1,h0.2.1,h0.2.2.1⟩;split at ho
   ·cases ho
   ·rename_i h4;rw[if_neg h4];dsimp only;rw[h2];simp at h4;have:(t.ak i).cI.n+1≠p.bV:=λe=>by rw[h3.2 e]at h4;cases h4
    dsimp only;omega
  ·rename_i h1;exact absurd ho h1
theorem atb {t:aw} {x:Int} (h:x∈t.ended):0<=x/\x<=3:=by
 unfold aw.ended at h;simp only[fc]at h;rcases h with((h|h)|h)|h<;>split at h<;>simp at h<;>omega
theorem adZ {t:aw} {x:Int} (hx:1<=x/\x<=3) (h:t.on x=true) (hn:x∉t.ended):t.tick.on x=true:=by
 have e:x=1\/x=2\/x=3:=by omega
 rw[Tu hx]at*;unfold aw.cj aw.tick at*;rcases e with rfl|rfl|rfl<;>simp[aw.ended,aw.fA]at*<;>simp[h]<;>simp[h]at hn<;>simp[hn,h]
theorem atc {q:List Ask} {a:Ask} (h:a∈Q.kept q):∃x∈q,a={x with dp:=x.dp.step}/\a.dp.due=false:=by
 unfold Q.kept Q.mE at h;simp only[AE,lP]at h;obtain⟨⟨x,hx,rfl⟩,h2⟩:=h;exact⟨x,hx,rfl,by simpa using h2⟩
theorem atd {q:List Ask} {a:Ask} (h:a∈Q.gone q):∃x∈q,a={x with dp:=x.dp.step}/\a.dp.due=true:=by
 unfold Q.gone Q.mE at h;simp only[AE,lP]at h;obtain⟨⟨x,hx,rfl⟩,h2⟩:=h;exact⟨x,hx,rfl,by simpa using h2⟩
theorem qf.kept {p:aO} {t:aw} {h:Int} {q:List Ask} (k:qf p t h q):qf p t h (Q.kept q) where
 each:=by
  intro a ha;obtain⟨x,hx,rfl,hd⟩:=atc ha;obtain⟨a1,a2,a3,a4,a5,a6,a7,a8⟩:=k.each x hx;obtain⟨e1,e2⟩:=E2 ⟨a6,a7,a8⟩;refine⟨a1,a2,a3,a4,a5,by dsimp only;rw[e1],by dsimp only;rw[e1];dsimp only;omega,?_⟩;dsimp only at*;rw[e1];have:x.dp.n+1≠p.ask:=λe=>by rw[e2.2 e]at hd;cases hd
  dsimp only;omega
 sorted:=by
  unfold Q.kept Q.mE;refine List.Pairwise.filter _ ?_;rw[List.pairwise_map];exact k.sorted
 len:=by
  have:=FJ (λa:Ask=>!a.dp.due) (Q.mE q);have h2:=k.len;unfold Q.kept;simp only[Q.mE,List.length_map]at*;omega
def Ab (C:aK) (s:aa) (a:Ask):aa:=(s.gone a.source a.source 30).record C 12 a.source 0 30 0
theorem ate (q:List Ask):∀s:aa,(∀a∈q,1<=a.source/\a.source<=3)->0<=s.c.t.ah/\s.c.t.ah<=65535->
 Quiet C b s (q.foldl (Ab C) s)/\∃hd,(q.foldl (Ab C) s).c={s.c with head:=hd}:=by
 induction q with
 |nil=>intro s _ _;exact⟨Quiet.refl ..,s.c.head,rfl⟩
 |cons a q ih=>
  intro s hq he;have ha:=hq a (by simp);have e1:(Ab C s a).c={s.c with head:=C.next s.c.head ⟨12,a.source,0,s.c.t.ah,30,0⟩}:=by
   unfold Ab;rw[show∀(y:aa) (k a n e w:Int),(y.record C k a n e w).c={y.c with head:=C.next y.c.head ⟨k,a,n,y.c.t.ah,e,w⟩}from λ_ _ _ _ _ _=>rfl,aa.lJ]
  have q1:Quiet C b s (Ab C s a):=by
   refine Quiet.trans (aa.zG (aa.HJ (by omega) (by omega))) (aa.ox (by simp) ?_);refine⟨by simp,by dsimp only;omega,by simp,?_,by simp,by simp⟩;dsimp only;rw[aa.kL];exact he
  obtain⟨h1,hd,h2⟩:=ih (Ab C s a) (λx hx=>hq x (by simp[hx])) (by rw[e1];exact he);refine⟨q1.trans h1,hd,?_⟩;simp only[sZ];rw[h2,e1]
theorem atf {p:aO} {af:aw} {t:Tok} (h:mG p af t):t.tick.1.aG=t.aG/\t.tick.1.ah=t.ah/\t.tick.1.la=t.la/\t.tick.1.bad=t.bad/\
 mG p af t.tick.1/\((t.tick.2=-1/\t.tick.1.offer=t.offer)\/(t.tick.2=t.offer/\1<=t.offer/\t.offer<=3/\t.tick.1.offer=-1)):=by
 unfold Tok.tick;rcases h.offer with ho|⟨o1,o2,o3,o4,o5,o6,o7⟩
 ·rw[if_pos (by omega)];exact⟨rfl,rfl,rfl,rfl,h,.inl ⟨rfl,rfl⟩⟩
 ·rw[if_neg (by omega)];obtain⟨e1,e2⟩:=E2 ⟨o5,o6,o7⟩;split
  ·exact⟨rfl,rfl,rfl,rfl,⟨h.aG,h.ah,.inl rfl,h.lost⟩,.inr ⟨rfl,o1,o2,rfl⟩⟩
  ·rename_i hd;refine⟨rfl,rfl,rfl,rfl,⟨h.aG,h.ah,.inr ⟨o1,o2,o3,o4,?_⟩,h.lost⟩,.inl ⟨rfl,rfl⟩⟩;have:t.oa.n+1≠p.offer:=λe=>hd (e2.2 e);dsimp only;rw[e1];dsimp only;omega
inductive Ac (p:aO) (t:Tok) (q:List Ask) (there:Bool):Tok->Int->List Ask->Prop
 |here (h:t.aG=4\/there=true):Ac p t q there {t with la:=.zero} 0 q
 |ad0 (la:Timer) (h1:t.aG≠4) (h2:there=false) (hm:la.most=p.cW) (hn:la.n=t.la.n+1) (dL:la.n<p.cW):Ac p t q there {t with la:=la} 0 q
 |safe (h1:t.aG≠4) (h2:there=false) (hn:t.la.n+1=p.cW) (he:t.ah=65535):Ac p t q there (t.pass 4 65535) 6 q
 |first (a:Ask) (l:List Ask) (h1:t.aG≠4) (h2:there=false) (hn:t.la.n+1=p.cW) (he:t.ah<65535) (hq:q=a::l):Ac p t q there (t.pass a.source (t.ah+1)) 5 (Q.drop q a.source)
 |none (h1:t.aG≠4) (h2:there=false) (hn:t.la.n+1=p.cW) (he:t.ah<65535) (hq:q=[]):Ac p t q there (t.pass 4 (t.ah+1)) 5 q
theorem atg {p:aO} {af:aw} {t:Tok} {q:List Ask} {there:Bool} (hp:fk p) (h:mG p af t) (hq:qf p af t.aG q):
 Ac p t q there (dW p t q there).1 (dW p t q there).2.1 (dW p t q there).2.2:=by
 unfold dW;have hb:=hp.cW;split
 ·rename_i h1;exact .here h1
 rename_i h1;have E3:t.aG≠4:=λe=>h1 (.inl e);have NQ:there=false:=by
  cases there
  ·rfl
  ·exact absurd (.inr rfl) h1
 have qb:∃la:Timer,(if t.la.most=0 then Timer.start p.cW else t.la).step=la/\la.most=p.cW/\la.n=t.la.n+1/\(la.due=true↔t.la.n+1=p.cW):=by
  rcases h.lost with⟨l1,l2⟩|⟨l1,l2,l3⟩
  ·rw[if_pos l1];obtain⟨e1,e2⟩:=E2 (t:=Timer.start p.cW) (m:=p.cW) (by simp[Timer.start];omega);have e0:(Timer.start p.cW).n=0:=rfl;refine⟨_,rfl,by rw[e1],by rw[e1,e0,l2],?_⟩;rw[e2,e0,l2]
  ·rw[if_neg (by omega)];obtain⟨e1,e2⟩:=E2 ⟨l1,l2,l3⟩;exact⟨_,rfl,by rw[e1],by rw[e1],e2⟩
 obtain⟨la,e0,e1,e2,e3⟩:=qb;simp only[e0];split
 ·rename_i hd;refine .ad0 la E3 NQ e1 e2 ?_;have cE:t.la.n+1≠p.cW:=λe=>by rw[e3.2 e]at hd;cases hd
  rcases h.lost with⟨l1,l2⟩|⟨l1,l2,l3⟩<;>omega
 rename_i hd;have hn:t.la.n+1=p.cW:=e3.1 (by simpa using hd);have he:=h.ah;split
 ·rename_i h6;have h6':t.ah=65535:=by omega
  have:({t with la:=la}:Tok).kg=t.pass 4 65535:=by
   simp only[Tok.kg,Tok.pass];rw[if_pos E3,h6'];rfl
  rw[this];exact .safe E3 NQ hn h6'
 rename_i h6;have dL:t.ah<65535:=by omega
 have g4:({t with la:=la}:Tok).dq 4=(t.pass 4 (t.ah+1),0):=by
  unfold Tok.dq;rw[if_neg (by omega),if_neg (λe=>E3 e.symm),if_neg (by dsimp only;omega)];rfl
 cases q with
 |nil=>
  have:(fy ({t with la:=la}:Tok) []).2.1≠0:=by simp[fy]
  rw[if_pos this,g4];exact .none E3 NQ hn dL rfl
 |cons a r=>
  have ha:=hq.each a (by simp);have ga:({t with la:=la}:Tok).dq a.source=(t.pass a.source (t.ah+1),0):=by
   unfold Tok.dq;rw[if_neg (by omega),if_neg ha.2.2.2.2.1,if_neg (by dsimp only;omega)];rfl
  have e:fy ({t with la:=la}:Tok) (a::r)=(t.pass a.source (t.ah+1),0,Q.drop (a::r) a.source):=by
   unfold fy;simp only[ga];rw[if_neg (by simp)]
  rw[e,if_neg (by simp)];exact .first a r E3 NQ hn dL rfl
theorem ath (h:Inv s.c):fI C b s (s.cW C) 3 0/\(s.cW C).c.af=s.c.af/\(s.cW C).c.p=s.c.p/\
 Ac s.c.p s.c.t s.c.q (s.c.af.on s.c.t.aG) (s.cW C).c.t (dW s.c.p s.c.t s.c.q (s.c.af.on s.c.t.aG)).2.1 (s.cW C).c.q/\
 ((dW s.c.p s.c.t s.c.q (s.c.af.on s.c.t.aG)).2.1=5->(s.cW C).c.mode=s.c.p.lost/\(s.cW C).c.d_=⟨3,4,0⟩/\(s.cW C).c.pt=s.c.pt.hold ⟨3,4,0⟩)/\
 ((dW s.c.p s.c.t s.c.q (s.c.af.on s.c.t.aG)).2.1=0->(s.cW C).c.mode=s.c.mode/\(s.cW C).c.d_=s.c.d_/\(s.cW C).c.pt=s.c.pt):=by
 have e0:=h.ln;have he:=h.tok.ah;have hh:=h.tok.aG;have hb:=h.p.cW;have hL:=atg (there:=s.c.af.on s.c.t.aG) h.p h.tok h.q;unfold aa.cW;dsimp only;generalize ht:(dW s.c.p s.c.t s.c.q (s.c.af.on s.c.t.aG)).1=t at hL⊢;generalize hw:(dW s.c.p s.c.t s.c.q (s.c.af.on s.c.t.aG)).2.1=how at hL⊢;generalize hq:(dW s.c.p s.c.t s.c.q (s.c.af.on s.c.t.aG)).2.2=q at hL⊢;have IS:=hL;cases hL with
 |here h1=>
  rw[if_pos (by omega)];refine⟨.kq ⟨h.p,⟨h.tok.aG,h.tok.ah,h.tok.offer,.inl ⟨rfl,rfl⟩⟩,h.q,h.af,h.samples,h.mode,h.doors⟩ (aa.iP rfl rfl rfl rfl),rfl,rfl,IS,by simp,λ_=>⟨rfl,rfl,rfl⟩⟩
 |ad0 la h1 h2 hm hn dL=>
  rw[if_pos (by omega)];have:0<=la.n:=by rcases h.tok.lost with⟨_,l2⟩|⟨_,l2,_⟩<;>omega
  refine⟨.kq ⟨h.p,⟨h.tok.aG,h.tok.ah,h.tok.offer,.inr ⟨hm,this,dL⟩⟩,h.q,h.af,h.samples,h.mode,h.doors⟩ (aa.iP rfl rfl rfl rfl),rfl,rfl,IS,by simp,λ_=>⟨rfl,rfl,rfl⟩⟩
 |safe h1 h2 hn h6=>
  rw[if_neg (by omega),if_neg (by omega)];have i1:Inv (aa.goes C ({s with c:={s.c with q:=s.c.q}}:aa) (s.c.t.pass 4 65535) 6 0).c:=Inv.goes (s:=s) h (mG.pass h.p (by omega) (by omega));have hd:Q.drop s.c.q 4=s.c.q:=by
   unfold Q.drop;rw[List.filter_eq_self];intro a ha;have:=(h.q.each a ha).2.2.1;simp;omega
  have CH:(aa.goes C ({s with c:={s.c with q:=s.c.q}}:aa) (s.c.t.pass 4 65535) 6 0).c.q=s.c.q:=by
   rw[aa.Tp];exact hd
  refine⟨⟨i1.IQ (by simpa using h.p.safe) _ _,.inr ⟨6,?_,?_⟩⟩,by simp[aa.eM],by simp[aa.eM],?_,by simp,by simp⟩
  ·refine xp.quiet (aa.HK (s:=s) (by simp[Tok.pass]) (by simpa[Tok.pass]using λe=>h1 e.symm) rfl (.inr ⟨h6,rfl,rfl⟩) e0.1 (by simp) (by simp)) CF ?_;simp[aa.eM,Tok.pass]
  ·refine .inr (.inr (.inr (.inr (.inr ⟨rfl,by simp[aa.eM,Tok.pass],.inr ⟨rfl,h6,?_⟩⟩))));simpa[aa.eM]using h2
  ·have e1:(aa.eM (aa.goes C ({s with c:={s.c with q:=s.c.q}}:aa) (s.c.t.pass 4 65535) 6 0) (aa.goes C ({s with c:={s.c with q:=s.c.q}}:aa) (s.c.t.pass 4 65535) 6 0).c.p.safe uL).c.t=s.c.t.pass 4 65535:=by simp[aa.eM]
   rw[e1];have e2:(aa.eM (aa.goes C ({s with c:={s.c with q:=s.c.q}}:aa) (s.c.t.pass 4 65535) 6 0) (aa.goes C ({s with c:={s.c with q:=s.c.q}}:aa) (s.c.t.pass 4 65535) 6 0).c.p.safe uL).c.q=s.c.q:=CH;rw[e2];exact IS
 |first a r h1 h2 hn dL V0=>
  rw[if_neg (by omega),if_pos rfl];have ha:=h.q.each a (by rw[V0];simp);obtain⟨g1,g2⟩:=HM (C:=C) (b:=b) (s:=s) (kind:=3) (link:=0) (how:=5) (n:=0) (f:=a.source) (q:=Q.drop s.c.q a.source) h (by omega) ⟨_,rfl⟩ ha.2.2.2.2.1 dL (by simp) (by simp)
   (.inr (.inr (.inr (.inr (.inl ⟨rfl,rfl,by simpa using h2,by simpa[Tok.pass]using ha.2.2.2.1⟩)))))
  have hdd:Q.drop (Q.drop s.c.q a.source) a.source=Q.drop s.c.q a.source:=by
   unfold Q.drop;rw[List.filter_filter];congr 1;funext x;simp
  have CH:(aa.goes C ({s with c:={s.c with q:=Q.drop s.c.q a.source}}:aa) (s.c.t.pass a.source (s.c.t.ah+1)) 5 0).c.q=Q.drop s.c.q a.source:=by
   rw[aa.Tp];exact hdd
  generalize hX:aa.goes C ({s with c:={s.c with q:=Q.drop s.c.q a.source}}:aa) (s.c.t.pass a.source (s.c.t.ah+1)) 5 0=X at g1 g2 CH;have eX:X.c.t=s.c.t.pass a.source (s.c.t.ah+1)/\X.c.p=s.c.p/\X.c.af=s.c.af:=by subst hX;simp
  have V1:X.c.pt=s.c.pt:=by
   subst hX;obtain⟨x,e⟩:=aa.HI C ({s with c:={s.c with q:=Q.drop s.c.q a.source}}:aa) (s.c.t.pass a.source (s.c.t.ah+1)) 5 0;rw[e]
  refine⟨⟨g1.IQ (by rw[eX.2.1];exact h.p.lost) _ _,?_⟩,by simp[aa.eM,eX],by simp[aa.eM,eX],by simpa[aa.eM,eX,CH]using IS,λ_=>⟨by simp[aa.eM,eX],rfl,by simp[aa.eM,V1]⟩,by simp⟩;rcases g2 with g2|⟨how,g2,g3⟩
  ·exact .inl (g2.trans CF)
  ·exact .inr ⟨how,g2.quiet CF (by simp[aa.eM,eX,Tok.pass]),by simpa[ve,aa.eM]using g3⟩
 |none h1 h2 hn dL V0=>
  rw[if_neg (by omega),if_pos rfl];have NR:s.c.q=Q.drop s.c.q 4:=by rw[V0];rfl
  obtain⟨g1,g2⟩:=HM (C:=C) (b:=b) (s:=s) (kind:=3) (link:=0) (how:=5) (n:=0) (f:=4) (q:=s.c.q) h (by omega) ⟨4,NR⟩ (λe=>h1 e.symm) dL (by simp) (by simp)
   (.inr (.inr (.inr (.inr (.inl ⟨rfl,rfl,by simpa using h2,by simp[Tok.pass,aw.on]⟩)))))
  have CH:(aa.goes C ({s with c:={s.c with q:=s.c.q}}:aa) (s.c.t.pass 4 (s.c.t.ah+1)) 5 0).c.q=s.c.q:=by
   rw[aa.Tp];exact NR.symm
  generalize hX:aa.goes C ({s with c:={s.c with q:=s.c.q}}:aa) (s.c.t.pass 4 (s.c.t.ah+1)) 5 0=X at g1 g2 CH;have eX:X.c.t=s.c.t.pass 4 (s.c.t.ah+1)/\X.c.p=s.c.p/\X.c.af=s.c.af:=by subst hX;simp
  have V1:X.c.pt=s.c.pt:=by
   subst hX;obtain⟨x,e⟩:=aa.HI C ({s with c:={s.c with q:=s.c.q}}:aa) (s.c.t.pass 4 (s.c.t.ah+1)) 5 0;rw[e]
  refine⟨⟨g1.IQ (by rw[eX.2.1];exact h.p.lost) _ _,?_⟩,by simp[aa.eM,eX],by simp[aa.eM,eX],by simpa[aa.eM,eX,CH]using IS,λ_=>⟨by simp[aa.eM,eX],rfl,by simp[aa.eM,V1]⟩,by simp⟩;rcases g2 with g2|⟨how,g2,g3⟩
  ·exact .inl (g2.trans CF)
  ·exact .inr ⟨how,g2.quiet CF (by simp[aa.eM,eX,Tok.pass]),by simpa[ve,aa.eM]using g3⟩
structure Mid (c c':Core):Prop where
 inv:Inv c'
 p:c'.p=c.p
 af:c'.af=c.af.tick
 aG:c'.t.aG=c.t.aG
 ah:c'.t.ah=c.t.ah
 la:c'.t.la=c.t.la
 bad:c'.t.bad=c.t.bad
 q:c'.q=Q.kept (xP c.q c.af.ended)
 offer:c'.t.offer=(lv c.t c.af.ended).tick.1.offer
 mode:c'.mode=c.mode/\c'.d_=c.d_/\c'.pt=c.pt
 rest:c'.samples=c.samples/\c'.beyond=c.beyond/\c'.doors=c.doors
def lM (C:aK) (s:aa):aa:=s.c.af.ended.foldl (nI C) ({s with c:={s.c with af:=s.c.af.tick}}:aa)
def nJ (C:aK) (s:aa):aa:=
 let s2:=s.eu s.c.t.tick.1
 if 0<=s.c.t.tick.2 then(s2.gone s.c.t.tick.1.aG s.c.t.tick.2 30).record C 12 s.c.t.tick.2 0 30 0 else s2
def uc (C:aK) (s:aa):aa:=(Q.gone s.c.q).foldl (Ab C) ({s with c:={s.c with q:=Q.kept s.c.q}}:aa)
theorem CD (C:aK) (s:aa):s.tick C=(let s6:=(uc C (nJ C (lM C s))).cW C;{s6 with c:={s6.c with pt:=s6.c.pt.step s6.c.p}}):=rfl
theorem ad1 (h:Inv s.c):Quiet C b s (uc C (nJ C (lM C s)))/\Mid s.c (uc C (nJ C (lM C s))).c:=by
 have e0:=h.ln;obtain⟨a1,a2,E1,a3⟩:=as_ (C:=C) (b:=b) s.c.af.ended ({s with c:={s.c with af:=s.c.af.tick}}:aa) s.c.af (λx hx=>atb hx) h;have q1:Quiet C b s (lM C s):=Quiet.trans (t:=({s with c:={s.c with af:=s.c.af.tick}}:aa)) (aa.iP rfl rfl rfl rfl) a2;have i1:Inv (lM C s).c:=by
  have e3:(lM C s).c={s.c with af:=s.c.af.tick,q:=xP s.c.q s.c.af.ended,t:=lv s.c.t s.c.af.ended,head:=E1}:=a3;refine Inv.tP (T:=s.c.af.tick) (Inv.Mw (T:=s.c.af) a1 (by rw[e3];exact ata h.p h.af) ?_ ?_) (by rw[e3])
  ·rw[e3];intro x hx;obtain⟨rU,Bw⟩:=(as9 _ _ _).1 hx;have:=h.q.each x rU;refine adZ ⟨this.2.1,this.2.2.1⟩ this.2.2.2.1 (λhm=>Bw x.source hm ?_ rfl);simp[linked];omega
  ·rw[e3];intro ho;have hf:=adY s.c.af.ended s.c.t;show s.c.af.tick.on (lv s.c.t s.c.af.ended).offer=true;have kB:0<=(lv s.c.t s.c.af.ended).offer:=ho;rcases hf.2.2.2.2 with⟨e,cE⟩|⟨e,_⟩|⟨e,e'⟩
   ·rw[e]at kB⊢;rcases h.tok.offer with h1|⟨h1,h2,_,h3,_⟩
    ·omega
    ·refine adZ ⟨h1,h2⟩ h3 (λhm=>cE _ hm ?_ rfl);simp[linked];omega
   ·rw[e]at kB;simp[Tok.iL]at kB
   ·rw[e',e]at kB;omega
 have e1:(lM C s).c={s.c with af:=s.c.af.tick,q:=xP s.c.q s.c.af.ended,t:=lv s.c.t s.c.af.ended,head:=E1}:=a3;have hf:=adY s.c.af.ended s.c.t;generalize lM C s=s1 at*;have U4:=i1.ln;have hk:=atf i1.tok;have i2:Inv {s1.c with t:=s1.c.t.tick.1}:=⟨i1.p,hk.2.2.2.2.1,by show qf _ _ s1.c.t.tick.1.aG _;rw[hk.1];exact i1.q,i1.af,i1.samples,i1.mode,i1.doors⟩;have q2:Quiet C b s1 (nJ C s1)/\∃hd,(nJ C s1).c={s1.c with t:=s1.c.t.tick.1,head:=hd}:=by
  have q20:Quiet C b s1 (s1.eu s1.c.t.tick.1):=aa.iP hk.1 hk.2.1 rfl rfl;unfold nJ;dsimp only;split
  ·rename_i hw;have hw':1<=s1.c.t.tick.2/\s1.c.t.tick.2<=3:=by rcases hk.2.2.2.2.2 with⟨e,_⟩|⟨e,_,_,_⟩<;>omega
   refine⟨q20.trans (Quiet.trans (aa.zG (aa.HJ (by omega) (by omega))) (aa.ox (by simp) ?_)),?_⟩
   ·refine⟨by simp,by dsimp only;omega,by simp,?_,by simp,by simp⟩;dsimp only;rw[aa.kL];show 0<=s1.c.t.tick.1.ah/\s1.c.t.tick.1.ah<=65535;rw[hk.2.1];exact U4
   ·refine⟨C.next s1.c.head ⟨12,s1.c.t.tick.2,0,s1.c.t.tick.1.ah,30,0⟩,?_⟩;rw[show∀(y:aa) (k a n e w:Int),(y.record C k a n e w).c={y.c with head:=C.next y.c.head ⟨k,a,n,y.c.t.ah,e,w⟩}from λ_ _ _ _ _ _=>rfl,aa.lJ];rfl
  ·exact⟨q20,s1.c.head,rfl⟩
 obtain⟨q2,zF,e2⟩:=q2;have xQ:Inv (nJ C s1).c:=by rw[e2];exact i2.head _
 generalize nJ C s1=s2 at*;have e20:=xQ.ln;obtain⟨a4,hd3,e3⟩:=ate (C:=C) (b:=b) (Q.gone s2.c.q) ({s2 with c:={s2.c with q:=Q.kept s2.c.q}}:aa)
  (λa ha=>by
   obtain⟨x,hx,rfl,_⟩:=atd ha;have:=xQ.q.each x hx;exact⟨this.2.1,this.2.2.1⟩) e20
 have q3:Quiet C b s2 (uc C s2):=Quiet.trans (t:=({s2 with c:={s2.c with q:=Q.kept s2.c.q}}:aa)) (aa.iP rfl rfl rfl rfl) a4;have ud:(uc C s2).c={s2.c with q:=Q.kept s2.c.q,head:=hd3}:=e3;have i3:Inv (uc C s2).c:=by
  rw[ud];exact⟨xQ.p,xQ.tok,xQ.q.kept,xQ.af,xQ.samples,xQ.mode,xQ.doors⟩
 refine⟨q1.trans (q2.trans q3),i3,?_,?_,?_,?_,?_,?_,?_,?_,?_,?_⟩
 ·rw[ud,e2,e1]
 ·rw[ud,e2,e1]
 ·rw[ud,e2];show s1.c.t.tick.1.aG=_;rw[hk.1,e1];exact hf.1
 ·rw[ud,e2];show s1.c.t.tick.1.ah=_;rw[hk.2.1,e1];exact hf.2.1
 ·rw[ud,e2];show s1.c.t.tick.1.la=_;rw[hk.2.2.1,e1];exact hf.2.2.1
 ·rw[ud,e2];show s1.c.t.tick.1.bad=_;rw[hk.2.2.2.1,e1];exact hf.2.2.2.1
 ·rw[ud,e2,e1]
 ·rw[ud,e2,e1]
 ·rw[ud,e2,e1];exact⟨rfl,rfl,rfl⟩
 ·rw[ud,e2,e1];exact⟨rfl,rfl,rfl⟩
structure ati (c m c':Core) (how:Int):Prop where
 p:c'.p=c.p
 af:c'.af=c.af.tick
 lost:Ac c.p m.t m.q (m.af.on m.t.aG) c'.t how c'.q
 azC:how=5->c'.mode=c.p.lost/\c'.d_=⟨3,4,0⟩/\c'.pt=(c.pt.hold ⟨3,4,0⟩).step c.p
 stays:how=0->c'.mode=c.mode/\c'.d_=c.d_/\c'.pt=c.pt.step c.p
theorem ad2 (h:Inv s.c):fI C b s (s.tick C) 3 0/\∃m how,Mid s.c m/\ati s.c m (s.tick C).c how:=by
 obtain⟨q3,hm⟩:=ad1 (C:=C) (b:=b) h;rw[CD];generalize uc C (nJ C (lM C s))=s3 at*;obtain⟨⟨i4,w4⟩,t4,p4,l4,r4,c9⟩:=ath (C:=C) (b:=b) hm.inv;generalize hs4:s3.cW C=s4 at*;dsimp only;have i5:Inv {s4.c with pt:=s4.c.pt.step s4.c.p}:=⟨i4.p,i4.tok,i4.q,i4.af,i4.samples,i4.mode,i4.doors⟩;have q5:Quiet C b s4 ({s4 with c:={s4.c with pt:=s4.c.pt.step s4.c.p}}:aa):=aa.iP rfl rfl rfl rfl;refine⟨⟨i5,?_⟩,s3.c,(dW s3.c.p s3.c.t s3.c.q (s3.c.af.on s3.c.t.aG)).2.1,hm,p4.trans hm.p,t4.trans hm.af,?_,?_,?_⟩
 ·rcases w4 with w4|⟨how,g4,w4⟩
  ·exact .inl (q3.trans (w4.trans q5))
  ·refine .inr ⟨how,(q3.goes g4).quiet q5 g4.offer,?_⟩;unfold ve at*;simp only[hm.aG,hm.ah]at w4;rcases w4 with⟨e,k,_⟩|⟨e,k,_⟩|⟨e,k,_⟩|⟨e,k,_⟩|w4|⟨e,k,w4⟩
   ·omega
   ·omega
   ·omega
   ·omega
   ·exact .inr (.inr (.inr (.inr (.inl ⟨w4.1,rfl,w4.2.2⟩))))
   ·refine .inr (.inr (.inr (.inr (.inr ⟨e,k,?_⟩))));rcases w4 with⟨e',_⟩|w4
    ·omega
    ·exact .inr ⟨rfl,w4.2⟩
 ·rw[hm.p]at l4;rw[hm.p];exact l4
 ·intro e;obtain⟨r1,r2,r3⟩:=r4 e;refine⟨by rw[<-hm.p];exact r1,r2,?_⟩;show s4.c.pt.step s4.c.p=_;rw[r3,p4,hm.p,hm.mode.2.2]
 ·intro e;obtain⟨r1,r2,r3⟩:=c9 e;refine⟨by rw[<-hm.mode.1];exact r1,by rw[<-hm.mode.2.1];exact r2,?_⟩;show s4.c.pt.step s4.c.p=_;rw[r3,p4,hm.p,hm.mode.2.2]
structure Calm (s s':aa):Prop where
 bH:∃rs:List Rec,s'.bH=s.bH++rs/\∀r∈rs,r.kind≠1/\r.kind≠7
 bg:∃ts:List (Int×aF),s'.bg=s.bg++ts/\∀x∈ts,132<x.2.kind
theorem Calm.refl (s:aa):Calm s s:=⟨⟨[],by simp,by simp⟩,⟨[],by simp,by simp⟩⟩
theorem Calm.trans {s t u:aa} (h:Calm s t) (k:Calm t u):Calm s u:=by
 obtain⟨⟨rs,r1,r2⟩,⟨ts,t1,t2⟩⟩:=h;obtain⟨⟨qs,q1,q2⟩,⟨us,u1,u2⟩⟩:=k;exact⟨⟨rs++qs,by rw[q1,r1,bU],λr hr=>(fc.1 hr).elim (r2 r) (q2 r)⟩,⟨ts++us,by rw[u1,t1,bU],λx hx=>(fc.1 hx).elim (t2 x) (u2 x)⟩⟩
structure NS (c c':Core):Prop where
 p:c'.p=c.p
 t:c'.t=c.t
 q:c'.q=c.q
 on:∀x,c'.af.on x=c.af.on x
 role:∀x,c'.af.role x=c.af.role x
 mode:c'.mode=c.mode
 d_:c'.d_=c.d_
 pt:c'.pt=c.pt
inductive Class (s s':aa) (l:Int):Prop
 |rejected (e:Int) (he:e≠0) (hr:s'.bH=s.bH++[⟨1,l,0,s.c.t.ah,e,0⟩]) (hs:s'.bg=s.bg) (hc:NS s.c s'.c)
 |refused (n e:Int) (he:e≠0) (hr:s'.bH=s.bH++[⟨7,l,n,s.c.t.ah,e,0⟩]) (hs:s'.bg=s.bg++[(l,{kind:=132,seq:=n,code:=e})]) (hc:NS s.c s'.c)
 |done (r:aF) (hr:129<=r.kind/\r.kind<=131) (rs:List Rec) (h1:s'.bH=s.bH++rs) (h2:∀r∈rs,r.kind≠1/\r.kind≠7) (xs ys:List (Int×aF)) (h3:s'.bg=s.bg++(xs++(l,r)::ys)) (h4:∀x∈xs++ys,132<x.2.kind)
theorem NS.refl (c:Core):NS c c:=⟨rfl,rfl,rfl,λ_=>rfl,λ_=>rfl,rfl,rfl,rfl⟩
theorem Class.tP {T:aw} {t:aa} (k:Class ({s with c:={s.c with af:=T}}:aa) t l) (fa:∀x,T.on x=s.c.af.on x) (hr:∀x,T.role x=s.c.af.role x):Class s t l:=by
 cases k with
 |rejected e he fZ hs hc=>exact .rejected e he fZ hs ⟨hc.p,hc.t,hc.q,λx=>(hc.on x).trans (fa x),λx=>(hc.role x).trans (hr x),hc.mode,hc.d_,hc.pt⟩
 |refused n e he fZ hs hc=>exact .refused n e he fZ hs ⟨hc.p,hc.t,hc.q,λx=>(hc.on x).trans (fa x),λx=>(hc.role x).trans (hr x),hc.mode,hc.d_,hc.pt⟩
 |done r hr rs h1 h2 xs ys h3 h4=>exact .done r hr rs h1 h2 xs ys h3 h4
end Sd
namespace Sd
variable{C:aK}
def E4 (C:aK) (c:Core):Core:=((⟨c,[],[]⟩:aa).tick C).c
end Sd
namespace Sd
variable{C:aK} {s:aa}
def Bd (n:Int):Prop:=-9223372036854775808<=n/\n<=9223372036854775807
def vB (t:Timer):Prop:=Bd t.n/\Bd t.most
structure pr (t:aw):Prop where
 hi:∀j,(t.ak (j+3)).on=false
 st:vB t.cN.2
 ss:∀j,vB (t.ak j).cI
structure il (t:Tok):Prop where
 oa:vB t.oa
 la:vB t.la
def py (x:X4):Prop:=Bd x.a/\Bd x.b/\Bd x.c/\Bd x.d
structure IT (p:e_):Prop where
 aT:py p.aT
 now:py p.now
structure Ext (c:Core):Prop where
 af:pr c.af
 t:il c.t
 pt:IT c.pt
 d:∀i,(c.doors i).many<=4294967295
 be:Bd c.beyond
theorem vC:Bd 0:=⟨by decide,by decide⟩
theorem sL:vB Timer.zero:=⟨vC,vC⟩
theorem IU:py X4.zero:=⟨vC,vC,vC,vC⟩
theorem ad3 {n m:Int} (h:Bd n) (k:Bd m):Bd (sat n m):=by
 unfold Bd sat at*;split<;>omega
theorem E5 {n a b:Int} (h:a<=n/\n<=b) (ha:-9223372036854775808<=a) (hb:b<=9223372036854775807):Bd n:=⟨by omega,by omega⟩
theorem IV {m:Int} (h:Bd m):vB (Timer.start m):=⟨vC,by unfold Timer.start Bd at*;dsimp only;omega⟩
theorem IW {t:Timer} (h:vB t):vB t.step:=⟨ad3 h.1 h.2,h.2⟩
theorem Ext.eq {c c':Core} (h:Ext c) (h1:c'.af=c.af) (h2:c'.t=c.t) (h3:c'.pt=c.pt) (h4:c'.doors=c.doors) (h5:c'.beyond=c.beyond):Ext c':=
 ⟨h1▸h.af,h2▸h.t,h3▸h.pt,h4▸h.d,h5▸h.be⟩
theorem Ext.new {p:aO}:Ext (Core.new p):=⟨⟨λ_=>rfl,sL,λ_=>sL⟩,⟨sL,sL⟩,⟨IU,IU⟩,λ_=>show(0:Int)<=4294967295 by decide,vC⟩
theorem NT {t:Tok} {a b:Int}:il (t.pass a b):=⟨sL,sL⟩
theorem IX {t:Tok} (h:il t) {a:Int}:il (t.dq a).1:=by
 unfold Tok.dq;split
 ·exact h
 split
 ·exact h
 split
 ·exact h
 exact NT
theorem ad4 {t:Tok} (h:il t):il t.iL:=⟨sL,h.la⟩
theorem atj {p:aO} (hp:fk p) {t:Tok} (h:il t) {a b:Int} {th:Bool}:il (t.make p a b th).1:=by
 unfold Tok.make;split
 ·exact h
 split
 ·exact h
 split
 ·exact h
 split
 ·exact h
 split
 ·exact h
 exact⟨IV (E5 hp.offer (by decide) (by decide)),h.la⟩
theorem atk {t:Tok} (h:il t) {a b:Int}:il (t.accept a b).1:=by
 unfold Tok.accept;split
 ·exact h
 split
 ·exact h
 exact IX h
theorem atl {t:Tok} (h:il t) {a:Int}:il (t.fU a).1:=by
 unfold Tok.fU;split
 ·exact h
 exact ad4 h
theorem ad5 {t:Tok} (h:il t) {a:Int}:il (t.drop a).1:=by
 unfold Tok.drop;split
 ·exact h
 exact ad4 h
theorem ad6 {t:Tok} (h:il t):il t.tick.1:=by
 unfold Tok.tick;split
 ·exact h
 split
 ·exact⟨sL,h.la⟩
 exact⟨IW h.oa,h.la⟩
theorem ad7 {p:aO} {t:Tok} {m:Int} {q:List Ask} {f:Int} {now:Bool} (h:il t):il (fO p t m q f now).1:=by
 unfold fO;split
 ·exact h
 split
 ·exact h
 split
 ·exact h
 split
 ·split
  ·exact h
  ·exact IX h
 split
 ·exact h
 exact h
theorem ad8 {t:Tok} (h:il t) {q:List Ask}:il (fy t q).1:=by
 unfold fy;split
 ·exact h
 split
 ·exact h
 exact IX h
theorem ad9 {t:Tok} (h:il t) {q:List Ask} {f:Int}:il (dh t q f).1:=by
 unfold dh;split
 ·exact h
 split
 ·exact h
 exact ad8 h
theorem V2 {p:aO} (hp:fk p) {t:Tok} (h:il t) {q:List Ask} {th:Bool}:il (dW p t q th).1:=by
 unfold dW;split
 ·exact⟨h.oa,sL⟩
 have qb:vB (if t.la.most=0 then Timer.start p.cW else t.la).step:=by
  split
  ·exact IW (IV (E5 hp.cW (by decide) (by decide)))
  ·exact IW h.la
 dsimp only;generalize (if t.la.most=0 then Timer.start p.cW else t.la).step=la at*;have h1:il {t with la:=la}:=⟨h.oa,qb⟩;split
 ·exact h1
 split
 ·exact NT
 split
 ·exact IX h1
 exact ad8 h1
theorem Ext.record {k a n e w:Int} (h:Ext s.c):Ext (s.record C k a n e w).c:=⟨h.af,h.t,h.pt,h.d,h.be⟩
theorem Ext.dP {l:Int} {r:aF} (h:Ext s.c):Ext (s.dP l r).c:=by rw[aa.kL];exact h
theorem Ext.gone {l w e:Int} (h:Ext s.c):Ext (s.gone l w e).c:=h.dP
theorem Ext.tell {l:Int} {r:aF} (h:Ext s.c):Ext (s.tell l r).c:=h
theorem Ext.done {l n:Int} (h:Ext s.c):Ext (s.done l n).c:=h
theorem Ext.refuse {l n e:Int} (h:Ext s.c):Ext (s.refuse C l n e).c:=Ext.record (s:=s.tell l _) h
theorem Ext.iU {l e:Int} (h:Ext s.c):Ext (s.iU C l e).c:=h.record
theorem Ext.goes {t:Tok} {how n:Int} (h:Ext s.c) (ht:il t):Ext (s.goes C t how n).c:=by
 obtain⟨x,e⟩:=aa.HI C s t how n;rw[e];exact⟨h.af,ht,h.pt,h.d,h.be⟩
theorem Ext.leave {x:Int} (h:Ext s.c):Ext (s.leave C x).c:=by
 obtain⟨hd,e⟩:=Ts C s x;rw[e];exact⟨h.af,ad5 h.t,h.pt,h.d,h.be⟩
theorem Ext.eu {t:Tok} (h:Ext s.c) (ht:il t):Ext (s.eu t).c:=⟨h.af,ht,h.pt,h.d,h.be⟩
theorem Ext.IY {q:List Ask} (h:Ext s.c):Ext ({s with c:={s.c with q:=q}}:aa).c:=⟨h.af,h.t,h.pt,h.d,h.be⟩
theorem Ext.eM {m:Int} {y:Label} (h:Ext s.c):Ext (s.eM m y).c:=⟨h.af,h.t,⟨IU,h.pt.now⟩,h.d,h.be⟩
theorem V3 {t:aw} (h:pr t) {i:Nat} (hi:i<3) {x:fN} (hx:vB x.cI):pr (t.eD i x) where
 hi:=by
  intro j;unfold aw.eD;dsimp only;rw[if_neg (by omega)];exact h.hi j
 st:=h.st
 ss:=by
  intro j;unfold aw.eD;dsimp only;split
  ·exact hx
  ·exact h.ss j
theorem atm {t:aw} (h:pr t) {l:Int} (hl:1<=l/\l<=3):pr (t.end_ l):=by
 unfold aw.end_;split
 ·exact V3 h (by omega) sL
 ·exact h
theorem atn {p:aO} (hp:fk p) {t:aw} (h:pr t) {l r:Int} {key:ao}:pr (aw.eL p t l r key).1:=by
 unfold aw.eL;split
 ·exact h
 split
 ·exact h
 exact V3 h (by omega) (IV (E5 hp.bV (by decide) (by decide)))
theorem ato {p:aO} (hp:fk p) {t:aw} (h:pr t) {l:Int} (hl:1<=l/\l<=3) {n:Nat} {f:ao}:pr (aw.take C p t l n f).1:=by
 unfold aw.take;split
 ·exact h
 split
 ·exact h
 split
 ·exact h
 split
 ·exact h
 split
 ·exact h
 exact V3 h (by omega) (IV (E5 hp.bV (by decide) (by decide)))
theorem atp {p:aO} (hp:fk p) {t:aw} (h:pr t):pr (t.l5 p):=⟨h.hi,IV (E5 hp.bV (by decide) (by decide)),h.ss⟩
theorem atq {t:aw} (h:pr t):pr t.tick where
 hi:=by
  intro j;simp only[aw.tick,h.hi j];simp[h.hi j]
 st:=by
  unfold aw.tick;dsimp only;split
  ·split
   ·exact sL
   ·exact IW h.st
  ·exact h.st
 ss:=by
  intro j;unfold aw.tick;dsimp only;split
  ·split
   ·exact sL
   ·exact IW (h.ss j)
  ·exact h.ss j
theorem NU {n a b:Int} (ha:Bd a) (hb:Bd b) (h:Bd n):Bd (uJ n a b):=by
 unfold uJ;split
 ·exact ha
 split
 ·exact hb
 exact h
theorem ad_ {p:aO} (hp:fk p) {pt:e_} (h:IT pt) {c:Int} {x:X4} (hx:py x) {y:Label}:IT (pt.set p c x y) where
 aT:=by
  unfold e_.set;dsimp only;split
  ·exact IU
  ·have hm:=hp.most c.toNat (by omega);have h1:Bd (-(p.most c.toNat)):=⟨by omega,by omega⟩;have h2:Bd (p.most c.toNat):=⟨by omega,by omega⟩;exact⟨NU h1 h2 hx.1,NU h1 h2 hx.2.1,NU h1 h2 hx.2.2.1,NU h1 h2 hx.2.2.2⟩
 now:=h.now
theorem NV {a b r:Int} (ha:Bd a) (hb:Bd b):Bd (rK a b r):=by
 unfold rK Bd at*;split
 ·exact ha
 split
 ·split<;>omega
 ·split<;>omega
theorem atr {p:aO} {pt:e_} (h:IT pt):IT (pt.step p) where
 aT:=h.aT
 now:=⟨NV h.now.1 h.aT.1,NV h.now.2.1 h.aT.2.1,NV h.now.2.2.1 h.aT.2.2.1,NV h.now.2.2.2 h.aT.2.2.2⟩
theorem att {m:a9} {l:Int} (hl:1<=l/\l<=3) (hp:fk s.c.p) (hx:py m.x) (h:Ext s.c):Ext (s.jC C l m).c:=by
 unfold aa.jC;split
 ·exact h.done
 split
 ·unfold aa.A_;refine Ext.done (Ext.record (Ext.leave ?_));exact⟨atm h.af hl,h.t,h.pt,h.d,h.be⟩
 split
 ·unfold aa.ask;dsimp only;split
  ·exact h.refuse
  refine Ext.done ?_;split
  ·exact Ext.goes (h.IY) (ad7 h.t)
  ·exact Ext.record (Ext.eu h.IY (ad7 h.t))
 split
 ·unfold aa.offer;dsimp only;split
  ·exact h.refuse
  exact Ext.done (Ext.record (Ext.dP (Ext.eu h (atj hp h.t))))
 split
 ·unfold aa.accept;dsimp only;split
  ·exact h.refuse
  exact Ext.done (Ext.goes h (atk h.t))
 split
 ·unfold aa.fU;dsimp only;split
  ·exact h.refuse
  exact Ext.done (Ext.record (Ext.gone (Ext.eu h (atl h.t))))
 split
 ·unfold aa.release;dsimp only;split
  ·exact h.refuse
  exact Ext.done (Ext.goes h.IY (ad9 h.t))
 split
 ·unfold aa.command;dsimp only;split
  ·exact h.refuse
  refine Ext.done (Ext.record ?_);split
  ·exact⟨h.af,h.t,h.pt,h.d,h.be⟩
  ·exact⟨h.af,h.t,ad_ hp h.pt hx,h.d,h.be⟩
 ·exact h
theorem atu {l code:Int} {n:Nat} {f:ao} (hx:∀n f m,C.take n f=some m->py m.x) (hl:1<=l/\l<=3) (hp:fk s.c.p) (h:Ext s.c):Ext (s.item C l code n f).c:=by
 unfold aa.item;split
 ·exact h.iU
 split
 ·unfold aa.lC;split
  ·exact h.iU
  split
  ·exact h.refuse
  dsimp only;split
  ·exact h.refuse
  refine Ext.record (Ext.tell ?_);refine⟨h.af,h.t,h.pt,?_,h.be⟩;intro i;dsimp only;split
  ·dsimp only;omega
  ·exact h.d i
 split
 ·unfold aa.prove;split
  ·exact h.iU
  split
  ·exact h.iU
  dsimp only;split
  ·exact h.refuse
  have h1:∀{b:Bool} {x:ao},Ext ({s.c with doors:=λj=>if j=l.toNat-1 then⟨(s.c.doors (l.toNat-1)).many,b,x⟩else s.c.doors j}:Core):=by
   intro b x;refine⟨h.af,h.t,h.pt,?_,h.be⟩;intro i;dsimp only;split
   ·exact h.d _
   ·exact h.d i
  split
  ·exact Ext.iU (s:=({s with c:=_}:aa)) h1
  split
  ·exact Ext.refuse (s:=({s with c:=_}:aa)) h1
  split
  ·exact Ext.refuse (s:=({s with c:=_}:aa)) h1
  refine Ext.record (Ext.tell ?_);exact⟨atn hp h.af,h.t,h.pt,(@h1 false λ_=>0).d,h.be⟩
 split
 ·exact h.iU
 ·rename_i af m heq;have h1:pr af:=by have:=ato (C:=C) hp h.af hl (n:=n) (f:=f);rw[heq]at this;exact this
  have hm:py m.x:=by
   unfold aw.take at heq;split at heq
   ·cases heq
   split at heq
   ·cases heq
   split at heq
   ·cases heq
   ·rename_i m' wo;split at heq
    ·cases heq
    split at heq
    ·cases heq
    cases heq;exact hx _ _ _ wo
  exact att hl hp hm ⟨h1,h.t,h.pt,h.d,h.be⟩
theorem atv {x:n9} (hx:py x.x) (hp:fk s.c.p) (h:Ext s.c):Ext (s.l5 C x).c:=by
 have hs:Bd (fg s.c.p s.c.beyond x).1:=by
  unfold fg;split
  ·exact vC
  ·exact ad3 (by have:=h.be;unfold Bd at*;omega) (E5 hp.uI (by decide) (by decide))
 unfold aa.l5;split
 ·exact⟨h.af,h.t,h.pt,h.d,vC⟩
 dsimp only;have h1:Ext ({s.c with samples:=sat s.c.samples 4294967295,af:=s.c.af.l5 s.c.p,beyond:=(fg s.c.p s.c.beyond x).1}:Core):=⟨atp hp h.af,h.t,h.pt,h.d,hs⟩;split
 ·split
  ·exact Ext.record (s:=({s with c:=_}:aa)) h1
  ·exact Ext.goes ⟨h1.af,h1.t,h1.pt,h1.d,h1.be⟩ (ad9 h.t)
 split
 ·split
  ·exact Ext.record (s:=({s with c:=_}:aa)) h1
  ·exact Ext.record (s:=({s with c:=_}:aa)) ⟨h1.af,h1.t,ad_ hp h.pt hx,h1.d,h1.be⟩
 split
 ·split
  ·exact Ext.record (s:=({s with c:=_}:aa)) h1
  ·exact Ext.goes (s:=({s with c:=_}:aa)) h1 (IX h.t)
 ·exact h1
theorem atw (q:List Ask):∀s:aa,Ext s.c->Ext (q.foldl nH s).c:=by
 induction q with
 |nil=>intro s h;exact h
 |cons a q ih=>intro s h;exact ih _ (by rw[NO];exact⟨h.af,h.t,h.pt,h.d,h.be⟩)
theorem atx {bad:Bool} (h:Ext s.c):Ext (s.yL C bad).c:=by
 cases bad with
 |false=>exact⟨h.af,⟨h.t.oa,h.t.la⟩,h.pt,h.d,h.be⟩
 |true=>
  rw[adW true rfl];refine Ext.eM (atw _ _ ?_);have h0:Ext (s.eu {s.c.t with bad:=true}).c:=Ext.eu h ⟨h.t.oa,h.t.la⟩;split
  ·exact Ext.goes h0 NT
  ·exact Ext.eu h0 NT
theorem aty (xs:List Int):∀t:Tok,il t->il (lv t xs):=by
 induction xs with
 |nil=>intro t h;exact h
 |cons x xs ih=>
  intro t h;unfold lv at*;rw[sZ];refine ih _ ?_;split
  ·exact ad5 h
  ·exact h
theorem atz (xs:List Int):∀s:aa,Ext s.c->Ext (xs.foldl (nI C) s).c:=by
 induction xs with
 |nil=>intro s h;exact h
 |cons x xs ih=>
  intro s h;refine ih _ ?_;obtain⟨hd,e⟩:=adX C s x;rw[e];exact⟨h.af,aty _ _ h.t,h.pt,h.d,h.be⟩
theorem atA (q:List Ask):∀s:aa,Ext s.c->Ext (q.foldl (Ab C) s).c:=by
 induction q with
 |nil=>intro s h;exact h
 |cons a q ih=>intro s h;exact ih _ (Ext.record (Ext.gone h))
theorem atC (hp:fk s.c.p) (h:Ext s.c):Ext (s.cW C).c:=by
 unfold aa.cW;dsimp only;split
 ·exact Ext.eu h (V2 hp h.t)
 split
 ·exact Ext.eM (Ext.goes h.IY (V2 hp h.t))
 ·exact Ext.eM (Ext.goes h.IY (V2 hp h.t))
theorem atD (hi:Inv s.c) (h:Ext s.c):Ext (s.tick C).c:=by
 rw[CD];have h1:Ext (lM C s).c:=atz _ _ ⟨atq h.af,h.t,h.pt,h.d,h.be⟩;have h2:Ext (nJ C (lM C s)).c:=by
  unfold nJ;dsimp only;split
  ·exact Ext.record (Ext.gone (Ext.eu h1 (ad6 h1.t)))
  ·exact Ext.eu h1 (ad6 h1.t)
 have h3:Ext (uc C (nJ C (lM C s))).c:=atA _ _ ⟨h2.af,h2.t,h2.pt,h2.d,h2.be⟩;have hp:fk (uc C (nJ C (lM C s))).c.p:=by rw[(ad1 (b:=True) hi).2.p];exact hi.p
 have h4:=atC (C:=C) hp h3;exact⟨h4.af,h4.t,atr h4.pt,h4.d,h4.be⟩
end Sd
namespace Sx
open Go Go.RowKit Go.BigFrame
theorem St.dup {ms:List Nat} {w0 w:ag} {bs:List aj} {b:aj} (S:St ms w0 bs w) (hb:b∈bs) (hw:b.wr=false):St ms w0 (b::bs) w:=by
 refine St.mk' S.ch ?_ ?_ ?_
 ·intro x hx;rcases cn.1 hx with rfl|hx
  ·exact S.at' hb
  ·exact S.at' hx
 ·intro x hx h;rcases cn.1 hx with rfl|hx
  ·rw[hw]at h;cases h
  ·exact S.oT hx h
 ·refine AK.2 ⟨?_,S.pw⟩;intro y hy;obtain⟨i,hi⟩:=AG hb;obtain⟨j,hj⟩:=AG hy;intro h;have V4:y.wr=true:=by
   rcases h with h|h
   ·rw[hw]at h;cases h
   ·exact h
  have cE:j≠i:=λe=>by
   rw[e,hi]at hj;have:=cG hj;rw[this]at hw;rw[hw]at V4;cases V4
  exact(S.apart j i y b hj hi cE V4).symm
end Sx
namespace Go.Proofs.YtggfpcggakghnaaGreatDoor
open Go Go.RowKit Go.BigFrame Sx Vx
variable{fr:Sd.aF->Nat×Sd.ao}
inductive LG (fr:Sd.aF->Nat×Sd.ao) where
 |a_ (u:ag)
 |core (g:Gh fr) (fB:List aj)
 |row (r:bm)
instance:Bl (LG fr):=⟨λg=>match g with|.a_ u=>dR u|.core g fB=>g.F.B++fB|.row r=>r.bl⟩
mutual
def hU (n:Nat):V->V
 |.ptr i o=>.ptr (i+n) o
 |.sl i o m c=>.sl (i+n) o m c
 |.gp i o m c x=>.gp (i+n) o m c x
 |.pe i o j z k=>.pe (i+n) o j z k
 |.fn f a b=>.fn f (pz n a) (pz n b)
 |.mH t v=>.mH t (hU n v)
 |.agg l=>.agg (pz n l)
 |.av l=>.av (pz n l)
 |v=>v
def pz (n:Nat):List V->List V
 |[]=>[]
 |v::l=>hU n v::pz n l
end
theorem NW {ids xs:List Nat} (i:Nat):(ids++xs).getD (i+ids.length) 0=xs.getD i 0:=by
 simp[ir,AF (show ids.length<=i+ids.length by omega)]
mutual
theorem E6 {ids xs:List Nat}:∀v:V,den (ids++xs) (hU ids.length v)=den xs v
 |.ptr i _=>by simp only[hU,den,NW]
 |.sl i _ _ _=>by simp only[hU,den,NW]
 |.gp i _ _ _ _=>by simp only[hU,den,NW]
 |.pe i _ _ _ _=>by simp only[hU,den,NW]
 |.fn _ a b=>by simp only[hU,den,NX a,NX b]
 |.mH _ v=>by simp only[hU,den,E6 v]
 |.agg l=>by simp only[hU,den,V5 l]
 |.av l=>by simp only[hU,den,NX l]
 |.int _ _=>by simp[hU,den]
 |.bool _=>by simp[hU,den]
 |.bS _ _ _=>by simp[hU,den]
 |.arr _ _ _=>by simp[hU,den]
 |.dz _ _ _ _=>by simp[hU,den]
 |.rest _=>by simp[hU,den]
 |.fP _ _ _=>by simp[hU,den]
 |.raw _=>by simp[hU,den]
theorem NX {ids xs:List Nat}:∀l:List V,aH (ids++xs) (pz ids.length l)=aH xs l
 |[]=>by simp[pz,aH]
 |v::l=>by simp only[pz,aH,E6 v,NX l]
theorem V5 {ids xs:List Nat}:∀l:List V,ai (ids++xs) (pz ids.length l)=ai xs l
 |[]=>by simp[pz,ai]
 |v::l=>by
  simp only[pz,ai,V5 l];congr 1;have h:=E6 (ids:=ids) (xs:=xs) v;cases v<;>simp only[hU,cl]at h⊢<;>first|rfl|rw[h]
end
def xR (n:Nat):List VB->List VB
 |[]=>[]
 |b::l=>⟨b.wr,b.ty,pz n b.c⟩::xR n l
theorem aea (n:Nat):∀l:List VB,(xR n l).length=l.length
 |[]=>rfl
 |_::l=>by simp[xR,aea n l]
theorem aeb {ids xs:List Nat}:∀(is:List Nat) (bl:List VB),lits (ids++xs) is (xR ids.length bl)=lits xs is bl
 |[],_=>by simp[lits]
 |_::_,[]=>by simp[lits,xR]
 |i::is,b::bl=>by
  simp only[xR,lits,aeb is bl];unfold aD;simp only[V5]
abbrev IZ (fr:Sd.aF->Nat×Sd.ao) (k:LK):=V->(s':Sd.aa)->aX fr (aU k s')->List aj->List VB->Prop
abbrev LM (fr:Sd.aF->Nat×Sd.ao):=List V->(k:LK)->(s:Sd.aa)->aX fr (aU k s)->IZ fr k->Prop
def eW (bl:List VB) (ic it:Nat) (k:LK) (s:Sd.aa):List VB:=(bl.set ic (g_ k it s)).set it (gM s)
def Ad (M:ag->LM fr):dc (LG fr):=λargs bl ch K=>match args,ch with
 |.ptr ic 0::ar,.a_ u::.core g fB::rest=>(match bl[ic]?with
  |some ⟨true,⟨105,(0,0)⟩,cc⟩=>(match Ce cc with
   |some x=>(match bl[x.it]?with
    |some ⟨true,⟨157,(0,0)⟩,tc⟩=>(match sw tc with
     |some y=>cond (bo 0 ar&&(bM bl.length bl&&(cD 1 ic&&(cD 1 x.it&&!(az ic x.it)))))
      ((bl[0]?=some (cw g.d.k)/\bl[1]?=some (iQ g.d.k)/\x=mg g.d.k x.it (fG x y g.d g.dx g.sx)/\y.b=x.p.bV/\y.m=x.p.fj/\x.p.queue=g.d.k.most)/\
        M u ar g.d.k (fG x y g.d g.dx g.sx) g.F λvv s' F' fn ex=>K (hU bl.length vv) (eW bl ic x.it g.d.k s'++ex) (.a_ u::.core (bj g.d.k s' F') (fn++fB)::rest)) False
     |none=>False)
    |_=>False)
   |none=>False)
  |_=>False)
 |_,_=>False
abbrev cO (a b:Nat):List Nat:=[1,0,a,b]
def CI (f:fL) (M:ag->LM fr):Prop:=∀(u:ag) (ar:List V) (k:LK) (s:Sd.aa) (F:aX fr (aU k s)) (Kb:IZ fr k) (a b:Nat) (R:List aj) (ms:List Nat) (w0 w:ag),bo 0 ar=true->s.c.p.queue=k.most->M u ar k s F Kb->
 St ms w0 (lits (cO a b) (cO a b) (c9 k s)++(F.B++(dR u++R))) w->
 aV prog f (aH (cO a b) (.ptr 2 0::ar)).toArray w λv w'=>∃(vv:V) (s':Sd.aa) (F':aX fr (aU k s')) (fn:List aj) (ex:List VB) (xs:List Nat),xs.length=ex.length/\den xs vv=v/\bM 0 ex=true/\Kb vv s' F' fn ex/\
  St ms w0 (lits (cO a b) (cO a b) (c9 k s')++(lits xs xs ex++(F'.B++(fn++(dR u++R))))) w'
theorem aec {ids:List Nat} {it a b:Nat} (n:Nat) {k:LK} {s:Sd.aa} (h:ids.getD it 0=b):aD ids n (g_ k it s)=aD (cO a b) n (g_ k 3 s):=by
 have e:(cO a b).getD 3 0=b:=rfl;simp only[aD,g_,EC,mg,ai,cl,den,h,e]
structure CJ (bl:List VB) (ic it:Nat) (k:LK) (s:Sd.aa):Prop where
 h0:bl[0]?=some (cw k)
 h1:bl[1]?=some (iQ k)
 hc:bl[ic]?=some (g_ k it s)
 ht:bl[it]?=some (gM s)
theorem E7 {ids:List Nat} {bl:List VB} {ic it:Nat} {k:LK} {s:Sd.aa} (H:CJ bl ic it k s) (hg:Gl gS ids):
 ([0,1,ic,it].map λj=>aD ids (ids.getD j 0) (bl.getD j dk))=lits (cO (ids.getD ic 0) (ids.getD it 0)) (cO (ids.getD ic 0) (ids.getD it 0)) (c9 k s):=by
 have g0:=(hg 1 0 rfl).2;have g1:=(hg 0 1 rfl).2;simp only[eF,s8,iY H.h0,iY H.h1,iY H.hc,iY H.ht,g0,g1,c9,lits];rw[nC (ids':=cO (ids.getD ic 0) (ids.getD it 0)) (Ic k),nC (ids':=cO (ids.getD ic 0) (ids.getD it 0)) (acC k),nC (ids':=cO (ids.getD ic 0) (ids.getD it 0)) (Ib s),
  aec (a:=ids.getD ic 0) _ rfl]
theorem V6 {bl:List VB} {ic it:Nat} {k:LK} {s:Sd.aa} (H:CJ bl ic it k s) (h2:1<ic) (h3:1<it) (n3:ic≠it) (s':Sd.aa):CJ (eW bl ic it k s') ic it k s':=by
 have l2:=iZ H.hc;have l3:=iZ H.ht;unfold eW;refine⟨?_,?_,?_,?_⟩
 ·rw[kO (by omega),kO (by omega)];exact H.h0
 ·rw[kO (by omega),kO (by omega)];exact H.h1
 ·rw[kO (by omega),zX l2]
 ·rw[zX (by simpa using l3)]
theorem V7 {bl:List VB} {ids r:List Nat} {a b:Nat} {x y:VB} (hr:∀j∈r,j≠a/\j≠b):
 (r.map λj=>aD ids (ids.getD j 0) (((bl.set a x).set b y).getD j dk))=r.map λj=>aD ids (ids.getD j 0) (bl.getD j dk):=by
 apply pI;intro j hj;obtain⟨h1,h2⟩:=hr j hj;simp only[ir,List.getElem?_set];rw[if_neg (Ne.symm h2),if_neg (Ne.symm h1)]
theorem I0 {n:Nat} {b:VB} (hb:bo n b.c=true):∀(bl:List VB) (i:Nat),bM n bl=true->bM n (bl.set i b)=true
 |[],_,_=>by simp[bM]
 |c::l,0,h=>by simp only[bM,bu,List.set_cons_zero]at h⊢;exact⟨hb,h.2⟩
 |c::l,i+1,h=>by simp only[bM,bu,List.set_cons_succ]at h⊢;exact⟨h.1,I0 hb l i h.2⟩
theorem Ae {ids ids':List Nat}:∀(xs:List Nat) (ex:List VB),bM 0 ex=true->lits ids xs ex=lits ids' xs ex
 |[],_,_=>by simp[lits]
 |_::_,[],_=>by simp[lits]
 |i::is,b::bl,h=>by
  simp only[bM,bu]at h;simp only[lits];rw[nC (ids':=ids') h.1,Ae is bl h.2]
theorem aed {f:Nat} {M:ag->LM fr} (h:CI f M):Sound prog gS f (Ad M):=by
 intro args ids bl ch R ms w0 w K hg hl S hc;unfold Ad at hc;split at hc
 ·rename_i ic ar u g fB rest;split at hc
  ·rename_i cc rM;split at hc
   ·rename_i x hx;split at hc
    ·rename_i tc vj;split at hc
     ·rename_i y hy;cases hq:bo 0 ar&&(bM bl.length bl&&(cD 1 ic&&(cD 1 x.it&&!(az ic x.it))))with
      |false=>rw[hq]at hc;exact hc.elim
      |true=>
       rw[hq]at hc;simp only[bu,my,iG]at hq;obtain⟨q0,qw,q2,q3,q6⟩:=hq;have n3:ic≠x.it:=λe=>by rw[e,sY]at q6;cases q6
       obtain⟨⟨e3,e4,e5,e6,e7,e8⟩,hM⟩:=hc;obtain rfl:=Ia hx;obtain rfl:=xC hy;have H:CJ bl ic x.it g.d.k (fG x y g.d g.dx g.sx):=by
        refine⟨e3,e4,?_,?_⟩
        ·rw[rM];congr 1;unfold g_;rw[<-e5]
        ·rw[vj];congr 1;unfold gM;have:y=vi (fG x y g.d g.dx g.sx):=by
          obtain⟨y1,y2,y3,y4,y5,y6,y7,y8⟩:=y;simp only at e6 e7;subst e6 e7;rfl
         rw[<-this]
       have l2:=iZ H.hc;have l3:=iZ H.ht;obtain⟨r,hr,hp⟩:=zW (bl:=bl) (ids:=ids) hl (is:=[0,1,ic,x.it]) (by simp;omega) (by
        intro i hi;simp only[cn,pN,or_false]at hi;rcases hi with rfl|rfl|rfl|rfl<;>omega)
       have gE:=hp bl rfl;rw[E7 H hg]at gE;have S1:=S.perm (bs':=lits (cO (ids.getD ic 0) (ids.getD x.it 0)) (cO (ids.getD ic 0) (ids.getD x.it 0)) (c9 g.d.k (fG x y g.d g.dx g.sx))++(g.F.B++(dR u++((r.map λj=>aD ids (ids.getD j 0) (bl.getD j dk))++(fB++aC rest R))))) (by
        refine(gE.append_right _).trans ?_;rw[bU];refine pL _ ?_;show((r.map λj=>aD ids (ids.getD j 0) (bl.getD j dk))++(dR u++((g.F.B++fB)++aC rest R))).Perm _;exact ij λf=>by simp only[iI];omega)
       have Ie:=h u ar g.d.k (fG x y g.d g.dx g.sx) g.F _ _ _ _ ms w0 w q0 e8 hM S1;have cV:aH ids (.ptr ic 0::ar)=aH (cO (ids.getD ic 0) (ids.getD x.it 0)) (.ptr 2 0::ar):=by
        have a1:aH ids ar=aH [] ar:=by have:=n_ (ids:=[]) (more:=ids) ar q0;simpa using this
        have a2:aH (cO (ids.getD ic 0) (ids.getD x.it 0)) ar=aH [] ar:=by have:=n_ (ids:=[]) (more:=cO (ids.getD ic 0) (ids.getD x.it 0)) ar q0;simpa using this
        simp only[aH,den,a1,a2];rfl
       rw[cV];refine Ie.mono ?_;rintro v w' ⟨vv,s',F',fn,ex,xs,gn,V8,xN,hK,S2⟩;refine⟨hU bl.length vv,xs,eW bl ic x.it g.d.k s'++ex,.a_ u::.core (bj g.d.k s' F') (fn++fB)::rest,?_,?_,?_,hK⟩
       ·rw[<-hl,E6];exact V8.symm
       ·simp[eW,hl,gn]
       ·have H':=V6 H q2 q3 n3 s';have oD:=hp (eW bl ic x.it g.d.k s') (by simp[eW]);rw[E7 H' hg]at oD;have Cf:(r.map λj=>aD ids (ids.getD j 0) ((eW bl ic x.it g.d.k s').getD j dk))=r.map λj=>aD ids (ids.getD j 0) (bl.getD j dk):=by
         unfold eW;refine V7 ?_;intro j hj;have:=hr j hj;simp only[cn,pN,or_false,not_or]at this;omega
        rw[Cf]at oD;have dv:ids.length=(eW bl ic x.it g.d.k s').length:=by simp[eW,hl]
        have V9:bM ids.length (eW bl ic x.it g.d.k s')=true:=by
         unfold eW;rw[<-hl]at qw l3;refine I0 ?_ _ _ (I0 ?_ _ _ qw)
         ·exact wD (Nat.zero_le _) _ (Ib s')
         ·simp only[g_,EC,mg,bo,cR,bu,iG,Bool.true_and,Bool.and_true];exact l3
        rw[fC _ _ _ _ dv,fD _ _ V9,Ae (ids':=xs) xs ex xN];refine S2.perm ?_;show List.Perm _ ((lits ids ids (eW bl ic x.it g.d.k s')++lits xs xs ex)++(dR u++((F'.B++(fn++fB))++aC rest R)));refine Dg ?_ ((oD.symm.append_right _).append_right _);exact ij λf=>by simp only[iI];omega
     ·exact hc.elim
    ·exact hc.elim
   ·exact hc.elim
  ·exact hc.elim
 ·exact hc.elim
theorem V_ {f:Nat} {M:ag->LM fr} (h:CI f M):uW prog gS ⟨f,false,Ad M⟩:=⟨aed h,λe=>by cases e⟩
end Go.Proofs.YtggfpcggakghnaaGreatDoor
namespace Sx
open Go Go.RowKit Go.BigFrame
theorem St.mf {ms:List Nat} {w0 w:ag} {b:aj} {bs:List aj} (S:St ms w0 (b::bs) w):St ms w0 (⟨b.id,false,b.obj⟩::bs) w:=by
 refine St.mk' S.ch ?_ ?_ ?_
 ·intro x hx;rcases cn.1 hx with rfl|hx
  ·exact S.at' (x:=b) (De)
  ·exact S.at' (yu _ hx)
 ·intro x hx h;rcases cn.1 hx with rfl|hx
  ·cases h
  ·exact S.oT (yu _ hx) h
 ·have:=AK.1 S.pw;refine AK.2 ⟨?_,this.2⟩;intro y hy h;refine this.1 y hy ?_;rcases h with h|h
  ·cases h
  ·exact .inr h
end Sx
namespace Go.Proofs.YtggfpcggakghnaaGreatDoor
open Go Go.RowKit Go.BigFrame Sx Vx
variable{fr:Sd.aF->Nat×Sd.ao}
def cd (s:Sd.aa):Sd.aa:=⟨s.c,[],[]⟩
def CK (l:List Sd.Rec) (j:Nat):List ae:=[.int .i64 (l.getD j default).kind,.int .i64 (l.getD j default).source,.int .i64 (l.getD j default).seq,.int .i64 (l.getD j default).ah,.int .i64 (l.getD j default).code,.int .i64 (l.getD j default).how]
theorem aee:∀(l:List Sd.Rec),(bw l.length).flatMap (CK l)=vh l
 |[]=>rfl
 |r::l=>by
  rw[h_,vU,List.flatMap_cons,List.flatMap_map];have e:(λj=>CK (r::l) (Nat.succ j))=CK l:=by funext j;rfl
  rw[e,aee l];rfl
def Af (ty:aJ) (z n:Nat) (g:Nat->List ae) (us:List ae):VB:=⟨false,ty,[.fP z n g,.rest us]⟩
theorem aef (ids:List Nat) (ty z n:Nat) (g:Nat->List ae) (us:List ae):ai ids (Af ty z n g us).c=(bw n).flatMap g++us:=by
 simp only[Af,ai,cl,cH]
structure ue where
 x:Option aQ
 n:Nat
 c:Nat
def mX (l:List (Int×Sd.aF)) (fv:Nat->ue) (j:Nat):List ae:=[.int .i64 (l.getD j default).1,.slice (fv j).x (fv j).n (fv j).c]
def lx (fr:Sd.aF->Nat×Sd.ao) (l:List (Int×Sd.aF)) (fv:Nat->ue) (fn:List aj):Prop:=∀j,j<l.length->∃x c b,fv j=⟨x,(fr (l.getD j default).2).1,c⟩/\ff 5 (fr (l.getD j default).2).1 (fr (l.getD j default).2).2 x c b/\∀y∈b,y∈fn
theorem atF {l:List (Int×Sd.aF)} {so:List ae} {B:List aj} (h:Cd fr l so B):∃fv,so=(bw l.length).flatMap (mX l fv)/\lx fr l fv B:=by
 induction h with
 |nil=>exact⟨λ_=>⟨none,0,0⟩,rfl,λj hj=>absurd hj (by simp)⟩
 |@snoc l olds bl h k r x c b hb ih=>
  obtain⟨fv,e,hf⟩:=ih;refine⟨λj=>if j=l.length then⟨x,(fr r).1,c⟩else fv j,?_,?_⟩
  ·rw[ft,Yq,Dd,FH,e];congr 1
   ·simp only[List.flatMap_def];congr 1;apply pI;intro j hj;have hj:=List.mem_range.1 hj;unfold mX;dsimp only;rw[if_neg (show¬j=l.length by omega),pH,pH,iq hj]
   ·simp[mX,ir]
  ·intro j hj;by_cases h1:j=l.length
   ·subst h1;have e2:(l++[(k,r)]).getD l.length default=(k,r):=by simp[ir]
    rw[e2];exact⟨x,c,b,by simp,hb,λy hy=>by simp[hy]⟩
   ·have wb:j<l.length:=by simp at hj;omega
    obtain⟨x',c',b',h2,h3,h4⟩:=hf j wb;have e2:(l++[(k,r)]).getD j default=l.getD j default:=by rw[pH,pH,iq wb]
    rw[e2];exact⟨x',c',b',by simp only[if_neg h1];exact h2,h3,λy hy=>by simp[h4 y hy]⟩
def Wa (s:Sd.aa) (vs vr:V):V:=.agg [.int .i64 s.c.mode,.int .i64 s.c.pt.cls,.int .i64 s.c.pt.now.a,.int .i64 s.c.pt.now.b,.int .i64 s.c.pt.now.c,.int .i64 s.c.pt.now.d,.int .i64 s.c.d_.lZ,.int .i64 s.c.d_.source,.int .i64 s.c.d_.seq,
 .int .i64 s.c.pt.bx.lZ,.int .i64 s.c.pt.bx.source,.int .i64 s.c.pt.bx.seq,vs,vr,.bS .u8 32 s.c.head]
structure TR where
 xs:Option aQ
 cs:Nat
 ts:Nat
 us:List ae
 fv:Nat->ue
 xr:Option aQ
 cr:Nat
 tr:Nat
 ur:List ae
def TR.sB (r:TR) (s:Sd.aa):VB:=Af r.ts 2 s.bg.length (mX s.bg r.fv) r.us
def TR.rB (r:TR) (s:Sd.aa):VB:=Af r.tr 6 s.bH.length (CK s.bH) r.ur
def TR.v (r:TR) (s:Sd.aa) (i:Nat):V:=Wa s (.gp i 0 s.bg.length r.cs r.xs) (.gp (i+1) 0 s.bH.length r.cr r.xr)
def I1 (k:LK) (sv:Sd.aa) (K:IZ fr k):Prop:=∀(s':Sd.aa),s'=sv->∀(r:TR) (fn:List aj) (F0:aX fr (aU k (cd s'))),da=F0.vs->da=F0.vr->lx fr s'.bg r.fv fn->K (r.v s' 0) (cd s') F0 fn [r.sB s',r.rB s']
theorem atG {k:LK} {s':Sd.aa} (F':aX fr (aU k s')):∃F0:aX fr (aU k (cd s')),da=F0.vs/\da=F0.vr/\F0.B=F'.Bq++F'.Bk:=
 ⟨⟨none,0,none,0,F'.Bq,[],[],[],F'.Bk,[],F'.hq,yH 6 75,yH 2 85,.nil,F'.hk⟩,rfl,rfl,rfl⟩
theorem aeg {ms:List Nat} {w0 w:ag} {z T n c:Nat} {olds:List ae} {x:Option aQ} {B R:List aj} {k:LK} {g:Nat->List ae} (h:fu z T olds x n c B) (S:St ms w0 (B++R) w) (lr:(⟨1,false,.cells (ai [] (cw k).c).toArray k.tg (0,0)⟩:aj)∈R) (hg:olds=(bw n).flatMap g):
 ∃(i ty:Nat) (us:List ae),Value.slice x n c=.slice (bif az n 0 then x else some ⟨i,0,none⟩) n c/\St ms w0 (⟨i,false,.cells ((bw n).flatMap g++us).toArray ty (0,0)⟩::R) w:=by
 rcases h.2.2 with⟨rfl,rfl,rfl,rfl⟩|⟨b,tail,rfl,rfl,_⟩
 ·exact⟨1,k.tg,ai [] (cw k).c,rfl,by simpa using S.dup lr rfl⟩
 ·refine⟨b,T,tail,?_,?_⟩
  ·cases az n 0<;>rfl
  ·rw[<-hg];exact S.mf
theorem aeh {f n:Nat} {M:ag->LM fr} {L:List (bR (Gh fr))} (hL:aI prog gS L)
 (h:∀(u:ag) (ar:List V) (k:LK) (s:Sd.aa) (F:aX fr (aU k s)) (Kb:IZ fr k),bo 0 ar=true->s.c.p.queue=k.most->M u ar k s F Kb->br (bZ prog gS L) n f (.ptr 2 0::ar) (c9 k s) [bj k s F] (E0 k s λs' F'=>I1 k s' Kb)):CI f M:=by
 intro u ar k s F Kb a b R0 ms w0 w h0 hq hM S;generalize hR:dR u++R0=R at S⊢;have hg:Gl gS (cO a b):=by
  intro g i dN;unfold gS at dN;split at dN
  ·obtain rfl:=cG dN;exact⟨by simp,rfl⟩
  ·obtain rfl:=cG dN;exact⟨by simp,rfl⟩
  ·cases dN
 refine(eO hL.T hL.Q n (C:=bZ prog gS L) (ids:=cO a b) (bl:=c9 k s) (ch:=[bj k s F]) (R:=R) (ms:=ms) (w0:=w0) (w:=w) hg rfl (by
  have e:aC [bj k s F] R=F.B++R:=rfl;rw[e];exact S) (h u ar k s F Kb h0 hq hM)).mono ?_
 rintro v w' ⟨x,more,bl',ch',rfl,h1,S',s',F',rfl,hb,rfl,hT⟩;have hl4:(c9 k s').length=4:=rfl;have oE:bl'=c9 k s'++bl'.drop 4:=by rw[<-hb,jS]
 rw[oE]at S';have e2:lits (cO a b++more) (cO a b++more) (c9 k s'++bl'.drop 4)=lits (cO a b) (cO a b) (c9 k s')++lits (cO a b++more) more (bl'.drop 4):=by
  rw[fC _ _ _ _ (by rw[hl4];rfl)];rw[fD (ids:=cO a b) (more:=more) (cO a b) (c9 k s') rfl]
 rw[e2]at S';obtain⟨F0,v1,v2,hB⟩:=atG F';have e3:aC [bj k s' F'] R=F'.Br++(F'.Bs++(F'.Bf++(F'.Bq++F'.Bk)))++R:=rfl;rw[e3]at S';have fw:c9 k (cd s')=c9 k s':=rfl;have S1:St ms w0 (F'.Br++(F'.Bs++(lits (cO a b) (cO a b) (c9 k (cd s'))++(F0.B++(F'.Bf++R))))) w':=by
  rw[fw,hB];have S2:St ms w0 (lits (cO a b) (cO a b) (c9 k s')++(F'.Br++(F'.Bs++(F'.Bf++(F'.Bq++F'.Bk)))++R)) w':=by
   refine S'.sub ?_;simp only[bU];exact uv (mA _ _) _
  exact S2.perm (ij λf=>by simp only[iI];omega)
 have lr:(⟨1,false,.cells (ai [] (cw k).c).toArray k.tg (0,0)⟩:aj)∈lits (cO a b) (cO a b) (c9 k (cd s')):=by
  have:aD (cO a b) 1 (cw k)=aD [] 1 (cw k):=nC (Ic k);show _∈aD (cO a b) 1 (cw k)::_;rw[this];exact De
 obtain⟨fv,hso,NY⟩:=atF F'.hf;have S2:=S1.perm (bs':=F'.Bs++(F'.Br++(lits (cO a b) (cO a b) (c9 k (cd s'))++(F0.B++(F'.Bf++R))))) (ij λf=>by simp only[iI];omega);obtain⟨i1,t1,u1,q1,S3⟩:=aeg (k:=k) F'.hs S2 (by simp[lr]) hso;have S3':St ms w0 (⟨i1,false,.cells ((bw s'.bg.length).flatMap (mX s'.bg fv)++u1).toArray t1 (0,0)⟩::(F'.Br++(lits (cO a b) (cO a b) (c9 k (cd s'))++(F0.B++(F'.Bf++R))))) w':=S3;have S4:=S3'.perm (bs':=F'.Br++(⟨i1,false,.cells ((bw s'.bg.length).flatMap (mX s'.bg fv)++u1).toArray t1 (0,0)⟩::(lits (cO a b) (cO a b) (c9 k (cd s'))++(F0.B++(F'.Bf++R))))) (ij λf=>by simp only[iI,AP];omega);obtain⟨i2,t2,u2,q2,S5⟩:=aeg (k:=k) F'.hr S4 (by simp[lr]) (aee s'.bH).symm
 let r:TR:=⟨F'.xs,F'.cs,t1,u1,fv,F'.xr,F'.cr,t2,u2⟩
 refine⟨_,_,F0,F'.Bf,_,[i1,i2],rfl,?_,rfl,hT _ rfl r F'.Bf F0 v1 v2 NY,?_⟩
 ·simp only[TR.v,Wa,IP,aX.vs,aX.vr,den,ai,cl];have e1:Value.slice F'.xs (aU k s').bg.length F'.cs=_:=q1;have e2:Value.slice F'.xr (aU k s').bH.length F'.cr=_:=q2;rw[e1,e2];rfl
 ·have e1:lits [i1,i2] [i1,i2] [r.sB s',r.rB s']=[⟨i1,false,.cells ((bw s'.bg.length).flatMap (mX s'.bg fv)++u1).toArray t1 (0,0)⟩,⟨i2,false,.cells ((bw s'.bH.length).flatMap (CK s'.bH)++u2).toArray t2 (0,0)⟩]:=by
   simp only[lits,aD,TR.rB,TR.sB,aef,r];rfl
  rw[e1];have S6:St ms w0 (⟨i2,false,.cells ((bw s'.bH.length).flatMap (CK s'.bH)++u2).toArray t2 (0,0)⟩::(⟨i1,false,.cells ((bw s'.bg.length).flatMap (mX s'.bg fv)++u1).toArray t1 (0,0)⟩::(lits (cO a b) (cO a b) (c9 k (cd s'))++(F0.B++(F'.Bf++R))))) w':=S5;refine S6.perm ?_;exact ij λf=>by simp only[iI,AP,AR];omega
structure eQ (k:LK) (s:Sd.aa):Prop where
 i:Sd.Inv s.c
 x:Sd.Ext s.c
 key:∀i,i<4->1<=k.kn i/\k.kn i<=64
 ke:∀i,i<4->s.c.p.k i=(k.kn i,k.kf i)
 e1:s.bg=[]
 e2:s.bH=[]
theorem eQ.rm {k:LK} {s:Sd.aa} (h:eQ k s) (n:Nat) (hn:n<=1000):Rm s n:=⟨by rw[h.e1];simpa using hn,by rw[h.e2];simpa using hn⟩
theorem eQ.tb {k:LK} {s:Sd.aa} (h:eQ k s):TB s.c.t:=⟨h.i.tok.aG,h.i.ln⟩
theorem eQ.tk {k:LK} {s:Sd.aa} (h:eQ k s):TkP s where
 c:=⟨h.i.p,h.tb,h.x.t.oa.1,h.x.t.oa.2,h.x.t.la.1,h.x.t.la.2,by rcases h.i.tok.offer with e|e<;>omega,
  λa ha=>by
   obtain⟨_,h1,h2,_,_,h3,h4,h5⟩:=h.i.q.each a ha;have:=h.i.p.ask;exact⟨⟨by omega,by omega⟩,⟨by omega,by omega⟩,⟨by omega,by omega⟩⟩,
  ⟨h.x.pt.aT.1,h.x.pt.aT.2.1,h.x.pt.aT.2.2.1,h.x.pt.aT.2.2.2,h.x.pt.now.1,h.x.pt.now.2.1,h.x.pt.now.2.2.1,h.x.pt.now.2.2.2⟩⟩
 r:=h.rm 28 (by decide)
 h:=h.x.af.hi
 b:=⟨h.x.af.st,h.x.af.ss 0,h.x.af.ss 1,h.x.af.ss 2⟩
def Wb (C:Sd.aK):LM fr:=λar k s F K=>match ar with
 |[]=>(eQ k s/\da=F.vs/\da=F.vr)/\I1 k (s.tick C) K
 |_=>False
def fF (C:Sd.aK) (s:Sd.aa) (l code:Int) (n:Nat) (f:Sd.ao):Sd.aa:=if 1<=l/\l<=3 then s.item C l code n f else s
def aei (C:Sd.aK):LM fr:=λar k s F K=>match ar with
 |[.int .i64 l,.agg [.int .i64 code,.raw vp]]=>(eQ k s/\da=F.vs/\da=F.vr/\vp=eU k/\k.pn<=58/\By k.pf)/\I1 k (fF C s l code k.pn k.pf) K
 |_=>False
theorem aej {k:LK} {s:Sd.aa} {F:aX fr (aU k s)} (hq:s.c.p.queue=k.most) (h1:da=F.vs) (h2:da=F.vr):VU k s F:=⟨h1,h2,rfl,rfl,rfl,rfl,rfl,hq⟩
section
variable(k:LK) (s:Sd.aa) (F:aX fr (aU k s)) (Kb:(s':Sd.aa)->aX fr (aU k s')->Prop)
end
end Go.Proofs.YtggfpcggakghnaaGreatDoor
namespace Go.Proofs.YtggfpcggakghnaaGreatDoor
section
open Go Go.RowKit Go.BigFrame Sx Vx
variable{fr:Sd.aF->Nat×Sd.ao}
section
variable(ht:Body (fr:=fr) 147 dY)
include ht
theorem atH:CI (fr:=fr) 23 (λ_=>Wb (aq ay)):=by
 refine aeh (n:=60) (asV ht) ?_;intro u ar k s F Kb h0 hq hM;unfold Wb at hM;split at hM
 ·rw[asY];exact⟨aej hq hM.1.2.1 hM.1.2.2,nD (M:=IN (aq ay)) ⟨hM.1.1.tk,λF'=>⟨_,F',rfl,rfl,rfl,hM.2⟩⟩⟩
 ·exact hM.elim
theorem atI:CI (fr:=fr) 24 (λ_=>aei (aq ay)):=by
 refine aeh (n:=60) (asW ht) ?_;intro u ar k s F Kb h0 hq hM;unfold aei at hM;split at hM
 ·rename_i l code vp;have hC:=hM.1.1;have v1:=hM.1.2.1;have v2:=hM.1.2.2.1;have p1:=hM.1.2.2.2.2.1;have p2:=hM.1.2.2.2.2.2;have hT:=hM.2;rw[hM.1.2.2.2.1,asZ];unfold adU;have rQ:¬(1<=l/\l<=3)->E0 k s (λs' F'=>I1 k s' Kb) (.agg (IP s da da)) (c9 k s) [bj k s F]:=λh=>⟨s,F,by rw[<-v1,<-v2],rfl,rfl,by unfold fF at hT;rw[if_neg h]at hT;exact hT⟩;refine aM (λe1=>aM (λe2=>?_) (λe2=>rQ (by simp at e1 e2;omega))) (λe1=>rQ (by simp at e1;omega));have hl:1<=l/\l<=3:=by simp at e1 e2;omega
  unfold fF at hT;rw[if_pos hl]at hT;have hd:∀i,i<3->(s.c.doors i).many<=9223372036854775807:=λi _=>by have:=hC.x.d i;omega
  exact⟨aej hq v1 v2,nD (M:=IJ (aq ay)) ⟨⟨rfl,⟨hC.rm 8 (by decide),hC.i,hl,hd,hC.key,hC.ke,p1,p2⟩⟩,λF'=>⟨_,F',rfl,rfl,rfl,hT⟩⟩⟩
 ·exact hM.elim
end
def uf (l:List Sd.Ask) (j:Nat):List ae:=[.int .i64 (l.getD j default).source]
theorem aek:∀(l:List Sd.Ask) (ids:List Nat),(bw l.length).flatMap (uf l)=ai ids (ub l)
 |[],_=>rfl
 |r::l,ids=>by
  rw[h_,vU,List.flatMap_cons,List.flatMap_map];have e:(λj=>uf (r::l) (Nat.succ j))=uf l:=by funext j;rfl
  rw[e,aek l ids];rfl
def atJ (k:LK) (s:Sd.aa) (F:aX fr (aU k s)) (K:IZ fr k):Prop:=
 ∀(x:Option aQ) (c ty:Nat) (us:List ae),K (.agg (ua s (.gp 0 0 s.c.q.length c x))) s F [] [Af ty 1 s.c.q.length (uf s.c.q) us]
def NZ:LM fr:=λar k s F K=>match ar with
 |[]=>atJ k s F K
 |_=>False
theorem atK (l:List Sd.Ask) (u:List ae):bM 0 [CE l u]=true:=by
 have:∀l:List Sd.Ask,bo 0 (ub l++[.rest u])=true:=by
  intro l;induction l with
  |nil=>rfl
  |cons a l ih=>simp only[ub,fe,bo,cR,ih,Bool.and_self]
 simp only[bM,CE,this,Bool.and_self]
theorem xS {Q:Prop} (hq:Q):∀(n j:Nat),n+j<=5->NM n j Q
 |0,_,_=>hq
 |n+1,j,h=>⟨trivial,⟨by omega,by omega⟩,trivial,trivial,xS hq n (j+1) (by omega)⟩
theorem ael (ht:Body (fr:=fr) 147 dY):CI (fr:=fr) 14 (λ_=>NZ (fr:=fr)):=by
 intro u0 ar k s F Kb a b R0 ms w0 w h0 hq hM S;generalize hR:dR u0++R0=R at S⊢;unfold NZ at hM;split at hM
 ·have hg:Gl gS (cO a b):=by
   intro g i dN;unfold gS at dN;split at dN
   ·obtain rfl:=cG dN;exact⟨by simp,rfl⟩
   ·obtain rfl:=cG dN;exact⟨by simp,rfl⟩
   ·cases dN
  let K:VK (Gh fr):=λv bl ch=>ch=[bj k s F]/\((s.c.q=[]/\v=.agg (ua s (.raw da))/\bl=c9 k s)\/(s.c.q≠[]/\∃c u,v=.agg (ua s (.sl 4 0 s.c.q.length c))/\bl=c9 k s++[CE s.c.q u]))
  have k0:s.c.q=[]->K (.agg (ua s (.raw da))) (c9 k s) [bj k s F]:=λe=>⟨rfl,.inl ⟨e,rfl,rfl⟩⟩;have k1:s.c.q≠[]->∀c u,K (.agg (ua s (.sl 4 0 s.c.q.length c))) (c9 k s++[CE s.c.q u]) [bj k s F]:=λe c u=>⟨rfl,.inr ⟨e,c,u,rfl,rfl⟩⟩;have cS:br (fW prog gS (L8 fr (aq ay)) (GY prog) Lw) 60 14 [.ptr 2 0] (c9 k s) [bj k s F] (bA 4 K):=by
   rw[as2];refine⟨rfl,λe x c=>xS (k0 e) 5 0 (by decide),λa1 e c t c1 u1 _ _=>?_,λa1 b1 e c t c1 u1 h1 h2=>?_,λa1 b1 d1 e c t c1 u1 h1 h2=>?_⟩
   ·have:=k1 (by rw[e];simp) c1 u1;rw[e]at this;exact xS this 5 0 (by decide)
   ·have hk:=k1 (by rw[e];simp);rw[e]at hk;exact⟨⟨h1,h2⟩,λc2 u2 _ _=>xS (hk c2 u2) 5 0 (by decide),λc2 u2 _ _=>xS (hk c2 u2) 5 0 (by decide)⟩
   ·have hk:=k1 (by rw[e];simp);rw[e]at hk;exact⟨⟨h1,h2⟩,λc2 u2 g1 g2=>⟨⟨g1,g2⟩,λc3 u3 _ _=>xS (hk c3 u3) 5 0 (by decide),λc3 u3 _ _=>xS (hk c3 u3) 5 0 (by decide)⟩,λc2 u2 g1 g2=>⟨⟨g1,g2⟩,λc3 u3 _ _=>xS (hk c3 u3) 5 0 (by decide),λc3 u3 _ _=>xS (hk c3 u3) 5 0 (by decide)⟩⟩
  refine(eO (EO ay ht).T (EO ay ht).Q 60 (C:=fW prog gS (L8 fr (aq ay)) (GY prog) Lw) (ids:=cO a b) (bl:=c9 k s) (ch:=[bj k s F]) (R:=R) (ms:=ms) (w0:=w0) (w:=w) hg rfl (by
   have e:aC [bj k s F] R=F.B++R:=rfl;rw[e];exact S) cS).mono ?_
  rintro v w' ⟨x,more,bl',ch',rfl,h1,S',hK⟩;obtain⟨v2,cJ,bl2,hv,dv,S2,rfl,qA⟩:=iB (n0:=4) h1 (by simp) S' hK;have Wc:(cO a b++more).take 4=cO a b:=rfl;rw[Wc]at hv dv S2;have eR:aC [bj k s F] R=F.B++R:=rfl;rw[eR]at S2;rw[hv];have j9:∀(i ty:Nat) (us:List ae),lits [i] [i] [Af ty 1 s.c.q.length (uf s.c.q) us]=[⟨i,false,.cells ((bw s.c.q.length).flatMap (uf s.c.q)++us).toArray ty (0,0)⟩]:=λi ty us=>by
   simp only[lits,aD,aef];rfl
  rcases qA with⟨e,rfl,rfl⟩|⟨e,c,u,rfl,rfl⟩
  ·obtain rfl:cJ=[]:=nf (by simpa[c9]using dv);refine⟨_,s,F,[],_,[1],rfl,?_,rfl,hM none 0 k.tg (ai [] (cw k).c),?_⟩
   ·simp only[ua,oz,zJ,den,ai,cl,cH,fe,fi,e];rfl
   ·simp only[cH]at S2;have S3:=S2.dup (b:=aD [0] 1 (cw k)) (by
     refine pJ _ ?_;rw[nC (ids':=cO a b) (Ic k)];exact De) rfl
    rw[j9];have e2:(⟨1,false,.cells ((bw s.c.q.length).flatMap (uf s.c.q)++ai [] (cw k).c).toArray k.tg (0,0)⟩:aj)=aD [0] 1 (cw k):=by
     rw[e,nC (ids':=[]) (Ic k)];rfl
    rw[e2];exact S3.perm jU.symm
  ·match cJ,dv with
   |[x],_=>
    refine⟨_,s,F,[],_,[x],rfl,?_,rfl,hM none c 3 u,?_⟩
    ·have hn:az s.c.q.length 0=false:=by
      cases hb:az s.c.q.length 0 with
      |false=>rfl
      |true=>exact absurd (nf (cz hb)) e
     have hg4:(cO a b++[x]).getD 4 0=x:=rfl;have N0:([x]:List Nat).getD 0 0=x:=rfl;simp only[ua,oz,zJ,den,ai,cl,cH,fe,fi,hn,cond_false,hg4,N0];rfl
    ·have e2:lits (cO a b++[x]) (cO a b++[x]) (c9 k s++[CE s.c.q u])=lits (cO a b) (cO a b) (c9 k s)++[⟨x,true,.cells ((bw s.c.q.length).flatMap (uf s.c.q)++u).toArray 3 (0,0)⟩]:=by
      rw[fC _ _ _ _ rfl,fD (ids:=cO a b) (more:=[x]) (cO a b) (c9 k s) rfl,Ae (ids':=[x]) [x] _ (atK _ _)];simp only[lits,aD,CE,iV,ai,cl,cH,aek s.c.q [x]]
     rw[e2]at S2;have S3:=(S2.perm (bs':=⟨x,true,.cells ((bw s.c.q.length).flatMap (uf s.c.q)++u).toArray 3 (0,0)⟩::(lits (cO a b) (cO a b) (c9 k s)++(F.B++R))) (ij λf=>by simp only[iI,AP,AR];omega)).mf;rw[j9];exact S3.perm (ij λf=>by simp only[iI,AP,AR];omega)
   |[],h=>simp[c9]at h
   |_::_::_,h=>simp[c9]at h
 ·exact hM.elim
theorem atL (d:Fd) (h:(∃i,i<4/\d=fX i)\/∀v m,(d.set v m).x=m.x):∀v,d.low<=v->v<=d.high->∀m:Sd.a9,Sd.py m.x->Sd.py (d.set v m).x:=by
 intro v h1 h2 m hm;rcases h with⟨i,hi,rfl⟩|h
 ·have hv:Sd.Bd v:=⟨by have:(-32768:Int)<=v:=h1;omega,by have:v<=(32767:Int):=h2;omega⟩;have:i=0\/i=1\/i=2\/i=3:=by omega
  rcases this with rfl|rfl|rfl|rfl
  ·exact⟨hv,hm.2.1,hm.2.2.1,hm.2.2.2⟩
  ·exact⟨hm.1,hv,hm.2.2.1,hm.2.2.2⟩
  ·exact⟨hm.1,hm.2.1,hv,hm.2.2.2⟩
  ·exact⟨hm.1,hm.2.1,hm.2.2.1,hv⟩
 ·rw[h];exact hm
theorem atM {n:Nat} {f:Nat->Int} {m:Sd.a9} (h:ay n f=some m):Sd.py m.x:=by
 unfold ay at h;split at h
 ·cases h
 split at h
 ·rename_i l hl;refine NA (λm=>Sd.py m.x) l 1 _ m ?_ Sd.IU h;intro d hd;refine atL d ?_;have fx:∀i,i<4->(∃j,j<4/\fX i=fX j)\/∀v m,((fX i).set v m).x=m.x:=λi hi=>.inl ⟨i,hi,rfl⟩;have b0:=fx 0 (by decide);have b1:=fx 1 (by decide);have b2:=fx 2 (by decide);have b3:=fx 3 (by decide)
  have fo:∀d:Fd,(∀v m,(d.set v m).x=m.x)->(∃i,i<4/\d=fX i)\/∀v m,(d.set v m).x=m.x:=λd h=>.inr h;have a1:=fo vf λ_ _=>rfl;have a2:=fo iD λ_ _=>rfl;have a3:=fo zN λ_ _=>rfl;have a4:=fo nA λ_ _=>rfl;have a5:=fo xw λ_ _=>rfl;have a6:=fo vg λ_ _=>rfl;have a7:=fo zO λ_ _=>rfl
  unfold pj at hl
  repeat' split at hl
  all_goals first|(cases hl;done)|(obtain rfl:=cG hl;simp at hd;rcases hd with rfl|rfl|rfl|rfl|rfl|rfl|rfl<;>assumption)|(obtain rfl:=cG hl;simp at hd;rcases hd with rfl|rfl|rfl|rfl|rfl|rfl<;>assumption)|(obtain rfl:=cG hl;simp at hd;rcases hd with rfl|rfl|rfl|rfl|rfl<;>assumption)|(obtain rfl:=cG hl;simp at hd;rcases hd with rfl|rfl|rfl|rfl<;>assumption)|(obtain rfl:=cG hl;simp at hd;rcases hd with rfl|rfl|rfl<;>assumption)|(obtain rfl:=cG hl;simp at hd;rcases hd with rfl|rfl<;>assumption)|(obtain rfl:=cG hl;simp at hd;subst hd;assumption)|(obtain rfl:=cG hl;simp at hd)
 ·cases h
section
variable{k:LK} {s:Sd.aa} {b:Prop}
theorem Wd {C:Sd.aK} {s':Sd.aa} {kind l:Int} (e:Sd.fI C b s s' kind l):s'.c.p=s.c.p:=by
 rcases e.B8 with h|⟨how,h,_⟩
 ·exact h.p
 ·exact h.p
theorem eQ.of {C:Sd.aK} {s':Sd.aa} {kind l:Int} (h:eQ k s) (e:Sd.fI C b s s' kind l) (x:Sd.Ext s'.c):eQ k (cd s'):=⟨e.1,x,h.key,λi hi=>by show s'.c.p.k i=_;rw[Wd e];exact h.ke i hi,rfl,rfl⟩
theorem eQ.tick (h:eQ k s):eQ k (cd (s.tick (aq ay))):=h.of (b:=False) (Sd.ad2 h.i).1 (Sd.atD h.i h.x)
theorem eQ.yL (h:eQ k s) (x:Bool):eQ k (cd (s.yL (aq ay) x)):=h.of (b:=False) (Sd.as7 h.i) (Sd.atx h.x)
theorem eQ.l5 (h:eQ k s) {x:Sd.n9} (hx:Sd.py x.x):eQ k (cd (s.l5 (aq ay) x)):=h.of (b:=False) (Sd.as5 h.i) (Sd.atv hx h.i.p h.x)
theorem eQ.item (h:eQ k s) (l code:Int) (n:Nat) (f:Sd.ao):eQ k (cd (fF (aq ay) s l code n f)):=by
 unfold fF;split
 ·rename_i hl;exact h.of (b:=False) (Sd.acd EW h.i hl (λe=>e.elim)) (Sd.atu (λ_ _ _ hm=>atM hm) hl h.i.p h.x)
 ·exact⟨h.i,h.x,h.key,h.ke,rfl,rfl⟩
end
def fb (u:ag) (a:Option aQ):Sd.ao:=λj=>match a with
 |some x=>(match u.cell? (x.add j)with|some (.int _ v)=>if 0<=v/\v<=255 then v else 0|_=>0)
 |none=>0
theorem atN {u:ag} {a:Option aQ} {n c:Nat} {f:Nat->Int} (h:kE u a n c f) (hb:∀j,j<n->0<=f j/\f j<=255):kE u a n c (fb u a):=by
 refine⟨h.1,h.2.1,λx e j hj=>?_⟩;have hc:=h.2.2 x e j hj;have:fb u a j=f j:=by
  unfold fb;rw[e];simp only[hc];rw[if_pos (hb j hj)]
 rw[this];exact hc
def mY:Sd.ao:=λ_=>0
def dF (n d:Nat) (f:Sd.ao):VB:=⟨true,⟨5,(0,0)⟩,[.bS .u8 n f,.bS .u8 d mY]⟩
theorem xT (ids:List Nat) (n d:Nat) (f:Sd.ao):(ai ids (dF n d f).c).toArray=bI n f (n+d):=by
 have e:(bw d).map (λj=>eA .u8 (mY j))=nh d (.int .u8 0):=by
  show(bw d).map (λ_=>eA .u8 0)=_;rw[List.map_const'];simp
 simp only[dF,ai,cl,bI,b9,cH,e];rw[show n+d-n=d by omega]
theorem atO {u w:ag} {B:List aj} {ms:List Nat} {w0:ag} (S:St ms w0 B w) (h:∀y∈dR u,y∈B) {x:aQ} {v:ae} (hc:u.cell? x=some v):w.cell? x=some v:=by
 unfold yq at hc⊢;split at hc
 ·rename_i cs ty fr' hb;have:=S.at' (h _ (LV hb));simp only at this;rw[this];exact hc
 ·cases hc
theorem aem {u w:ag} {B:List aj} {ms:List Nat} {w0:ag} (S:St ms w0 B w) (h:∀y∈dR u,y∈B) {a:Option aQ} {n c:Nat} {f:Nat->Int} (hk:kE u a n c f):kE w a n c f:=
 ⟨hk.1,hk.2.1,λx e j hj=>atO S h (hk.2.2 x e j hj)⟩
theorem We {w:ag} {m:Nat} {g:Nat->Int} {x:Option aQ} {t tx ty:aJ} {xv:ae} (hs:Src prog 1 tx xv m (b9 m g) w) (ht:prog.underlying t=some (.slice 5)) (hm:0<m) (hb:m<=140737488355328) (x:aQ):
 ∃c' w',(nU #[t,tx] ty #[.slice (some x) 0 0,xv]).run prog w=.ok (.slice (some ⟨w.heap.size,0,none⟩) m c') w'/\Ch [] w w'/\m<=c'/\w'.heap[w.heap.size]?=some (.cells (bI m g c') 5 (0,0)):=by
 have hi:(prog.info? 5).map (λi=>(i.zero.map (·.cells),i.size,i.bytes))=some (some #[.int .u8 0],1,1):=by kernel_rfl
 obtain⟨i,cu,hi⟩:=im.1 hi;simp only[bC]at hi;obtain⟨hz,dM,iK⟩:=hi;obtain⟨z0,lW,nY⟩:=im.1 hz;have jA:Src prog i.size tx xv m (b9 m g) w:=by rw[dM];exact hs
 have hold:(Builtin.firstCells i.size 0 (.slice (some x) 0 0)).run prog w.drew=.ok (([]:List ae).toArray) w.drew:=
  run_firstCells_some (P:=prog) w.drew i.size 0 x 0 0 [] (by rw[Nat.zero_mul];rfl) (λj v hj=>nomatch hj)
 have bQ:=run_append_grow_src (P:=prog) w t tx ty 5 i z0 ht cu lW (some x) 0 0 [] hold xv m (b9 m g) jA (by omega) (by omega) (by rw[iK];exact growslice_fits (by omega) (by omega));have eG:=grownCap_ge w (0+m) 0 5;rw[eY]at bQ eG;refine⟨_,_,bQ,((Ch.refl [] w).drew).trans (Ch.alloc [] w.drew _) (λx hx=>.inl hx),eG,?_⟩;have:=nT w.drew (.cells (([]++b9 m g).toArray++oQ z0.cells (grownCap w m 0 5-m)) 5);refine Eq.trans this ?_;congr 2;apply fM;rw[nY,Array.toList_append,KE];rfl
theorem atP {w:ag} {g:Nat->Int} {t tx ty:aJ} {xv:ae} (hs:Src prog 1 tx xv 0 (b9 0 g) w) (ht:prog.underlying t=some (.slice 5)) (x:aQ):
 (nU #[t,tx] ty #[.slice (some x) 0 0,xv]).run prog w=.ok (.slice (some x) 0 0) w:=by
 have hi:(prog.info? 5).map (λi=>(i.zero.map (·.cells),i.size,i.bytes))=some (some #[.int .u8 0],1,1):=by kernel_rfl
 obtain⟨i,cu,hi⟩:=im.1 hi;simp only[bC]at hi;obtain⟨hz,dM,iK⟩:=hi;exact run_append_nothing (P:=prog) w t tx ty 5 i ht cu (some x) 0 0 (dH _) xv (by rw[dM];exact hs)
def E8 (k:LK) (x:Option aQ) (n c:Nat) (f:Sd.ao):LK:={k with px:=x,pn:=n,pc:=c,pf:=f}
def oG (k:LK):Prop:=k.px=none/\k.pn=0/\k.pc=0
theorem atQ {k:LK} {s:Sd.aa} (F:aX fr (aU k s)) (h:oG k) {b n c:Nat} {f:Sd.ao} (hle:n<=c):∃F1:aX fr (aU (E8 k (some ⟨b,0,none⟩) n c f) s),F1.vs=F.vs/\F1.vr=F.vr/\F1.B=F.B++[⟨b,true,.cells (bI n f c) 5 (0,0)⟩]:=by
 refine⟨⟨F.xs,F.cs,F.xr,F.cr,F.Bq,F.Br,F.Bs,F.Bf,F.Bk++[⟨b,true,.cells (bI n f c) 5 (0,0)⟩],F.so,F.hq,F.hr,F.hs,F.hf,?_⟩,rfl,rfl,?_⟩
 ·obtain⟨b0,b1,b2,b3,b4,hB,h0,h1,h2,h3,h4⟩:=F.hk;have e4:b4=[]:=by
   rcases h4.2 with⟨_,_,_,e⟩|⟨y,e,_⟩
   ·exact e
   ·have:k.px=some ⟨y,0,none⟩:=e;rw[h.1]at this;cases this
  subst e4;exact⟨b0,b1,b2,b3,[⟨b,true,.cells (bI n f c) 5 (0,0)⟩],by rw[hB];simp,h0,h1,h2,h3,hle,.inr ⟨b,rfl,rfl⟩⟩
 ·simp only[aX.B,bU]
theorem atS {k:LK} {s:Sd.aa} (h:oG k) {b n c:Nat} {f:Sd.ao} (F1:aX fr (aU (E8 k (some ⟨b,0,none⟩) n c f) s)):∃F:aX fr (aU k s),F.vs=F1.vs/\F.vr=F1.vr/\F1.B=F.B++[⟨b,true,.cells (bI n f c) 5 (0,0)⟩]:=by
 obtain⟨b0,b1,b2,b3,b4,hB,h0,h1,h2,h3,h4⟩:=F1.hk;have e4:b4=[⟨b,true,.cells (bI n f c) 5 (0,0)⟩]:=by
  rcases h4.2 with⟨e,_,_,_⟩|⟨y,e,e2⟩
  ·cases e
  ·have:(some ⟨b,0,none⟩:Option aQ)=some ⟨y,0,none⟩:=e;obtain rfl:b=y:=by simpa using this
   exact e2
 subst e4;refine⟨⟨F1.xs,F1.cs,F1.xr,F1.cr,F1.Bq,F1.Br,F1.Bs,F1.Bf,b0++(b1++(b2++(b3++[]))),F1.so,F1.hq,F1.hr,F1.hs,F1.hf,⟨b0,b1,b2,b3,[],rfl,h0,h1,h2,h3,by show k.pn<=k.pc;rw[h.2.1,h.2.2];exact dH _,.inl ⟨h.1,h.2.1,h.2.2,rfl⟩⟩⟩,rfl,rfl,?_⟩;simp only[aX.B,hB,bU,cH]
def N1 (C:Sd.aK):dc (LG fr):=λargs bl ch K=>match args,ch with
 |[.ptr ic 0,.int .i64 l,.agg [.int .i64 code,.sl ip 0 n c]],.a_ u::.core g fB::rest=>(match bl[ip]?with
  |some ⟨true,⟨5,(0,0)⟩,[.bS .u8 n' f,.bS .u8 d z]⟩=>(match bl[ic]?with
   |some ⟨true,⟨105,(0,0)⟩,cc⟩=>(match Ce cc with
    |some x=>(match bl[x.it]?with
     |some ⟨true,⟨157,(0,0)⟩,tc⟩=>(match sw tc with
      |some y=>cond (bM bl.length bl&&(cD 1 ip&&(cD 1 ic&&(cD 1 x.it&&(!(az ic x.it)&&(!(az ic ip)&&!(az x.it ip)))))))
       ((bl[0]?=some (cw g.d.k)/\bl[1]?=some (iQ g.d.k)/\x=mg g.d.k x.it (fG x y g.d g.dx g.sx)/\y.b=x.p.bV/\y.m=x.p.fj/\x.p.queue=g.d.k.most)/\
         (n'=n/\n+d=c/\z=mY)/\oG g.d.k/\(eQ g.d.k (fG x y g.d g.dx g.sx)/\da=g.F.vs/\da=g.F.vr/\n<=58/\By f)/\
         I1 g.d.k (fF C (fG x y g.d g.dx g.sx) l code n f) λvv s' F' fn ex=>K (hU bl.length vv) (eW bl ic x.it g.d.k s'++ex) (.a_ u::.core (bj g.d.k s' F') (fn++fB)::rest)) False
      |none=>False)
     |_=>False)
    |none=>False)
   |_=>False)
  |_=>False)
 |_,_=>False
theorem aen (ht:Body (fr:=fr) 147 dY):Sound prog gS 24 (N1 (fr:=fr) (aq ay)):=by
 intro args ids bl ch R ms w0 w K hg hl S hc;unfold N1 at hc;split at hc
 ·rename_i ic l code ip n c u g fB rest;split at hc
  ·rename_i n' f d z xU;split at hc
   ·rename_i cc rM;split at hc
    ·rename_i x hx;split at hc
     ·rename_i tc vj;split at hc
      ·rename_i y hy;cases hq:bM bl.length bl&&(cD 1 ip&&(cD 1 ic&&(cD 1 x.it&&(!(az ic x.it)&&(!(az ic ip)&&!(az x.it ip))))))with
       |false=>rw[hq]at hc;exact hc.elim
       |true=>
        rw[hq]at hc;simp only[bu,my,iG]at hq;obtain⟨qw,q1,q2,q3,q4,q5,q6⟩:=hq;have nb:∀{a b:Nat},az a b=false->a≠b:=λh e=>by rw[e,sY]at h;cases h
        have n4:=nb q4;have n5:=nb q5;have n6:=nb q6;obtain⟨⟨e3,e4,e5,e6,e7,e8⟩,⟨rfl,rfl,rfl⟩,E9,⟨hC,v1,v2,p1,p2⟩,hT⟩:=hc;obtain rfl:=Ia hx;obtain rfl:=xC hy;have H:CJ bl ic x.it g.d.k (fG x y g.d g.dx g.sx):=by
         refine⟨e3,e4,?_,?_⟩
         ·rw[rM];congr 1;unfold g_;rw[<-e5]
         ·rw[vj];congr 1;unfold gM;have:y=vi (fG x y g.d g.dx g.sx):=by
           obtain⟨y1,y2,y3,y4,y5,y6,y7,y8⟩:=y;simp only at e6 e7;subst e6 e7;rfl
          rw[<-this]
        have l1:=iZ xU;have l2:=iZ H.hc;have l3:=iZ H.ht;obtain⟨r,hr,hp⟩:=zW (bl:=bl) (ids:=ids) hl (is:=[0,1,ic,x.it,ip]) (by simp;omega) (by
         intro i hi;simp only[cn,pN,or_false]at hi;rcases hi with rfl|rfl|rfl|rfl|rfl<;>omega)
        have emp:∀(bl':List VB),[0,1,ic,x.it,ip].map (λj=>aD ids (ids.getD j 0) (bl'.getD j dk))=([0,1,ic,x.it].map λj=>aD ids (ids.getD j 0) (bl'.getD j dk))++[aD ids (ids.getD ip 0) (bl'.getD ip dk)]:=λ_=>rfl;have I2:aD ids (ids.getD ip 0) (dF n' d f)=⟨ids.getD ip 0,true,.cells (bI n' f (n'+d)) 5 (0,0)⟩:=by
         unfold aD;rw[xT];rfl
        have gE:=hp bl rfl;rw[emp,E7 H hg,iY (show bl[ip]?=some (dF n' d f)from xU)]at gE;obtain⟨F1,f1,f2,f3⟩:=atQ (k:=g.d.k) (s:=fG x y g.d g.dx g.sx) g.F E9 (b:=ids.getD ip 0) (f:=f) (yv n' d);have S1:=S.perm (bs':=lits (cO (ids.getD ic 0) (ids.getD x.it 0)) (cO (ids.getD ic 0) (ids.getD x.it 0)) (c9 g.d.k (fG x y g.d g.dx g.sx))++(F1.B++(dR u++((r.map λj=>aD ids (ids.getD j 0) (bl.getD j dk))++(fB++aC rest R))))) (by
         refine(gE.append_right _).trans ?_;rw[show F1.B=aX.B (d:=g.d) g.F++[⟨ids.getD ip 0,true,.cells (bI n' f (n'+d)) 5 (0,0)⟩]from f3,<-I2];show(_++(dR u++((g.F.B++fB)++aC rest R))).Perm _;exact ij λf=>by simp only[iI];omega)
        have hC':eQ (E8 g.d.k (some ⟨ids.getD ip 0,0,none⟩) n' (n'+d) f) (fG x y g.d g.dx g.sx):=⟨hC.i,hC.x,hC.key,hC.ke,hC.e1,hC.e2⟩;have Ie:=atI ht u [.int .i64 l,.agg [.int .i64 code,.raw (eU (E8 g.d.k (some ⟨ids.getD ip 0,0,none⟩) n' (n'+d) f))]] (E8 g.d.k (some ⟨ids.getD ip 0,0,none⟩) n' (n'+d) f) (fG x y g.d g.dx g.sx) F1
         (λvv s' N2 fn ex=>da=N2.vs/\da=N2.vr/\∀F':aX fr (aU g.d.k s'),da=F'.vs->da=F'.vr->K (hU bl.length vv) (eW bl ic x.it g.d.k s'++ex) (.a_ u::.core (bj g.d.k s' F') (fn++fB)::rest))
         _ _ _ ms w0 w rfl e8 ⟨⟨hC',by rw[f1];exact v1,by rw[f2];exact v2,rfl,p1,p2⟩,λs2 e2 tr fn F0 w1 w2 hf=>⟨w1,w2,λF' z1 z2=>hT s2 e2 tr fn F' z1 z2 hf⟩⟩ S1
        have cV:aH ids [.ptr ic 0,.int .i64 l,.agg [.int .i64 code,.sl ip 0 n' (n'+d)]]=aH (cO (ids.getD ic 0) (ids.getD x.it 0)) (.ptr 2 0::[.int .i64 l,.agg [.int .i64 code,.raw (eU (E8 g.d.k (some ⟨ids.getD ip 0,0,none⟩) n' (n'+d) f))]]):=rfl;rw[cV];refine Ie.mono ?_;rintro v w' ⟨vv,s',N2,fn,ex,xs,gn,V8,xN,⟨w1,w2,hK⟩,S2⟩;obtain⟨F',g1,g2,g3⟩:=atS E9 N2;refine⟨hU bl.length vv,xs,eW bl ic x.it g.d.k s'++ex,.a_ u::.core (bj g.d.k s' F') (fn++fB)::rest,?_,?_,?_,hK F' (by rw[g1];exact w1) (by rw[g2];exact w2)⟩
        ·rw[<-hl,E6];exact V8.symm
        ·simp[eW,hl,gn]
        ·have H':=V6 H q2 q3 n4 s';have oD:=hp (eW bl ic x.it g.d.k s') (by simp[eW]);have DS:(eW bl ic x.it g.d.k s').getD ip dk=dF n' d f:=by
          have:(eW bl ic x.it g.d.k s')[ip]?=some (dF n' d f):=by
           unfold eW;rw[kO n6,kO n5];exact xU
          exact iY this
         rw[emp,E7 H' hg,DS]at oD;have Cf:(r.map λj=>aD ids (ids.getD j 0) ((eW bl ic x.it g.d.k s').getD j dk))=r.map λj=>aD ids (ids.getD j 0) (bl.getD j dk):=by
          unfold eW;refine V7 ?_;intro j hj;have:=hr j hj;simp only[cn,pN,or_false,not_or]at this;omega
         rw[Cf]at oD;have dv:ids.length=(eW bl ic x.it g.d.k s').length:=by simp[eW,hl]
         have V9:bM ids.length (eW bl ic x.it g.d.k s')=true:=by
          unfold eW;rw[<-hl]at qw l3;refine I0 ?_ _ _ (I0 ?_ _ _ qw)
          ·exact wD (Nat.zero_le _) _ (Ib s')
          ·simp only[g_,EC,mg,bo,cR,bu,iG,Bool.true_and,Bool.and_true];exact l3
         rw[fC _ _ _ _ dv,fD _ _ V9,Ae (ids':=xs) xs ex xN];rw[g3,<-I2]at S2;have S3:St ms w0 (lits (cO (ids.getD ic 0) (ids.getD x.it 0)) (cO (ids.getD ic 0) (ids.getD x.it 0)) (c9 g.d.k s')++(lits xs xs ex++((F'.B++[aD ids (ids.getD ip 0) (dF n' d f)])++(fn++(dR u++((r.map λj=>aD ids (ids.getD j 0) (bl.getD j dk))++(fB++aC rest R))))))) w':=S2;refine S3.perm ?_;show List.Perm _ ((lits ids ids (eW bl ic x.it g.d.k s')++lits xs xs ex)++(dR u++((F'.B++(fn++fB))++aC rest R)));refine Dg ?_ ((oD.symm.append_right _).append_right _);exact ij λf=>by simp only[iI];omega
      ·exact hc.elim
     ·exact hc.elim
    ·exact hc.elim
   ·exact hc.elim
  ·exact hc.elim
 ·exact hc.elim
end
section
open Go Go.RowKit Go.BigFrame Sx Vx
variable{fr:Sd.aF->Nat×Sd.ao}
structure E_ where
 kind:Int
 link:Int
 code:Int
 x:Option aQ
 n:Nat
 c:Nat
 s:Sd.n9
 bad:Bool
def aeo (C:Sd.aK) (u:ag) (s:Sd.aa) (o:E_):Sd.aa:=
 if o.kind.tmod 4=1 then s.l5 C o.s else if o.kind.tmod 4=2 then s.yL C o.bad else if o.kind.tmod 4=3 then s.tick C else fF C s o.link o.code (qe 40 o.n) (fb u o.x)
def N3 (k:LK) (s:Sd.aa):Prop:=some (cw k)=some (cw k)/\some (iQ k)=some (iQ k)/\mg k 3 s=mg k 3 (bP s)/\s.c.p.bV=s.c.p.bV/\s.c.p.fj=s.c.p.fj/\s.c.p.queue=k.most
section
variable(C:Sd.aK) (k:LK) (s:Sd.aa) (F:aX fr (aU k s)) (u:ag) (fB:List aj) (o:E_) (X:VK (LG fr))
end
theorem eQ.step {k:LK} {s:Sd.aa} (h:eQ k s) (u:ag) (o:E_) (hx:Sd.py o.s.x):eQ k (cd (aeo (aq ay) u s o)):=by
 unfold aeo;split
 ·exact h.l5 hx
 split
 ·exact h.yL _
 split
 ·exact h.tick
 ·exact h.item _ _ _ _
end
section
open Go Go.RowKit Go.BigFrame Sx Vx
section
variable{G:Type} [Bl G]
end
section
variable(n c c':Nat) (y y':Option aQ) (q:Nat->Int) (a b:Bool) (ty ty':BT) (u u':List ae) (K:VK Empty)
end
variable{fr:Sd.aF->Nat×Sd.ao}
def I3 (P:aL):(bh->V)->Op->List VB->List (LG fr)->VK (LG fr)->Prop:=λe op bl ch K=>match op with
 |.call c=>(match c.callee,c.args.toList,c.argTypes.toList with
  |.builtin .append,[s,xs],[t,tx]=>(match P.underlying t,P.underlying tx with
   |some (.slice 5),some (.slice _)=>(match e s,e xs,ch with
    |.sl i 0 0 0,.raw (.slice a m c),.a_ u::rest=>cond (bM bl.length bl) ((kE u a m c (fb u a)/\m<=1000000)/\(m=0->K (.sl i 0 0 0) bl (.a_ u::rest))/\(0<m->∀d:Nat,K (.sl bl.length 0 m (m+d)) (bl++[dF m d (fb u a)]) (.a_ u::rest))) False
    |_,_,_=>False)
   |_,_=>False)
  |_,_,_=>False)
 |_=>False
theorem Wf {gl:Nat->Option Nat}:gv (G:=LG fr) prog gl (I3 prog):=by
 intro e op ids bl ch R ms w0 w K ρ o hg hl S ba ho h;unfold I3 at h;split at h
 ·rename_i c;split at h
  ·rename_i s xs t tx fl cV ei;split at h
   ·rename_i T ht gG;split at h
    ·rename_i i a m c' u rest gV gn;cases hq:bM bl.length bl with
     |false=>rw[hq]at h;exact h.elim
     |true=>
      rw[hq]at h;obtain⟨⟨hk,hm⟩,h0,h1⟩:=h;have wo:∀y∈dR u,y∈lits ids ids bl++aC (.a_ u::rest) R:=λy hy=>by
       refine uy _ ?_;show y∈dR u++aC rest R;exact pJ _ hy
      have gd:=Qb (P:=prog) (⟨hm,aem S wo hk⟩:eJ w a m c' (fb u a)) gG;obtain⟨oe,ar,iO⟩:=c;simp only at fl cV ei;have e2:ar=#[s,xs]:=by rw[<-cV]
      have e3:iO=#[t,tx]:=by rw[<-ei]
      subst fl e2 e3;have iT:ρ s=.slice (some ⟨ids.getD i 0,0,none⟩) 0 0:=by rw[ba,gV];simp only[den]
      have rU:ρ xs=.slice a m c':=by rw[ba,gn];simp only[den]
      by_cases lB:m=0
      ·subst lB;refine⟨_,[],bl,_,w,.inl ?_,by simpa using hl,by simpa using S,h0 rfl⟩;rw[j_ (P:=prog) (ρ:=ρ) (o:=o) ho iT rU (atP (g:=fb u a) gd ht ⟨ids.getD i 0,0,none⟩)];simp only[den,cH]
      ·obtain⟨c2,w2,bQ,cB,hle,I4⟩:=We (g:=fb u a) (x:=a) (ty:=o.type) (t:=t) gd ht (by omega) (by omega) ⟨ids.getD i 0,0,none⟩;have h2:=h1 (by omega) (c2-m);rw[show m+(c2-m)=c2 by omega]at h2;refine⟨_,[w.heap.size],_,_,w2,.inl ?_,by simp[hl],?_,h2⟩
       ·rw[j_ (P:=prog) (ρ:=ρ) (o:=o) ho iT rU bQ];simp only[den];rw[<-hl,kZ]
       ·have e:aD (ids++[w.heap.size]) w.heap.size (dF m (c2-m) (fb u a))=⟨w.heap.size,true,.cells (bI m (fb u a) c2) 5 (0,0)⟩:=by
         unfold aD;rw[xT,show m+(c2-m)=c2 by omega];rfl
        rw[fC _ _ _ _ hl,fD _ _ (by rw[hl];exact hq)];simp only[lits,e];refine(S.new cB (dH _) I4).perm ?_;rw[bU];exact jU.symm
    ·exact h.elim
   ·exact h.elim
  ·exact h.elim
 ·exact h.elim
theorem DV {G:Type} [Bl G] {C:Ctx G} {f n:Nat} {args:List V} {ch0:List G} {K:VK G} (hT:∀f c,C.T f=some c->Sound C.P C.gl f c) (hQ:ql C) (I5:C.gl=de) (cS:br C n f args [] ch0 K)
 {Y:List aj} {ms:List Nat} {w0 w:ag} (S:St ms w0 (aC ch0 Y) w):
 aV C.P f (aH [] args).toArray w λv w'=>∃(x:V) (more:List Nat) (bl':List VB) (ch':List G),v=den more x/\more.length=bl'.length/\St ms w0 (lits more more bl'++aC ch' Y) w'/\K x bl' ch':=
 eO hT hQ n (ids:=[]) (bl:=[]) (λg i h=>by rw[I5]at h;cases h) rfl S cS
theorem aep {G:Type} [Bl G] {C:Ctx G} {f n:Nat} {ids:List Nat} {bl:List VB} {args args':List V} {ch0 rest:List G} {R:List aj} {ms:List Nat} {w0 w:ag} {K:VK G} (hT:∀f c,C.T f=some c->Sound C.P C.gl f c) (hQ:ql C) (I5:C.gl=de) (hl:ids.length=bl.length)
 (hw:bM bl.length bl=true) (ha:aH ids args=aH [] args') (S:St ms w0 (lits ids ids bl++aC (ch0++rest) R) w) (cS:br C n f args' [] ch0 (bA 0 λv b c=>K (hU bl.length v) (bl++xR bl.length b) (c++rest))):
 aV C.P f (aH ids args).toArray w λv w'=>∃x more bl' ch',v=den (ids++more) x/\(ids++more).length=bl'.length/\St ms w0 (lits (ids++more) (ids++more) bl'++aC ch' R) w'/\K x bl' ch':=by
 have S1:St ms w0 (aC ch0 (lits ids ids bl++aC rest R)) w:=S.perm (by
  rw[nt,iX (aC rest R) ch0,iX (lits ids ids bl++aC rest R) ch0];exact ij λf=>by simp only[iI];omega)
 rw[ha];refine(DV hT hQ I5 cS S1).mono ?_;rintro v w' ⟨x,more,bl',ch',rfl,h1,S',hK⟩;obtain⟨v2,cJ,bl2,hv,dv,S2,qA⟩:=iB (n0:=0) h1 (Nat.zero_le _) S' hK;simp only[Yu,fi]at hv dv S2;refine⟨_,cJ,_,_,?_,?_,?_,qA⟩
 ·rw[hv,<-hl,E6]
 ·rw[ft,ft,aea,hl,dv]
 ·rw[fC _ _ _ _ hl,fD _ _ (by rw[hl];exact hw),<-hl,aeb];refine S2.perm ?_;rw[nt,iX (aC rest R) ch',iX (lits ids ids bl++aC rest R) ch'];exact ij λf=>by simp only[iI];omega
theorem atT {ids:List Nat} {args:List V} (ha:bo 0 args=true):aH ids args=aH [] args:=by have:=n_ (ids:=[]) (more:=ids) args ha;simpa using this
def pB (n:Nat):Nat:=if n=0 then 1 else qe 64 n
def jK (n:Nat) (f:Sd.ao):Sd.ao:=if n=0 then λ_=>7 else f
theorem aeq (n:Nat):1<=pB n/\pB n<=64:=by unfold pB qe;split<;>omega
def I6:dc (LG fr):=λargs bl ch K=>match args,ch with
 |[.raw (.slice a n c)],.a_ u::rest=>cond (bM bl.length bl) (kE u a n c (fb u a)/\∀d:Nat,K (.sl bl.length 0 (pB n) (pB n+d)) (bl++[dF (pB n) d (jK n (fb u a))]) (.a_ u::rest)) False
 |_,_=>False
def atU (u:ag) (a:Option aQ) (n c:Nat) (K:VK (LG fr)):Prop:=
 let m:Int:=if(64:Int)<((n:Nat):Int)then 64 else((n:Nat):Int)
 cond ((n:Int)==0) (K (.sl 0 0 1 1) [⟨true,⟨5,(0,0)⟩,[.int .u8 7]⟩] [.a_ u])
  ((0<=m/\m<=(c:Int))/\(kE u a m.toNat c (fb u a)/\m.toNat<=1000000)/\(m.toNat=0->K (.sl 0 0 0 0) [⟨true,⟨5,(0,0)⟩,[]⟩] [.a_ u])/\(0<m.toNat->∀d:Nat,K (.sl 0 0 m.toNat (m.toNat+d)) [dF m.toNat d (fb u a)] [.a_ u]))
theorem atV (u:ag) (a:Option aQ) (n c:Nat) (K:VK (LG fr)):br (fW prog de ([]:List (bR (LG fr))) (I3 prog) Wf) 60 25 [.raw (.slice a n c)] [] [.a_ u] (bA 0 K)=atU u a n c K:=by kernel_rfl
theorem atW {gl:Nat->Option Nat}:Sound prog gl 25 (I6 (fr:=fr)):=by
 intro args ids bl ch R ms w0 w K hg hl S hc;unfold I6 at hc;split at hc
 ·rename_i a n c u rest;cases hq:bM bl.length bl with
  |false=>rw[hq]at hc;exact hc.elim
  |true=>
   rw[hq]at hc;obtain⟨hk,hK⟩:=hc
   let K0:VK (LG fr):=λv b ch=>ch=[.a_ u]/\∃m d,pB n=m/\v=.sl 0 0 m (m+d)/\∃B,b=[B]/\aD [0] 0 B=aD [0] 0 (dF m d (jK n (fb u a)))/\bo 0 B.c=true
   have cS:br (fW prog de ([]:List (bR (LG fr))) (I3 prog) Wf) 60 25 [.raw (.slice a n c)] [] [.a_ u] (bA 0 K0):=by
    rw[atV];refine aM (λe=>?_) (λe=>?_)
    ·have e:n=0:=by simpa using e
     subst e;exact⟨rfl,1,0,rfl,rfl,_,rfl,rfl,rfl⟩
    ·have e:n≠0:=by simpa using e
     have hm:(if(64:Int)<((n:Nat):Int)then 64 else((n:Nat):Int))=((qe 64 n:Nat):Int):=ahm 64 n;rw[hm];have hn:pB n=qe 64 n:=by unfold pB;rw[if_neg e]
     have hf:jK n (fb u a)=fb u a:=by unfold jK;rw[if_neg e]
     have h1:=hk.1;have hle:qe 64 n<=n:=by unfold qe;omega
     have BL:0<qe 64 n:=by unfold qe;omega
     have h64:qe 64 n<=64:=by unfold qe;omega
     refine⟨⟨by omega,by omega⟩,?_⟩;rw[Int.toNat_natCast];exact⟨⟨(hk.cut hle (by omega)).2,by omega⟩,λh0=>absurd h0 (by omega),λ_ d=>⟨rfl,_,d,hn,rfl,_,rfl,by rw[hf],rfl⟩⟩
   rw[atT (ids:=ids) (args:=[.raw (.slice a n c)]) rfl];refine(DV (C:=fW prog de ([]:List (bR (LG fr))) (I3 prog) Wf) (aI.nil (P:=prog) (gl:=de)).T (aI.nil (P:=prog) (gl:=de)).Q rfl cS (Y:=lits ids ids bl++aC rest R) (S.perm (ij λf=>by simp only[aC,iI];show _+(List.countP f (dR u)+_)=List.countP f (dR u)+_;omega))).mono ?_;rintro v w' ⟨x,more,bl',ch',rfl,h1,S',tL⟩;obtain⟨v2,cJ,bl2,hv,dv,S2,rfl,m,d,hm,rfl,B,rfl,hB,hwB⟩:=iB (n0:=0) h1 (Nat.zero_le _) S' tL
   match cJ,dv with
   |[b],_=>
    have hd:=hK d;rw[hm]at hd;refine⟨_,[b],_,_,?_,by simp[hl],?_,hd⟩
    ·rw[hv];have:(ids++[b]).getD bl.length 0=b:=by rw[<-hl];simp[ir]
     simp only[den,this,Yu,fi];rfl
    ·have e1:aD [b] b B=aD (ids++[b]) b (dF m d (jK n (fb u a))):=by
      have q1:aD [b] b B=aD [0] b B:=nC hwB;have q2:aD (ids++[b]) b (dF m d (jK n (fb u a)))=aD [0] b (dF m d (jK n (fb u a))):=nC rfl;rw[q1,q2];unfold aD at hB⊢;simp only[aj.mk.injEq,Obj.cells.injEq]at hB⊢;exact⟨trivial,hB.2⟩
     rw[fC _ _ _ _ hl,fD _ _ (by rw[hl];exact hq)];simp only[Yu,fi,lits]at S2;rw[e1]at S2;refine S2.perm ?_;show List.Perm ([_]++(dR u++(lits ids ids bl++aC rest R))) ((lits ids ids bl++[_])++(dR u++aC rest R));exact ij λf=>by simp only[iI,AP,AR];omega
   |[],h=>simp at h
   |_::_::_,h=>simp at h
 ·exact hc.elim
theorem atX:ia (I6 (fr:=fr)):=by
 intro args bl ch K hc;unfold I6 at hc⊢;split at hc
 ·cases hq:bM bl.length bl with
  |false=>rw[hq]at hc;exact hc.elim
  |true=>rw[hq]at hc;exact⟨hc.1,λd=>⟨hc.2 d,_,rfl⟩⟩
 ·exact hc.elim
def dt (a m:Int):Int:=(i64.wrap (a.tmod m+m)).tmod m
theorem CL (a:Int) {m:Int} (h:0<m) (h2:m<=1000000):0<=dt a m/\dt a m<m:=by
 unfold dt;have h1:=Int.tmod_lt_of_pos a h;have h3:-m<a.tmod m:=by
  have:=Int.lt_tmod_of_pos a h;omega
 have hw:i64.wrap (a.tmod m+m)=a.tmod m+m:=kQ (by omega);rw[hw];exact⟨Int.tmod_nonneg _ (by omega),Int.tmod_lt_of_pos _ h⟩
def I7:dc (LG fr):=λargs bl ch K=>match args with
 |[.int .i64 a,.int .i64 (.ofNat 3)]=>cond (cD bl.length 5) ((dt a 3=0->K (.int .i64 0) bl ch)/\(dt a 3=1->K (.int .i64 1) bl ch)/\(dt a 3=2->K (.int .i64 2) bl ch)) (K (.int .i64 (dt a 3)) bl ch)
 |[.int .i64 a,.int .i64 (.ofNat 2)]=>(dt a 2=0->K (.int .i64 0) bl ch)/\(dt a 2=1->K (.int .i64 1) bl ch)
 |[.int .i64 a,.int .i64 (.ofNat (m+1))]=>K (.int .i64 (dt a (.ofNat (m+1)))) bl ch
 |_=>False
theorem atY (a:Int) (m:Nat) (X:V->Prop):dX prog [] 60 26 [.int .i64 a,.int .i64 (.ofNat (m+1))] X=X (.int .i64 (dt a (.ofNat (m+1)))):=by kernel_rfl
theorem atZ (a:Int) (m:Nat) (ids:List Nat) (w:ag):aV prog 26 (aH ids [.int .i64 a,.int .i64 (.ofNat (m+1))]).toArray w λx w'=>x=den ids (.int .i64 (dt a (.ofNat (m+1))))/\Ch [] w w':=
 zf bO.nil 60 (by rw[atY]) rfl rfl ids w
theorem at0 {gl:Nat->Option Nat}:Sound prog gl 26 (I7 (fr:=fr)):=by
 intro args ids bl ch R ms w0 w K hg hl S hc;have go:∀(a:Int) (m:Nat),K (.int .i64 (dt a (.ofNat (m+1)))) bl ch->aV prog 26 (aH ids [.int .i64 a,.int .i64 (.ofNat (m+1))]).toArray w λv w'=>∃x more bl' ch',v=den (ids++more) x/\(ids++more).length=bl'.length/\St ms w0 (lits (ids++more) (ids++more) bl'++aC ch' R) w'/\K x bl' ch':=by
  intro a m hK;refine(atZ a m ids w).mono ?_;rintro v w' ⟨rfl,cB⟩;exact⟨_,[],bl,ch,by simp,by simpa using hl,by simpa using S.quiet cB,hK⟩
 have cast:∀(a:Int) (m:Nat) (r:Int),dt a (.ofNat (m+1))=r->K (.int .i64 r) bl ch->K (.int .i64 (dt a (.ofNat (m+1)))) bl ch:=λa m r e h=>by rw[e];exact h
 unfold I7 at hc;split at hc
 ·rename_i a;refine go a 2 ?_;have hb:=CL a (m:=3) (by decide) (by decide);cases hq:cD bl.length 5 with
  |false=>rw[hq]at hc;exact hc
  |true=>
   rw[hq]at hc;have h3:dt a (.ofNat (2+1))=dt a 3:=rfl;have:dt a 3=0\/dt a 3=1\/dt a 3=2:=by omega
   rcases this with e|e|e
   ·exact cast a 2 _ e (hc.1 e)
   ·exact cast a 2 _ e (hc.2.1 e)
   ·exact cast a 2 _ e (hc.2.2 e)
 ·rename_i a;refine go a 1 ?_;have hb:=CL a (m:=2) (by decide) (by decide);have:dt a 2=0\/dt a 2=1:=by omega
  rcases this with e|e
  ·exact cast a 1 _ e (hc.1 e)
  ·exact cast a 1 _ e (hc.2 e)
 ·rename_i a m _ _;exact go a m hc
 ·exact hc.elim
theorem aua:ia (I7 (fr:=fr)):=by
 intro args bl ch K hc;unfold I7 at hc⊢;split at hc
 ·cases hq:cD bl.length 5 with
  |false=>rw[hq]at hc;exact⟨hc,[],by simp⟩
  |true=>rw[hq]at hc;exact⟨λe=>⟨hc.1 e,[],by simp⟩,λe=>⟨hc.2.1 e,[],by simp⟩,λe=>⟨hc.2.2 e,[],by simp⟩⟩
 ·exact⟨λe=>⟨hc.1 e,[],by simp⟩,λe=>⟨hc.2 e,[],by simp⟩⟩
 ·exact⟨hc,[],by simp⟩
 ·exact hc.elim
def iN:V->Int|.int .i64 n=>n|_=>0
def sA:V->Option aQ|.raw (.slice a _ _)=>a|_=>none
def sN:V->Nat|.raw (.slice _ n _)=>n|_=>0
def sC:V->Nat|.raw (.slice _ _ c)=>c|_=>0
def iE (i:Nat):Bool:=bG 5 i&&bG i 8
def aer (i:Nat) (v:V):Bool:=match v with
 |.int .i64 _=>!iE i
 |.raw (.slice _ _ _)=>iE i
 |_=>false
def I8:List V->Nat->Bool
 |[],i=>az i 56
 |v::l,i=>aer i v&&I8 l (i+1)
structure gk where
 q:Nat->Int
 ka:Nat->Option aQ
 kn:Nat->Nat
 kc:Nat->Nat
def N5 (l:List V):Option gk:=match l with
 |[.dz p ka kn kc]=>some ⟨p.i,ka,kn,kc⟩
 |l=>bif I8 l 0 then some ⟨λi=>iN (nth l i),λj=>sA (nth l (j+5)),λj=>sN (nth l (j+5)),λj=>sC (nth l (j+5))⟩else none
def xV (i:Nat) (v:V):ae:=bif iE i then .slice (sA v) (sN v) (sC v)else .int .i64 (iN v)
theorem aes (ids:List Nat):∀(l:List V) (i:Nat),I8 l i=true->i+l.length=56/\ai ids l=(bw l.length).map λj=>xV (i+j) (nth l j)
 |[],i,h=>⟨cz h,rfl⟩
 |v::l,i,h=>by
  unfold I8 at h;rw[bu]at h;obtain⟨h1,h2⟩:=aes ids l (i+1) h.2;refine⟨by simp;omega,?_⟩;rw[h_,vU,eF,lQ];simp only[ai,h2];have e:ai ids l=(bw l.length).map ((λj=>xV (i+j) (nth (v::l) j))∘Nat.succ):=by
   rw[h2];apply pI;intro j _;show xV (i+1+j) (nth l j)=xV (i+(j+1)) (nth l j);rw[show i+1+j=i+(j+1) by omega]
  rw[<-h2,e];have hv:cl v (den ids v)=[xV (i+0) (nth (v::l) 0)]:=by
   have h3:=h.1;unfold aer at h3;split at h3
   ·have:iE i=false:=by simpa using h3
    simp only[cl,den,nth,xV,pG,this,cond_false,iN]
   ·simp only[cl,den,nth,xV,pG,h3,cond_true,sA,sN,sC]
   ·cases h3
  rw[hv];rfl
theorem aet {l:List V} {x:gk} (h:N5 l=some x) (k:Nat->Nat×Sd.ao) (ids:List Nat):ai ids l=oV ⟨x.q,k⟩ x.ka x.kn x.kc:=by
 unfold N5 at h;split at h
 ·cases h;simp only[ai,cl,cH];rfl
 ·cases hb:I8 l 0 with
  |false=>rw[hb]at h;cases h
  |true=>
   rw[hb]at h;cases h;obtain⟨h1,h2⟩:=aes ids l 0 hb;rw[h2,show l.length=56 by omega];unfold oV;apply pI;intro j hj;have hj:=List.mem_range.1 hj;show xV (0+j) (nth l j)=_;rw[eY];unfold xV iE;cases hk:bG 5 j&&bG j 8 with
   |false=>rfl
   |true=>
    rw[bu]at hk;have:=dJ hk.1;simp only[cond_true];rw[show j-5+5=j by omega]
def oH (o1 o2 o3:Int) (q:Nat->Int) (i:Nat):Int:=
 bif bG i 13 then(bif az i 1 then o1 else bif az i 2 then o2 else bif az i 3 then o3 else bif az i 4 then 4 else bif az i 9 then 1 else bif bG 10 i&&bG i 12 then bits .and .i64 (q i) 14 else 0)
 else bif bG i 33 then bits .and .i64 (q i) 15
 else bif bG i 38 then bits .and .i64 (q i) 31
 else bif bG i 41 then dt (q i) 5
 else bif bG i 46 then i64.wrap (1+dt (q i) 1000)
 else bif az i 47 then dt (q i) 1001
 else bif bG i 49 then i64.wrap (1+dt (q i) 3)
 else bif az i 50 then 0
 else bif bG i 53 then dt (q i) 1001
 else bif az i 54 then i64.wrap (1+dt (q i) 1000)
 else bits .and .i64 (q i) 65535
def CM (q:Nat->Int) (o1 o2 o3:Int):Prop:=
 (dt (q 1) 3=0/\((dt (q 2) 2=0/\o1=1/\o2=2/\o3=3)\/(dt (q 2) 2=1/\o1=1/\o2=3/\o3=2)))\/
 (dt (q 1) 3=1/\((dt (q 2) 2=0/\o1=2/\o2=1/\o3=3)\/(dt (q 2) 2=1/\o1=2/\o2=3/\o3=1)))\/
 (dt (q 1) 3=2/\((dt (q 2) 2=0/\o1=3/\o2=2/\o3=1)\/(dt (q 2) 2=1/\o1=3/\o2=1/\o3=2)))
def k4 {α:Type} (a b c d:α):Nat->α:=λj=>match j with|0=>a|1=>b|2=>c|_=>d
def aub (o1 o2 o3:Int) (q:Nat->Int) (kn d:Nat->Nat):List V:=(bw 56).map λi=>bif iE i then .sl (i-5) 0 (pB (kn (i-5))) (pB (kn (i-5))+d (i-5))else .int .i64 (oH o1 o2 o3 q i)
def I9 (p:Nat->Int) (n d:Nat->Nat):List V:=(bw 56).map λi=>bif iE i then .sl (i-5) 0 (n (i-5)) (n (i-5)+d (i-5))else .int .i64 (p i)
section
variable(x:gk) (f:Nat->Nat×Sd.ao) (u:ag) (K:VK (LG fr))
def N6 (i d:Nat):VB:=dF (pB (x.kn i)) d (jK (x.kn i) (fb u (x.ka i)))
def jL (i:Nat):Prop:=kE u (x.ka i) (x.kn i) (x.kc i) (fb u (x.ka i))
def Wg (d3:Nat) (o1 o2 o3:Int):Prop:=jL x u 0/\∀d0:Nat,jL x u 1/\∀d1:Nat,jL x u 2/\∀d2:Nat,K (.agg (aub o1 o2 o3 x.q x.kn (k4 d0 d1 d2 d3))) [N6 x u 0 d0,N6 x u 1 d1,N6 x u 2 d2,N6 x u 3 d3] [.a_ u]
def Wh (d3:Nat) (o1 o2 o3:Int):Prop:=(dt (x.q 2) 2=0->Wg x u K d3 o1 o2 o3)/\(dt (x.q 2) 2=1->Wg x u K d3 o1 o3 o2)
def aeu:Prop:=jL x u 3/\∀d3:Nat,(dt (x.q 1) 3=0->Wh x u K d3 1 2 3)/\(dt (x.q 1) 3=1->Wh x u K d3 2 1 3)/\(dt (x.q 1) 3=2->Wh x u K d3 3 2 1)
def Wi (fr:Sd.aF->Nat×Sd.ao):List (bR (LG fr)):=[⟨25,true,I6⟩,⟨26,true,I7⟩]
theorem aev:aI prog de (Wi fr):=aI.cons ⟨atW,λ_=>atX⟩ (aI.cons ⟨at0,λ_=>aua⟩ aI.nil)
theorem auc:br (bZ prog de (Wi fr)) 60 10 [.agg [.dz ⟨x.q,f⟩ x.ka x.kn x.kc]] [] [.a_ u] (bA 0 K)=aeu x u K:=by kernel_rfl
end
structure Made (x:gk) (p:Nat->Int) (n:Nat->Nat):Prop where
 o:CM x.q (p 1) (p 2) (p 3)
 p:∀i,i<56->iE i=false->p i=oH (p 1) (p 2) (p 3) x.q i
 n:∀j,n j=pB (x.kn j)
def aew (x:gk) (u:ag) (K:VK (LG fr)):Prop:=(jL x u 0/\jL x u 1/\jL x u 2/\jL x u 3)/\∀(p:Nat->Int) (n d:Nat->Nat),Made x p n->
 K (.agg (I9 p n d)) [dF (n 0) (d 0) (jK (x.kn 0) (fb u (x.ka 0))),dF (n 1) (d 1) (jK (x.kn 1) (fb u (x.ka 1))),dF (n 2) (d 2) (jK (x.kn 2) (fb u (x.ka 2))),dF (n 3) (d 3) (jK (x.kn 3) (fb u (x.ka 3)))] [.a_ u]
theorem aud {x:gk} {u:ag} {K:VK (LG fr)} (h:aew x u K):aeu x u K:=by
 obtain⟨⟨r0,r1,r2,r3⟩,hK⟩:=h;have g:∀(d3:Nat) (o1 o2 o3:Int),CM x.q o1 o2 o3->Wg x u K d3 o1 o2 o3:=λd3 o1 o2 o3 h=>⟨r0,λd0=>⟨r1,λd1=>⟨r2,λd2=>hK (oH o1 o2 o3 x.q) (λj=>pB (x.kn j)) (k4 d0 d1 d2 d3) ⟨h,λ_ _ _=>rfl,λ_=>rfl⟩⟩⟩⟩;refine⟨r3,λd3=>⟨λe=>⟨λe2=>g d3 _ _ _ ?_,λe2=>g d3 _ _ _ ?_⟩,λe=>⟨λe2=>g d3 _ _ _ ?_,λe2=>g d3 _ _ _ ?_⟩,λe=>⟨λe2=>g d3 _ _ _ ?_,λe2=>g d3 _ _ _ ?_⟩⟩⟩<;>(unfold CM;omega)
def N7:dc (LG fr):=λargs bl ch K=>match args,ch with
 |[.agg l],.a_ u::rest=>(match N5 l with
  |some x=>cond (bM bl.length bl) (aew x u λv b c=>K (hU bl.length v) (bl++xR bl.length b) (c++rest)) False
  |none=>False)
 |_,_=>False
theorem aex {gl:Nat->Option Nat}:Sound prog gl 10 (N7 (fr:=fr)):=by
 intro args ids bl ch R ms w0 w K hg hl S hc;unfold N7 at hc;split at hc
 ·rename_i l u rest;split at hc
  ·rename_i x hx;cases hq:bM bl.length bl with
   |false=>rw[hq]at hc;exact hc.elim
   |true=>
    rw[hq]at hc;refine aep (C:=bZ prog de (Wi fr)) (n:=60) (args':=[.agg [.dz ⟨x.q,λ_=>(0,λ_=>0)⟩ x.ka x.kn x.kc]]) (ch0:=[.a_ u]) (rest:=rest) aev.T aev.Q rfl hl hq ?_ S (by rw[auc];exact aud hc);simp only[aH,den,aet hx (λ_=>(0,λ_=>0)) ids,ai,cl,cH]
  ·exact hc.elim
 ·exact hc.elim
end
end Go.Proofs.YtggfpcggakghnaaGreatDoor
