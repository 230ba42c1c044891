/- Part 5 of the proof. -/
import Derived.Test.YtggfpcggakghnaaGreatDoorRows
import Derived.ProofKit
import Derived.OpenShut
import Derived.FnData
import Derived.MakeChecks
import Derived.Stop.Joined
import Derived.WalkKit
import Derived.Below
import Derived.BigQuiet
import Derived.WalkSpells
import Derived.Lib.Hide
import Derived.Laws.CopyOwn
import Derived.Carry
import Derived.ChangeArms
import Derived.Deep.Slices
import Derived.Test.YtggfpcggakghnaaGreatDoorProg
import Derived.Test.YtggfpcggakghnaaGreatDoorO4
set_option linter.all false
set_option maxRecDepth 100000
set_option maxHeartbeats 4000000
noncomputable section
open Go.Proofs.Tryz
open Go.IntKind (u8 u16 u32 u64 i64)
open Array renaming getElem?_eq_none->Es,getElem?_eq_getElem->II,ext'->fe
open BitVec renaming toNat_ofInt->IG,ofInt->n8
open Bool renaming cond_eq_ite->ad8,and_eq_true->bg
open Go renaming Program->aF,TypeId->aG,Addr->aO,Value->ab,World->ae,Oper->ao,Operand->ba,Exit->dR,IntKind->eS,FuncId->fc,heap_alloc_new->mX
open Go.Addr renaming add_lit->iE,add->u5
open Go.Builtin renaming append_->mY,zeroCells->n9
open Go.Cell renaming okWide->Ck
open Go.DataW renaming trod->NI
open Go.Instr renaming buildSlice->V3
open Go.IntKind renaming wrap_u16->IT,wrap_u64->rY,bits->tI,signed->tJ,wrap_u8->xA
open Go.MemPlace renaming row->Wb
open Go.Proofs.YtggfpcggakghnaaGreatDoor.Rows renaming laid_sidestick_sha_roots->ad7
open Go.Sem renaming run_bind->bx
open Go.Src renaming ofSlice->rU
open Go.Value renaming bool->Ce,slice->EB,int->eg,okWide->xB
open Int renaming emod_eq_of_lt->IF,ofNat->cJ,fdiv->jd,fdiv_eq_ediv_of_nonneg->tK,natCast_nonneg->zT,reduceEq->zY
open List renaming range_succ->Cf,mem_cons_self->Cg,length_map->Eu,flatMap_append->Ey,getElem?_drop->Ez,length_range->IK,getElem?_take->NH,getElem?_take_of_lt->V7,foldl_nil->Wa,takeWhile_append_dropWhile->ad5,append_assoc->bR,range->bd,append_nil->cQ,mem_cons->ca,map_cons->eH,mem_append->eJ,nil_append->fl,length_append->fq,cons_append->ft,getElem?_append_left->gV,getElem?_eq_none->iK,getElem?_map->iZ,mem_singleton->ig,getD->ij,countP_append->ik,perm_middle->jH,getElem?_eq_getElem->jb,getElem?_toArray->jt,take_append_drop->jv,length_cons->kN,replicate->lP,getElem?_range->m9,eq_nil_of_length_eq_zero->mZ,mem_map->mn,map_map->mr,mem_of_getElem?->oQ,getD_eq_getElem?_getD->oS,sublist_append_right->oT,mem_append_left->oU,not_mem_nil->oV,map_append->qB,map_congr_left->qD,nodup_cons->qz,perm_append_comm_assoc->rW,mem_append_right->tH,length_take->u9,ext_getElem?->u_,range_succ_eq_map->vd,foldl_cons->ve,map_nil->vf,mem_cons_of_mem->xz,getElem?_append_right->zL,getElem?_of_mem->zM,countP_cons->zW,countP_nil->zX
open List.Perm renaming trans->EA,swap->ND,append_left->qG,cons->u7
open List.Sublist renaming append_left->zO
open Nat renaming le_of_not_lt->V5,beq->aq,ble->bu,lt_or_ge->cN,eq_of_beq_eq_true->ck,blt->cu,le_refl->dE,le_of_ble_eq_true->du,zero_add->eD,le_trans->iY,add_mul->mq,ble_eq_true_of_le->tB,eq_zero_or_pos->u6,add_assoc->zP
open Option renaming map_eq_some_iff->gU,map_some->lO
open Option.some renaming injEq->aV,inj->cA
open Prod.mk renaming injEq->bw
namespace Go.Proofs.YtggfpcggakghnaaGreatDoor
section
open Go Go.RowKit Go.BigFrame Sx Vx
variable{fr:Sd.aE->Nat×Sd.av}
theorem Ux (n:Nat):∀(l:List V) (i:Nat),nth (oF n l) i=gI n (nth l i)
 |[],_=>rfl
 |_::_,0=>rfl
 |_::l,i+1=>Ux n l i
theorem Uy {α:Type} (f:α->V):∀(l:List α) (i:Nat) (a:α),l[i]?=some a->nth (l.map f) i=f a
 |[],_,_,h=>by simp at h
 |x::l,0,a,h=>by simp at h;subst h;rfl
 |x::l,i+1,a,h=>Uy f l i a (by simpa using h)
section
variable(n:Nat) (p:Nat->Int) (kn d:Nat->Nat)
abbrev jG:List V:=oF n (HR p kn d)
theorem MH {i:Nat} (hi:i<56) (hk:iJ i=false):iN (nth (jG n p kn d) i)=p i:=by
 unfold jG;rw[Ux,HR,Uy _ _ i i (by rw[m9 hi]),hk];rfl
theorem ack {j:Nat} (hj:j<4):nth (jG n p kn d) (j+5)=.sl (j+n) 0 (kn j) (kn j+d j):=by
 unfold jG;rw[Ux,HR,Uy _ _ (j+5) (j+5) (by rw[m9 (by omega)])];have hk:iJ (j+5)=true:=by
  match j,hj with
  |0,_=>rfl
  |1,_=>rfl
  |2,_=>rfl
  |3,_=>rfl
  |j+4,h=>exact absurd h (by omega)
 rw[hk,Nat.add_sub_cancel];rfl
theorem zk {j:Nat} (hj:j<4):iX (jG n p kn d) j=kn j:=by unfold iX;rw[ack _ _ _ _ hj];rfl
theorem acm {j:Nat} (hj:j<4):BP (jG n p kn d) j=kn j+d j:=by unfold BP;rw[ack _ _ _ _ hj];rfl
end
theorem ari (x:Int):0<=bits .and .i64 x 15/\bits .and .i64 x 15<=15:=by
 have:=qI .i64 x 15 16 4 (by decide) (by decide) (by decide);omega
theorem arj (x:Int):0<=bits .and .i64 x 31/\bits .and .i64 x 31<=31:=by
 have:=qI .i64 x 31 32 5 (by decide) (by decide) (by decide);omega
theorem Uz (x:Int):0<=bits .and .i64 x 65535/\bits .and .i64 x 65535<=65535:=by
 have:=qI .i64 x 65535 65536 16 (by decide) (by decide) (by decide);omega
theorem UA (x:Int):nE (bits .and .i64 x 14)=true:=by
 rw[aoD];simp only[nE,jE,bg,decide_eq_true_eq,beq_iff_eq];omega
theorem one_mod (a:Int) {m:Int} (h:0<m) (h2:m<=1000000):i64.wrap (1+dk a m)=1+dk a m:=by
 have:=D9 a h h2;exact te (by omega)
theorem BN.perm {q:Nat->Int} {o1 o2 o3:Int} (h:BN q o1 o2 o3):(o1=1/\o2=2/\o3=3)\/(o1=1/\o2=3/\o3=2)\/(o1=2/\o2=1/\o3=3)\/(o1=2/\o2=3/\o3=1)\/(o1=3/\o2=1/\o3=2)\/(o1=3/\o2=2/\o3=1):=by
 rcases h with⟨_,⟨_,a,b,c⟩|⟨_,a,b,c⟩⟩|⟨_,⟨_,a,b,c⟩|⟨_,a,b,c⟩⟩|⟨_,⟨_,a,b,c⟩|⟨_,a,b,c⟩⟩<;>subst a b c<;>simp
theorem acn {q:Nat->Int} {kn:Nat->Nat} (hp:(q 1=1/\q 2=2/\q 3=3)\/(q 1=1/\q 2=3/\q 3=2)\/(q 1=2/\q 2=1/\q 3=3)\/(q 1=2/\q 2=3/\q 3=1)\/(q 1=3/\q 2=1/\q 3=2)\/(q 1=3/\q 2=2/\q 3=1))
 (h0:q 0=0/\q 4=4/\q 9=1/\q 13=0/\q 50=0) (hk:∀j,j<4->1<=kn j/\kn j<=64) (hr:nE (q 10)=true/\nE (q 11)=true/\nE (q 12)=true) (ht:∀i,14<=i->i<=33->0<=q i/\q i<=15) (hg:∀i,34<=i->i<=38->0<=q i/\q i<=31)
 (hm:∀i,39<=i->i<=41->0<=q i/\q i<=4) (hs:∀i,42<=i->i<=46->1<=q i/\q i<=1000) (hb:0<=q 47/\q 47<=1000) (hq:∀i,48<=i->i<=49->1<=q i/\q i<=3) (hl:∀i,51<=i->i<=53->0<=q i/\q i<=1000) (ha:1<=q 54/\q 54<=1000) (he:0<=q 55/\q 55<=65535):
 lD q kn=0/\∀ks,Sd.eO ⟨q,ks⟩:=by
 obtain⟨z0,z4,z9,z13,z50⟩:=h0;have uQ:∀{lo hi n:Int},lo<=n/\n<=hi->jE lo hi n=true:=λh=>by simp[jE,h.1,h.2]
 have ark:GN q=true:=by
  rcases hp with⟨a,b,c⟩|⟨a,b,c⟩|⟨a,b,c⟩|⟨a,b,c⟩|⟨a,b,c⟩|⟨a,b,c⟩<;>simp[GN,pZ,z0,z4,a,b,c]
 have y9:(yR kn&&sW (kn 3))=true:=by
  have:=hk 0 (by decide);have:=hk 1 (by decide);have:=hk 2 (by decide);have:=hk 3 (by decide)
  simp only[yR,sW,bg,decide_eq_true_eq];omega
 have arl:(q 9==1&&(q 13==0&&A9 q))=true:=by simp[A9,z9,z13,hr]
 have arn:GO q=true:=by
  simp only[GO,allI,bg];refine⟨?_,?_,?_,?_,?_⟩<;>refine⟨?_,?_,?_,?_,trivial⟩<;>exact uQ (ht _ (by decide) (by decide))
 have hgr:allI 0 31 [q 34,q 35,q 36,q 37,q 38]=true:=by
  simp only[allI,bg];refine⟨?_,?_,?_,?_,?_,trivial⟩<;>exact uQ (hg _ (by decide) (by decide))
 have hmo:allI 0 4 [q 39,q 40,q 41]=true:=by
  simp only[allI,bg];refine⟨?_,?_,?_,trivial⟩<;>exact uQ (hm _ (by decide) (by decide))
 have hti:allI 1 1000 [q 42,q 43,q 44,q 45]=true:=by
  simp only[allI,bg];refine⟨?_,?_,?_,?_,trivial⟩<;>exact uQ (hs _ (by decide) (by decide))
 have fG:(jE 1 1000 (q 46)&&jE 0 1000 (q 47))=true:=by rw[uQ (hs 46 (by decide) (by decide)),uQ hb];rfl
 have HZ:allI 1 3 [q 48,q 49]=true:=by
  simp only[allI,bg];refine⟨?_,?_,trivial⟩<;>exact uQ (hq _ (by decide) (by decide))
 have hli:(q 50==0&&(allI 0 1000 [q 51,q 52,q 53]&&jE 1 1000 (q 54)))=true:=by
  rw[z50,uQ ha];simp only[allI,bg];refine⟨by decide,⟨?_,?_,?_,trivial⟩,trivial⟩<;>exact uQ (hl _ (by decide) (by decide))
 refine⟨?_,λks=>?_⟩
 ·unfold lD;rw[ark,y9,arl,arn,hgr,hmo,hti,fG,HZ,hli,uQ he];rfl
 ·refine⟨z0,z4,hp,hm 39 (by decide) (by decide),hm 40 (by decide) (by decide),hm 41 (by decide) (by decide),hs 42 (by decide) (by decide),hs 43 (by decide) (by decide),hs 44 (by decide) (by decide),hs 45 (by decide) (by decide),hs 46 (by decide) (by decide),hb,hq 48 (by decide) (by decide),hq 49 (by decide) (by decide),?_,ha,he⟩;intro c hc;show 0<=q (50+c)/\q (50+c)<=1000
  match c,hc with
  |0,_=>rw[z50];decide
  |1,_=>exact hl 51 (by decide) (by decide)
  |2,_=>exact hl 52 (by decide) (by decide)
  |3,_=>exact hl 53 (by decide) (by decide)
  |c+4,h=>exact absurd h (by omega)
structure BQ (p:Nat->Int) (o1 o2 o3:Int) (q:Nat->Int):Prop where
 lo:∀i,i<=4\/(9<=i/\i<=41)\/(47<=i/\i<=55)->p i=nQ o1 o2 o3 q i
 ti:∀i,42<=i->i<=46->1<=p i/\p i<=1000
theorem aro {o1 o2 o3:Int} {q:Nat->Int} {i:Nat} (h1:42<=i) (h2:i<=46):1<=nQ o1 o2 o3 q i/\nQ o1 o2 o3 q i<=1000:=by
 have:nQ o1 o2 o3 q i=i64.wrap (1+dk (q i) 1000):=by
  have:i=42\/i=43\/i=44\/i=45\/i=46:=by omega
  rcases this with rfl|rfl|rfl|rfl|rfl<;>rfl
 rw[this,one_mod _ (by decide) (by decide)];have:=D9 (q i) (m:=1000) (by decide) (by decide);omega
theorem BQ.ok {p:Nat->Int} {o1 o2 o3:Int} {q:Nat->Int} (h:BQ p o1 o2 o3 q) (ho:BN q o1 o2 o3) {kn:Nat->Nat} (hk:∀j,j<4->1<=kn j/\kn j<=64):lD p kn=0/\∀ks,Sd.eO ⟨p,ks⟩:=by
 have g:=λi hi=>h.lo i hi;have md:=λ(i:Nat) (m:Int) (h1:0<m) (h2:m<=1000000)=>D9 (q i) h1 h2;refine acn ?_ ⟨g 0 (by decide),g 4 (by decide),g 9 (by decide),g 13 (by decide),g 50 (by decide)⟩ hk ⟨?_,?_,?_⟩ ?_ ?_ ?_ h.ti ?_ ?_ ?_ ?_ ?_
 ·rw[g 1 (by decide),g 2 (by decide),g 3 (by decide)];exact ho.perm
 ·rw[g 10 (by decide)];exact UA _
 ·rw[g 11 (by decide)];exact UA _
 ·rw[g 12 (by decide)];exact UA _
 ·intro i h1 h2;rw[g i (by omega)];have:nQ o1 o2 o3 q i=bits .and .i64 (q i) 15:=by
   unfold nQ;have e1:bu i 13=false:=by cases hb:bu i 13 with|false=>rfl|true=>exact absurd (du hb) (by omega)
   have e2:bu i 33=true:=tB h2;rw[e1,e2];rfl
  rw[this];exact ari _
 ·intro i h1 h2;rw[g i (by omega)];have:nQ o1 o2 o3 q i=bits .and .i64 (q i) 31:=by
   have:i=34\/i=35\/i=36\/i=37\/i=38:=by omega
   rcases this with rfl|rfl|rfl|rfl|rfl<;>rfl
  rw[this];exact arj _
 ·intro i h1 h2;rw[g i (by omega)];have:nQ o1 o2 o3 q i=dk (q i) 5:=by
   have:i=39\/i=40\/i=41:=by omega
   rcases this with rfl|rfl|rfl<;>rfl
  rw[this];have:=md i 5 (by decide) (by decide);omega
 ·rw[g 47 (by decide)];have:=md 47 1001 (by decide) (by decide);show 0<=dk (q 47) 1001/\dk (q 47) 1001<=1000;omega
 ·intro i h1 h2;rw[g i (by omega)];have:nQ o1 o2 o3 q i=i64.wrap (1+dk (q i) 3):=by
   have:i=48\/i=49:=by omega
   rcases this with rfl|rfl<;>rfl
  rw[this,one_mod _ (by decide) (by decide)];have:=md i 3 (by decide) (by decide);omega
 ·intro i h1 h2;rw[g i (by omega)];have:nQ o1 o2 o3 q i=dk (q i) 1001:=by
   have:i=51\/i=52\/i=53:=by omega
   rcases this with rfl|rfl|rfl<;>rfl
  rw[this];have:=md i 1001 (by decide) (by decide);omega
 ·rw[g 54 (by decide)];show 1<=i64.wrap (1+dk (q 54) 1000)/\i64.wrap (1+dk (q 54) 1000)<=1000;rw[one_mod _ (by decide) (by decide)];have:=md 54 1000 (by decide) (by decide);omega
 ·rw[g 55 (by decide)];exact Uz _
theorem nR {i:Nat} (h:i<5\/8<i):iJ i=false:=by
 unfold iJ;cases h1:bu 5 i with
 |false=>rfl
 |true=>
  cases h2:bu i 8 with
  |false=>rfl
  |true=>have:=du h1;have:=du h2;omega
theorem Made.I {x:gp} {p:Nat->Int} {n:Nat->Nat} (h:Made x p n):BQ p (p 1) (p 2) (p 3) x.q:=
 ⟨λi hi=>h.p i (by omega) (nR (by omega)),λi h1 h2=>by rw[h.p i (by omega) (nR (by omega))];exact aro h1 h2⟩
theorem BQ.at {p p':Nat->Int} {o1 o2 o3:Int} {q:Nat->Int} (h:BQ p o1 o2 o3 q) (e:∀i,i<56->iJ i=false->p' i=p i):BQ p' o1 o2 o3 q:=
 ⟨λi hi=>by rw[e i (by omega) (nR (by omega))];exact h.lo i hi,λi h1 h2=>by rw[e i (by omega) (nR (by omega))];exact h.ti i h1 h2⟩
theorem arp {m:Nat} {p:Nat->Int} {n d:Nat->Nat} {o1 o2 o3:Int} {q:Nat->Int} (h:BQ p o1 o2 o3 q) (ho:BN q o1 o2 o3) (hn:∀j,j<4->1<=n j/\n j<=64):HV (jG m p n d) n/\∀f,Sd.eO (nP (jG m p n d) f):=by
 have hb:∀j,j<4->1<=iX (jG m p n d) j/\iX (jG m p n d) j<=64:=λj hj=>by rw[zk _ _ _ _ hj];exact hn j hj
 have h1:=(h.at (p':=λi=>iN (nth (jG m p n d) i)) (λi h1 h2=>MH m p n d h1 h2)).ok ho hb;refine⟨⟨h1.1,λj hj=>(zk _ _ _ _ hj).symm,λj hj=>⟨(hb j hj).2,?_⟩⟩,λf=>h1.2 _⟩;rw[zk _ _ _ _ hj,acm _ _ _ _ hj];omega
theorem aco {l:List V} {f:Nat->Sd.av} {tg tc:Nat} {p:Sd.aN} {k:LK} (hN:HW l f tg tc p k) (h:Sd.eO (nP l f)) (hk:∀j,j<4->1<=iX l j/\iX l j<=64):ef k (gT p):=by
 obtain⟨rfl,h1,h2,h3,h4,h5,h6⟩:=hN;exact⟨Sd.Inv.new h,Sd.Ext.new,λi hi=>by rw[h1];exact hk i hi,λi hi=>by rw[h1,h2];rfl,rfl,rfl⟩
def f2 (a b:Int):Sd.av:=λj=>match j with|0=>a|_=>b
def MI (C:Sd.aL):c_ (LG fr):=λargs bl ch K=>match args with
 |[.ptr ic 0,.int .i64 l,.agg [.int .i64 code,.sl ip 0 2 2]]=>(match bl[ip]?with
  |some ⟨true,⟨5,(0,0)⟩,[.int .u8 a,.int .u8 b]⟩=>Mp C [.ptr ic 0,.int .i64 l,.agg [.int .i64 code,.sl ip 0 2 2]] (bl.set ip (dN 2 0 (f2 a b))) ch K
  |_=>False)
 |_=>False
theorem arq {ids:List Nat} {bl:List VB} {ip:Nat} {b b':VB} (hl:ids.length=bl.length) (h:bl[ip]?=some b) (e:∀n,az ids n b'=az ids n b):lits ids ids (bl.set ip b')=lits ids ids bl:=by
 rw[<-x_ ids bl ip b' hl,e,x_ ids bl ip b hl];congr 1;apply u_;intro j;rw[List.getElem?_set];split
 ·rename_i hj;subst hj;rw[h];simp[iU h]
 ·rfl
theorem acp (ht:Body (fr:=fr) 147 dI):Sound prog gS 24 (MI (fr:=fr) (aJ aH)):=by
 intro args ids bl ch R ms w0 w K hg hl S hc;unfold MI at hc;split at hc
 ·rename_i ic l code ip;split at hc
  ·rename_i a b hb;refine ab0 ht _ ids _ ch R ms w0 w K hg (by simpa using hl) ?_ hc;rw[arq (b':=dN 2 0 (f2 a b)) hl hb (λn=>rfl)];exact S
  ·exact hc.elim
 ·exact hc.elim
def lh (t:aG):VB:=⟨false,t,[.bJ .u32 64 cH]⟩
def oH (t:aG):VB:=⟨false,t,[.bool false,.bool false,.bool false,.bool false,.bool false,.bool false,.bool false,.bool false,.bool false,.bool false,.bool true,.bool true]⟩
def MJ (fr:Sd.aE->Nat×Sd.av) (C:Sd.aL):List (bK (LG fr)):=[⟨10,false,Mu⟩,⟨11,false,MF⟩,⟨24,false,MI C⟩,⟨14,false,w9 λ_=>Mn⟩]
theorem acq (ht:Body (fr:=fr) 147 dI):aC prog gS (MJ fr (aJ aH)):=
 aC.cons ⟨acb,λe=>by cases e⟩ (aC.cons ⟨acj,λe=>by cases e⟩ (aC.cons ⟨acp ht,λe=>by cases e⟩ (aC.cons (Ml (abY ht)) aC.nil)))
def MK:List V:=(bd 56).map λi=>bif iJ i then .raw (.slice none 0 0)else .int .i64 (bif aq i 10 then 2 else 0)
def UB:gp:=⟨λi=>iN (nth MK i),λj=>sA (nth MK (j+5)),λj=>sN (nth MK (j+5)),λj=>sC (nth MK (j+5))⟩
def UC (x:gp) (u:ae):Prop:=kM x u 0/\kM x u 1/\kM x u 2/\kM x u 3
def uR (x:gp) (u:ae):Nat->Sd.av:=k4 (kL (x.kn 0) (fk u (x.ka 0))) (kL (x.kn 1) (fk u (x.ka 1))) (kL (x.kn 2) (fk u (x.ka 2))) (kL (x.kn 3) (fk u (x.ka 3)))
def n4 (n:Nat->Nat):Nat->Nat:=k4 (n 0) (n 1) (n 2) (n 3)
def xi (tg tc:aG) (it:Nat) (k:LK) (s:Sd.aa):Prop:=some (lh tg)=some (b9 k)/\some (oH tc)=some (iB k)/\lG k it s=lG k it (bQ s)/\s.c.p.bW=s.c.p.bW/\s.c.p.d_=s.c.p.d_/\s.c.p.queue=k.most
section
variable(C:Sd.aL) (tg tc:aG) (u:ae) (K:VK (LG fr))
def shE (k:LK) (s':Sd.aa) (F0:aW fr (aR k (cE s'))) (fn:List ai) (r:TR):Prop:=
 let no (b:Bool):Prop:=K (.bool b) [lh tg,oH tc] [.aZ u,.core (a_ k (cE s') F0) (fn++[])]
 cond ((s'.bh.length:Int)==1) ((0<=(0:Int)/\0<(s'.bh.length:Int))/\(0<s'.bh.length/\∀j,(nN s'.bh r.fv j).length=2)/\
  cond ((s'.bh.getD 0 default).1==1) (cond ((s'.bA.length:Int)==1) ((0<=(0:Int)/\0<(s'.bA.length:Int))/\(0<s'.bA.length/\∀j,(BL s'.bA j).length=6)/\
   cond ((s'.bA.getD 0 default).kind==2) (xi tg tc 8 k (cE s')/\∀(x:Option aO) (c ty:Nat) (us:List ab),K (.bool ((cE s').c.t.ay==4)) [lh tg,oH tc] [.aZ u,.core (a_ k (bQ (cE s')) F0) (fn++[])]) (no false)) (no false)) (no false)) (no false)
def shX:Prop:=UC UB u/\∀(p:Nat->Int) (n d:Nat->Nat),Made UB p n->
 HV (jG 2 p n d) (n4 n)/\∀(p2:Sd.aN) (k:LK) (F:aW fr (aR k (gT p2))),HW (jG 2 p n d) (uR UB u) tg tc p2 k->cO=F.vs->cO=F.vr->
  xi tg tc 8 k (gT p2)/\(2=2/\2+0=2/\lg=lg)/\nO k/\(ef k (bQ (gT p2))/\cO=F.vs/\cO=F.vr/\2<=58/\By (f2 1 1))/\
   ∀s',s'=fM C (bQ (gT p2)) 1 0 2 (f2 1 1)->∀(r:TR) (fn:List ai) (F0:aW fr (aR k (cE s'))),cO=F0.vs->cO=F0.vr->mf fr s'.bh r.fv fn->shE tg tc u K k s' F0 fn r
theorem ars:bo (bP prog gS (MJ fr C)) 60 9 [] [lh tg,oH tc] [.aZ u] (br 2 K)=shX C tg tc u K:=by kernel_rfl
end
end
section
open Go Go.RowKit Go.BigFrame Sx Go.ChangeShapes Go.WideShapes
section
variable{H:Type} {enc:aG×ab->H} {P:aF} {w:ae} {base:Nat} {spare:Nat->Bool} {held:Bool} {fuel:Nat} {t e:aG} {cs:List ab} {ps:List MemPlace}
theorem acr {l:List ab} {i:Nat} {v:ab} (h:(l.drop i).take 1=[v]):l[i]?=some v:=by
 have h1:((l.drop i).take 1)[0]?=some v:=by rw[h];rfl
 rw[NH]at h1;simpa using h1
theorem art {k:eS} {zs:List Int} (ht:P.underlying t=some (.array zs.length e)) (he:P.underlying e=some (.int k)) (hc:P.cellsOf e=1) (hn:P.cellsOf t=zs.length)
 (h:NI enc P w base spare held fuel t cs=some (.agg (zs.map λz=>.lit (.int k z)),ps)):cs=zs.map (eg k):=by
 obtain⟨xs,m,rfl,hx,hlen,vu,om⟩:=DataW.trod_array ht h;simp only[bw,DataW.agg.injEq]at hx;rw[hn]at hlen;apply u_;intro i;by_cases hi:i<zs.length
 ·have h1:=om i hi;rw[hc,Nat.mul_one,jb (by omega)]at h1;obtain⟨z,e1,e2,_⟩:=DataW.trod_int he h1;have h3:(zs.map λz=>(DataW.lit (.int k z):DataW H))[i]?=(xs.map (·.1))[i]?:=by rw[hx.1]
  rw[iZ,iZ,jb hi,jb (by omega),lO,lO,e2]at h3;simp at h3;rw[acr e1,iZ,jb hi,lO,h3]
 ·rw[iK (by omega),iK (by simp;omega)]
theorem acs {n:String} {g:Nat} {c:Array ab} (hg:P.globalNamed n=some g) (h:w.var? P n=some c):∃t f,w.heap[g]?=some (.cells c t f):=by
 simp only[World.var?,hg,Option.bind_some]at h;split at h
 ·next c' t f h2=>simp at h;subst h;exact⟨t,f,h2⟩
 ·cases h
end
def H0:List Int:=(bd 64).map λi=>cH i
def UD:List (String×DataW Unit):=[("sidestick/gate.commands",Rows.laid_sidestick_gate_commands),("sidestick/sha.roots",ad7)]
theorem aru {W:ae} (h:laidMetH prog UD W):∃t,W.heap[1]?=some (.cells (au .u32 64 cH) t (0,0)):=by
 rw[MakeChecks.laidMetH_plain _ _ _ (by kernel_rfl)]at h;obtain⟨ps,⟨g0,t0,ML,f0,p0,q0,hg0,MM,rQ,hd0,⟨g1,t1,MN,f1,p1,q1,Mo,ht1,tP,DV,_,hq⟩,pC⟩,_,mN⟩:=h;obtain rfl:g1=1:=cA (Mo.symm.trans (show prog.globalNamed "sidestick/sha.roots" =some 1 by kernel_rfl));have e1:(prog.globals[1]?).map (·.type)=some 287:=by kernel_rfl
 obtain rfl:t1=287:=cA (ht1.symm.trans e1);have og:MN.toList=H0.map (eg .u32):=by
  have Gw:NI (λ_=>()) prog W 0 (λ_=>true) false f1 287 MN.toList=some (.agg (H0.map λz=>.lit (.int .u32 z)),p1):=
   DV.trans (congrArg (λd=>some (d,p1)) (show(ad7:DataW Unit)=.agg (H0.map λz=>.lit (.int .u32 z)) by kernel_rfl))
  exact art (k:=.u32) (zs:=H0) (e:=56) (by kernel_rfl) (by kernel_rfl) (by kernel_rfl) (by kernel_rfl) Gw
 obtain⟨t,f,aM⟩:=acs (show prog.globalNamed "sidestick/sha.roots" =some 1 by kernel_rfl) tP;have Jk:MN=au .u32 64 cH:=by
  apply fe;rw[og];simp[H0,au]
 obtain⟨c,t',zl⟩:=(mN 1 0 (by
  rw[pC,hq,Jk];have:MemPlace.cell 1 0∈Wb ⟨1,0,none⟩ (au .u32 64 cH).size:=by
   rw[EW];simp[Wb]
  simp[this])).1
 rw[aM]at zl;simp only[aV,Obj.cells.injEq]at zl;refine⟨t,?_⟩;rw[aM,Jk,zl.2.2]
end
end Go.Proofs.YtggfpcggakghnaaGreatDoor
namespace Sd
open Go Go.RowKit
noncomputable def over (w:ae) (B:Nat) (u:ae):ae:=@ite _ (Below B w u) (Classical.propDecidable _) u w
theorem acu (w:ae) (B:Nat) (u:ae):Below B w (over w B u):=by
 unfold over;split
 ·assumption
 ·exact Below.refl _ _
@[go_sem] theorem awy (w:World) (B:Nat) (u:World) (b o:Nat) (h:b<B):(over w B u).cell? ⟨b,o,none⟩=w.cell? ⟨b,o,none⟩:=(acu w B u).cell h
@[go_sem] theorem awz (w:World) (B:Nat) (u:World) (b o:Nat) (h:b<B):(over w B u).frozen? ⟨b,o,none⟩=w.frozen? ⟨b,o,none⟩:=(acu w B u).frozen h
section
variable{P:aF}
end
theorem bs {w a:ae} (h:Below w.heap.size w a) {p:aO} (hp:w.heap.size<=p.block) (v:ab):Below w.heap.size w (a.setCell p v):=h.setCell hp v
def je (d:TypeDesc):Bool:=match d with|.struct _|.array _ _=>true|_=>false
structure acv (P:aF) (ty n:Nat):Prop where
 desc:∃d,P.underlying ty=some d/\je d=true
 size:(P.info? ty).map (·.size)=some n
theorem acv.load {P:aF} {ty n:Nat} (h:acv P ty n) {w:ae} {g:Nat} {t:aG} {cs:Array ab} {fr:Nat×Nat} (hg:w.heap[g]?=some (.cells cs t fr)) (hn:cs.size=n):
 (loadVar ty ⟨g,0,none⟩).run P w=.ok (.agg cs) w:=by
 obtain⟨⟨d,hu,hd⟩,hs⟩:=h;exact run_loadVar_row w g t ty cs fr d hg hu (by cases d<;>first|rfl|simp[je]at hd) (by rw[hs,hn])
section
variable{P:aF} {ops:Array ao} {rest:List ao} {o:ao} {a:Act} {w:ae} {Q:dR->Act->ae->Prop}
end
def H2 (n:Int):Prop:=-9223372036854775808<=n/\n<=9223372036854775807
theorem i64 {n:Int} (h:-9223372036854775808<=n/\n<=9223372036854775807):H2 n:=h
end Sd
namespace Sd
open Go Go.RowKit Go.ChangeShapes Go.WideShapes Go.ChangeAt
theorem acw {H:Type} {enc:aG×ab->H} {P:aF} (hl:laidOutB P=true) {W W':ae} (hb:Below W.heap.size W W'):
 ∀{ts:List aG} {vs:List ab} {ds:List (DataW H)} {ps:List MemPlace},(ts.all λt=>P.readableRec t&&decide (t<P.types.size))=true->
  DataW.TrodAll enc P W 0 (λ_=>true) true ts vs ds ps->(∀p∈ps,p.block<W.heap.size)->DataW.TrodAll enc P W' 0 (λb=>decide (b<W.heap.size)) true ts vs ds ps
 |[],[],[],_,_,h,_=>h
 |t::ts,v::vs,d::ds,ps,hr,h,hp=>by
  obtain⟨p,q,h1,h2,rfl⟩:=h;simp only[List.all_cons,bg,decide_eq_true_eq]at hr;exact⟨p,q,Below.trod hl hr.1.1 hr.1.2 h1 hb (λx hx=>hp x (oU _ hx)),acw hl hb hr.2 h2 (λx hx=>hp x (tH _ hx)),rfl⟩
 |[],[],_::_,_,_,h,_=>h.elim
 |[],_::_,_,_,_,h,_=>h.elim
 |_::_,[],_,_,_,h,_=>h.elim
 |_::_,_::_,[],_,_,h,_=>h.elim
theorem arv {H:Type} {enc:aG×ab->H} {P:aF} {f:Func} {s:ChangeSpec} {W W':ae} {args:Array ab} {ds gs:List (DataW H)} {before:List MemPlace} {tb:aG}
 (hl:laidOutB P=true) (hr:(f.params.toList.all λt=>P.readableRec t&&decide (t<P.types.size))=true) (acx:s.vars=[]) (uK:f.resultTypes=#[tb]) (TJ:P.underlying tb=some .bool)
 (hs:s.fn H (ds++gs)={results:=[.lit (.bool true)],args:=ds,vars:=[]}) (hW:DataW.Whole enc P f.params.toList s.vars false W args.toList ds gs before) (hb:Below W.heap.size W W'):
 s.post enc P f false true false false W args (.bool true) W':=by
 have hW0:=hW;have dv:=λp hp=>hW.lt p hp;obtain⟨p,q,hA,hV,rfl,hz,hn⟩:=hW;rw[acx]at hV;obtain⟨rfl,rfl⟩:=trodVars_none hV;refine⟨ds,[],p++[],[],p,[],hW0,?_,?_,?_,?_,λh=>by cases h⟩
 ·rw[hs,uK];exact trodAll_mk1 (shut_bool TJ _)
 ·rw[hs];exact acw hl hb hr hA (λx hx=>dv x (by simpa using hx))
 ·rw[hs,acx];exact rfl
 ·exact hb.frame _
section
variable{P:aF} {w:ae} {r:Reach} {b0:Nat} {t:aG} {v:ab}
theorem acy {d:TypeDesc} {ts:List aG} (hu:P.underlying t=some d) (hd:je d=true) (UE:P.cellTypes P.depth t=some ts) (hn:P.cellsOf t=ts.length) (hv:xB P w r b0 t v):
 ∃cs:Array ab,v=.agg cs/\cs.size=ts.length/\∀(i:Nat) x u,cs[i]?=some x->ts[i]?=some u->Ck P w r b0 u x:=by
 have h:∃cs,v=.agg cs/\cs.size=P.cellsOf t/\Row.okWide P w r b0 t cs:=by
  unfold xB at hv;rw[hu]at hv;cases d<;>first|exact hv|simp[je]at hd
 obtain⟨cs,rfl,dw,ts',h1,_,h2⟩:=h;rw[UE]at h1;obtain rfl:ts=ts':=by simpa using h1
 refine⟨cs,rfl,dw.trans hn,?_⟩;intro i x u hx MO;obtain⟨u',h3,h4⟩:=h2 i x hx;have hi:i<ts.length:=by
  rcases cN i ts.length with h|h
  ·exact h
  ·simp[h]at MO
 rw[Nat.mod_eq_of_lt hi,MO]at h3;obtain rfl:u=u':=by simpa using h3
 exact h4
theorem arw {d:TypeDesc} (hu:P.underlying t=some d) (hd:je d=false) (hv:xB P w r b0 t v):Ck P w r b0 t v:=by
 unfold xB at hv;rw[hu]at hv;cases d<;>first|exact hv|simp[je]at hd
theorem acz {k:eS} (hu:P.underlying t=some (.int k)) (h:Ck P w r b0 t v):∃n,v=.int k n/\k.min<=n/\n<=k.max:=by
 unfold Ck at h;rw[hu]at h;unfold Cell.ok at h;rw[hu]at h;cases v<;>simp at h;obtain⟨rfl,h1,h2⟩:=h;exact⟨_,rfl,h1,h2⟩
theorem arx (hu:P.underlying t=some (.int .i64)) (h:Ck P w r b0 t v):∃n,v=.int .i64 n/\H2 n:=by
 obtain⟨n,h1,h2,h3⟩:=acz hu h;exact⟨n,h1,by unfold H2;simpa[IntKind.min,IntKind.max,tJ,tI]using And.intro h2 h3⟩
theorem acA (hu:P.underlying t=some (.int .u8)) (h:Ck P w r b0 t v):∃n,v=.int .u8 n/\0<=n/\n<=255:=by
 obtain⟨n,h1,h2,h3⟩:=acz hu h;exact⟨n,h1,by simpa[IntKind.min,IntKind.max,tJ,tI]using And.intro h2 h3⟩
end
end Sd
namespace Go.Proofs.YtggfpcggakghnaaGreatDoor
section
open Go Go.RowKit Go.WideShapes Sd
def MP (W:ae) (a:Option aO) (n c:Nat):Prop:=n<=c/\((a=none/\n=0/\c=0)\/∃x,a=some x/\(c:Int)<=i64.max/\W.has prog .any 0 x 5 c)
theorem ary {W:ae} {v:ab} {t e:aG} (hu:prog.underlying t=some (.slice e)) (h:Ck prog W .any 0 t v):
 ∃a n c,v=.slice a n c/\n<=c/\((a=none/\n=0/\c=0)\/∃x,a=some x/\(c:Int)<=i64.max/\W.has prog .any 0 x e c):=by
 unfold Ck at h;rw[hu]at h;cases v with
 |slice a n c=>
  unfold Cell.ok at h;rw[hu]at h;cases a with
  |none=>
   cases n<;>cases c<;>first|exact⟨_,_,_,rfl,by omega,Or.inl ⟨rfl,rfl,rfl⟩⟩|(simp at h)
  |some a=>exact⟨_,_,_,rfl,h.1,Or.inr ⟨a,rfl,h.2⟩⟩
 |_=>unfold Cell.ok at h;rw[hu]at h;simp at h
theorem arz {W:ae} {v:ab} (hv:xB prog W .any 0 28 v):
 ∃(q:Nat->Int) (ka:Nat->Option aO) (kn kc:Nat->Nat),v=.agg (A8 q ka kn kc)/\(∀i,-9223372036854775808<=q i/\q i<=9223372036854775807)/\∀i,i<4->MP W (ka i) (kn i) (kc i):=by
 obtain⟨cs,rfl,dw,og⟩:=acy Tryz.underlying28 rfl (ts:=[3,3,3,3,3,23,23,23,23,3,3,3,3,3,3,3,3,3,3,3,3,3,3,3,3,3,3,3,3,3,3,3,3,3,3,3,3,3,3,3,3,3,3,3,3,3,3,3,3,3,3,3,3,3,3,3]) (by kernel_rfl) (by kernel_rfl) hv;have aM:∀i,i<56->∃x,cs[i]?=some x:=λi hi=>⟨cs[i]'(by rw[dw];exact hi),by rw[II]⟩;have hI:∀i,i<56->(i<5\/8<i)->∃n,cs[i]?=some (.int .i64 n)/\H2 n:=by
  intro i hi cw;obtain⟨x,hx⟩:=aM i hi;have ht:([3,3,3,3,3,23,23,23,23,3,3,3,3,3,3,3,3,3,3,3,3,3,3,3,3,3,3,3,3,3,3,3,3,3,3,3,3,3,3,3,3,3,3,3,3,3,3,3,3,3,3,3,3,3,3,3]:List Nat)[i]?=some 3:=by clear hx;revert i;decide
  obtain⟨n,rfl,hn⟩:=arx Tryz.underlying3 (og i x 3 hx ht);exact⟨n,hx,hn⟩
 have hS:∀i,i<4->∃a n c,cs[5+i]?=some (.slice a n c)/\MP W a n c:=by
  intro i hi;obtain⟨x,hx⟩:=aM (5+i) (by omega);have ht:([3,3,3,3,3,23,23,23,23,3,3,3,3,3,3,3,3,3,3,3,3,3,3,3,3,3,3,3,3,3,3,3,3,3,3,3,3,3,3,3,3,3,3,3,3,3,3,3,3,3,3,3,3,3,3,3]:List Nat)[5+i]?=some 23:=by clear hx;revert i;decide
  obtain⟨a,n,c,rfl,h1,h2⟩:=ary Tryz.underlying23 (og (5+i) x 23 hx ht);exact⟨a,n,c,hx,h1,h2⟩
 let q:Nat->Int:=λi=>match cs[i]?with|some (.int _ n)=>n|_=>0
 let ka:Nat->Option aO:=λi=>match cs[5+i]?with|some (.slice a _ _)=>a|_=>none
 let kn:Nat->Nat:=λi=>match cs[5+i]?with|some (.slice _ n _)=>n|_=>0
 let kc:Nat->Nat:=λi=>match cs[5+i]?with|some (.slice _ _ c)=>c|_=>0
 have hq:∀i,i<56->(i<5\/8<i)->cs[i]?=some (.int .i64 (q i))/\H2 (q i):=by
  intro i hi cw;obtain⟨n,hx,hn⟩:=hI i hi cw;have:q i=n:=by simp only[q,hx]
  rw[this];exact⟨hx,hn⟩
 have hk:∀i,i<4->cs[5+i]?=some (.slice (ka i) (kn i) (kc i))/\MP W (ka i) (kn i) (kc i):=by
  intro i hi;obtain⟨a,n,c,hx,hn⟩:=hS i hi;have h1:ka i=a:=by simp only[ka,hx]
  have h2:kn i=n:=by simp only[kn,hx]
  have h3:kc i=c:=by simp only[kc,hx]
  rw[h1,h2,h3];exact⟨hx,hn⟩
 refine⟨q,ka,kn,kc,?_,?_,λi hi=>(hk i hi).2⟩
 ·congr 1;apply Array.ext_getElem?;intro i;by_cases hi:i<56
  ·match i,hi with
   |0,_=>exact(hq 0 (by omega) (by omega)).1.trans rfl
   |1,_=>exact(hq 1 (by omega) (by omega)).1.trans rfl
   |2,_=>exact(hq 2 (by omega) (by omega)).1.trans rfl
   |3,_=>exact(hq 3 (by omega) (by omega)).1.trans rfl
   |4,_=>exact(hq 4 (by omega) (by omega)).1.trans rfl
   |5,_=>exact(hk 0 (by omega)).1.trans rfl
   |6,_=>exact(hk 1 (by omega)).1.trans rfl
   |7,_=>exact(hk 2 (by omega)).1.trans rfl
   |8,_=>exact(hk 3 (by omega)).1.trans rfl
   |9,_=>exact(hq 9 (by omega) (by omega)).1.trans rfl
   |10,_=>exact(hq 10 (by omega) (by omega)).1.trans rfl
   |11,_=>exact(hq 11 (by omega) (by omega)).1.trans rfl
   |12,_=>exact(hq 12 (by omega) (by omega)).1.trans rfl
   |13,_=>exact(hq 13 (by omega) (by omega)).1.trans rfl
   |14,_=>exact(hq 14 (by omega) (by omega)).1.trans rfl
   |15,_=>exact(hq 15 (by omega) (by omega)).1.trans rfl
   |16,_=>exact(hq 16 (by omega) (by omega)).1.trans rfl
   |17,_=>exact(hq 17 (by omega) (by omega)).1.trans rfl
   |18,_=>exact(hq 18 (by omega) (by omega)).1.trans rfl
   |19,_=>exact(hq 19 (by omega) (by omega)).1.trans rfl
   |20,_=>exact(hq 20 (by omega) (by omega)).1.trans rfl
   |21,_=>exact(hq 21 (by omega) (by omega)).1.trans rfl
   |22,_=>exact(hq 22 (by omega) (by omega)).1.trans rfl
   |23,_=>exact(hq 23 (by omega) (by omega)).1.trans rfl
   |24,_=>exact(hq 24 (by omega) (by omega)).1.trans rfl
   |25,_=>exact(hq 25 (by omega) (by omega)).1.trans rfl
   |26,_=>exact(hq 26 (by omega) (by omega)).1.trans rfl
   |27,_=>exact(hq 27 (by omega) (by omega)).1.trans rfl
   |28,_=>exact(hq 28 (by omega) (by omega)).1.trans rfl
   |29,_=>exact(hq 29 (by omega) (by omega)).1.trans rfl
   |30,_=>exact(hq 30 (by omega) (by omega)).1.trans rfl
   |31,_=>exact(hq 31 (by omega) (by omega)).1.trans rfl
   |32,_=>exact(hq 32 (by omega) (by omega)).1.trans rfl
   |33,_=>exact(hq 33 (by omega) (by omega)).1.trans rfl
   |34,_=>exact(hq 34 (by omega) (by omega)).1.trans rfl
   |35,_=>exact(hq 35 (by omega) (by omega)).1.trans rfl
   |36,_=>exact(hq 36 (by omega) (by omega)).1.trans rfl
   |37,_=>exact(hq 37 (by omega) (by omega)).1.trans rfl
   |38,_=>exact(hq 38 (by omega) (by omega)).1.trans rfl
   |39,_=>exact(hq 39 (by omega) (by omega)).1.trans rfl
   |40,_=>exact(hq 40 (by omega) (by omega)).1.trans rfl
   |41,_=>exact(hq 41 (by omega) (by omega)).1.trans rfl
   |42,_=>exact(hq 42 (by omega) (by omega)).1.trans rfl
   |43,_=>exact(hq 43 (by omega) (by omega)).1.trans rfl
   |44,_=>exact(hq 44 (by omega) (by omega)).1.trans rfl
   |45,_=>exact(hq 45 (by omega) (by omega)).1.trans rfl
   |46,_=>exact(hq 46 (by omega) (by omega)).1.trans rfl
   |47,_=>exact(hq 47 (by omega) (by omega)).1.trans rfl
   |48,_=>exact(hq 48 (by omega) (by omega)).1.trans rfl
   |49,_=>exact(hq 49 (by omega) (by omega)).1.trans rfl
   |50,_=>exact(hq 50 (by omega) (by omega)).1.trans rfl
   |51,_=>exact(hq 51 (by omega) (by omega)).1.trans rfl
   |52,_=>exact(hq 52 (by omega) (by omega)).1.trans rfl
   |53,_=>exact(hq 53 (by omega) (by omega)).1.trans rfl
   |54,_=>exact(hq 54 (by omega) (by omega)).1.trans rfl
   |55,_=>exact(hq 55 (by omega) (by omega)).1.trans rfl
   |i+56,h=>exact absurd h (by omega)
  ·rw[Es (by rw[dw];exact V5 hi),Es (V5 hi)]
 ·intro i;by_cases hi:i<56/\(i<5\/8<i)
  ·exact(hq i hi.1 hi.2).2
  ·have:q i=0:=by
    by_cases h5:i<56
    ·obtain⟨a,n,c,hx,_⟩:=hS (i-5) (by omega);rw[show 5+(i-5)=i by omega]at hx;simp only[q,hx]
    ·have hx:cs[i]?=none:=Es (by rw[dw];exact V5 h5);simp only[q,hx]
   rw[this];omega
end
end Go.Proofs.YtggfpcggakghnaaGreatDoor
namespace Sx
open Go Go.RowKit
def Rd (P:aF) (w:ae):Nat->aG->List ab->Prop
 |0,_,_=>True
 |d+1,t,cs=>
  match P.underlying t with
  |some .bool=>∃b,cs=[.bool b]
  |some (.int k)=>∃n,cs=[.int k n]/\k.min<=n/\n<=k.max
  |some (.slice e)=>cs=[.slice none 0 0]\/∃a len cap,cs=[.slice (some a) len cap]/\len<=cap/\cap<=maxLen/\∀i,i<cap->∃mK,w.cells? 0 (a.add (i*P.cellsOf e)) (P.cellsOf e)=some mK/\Rd P w d e mK
  |some (.struct fs)=>cs.length=P.cellsOf t/\∀(i:Nat) f,fs[i]?=some f->Rd P w d f.type ((cs.drop f.offset).take (P.cellsOf f.type))
  |some (.array n e)=>cs.length=P.cellsOf t/\∀i,i<n->Rd P w d e ((cs.drop (i*P.cellsOf e)).take (P.cellsOf e))
  |_=>True
section
variable{H:Type} {enc:aG×ab->H} {P:aF} {w:ae} {held:Bool}
theorem MQ:∀(d:Nat) {fuel:Nat} {t:aG} {cs:List ab} {x:DataW H×List MemPlace},NI enc P w 0 (λ_=>true) held fuel t cs=some x->Rd P w d t cs
 |0,_,_,_,_,_=>trivial
 |d+1,fuel,t,cs,x,h=>by
  unfold Rd;split
  ·rename_i hu;obtain⟨b,hb,_⟩:=DataW.trod_bool hu h;exact⟨b,hb⟩
  ·rename_i k hu;obtain⟨n,hn,_,hw⟩:=DataW.trod_int hu h;refine⟨n,hn,?_⟩;unfold Lit.wf at hw;simpa using hw
  ·rename_i e hu;rcases Deep.open_slice hu h with⟨h0,_⟩|⟨a,len,cap,m,n,D,Pl,hc,_,hl,hm,nu,_,hx⟩
   ·exact .inl h0
   ·refine .inr ⟨a,len,cap,hc,hl,hm,λi hi=>?_⟩;obtain⟨mK,h1,h2⟩:=hx i (by rw[nu];simpa using hi);exact⟨mK,h1,MQ d h2⟩
  ·rename_i fs hu;obtain⟨xs,n,_,_,hl,hs,hx⟩:=DataW.trod_struct hu h;refine⟨hl,λi f hf=>?_⟩;have h1:=hx i f hf;have hi:i<fs.size:=by
    rcases cN i fs.size with h2|h2
    ·exact h2
    ·simp[h2]at hf
   rw[jb (by rw[hs];exact hi)]at h1;exact MQ d h1
  ·rename_i n e hu;obtain⟨xs,m,_,_,hl,hs,hx⟩:=DataW.trod_array hu h;refine⟨hl,λi hi=>?_⟩;have h1:=hx i hi;rw[jb (by rw[hs];exact hi)]at h1;exact MQ d h1
  ·trivial
def cellAt (P:aF):Nat->aG->Nat->Option aG
 |0,_,_=>none
 |d+1,t,j=>
  match P.underlying t with
  |some (.struct fs)=>fs.toList.findSome? λf=>bif bu f.offset j&&cu j (f.offset+P.cellsOf f.type)then cellAt P d f.type (j-f.offset)else none
  |some (.array n e)=>bif cu (j/P.cellsOf e) n&&cu 0 (P.cellsOf e)then cellAt P d e (j%P.cellsOf e)else none
  |_=>bif aq j 0 then some t else none
theorem H3:∀(d:Nat) {t:aG} {cs:List ab} {j:Nat} {u:aG} {v:ab},(∀n,Rd P w n t cs)->cellAt P d t j=some u->cs[j]?=some v->∀n,Rd P w n u [v]
 |0,_,_,_,_,_,_,h,_=>by simp[cellAt]at h
 |d+1,t,cs,j,u,v,hr,h,hv=>by
  unfold cellAt at h;split at h
  ·rename_i fs hu;obtain⟨f,hf,h⟩:=List.exists_of_findSome?_eq_some h;obtain⟨i,hi⟩:=zM hf;have se:fs[i]?=some f:=by simpa using hi
   rw[ad8]at h;split at h
   ·rename_i hc;simp only[bg]at hc;have h1:=du hc.1;have h2:j<f.offset+P.cellsOf f.type:=by
     have:=hc.2;unfold cu at this;exact du this
    refine H3 d (cs:=(cs.drop f.offset).take (P.cellsOf f.type)) (λn=>?_) h ?_
    ·have:=hr (n+1);unfold Rd at this;rw[hu]at this;exact this.2 i f se
    ·rw[V7 (by omega),Ez];rw[show f.offset+(j-f.offset)=j by omega];exact hv
   ·simp at h
  ·rename_i n0 e hu;rw[ad8]at h;split at h
   ·rename_i hc;simp only[bg]at hc;have h1:j/P.cellsOf e<n0:=by
     have:=hc.1;unfold cu at this;exact du this
    have h2:0<P.cellsOf e:=by
     have:=hc.2;unfold cu at this;exact du this
    refine H3 d (cs:=(cs.drop (j/P.cellsOf e*P.cellsOf e)).take (P.cellsOf e)) (λn=>?_) h ?_
    ·have:=hr (n+1);unfold Rd at this;rw[hu]at this;exact this.2 _ h1
    ·rw[V7 (Nat.mod_lt _ h2),Ez];rw[show j/P.cellsOf e*P.cellsOf e+j%P.cellsOf e=j by rw[Nat.mul_comm];exact Nat.div_add_mod _ _];exact hv
   ·simp at h
  ·rename_i hns hna;rw[ad8]at h;split at h
   ·rename_i hj;obtain rfl:j=0:=ck hj;obtain rfl:t=u:=by simpa using h
    intro n;have h1:=hr n;cases n with
    |zero=>trivial
    |succ n=>
     unfold Rd at h1⊢;split at h1
     ·obtain⟨b,rfl⟩:=h1;simp at hv;subst hv;exact⟨b,rfl⟩
     ·obtain⟨k,rfl,h2⟩:=h1;simp at hv;subst hv;exact⟨k,rfl,h2⟩
     ·rcases h1 with rfl|⟨a,len,cap,rfl,h2⟩
      ·simp at hv;subst hv;exact .inl rfl
      ·simp at hv;subst hv;exact .inr ⟨a,len,cap,rfl,h2⟩
     ·rename_i fs hu;exact absurd hu (hns fs)
     ·rename_i k e hu;exact absurd hu (hna k e)
     ·trivial
   ·simp at h
theorem acB {u:aG} {v:ab} {k:eS} (hu:P.underlying u=some (.int k)) (h:∀n,Rd P w n u [v]):∃n,v=.int k n/\k.min<=n/\n<=k.max:=by
 have:=h 1;unfold Rd at this;rw[hu]at this;obtain⟨b,hb,h2⟩:=this;exact⟨b,by simpa using hb,h2⟩
theorem acC {u e:aG} {v:ab} {z:Nat} {ts:List aG} (hu:P.underlying u=some (.slice e)) (h:∀n,Rd P w n u [v]) (hz:P.cellsOf e=z:=by kernel_rfl) (d:Nat) (dO:(bd z).map (cellAt P d e)=ts.map some:=by kernel_rfl):
 v=.slice none 0 0\/∃a len cap,v=.slice (some a) len cap/\len<=cap/\cap<=maxLen/\∃c:Nat->Nat->ab,∀i,i<cap->∀j,j<z->w.cell? (a.add (i*z+j))=some (c i j)/\∀u',ts[j]?=some u'->∀n,Rd P w n u' [c i j]:=by
 have h1:=h 1;unfold Rd at h1;rw[hu]at h1;rcases h1 with h1|⟨a,len,cap,h1,h2,h3,_⟩
 ·exact .inl (by simpa using h1)
 ·obtain rfl:v=_:=by simpa using h1
  refine .inr ⟨a,len,cap,rfl,h2,h3,?_⟩;subst hz;have key:∀i,i<cap->∃mK,w.cells? 0 (a.add (i*P.cellsOf e)) (P.cellsOf e)=some mK/\∀n,Rd P w n e mK:=by
   intro i hi;have aM:∀n,∃mK,w.cells? 0 (a.add (i*P.cellsOf e)) (P.cellsOf e)=some mK/\Rd P w n e mK:=by
    intro n;have h4:=h (n+1);unfold Rd at h4;rw[hu]at h4;rcases h4 with h4|⟨a',arA,arB,h4,_,_,h5⟩
    ·simp at h4
    ·simp at h4;obtain⟨rfl,rfl,rfl⟩:=h4;exact h5 i hi
   obtain⟨mK,hc,_⟩:=aM 0;refine⟨mK,hc,λn=>?_⟩;obtain⟨arC,yb,hr⟩:=aM n;rw[hc]at yb;obtain rfl:mK=arC:=by simpa using yb
   exact hr
  obtain⟨C,hC⟩:=Deep.choose_lt key;refine⟨λi j=>(C i).getD j undef,λi hi j hj=>?_⟩;obtain⟨h5,h6⟩:=hC i hi;obtain⟨_,hl,mN⟩:=World.cells?_some h5;have h7:(C i)[j]?=some ((C i).getD j undef):=by
   have dv:j<(C i).length:=by omega
   simp[ij,jb dv]
  refine⟨?_,λu' MO=>?_⟩
  ·have:=mN j hj;rw[h7]at this;have e1:(a.add (i*P.cellsOf e)).add j=a.add (i*P.cellsOf e+j):=by
    unfold u5;split<;>split<;>split<;>simp_all<;>omega
   rw[e1]at this;exact this
  ·have hjt:cellAt P d e j=some u':=by
    have h8:((bd (P.cellsOf e)).map (cellAt P d e))[j]?=some (some u'):=by rw[dO];simp[MO]
    simp[hj]at h8;exact h8
   exact H3 d h6 hjt h7
end
end Sx
namespace Go.Proofs.YtggfpcggakghnaaGreatDoor
section
open Go Go.RowKit Go.WideShapes Sd Sx
theorem arD {W:ae} {a:Option aO} {m c:Nat} (mN:∀n,Rd prog W n 23 [.slice a m c]) (hk:MP W a m c):∃kb:Nat->Int,Tg [] W a m c kb:=by
 obtain⟨h1,h2⟩:=hk;rcases h2 with⟨e1,e2,e3⟩|⟨x,e1,hc,hh⟩
 ·exact⟨λ_=>0,h1,λ_=>⟨e2,e3⟩,λad ha=>by rw[e1]at ha;cases ha⟩
 ·rcases acC Tryz.underlying23 mN (z:=1) (by kernel_rfl) 5 (ts:=[5]) (by kernel_rfl)with h0|⟨a',arA,arB,h0,_,_,C,hC⟩
  ·rw[e1]at h0;simp at h0
  ·rw[e1]at h0;simp only[Value.slice.injEq,aV]at h0;obtain⟨rfl,rfl,rfl⟩:=h0;refine⟨λj=>match C j 0 with|.int _ n=>n|_=>0,h1,λh=>(by rw[e1]at h;cases h),λad ha=>⟨by simp,λj hj=>?_⟩⟩;rw[e1]at ha;obtain rfl:=cA ha;obtain⟨h3,h4⟩:=hC j (by omega) 0 (by omega);obtain⟨n,h5,_⟩:=acB Tryz.underlying5 (h4 _ rfl);simp only[h5]at h3⊢;simpa using h3
theorem arE {W:ae} {v:ab} (hv:xB prog W .any 0 28 v) (hr:∀n,Rd prog W n 28 v.cells.toList):
 ∃(q:Nat->Int) (ka:Nat->Option aO) (kn kc:Nat->Nat) (kb:Nat->Nat->Int),v=.agg (A8 q ka kn kc)/\(∀i,-9223372036854775808<=q i/\q i<=9223372036854775807)/\∀i,i<4->Tg [] W (ka i) (kn i) (kc i) (kb i):=by
 obtain⟨q,ka,kn,kc,rfl,hq,hk⟩:=arz hv;have key:∀i,i<4->∃kb:Nat->Int,Tg [] W (ka i) (kn i) (kc i) kb:=by
  intro i hi;have mN:∀n,Rd prog W n 23 [.slice (ka i) (kn i) (kc i)]:=by
   have h5:(A8 q ka kn kc)[5+i]?=some (.slice (ka i) (kn i) (kc i)):=by
    match i,hi with
    |0,_=>rfl
    |1,_=>rfl
    |2,_=>rfl
    |3,_=>rfl
    |i+4,h=>exact absurd h (by omega)
   have pd:cellAt prog 6 28 (5+i)=some 23:=by
    have e:i=0\/i=1\/i=2\/i=3:=by omega
    rcases e with rfl|rfl|rfl|rfl
    ·show cellAt prog 6 28 5=some 23;kernel_rfl
    ·show cellAt prog 6 28 6=some 23;kernel_rfl
    ·show cellAt prog 6 28 7=some 23;kernel_rfl
    ·show cellAt prog 6 28 8=some 23;kernel_rfl
   exact H3 6 (P:=prog) (w:=W) (t:=28) (cs:=(A8 q ka kn kc).toList) (j:=5+i) hr pd (by simpa using h5)
  exact arD mN (hk i hi)
 obtain⟨kb,hkb⟩:=Deep.choose_lt key;exact⟨q,ka,kn,kc,kb,rfl,hq,hkb⟩
end
section
open Go Go.RowKit Go.BigFrame Go.WideShapes Go.ChangeShapes Sd Sx Vx
section
variable{H:Type} {enc:aG×ab->H} {P:aF} {w:ae} {base:Nat} {spare:Nat->Bool} {held:Bool} {fuel:Nat} {t e:aG} {cs:List ab} {ps:List MemPlace}
theorem arF {zs:List Bool} (ht:P.underlying t=some (.array zs.length e)) (he:P.underlying e=some .bool) (hc:P.cellsOf e=1) (hn:P.cellsOf t=zs.length)
 (h:NI enc P w base spare held fuel t cs=some (.agg (zs.map λz=>.lit (.bool z)),ps)):cs=zs.map Ce:=by
 obtain⟨xs,m,rfl,hx,hlen,vu,om⟩:=DataW.trod_array ht h;simp only[bw,DataW.agg.injEq]at hx;rw[hn]at hlen;apply u_;intro i;by_cases hi:i<zs.length
 ·have h1:=om i hi;rw[hc,Nat.mul_one,jb (by omega)]at h1;obtain⟨z,e1,e2⟩:=DataW.trod_bool he h1;have h3:(zs.map λz=>(DataW.lit (.bool z):DataW H))[i]?=(xs.map (·.1))[i]?:=by rw[hx.1]
  rw[iZ,iZ,jb hi,jb (by omega),lO,lO]at h3;have e3:=congrArg Prod.fst e2;rw[e3]at h3;simp at h3;rw[acr e1,iZ,jb hi,lO,h3]
 ·rw[iK (by omega),iK (by simp;omega)]
end
def MR:List Bool:=[false,false,false,false,false,false,false,false,false,false,true,true]
theorem arG {W:ae} (h:laidMetH prog UD W):∃t,W.heap[0]?=some (.cells #[.bool false,.bool false,.bool false,.bool false,.bool false,.bool false,.bool false,.bool false,.bool false,.bool false,.bool true,.bool true] t (0,0)):=by
 rw[MakeChecks.laidMetH_plain _ _ _ (by kernel_rfl)]at h;obtain⟨ps,⟨g0,t0,ML,f0,p0,q0,hg0,MM,rQ,hd0,⟨g1,t1,MN,f1,p1,q1,Mo,ht1,tP,DV,_,hq⟩,pC⟩,_,mN⟩:=h;obtain rfl:g0=0:=cA (hg0.symm.trans (show prog.globalNamed "sidestick/gate.commands" =some 0 by kernel_rfl));have e1:(prog.globals[0]?).map (·.type)=some 269:=by kernel_rfl
 obtain rfl:t0=269:=cA (MM.symm.trans e1);have og:ML.toList=MR.map Ce:=by
  have Gw:NI (λ_=>()) prog W 0 (λ_=>true) false f0 269 ML.toList=some (.agg (MR.map λz=>.lit (.bool z)),p0):=
   hd0.trans (congrArg (λd=>some (d,p0)) (show(Rows.laid_sidestick_gate_commands:DataW Unit)=.agg (MR.map λz=>.lit (.bool z)) by kernel_rfl))
  exact arF (zs:=MR) (e:=4) (by kernel_rfl) (by kernel_rfl) (by kernel_rfl) (by kernel_rfl) Gw
 obtain⟨t,f,aM⟩:=acs (show prog.globalNamed "sidestick/gate.commands" =some 0 by kernel_rfl) rQ;have Cx:ML=#[.bool false,.bool false,.bool false,.bool false,.bool false,.bool false,.bool false,.bool false,.bool false,.bool false,.bool true,.bool true]:=by
  apply fe;rw[og];rfl
 obtain⟨c,t',zl⟩:=(mN 0 0 (by
  rw[pC,Cx];have:MemPlace.cell 0 0∈Wb ⟨0,0,none⟩ 12:=by
   simp[Wb]
  exact oU _ (oU _ this))).1
 rw[aM]at zl;simp only[aV,Obj.cells.injEq]at zl;refine⟨t,?_⟩;rw[aM,Cx,zl.2.2]
theorem arH {W:ae} {v:ab} (h:∀n,Rd prog W n 23 [v]):∃a n c,v=.slice a n c/\kq W a n c (fk W a):=by
 rcases acC Tryz.underlying23 h (z:=1) (by kernel_rfl) 5 (ts:=[5]) (by kernel_rfl)with rfl|⟨a,len,cap,rfl,hle,_,C,hC⟩
 ·exact⟨none,0,0,rfl,dE _,λ_=>⟨rfl,rfl⟩,λx e=>nomatch e⟩
 ·have hb:∀j,j<len->∃n,C j 0=.int .u8 n/\0<=n/\n<=255:=λj hj=>by
   obtain⟨n,h5,h6⟩:=acB Tryz.underlying5 ((hC j (by omega) 0 (by omega)).2 _ rfl);exact⟨n,h5,by simpa[IntKind.min,IntKind.max,tJ,tI]using h6⟩
  refine⟨some a,len,cap,rfl,aqK (f:=λj=>match C j 0 with|.int _ n=>n|_=>0) ⟨hle,(λe=>nomatch e),λx e j hj=>?_⟩ λj hj=>?_⟩
  ·obtain rfl:=cA e;obtain⟨n,h5,_⟩:=hb j hj;have h3:=(hC j (by omega) 0 (by omega)).1;simp only[h5]at h3⊢;simpa using h3
  ·obtain⟨n,h5,h6⟩:=hb j hj;simp only[h5];exact h6
theorem arI {W:ae} {v:ab} (hv:xB prog W .any 0 28 v) (hr:∀n,Rd prog W n 28 v.cells.toList):
 ∃(q:Nat->Int) (ka:Nat->Option aO) (kn kc:Nat->Nat),v=.agg (qW ⟨q,λ_=>(0,λ_=>0)⟩ ka kn kc).toArray/\∀j,j<4->kq W (ka j) (kn j) (kc j) (fk W (ka j)):=by
 obtain⟨q,ka,kn,kc,kb,rfl,hq,hk⟩:=arE hv hr;refine⟨q,ka,kn,kc,rfl,λj hj=>?_⟩;have mN:∀n,Rd prog W n 23 [.slice (ka j) (kn j) (kc j)]:=by
  have h5:(A8 q ka kn kc)[5+j]?=some (.slice (ka j) (kn j) (kc j)):=by
   match j,hj with
   |0,_=>rfl
   |1,_=>rfl
   |2,_=>rfl
   |3,_=>rfl
   |j+4,h=>exact absurd h (by omega)
  have pd:cellAt prog 6 28 (5+j)=some 23:=by
   have e:j=0\/j=1\/j=2\/j=3:=by omega
   rcases e with rfl|rfl|rfl|rfl
   ·show cellAt prog 6 28 5=some 23;kernel_rfl
   ·show cellAt prog 6 28 6=some 23;kernel_rfl
   ·show cellAt prog 6 28 7=some 23;kernel_rfl
   ·show cellAt prog 6 28 8=some 23;kernel_rfl
  exact H3 6 (P:=prog) (w:=W) (t:=28) (cs:=(A8 q ka kn kc).toList) (j:=5+j) hr pd (by simpa using h5)
 obtain⟨a,n,c,e,h⟩:=arH mN;simp only[Value.slice.injEq]at e;obtain⟨rfl,rfl,rfl⟩:=e;exact h
theorem arJ {W:ae} {v:ab} {t:aG} {n:Nat} (hu:prog.underlying t=some (.array n 5)) (UE:prog.cellTypes prog.depth t=some (lP n 5)) (hn:prog.cellsOf t=n) (hv:xB prog W .any 0 t v):
 ∃cs:Array ab,v=.agg cs/\cs.size=n/\∀(i:Nat) x,cs[i]?=some x->∃z,x=.int .u8 z/\0<=z/\z<=255:=by
 obtain⟨cs,rfl,hs,h⟩:=acy hu rfl UE (by rw[hn];simp) hv;refine⟨cs,rfl,by simpa using hs,λi x hx=>?_⟩;have hi:i<n:=by
  rcases cN i cs.size with h1|h1
  ·simpa[hs]using h1
  ·rw[Es h1]at hx;cases hx
 exact acA Tryz.underlying5 (h i x 5 hx (by simp[hi]))
theorem arK {W:ae} {v:ab} (hv:xB prog W .any 0 29 v):∃x0 x1,v=.agg #[.int .u8 x0,.int .u8 x1]/\(0<=x0/\x0<=255)/\0<=x1/\x1<=255:=by
 obtain⟨cs,rfl,hs,h⟩:=arJ (n:=2) (by kernel_rfl) (by kernel_rfl) (by kernel_rfl) hv;rcases cs with⟨l⟩
 match l,hs with
 |[a,b],_=>
  obtain⟨z0,rfl,h0⟩:=h 0 a rfl;obtain⟨z1,rfl,h1⟩:=h 1 b rfl;exact⟨z0,z1,rfl,h0,h1⟩
end
section
open Go Go.RowKit Go.BigFrame Sx Vx
variable{fr:Sd.aE->Nat×Sd.av}
section
variable{G:Type} [Bl G]
theorem acD {C:Ctx G} {f n:Nat} {ids:List Nat} {bl:List VB} {ch0 rest:List G} {R:List ai} {ms:List Nat} {w0 w:ae} (hT:∀f c,C.T f=some c->Sound C.P C.gl f c) (hQ:pD C) (hl:ids.length=bl.length) (S:St ms w0 (lits ids ids bl++ax (ch0++rest) R) w)
 (is:List Nat) (hn:is.Nodup) (hg:Gl C.gl (is.map λi=>ids.getD i 0)) (bs:List VB) (hb:is.map (bl[·]?)=bs.map some) (hw:bM 0 bs=true) {args args':List V} (cR:aD ids args=aD (is.map λi=>ids.getD i 0) args') {v0:V} (rQ:cK 0 v0=true)
 (cS:bo C n f args' bs ch0 (br bs.length λv b c=>v=v0/\b.take bs.length=bs/\∃c2,c=ch0++c2)):aS C.P f (aD ids args).toArray w λv w'=>v=den [] v0/\St ms w0 (lits ids ids bl++ax (ch0++rest) R) w':=by
 have hlen:is.length=bs.length:=by have:=congrArg List.length hb;simpa using this
 have qH:∀(k i:Nat),is[k]?=some i->∃b,bs[k]?=some b/\bl[i]?=some b:=by
  intro k i hk;have:=congrArg (λl=>l[k]?) hb;simp only[iZ,hk,lO]at this;cases H4:bs[k]?with
  |none=>rw[H4]at this;simp at this
  |some b=>rw[H4]at this;simp only[lO,aV]at this;exact⟨b,rfl,this⟩
 have dv:∀i∈is,i<bl.length:=by
  intro i hi;obtain⟨k,hk⟩:=zM hi;obtain⟨b,_,h2⟩:=qH k i hk;exact iU h2
 obtain⟨r,hr,hp⟩:=yW (bl:=bl) (ids:=ids) hl hn dv;have gM:=hp bl rfl;have CM:∀(BR:List Nat),(is.map λj=>az ids (ids.getD j 0) (bl.getD j di))=lits BR (is.map λi=>ids.getD i 0) bs:=by
  intro BR;clear hr hp gM cR cS dv hg;induction is generalizing bs with
  |nil=>simp[lits]
  |cons i is ih=>
   cases bs with
   |nil=>simp at hlen
   |cons b bs=>
    simp only[eH,List.cons.injEq]at hb;simp only[bM,bg]at hw;simp only[eH,lits,jm hb.1];rw[mL (ids':=BR) hw.1,ih (qz.1 hn).2 bs hb.2 hw.2 (by simpa using hlen) (λk i hk=>qH (k+1) i (by simpa using hk))]
 rw[CM (is.map λi=>ids.getD i 0)]at gM;have S1:St ms w0 (lits (is.map λi=>ids.getD i 0) (is.map λi=>ids.getD i 0) bs++ax ch0 ((r.map λj=>az ids (ids.getD j 0) (bl.getD j di))++ax rest R)) w:=by
  refine S.perm ((gM.append_right _).trans ?_);rw[mD,iI (ax rest R) ch0,iI ((r.map λj=>az ids (ids.getD j 0) (bl.getD j di))++ax rest R) ch0];exact gO λf=>by simp only[ik];omega
 rw[cR];refine(eG hT hQ n hg (by simpa using hlen) S1 cS).mono ?_;rintro v w' ⟨x,H5,bl0,ch',rfl,tU,S0,hK⟩;obtain⟨v2,more,bl',hv,nF,S2,rfl,UF,c2,rfl⟩:=hU (n0:=bs.length) tU (by simp[hlen]) S0 hK;have LU:((is.map λi=>ids.getD i 0)++H5).take bs.length=is.map λi=>ids.getD i 0:=by rw[<-hlen];have:=List.take_left (l₁:=is.map λi=>ids.getD i 0) (l₂:=H5);simpa using this
 rw[LU]at hv nF S2;refine⟨by rw[hv];have:=fI (ids:=[]) (more:=(is.map λi=>ids.getD i 0)++more) v2 rQ;simpa using this,?_⟩;have nH:bl'=bs++bl'.drop bs.length:=by have:=jv bs.length bl';rw[UF]at this;exact this.symm
 rw[nH,eZ _ _ _ _ (by simpa using hlen),zi (ids':=is.map λi=>ids.getD i 0) (is.map λi=>ids.getD i 0) bs hw]at S2;rw[mD,iI _ ch0,iI _ c2]at S2;have S3:St ms w0 (lits (is.map λi=>ids.getD i 0) (is.map λi=>ids.getD i 0) bs++(ax ch0 []++((r.map λj=>az ids (ids.getD j 0) (bl.getD j di))++ax rest R))) w':=by
  refine S2.sub ?_;rw[bR];refine zO ?_ _;refine List.Sublist.trans ?_ (oT _ _);exact zO (oT _ _) _
 refine S3.perm (EA ?_ (gM.symm.append_right _));rw[mD,iI (ax rest R) ch0];exact gO λf=>by simp only[ik];omega
end
theorem arL {G:Type} [Bl G] {C:Ctx Empty} {f n:Nat} {ids:List Nat} {bl:List VB} {ch:List G} {R:List ai} {ms:List Nat} {w0 w:ae} (hT:∀f c,C.T f=some c->Sound C.P C.gl f c) (hQ:pD C) (hg:C.gl=cU) (hl:ids.length=bl.length) (S:St ms w0 (lits ids ids bl++ax ch R) w)
 (is:List Nat) (hn:is.Nodup) (bs:List VB) (hb:is.map (bl[·]?)=bs.map some) (hw:bM 0 bs=true) {args args':List V} (cR:aD ids args=aD (is.map λi=>ids.getD i 0) args') {v0:V} (rQ:cK 0 v0=true)
 (cS:bo C n f args' bs [] (br bs.length λv b c=>v=v0/\b.take bs.length=bs/\∃c2,c=[]++c2)):aS C.P f (aD ids args).toArray w λv w'=>v=den [] v0/\St ms w0 (lits ids ids bl++ax ch R) w':=
 acD (G:=Empty) (ch0:=[]) (rest:=[]) (R:=ax ch R) hT hQ hl S is hn (λg i h=>by rw[hg]at h;cases h) bs hb hw cR rQ cS
theorem arM (C:Sd.aL) (p:Sd.aN) {m:Sd.aY} (hm:C.take 2 (f2 1 1)=some m) (hr:m.role=1) (ht:Sd.iq p 1 1=true):∃r e,(fM C (gT p) 1 0 2 (f2 1 1)).bh=[(1,r)]/\(fM C (gT p) 1 0 2 (f2 1 1)).bA=[⟨2,1,0,e,0,0⟩]/\(fM C (gT p) 1 0 2 (f2 1 1)).c.t.ay=4/\(fM C (gT p) 1 0 2 (f2 1 1)).c.p=p:=by
 have e:fM C (gT p) 1 0 2 (f2 1 1)=(gT p).kQ C 1 2 (f2 1 1):=rfl;rw[e];unfold Sd.aa.kQ;rw[hm];dsimp only;have ht':Sd.iq (gT p).c.p 1 m.role=true:=by rw[hr];exact ht
 rw[if_neg (by rw[ht'];simp),if_neg (by show¬(4294967295:Int)<=0;decide)];exact⟨_,_,rfl,rfl,rfl,rfl⟩
theorem arN:∃m,aH 2 (f2 1 1)=some m/\m.role=1:=⟨_,rfl,rfl⟩
def UG:c_ (LG fr):=λargs bl ch K=>match args,ch,bl with
 |[],.aZ u::rest,⟨w0,⟨tg,(0,0)⟩,c0⟩::⟨w1,⟨tc,(0,0)⟩,c1⟩::bl2=>(w0=false/\c0=(lh tg).c/\w1=false/\c1=(oH tc).c)/\K (.bool true) (⟨w0,⟨tg,(0,0)⟩,c0⟩::⟨w1,⟨tc,(0,0)⟩,c1⟩::bl2) (.aZ u::rest)
 |_,_,_=>False
theorem MS (u:ae) (f:Nat->Int):kq u none 0 0 f:=⟨dE _,λ_=>⟨rfl,rfl⟩,λx e=>nomatch e⟩
theorem H6 {tg tc it:Nat} {k:LK} {s:Sd.aa} (h1:k.tg=tg) (h2:k.tc=tc) (h3:s.c.p.queue=k.most):xi tg tc it k s:=by
 subst h1 h2;exact⟨rfl,rfl,rfl,rfl,rfl,h3⟩
theorem arO {tg tc:Nat} {u:ae} {K:VK (LG fr)} (hK:∀(g:Gh fr) (fB:List ai),K (.bool true) [lh tg,oH tc] [.aZ u,.core g fB]):shX (aJ aH) tg tc u K:=by
 refine⟨⟨MS _ _,MS _ _,MS _ _,MS _ _⟩,λp n d hM=>?_⟩;have hn:∀j,j<4->1<=n j/\n j<=64:=λj hj=>by rw[hM.n j];exact ab5 _
 obtain⟨h1,h2⟩:=arp (m:=2) (d:=d) hM.I hM.o hn;have Sc:HV (jG 2 p n d) (n4 n):=⟨h1.code,λj hj=>by
  rw[<-h1.n j hj]
  match j,hj with
  |0,_=>rfl
  |1,_=>rfl
  |2,_=>rfl
  |3,_=>rfl
  |j+4,h=>exact absurd h (by omega),h1.k⟩
 refine⟨Sc,λp2 k F hN v1 v2=>?_⟩;have hC:=aco hN (h2 _) (λj hj=>by rw[zk _ _ _ _ hj];exact hn j hj);refine⟨H6 hN.tg hN.tc hN.most.symm,⟨rfl,rfl,rfl⟩,hN.kj,⟨by rw[qc];exact hC,v1,v2,by decide,λj=>by unfold f2;split<;>decide⟩,?_⟩;rintro s' hs r fn F0 w1 w2 Mm;rw[qc]at hs;obtain⟨m,hm,hr⟩:=arN;have hp:p2.i 10=2:=by
  rw[hN.eq];show iN (nth (jG 2 p n d) 10)=2;rw[MH 2 p n d (by decide) rfl,hM.p 10 (by decide) rfl];show bits .and .i64 2 14=2;decide
 have ht:Sd.iq p2 1 1=true:=by
  unfold Sd.iq Sd.aN.Am;have:p2.i (9+Int.toNat 1)=2:=hp;rw[this];decide
 obtain⟨x,e,q1,q2,q3,hpq⟩:=arM (aJ aH) p2 hm hr ht;rw[<-hs]at q1 q2 q3 hpq;have l1:s'.bh.length=1:=by rw[q1];rfl
 have l2:s'.bA.length=1:=by rw[q2];rfl
 have l3:(s'.bh.getD 0 default).1=1:=by rw[q1];rfl
 have l4:(s'.bA.getD 0 default).kind=2:=by rw[q2];rfl
 unfold shE;refine aI (λ_=>⟨⟨by decide,by omega⟩,⟨by omega,λj=>rfl⟩,?_⟩) (λh=>absurd h (by simp[l1]));refine aI (λ_=>?_) (λh=>absurd h (by rw[l3];decide));refine aI (λ_=>⟨⟨by decide,by omega⟩,⟨by omega,λj=>rfl⟩,?_⟩) (λh=>absurd h (by simp[l2]));refine aI (λ_=>?_) (λh=>absurd h (by rw[l4];decide));refine⟨H6 hN.tg hN.tc (by show s'.c.p.queue=k.most;rw[hpq];exact hN.most.symm),λx c ty us=>?_⟩;have:((cE s').c.t.ay==4)=true:=by show(s'.c.t.ay==4)=true;rw[q3];rfl
 rw[this];exact hK _ _
theorem arP (ht:Body (fr:=fr) 147 dI):Sound prog gS 9 (UG (fr:=fr)):=by
 intro args ids bl ch R ms w0 w K hg hl S hc;unfold UG at hc;split at hc
 ·rename_i u rest HX tg c0 HY tc c1 bl2;obtain⟨⟨rfl,rfl,rfl,rfl⟩,hK⟩:=hc;have EN:Gl gS ([0,1].map λi=>ids.getD i 0):=by
   intro g i dz;unfold gS at dz;split at dz
   ·obtain rfl:=cA dz;exact⟨by simp,(hg 1 0 rfl).2⟩
   ·obtain rfl:=cA dz;exact⟨by simp,(hg 0 1 rfl).2⟩
   ·cases dz
  have cS:bo (bP prog gS (MJ fr (aJ aH))) 60 9 [] [lh tg,oH tc] [.aZ u] (br 2 λv b c=>v=.bool true/\b.take 2=[lh tg,oH tc]/\∃c2,c=[.aZ u]++c2):=by
   rw[ars];exact arO λg fB=>⟨rfl,rfl,_,rfl⟩
  refine(acD (C:=bP prog gS (MJ fr (aJ aH))) (acq ht).T (acq ht).Q hl (ch0:=[.aZ u]) (rest:=rest) S [0,1] (by decide) EN [lh tg,oH tc] rfl rfl (args:=[]) (args':=[]) rfl rfl cS).mono ?_;rintro v w' ⟨rfl,S2⟩;exact⟨.bool true,[],_,_,rfl,by simpa using hl,by simpa using S2,hK⟩
 ·exact hc.elim
def MT (P:aF):(ba->V)->Op->List VB->List (LG fr)->VK (LG fr)->Prop:=λe op bl ch K=>match op with
 |.buildSlice t 0 ps=>(match ps.toList,P.underlying t with
  |[],some (.slice T)=>(match eu P T,mB P T with
   |some (z+1),some zc=>cond (aq (bY zc) (z+1)) (∀r:bU,r.T=T->r.z=z+1->r.os=[]->r.n=0->K r.v bl (ch++[.row r])) False
   |_,_=>False)
  |_,_=>False)
 |.call c=>(match c.callee,c.args.toList,c.argTypes.toList with
  |.builtin .append,[s,xs],[t,tx]=>(match P.underlying t,P.underlying tx with
   |some (.slice T),some (.slice _)=>(match sL P T,e xs,ch with
    |some (z,bI),.f_ i 0 m cc x,.aZ u::.core g fB::.row r::rest=>(match bl[i]?with
     |some ⟨_,_,[.fh z' m' f,.rest _]⟩=>cond (aq z z'&&bu bI 10000000)
      ((e s=r.v/\r.T=T/\r.z=z/\m'=m/\(∀j,(f j).length=z)/\(∀j u,u∈f j->u.oneCell'=true)/\r.n+m<=1000000)/\
        ∀r2:bU,r2.T=r.T->r2.z=r.z->r2.os=r.os++(bd m).flatMap f->r2.n=r.n+m->K r2.v bl (.aZ u::.core g fB::.row r2::rest)) False
     |_=>False)
    |_,_,_=>False)
   |_,_=>False)
  |_,_,_=>False)
 |_=>False
theorem acE {z:Nat} {f:Nat->List ab} (h:∀j,(f j).length=z):∀m,((bd m).flatMap f).length=m*z
 |0=>by simp
 |m+1=>by rw[Cf,Ey,fq,acE h m];simp[h,mq]
theorem MU (u:ae) (g:Gh fr) (fB:List ai) (r:bU) (rest:List (LG fr)) (R:List ai):ax (LG.aZ u::LG.core g fB::LG.row r::rest) R=(dC u++(g.F.B++fB))++(r.bl++ax rest R):=by
 show dC u++((g.F.B++fB)++(r.bl++ax rest R))=_;simp only[bR]
theorem acF {P:aF} {gl:Nat->Option Nat}:fP P gl (MT (fr:=fr) P):=by
 intro e op ids bl ch R ms w0 w K ρ o hg hl S a9 ho h;unfold MT at h;split at h
 ·rename_i t ps;split at h
  ·rename_i T pC hu;split at h
   ·rename_i z zc hz OO;cases hq:aq (bY zc) (z+1)with
    |false=>rw[hq]at h;exact h.elim
    |true=>
     rw[hq]at h;simp only[cond_true]at h;have bG:=Xc (P:=P) (ids:=ids) (w:=w) (len:=0) (ps:=[]) (c:=[]) hu hz OO (ck hq) (by simp) rfl
     let r:bU:=⟨T,z+1,[],some ⟨w.heap.size,0,none⟩,0,0,[⟨w.heap.size,true,.cells #[] T (0,0)⟩],by simp,dE _,.inr ⟨w.heap.size,[],rfl,rfl,by simp⟩⟩
     have hn:=S.new (Ch.alloc [] w (.cells #[] T)) (dE _) (mX w _);refine⟨r.v,[],bl,ch++[.row r],w.alloc (.cells #[] T),.inl ?_,by simpa using hl,?_,h r rfl rfl rfl rfl⟩
     ·unfold execOp;have hp0:ps=#[]:=by apply fe;simpa using pC
      subst hp0;simp only[ho];rw[bx];have h2:(V3 t 0 #[]).run P w=.ok (.slice (some ⟨w.heap.size,0,none⟩) 0 0) (w.alloc (.cells #[] T)):=bG;have h3:((#[]:Array (Nat×ba)).map λ(x:Nat×ba)=>match x with|(i,x)=>(i,ρ x))=#[]:=by simp
      rw[h3,h2];rfl
     ·rw[cQ,mD];have e2:ax [LG.row (fr:=fr) r] R=⟨w.heap.size,true,.cells #[] T (0,0)⟩::R:=rfl;rw[e2,iI (_::R) ch];rw[iI R ch]at hn;refine hn.perm ?_;exact gO λf=>by simp only[ik,zW];omega
   ·exact h.elim
  ·exact h.elim
 ·rename_i c;split at h
  ·rename_i s xs t tx eQ cR dO;split at h
   ·rename_i T T' ht gh;split at h
    ·rename_i z bI i m cc x u g fB r rest bZ fN;split at h
     ·rename_i wr ty z' m' f us hb;cases hq:aq z z'&&bu bI 10000000 with
      |false=>rw[hq]at h;exact h.elim
      |true=>
       rw[hq]at h;simp only[cond_true]at h;simp only[bg]at hq;obtain⟨q1,q4⟩:=hq;obtain rfl:=ck q1;have q4:=du q4;obtain⟨⟨hs,rfl,rfl,rfl,hf,ho1,hn⟩,hK⟩:=h;have hi:(P.info? r.T).map (λi=>(i.zero.map (·.cells.size),i.size,i.bytes))=some (some r.z,r.z,bI):=by
        unfold sL at bZ;split at bZ
        ·rename_i inf sO;split at bZ
         ·rename_i v hv;cases pE:aq v.cells.size inf.size with
          |false=>rw[pE]at bZ;simp at bZ
          |true=>
           rw[pE]at bZ;simp only[cond_true,aV,bw]at bZ;have:=ck pE;simp[sO,hv,this,bZ.1,bZ.2]
         ·cases bZ
        ·cases bZ
       have aM:=(fE hl S hb).2;have hlen:=acE hf m';have vO:∀u∈(bd m').flatMap f,u.oneCell'=true:=λu hu=>by
        obtain⟨j,_,hj⟩:=List.mem_flatMap.1 hu;exact ho1 j u hj
       have fH:Src P r.z tx (.slice (bif aq m' 0 then x else some ⟨ids.getD i 0,0,none⟩) m' cc) m' ((bd m').flatMap f) w:=by
        by_cases h0:m'=0
        ·subst h0;cases x with
         |none=>exact Src.ofNil w gh cc
         |some a=>exact rU w gh a 0 cc [] (by simp) (λj u hj=>by simp at hj) (λu hu=>by simp at hu)
        ·have vD:aq m' 0=false:=by
          cases vD:aq m' 0 with
          |false=>rfl
          |true=>exact absurd (ck vD) h0
         rw[vD];refine rU w gh ⟨ids.getD i 0,0,none⟩ m' cc _ hlen (λj u hj=>?_) vO;rw[iE,cell_of aM];simp only[ah,cl,cQ];have UH:j<((bd m').flatMap f).length:=by
          rcases cN j ((bd m').flatMap f).length with h|h
          ·exact h
          ·rw[iK h]at hj;cases hj
         rw[jt,eD,gV UH];exact hj
       have e1:lits ids ids bl++ax (LG.aZ u::LG.core g fB::LG.row r::rest) R=(lits ids ids bl++(dC u++(g.F.B++fB)))++(r.bl++ax rest R):=by
        simp only[MU,bR]
       rw[e1]at S;have kV:(r.n+m')*bI<=140737488355328:=iY (Nat.mul_le_mul hn q4) (by decide);obtain⟨v,w',bG,hc,x',c',bl',rfl,fD,mE⟩:=Cs (P:=P) (ty:=o.type) r.h (λy hy=>S.at' (by simp[hy])) bI fH ht hi kV (iY hn (by decide));have S2:=S.tN r.h.wr hc (λy hy=>(mE y hy).1) (λy hy=>(mE y hy).2) fD.pw;refine⟨_,[],bl,_,w',.inl ?_,by simpa using hl,?_,hK ⟨r.T,r.z,_,x',r.n+m',c',bl',fD⟩ rfl rfl rfl rfl⟩
       ·obtain⟨nq,ar,iy⟩:=c;simp only at eQ cR dO;have e2:ar=#[s,xs]:=by rw[<-cR]
        have e3:iy=#[t,tx]:=by rw[<-dO]
        subst eQ e2 e3;have:=jL (P:=P) (ρ:=ρ) (o:=o) ho (sv:=.slice r.x r.n r.c) (xv:=.slice (bif aq m' 0 then x else some ⟨ids.getD i 0,0,none⟩) m' cc) (by rw[a9,hs];simp only[bU.v,den]) (by rw[a9,fN];simp only[den]) bG;simpa[den,bU.v]using this
       ·rw[cQ];have e4:lits ids ids bl++ax (LG.aZ u::LG.core g fB::LG.row ⟨r.T,r.z,r.os++(bd m').flatMap f,x',r.n+m',c',bl',fD⟩::rest) R=(lits ids ids bl++(dC u++(g.F.B++fB)))++(bl'++ax rest R):=by
         simp only[MU,bR]
        rw[e4];exact S2
     ·exact h.elim
    ·exact h.elim
   ·exact h.elim
  ·exact h.elim
 ·exact h.elim
structure SiD where
 h:Int
 e:Int
 o:Int
 m:Int
 mb:Sd.Label
 pt:Sd.eF
 b0:Bool
 b1:Bool
 b2:Bool
 b3:Bool
 b4:Bool
 r0:Int
 r1:Int
 r2:Int
 r3:Int
 r4:Int
 bad:Bool
section
variable(x:SiD) (n c c':Nat) (y y':Option aO) (q:Nat->Int) (a b:Bool) (ty ty':BT) (u u':List ab) (K:VK Empty)
end
def H7:c_ (LG fr):=λargs bl ch K=>match args,ch with
 |[.ptr ic 0],.aZ u::.core g fB::rest=>(match bl[ic]?with
  |some ⟨true,⟨105,(0,0)⟩,cc⟩=>(match Bc cc with
   |some x=>(match bl[x.it]?with
    |some ⟨true,⟨157,(0,0)⟩,tc⟩=>(match s7 tc with
     |some y=>cond (bM bl.length bl&&(cu 1 ic&&(cu 1 x.it&&!(aq ic x.it))))
      ((bl[0]?=some (b9 g.d.k)/\bl[1]?=some (iB g.d.k)/\x=lG g.d.k x.it (fi x y g.d g.dx g.sx)/\y.b=x.p.bW/\y.m=x.p.d_/\x.p.queue=g.d.k.most)/\
        ∀(z:Option aO) (c ty:Nat) (us:List ab),K (gI bl.length (.agg (uL (fi x y g.d g.dx g.sx) (.f_ 0 0 g.d.q.length c z)))) (bl++[BM ty 1 g.d.q.length (uP g.d.q) us]) (.aZ u::.core g fB::rest)) False
     |none=>False)
    |_=>False)
   |none=>False)
  |_=>False)
 |_,_=>False
theorem acG {bl:List VB} {i:Nat} {b:VB} (h:bl[i]?=some b):bl.set i b=bl:=by
 apply u_;intro j;rw[List.getElem?_set];split
 ·rename_i hj;subst hj;rw[h];simp[iU h]
 ·rfl
theorem arQ:hJ (H7 (fr:=fr)):=by
 intro args bl ch K hc;unfold H7 at hc⊢;split at hc
 ·split at hc
  ·split at hc
   ·split at hc
    ·split at hc
     ·rename_i y hy;revert hc;cases bM bl.length bl&&_ with
      |false=>exact λh=>h.elim
      |true=>exact λhc=>⟨hc.1,λz c ty us=>⟨hc.2 z c ty us,_,rfl⟩⟩
     ·exact hc.elim
    ·exact hc.elim
   ·exact hc.elim
  ·exact hc.elim
 ·exact hc.elim
end
section
open Go Go.RowKit Go.BigFrame Sx Vx
def u8V:V->Int
 |.int .u8 n=>n
 |_=>0
def BS:List V->Nat
 |.int .u8 _::l=>BS l+1
 |_=>0
def lK (l:List V) (o:Nat):Nat->Int:=λj=>u8V (nth l (o+j))
theorem UI (ids:List Nat):∀(l:List V) (j:Nat),j<BS l->(ah ids l)[j]?=some (.int .u8 (u8V (nth l j)))
 |[],j,h=>absurd h (Nat.not_lt_zero _)
 |v::l,j,h=>by
  unfold BS at h;split at h
  ·rename_i n l' e;cases e;cases j with
   |zero=>simp only[ah,cl,den,jM,jN,jy,ft,fl];rfl
   |succ j=>
    simp only[ah,cl,den,jM,jN,jy,ft,fl,List.getElem?_cons_succ];exact UI ids l j (by omega)
  ·exact absurd h (Nat.not_lt_zero _)
section
variable{G:Type} [Bl G]
def Ee (P:aF):(ba->V)->Op->List VB->List G->VK G->Prop:=λe op bl ch K=>match op with
 |.call c=>(match c.callee,c.args.toList,c.argTypes.toList with
  |.builtin .append,[s,xs],[t,tx]=>(match P.underlying t,P.underlying tx with
   |some (.slice 5),some (.slice _)=>(match e s,e xs with
    |.sl i 0 0 0,.sl j o m c=>(match bl[j]?with
     |some b=>cond (bM bl.length bl&&bu (o+m) (BS b.c)) ((0<m/\m<=c/\m<=1000000)/\∀d:Nat,K (.sl bl.length 0 m (m+d)) (bl++[dN m d (lK b.c o)]) ch) False
     |none=>False)
    |_,_=>False)
   |_,_=>False)
  |_,_,_=>False)
 |_=>False
theorem MV {gl:Nat->Option Nat}:fP (G:=G) prog gl (Ee prog):=by
 intro e op ids bl ch R ms w0 w K ρ o hg hl S a9 ho h;unfold Ee at h;split at h
 ·rename_i c;split at h
  ·rename_i s xs t tx eQ cR dO;split at h
   ·rename_i T ht gh;split at h
    ·rename_i i j q m c' gw fN;split at h
     ·rename_i b hb;cases hq:bM bl.length bl&&bu (q+m) (BS b.c)with
      |false=>rw[hq]at h;exact h.elim
      |true=>
       rw[hq]at h;obtain⟨⟨m0,arR,hm⟩,h1⟩:=h;rw[bg]at hq;obtain⟨hq,hn⟩:=hq;have hn:=du hn;have aM:=(fE hl S hb).2;have hk:dL w (some ⟨ids.getD j 0,q,none⟩) m c' (lK b.c q):=⟨hm,arR,(λe=>nomatch e),λx e k hkm=>by
        obtain rfl:=cA e;rw[iE,cell_of aM,jt];exact UI ids b.c (q+k) (by omega)⟩
       have fH:=Oh (P:=prog) hk gh;obtain⟨nq,ar,iy⟩:=c;simp only at eQ cR dO;have e2:ar=#[s,xs]:=by rw[<-cR]
       have e3:iy=#[t,tx]:=by rw[<-dO]
       subst eQ e2 e3;have gY:ρ s=.slice (some ⟨ids.getD i 0,0,none⟩) 0 0:=by rw[a9,gw];simp only[den]
       have rp:ρ xs=.slice (some ⟨ids.getD j 0,q,none⟩) m c':=by rw[a9,fN];simp only[den]
       obtain⟨c2,w2,bG,cn,hle,HL⟩:=Uj (g:=lK b.c q) (x:=some ⟨ids.getD j 0,q,none⟩) (ty:=o.type) (t:=t) fH ht m0 (by omega) ⟨ids.getD i 0,0,none⟩;have h2:=h1 (c2-m);rw[show m+(c2-m)=c2 by omega]at h2;refine⟨_,[w.heap.size],_,_,w2,.inl ?_,by simp[hl],?_,h2⟩
       ·rw[jL (P:=prog) (ρ:=ρ) (o:=o) ho gY rp bG];simp only[den];rw[<-hl,kS]
       ·have e:az (ids++[w.heap.size]) w.heap.size (dN m (c2-m) (lK b.c q))=⟨w.heap.size,true,.cells (bD m (lK b.c q) c2) 5 (0,0)⟩:=by
         unfold az;rw[xb,show m+(c2-m)=c2 by omega];rfl
        rw[eZ _ _ _ _ hl,e_ _ _ (by rw[hl];exact hq)];simp only[lits,e];refine(S.new cn (dE _) HL).perm ?_;rw[bR];exact jH.symm
     ·exact h.elim
    ·exact h.elim
   ·exact h.elim
  ·exact h.elim
 ·exact h.elim
end
def H8 (cr:(Nat->Int)->Nat->Int):QF:=⟨119,λargs bl=>match args with
 |[.sl i o n c]=>(match bl[i]?with
  |some b=>bif bu (o+n) (BS b.c)&&bu n 1000000 then some (True,.int .u16 (cr (lK b.c o) n))else none
  |none=>none)
 |_=>none⟩
theorem arS (gl:Nat->Option Nat):(H8 jD).Ok prog gl:=by
 intro args bl p_ v_ h hp ids w _ hm;unfold H8 at h;dsimp only at h;split at h
 ·rename_i i o n c;split at h
  ·rename_i b hb;cases hq:bu (o+n) (BS b.c)&&bu n 1000000 with
   |false=>rw[hq]at h;cases h
   |true=>
    rw[hq]at h;simp only[cond_true,aV,bw]at h;obtain⟨rfl,rfl⟩:=h;rw[bg]at hq;have h1:=du hq.1;have aM:=hm.2 i _ hb;refine ZS (ids.getD i 0) o n c (lK b.c o) (du hq.2) w ?_;intro j hj;rw[cell_of aM,jt];exact UI ids b.c (o+j) (by omega)
  ·cases h
 ·cases h
def MW (n:Nat) (f:Nat->Int) (hi lo:Int):List Int:=[165,1,(n:Int)]++((bd n).map f++[hi,lo])
def nT (n:Nat) (f:Nat->Int) (hi lo:Int) (us:List ab):List V:=(MW n f hi lo).map (λx=>V.int .u8 x)++[.rest us]
def zm (n:Nat) (f:Nat->Int) (hi lo:Int) (us:List ab):List VB:=[⟨false,⟨5,(0,0)⟩,nT n f hi lo us⟩]
def BU (cr:(Nat->Int)->Nat->Int) (n:Nat) (f:Nat->Int) (hi lo:Int) (us:List ab) (d:Nat) (K:VK Empty):Prop:=True/\cond (cr (lK (nT n f hi lo us) 1) (n+2)!=bits .or .u16 (u16.wrap (u16.wrap hi*2^8)) (u16.wrap lo))
 (K (.agg [.int .i64 3,.int .i64 1,.int .i64 12,.raw (.slice none 0 0)]) (zm n f hi lo us) [])
 ((0<n/\n<=d+(n+5)-3/\n<=1000000)/\∀e:Nat,K (.agg [.int .i64 2,.int .i64 ((n+5:Nat):Int),.int .i64 0,.sl 1 0 n (n+e)]) (zm n f hi lo us++[dN n e (lK (nT n f hi lo us) 3)]) [])
def BV (cr:(Nat->Int)->Nat->Int) (n:Nat) (f:Nat->Int) (hi lo:Int) (us:List ab) (d:Nat) (K:VK Empty):Prop:=bo (fA prog cU (qL Empty [H8 cr]) (Ee prog) MV) 60 48 [.sl 0 0 (n+5) (d+(n+5))] (zm n f hi lo us) [] (br 1 K)
section
variable(cr:(Nat->Int)->Nat->Int) (f:Nat->Int) (hi lo:Int) (us:List ab) (d:Nat) (K:VK Empty)
theorem arT:BV cr 3 f hi lo us d K=BU cr 3 f hi lo us d K:=by kernel_rfl
theorem arU:BV cr 4 f hi lo us d K=BU cr 4 f hi lo us d K:=by kernel_rfl
theorem arV:BV cr 5 f hi lo us d K=BU cr 5 f hi lo us d K:=by kernel_rfl
theorem arW:BV cr 6 f hi lo us d K=BU cr 6 f hi lo us d K:=by kernel_rfl
theorem arX:BV cr 9 f hi lo us d K=BU cr 9 f hi lo us d K:=by kernel_rfl
end
variable{fr:Sd.aE->Nat×Sd.av}
structure LwS (fr:Sd.aE->Nat×Sd.av) (tg tc:aG) (u:ae) (x:gp) (n:Nat) where
 p:Nat->Int
 m:Nat->Nat
 d:Nat->Nat
 hM:Made x p m
 p2:Sd.aN
 k:LK
 hN:HW (jG 4 p m d) (uR x u) tg tc p2 k
 j:Nat
 hj:j<=n
 s:Sd.aa
 F:aW fr (aR k s)
 fB:List ai
 hC:ef k s
 hp:s.c.p=p2
 v1:cO=F.vs
 v2:cO=F.vr
def preB (tg tc:aG) (ops pb:VB) (ky:List VB) (rB:VB):List VB:=lh tg::oH tc::ops::pb::(ky++[rB])
section
variable(C:Sd.aL) (tg tc:aG) (ty:BT) (u:ae) (x:gp) (f:Nat->Nat×Sd.av) (o n c:Nat) (a:Option aO) (os:Nat->D8) (pre post:List ab)
end
section
variable(C:Sd.aL) (tg tc:aG) (ty:BT) (u:ae) (x:gp) (f:Nat->Nat×Sd.av) (o n c:Nat) (a:Option aO) (os:Nat->D8) (pre post:List ab) (K:V->Prop)
end
end
section
open Go Go.RowKit Go.BigFrame Sx Vx
variable{fr:Sd.aE->Nat×Sd.av}
section
variable{tg tc:aG} {ty:BT} {u:ae} {x:gp} {f:Nat->Nat×Sd.av} {o n c:Nat} {a:Option aO} {os:Nat->D8} {pre post:List ab} {K:V->Prop}
theorem LwS.H6 (y:LwS fr tg tc u x n) {s:Sd.aa} (h:s.c.p=y.p2):xi tg tc 10 y.k s:=Go.Proofs.YtggfpcggakghnaaGreatDoor.H6 y.hN.tg y.hN.tc (by rw[h];exact y.hN.most.symm)
end
end
section
open Go Go.RowKit Go.BigFrame Sx Vx
def jV (w:Nat) (s:Int):List V:=(bd w).map λj=>.int .u8 (aK w (u64.wrap s) j)
def fkX (n m c:Nat) (ac cells:List V) (X:Nat->List ab->Prop):Prop:=
 (n<=c/\bY ac=c*1)/\(∀(c':Nat) (u:List ab),n+m<=c'->bY (cells++[.rest u])=c'*1->X c' u)/\(∀(c':Nat) (u:List ab),n+m<=c'->bY (cells++[.rest u])=c'*1->X c' u)
def Ef (F:Prop) (E:Nat->Nat->List V->List ab->Prop):List (Int×Int×Int×Nat)->Nat->Nat->List V->List V->List ab->Prop
 |[],n,c,ac,cells,u=>E n c cells u
 |(s,lo,hi,w)::fs,n,c,ac,cells,u=>cond (decide (s<lo)) F (cond (decide (s>hi)) F (cond (jd (u64.wrap s) (cJ (2^(8*w)))!=0) F
  (fkX n w c ac (cells++jV w s) λc' u'=>Ef F E fs (n+w) c' (cells++jV w s++[.rest u']) (cells++jV w s) u')))
def oI (k a b c d e:Int) (nc:Nat->Int):V:=.agg [.int .i64 k,.int .i64 a,.int .i64 b,.int .i64 c,.int .i64 d,.int .i64 e,.bJ .u8 8 nc]
def xk (x:V) (K:VK Empty):Prop:=bo (fA prog (λ_=>none) ([]:List (bK Empty)) (yv prog) AG) 60 190 [x] [] [] (br 0 K)
def mg (k:Int) (fs:List (Int×Int×Int×Nat)) (K:VK Empty):Prop:=Ef (K (.an [.raw (.slice none 0 0),.int .i64 1]) [] []) (λn c cells u=>K (.an [.sl 0 0 n c,.int .i64 0]) [⟨true,⟨5,(0,0)⟩,cells++[.rest u]⟩] []) fs 1 1 [.int .u8 k] [.int .u8 k] []
theorem arY (s:Int) (K:VK Empty):xk (oI 131 s 0 0 0 0 λ_=>0) K=mg 131 [(s,0,4294967295,4)] K:=by kernel_rfl
theorem arZ (a b c:Int) (K:VK Empty):xk (oI 130 0 a b c 0 λ_=>0) K=mg 130 [(a,0,3,1),(b,0,4,1),(c,0,65535,2)] K:=by kernel_rfl
theorem ar0 (s c:Int) (K:VK Empty):xk (oI 132 s 0 0 0 c λ_=>0) K=mg 132 [(s,0,4294967295,4),(c,0,255,1)] K:=by kernel_rfl
theorem ar1 (e:Int) (K:VK Empty):xk (oI 133 0 0 0 e 0 λ_=>0) K=mg 133 [(e,0,65535,2)] K:=by kernel_rfl
theorem ar2 (w e:Int) (K:VK Empty):xk (oI 134 0 0 w e 0 λ_=>0) K=mg 134 [(w,0,4,1),(e,0,65535,2)] K:=by kernel_rfl
theorem ar3 (w e:Int) (K:VK Empty):xk (oI 135 0 0 w e 0 λ_=>0) K=mg 135 [(w,0,4,1),(e,0,65535,2)] K:=by kernel_rfl
theorem ar4 (w c:Int) (K:VK Empty):xk (oI 136 0 0 w 0 c λ_=>0) K=mg 136 [(w,0,4,1),(c,0,255,1)] K:=by kernel_rfl
theorem acH (a b:List V):bY (a++b)=bY a+bY b:=by
 induction a with
 |nil=>simp[bY]
 |cons v a ih=>simp only[ft,bY,ih];omega
theorem ar5 (w:Nat) (s:Int):bY (jV w s)=w:=by
 have h:∀l:List Nat,bY (l.map λj=>V.int .u8 (aK w (u64.wrap s) j))=l.length:=by
  intro l;induction l with
  |nil=>rfl
  |cons j l ih=>simp only[eH,bY,ih,kN];show 1+_=_;omega
 unfold jV;rw[h,IK]
theorem acI {F:Prop} {E:Nat->Nat->List V->List ab->Prop}:∀(fs:List (Int×Int×Int×Nat)) (n c:Nat) (ac cells:List V) (u:List ab),(∀f∈fs,f.2.1<=f.1/\f.1<=f.2.2.1/\0<=f.1/\f.1<18446744073709551616/\f.1<cJ (2^(8*f.2.2.2)))->n<=c->bY ac=c->n=bY cells->bY (cells++[.rest u])=c->
 (∀c' u',n+(fs.map λf=>f.2.2.2).sum<=c'->bY (cells++(fs.map λf=>jV f.2.2.2 f.1).flatten++[.rest u'])=c'->E (n+(fs.map λf=>f.2.2.2).sum) c' (cells++(fs.map λf=>jV f.2.2.2 f.1).flatten) u')->Ef F E fs n c ac cells u
 |[],n,c,ac,cells,u,_,h1,h2,h3,h4,hE=>by
  have:=hE c u (by simpa using h1) (by simpa using h4);simpa[Ef]using this
 |(s,lo,hi,w)::fs,n,c,ac,cells,u,hf,h1,h2,h3,h4,hE=>by
  obtain⟨f1,f2,f3,f5,f4⟩:=hf _ (Cg ..);simp only at f1 f2 f3 f4 f5;have step:∀(c':Nat) (u':List ab),n+w<=c'->bY (cells++jV w s++[.rest u'])=c'*1->Ef F E fs (n+w) c' (cells++jV w s++[.rest u']) (cells++jV w s) u':=by
   intro c' u' g1 g2;rw[Nat.mul_one]at g2;refine acI fs (n+w) c' _ _ u' (λf hm=>hf f (xz _ hm)) g1 g2 ?_ g2 ?_
   ·rw[acH,ar5,h3]
   ·intro c2 u2 g3 g4;have:=hE c2 u2 (by simpa[zP]using g3) (by simpa[bR]using g4);simpa[zP,bR]using this
  unfold Ef;refine aI (λh=>absurd (by simpa using h:s<lo) (by omega)) λ_=>aI (λh=>absurd (by simpa using h:hi<s) (by omega)) λ_=>aI (λh=>?_) λ_=>⟨⟨h1,by rw[h2,Nat.mul_one]⟩,step,step⟩;exfalso;have e:jd (u64.wrap s) (cJ (2^(8*w)))=0:=by
   have hd:∀d:Int,0<=d->s<d->jd s d=0:=λd h0 h=>by rw[tK _ h0];exact Int.ediv_eq_zero_of_lt f3 h
   rw[rY,IF f3 (by omega)];exact hd _ (zT _) f4
  rw[e]at h;simp at h
theorem acJ {k:Int} {fs:List (Int×Int×Int×Nat)} {K:VK Empty} (hf:∀f∈fs,f.2.1<=f.1/\f.1<=f.2.2.1/\0<=f.1/\f.1<18446744073709551616/\f.1<cJ (2^(8*f.2.2.2)))
 (hK:∀c' u',1+(fs.map λf=>f.2.2.2).sum<=c'->bY ([.int .u8 k]++(fs.map λf=>jV f.2.2.2 f.1).flatten++[.rest u'])=c'->K (.an [.sl 0 0 (1+(fs.map λf=>f.2.2.2).sum) c',.int .i64 0]) [⟨true,⟨5,(0,0)⟩,([.int .u8 k]++(fs.map λf=>jV f.2.2.2 f.1).flatten)++[.rest u']⟩] []):mg k fs K:=
 acI fs 1 1 _ _ [] hf (dE _) rfl rfl rfl hK
theorem BW {x:V} {k:Int} {fs:List (Int×Int×Int×Nat)} {n:Nat} (e:∀K,xk x K=mg k fs K) (hf:∀f∈fs,f.2.1<=f.1/\f.1<=f.2.2.1/\0<=f.1/\f.1<18446744073709551616/\f.1<cJ (2^(8*f.2.2.2))) (hn:1+(fs.map λf=>f.2.2.2).sum=n) {g:Nat->Int}
 (hg:∀j,j<n->∀u:List ab,(ah [] (([.int .u8 k]++(fs.map λf=>jV f.2.2.2 f.1).flatten)++[.rest u]))[j]?=some (.int .u8 (g j))) (hw:bj 0 (([.int .u8 k]++(fs.map λf=>jV f.2.2.2 f.1).flatten))=true) (w:ae):
 aS prog 190 (aD [] [x]).toArray w λv w1=>∃b c1,v=.tuple #[.slice (some ⟨b,0,none⟩) n c1,.int .i64 0]/\n<=c1/\w.heap.size<=b/\cd w1 b 0 n g/\Ch [] w w1:=by
 have h:xk x λv b _=>∃c u,v=.an [.sl 0 0 n c,.int .i64 0]/\b=[⟨true,⟨5,(0,0)⟩,([.int .u8 k]++(fs.map λf=>jV f.2.2.2 f.1).flatten)++[.rest u]⟩]/\n<=c:=by
  rw[e];exact acJ hf λc u h1 h2=>⟨c,u,by rw[hn],rfl,by omega⟩
 refine(eG (aC.nil (G:=Empty) (P:=prog) (gl:=λ_=>none)).T (aC.nil (G:=Empty) (P:=prog) (gl:=λ_=>none)).Q 60 (C:=fA prog (λ_=>none) ([]:List (bK Empty)) (yv prog) AG) (ids:=[]) (bl:=[]) (ch:=[]) (R:=[]) Gl.none rfl (St.nil [] w) h).mono ?_;rintro v w' ⟨y,more,bl',ch',rfl,h1,S',hK⟩;obtain⟨v2,cB,bl2,e2,cW,S2,c,u,rfl,rfl,hc⟩:=hU (n0:=0) h1 (by simp) S' hK
 match cB,cW,S2,e2 with
 |[b],_,S2,e2=>
  have S3:St [] w ([az [b] b ⟨true,⟨5,(0,0)⟩,([.int .u8 k]++(fs.map λf=>jV f.2.2.2 f.1).flatten)++[.rest u]⟩]) w':=match ch',S2 with
   |[],S2=>S2
   |e::_,_=>nomatch e
  refine⟨b,c,e2,hc,(S3.own 0 _ rfl rfl).resolve_left (by simp),?_,S3.ch⟩;intro j hj;have aM:w'.heap[b]?=some (.cells (ah [b] (([.int .u8 k]++(fs.map λf=>jV f.2.2.2 f.1).flatten)++[.rest u])).toArray 5 (0,0)):=S3.at_ 0 _ rfl;have hd:=hg j hj u;have e3:ah [b] (([.int .u8 k]++(fs.map λf=>jV f.2.2.2 f.1).flatten)++[.rest u])=ah [] (([.int .u8 k]++(fs.map λf=>jV f.2.2.2 f.1).flatten)++[.rest u]):=by
   have gen:∀L:List V,bj 0 L=true->ah [b] (L++[.rest u])=ah [] (L++[.rest u]):=λL hL=>by
    rw[iG,iG];have q:=j4 (ids:=[]) (more:=[b]) L hL;simp only[fl]at q;rw[q];rfl
   exact gen _ hw
  rw[eD,cell_of aM,e3];simpa using hd
 |[],h,_,_=>simp at h
 |_::_::_,h,_,_=>simp at h
theorem ar6 (wh co:Int) (nU:0<=wh/\wh<=4) (BX:0<=co/\co<=255) (w:ae):aS prog 190 (aD [] [oI 136 0 0 wh 0 co λ_=>0]).toArray w λv w1=>∃b c1,v=.tuple #[.slice (some ⟨b,0,none⟩) 3 c1,.int .i64 0]/\3<=c1/\w.heap.size<=b/\cd w1 b 0 3 (da [136,aK 1 (u64.wrap wh) 0,aK 1 (u64.wrap co) 0])/\Ch [] w w1:=
 BW (n:=3) (λK=>ar4 wh co K) (λf hm=>by
  rcases ca.1 hm with rfl|hm
  ·exact⟨nU.1,nU.2,nU.1,by omega,by show wh<256;omega⟩
  rcases ca.1 hm with rfl|hm
  ·exact⟨BX.1,BX.2,BX.1,by omega,by show co<256;omega⟩
  cases hm) rfl (λj hj u=>by
  rcases(by omega:j=0\/j=1\/j=2)with rfl|rfl|rfl<;>rfl) rfl w
theorem ar7 (sq:Int) (nV:0<=sq/\sq<=4294967295) (w:ae):aS prog 190 (aD [] [oI 131 sq 0 0 0 0 λ_=>0]).toArray w λv w1=>∃b c1,v=.tuple #[.slice (some ⟨b,0,none⟩) 5 c1,.int .i64 0]/\5<=c1/\w.heap.size<=b/\cd w1 b 0 5 (da [131,aK 4 (u64.wrap sq) 0,aK 4 (u64.wrap sq) 1,aK 4 (u64.wrap sq) 2,aK 4 (u64.wrap sq) 3])/\Ch [] w w1:=
 BW (n:=5) (λK=>arY sq K) (λf hm=>by
  rcases ca.1 hm with rfl|hm
  ·exact⟨nV.1,nV.2,nV.1,by omega,by show sq<4294967296;omega⟩
  cases hm) rfl (λj hj u=>by
  rcases(by omega:j=0\/j=1\/j=2\/j=3\/j=4)with rfl|rfl|rfl|rfl|rfl<;>rfl) rfl w
theorem ar8 (ro wh ep:Int) (HZ:0<=ro/\ro<=3) (nU:0<=wh/\wh<=4) (mh:0<=ep/\ep<=65535) (w:ae):aS prog 190 (aD [] [oI 130 0 ro wh ep 0 λ_=>0]).toArray w λv w1=>∃b c1,v=.tuple #[.slice (some ⟨b,0,none⟩) 5 c1,.int .i64 0]/\5<=c1/\w.heap.size<=b/\cd w1 b 0 5 (da [130,aK 1 (u64.wrap ro) 0,aK 1 (u64.wrap wh) 0,aK 2 (u64.wrap ep) 0,aK 2 (u64.wrap ep) 1])/\Ch [] w w1:=
 BW (n:=5) (λK=>arZ ro wh ep K) (λf hm=>by
  rcases ca.1 hm with rfl|hm
  ·exact⟨HZ.1,HZ.2,HZ.1,by omega,by show ro<256;omega⟩
  rcases ca.1 hm with rfl|hm
  ·exact⟨nU.1,nU.2,nU.1,by omega,by show wh<256;omega⟩
  rcases ca.1 hm with rfl|hm
  ·exact⟨mh.1,mh.2,mh.1,by omega,by show ep<65536;omega⟩
  cases hm) rfl (λj hj u=>by
  rcases(by omega:j=0\/j=1\/j=2\/j=3\/j=4)with rfl|rfl|rfl|rfl|rfl<;>rfl) rfl w
theorem ar9 (sq co:Int) (nV:0<=sq/\sq<=4294967295) (BX:0<=co/\co<=255) (w:ae):aS prog 190 (aD [] [oI 132 sq 0 0 0 co λ_=>0]).toArray w λv w1=>∃b c1,v=.tuple #[.slice (some ⟨b,0,none⟩) 6 c1,.int .i64 0]/\6<=c1/\w.heap.size<=b/\cd w1 b 0 6 (da [132,aK 4 (u64.wrap sq) 0,aK 4 (u64.wrap sq) 1,aK 4 (u64.wrap sq) 2,aK 4 (u64.wrap sq) 3,aK 1 (u64.wrap co) 0])/\Ch [] w w1:=
 BW (n:=6) (λK=>ar0 sq co K) (λf hm=>by
  rcases ca.1 hm with rfl|hm
  ·exact⟨nV.1,nV.2,nV.1,by omega,by show sq<4294967296;omega⟩
  rcases ca.1 hm with rfl|hm
  ·exact⟨BX.1,BX.2,BX.1,by omega,by show co<256;omega⟩
  cases hm) rfl (λj hj u=>by
  rcases(by omega:j=0\/j=1\/j=2\/j=3\/j=4\/j=5)with rfl|rfl|rfl|rfl|rfl|rfl<;>rfl) rfl w
theorem ar_ (ep:Int) (mh:0<=ep/\ep<=65535) (w:ae):aS prog 190 (aD [] [oI 133 0 0 0 ep 0 λ_=>0]).toArray w λv w1=>∃b c1,v=.tuple #[.slice (some ⟨b,0,none⟩) 3 c1,.int .i64 0]/\3<=c1/\w.heap.size<=b/\cd w1 b 0 3 (da [133,aK 2 (u64.wrap ep) 0,aK 2 (u64.wrap ep) 1])/\Ch [] w w1:=
 BW (n:=3) (λK=>ar1 ep K) (λf hm=>by
  rcases ca.1 hm with rfl|hm
  ·exact⟨mh.1,mh.2,mh.1,by omega,by show ep<65536;omega⟩
  cases hm) rfl (λj hj u=>by
  rcases(by omega:j=0\/j=1\/j=2)with rfl|rfl|rfl<;>rfl) rfl w
theorem asa (wh ep:Int) (nU:0<=wh/\wh<=4) (mh:0<=ep/\ep<=65535) (w:ae):aS prog 190 (aD [] [oI 134 0 0 wh ep 0 λ_=>0]).toArray w λv w1=>∃b c1,v=.tuple #[.slice (some ⟨b,0,none⟩) 4 c1,.int .i64 0]/\4<=c1/\w.heap.size<=b/\cd w1 b 0 4 (da [134,aK 1 (u64.wrap wh) 0,aK 2 (u64.wrap ep) 0,aK 2 (u64.wrap ep) 1])/\Ch [] w w1:=
 BW (n:=4) (λK=>ar2 wh ep K) (λf hm=>by
  rcases ca.1 hm with rfl|hm
  ·exact⟨nU.1,nU.2,nU.1,by omega,by show wh<256;omega⟩
  rcases ca.1 hm with rfl|hm
  ·exact⟨mh.1,mh.2,mh.1,by omega,by show ep<65536;omega⟩
  cases hm) rfl (λj hj u=>by
  rcases(by omega:j=0\/j=1\/j=2\/j=3)with rfl|rfl|rfl|rfl<;>rfl) rfl w
theorem asb (wh ep:Int) (nU:0<=wh/\wh<=4) (mh:0<=ep/\ep<=65535) (w:ae):aS prog 190 (aD [] [oI 135 0 0 wh ep 0 λ_=>0]).toArray w λv w1=>∃b c1,v=.tuple #[.slice (some ⟨b,0,none⟩) 4 c1,.int .i64 0]/\4<=c1/\w.heap.size<=b/\cd w1 b 0 4 (da [135,aK 1 (u64.wrap wh) 0,aK 2 (u64.wrap ep) 0,aK 2 (u64.wrap ep) 1])/\Ch [] w w1:=
 BW (n:=4) (λK=>ar3 wh ep K) (λf hm=>by
  rcases ca.1 hm with rfl|hm
  ·exact⟨nU.1,nU.2,nU.1,by omega,by show wh<256;omega⟩
  rcases ca.1 hm with rfl|hm
  ·exact⟨mh.1,mh.2,mh.1,by omega,by show ep<65536;omega⟩
  cases hm) rfl (λj hj u=>by
  rcases(by omega:j=0\/j=1\/j=2\/j=3)with rfl|rfl|rfl|rfl<;>rfl) rfl w
def nW (nc:Nat->Int):List V:=[.int .i64 129,.int .i64 0,.int .i64 0,.int .i64 0,.int .i64 0,.int .i64 0,.int .u8 (nc 0),.int .u8 (nc 1),.int .u8 (nc 2),.int .u8 (nc 3),.int .u8 (nc 4),.int .u8 (nc 5),.int .u8 (nc 6),.int .u8 (nc 7)]
def xm (nc:Nat->Int):VB:=⟨true,⟨40,(0,0)⟩,nW nc⟩
def zo (j:Nat):List V:=[.int .i64 1,.int .i64 0,.int .i64 255,.fn 173 [] [.ptr j 0],.fn 174 [] [.ptr j 0]]
def asc (u:List ab):VB:=⟨true,⟨175,(0,0)⟩,zo 2++(zo 3++(zo 4++(zo 5++(zo 6++(zo 7++(zo 8++(zo 9++[.rest u])))))))⟩
def H9:List VB:=(bd 8).map λj=>⟨true,⟨220,(0,0)⟩,[.ptr 0 (6+j)]⟩
def lL (nc:Nat->Int) (u:List ab):List VB:=xm nc::asc u::H9
def BY (n:Nat) (u:List ab) (c:Nat):Prop:=bY (lP (5*n) (V.bool true)++[.rest u])=c*5
def H_ (X:Nat->List ab->Prop):Nat->Nat->Nat->List ab->Prop
 |0,_,c,u=>X c u
 |k+1,n,c,u=>(n<=c/\BY n u c)/\(∀(c':Nat) (u':List ab),n+1<=c'->BY (n+1) u' c'->H_ X k (n+1) c' u')/\(∀(c':Nat) (u':List ab),n+1<=c'->BY (n+1) u' c'->H_ X k (n+1) c' u')
theorem UJ {X:Nat->List ab->Prop}:∀(k n c:Nat) (u:List ab),n<=c->BY n u c->(∀c u,n+k<=c->BY (n+k) u c->X c u)->H_ X k n c u
 |0,_,c,u,h1,h2,hX=>hX c u h1 h2
 |k+1,n,c,u,h1,h2,hX=>by
  have st:∀(c':Nat) (u':List ab),n+1<=c'->BY (n+1) u' c'->H_ X k (n+1) c' u':=λc' u' a b=>UJ k (n+1) c' u' a b λc u d e=>hX c u (by omega) (by rw[show n+(k+1)=n+1+k by omega];exact e);exact⟨⟨h1,h2⟩,st,st⟩
def Eg (n:Nat) (f:fc) (args:List V) (bl:List VB) (K:VK Empty):Prop:=bo (fA prog (λ_=>none) ([]:List (bK Empty)) (FI prog) JX) n f args bl [] K
def qn (k:Nat) (x:Int) (pre post:List ab):List VB:=[⟨false,⟨220,(0,0)⟩,[.pe 1 k 0 1 0]⟩,⟨false,⟨40,(0,0)⟩,[.rest pre,.fh 1 1 λ_=>[.int .u8 x],.rest post]⟩]
def UK (x:Int):Int:=u8.wrap (jd (u64.wrap (i64.wrap x)) (2^0))
def acK (k:Nat) (x:Int) (pre post:List ab) (K:VK Empty):Prop:=(k=pre.length/\0<1/\∀_:Nat,[eg .u8 x].length=1)/\cond (decide (i64.wrap x<0)) (K (.an [.raw (.slice none 0 0),.bool false]) (qn k x pre post) [])
 (cond (decide (i64.wrap x>255)) (K (.an [.raw (.slice none 0 0),.bool false]) (qn k x pre post) []) (cond (jd (u64.wrap (i64.wrap x)) (cJ (2^(8*1)))!=0) (K (.an [.raw (.slice none 0 0),.bool false]) (qn k x pre post) [])
  (K (.an [.sl 2 0 1 1,.bool true]) (qn k x pre post++[⟨true,⟨5,(0,0)⟩,[.int .u8 (UK x)]⟩]) [])))
theorem asd (k:Nat) (x:Int) (pre post:List ab) (K:VK Empty):Eg 60 118 [.agg [.int .i64 1,.int .i64 0,.int .i64 255,.fn 173 [] [.ptr 0 0],.fn 174 [] [.ptr 0 0]]] (qn k x pre post) (br 2 K)=acK k x pre post K:=by kernel_rfl
theorem ase {x:Int} (h:0<=x/\x<=255):UK x=x:=by
 unfold UK;rw[j6 (by omega),rY,IF (by omega) (by omega)];rw[show(2:Int)^0=1 from rfl,Int.fdiv_one,xA,IF (by omega) (by omega)]
theorem asf {k:Nat} {x:Int} {pre post:List ab} {K:VK Empty} (hk:k=pre.length) (h:0<=x/\x<=255) (hK:K (.an [.sl 2 0 1 1,.bool true]) (qn k x pre post++[⟨true,⟨5,(0,0)⟩,[.int .u8 x]⟩]) []):acK k x pre post K:=by
 have e1:i64.wrap x=x:=j6 (by omega);have e2:jd (u64.wrap x) (cJ (2^(8*1)))=0:=by
  rw[rY,IF (by omega) (by omega),show cJ (2^(8*1))=256 from rfl,tK _ (by omega)];omega
 refine⟨⟨hk,by omega,λ_=>rfl⟩,aI (λa=>?_) λ_=>aI (λa=>?_) λ_=>aI (λa=>?_) λ_=>?_⟩
 ·rw[e1]at a;exact absurd (of_decide_eq_true a) (by omega)
 ·rw[e1]at a;exact absurd (of_decide_eq_true a) (by omega)
 ·rw[e1,e2]at a;cases a
 ·rw[ase h];exact hK
theorem UL {n f n0:Nat} {args:List V} {bl:List VB} {K:VK Empty} (h:pH (Eg n f args bl (br n0 K))) {ids:List Nat} (hl:ids.length=bl.length) (hn:n0<=ids.length) {bs:List ai} {ms:List Nat} {w0 w:ae} (S:St ms w0 (lits ids ids bl++bs) w):
 aS prog f (aD ids args).toArray w λv w1=>∃x more b,v=den (ids.take n0++more) x/\(ids.take n0++more).length=b.length/\St ms w0 (lits (ids.take n0++more) (ids.take n0++more) b++bs) w1/\K x b []:=by
 refine(eG (aC.nil (G:=Empty) (P:=prog) (gl:=λ_=>none)).T (aC.nil (G:=Empty) (P:=prog) (gl:=λ_=>none)).Q n (C:=fA prog (λ_=>none) ([]:List (bK Empty)) (FI prog) JX) (ids:=ids) (bl:=bl) (ch:=[]) (R:=bs) Gl.none hl S h.h).mono ?_;rintro v w' ⟨y,more,bl',ch',rfl,h1,S',hK⟩
 match ch',S',hK with
 |[],S',hK=>
  obtain⟨v2,cB,bl2,e,cW,S2,hK⟩:=hU (n0:=n0) h1 (by simp;omega) S' hK;rw[List.take_append_of_le_length hn]at e cW S2;exact⟨v2,cB,bl2,e,cW,S2,hK⟩
 |e::_,_,_=>nomatch e
theorem asg {q r k:Nat} {x:Int} {pre post:List ab} {w:ae} {f1 f2:Nat×Nat} (vQ:f1=(0,0)) (t_:f2=(0,0)) (hq:w.heap[q]?=some (.cells #[.pointer (some ⟨r,k,none⟩)] 220 f1)) (hr:w.heap[r]?=some (.cells (pre++(.int .u8 x::post)).toArray 40 f2)) (hk:k=pre.length) (h:0<=x/\x<=255):
 aS prog 118 #[.agg #[.int .i64 1,.int .i64 0,.int .i64 255,.func (.func 173) #[] #[.pointer (some ⟨q,0,none⟩)],.func (.func 174) #[] #[.pointer (some ⟨q,0,none⟩)]]] w λv w1=>∃b,v=.tuple #[.slice (some ⟨b,0,none⟩) 1 1,.bool true]/\St [] w [⟨b,true,.cells #[.int .u8 x] 5 (0,0)⟩] w1:=by
 subst vQ t_;have S:St [] w (lits [q,r] [q,r] (qn k x pre post)++[]) w:=by
  have:=St.given (w:=w) [(q,.cells #[.pointer (some ⟨r,k,none⟩)] 220 (0,0)),(r,.cells (pre++(.int .u8 x::post)).toArray 40 (0,0))] (by
   intro p hp;simp only[ca,oV,or_false]at hp;rcases hp with rfl|rfl
   ·exact hq
   ·exact hr)
  have e:lits [q,r] [q,r] (qn k x pre post)=[⟨q,false,.cells #[.pointer (some ⟨r,k,none⟩)] 220 (0,0)⟩,⟨r,false,.cells (pre++(.int .u8 x::post)).toArray 40 (0,0)⟩]:=by
   simp[lits,az,qn,ah,cl,den,Cf]
  rw[e];exact this
 have hx:pH (Eg 60 118 [.agg [.int .i64 1,.int .i64 0,.int .i64 255,.fn 173 [] [.ptr 0 0],.fn 174 [] [.ptr 0 0]]] (qn k x pre post) (br 2 λv b _=>v=.an [.sl 2 0 1 1,.bool true]/\b=qn k x pre post++[⟨true,⟨5,(0,0)⟩,[.int .u8 x]⟩])):=⟨by rw[asd];exact asf hk h ⟨rfl,rfl⟩⟩;have fD:=UL hx (ids:=[q,r]) rfl (by simp) S;clear hx;refine fD.mono ?_;rintro v w' ⟨y,more,b,rfl,hl,S',rfl,rfl⟩
 match more,hl with
 |[b],_=>
  refine⟨b,rfl,?_⟩;have e:lits ([q,r].take 2++[b]) ([q,r].take 2++[b]) (qn k x pre post++[⟨true,⟨5,(0,0)⟩,[.int .u8 x]⟩])=lits [q,r,b] [q,r] (qn k x pre post)++[⟨b,true,.cells #[.int .u8 x] 5 (0,0)⟩]:=rfl;rw[e]at S';exact(S'.sub (List.sublist_append_left _ _)).sub (oT _ _)
def UM {G:Type}:c_ G:=λargs bl ch K=>match args with
 |[.agg [.int .i64 1,.int .i64 0,.int .i64 255,.fn 173 [] [.ptr q 0],.fn 174 [] [.ptr q' 0]]]=>(match bl[q]?with
  |some ⟨_,⟨220,(0,0)⟩,[.ptr r k]⟩=>(match bl[r]?with
   |some ⟨_,⟨40,(0,0)⟩,c⟩=>(match takeN c k with
    |some (_,.int .u8 x::_)=>cond (aq q q'&&bM bl.length bl) ((0<=x/\x<=255)/\K (.an [.sl bl.length 0 1 1,.bool true]) (bl++[⟨true,⟨5,(0,0)⟩,[.int .u8 x]⟩]) ch) False
    |_=>False)
   |_=>False)
  |_=>False)
 |_=>False
theorem ash {G:Type} [Bl G] (gl:Nat->Option Nat):Sound (G:=G) prog gl 118 UM:=by
 intro args ids bl ch R ms w0 w K hg hl S hc;unfold UM at hc;split at hc
 ·rename_i q q';split at hc
  ·rename_i w1 r k pE;split at hc
   ·rename_i w2 c hbr;split at hc
    ·rename_i a x b ht;cases hq:aq q q'&&bM bl.length bl with
     |false=>rw[hq]at hc;exact hc.elim
     |true=>
      rw[hq]at hc;simp only[bg]at hq;obtain⟨hx,hK⟩:=hc;obtain rfl:=ck hq.1;have h1:=(fE hl S pE).2;have h2:=(fE hl S hbr).2;obtain⟨t1,t2⟩:=E4 (ids:=ids) ht;rw[t1]at h2;have e2:ah ids (.int .u8 x::b)=.int .u8 x::ah ids b:=rfl;rw[e2]at h2;have e0:(aD ids [.agg [.int .i64 1,.int .i64 0,.int .i64 255,.fn 173 [] [.ptr q 0],.fn 174 [] [.ptr q 0]]]).toArray=#[.agg #[.int .i64 1,.int .i64 0,.int .i64 255,.func (.func 173) #[] #[.pointer (some ⟨ids.getD q 0,0,none⟩)],.func (.func 174) #[] #[.pointer (some ⟨ids.getD q 0,0,none⟩)]]]:=rfl;rw[e0];refine(asg (q:=ids.getD q 0) (r:=ids.getD r 0) (k:=k) rfl rfl h1 h2 t2.symm hx).mono ?_;rintro v w' ⟨b',rfl,T⟩;have S2:=S.beside T (Wr.cons rfl Wr.nil);refine⟨_,[b'],_,ch,?_,by simp[hl],?_,hK⟩
      ·simp only[den,aD,<-hl,kS]
      ·rw[eZ _ _ _ _ hl,e_ _ _ (by rw[hl];exact hq.2)];rw[bR];exact S2.perm (rW [_] (lits ids ids bl) (ax ch R))
    ·exact hc.elim
   ·exact hc.elim
  ·exact hc.elim
 ·exact hc.elim
def UN (P:aF):(ba->V)->Op->List VB->List bU->VK bU->Prop:=λe op bl ch K=>match op with
 |.call c=>(match c.callee,c.args.toList,c.argTypes.toList with
  |.builtin .append,[s,xs],[t,tx]=>(match P.underlying t,P.underlying tx with
   |some (.slice T),some (.slice _)=>(match sL P T,e s,e xs with
    |some (z,bI),.sl j 0 n c,.sl i 0 (m+1) _=>(match bl[j]?,bl[i]?with
     |some ⟨_,⟨_,(0,0)⟩,ac⟩,some b=>(match xV ac 0 (n*z)with
      |some C=>cond (aq n c&&(aq (bY ac) (c*z)&&(aq (bY b.c) ((m+1)*z)&&(lX b.c&&(bu bI 10000000&&(bu (n+(m+1)) 1000000&&(bj 0 C&&bj 0 b.c)))))))
       (∀(x:Option aO) (c':Nat) (bk:List ai) (h:eW z T (ah [] C++ah [] b.c) x (n+(m+1)) c' bk),K (.raw (.slice x (n+(m+1)) c')) bl (⟨T,z,ah [] C++ah [] b.c,x,n+(m+1),c',bk,h⟩::ch)) False
      |none=>False)
     |_,_=>False)
    |_,_,_=>False)
   |_,_=>False)
  |_,_,_=>False)
 |_=>False
theorem asi {P:aF} {gl:Nat->Option Nat}:fP P gl (UN P):=by
 intro e op ids bl ch R ms w0 w K ρ o hg hl S a9 ho h;unfold UN at h;split at h
 ·rename_i c;split at h
  ·rename_i s xs t tx eQ cR dO;split at h
   ·rename_i T T' ht gh;split at h
    ·rename_i z bI j n cc i m mF bZ gw fN;split at h
     ·rename_i wr Ta ac b ha hb;split at h
      ·rename_i C hC;cases hq:aq n cc&&(aq (bY ac) (cc*z)&&(aq (bY b.c) ((m+1)*z)&&(lX b.c&&(bu bI 10000000&&(bu (n+(m+1)) 1000000&&(bj 0 C&&bj 0 b.c))))))with
       |false=>rw[hq]at h;exact h.elim
       |true=>
        rw[hq]at h;simp only[cond_true]at h;simp only[bg]at hq;obtain⟨q1,q2,q3,q4,q5,q6,q8,q9⟩:=hq;obtain rfl:=ck q1;have q2:=ck q2;have q3:=ck q3;have q5:=du q5;have q6:=du q6;have aM:=(fE hl S hb).2;have Pw:=(fE hl S ha).2;obtain⟨g1,g2,g3⟩:=xW (ids:=ids) hC;rw[List.drop_zero]at g1;have e1:∀l:List V,bj 0 l=true->ah ids l=ah [] l:=λl hw=>j4 (ids:=[]) (more:=ids) l hw;have UO:ah ids ac=ah [] C:=by rw[<-e1 C q8,<-g1,List.take_of_length_le (by rw[kr,q2];exact dE _)]
        obtain⟨inf,sO,hi⟩:=gU.1 (Fx bZ);simp only[bw]at hi;obtain⟨hz,dw,im⟩:=hi;obtain⟨z0,lx,ng⟩:=gU.1 hz;have vS:(ah ids b.c).length=(m+1)*z:=by rw[kr,q3]
        have fH:Src P z tx (.slice (some ⟨ids.getD i 0,0,none⟩) (m+1) mF) (m+1) (ah [] b.c) w:=by
         rw[<-e1 b.c q9];refine rU w gh ⟨ids.getD i 0,0,none⟩ (m+1) mF _ vS (λj u hj=>?_) (λu hu=>Ar q4 u hu);rw[iE,cell_of aM];simpa using hj
        have Px:w.heap[ids.getD j 0]?=some (.cells (ah [] C++[]).toArray Ta (0,0)):=by rw[cQ,<-UO];exact Pw
        have kV:(n+(m+1))*bI<=140737488355328:=iY (Nat.mul_le_mul q6 q5) (by decide);have hold:(Builtin.firstCells inf.size n (.slice (some ⟨ids.getD j 0,0,none⟩) n n)).run P w.drew=.ok (ah [] C).toArray w.drew:=by
         refine run_firstCells_some (P:=P) w.drew inf.size n ⟨ids.getD j 0,0,none⟩ n n (ah [] C) (by rw[<-UO,kr,q2,dw]) (λk v hk=>?_);rw[iE];have:w.drew.cell? ⟨ids.getD j 0,0+k,none⟩=w.cell? ⟨ids.getD j 0,k,none⟩:=by simp
         rw[this,cell_of Px,cQ];simpa using hk
        have bG:=run_append_grow_src (P:=P) w t tx o.type T inf z0 ht sO lx (some ⟨ids.getD j 0,0,none⟩) n n (ah [] C) hold (.slice (some ⟨ids.getD i 0,0,none⟩) (m+1) mF) (m+1) (ah [] b.c) (by rw[dw];exact fH) (by omega) (by omega) (by rw[im];exact growslice_fits (by omega) kV);have dY:=grownCap_ge w (n+(m+1)) n T;obtain⟨nq,ar,iy⟩:=c;simp only at eQ cR dO;have e2:ar=#[s,xs]:=by rw[<-cR]
        have e3:iy=#[t,tx]:=by rw[<-dO]
        subst eQ e2 e3;have gY:ρ s=.slice (some ⟨ids.getD j 0,0,none⟩) n n:=by rw[a9,gw];simp only[den]
        have rp:ρ xs=.slice (some ⟨ids.getD i 0,0,none⟩) (m+1) mF:=by rw[a9,fN];simp only[den]
        let tl:=(n9 z0.cells (grownCap w (n+(m+1)) n T-(n+(m+1)))).toList
        have jK:eW z T (ah [] C++ah [] b.c) (some ⟨w.heap.size,0,none⟩) (n+(m+1)) (grownCap w (n+(m+1)) n T) [⟨w.heap.size,true,.cells ((ah [] C++ah [] b.c)++tl).toArray T (0,0)⟩]:=by
         have l1:(ah [] C).length=n*z:=by rw[<-UO,kr,q2]
         have l2:(ah [] b.c).length=(m+1)*z:=by rw[<-e1 b.c q9,vS]
         refine⟨by rw[fq,l1,l2,<-mq],dY,.inr ⟨_,tl,rfl,rfl,?_⟩⟩;rw[fq,fq,l1,l2,Array.length_toList,size_zeroCells,ng,<-mq,<-mq];congr 1;omega
        refine⟨.raw (.slice (some ⟨w.heap.size,0,none⟩) (n+(m+1)) (grownCap w (n+(m+1)) n T)),[],bl,_,_,.inl (jL (P:=P) (ρ:=ρ) (o:=o) ho gY rp bG),by simpa using hl,?_,h _ _ _ jK⟩;rw[cQ];have hn:=mX w.drew (.cells ((ah [] C++ah [] b.c).toArray++n9 z0.cells (grownCap w (n+(m+1)) n T-(n+(m+1)))) T);have hce:(ah [] C++ah [] b.c).toArray++n9 z0.cells (grownCap w (n+(m+1)) n T-(n+(m+1)))=((ah [] C++ah [] b.c)++tl).toArray:=by apply fe;simp[tl]
        rw[hce]at hn⊢;have S2:=S.new (((Ch.refl [] w).drew).trans (Ch.alloc [] w.drew _) (λx hx=>.inl hx)) (dE _) hn;refine S2.perm ?_;exact rW [_] (lits ids ids bl) (ax ch R)
      ·exact h.elim
     ·exact h.elim
    ·exact h.elim
   ·exact h.elim
  ·exact h.elim
 ·exact h.elim
def acL (e:ba->V) (op:Op):Bool:=match op with
 |.call c=>(match c.args.toList with
  |s::_=>(match e s with|.raw _=>true|_=>false)
  |_=>false)
 |_=>false
def UP (P:aF):(ba->V)->Op->List VB->List bU->VK bU->Prop:=λe op bl ch K=>cond (acL e op) (JO P e op bl ch K) (UN P e op bl ch K)
theorem acM {P:aF} {gl:Nat->Option Nat}:fP P gl (UP P):=vU acL X6 asi
def UQ:List (bK bU):=[⟨118,false,UM⟩]
theorem acN:aC prog (λ_=>none) UQ:=aC.cons ⟨ash _,λe=>by cases e⟩ aC.nil
def UR (n:Nat) (f:fc) (args:List V) (bl:List VB) (K:VK bU):Prop:=bo (fA prog (λ_=>none) UQ (UP prog) acM) n f args bl [] K
def ap9 (g:bU) (x:Int) (k:bU->Prop):Prop:=(g.v=g.v/\g.n+1<=1000000)/\∀(xa:Option aO) (c:Nat) (bk:List ai) (h:eW g.z g.T (g.os++[.int .u8 x]) xa (g.n+1) c bk),k ⟨g.T,g.z,g.os++[.int .u8 x],xa,g.n+1,c,bk,h⟩
def US (nc:Nat->Int) (E:bU->Prop):Nat->Nat->bU->Prop
 |0,_,g=>E g
 |k+1,i,g=>(0<=nc i/\nc i<=255)/\ap9 g (nc i) (US nc E k (i+1))
def asj (nc:Nat->Int) (E:bU->Prop):Prop:=(0<=nc 0/\nc 0<=255)/\∀(x:Option aO) (c:Nat) (bk:List ai) (h:eW 1 5 ([.int .u8 129]++[.int .u8 (nc 0)]) x 2 c bk),US nc E 7 1 ⟨5,1,[.int .u8 129]++[.int .u8 (nc 0)],x,2,c,bk,h⟩
theorem asl (nc:Nat->Int) (c:Nat) (u:List ab) (K:VK bU):UR 90 72 [.int .i64 129,.sl 1 0 8 c] (lL nc u) (br 10 K)=asj nc λg=>K (.an [g.v,.bool true]) (lL nc u) [g]:=by kernel_rfl
theorem acO (nc:Nat->Int) (K:VK Empty):Eg 60 76 [.ptr 0 0] [xm nc] (br 1 K)=∀(c:Nat) (u:List ab),1<=c->BY 1 u c->H_ (λc u=>K (.an [.sl 1 0 8 c,.bool true]) (lL nc u) []) 7 1 c u:=by kernel_rfl
theorem asm {n f n0:Nat} {args:List V} {bl:List VB} {K:VK bU} (h:pH (UR n f args bl (br n0 K))) {ids:List Nat} (hl:ids.length=bl.length) (hn:n0<=ids.length) {bs:List ai} {ms:List Nat} {w0 w:ae} (S:St ms w0 (lits ids ids bl++bs) w):
 aS prog f (aD ids args).toArray w λv w1=>∃x more b ch,v=den (ids.take n0++more) x/\(ids.take n0++more).length=b.length/\St ms w0 (lits (ids.take n0++more) (ids.take n0++more) b++ax ch bs) w1/\K x b ch:=by
 refine(eG acN.T acN.Q n (C:=fA prog (λ_=>none) UQ (UP prog) acM) (ids:=ids) (bl:=bl) (ch:=[]) (R:=bs) Gl.none hl S h.h).mono ?_;rintro v w' ⟨y,more,bl',ch',rfl,h1,S',hK⟩;obtain⟨v2,cB,bl2,e,cW,S2,hK⟩:=hU (n0:=n0) h1 (by simp;omega) S' hK;rw[List.take_append_of_le_length hn]at e cW S2;exact⟨v2,cB,bl2,ch',e,cW,S2,hK⟩
def f9 (nc:Nat->Int):Nat->Int:=da [129,nc 0,nc 1,nc 2,nc 3,nc 4,nc 5,nc 6,nc 7]
structure MX (nc:Nat->Int) (g:bU):Prop where
 T:g.T=5
 z:g.z=1
 n:g.n=9
 os:g.os=(bd 9).map λj=>.int .u8 (f9 nc j)
def UT:c_ bU:=λargs bl ch K=>match args,bl with
 |[.ptr 0 0],[⟨true,⟨40,(0,0)⟩,c⟩]=>∃nc,c=nW nc/\∀(k:Nat) (u:List ab),8<=k->K (.an [.sl 1 0 8 k,.bool true]) (lL nc u) ch
 |_,_=>False
def UU:c_ bU:=λargs bl ch K=>match args with
 |[.int .i64 129,.sl 1 0 8 _]=>∃nc u,bl=lL nc u/\(∀j,0<=nc j/\nc j<=255)/\∀g:bU,MX nc g->K (.an [g.v,.bool true]) bl (g::ch)
 |_=>False
theorem asn:Sound prog (λ_=>none) 76 UT:=by
 intro args ids bl ch R ms w0 w K hg hl S hc;unfold UT at hc;split at hc
 ·rename_i c;obtain⟨nc,rfl,hK⟩:=hc
  match ids,hl with
  |[r],_=>
   have hv:pH (Eg 60 76 [.ptr 0 0] [xm nc] (br 1 λv b _=>∃k u,v=.an [.sl 1 0 8 k,.bool true]/\b=lL nc u/\8<=k)):=⟨by rw[acO];exact λc u h1 h2=>UJ 7 1 c u h1 h2 λk u h _=>⟨k,u,rfl,rfl,h⟩⟩;have hr:=UL hv (ids:=[r]) (bs:=ax ch R) rfl (by simp) S;clear hv;refine hr.mono ?_;rintro v w' ⟨x,more,b,rfl,h1,S2,k,u,rfl,rfl,h8⟩;exact⟨_,more,_,ch,rfl,h1,S2,hK k u h8⟩
 ·exact hc.elim
theorem acP {nc:Nat->Int} (jx:∀j,0<=nc j/\nc j<=255) {E:bU->Prop}:∀(k i:Nat) (g:bU),g.T=5->g.z=1->g.n=i+1->g.os=.int .u8 129::(bd i).map (λj=>.int .u8 (nc j))->i+k<=100->
 (∀g:bU,g.T=5->g.z=1->g.n=i+k+1->g.os=.int .u8 129::(bd (i+k)).map (λj=>.int .u8 (nc j))->E g)->US nc E k i g
 |0,i,g,h1,h2,h3,h4,_,hE=>hE g h1 h2 h3 h4
 |k+1,i,g,h1,h2,h3,h4,hb,hE=>⟨jx i,⟨rfl,by omega⟩,λxa c bk h=>acP jx k (i+1) _ h1 h2 (by show g.n+1=_;omega) (by show g.os++_=_;rw[h4,Cf,qB];rfl) (by omega) λg a b c d=>hE g a b (by omega) (by rw[d,show i+1+k=i+(k+1) by omega])⟩
theorem aso:Sound prog (λ_=>none) 72 UU:=by
 intro args ids bl ch R ms w0 w K hg hl S hc;unfold UU at hc;split at hc
 ·rename_i c;obtain⟨nc,u,rfl,jx,hK⟩:=hc;have hv:pH (UR 90 72 [.int .i64 129,.sl 1 0 8 c] (lL nc u) (br 10 λv b ch=>∃g,v=.an [g.v,.bool true]/\b=lL nc u/\ch=[g]/\MX nc g)):=⟨by
   rw[asl];exact⟨jx 0,λx c bk h=>acP jx 7 1 _ rfl rfl rfl rfl (by omega) λg a b c d=>⟨g,rfl,rfl,rfl,a,b,c,by rw[d];rfl⟩⟩⟩
  have hr:=asm hv (ids:=ids) (bs:=ax ch R) hl (by rw[hl];simp[lL,H9]) S;clear hv;refine hr.mono ?_;rintro v w' ⟨x,more,b,ch',rfl,h1,S2,g,rfl,rfl,rfl,h9⟩;have hlen:ids.length=10:=by rw[hl];simp[lL,H9]
  have hm:more=[]:=by
   have:(ids.take 10++more).length=10:=by rw[h1];simp[lL,H9]
   rw[fq,u9,hlen]at this;exact mZ (by simpa using this)
  subst hm;rw[List.take_of_length_le (by omega)]at S2 h1;refine⟨_,[],_,_,?_,h1,S2,hK g h9⟩;rw[List.take_of_length_le (by omega)]
 ·exact hc.elim
def UW:List (bK bU):=[⟨76,false,UT⟩,⟨72,false,UU⟩]
theorem acQ:aC prog (λ_=>none) UW:=aC.cons ⟨asn,λe=>by cases e⟩ (aC.cons ⟨aso,λe=>by cases e⟩ aC.nil)
def UX (n:Nat) (f:fc) (args:List V) (K:VK bU):Prop:=bo (bP prog (λ_=>none) UW) n f args [] [] K
theorem asp {n f:Nat} {args:List V} {K:VK bU} (h:pH (UX n f args (br 0 K))) {w:ae}:
 aS prog f (aD [] args).toArray w λv w1=>∃x b ch,(b=[]->v=den [] x)/\(b=[]->St [] w (ax ch []) w1)/\K x b ch:=by
 refine(eG acQ.T acQ.Q n (C:=bP prog (λ_=>none) UW) (ids:=[]) (bl:=[]) (ch:=[]) (R:=[]) (ms:=[]) (w0:=w) (w:=w) Gl.none rfl (St.nil [] w) h.h).mono ?_;rintro v w' ⟨y,more,bl',ch',rfl,h1,S',hK⟩;obtain⟨v2,cB,bl2,e,cW,S2,hK⟩:=hU (n0:=0) (ids:=more) h1 (by simp) S' hK;refine⟨v2,bl2,ch',λhb=>?_,λhb=>?_,hK⟩
 ·subst hb;obtain rfl:cB=[]:=by simpa using cW
  exact e
 ·subst hb;obtain rfl:cB=[]:=by simpa using cW
  exact S2
theorem asq (nc:Nat->Int) (K:VK bU):UX 60 190 [.agg (nW nc)] (br 0 K)=∃nc1,nW nc=nW nc1/\∀(k:Nat) (u:List ab),8<=k->∃MY u2,lL nc1 u=lL MY u2/\(∀j,0<=MY j/\MY j<=255)/\∀g:bU,MX MY g->K (.an [g.v,.int .i64 0]) [] [g]:=by kernel_rfl
theorem asr (nc:Nat->Int) (h:∀j,0<=nc j/\nc j<=255) (w:ae):aS prog 190 (aD [] [.agg (nW nc)]).toArray w λv w1=>∃b c1,v=.tuple #[.slice (some ⟨b,0,none⟩) 9 c1,.int .i64 0]/\9<=c1/\w.heap.size<=b/\cd w1 b 0 9 (f9 nc)/\Ch [] w w1:=by
 have hv:pH (UX 60 190 [.agg (nW nc)] (br 0 λv b ch=>∃g,v=.an [g.v,.int .i64 0]/\b=[]/\ch=[g]/\MX nc g)):=⟨by rw[asq];exact⟨nc,rfl,λk u _=>⟨nc,u,rfl,h,λg hg=>⟨g,rfl,rfl,rfl,hg⟩⟩⟩⟩;have hr:=asp hv (w:=w);clear hv;refine hr.mono ?_;rintro v w' ⟨x,b,ch',e,S2,g,rfl,rfl,rfl,h1,h2,h3,h4⟩;have e:=e rfl;have S2:=S2 rfl;have hg:=g.h;rw[h1,h2,h3,h4]at hg;obtain⟨_,hc,hx⟩:=hg;rcases hx with⟨_,h0,_⟩|⟨b,t,hx,hb,_⟩
 ·cases h0
 ·have S3:St [] w ([⟨b,true,.cells (((bd 9).map λj=>eg .u8 (f9 nc j))++t).toArray 5 (0,0)⟩]++[]) w':=by
   have:St [] w (g.bl++[]) w':=S2;rw[hb]at this;exact this
  refine⟨b,g.c,?_,hc,(S3.own 0 _ rfl rfl).resolve_left (by simp),λj hj=>?_,S3.ch⟩
  ·rw[e];simp only[den,aD,bU.v,hx,h3]
  ·rw[eD,cell_of (S3.at_ 0 _ rfl)];simp only[jt];rw[gV (by simpa using hj)];simp[m9 hj]
end
section
open Go Go.RowKit Go.BigFrame Sx
def UY (r:Sd.aE):Array ab:=#[.int .i64 r.kind,.int .i64 r.seq,.int .i64 r.role,.int .i64 r.dh,.int .i64 r.af,.int .i64 r.code,.int .u8 (r.aw 0),.int .u8 (r.aw 1),.int .u8 (r.aw 2),.int .u8 (r.aw 3),.int .u8 (r.aw 4),.int .u8 (r.aw 5),.int .u8 (r.aw 6),.int .u8 (r.aw 7)]
def cM (r:Sd.aE):Nat:=if r.kind=129 then 9 else if r.kind=130\/r.kind=131 then 5 else if r.kind=132 then 6 else if r.kind=133\/r.kind=136 then 3 else 4
def ko (r:Sd.aE):Nat->Int:=if r.kind=129 then f9 r.aw else if r.kind=130 then da [130,aK 1 (u64.wrap r.role) 0,aK 1 (u64.wrap r.dh) 0,aK 2 (u64.wrap r.af) 0,aK 2 (u64.wrap r.af) 1]
 else if r.kind=131 then da [131,aK 4 (u64.wrap r.seq) 0,aK 4 (u64.wrap r.seq) 1,aK 4 (u64.wrap r.seq) 2,aK 4 (u64.wrap r.seq) 3]else if r.kind=132 then da [132,aK 4 (u64.wrap r.seq) 0,aK 4 (u64.wrap r.seq) 1,aK 4 (u64.wrap r.seq) 2,aK 4 (u64.wrap r.seq) 3,aK 1 (u64.wrap r.code) 0]
 else if r.kind=133 then da [133,aK 2 (u64.wrap r.af) 0,aK 2 (u64.wrap r.af) 1]else if r.kind=134 then da [134,aK 1 (u64.wrap r.dh) 0,aK 2 (u64.wrap r.af) 0,aK 2 (u64.wrap r.af) 1]
 else if r.kind=135 then da [135,aK 1 (u64.wrap r.dh) 0,aK 2 (u64.wrap r.af) 0,aK 2 (u64.wrap r.af) 1]else da [136,aK 1 (u64.wrap r.dh) 0,aK 1 (u64.wrap r.code) 0]
theorem acR (r:Sd.aE):cM r=3\/cM r=4\/cM r=5\/cM r=6\/cM r=9:=by
 unfold cM;repeat' split
 all_goals simp
theorem ass (r:Sd.aE) (h:RB r) (w:ae):aS prog 190 #[.agg (UY r)] w λv w1=>∃b c1,v=.tuple #[.slice (some ⟨b,0,none⟩) (cM r) c1,.int .i64 0]/\cM r<=c1/\w.heap.size<=b/\cd w1 b 0 (cM r) (ko r)/\Ch [] w w1:=by
 have hk:r.kind=129\/r.kind=130\/r.kind=131\/r.kind=132\/r.kind=133\/r.kind=134\/r.kind=135\/r.kind=136:=by have:=h.kind;omega
 obtain⟨k,sq,ro,wh,ep,co,nc⟩:=r;obtain⟨_,⟨s1,s2⟩,⟨r1,r2⟩,⟨w1,w2⟩,⟨e1,e2⟩,⟨c1,c2⟩,⟨n1,n2⟩⟩:=h;simp only at*;rcases hk with rfl|rfl|rfl|rfl|rfl|rfl|rfl|rfl<;>simp at s2 r2 w2 e2 c2 n2<;>subst_vars
 ·exact asr nc n1 w
 ·exact ar8 ro wh ep r1 w1 e1 w
 ·exact ar7 sq s1 w
 ·exact ar9 sq co s1 c1 w
 ·exact ar_ ep e1 w
 ·exact asa wh ep w1 e1 w
 ·exact asb wh ep w1 e1 w
 ·exact ar6 wh co w1 c1 w
theorem ast (n:Nat) (hn:n=3\/n=4\/n=5\/n=6\/n=9) (b o c:Nat) (f:Nat->Int) (w:ae) (hB:cd w b o n f):
 aS prog 191 #[.slice (some ⟨b,o,none⟩) n c] w λv w1=>∃b c1,v=.tuple #[.slice (some ⟨b,0,none⟩) (n+5) c1,.int .i64 0]/\n+5<=c1/\w.heap.size<=b/\w1.heap[b]?=some (.cells (bD (n+5) (nA n f) c1) 5 (0,0))/\Ch [] w w1:=by
 exact ajr b o n c f (by omega) w hB
theorem asu (xs:Option aO) (ns cs:Nat) (dD bc:Nat) (x:Option aO) (n c:Nat) (bl:List ai) (so:List ab) (l:Int) (r:Sd.aE) (UZ:RB r) (w:ae) {ms:List Nat} {w0:ae} {bs:List ai} (S0:St ms w0 ([⟨dD,true,.cells #[.pointer (some ⟨bc,0,none⟩),.slice xs ns cs,.slice x n c] 128 (0,0)⟩]++(bl++bs)) w) (hR:eW 2 85 so xs ns cs bl) (hn:ns<=1000):
 aS prog 147 #[.pointer (some ⟨dD,0,none⟩),.int .i64 l,.agg #[.int .i64 r.kind,.int .i64 r.seq,.int .i64 r.role,.int .i64 r.dh,.int .i64 r.af,.int .i64 r.code,.int .u8 (r.aw 0),.int .u8 (r.aw 1),.int .u8 (r.aw 2),.int .u8 (r.aw 3),.int .u8 (r.aw 4),.int .u8 (r.aw 5),.int .u8 (r.aw 6),.int .u8 (r.aw 7)]] w λv w1=>∃x1 c1 jQ bf cf,v=.tuple #[]/\eW 2 85 (so++[.int .i64 l,.slice (some ⟨bf,0,none⟩) (cM r+5) cf]) x1 (ns+1) c1 jQ/\cM r+5<=cf/\St ms w0 ([⟨dD,true,.cells #[.pointer (some ⟨bc,0,none⟩),.slice x1 (ns+1) c1,.slice x n c] 128 (0,0)⟩]++(jQ++(⟨bf,true,.cells (bD (cM r+5) (nA (cM r) (ko r)) cf) 5 (0,0)⟩::bs))) w1:=by
 refine iL Tryz.func147 rfl ?_;refine aQ (aX ?_);refine eE S0 (λb=>.pointer (some ⟨b,0,none⟩)) (.cells #[.int .i64 r.kind,.int .i64 r.seq,.int .i64 r.role,.int .i64 r.dh,.int .i64 r.af,.int .i64 r.code,.int .u8 (r.aw 0),.int .u8 (r.aw 1),.int .u8 (r.aw 2),.int .u8 (r.aw 3),.int .u8 (r.aw 4),.int .u8 (r.aw 5),.int .u8 (r.aw 6),.int .u8 (r.aw 7)] 40) ?_;intro bE hY dB;refine aT (aP (aQ (aX ?_)));refine jY dB 0 14 #[.int .i64 r.kind,.int .i64 r.seq,.int .i64 r.role,.int .i64 r.dh,.int .i64 r.af,.int .i64 r.code,.int .u8 (r.aw 0),.int .u8 (r.aw 1),.int .u8 (r.aw 2),.int .u8 (r.aw 3),.int .u8 (r.aw 4),.int .u8 (r.aw 5),.int .u8 (r.aw 6),.int .u8 (r.aw 7)] bE 0 ?_;refine fu 190 #[.agg #[.int .i64 r.kind,.int .i64 r.seq,.int .i64 r.role,.int .i64 r.dh,.int .i64 r.af,.int .i64 r.code,.int .u8 (r.aw 0),.int .u8 (r.aw 1),.int .u8 (r.aw 2),.int .u8 (r.aw 3),.int .u8 (r.aw 4),.int .u8 (r.aw 5),.int .u8 (r.aw 6),.int .u8 (r.aw 7)]] ?_;refine(ass r UZ _).mono ?_;rintro _ FV ⟨sR,U0,rfl,v9,kW,j7,FW⟩;have cV:=dB.quiet FW;refine dJ ?_;refine ak (.slice (some ⟨sR,0,none⟩) (cM r) U0) ?_;refine ak (.int .i64 0) ?_;refine fS ?_;refine ak (.int .i64 0) ?_;refine aT (aP (aQ (aX ?_)));refine dJ ?_;refine fu 191 #[.slice (some ⟨sR,0,none⟩) (cM r) U0] ?_;refine(ast (cM r) (acR r) sR 0 U0 (ko r) _ j7).mono ?_;rintro _ P9 ⟨l_,kB,rfl,C9,FP,yy,mG⟩;have ow:=cV.new mG FP yy;refine dJ ?_;refine ak (.slice (some ⟨l_,0,none⟩) (cM r+5) kB) ?_;refine ak (.int .i64 0) ?_;refine fS ?_;refine ak (.int .i64 0) ?_;refine aT (aP (aX ?_));refine dJ ?_;refine dJ ?_;refine ak (.pointer (some ⟨dD,0,none⟩)) ?_;refine ak (.pointer (some ⟨dD,1,none⟩)) ?_;refine oX ow 2 (.slice xs ns cs) dD 1 ?_;refine ak (.int .i64 l) ?_;refine dJ ?_;refine ak (.agg #[.int .i64 l,.slice (some ⟨l_,0,none⟩) (cM r+5) kB]) ?_;refine eE ow (λb=>.slice (some ⟨b,0,none⟩) 1 1) (.cells #[.int .i64 l,.slice (some ⟨l_,0,none⟩) (cM r+5) kB] 85) ?_;intro Ia QX uk;have asv:St ms w0 ([⟨Ia,true,.cells #[.int .i64 l,.slice (some ⟨l_,0,none⟩) (cM r+5) kB] 85 (0,0)⟩,⟨l_,true,.cells (bD (cM r+5) (nA (cM r) (ko r)) kB) 5 (0,0)⟩,⟨bE,true,.cells #[.int .i64 r.kind,.int .i64 r.seq,.int .i64 r.role,.int .i64 r.dh,.int .i64 r.af,.int .i64 r.code,.int .u8 (r.aw 0),.int .u8 (r.aw 1),.int .u8 (r.aw 2),.int .u8 (r.aw 3),.int .u8 (r.aw 4),.int .u8 (r.aw 5),.int .u8 (r.aw 6),.int .u8 (r.aw 7)] 40 (0,0)⟩,⟨dD,true,.cells #[.pointer (some ⟨bc,0,none⟩),.slice xs ns cs,.slice x n c] 128 (0,0)⟩]++(bl++bs)) QX:=uk.re (R:=bs) [[⟨Ia,true,.cells #[.int .i64 l,.slice (some ⟨l_,0,none⟩) (cM r+5) kB] 85 (0,0)⟩],[⟨l_,true,.cells (bD (cM r+5) (nA (cM r) (ko r)) kB) 5 (0,0)⟩],[⟨bE,true,.cells #[.int .i64 r.kind,.int .i64 r.seq,.int .i64 r.role,.int .i64 r.dh,.int .i64 r.af,.int .i64 r.code,.int .u8 (r.aw 0),.int .u8 (r.aw 1),.int .u8 (r.aw 2),.int .u8 (r.aw 3),.int .u8 (r.aw 4),.int .u8 (r.aw 5),.int .u8 (r.aw 6),.int .u8 (r.aw 7)] 40 (0,0)⟩],[⟨dD,true,.cells #[.pointer (some ⟨bc,0,none⟩),.slice xs ns cs,.slice x n c] 128 (0,0)⟩],bl] [0,1,2,3,4];refine aen (z:=2) (T:=85) (olds:=so) (xs:=xs) (n:=ns) (c:=cs) (m:=1) (news:=[.int .i64 l,.slice (some ⟨l_,0,none⟩) (cM r+5) kB]) (xv:=.slice (some ⟨Ia,0,none⟩) 1 1) (A:=[⟨Ia,true,.cells #[.int .i64 l,.slice (some ⟨l_,0,none⟩) (cM r+5) kB] 85 (0,0)⟩,⟨l_,true,.cells (bD (cM r+5) (nA (cM r) (ko r)) kB) 5 (0,0)⟩,⟨bE,true,.cells #[.int .i64 r.kind,.int .i64 r.seq,.int .i64 r.role,.int .i64 r.dh,.int .i64 r.af,.int .i64 r.code,.int .u8 (r.aw 0),.int .u8 (r.aw 1),.int .u8 (r.aw 2),.int .u8 (r.aw 3),.int .u8 (r.aw 4),.int .u8 (r.aw 5),.int .u8 (r.aw 6),.int .u8 (r.aw 7)] 40 (0,0)⟩,⟨dD,true,.cells #[.pointer (some ⟨bc,0,none⟩),.slice xs ns cs,.slice x n c] 128 (0,0)⟩]) (bl:=bl) (R:=bs) asv hR (aem uk 0 1 2 [.int .i64 l,.slice (some ⟨l_,0,none⟩) (cM r+5) kB] (tx:=59) (e':=85) (by kernel_rfl) (by kernel_rfl) (by kernel_rfl) (by rfl)) 32 (hbd:=(by omega)) (h63:=(by unfold maxLen;omega)) (k:=?_);intro U1 U2 acS awA yB asw;refine ak (.pointer (some ⟨dD,0,none⟩)) ?_;refine ak (.pointer (some ⟨dD,1,none⟩)) ?_;refine store_ asw 3 (.slice U1 (ns+1) U2) dD 1 ?_;intro J6 PU;refine aT ?_;refine end_ rfl (fF [] [] (.tuple #[]) trivial) ?_;refine⟨U1,U2,acS,l_,kB,rfl,?_,C9,?_⟩
 ·exact yB
 ·exact PU.re (R:=bs) [[⟨Ia,true,.cells #[.int .i64 l,.slice (some ⟨l_,0,none⟩) (cM r+5) kB] 85 (0,0)⟩],[⟨l_,true,.cells (bD (cM r+5) (nA (cM r) (ko r)) kB) 5 (0,0)⟩],[⟨bE,true,.cells #[.int .i64 r.kind,.int .i64 r.seq,.int .i64 r.role,.int .i64 r.dh,.int .i64 r.af,.int .i64 r.code,.int .u8 (r.aw 0),.int .u8 (r.aw 1),.int .u8 (r.aw 2),.int .u8 (r.aw 3),.int .u8 (r.aw 4),.int .u8 (r.aw 5),.int .u8 (r.aw 6),.int .u8 (r.aw 7)] 40 (0,0)⟩],[⟨dD,true,.cells #[.pointer (some ⟨bc,0,none⟩),.slice U1 (ns+1) U2,.slice x n c] 128 (0,0)⟩],acS] [3,4,1]
end
section
open Go Go.RowKit Go.BigFrame Sx Vx
def bO (r:Sd.aE):Nat×Sd.av:=(cM r+5,nA (cM r) (ko r))
theorem asx {l:List V} {r:Sd.aE} (h:Sz l=some r) (ids:List Nat):(ah ids l).toArray=UY r:=by
 unfold Sz at h;split at h
 ·split at h
  ·obtain rfl:=cA h;kernel_rfl
  ·obtain rfl:=cA h;kernel_rfl
  ·cases h
 ·cases h
theorem acT (r c s k t:ai) (A B E R:List ai):([r,c,s,k,t]++((A++(B++E))++R)).Perm ([s]++(B++(r::c::k::t::(A++(E++R))))):=by
 have h1:([r,c,s,k,t]++((A++(B++E))++R)).Perm (s::r::c::k::t::((A++(B++E))++R)):=by
  refine((ND s c _).cons r).trans ?_;exact ND s r _
 refine h1.trans (u7 s ?_);have h2:([r,c,k,t]++(A++(B++(E++R)))).Perm (B++([r,c,k,t]++(A++(E++R)))):=by
  have e1:[r,c,k,t]++(A++(B++(E++R)))=([r,c,k,t]++A)++(B++(E++R)):=by simp
  have e2:B++([r,c,k,t]++(A++(E++R)))=B++(([r,c,k,t]++A)++(E++R)):=by simp
  rw[e1,e2];exact rW _ _ _
 simpa[bR]using h2
def aW.tell {fr:Sd.aE->Nat×Sd.av} {k:LK} {s:Sd.aa} (F:aW fr (aR k s)) (l:Int) (r:Sd.aE) {x1:Option aO} {c1:Nat} {jQ Bf:List ai} {so:List ab} (hs:eW 2 85 so x1 (s.tell l r).bh.length c1 jQ) (hf:Bb fr (s.tell l r).bh so Bf):aW fr (aR k (s.tell l r)):=
 ⟨x1,c1,F.xr,F.cr,F.Bq,F.Br,jQ,Bf,F.Bk,so,F.hq,F.hr,hs,hf,F.hk⟩
theorem Eh:Body (fr:=bO) 147 dI:=by
 intro ar k s F Kb a b c R ms w0 w h0 hq hM S;unfold dI at hM;split at hM
 ·rename_i l rl;split at hM
  ·rename_i r hr;have hrm:=hM.1.1;have UZ:=hM.1.2;have hK:=hM.2;have e1:lits (bN a b c) (bN a b c) (bz k s F)=[az (bN a b c) 1 (b9 k),az (bN a b c) 0 (iB k),⟨a,true,.cells #[.pointer (some ⟨b,0,none⟩),F.vs,F.vr] 128 (0,0)⟩,az (bN a b c) b (gL k 4 s),az (bN a b c) c (gE s)]:=by kernel_rfl
   rw[e1,Si]at S;have S1:=S.perm (acT _ _ _ _ _ _ _ _ _);have e2:(aD (bN a b c) (.ptr 2 0::[.int .i64 l,.agg rl])).toArray=#[.pointer (some ⟨a,0,none⟩),.int .i64 l,.agg (UY r)]:=by
    have:=asx hr (bN a b c);simp only[aD,den,this];rfl
   rw[e2];have hn:s.bh.length<=1000:=by have:=hrm.1;omega
   refine(asu _ _ _ _ _ _ _ _ _ _ l r UZ w S1 F.hs hn).mono ?_;rintro v w1 ⟨x1,c1,jQ,bf,cf,rfl,gY,hcf,S2⟩;have hl:(s.tell l r).bh.length=s.bh.length+1:=by simp[Sd.aa.tell]
   have jg:eW 2 85 (F.so++[.int .i64 l,.slice (some ⟨bf,0,none⟩) (bO r).1 cf]) x1 (s.tell l r).bh.length c1 jQ:=by rw[hl];exact gY
   have E_:Bb bO (s.tell l r).bh (F.so++[.int .i64 l,.slice (some ⟨bf,0,none⟩) (bO r).1 cf]) (F.Bf++[⟨bf,true,.cells (bD (bO r).1 (bO r).2 cf) 5 (0,0)⟩]):=F.hf.snoc l r (some ⟨bf,0,none⟩) cf _ ⟨hcf,.inr ⟨bf,rfl,rfl⟩⟩
   let F':aW bO (aR k (s.tell l r)):=F.tell l r jg E_
   refine⟨.an [],_,F',rfl,rfl,rfl,hK F',?_⟩;have e3:lits (bN a b c) (bN a b c) (bz k (s.tell l r) F')=[az (bN a b c) 1 (b9 k),az (bN a b c) 0 (iB k),⟨a,true,.cells #[.pointer (some ⟨b,0,none⟩),.slice x1 (s.tell l r).bh.length c1,F.vr] 128 (0,0)⟩,az (bN a b c) b (gL k 4 s),az (bN a b c) c (gE s)]:=by kernel_rfl
   have e4:F'.B=F.Br++(jQ++((F.Bf++[⟨bf,true,.cells (bD (bO r).1 (bO r).2 cf) 5 (0,0)⟩])++(F.Bq++F.Bk))):=rfl;rw[e3,e4,hl];refine(S2.perm ?_).perm (acT _ _ _ _ _ _ _ _ _).symm;refine qG _ (qG _ ?_);have p:∀(f x1 x2 x3 x4:ai) (A E D R:List ai),(f::x1::x2::x3::x4::(A++((E++D)++R))).Perm (x1::x2::x3::x4::(A++(((E++[f])++D)++R))):=by
    intro f x1 x2 x3 x4 A E D R;have q1:f::x1::x2::x3::x4::(A++((E++D)++R))=[f]++(([x1,x2,x3,x4]++(A++E))++(D++R)):=by simp
    have q2:x1::x2::x3::x4::(A++(((E++[f])++D)++R))=([x1,x2,x3,x4]++(A++E))++([f]++(D++R)):=by simp
    rw[q1,q2];exact rW _ _ _
   exact p _ _ _ _ _ _ _ _ _
  ·exact hM.elim
 ·exact hM.elim
end
end Go.Proofs.YtggfpcggakghnaaGreatDoor
namespace Sx
open Go Go.RowKit Go.BigFrame
theorem St.MZ {w:ae} {bs:List ai} (h:∀y∈bs,y.wr=false/\w.heap[y.id]?=some y.obj):St [] w bs w:=by
 refine St.mk' (Ch.refl _ _) (λy hy=>(h y hy).2) (λy hy e=>by rw[(h y hy).1]at e;cases e) ?_;refine List.pairwise_of_forall_mem_list (λx hx y hy hc=>?_);rcases hc with hc|hc
 ·rw[(h x hx).1]at hc;cases hc
 ·rw[(h y hy).1]at hc;cases hc
end Sx
namespace Go.Proofs.YtggfpcggakghnaaGreatDoor
open Go Go.RowKit Go.BigFrame Go.WideShapes Sx Vx
theorem asy (u:ae):∀y∈dC u,y.wr=false/\u.heap[y.id]?=some y.obj:=by
 intro y hy;unfold dC at hy;rw[mn]at hy;obtain⟨⟨o,i⟩,hp,rfl⟩:=hy;refine⟨rfl,?_⟩;rw[List.mk_mem_zipIdx_iff_getElem?]at hp;simpa using hp
theorem acU {cs:List ab} {off z:Nat} (g:Nat->List ab) (hz:∀j,(g j).length=z):∀n,(∀k,k<n->∀j,j<z->cs[off+k*z+j]?=(g k)[j]?)->cs.drop off=(bd n).flatMap g++cs.drop (off+n*z)
 |0,_=>by simp
 |n+1,h=>by
  rw[acU g hz n (λk hk=>h k (by omega)),Cf,Ey,bR];congr 1;have e:(cs.drop (off+n*z)).take z=g n:=by
   apply u_;intro j;by_cases hj:j<z
   ·rw[V7 hj,Ez];exact h n (by omega) j hj
   ·rw[iK (by simp;omega),iK (by rw[hz];omega)]
  have e2:=jv z (cs.drop (off+n*z));rw[e,List.drop_drop]at e2;rw[List.flatMap_cons,List.flatMap_nil,cQ,<-e2];congr 2;rw[mq];omega
structure M0 (W:ae) (v:ab) (z:Nat) (g:Nat->List ab) (i o n c:Nat) (a:Option aO) (ty:BT) (pre post:List ab):Prop where
 v:v=.slice (bif aq n 0 then a else some ⟨i,o,none⟩) n c
 le:n<=c
 po:∀j,j<n->o=pre.length
 at_:W.heap[i]?=some (.cells (pre++((bd n).flatMap g++post)).toArray ty.t ty.fz)
theorem M0.nil {W:ae} {z:Nat} {g:Nat->List ab} {cs:Array ab} {t:aG} {f:Nat×Nat} {i:Nat} (h:W.heap[i]?=some (.cells cs t f)):M0 W (.slice none 0 0) z g i 0 0 0 none ⟨t,f⟩ [] cs.toList:=
 ⟨rfl,dE _,(λj hj=>absurd hj (by omega)),by simpa using h⟩
theorem M0.some {W:ae} {z b o n c:Nat} {g:Nat->List ab} {cs:Array ab} {t:aG} {f:Nat×Nat} (hle:n<=c) (hz:∀j,(g j).length=z) (aM:W.heap[b]?=some (.cells cs t f)) (h:∀k,k<n->∀j,j<z->W.cell? ⟨b,o+k*z+j,none⟩=(g k)[j]?) (hp:0<z):
 ∃pre post,M0 W (.slice (some ⟨b,o,none⟩) n c) z g b o n c (some ⟨b,o,none⟩) ⟨t,f⟩ pre post:=by
 have hc:∀k,k<n->∀j,j<z->cs.toList[o+k*z+j]?=(g k)[j]?:=λk hk j hj=>by
  have:=h k hk j hj;rw[cell_of aM]at this;simpa using this
 have hs:=acU g hz n hc;by_cases hn:n=0
 ·subst hn;exact⟨[],cs.toList,by cases aq 0 0<;>rfl,hle,(λj hj=>absurd hj (by omega)),by simpa using aM⟩
 ·refine⟨cs.toList.take o,cs.toList.drop (o+n*z),by cases aq n 0<;>rfl,hle,λj hj=>?_,?_⟩
  ·have h0:=hc 0 (by omega) 0 hp;have:o<cs.toList.length:=by
    rcases cN o cs.toList.length with h1|h1
    ·exact h1
    ·exfalso;rw[iK (by omega)]at h0;have h2:=hz 0;rw[jb (by omega)]at h0;cases h0
   rw[u9];omega
  ·rw[<-hs,jv];exact aM
end Go.Proofs.YtggfpcggakghnaaGreatDoor
namespace Go.Proofs.YtggfpcggakghnaaGreatDoor
section
open Go Go.RowKit Go.BigFrame Sx Vx
def oJ (l:List Int):Int:=i64.wrap (l.foldl (λs b=>bits .or .u64 (u64.wrap (s*2^8)) (u64.wrap b)) 0)
def Ib (bad:Prop) (Ic:List Int->Prop):List (List Int×Int×Int)->List Int->Prop
 |[],acc=>Ic acc
 |(bs,lo,hi)::l,acc=>cond (decide (oJ bs<lo)) bad (cond (decide (oJ bs>hi)) bad (Ib bad Ic l (acc++[oJ bs])))
def zq (l:List Int) (us:List ab):List VB:=[⟨false,⟨5,(0,0)⟩,l.map (λx=>V.int .u8 x)++[.rest us]⟩]
def zr (n:Nat) (l:List Int) (us:List ab) (e:Nat) (K:VK Empty):Prop:=bo (fA prog cU ([]:List (bK Empty)) (Ee prog) MV) 60 49 [.sl 0 0 n (e+n)] (zq l us) [] (br 1 K)
def zt (k a b c d e:Int) (code:Int):V:=.an [.agg [.int .i64 k,.int .i64 a,.int .i64 b,.int .i64 c,.int .i64 d,.int .i64 e,.int .u8 0,.int .u8 0,.int .u8 0,.int .u8 0,.int .u8 0,.int .u8 0,.int .u8 0,.int .u8 0],.int .i64 code]
def zu (l:List Int) (us:List ab) (K:VK Empty) (fs:List (List Int×Int×Int)) (g:List Int->V):Prop:=Ib (K (zt 0 0 0 0 0 0 13) (zq l us) []) (λx=>K (g x) (zq l us) []) fs []
section
variable(a b c d x:Int) (us:List ab) (e:Nat) (K:VK Empty)
theorem asz:zr 5 [131,a,b,c,d] us e K=zu [131,a,b,c,d] us K [([a,b,c,d],0,4294967295)] (λl=>zt 131 (l.getD 0 0) 0 0 0 0 0):=by kernel_rfl
theorem asA:zr 5 [130,a,b,c,d] us e K=zu [130,a,b,c,d] us K [([a],0,3),([b],0,4),([c,d],0,65535)] (λl=>zt 130 0 (l.getD 0 0) (l.getD 1 0) (l.getD 2 0) 0 0):=by kernel_rfl
theorem asB:zr 6 [132,a,b,c,d,x] us e K=zu [132,a,b,c,d,x] us K [([a,b,c,d],0,4294967295),([x],0,255)] (λl=>zt 132 (l.getD 0 0) 0 0 0 (l.getD 1 0) 0):=by kernel_rfl
theorem asC:zr 3 [133,a,b] us e K=zu [133,a,b] us K [([a,b],0,65535)] (λl=>zt 133 0 0 0 (l.getD 0 0) 0 0):=by kernel_rfl
theorem asD:zr 4 [134,a,b,c] us e K=zu [134,a,b,c] us K [([a],0,4),([b,c],0,65535)] (λl=>zt 134 0 0 (l.getD 0 0) (l.getD 1 0) 0 0):=by kernel_rfl
theorem asE:zr 4 [135,a,b,c] us e K=zu [135,a,b,c] us K [([a],0,4),([b,c],0,65535)] (λl=>zt 135 0 0 (l.getD 0 0) (l.getD 1 0) 0 0):=by kernel_rfl
theorem asF:zr 3 [136,a,b] us e K=zu [136,a,b] us K [([a],0,4),([b],0,255)] (λl=>zt 136 0 0 (l.getD 0 0) 0 (l.getD 1 0) 0):=by kernel_rfl
end
theorem BZ {s b:Int} (hs:0<=s/\s<2^56) (hb:0<=b/\b<=255):bits .or .u64 (u64.wrap (s*2^8)) (u64.wrap b)=s*256+b:=by
 rw[show u64.wrap b=b by rw[rY];omega];exact Dt s b hs (by omega)
theorem U3 {a:Int} (ha:0<=a/\a<=255):oJ [a]=a:=by
 unfold oJ;simp only[ve,Wa];rw[BZ (by omega) ha,te (by omega)];omega
theorem acV {a b:Int} (ha:0<=a/\a<=255) (hb:0<=b/\b<=255):oJ [a,b]=a*256+b:=by
 unfold oJ;simp only[ve,Wa];rw[BZ (by omega) ha,BZ (by omega) hb,te (by omega)];omega
theorem acW {a b c d:Int} (ha:0<=a/\a<=255) (hb:0<=b/\b<=255) (hc:0<=c/\c<=255) (hd:0<=d/\d<=255):oJ [a,b,c,d]=((a*256+b)*256+c)*256+d:=by
 unfold oJ;simp only[ve,Wa];rw[BZ (by omega) ha,BZ (by omega) hb,BZ (by omega) hc,BZ (by omega) hd,te (by omega)];omega
theorem nX (k:Nat) (x:Int) (j:Nat):0<=aK k x j/\aK k x j<=255:=by
 unfold aK;rw[xA];omega
theorem zv {v:Int} (h:0<=v/\v<=255):oJ [aK 1 (u64.wrap v) 0]=v:=by
 rw[U3 (nX _ _ _)];unfold aK;rw[show u64.wrap v=v by rw[rY];omega,xA,tK _ (by decide)];show v/1%256=v;omega
theorem Ie {v:Int} (h:0<=v/\v<=65535):oJ [aK 2 (u64.wrap v) 0,aK 2 (u64.wrap v) 1]=v:=by
 rw[acV (nX _ _ _) (nX _ _ _)];unfold aK;rw[show u64.wrap v=v by rw[rY];omega,xA,xA,tK _ (by decide),tK _ (by decide)];show v/256%256*256+v/1%256=v;omega
theorem U4 {v:Int} (h:0<=v/\v<=4294967295):oJ [aK 4 (u64.wrap v) 0,aK 4 (u64.wrap v) 1,aK 4 (u64.wrap v) 2,aK 4 (u64.wrap v) 3]=v:=by
 rw[acW (nX _ _ _) (nX _ _ _) (nX _ _ _) (nX _ _ _)];unfold aK;rw[show u64.wrap v=v by rw[rY];omega];simp only[xA];rw[tK _ (by decide),tK _ (by decide),tK _ (by decide),tK _ (by decide)];show((v/16777216%256*256+v/65536%256)*256+v/256%256)*256+v/1%256=v;omega
def trP:List (List Int×Int×Int)->List Int->Prop
 |[],[]=>True
 |(bs,lo,hi)::fs,v::vs=>(oJ bs=v/\lo<=v/\v<=hi)/\trP fs vs
 |_,_=>False
theorem xn {bad:Prop} {Ic:List Int->Prop}:∀(fs:List (List Int×Int×Int)) (vs acc:List Int),trP fs vs->Ic (acc++vs)->Ib bad Ic fs acc
 |[],[],acc,_,hg=>by
  unfold Ib;simpa using hg
 |[],v::vs,acc,h,_=>h.elim
 |(bs,lo,hi)::fs,[],acc,h,_=>h.elim
 |(bs,lo,hi)::fs,v::vs,acc,h,hg=>by
  obtain⟨⟨h1,h2,h3⟩,hf⟩:=h;unfold Ib;rw[h1];refine aI (λe=>?_) (λ_=>aI (λe=>?_) (λ_=>xn fs vs _ hf (by simpa using hg)))
  ·have:=of_decide_eq_true e;omega
  ·have:=of_decide_eq_true e;omega
def M1 (r:Sd.aE):List Int:=(bd (cM r)).map (ko r)
def ia (r:Sd.aE):List V:=[.int .i64 r.kind,.int .i64 r.seq,.int .i64 r.role,.int .i64 r.dh,.int .i64 r.af,.int .i64 r.code,.int .u8 (r.aw 0),.int .u8 (r.aw 1),.int .u8 (r.aw 2),.int .u8 (r.aw 3),.int .u8 (r.aw 4),.int .u8 (r.aw 5),.int .u8 (r.aw 6),.int .u8 (r.aw 7)]
theorem B4 {n:Nat} {l:List Int} {us:List ab} {e:Nat} {v0:V} (rQ:cK 0 v0=true) (h:Hd (zr n l us e λv b c=>v=v0)) {w:ae} {b:Nat} (aM:w.heap[b]?=some (.cells (l.map (λx=>eg .u8 x)++us).toArray 5 (0,0))):
 aS prog 49 #[.slice (some ⟨b,0,none⟩) n (e+n)] w λv w'=>v=den [] v0/\Ch [] w w':=by
 have hd:∀l:List Int,ah [b] (l.map (λx=>V.int .u8 x)++[.rest us])=l.map (λx=>eg .u8 x)++us:=by
  intro l;induction l with
  |nil=>simp only[vf,fl,ah,cl,cQ]
  |cons x l ih=>simp only[eH,ft,ah,cl,den,ih,fl]
 have S:St [] w (lits [b] [b] (zq l us)++ax ([]:List Empty) []) w:=by
  refine St.MZ ?_;intro y hy;simp only[zq,lits,ax,cQ,ca,oV,or_false]at hy;subst hy;refine⟨rfl,aM.trans ?_⟩;simp only[az,hd]
 have hok:aC (G:=Empty) prog cU []:=aC.nil;refine(eG (C:=fA prog cU ([]:List (bK Empty)) (Ee prog) MV) hok.T hok.Q 60 (ids:=[b]) (λg i h=>by cases h) rfl S h.h).mono ?_;rintro v w' ⟨y,more,bl',ch',rfl,h1,S',hK⟩;obtain⟨v2,cB,bl2,zx,-,S2,pP⟩:=hU (n0:=1) h1 (by simp) S' hK;obtain rfl:v2=v0:=pP;refine⟨?_,S2.ch⟩;rw[zx];have:=fI (ids:=[]) (more:=List.take 1 ([b]++more)++cB) v2 rQ;simpa using this
theorem asG (r:Sd.aE) (h:RB r) (h9:r.kind≠129) {us:List ab} {e:Nat} {w:ae} {b:Nat} (aM:w.heap[b]?=some (.cells ((M1 r).map (λx=>eg .u8 x)++us).toArray 5 (0,0))):
 aS prog 49 #[.slice (some ⟨b,0,none⟩) (cM r) (e+cM r)] w λv w'=>v=den [] (.an [.agg (ia r),.int .i64 0])/\Ch [] w w':=by
 have hk:r.kind=130\/r.kind=131\/r.kind=132\/r.kind=133\/r.kind=134\/r.kind=135\/r.kind=136:=by have:=h.kind;omega
 obtain⟨k,sq,ro,wh,ep,co,nc⟩:=r;obtain⟨_,⟨s1,s2⟩,⟨r1,r2⟩,⟨w1,w2⟩,⟨e1,e2⟩,⟨c1,c2⟩,⟨n1,n2⟩⟩:=h;simp only at*;rcases hk with rfl|rfl|rfl|rfl|rfl|rfl|rfl<;>simp at s2 r2 w2 e2 c2 n2<;>subst_vars
 ·exact B4 (n:=5) (l:=[130,aK 1 (u64.wrap ro) 0,aK 1 (u64.wrap wh) 0,aK 2 (u64.wrap ep) 0,aK 2 (u64.wrap ep) 1]) rfl ⟨by rw[asA];exact xn _ [ro,wh,ep] [] ⟨⟨zv (by omega),r1⟩,⟨zv ⟨w1.1,by have:=w1.2;omega⟩,w1⟩,⟨Ie e1,e1⟩,trivial⟩ rfl⟩ aM
 ·exact B4 (n:=5) (l:=[131,aK 4 (u64.wrap sq) 0,aK 4 (u64.wrap sq) 1,aK 4 (u64.wrap sq) 2,aK 4 (u64.wrap sq) 3]) rfl ⟨by rw[asz];exact xn _ [sq] [] ⟨⟨U4 s1,s1⟩,trivial⟩ rfl⟩ aM
 ·exact B4 (n:=6) (l:=[132,aK 4 (u64.wrap sq) 0,aK 4 (u64.wrap sq) 1,aK 4 (u64.wrap sq) 2,aK 4 (u64.wrap sq) 3,aK 1 (u64.wrap co) 0]) rfl ⟨by rw[asB];exact xn _ [sq,co] [] ⟨⟨U4 s1,s1⟩,⟨zv c1,c1⟩,trivial⟩ rfl⟩ aM
 ·exact B4 (n:=3) (l:=[133,aK 2 (u64.wrap ep) 0,aK 2 (u64.wrap ep) 1]) rfl ⟨by rw[asC];exact xn _ [ep] [] ⟨⟨Ie e1,e1⟩,trivial⟩ rfl⟩ aM
 ·exact B4 (n:=4) (l:=[134,aK 1 (u64.wrap wh) 0,aK 2 (u64.wrap ep) 0,aK 2 (u64.wrap ep) 1]) rfl ⟨by rw[asD];exact xn _ [wh,ep] [] ⟨⟨zv ⟨w1.1,by have:=w1.2;omega⟩,w1⟩,⟨Ie e1,e1⟩,trivial⟩ rfl⟩ aM
 ·exact B4 (n:=4) (l:=[135,aK 1 (u64.wrap wh) 0,aK 2 (u64.wrap ep) 0,aK 2 (u64.wrap ep) 1]) rfl ⟨by rw[asE];exact xn _ [wh,ep] [] ⟨⟨zv ⟨w1.1,by have:=w1.2;omega⟩,w1⟩,⟨Ie e1,e1⟩,trivial⟩ rfl⟩ aM
 ·exact B4 (n:=3) (l:=[136,aK 1 (u64.wrap wh) 0,aK 1 (u64.wrap co) 0]) rfl ⟨by rw[asF];exact xn _ [wh,co] [] ⟨⟨zv ⟨w1.1,by have:=w1.2;omega⟩,w1⟩,⟨zv c1,c1⟩,trivial⟩ rfl⟩ aM
def zz (j:Nat):List V:=[.int .i64 1,.int .i64 0,.int .i64 255,.fn 173 [] [.ptr j 0],.fn 174 [] [.ptr j 0]]
def U5 (u:List ab):VB:=⟨true,⟨175,(0,0)⟩,zz 4++(zz 5++(zz 6++(zz 7++(zz 8++(zz 9++(zz 10++(zz 11++[.rest u])))))))⟩
def U6:List VB:=(bd 8).map λj=>⟨true,⟨220,(0,0)⟩,[.ptr 2 (6+j)]⟩
def Ig:c_ Empty:=λargs bl ch K=>match args,bl with
 |[.ptr 2 0],[b0,b1,⟨true,⟨40,(0,0)⟩,c⟩]=>cond (bM 3 [b0,b1]) (∃nc,c=nW nc/\∀(k:Nat) (u:List ab),8<=k->K (.an [.sl 3 0 8 k,.bool true]) ([b0,b1]++(xm nc::U5 u::U6)) ch) False
 |_,_=>False
theorem asH:Sound prog (λ_=>none) 76 Ig:=by
 intro args ids bl ch R ms w0 w K hg hl S hc;unfold Ig at hc;split at hc
 ·rename_i b0 b1 c;cases hw:bM 3 [b0,b1]with
  |false=>rw[hw]at hc;exact hc.elim
  |true=>
   rw[hw]at hc;obtain⟨nc,rfl,hK⟩:=hc
   match ids,hl with
   |[x0,x1,r],M3=>
    have S1:St ms w0 (lits [r] [r] [xm nc]++([az [x0,x1,r] x0 b0,az [x0,x1,r] x1 b1]++ax ch R)) w:=by
     have e:lits [x0,x1,r] [x0,x1,r] [b0,b1,⟨true,⟨40,(0,0)⟩,nW nc⟩]=[az [x0,x1,r] x0 b0,az [x0,x1,r] x1 b1,az [r] r (xm nc)]:=rfl;rw[e]at S;exact S.perm (gO λf=>by simp only[lits,ik,zW,zX];omega)
    have hv:pH (Eg 60 76 [.ptr 0 0] [xm nc] (br 1 λv b _=>∃k u,v=.an [.sl 1 0 8 k,.bool true]/\b=lL nc u/\8<=k)):=⟨by rw[acO];exact λc u h1 h2=>UJ 7 1 c u h1 h2 λk u h _=>⟨k,u,rfl,rfl,h⟩⟩;have hr:=UL hv (ids:=[r]) rfl (by simp) S1;clear hv;refine hr.mono ?_;rintro v w' ⟨x,more,b,rfl,h1,S2,k,u,rfl,rfl,h8⟩;have hm:more.length=9:=by simpa[lL,H9]using h1
    match more,hm with
    |[m0,m1,m2,m3,m4,m5,m6,m7,m8],_=>
     refine⟨.an [.sl 3 0 8 k,.bool true],[m0,m1,m2,m3,m4,m5,m6,m7,m8],[b0,b1]++(xm nc::U5 u::U6),ch,rfl,rfl,?_,hK k u h8⟩;have e2:lits ([x0,x1,r]++[m0,m1,m2,m3,m4,m5,m6,m7,m8]) ([x0,x1,r]++[m0,m1,m2,m3,m4,m5,m6,m7,m8]) ([b0,b1]++(xm nc::U5 u::U6))=lits ([x0,x1,r]++[m0,m1,m2,m3,m4,m5,m6,m7,m8]) [x0,x1] [b0,b1]++lits ([r]++[m0,m1,m2,m3,m4,m5,m6,m7,m8]) ([r]++[m0,m1,m2,m3,m4,m5,m6,m7,m8]) (lL nc u):=rfl;rw[e2,e_ (ids:=[x0,x1,r]) [x0,x1] [b0,b1] hw];have S3:St ms w0 (lits ([r]++[m0,m1,m2,m3,m4,m5,m6,m7,m8]) ([r]++[m0,m1,m2,m3,m4,m5,m6,m7,m8]) (lL nc u)++([az [x0,x1,r] x0 b0,az [x0,x1,r] x1 b1]++ax ch R)) w':=S2;generalize lits ([r]++[m0,m1,m2,m3,m4,m5,m6,m7,m8]) ([r]++[m0,m1,m2,m3,m4,m5,m6,m7,m8]) (lL nc u)=L at S3⊢;refine S3.perm (gO λf=>?_);simp only[lits,ik,zW,zX];omega
 ·exact hc.elim
def trU (n:Nat) (l:List Int) (us:List ab) (e:Nat) (K:VK Empty):Prop:=bo (bP prog (λ_=>none) [⟨76,false,Ig⟩]) 60 49 [.sl 0 0 n (e+n)] (zq l us) [] (br 1 K)
def U7 (l:List Int):V:=.an [.agg ([.int .i64 129,.int .i64 0,.int .i64 0,.int .i64 0,.int .i64 0,.int .i64 0]++l.map λx=>.int .u8 (u8.wrap x)),.int .i64 0]
section
variable(a b c d a' b' c' d':Int) (us:List ab) (e:Nat) (K:VK Empty)
theorem asI:trU 9 [129,a,b,c,d,a',b',c',d'] us e K=∃nc,nW (λ_=>0)=nW nc/\∀(k:Nat) (u:List ab),8<=k->zu [129,a,b,c,d,a',b',c',d'] us K [([a],0,255),([b],0,255),([c],0,255),([d],0,255),([a'],0,255),([b'],0,255),([c'],0,255),([d'],0,255)] U7:=by kernel_rfl
end
theorem asJ {n:Nat} {l:List Int} {us:List ab} {e:Nat} {v0:V} (rQ:cK 0 v0=true) (h:Hd (trU n l us e λv b c=>v=v0)) {w:ae} {b:Nat} (aM:w.heap[b]?=some (.cells (l.map (λx=>eg .u8 x)++us).toArray 5 (0,0))):
 aS prog 49 #[.slice (some ⟨b,0,none⟩) n (e+n)] w λv w'=>v=den [] v0/\Ch [] w w':=by
 have hd:∀l:List Int,ah [b] (l.map (λx=>V.int .u8 x)++[.rest us])=l.map (λx=>eg .u8 x)++us:=by
  intro l;induction l with
  |nil=>simp only[vf,fl,ah,cl,cQ]
  |cons x l ih=>simp only[eH,ft,ah,cl,den,ih,fl]
 have S:St [] w (lits [b] [b] (zq l us)++ax ([]:List Empty) []) w:=by
  refine St.MZ ?_;intro y hy;simp only[zq,lits,ax,cQ,ca,oV,or_false]at hy;subst hy;refine⟨rfl,aM.trans ?_⟩;simp only[az,hd]
 have hok:aC (G:=Empty) prog (λ_=>none) [⟨76,false,Ig⟩]:=aC.cons ⟨asH,λe=>by cases e⟩ aC.nil;refine(eG (C:=bP prog (λ_=>none) [⟨76,false,Ig⟩]) hok.T hok.Q 60 (ids:=[b]) (λg i h=>by cases h) rfl S h.h).mono ?_;rintro v w' ⟨y,more,bl',ch',rfl,h1,S',hK⟩;obtain⟨v2,cB,bl2,zx,-,S2,pP⟩:=hU (n0:=1) h1 (by simp) S' hK;obtain rfl:v2=v0:=pP;refine⟨?_,S2.ch⟩;rw[zx];have:=fI (ids:=[]) (more:=List.take 1 ([b]++more)++cB) v2 rQ;simpa using this
theorem asK (r:Sd.aE) (h:RB r) {us:List ab} {e:Nat} {w:ae} {b:Nat} (aM:w.heap[b]?=some (.cells ((M1 r).map (λx=>eg .u8 x)++us).toArray 5 (0,0))):
 aS prog 49 #[.slice (some ⟨b,0,none⟩) (cM r) (e+cM r)] w λv w'=>v=den [] (.an [.agg (ia r),.int .i64 0])/\Ch [] w w':=by
 by_cases h9:r.kind=129
 ·obtain⟨k,sq,ro,wh,ep,co,nc⟩:=r;obtain⟨_,⟨s1,s2⟩,⟨r1,r2⟩,⟨w1,w2⟩,⟨e1,e2⟩,⟨c1,c2⟩,⟨n1,n2⟩⟩:=h;simp only at*;subst h9;simp at s2 r2 w2 e2 c2 n2
  subst_vars
  have hw:∀j,u8.wrap (nc j)=nc j:=λj=>by have:=n1 j;rw[xA];omega
  have hn:∀j,oJ [nc j]=nc j/\0<=nc j/\nc j<=255:=λj=>⟨U3 (n1 j),n1 j⟩;exact asJ (n:=9) (l:=[129,nc 0,nc 1,nc 2,nc 3,nc 4,nc 5,nc 6,nc 7]) rfl ⟨by
   rw[asI];exact⟨λ_=>0,rfl,λ_ _ _=>xn _ [nc 0,nc 1,nc 2,nc 3,nc 4,nc 5,nc 6,nc 7] [] ⟨hn 0,hn 1,hn 2,hn 3,hn 4,hn 5,hn 6,hn 7,trivial⟩ (by
    show U7 _=_;simp only[U7,fl,eH,vf,hw];rfl)⟩⟩ aM
 ·exact asG r h h9 aM
theorem asL (op:BinOp) (a b:Int):0<=bits op .u16 a b/\bits op .u16 a b<=65535:=by
 unfold bits;rw[IT];omega
theorem asM (x:Int):0<=yF x/\yF x<=65535:=by
 unfold yF;cases(bits .and .u16 x 32768!=0)with
 |true=>exact asL .xor (u16.wrap (x*2^1)) 4129
 |false=>
  simp only[cond_false];rw[IT];omega
theorem asN (f:Nat->Int):∀n,0<=jD f n/\jD f n<=65535
 |0=>⟨(by decide:(0:Int)<=65535),(by decide:(65535:Int)<=65535)⟩
 |n+1=>asM _
theorem acX {f g:Nat->Int}:∀n,(∀j,j<n->f j=g j)->jD f n=jD g n
 |0,_=>rfl
 |n+1,h=>by
  show Dq (jD f n) (f n)=Dq (jD g n) (g n);rw[acX n (λj hj=>h j (by omega)),h n (by omega)]
theorem asO {x:Int} (hx:0<=x/\x<=65535):bits .or .u16 (u16.wrap (u16.wrap (u8.wrap (jd x (2^8)))*2^8)) (u16.wrap (u8.wrap x))=x:=by
 have e1:u8.wrap (jd x (2^8))=x/256:=by
  rw[xA,tK _ (by decide)];show x/256%256=x/256;omega
 have e2:u8.wrap x=x%256:=xA x;have e3:u16.wrap (u16.wrap (x/256)*2^8)=x/256*256:=by
  rw[IT,IT];omega
 have e4:u16.wrap (x%256)=x%256:=by rw[IT];omega
 rw[e1,e2,e3,e4];obtain⟨a,ha⟩:∃a:Nat,x/256=a:=⟨(x/256).toNat,by omega⟩;obtain⟨b,hb⟩:∃b:Nat,x%256=b:=⟨(x%256).toNat,by omega⟩;have tS:a<256:=by omega
 have vz:b<256:=by omega
 rw[ha,hb];unfold bits;have h1:(n8 16 ((a:Int)*256)).toNat=a*256:=by simp only[IG];omega
 have h2:(n8 16 (b:Int)).toNat=b:=by simp only[IG];omega
 have h3:(a*256|||b)=a*256+b:=by
  have:=Nat.shiftLeft_add_eq_or_of_lt (i:=8) (b:=b) (by omega) a;rw[Nat.shiftLeft_eq]at this;exact this.symm
 show u16.wrap (((n8 16 ((a:Int)*256)|||n8 16 (b:Int)).toNat:Nat):Int)=_;rw[BitVec.toNat_or,h1,h2,h3,IT];omega
def Ih (n:Nat) (f:Nat->Int):Int:=jD (Aj (cj 3 (da [165,1,n]) f) 1) (3+n-1)
def qo (n:Nat) (f:Nat->Int):Int:=u8.wrap (jd (Ih n f) (2^8))
def qp (n:Nat) (f:Nat->Int):Int:=u8.wrap (Ih n f)
def zA (n:Nat):Prop:=n=3\/n=4\/n=5\/n=6\/n=9
theorem asP {n:Nat} (h:zA n) (cr:(Nat->Int)->Nat->Int) (f:Nat->Int) (hi lo:Int) (us:List ab) (d:Nat) (K:VK Empty):BV cr n f hi lo us d K=BU cr n f hi lo us d K:=by
 rcases h with rfl|rfl|rfl|rfl|rfl
 ·exact arT ..
 ·exact arU ..
 ·exact arV ..
 ·exact arW ..
 ·exact arX ..
theorem asQ {n:Nat} (h:zA n) (f:Nat->Int):(bd (n+5)).map (nA n f)=MW n f (qo n f) (qp n f):=by
 rcases h with rfl|rfl|rfl|rfl|rfl<;>rfl
theorem asR {n:Nat} (h:zA n) (f:Nat->Int) (hi lo:Int) (us:List ab):∀j,j<n+2->lK (nT n f hi lo us) 1 j=Aj (cj 3 (da [165,1,n]) f) 1 j:=by
 have e:(bd (n+2)).map (lK (nT n f hi lo us) 1)=(bd (n+2)).map (Aj (cj 3 (da [165,1,n]) f) 1):=by
  rcases h with rfl|rfl|rfl|rfl|rfl<;>rfl
 intro j hj;have:=congrArg (λl=>l[j]?) e;simpa[m9 hj]using this
theorem asS {n:Nat} (h:zA n) (f:Nat->Int) (hi lo:Int) (us:List ab):∀j,j<n->lK (nT n f hi lo us) 3 j=f j:=by
 have e:(bd n).map (lK (nT n f hi lo us) 3)=(bd n).map f:=by
  rcases h with rfl|rfl|rfl|rfl|rfl<;>rfl
 intro j hj;have:=congrArg (λl=>l[j]?) e;simpa[m9 hj]using this
theorem asT {n:Nat} (h:zA n) (f:Nat->Int) (us:List ab) (d:Nat) {K:VK Empty} (hK:∀e:Nat,K (.agg [.int .i64 2,.int .i64 ((n+5:Nat):Int),.int .i64 0,.sl 1 0 n (n+e)]) (zm n f (qo n f) (qp n f) us++[dN n e (lK (nT n f (qo n f) (qp n f) us) 3)]) []):BU jD n f (qo n f) (qp n f) us d K:=by
 have e1:jD (lK (nT n f (qo n f) (qp n f) us) 1) (n+2)=Ih n f:=by
  unfold Ih;rw[acX (n+2) (asR h f _ _ us),show 3+n-1=n+2 by omega]
 have e2:=asO (asN (Aj (cj 3 (da [165,1,n]) f) 1) (3+n-1));have hn:0<n/\n<=9:=by unfold zA at h;omega
 refine⟨trivial,aI (λe=>?_) (λ_=>⟨⟨hn.1,by omega,by omega⟩,hK⟩)⟩;rw[e1]at e;have:(bits .or .u16 (u16.wrap (u16.wrap (qo n f)*2^8)) (u16.wrap (qp n f)))=Ih n f:=e2;rw[this]at e;simp at e
theorem asU (r:Sd.aE):zA (cM r):=acR r
theorem asV {n c:Nat} {f g:Nat->Int} (h:∀j,j<n->f j=g j):bD n f c=bD n g c:=by
 have e:bV n f=bV n g:=qD λj hj=>by rw[h j (List.mem_range.1 hj)]
 unfold bD;rw[e]
theorem asW {ids:List Nat} (n:Nat) (f:Nat->Int) (hi lo:Int) (us:List ab):ah ids (nT n f hi lo us)=(MW n f hi lo).map (λx=>eg .u8 x)++us:=by
 unfold nT;generalize MW n f hi lo=l;induction l with
 |nil=>simp only[vf,fl,ah,cl,cQ]
 |cons x l ih=>simp only[eH,ft,ah,cl,den,ih,fl]
theorem asY {n:Nat} (hn:zA n) (f:Nat->Int) {w:ae} {b c:Nat} (hc:n+5<=c) (aM:w.heap[b]?=some (.cells (bD (n+5) (nA n f) c) 5 (0,0))):
 aS prog 48 #[.slice (some ⟨b,0,none⟩) (n+5) c] w λv w'=>∃b2 e,v=.agg #[.int .i64 2,.int .i64 ((n+5:Nat):Int),.int .i64 0,.slice (some ⟨b2,0,none⟩) n (n+e)]/\w.heap.size<=b2/\w'.heap[b2]?=some (.cells (bD n f (n+e)) 5 (0,0))/\Ch [] w w':=by
 obtain⟨d,rfl⟩:∃d,c=d+(n+5):=⟨c-(n+5),by omega⟩
 let us:List ab:=lP (d+(n+5)-(n+5)) (.int .u8 0)
 have S:St [] w (lits [b] [b] (zm n f (qo n f) (qp n f) us)++ax ([]:List Empty) []) w:=by
  refine St.MZ ?_;intro y hy;simp only[zm,lits,ax,cQ,ca,oV,or_false]at hy;subst hy;refine⟨rfl,aM.trans ?_⟩;simp only[az,asW,<-asQ hn f];unfold bD bV;rw[mr];rfl
 have cS:Hd (BV jD n f (qo n f) (qp n f) us d λv bl _=>∃e,v=.agg [.int .i64 2,.int .i64 ((n+5:Nat):Int),.int .i64 0,.sl 1 0 n (n+e)]/\bl=zm n f (qo n f) (qp n f) us++[dN n e (lK (nT n f (qo n f) (qp n f) us) 3)]):=⟨by
  rw[asP hn];exact asT hn f us d λe=>⟨e,rfl,rfl⟩⟩
 have hok:aC (G:=Empty) prog cU (qL Empty [H8 jD]):=kU (bH.cons (arS _) bH.nil);refine(eG (C:=fA prog cU (qL Empty [H8 jD]) (Ee prog) MV) hok.T hok.Q 60 (ids:=[b]) (λg i h=>by cases h) rfl S cS.h).mono ?_;rintro v w' ⟨y,more,bl',ch',rfl,h1,S',hK⟩;obtain⟨v2,cB,bl2,zx,cW,S2,e,rfl,rfl⟩:=hU (n0:=1) h1 (by simp) S' hK;have ht:List.take 1 ([b]++more)=[b]:=rfl;rw[ht]at zx cW S2;have hm:cB.length=1:=by simpa[zm]using cW
 match cB,hm with
 |[x],_=>
  have ji:az ([b]++[x]) x (dN n e (lK (nT n f (qo n f) (qp n f) us) 3))=⟨x,true,.cells (bD n f (n+e)) 5 (0,0)⟩:=by
   unfold az;rw[xb,asV (asS hn f _ _ us)];rfl
  have S3:St [] w ([az ([b]++[x]) b ⟨false,⟨5,(0,0)⟩,nT n f (qo n f) (qp n f) us⟩,az ([b]++[x]) x (dN n e (lK (nT n f (qo n f) (qp n f) us) 3))]++ax ch' []) w':=S2;rw[ji]at S3;refine⟨x,e,?_,(S3.own 1 _ rfl rfl).resolve_left (by simp),S3.at_ 1 _ rfl,S3.ch⟩;rw[zx];rfl
def DY:c_ (LG bO):=λargs bl ch K=>match args,ch with
 |[.raw (.slice x n c)],.aZ u::.core g fB::rest=>cond (bM bl.length bl) (∃(r:Sd.aE) (b:List ai),(n=cM r+5/\eK 5 n (nA (cM r) (ko r)) x c b/\∀y∈b,y∈fB)/\
  ∀d:Nat,K (.agg [.int .i64 2,.int .i64 ((cM r+5:Nat):Int),.int .i64 0,.sl bl.length 0 (cM r) (cM r+d)]) (bl++[dN (cM r) d (ko r)]) (.aZ u::.core g fB::rest)) False
 |_,_=>False
theorem asZ {gl:Nat->Option Nat}:Sound prog gl 48 DY:=by
 intro args ids bl ch R ms w0 w K hg hl S hc;unfold DY at hc;split at hc
 ·rename_i x n c u g fB rest;cases hq:bM bl.length bl with
  |false=>rw[hq]at hc;exact hc.elim
  |true=>
   rw[hq]at hc;obtain⟨r,b,⟨rfl,hr,hb⟩,hK⟩:=hc;rcases hr.2 with⟨_,h0,_,_⟩|⟨bk,rfl,rfl⟩
   ·omega
   ·have aM:w.heap[bk]?=some (.cells (bD (cM r+5) (nA (cM r) (ko r)) c) 5 (0,0)):=S.at' (x:=⟨bk,true,.cells (bD (cM r+5) (nA (cM r) (ko r)) c) 5 (0,0)⟩) (by
     have:=hb _ Cg;refine tH _ ?_;show _∈dC u++((g.F.B++fB)++ax rest R);exact tH _ (oU _ (tH _ this)))
    have ha:(aD ids [.raw (.slice (some ⟨bk,0,none⟩) (cM r+5) c)]).toArray=#[.slice (some ⟨bk,0,none⟩) (cM r+5) c]:=rfl;rw[ha];refine(asY (asU r) (ko r) hr.1 aM).mono ?_;rintro v w' ⟨b2,e,rfl,dY,oh,cn⟩;refine⟨_,[b2],_,_,?_,by simp[hl],?_,hK e⟩
    ·simp only[den,ah,cl,ft,fl,cQ];rw[<-hl,kS]
    ·have em:az (ids++[b2]) b2 (dN (cM r) e (ko r))=⟨b2,true,.cells (bD (cM r) (ko r) (cM r+e)) 5 (0,0)⟩:=by
      unfold az;rw[xb];rfl
     rw[eZ _ _ _ _ hl,e_ _ _ (by rw[hl];exact hq)];simp only[lits,em];refine(S.new cn dY oh).perm ?_;rw[bR];exact jH.symm
 ·exact hc.elim
def Ii {G:Type}:c_ G:=λargs bl ch K=>match args with
 |[.sl i 0 n c]=>(match bl[i]?with
  |some ⟨_,⟨5,(0,0)⟩,[.bJ .u8 n' f,.bJ .u8 d z]⟩=>∃r:Sd.aE,(RB r/\n=cM r/\n'=cM r/\f=ko r/\c=cM r+d/\z=lg)/\K (.an [.agg (ia r),.int .i64 0]) bl ch
  |_=>False)
 |_=>False
theorem as0 (r:Sd.aE):cK 0 (.an [.agg (ia r),.int .i64 0])=true:=rfl
theorem as1 {G:Type} [Bl G] {gl:Nat->Option Nat}:Sound (G:=G) prog gl 49 Ii:=by
 intro args ids bl ch R ms w0 w K hg hl S hc;unfold Ii at hc;split at hc
 ·rename_i i n c;split at hc
  ·rename_i wr n' f d z hb;obtain⟨r,⟨hr,rfl,rfl,rfl,rfl,rfl⟩,hK⟩:=hc;have aM:=(fE hl S hb).2;have hd:ah ids [V.bJ .u8 (cM r) (ko r),.bJ .u8 d lg]=(M1 r).map (λx=>eg .u8 x)++(bd d).map (λj=>eg .u8 (lg j)):=by
    simp only[ah,cl,cQ,M1,mr];rfl
   rw[hd]at aM;have ha:(aD ids [.sl i 0 (cM r) (cM r+d)]).toArray=#[.slice (some ⟨ids.getD i 0,0,none⟩) (cM r) (d+cM r)]:=by
    rw[Nat.add_comm d];rfl
   rw[ha];refine(asK r hr aM).mono ?_;rintro v w' ⟨rfl,cn⟩;refine⟨.an [.agg (ia r),.int .i64 0],[],bl,ch,?_,by simpa using hl,by simpa using S.quiet cn,hK⟩;have:=fI (ids:=[]) (more:=ids++[]) (.an [.agg (ia r),.int .i64 0]) (as0 r);simpa using this.symm
  ·exact hc.elim
 ·exact hc.elim
theorem as2 {G:Type}:hJ (Ii (G:=G)):=by
 intro args bl ch K hc;unfold Ii at hc⊢;split at hc
 ·split at hc
  ·obtain⟨r,h,hK⟩:=hc;exact⟨r,h,hK,[],by simp⟩
  ·exact hc.elim
 ·exact hc.elim
theorem as3:hJ DY:=by
 intro args bl ch K hc;unfold DY at hc⊢;split at hc
 ·revert hc;cases bM bl.length bl with
  |false=>exact λh=>h.elim
  |true=>
   rintro⟨r,b,h,hK⟩;exact⟨r,b,h,λd=>⟨hK d,_,rfl⟩⟩
 ·exact hc.elim
end
end Go.Proofs.YtggfpcggakghnaaGreatDoor
namespace Sd
variable{C:aL} {s:aa} {c:Core} {l:List (Int×aE)}
def aa.at_ (s:aa) (c:Core) (l:List (Int×aE)):Prop:=(∃x,s.c={c with head:=x})/\s.bh=l
theorem acY (c:Core) (l:List (Int×aE)) (x:av) (r:List Rec):(aa.mk {c with head:=x} l r).at_ c l:=⟨⟨x,rfl⟩,rfl⟩
theorem qq (h:s.at_ c l):∃x r,s=⟨{c with head:=x},l,r⟩:=by
 obtain⟨⟨x,hx⟩,hl⟩:=h;obtain⟨sc,ss,sr⟩:=s;simp only at hx hl;exact⟨x,sr,by rw[hx,hl]⟩
theorem M4 (h:s.at_ c l) (k:Int) (r:aE):(s.tell k r).at_ c (l++[(k,r)]):=by
 obtain⟨x,q,rfl⟩:=qq h;exact⟨⟨x,rfl⟩,rfl⟩
theorem zB (h:s.at_ c l) (k so n co w:Int):(s.record C k so n co w).at_ c l:=by
 obtain⟨x,q,rfl⟩:=qq h;exact⟨⟨_,rfl⟩,rfl⟩
theorem acZ (h:s.at_ c l) (k n e:Int):(s.refuse C k n e).at_ c (l++[(k,{kind:=132,seq:=n,code:=e})]):=zB (M4 h _ _) _ _ _ _ _
theorem ac0 (h:s.at_ c l) (k n:Int):(s.done k n).at_ c (l++[(k,{kind:=131,seq:=n})]):=M4 h _ _
def heard (ag:aA) (k:Int) (r:aE):List (Int×aE):=if linked k&&ag.on k then[(k,r)]else[]
theorem U8 (h:s.at_ c l) (k:Int) (r:aE):(s.dH k r).at_ c (l++heard c.ag k r):=by
 obtain⟨x,q,rfl⟩:=qq h;unfold aa.dH heard;show aa.at_ (if(linked k&&c.ag.on k)=true then _ else _) _ _;split
 ·exact⟨⟨x,rfl⟩,rfl⟩
 ·exact⟨⟨x,rfl⟩,by simp⟩
theorem as4 (h:s.at_ c l) (t:Tok) (how n:Int):(s.goes C t how n).at_ {c with t:=t,q:=Q.drop c.q t.ay} (l++heard c.ag c.t.ay {kind:=134,dh:=t.ay,af:=t.af}++heard c.ag t.ay {kind:=133,af:=t.af}):=by
 obtain⟨x,q,rfl⟩:=qq h;unfold aa.goes;dsimp only;exact zB (U8 (U8 (acY {c with t:=t,q:=Q.drop c.q t.ay} l x q) _ _) _ _) _ _ _ _ _
def rR (c:Core) (k:Int) (d:dT):Core:={c with doors:=λj=>if j=k.toNat-1 then d else c.doors j}
theorem as5 (h:s.at_ c l) {k:Int} {m:aY} {N:Nat} {f:av} (ht:C.take N f=some m) (hr:iq c.p k m.role=true) (hm:(c.doors (k.toNat-1)).many<4294967295):
 (s.kQ C k N f).at_ (rR c k ⟨(c.doors (k.toNat-1)).many+1,true,C.aw (c.p.k 3) k ((c.doors (k.toNat-1)).many+1)⟩) (l++[(k,{kind:=129,aw:=C.aw (c.p.k 3) k ((c.doors (k.toNat-1)).many+1)})]):=by
 obtain⟨x,q,rfl⟩:=qq h;unfold aa.kQ;rw[ht];dsimp only;rw[if_neg (by rw[hr];decide),if_neg (by omega)];exact zB (M4 ⟨⟨x,rfl⟩,rfl⟩ _ _) _ _ _ _ _
theorem ac1 (h:s.at_ c l) {k:Int} {m:aY} {f:av} (ht:C.take 2 f=some m) (ho:(c.doors (k.toNat-1)).g_=true) (hr:C.right (c.p.k (k.toNat-1)) k m.role (c.doors (k.toNat-1)).aw (λj=>f (2+j))=true)
 (hk:iq c.p k m.role=true) {ag:aA} {e:Int} (hb:aA.dV c.p c.ag k m.role (C.key (c.p.k (k.toNat-1)) k m.role (c.doors (k.toNat-1)).aw)=(ag,e)):
 (s.prove C k 10 f).at_ (if e≠0 then rR c k ⟨(c.doors (k.toNat-1)).many,false,λ_=>0⟩else{rR c k ⟨(c.doors (k.toNat-1)).many,false,λ_=>0⟩with ag:=ag})
  (l++[(k,if e≠0 then{kind:=132,seq:=0,code:=e}else{kind:=130,role:=m.role,dh:=c.t.ay,af:=c.t.af})]):=by
 obtain⟨x,q,rfl⟩:=qq h;unfold aa.prove;rw[if_neg (by decide),ht];dsimp only;rw[if_neg (by rw[ho];decide),if_neg (by rw[hr];decide),if_neg (by rw[hk];decide),hb];dsimp only;split
 ·exact acZ ⟨⟨x,rfl⟩,rfl⟩ _ _ _
 ·exact zB (M4 ⟨⟨x,rfl⟩,rfl⟩ _ _) _ _ _ _ _
def aA.mP (C:aL) (p:aN) (t:aA) (k n:Int):aA:=t.ei (k.toNat-1) {(t.aj (k.toNat-1))with seen:=C.eh (t.aj (k.toNat-1)).seen n,on:=true,eL:=.start p.bW}
theorem as6 (h:s.at_ c l) {k:Int} {N:Nat} {f:av} {m:aY} (h1:f 0≠1) (h2:f 0≠2) (ho:c.ag.de k=true) (hN:8<=N) (iH:C.opens (c.ag.aj (k.toNat-1)).key k N f=true) (ht:C.take (N-8) f=some m)
 (k1:m.kind≠1) (k2:m.kind≠2) (hs:C.eh (c.ag.aj (k.toNat-1)).seen m.seq≠(c.ag.aj (k.toNat-1)).seen):
 ∃s':aa,s.item C k 0 N f=s'.jh C k m/\s'.at_ {c with ag:=c.ag.mP C c.p k m.seq} l:=by
 obtain⟨x,q,rfl⟩:=qq h;refine⟨⟨{{c with ag:=c.ag.mP C c.p k m.seq}with head:=x},l,q⟩,?_,acY _ _ _ _⟩;have e:c.ag.take C c.p k N f=(c.ag.mP C c.p k m.seq,.ok m):=by
  unfold aA.take;rw[if_neg (by rw[ho];decide),if_neg (by rw[iH];simp;omega),ht];dsimp only;rw[if_neg (by omega),if_neg hs];rfl
 unfold aa.item;rw[if_neg (by decide),if_neg (by simp[h1]),if_neg (by simp[h2])];dsimp only;rw[e]
abbrev oK:=Core×List (Int×aE)
def uS (c:Core) (k n e:Int):oK:=(c,[(k,{kind:=132,seq:=n,code:=e})])
def zC (c:Core) (t:Tok):oK:=({c with t:=t,q:=Q.drop c.q t.ay},heard c.ag c.t.ay {kind:=134,dh:=t.ay,af:=t.af}++heard c.ag t.ay {kind:=133,af:=t.af})
def B5 (x:oK) (k n:Int):oK:=(x.1,x.2++[(k,{kind:=131,seq:=n})])
def nz (c:Core) (k:Int) (m:aY):oK:=
 let r:=eY c.p c.t c.p.queue c.q k m.now
 if r.2.2.1≠0 then uS c k m.seq r.2.2.1
 else B5 (if 0<r.2.1 then zC {c with q:=r.2.2.2} r.1 else({c with q:=r.2.2.2,t:=r.1},[])) k m.seq
def U9 (c:Core) (k:Int) (m:aY):oK:=
 let r:=Tok.make c.p c.t k m.aU (c.ag.on m.aU)
 if r.2≠0 then uS c k m.seq r.2 else B5 ({c with t:=r.1},heard c.ag m.aU {kind:=135,dh:=k,af:=r.1.af}) k m.seq
def U_ (c:Core) (k:Int) (m:aY):oK:=
 let r:=c.t.accept k m.af
 if r.2≠0 then uS c k m.seq r.2 else B5 (zC c r.1) k m.seq
def Va (c:Core) (k:Int) (m:aY):oK:=
 let r:=cZ c.t c.q k
 if r.2.1≠0 then uS c k m.seq r.2.1 else B5 (zC {c with q:=r.2.2} r.1) k m.seq
def Vb (c:Core) (k:Int) (m:aY):oK:=
 let e:=lT c.p c.t k (c.ag.role k) c.mode m
 if e≠0 then uS c k m.seq e else B5 ({c with mode:=m.mode,ff:=⟨1,k,m.seq⟩},[]) k m.seq
def M5 (c:Core) (k:Int) (m:aY):oK:=
 if m.kind=3 then(c,[(k,{kind:=131,seq:=m.seq})])else if m.kind=5 then nz c k m else if m.kind=6 then U9 c k m else if m.kind=7 then U_ c k m
 else if m.kind=9 then Va c k m else Vb c k m
def aa.res (s:aa) (l:List (Int×aE)) (r:oK):Prop:=s.at_ r.1 (l++r.2)
theorem Ei {r:oK} (h:s.res l r) (k n:Int):(s.done k n).res l (B5 r k n):=by
 unfold aa.res B5;rw[<-bR];exact ac0 h k n
theorem M6 (h:s.at_ c l) (t:Tok) (how n:Int):(s.goes C t how n).res l (zC c t):=by
 unfold aa.res zC;rw[<-bR];exact as4 h t how n
theorem Ij (h:s.at_ c l) (k n e:Int):(s.refuse C k n e).res l (uS c k n e):=acZ h k n e
theorem M7 {c:Core} (h:s.at_ c l):s.res l (c,[]):=by
 show s.at_ c (l++[]);rw[cQ];exact h
theorem as7 (h:s.at_ c l) (k:Int) (m:aY):(s.ask C k m).res l (nz c k m):=by
 obtain⟨x,q,rfl⟩:=qq h;unfold aa.ask nz;dsimp only;generalize eY c.p c.t c.p.queue c.q k m.now=r;obtain⟨t,how,e,q2⟩:=r;dsimp only;split
 ·exact Ij ⟨⟨x,rfl⟩,rfl⟩ _ _ _
 ·split
  ·exact Ei (M6 (c:={c with q:=q2}) ⟨⟨x,rfl⟩,rfl⟩ t how m.seq) k m.seq
  ·exact Ei (r:=({c with q:=q2,t:=t},[])) (M7 (zB ⟨⟨x,rfl⟩,rfl⟩ _ _ _ _ _)) k m.seq
theorem as8 (h:s.at_ c l) (k:Int) (m:aY):(s.offer C k m).res l (U9 c k m):=by
 obtain⟨x,q,rfl⟩:=qq h;unfold aa.offer U9;dsimp only;generalize Tok.make c.p c.t k m.aU (c.ag.on m.aU)=r;obtain⟨t,e⟩:=r;dsimp only;split
 ·exact Ij ⟨⟨x,rfl⟩,rfl⟩ _ _ _
 ·exact Ei (r:=({c with t:=t},heard c.ag m.aU {kind:=135,dh:=k,af:=t.af})) (zB (U8 (c:={c with t:=t}) ⟨⟨x,rfl⟩,rfl⟩ _ _) _ _ _ _ _) k m.seq
theorem as9 (h:s.at_ c l) (k:Int) (m:aY):(s.accept C k m).res l (U_ c k m):=by
 obtain⟨x,q,rfl⟩:=qq h;unfold aa.accept U_;dsimp only;generalize c.t.accept k m.af=r;obtain⟨t,e⟩:=r;dsimp only;split
 ·exact Ij ⟨⟨x,rfl⟩,rfl⟩ _ _ _
 ·exact Ei (M6 (c:=c) ⟨⟨x,rfl⟩,rfl⟩ t 1 m.seq) k m.seq
theorem as_ (h:s.at_ c l) (k:Int) (m:aY):(s.release C k m).res l (Va c k m):=by
 obtain⟨x,q,rfl⟩:=qq h;unfold aa.release Va;dsimp only;generalize cZ c.t c.q k=r;obtain⟨t,e,q2⟩:=r;dsimp only;split
 ·exact Ij ⟨⟨x,rfl⟩,rfl⟩ _ _ _
 ·exact Ei (M6 (c:={c with q:=q2}) ⟨⟨x,rfl⟩,rfl⟩ t 2 m.seq) k m.seq
theorem ata (h:s.at_ c l) (k:Int) (m:aY) (hm:m.kind=10):(s.command C k m).res l (Vb c k m):=by
 obtain⟨x,q,rfl⟩:=qq h;unfold aa.command Vb;dsimp only;rw[if_pos hm];split
 ·exact Ij ⟨⟨x,rfl⟩,rfl⟩ _ _ _
 ·exact Ei (r:=({c with mode:=m.mode,ff:=⟨1,k,m.seq⟩},[])) (M7 (zB ⟨⟨x,rfl⟩,rfl⟩ _ _ _ _ _)) k m.seq
theorem atb (h:s.at_ c l) (k:Int) (m:aY) (hm:m.kind=3\/m.kind=5\/m.kind=6\/m.kind=7\/m.kind=9\/m.kind=10):(s.jh C k m).res l (M5 c k m):=by
 unfold aa.jh M5;rcases hm with e|e|e|e|e|e<;>simp only[e,if_true,if_false,zY,true_or]
 ·exact ac0 h _ _
 ·exact as7 h _ _
 ·exact as8 h _ _
 ·exact as9 h _ _
 ·exact as_ h _ _
 ·exact ata h _ _ e
def lj (C:aL) (c:Core) (k:Int) (m:aY):oK:=M5 {c with ag:=c.ag.mP C c.p k m.seq} k m
theorem atc (h:s.at_ c l) {k:Int} {N:Nat} {f:av} {m:aY} (hf:f 0=m.kind) (ho:c.ag.de k=true) (hN:8<=N) (iH:C.opens (c.ag.aj (k.toNat-1)).key k N f=true) (ht:C.take (N-8) f=some m)
 (hm:m.kind=3\/m.kind=5\/m.kind=6\/m.kind=7\/m.kind=9\/m.kind=10) (hs:C.eh (c.ag.aj (k.toNat-1)).seen m.seq≠(c.ag.aj (k.toNat-1)).seen):(s.item C k 0 N f).res l (lj C c k m):=by
 obtain⟨s',e,h'⟩:=as6 h (by omega) (by omega) ho hN iH ht (by omega) (by omega) hs;rw[e];exact atb h' k m hm
def eV (l:List (Int×aE)) (k:Int):List aE:=(l.filter λy=>decide (y.1=k)).map (·.2)
def jW (l:List aE):aE:=l.getLastD {kind:=0}
theorem atd (a b:List (Int×aE)) (k:Int):eV (a++b) k=eV a k++eV b k:=by simp[eV]
theorem Ik (k:Int) (r:aE):eV [(k,r)] k=[r]:=by simp[eV]
def M8 (c:Core) (x:g9):oK:=
 let n:=sat c.samples 4294967295
 let r:=eh c.p c.beyond x
 let c1:Core:={c with samples:=n,ag:=c.ag.fO c.p,beyond:=r.1}
 if r.2=true then(if(c.t.cY 0).2≠0 then(c1,[])else zC c1 (c.t.cY 0).1)else(c1,[])
theorem ate (h:s.at_ c l) {x:g9} (hv:x.valid=true) (hh:c.t.ay≠0):(s.fO C x).res l (M8 c x):=by
 obtain⟨y,q,rfl⟩:=qq h;unfold aa.fO M8;dsimp only;rw[if_neg (by rw[hv];decide),if_neg (λe=>hh e.1),if_neg hh];generalize eh c.p c.beyond x=r;split
 ·generalize c.t.cY 0=g;obtain⟨t,e⟩:=g;dsimp only;split
  ·exact M7 (zB ⟨⟨y,rfl⟩,rfl⟩ _ _ _ _ _)
  ·exact M6 (c:={c with samples:=sat c.samples 4294967295,ag:=c.ag.fO c.p,beyond:=r.1}) ⟨⟨y,rfl⟩,rfl⟩ _ _ _
 ·exact M7 ⟨⟨y,rfl⟩,rfl⟩
theorem Z6 (s:aa) (t:Tok) (how n:Int):(s.goes C t how n).c.t=t:=by
 obtain⟨x,e⟩:=aa.Gz C s t how n;rw[e]
end Sd
namespace Sd
variable{C:aL} {s:aa} {c:Core} {l:List (Int×aE)} {k:Int} {m:aY}
theorem ac2 {ag:aA} (hk:1<=k/\k<=3):ag.on k=ag.de k:=by unfold aA.on;rw[if_neg (by omega),if_neg (by omega)]
theorem atf {t:Tok} (hk:0<=k/\k<=4) (hh:k≠t.ay) (he:t.af<65535):t.cY k=(t.pass k (t.af+1),0):=by
 unfold Tok.cY;rw[if_neg (by omega),if_neg hh,if_neg (by omega)]
theorem atg (hb:c.t.bad=false) (h4:c.t.ay≠4) (hh:k≠c.t.ay) (he:c.t.af<65535) (hn:m.now=false) (hw:Q.waits c.q k=false) (hl:(c.q.length:Int)<c.p.queue):
 nz c k m=({c with q:=Q.insert c.q ⟨k,bC c.p k,.start c.p.ask⟩},[(k,{kind:=131,seq:=m.seq})]):=by
 have e:eY c.p c.t c.p.queue c.q k m.now=(c.t,0,0,Q.insert c.q ⟨k,bC c.p k,.start c.p.ask⟩):=by
  unfold eY;rw[if_neg (by rw[hb];decide),if_neg hh,if_neg (by omega),if_neg (by rw[hn];simp[h4]),if_neg (by rw[hn];decide)];unfold Q.push;rw[hw,if_neg (by decide),if_neg (by omega)]
 unfold nz;dsimp only;rw[e];rfl
theorem ac3 {t:Tok} {e how:Int} {q:List Ask} (h:eY c.p c.t c.p.queue c.q k m.now=(t,how,e,q)) (he:e≠0):nz c k m=uS c k m.seq e:=by
 unfold nz;dsimp only;rw[h];dsimp only;rw[if_pos he]
theorem ath (hb:c.t.bad=false) (h4:c.t.ay≠4) (hh:k≠c.t.ay) (he:c.t.af<65535) (hn:m.now=false) (hw:Q.waits c.q k=true):nz c k m=uS c k m.seq 27:=by
 refine ac3 (t:=c.t) (how:=0) (q:=c.q) ?_ (by decide);unfold eY;rw[if_neg (by rw[hb];decide),if_neg hh,if_neg (by omega),if_neg (by rw[hn];simp[h4]),if_neg (by rw[hn];decide)];unfold Q.push;rw[if_pos hw]
theorem ati (hb:c.t.bad=false) (h4:c.t.ay≠4) (hh:k≠c.t.ay) (he:c.t.af<65535) (hn:m.now=false) (hw:Q.waits c.q k=false) (hl:c.p.queue<=c.q.length):nz c k m=uS c k m.seq 3:=by
 refine ac3 (t:=c.t) (how:=0) (q:=c.q) ?_ (by decide);unfold eY;rw[if_neg (by rw[hb];decide),if_neg hh,if_neg (by omega),if_neg (by rw[hn];simp[h4]),if_neg (by rw[hn];decide)];unfold Q.push;rw[if_neg (by rw[hw];decide),if_pos hl]
structure uT (C:aL):Prop where
 kQ:∀(r:Int) (f:av),0<=r/\r<=3->f 0=1->f 1=r->∃m,C.take 2 f=some m/\m.role=r
 prove:∀(r:Int) (f:av),0<=r/\r<=3->f 0=2->f 1=r->∃m,C.take 2 f=some m/\m.role=r
 eh:∀(w:gx) (n:Int),0<=n/\n<=4294967295->0<=w.high->(w.any=false\/w.high<n)->C.eh w n≠w/\(C.eh w n).high=n
structure jq (c:Core) (k:Int) (key:av) (role hi:Int):Prop where
 lk:1<=k/\k<=3
 on:c.ag.de k=true
 key:(c.ag.aj (k.toNat-1)).key=key
 role:(c.ag.aj (k.toNat-1)).role=role
 any:(c.ag.aj (k.toNat-1)).seen.any=false\/(c.ag.aj (k.toNat-1)).seen.high<=hi
 hi:0<=(c.ag.aj (k.toNat-1)).seen.high
theorem tu (hk:1<=k/\k<=3) (t:aA):t.de k=(t.aj (k.toNat-1)).on:=by unfold aA.de;simp[hk.1,hk.2]
theorem jq.A6 {c c':Core} {key:av} {role hi:Int} (h:jq c k key role hi) (e:c'.ag=c.ag):jq c' k key role hi:=by
 obtain⟨a1,a2,a3,a4,a5,a6⟩:=h;exact⟨a1,by rw[e];exact a2,by rw[e];exact a3,by rw[e];exact a4,by rw[e];exact a5,by rw[e];exact a6⟩
theorem jq.bW {key:av} {role hi n:Int} (hT:uT C) (h:jq c k key role hi) (hn:hi<n/\0<=n/\n<=4294967295):C.eh (c.ag.aj (k.toNat-1)).seen n≠(c.ag.aj (k.toNat-1)).seen/\jq {c with ag:=c.ag.mP C c.p k n} k key role n:=by
 have hs:=hT.eh (c.ag.aj (k.toNat-1)).seen n hn.2 h.hi (by rcases h.any with e|e;exact .inl e;exact .inr (by omega));refine⟨hs.1,⟨h.lk,?_,?_,?_,?_,?_⟩⟩
 ·rw[tu h.lk];simp[aA.mP,aA.ei]
 ·simpa[aA.mP,aA.ei]using h.key
 ·simpa[aA.mP,aA.ei]using h.role
 ·right;simp[aA.mP,aA.ei,hs.2]
 ·simp[aA.mP,aA.ei,hs.2,hn.2.1]
theorem jq.other {key:av} {role hi n k':Int} (h:jq c k key role hi) (hk:1<=k'/\k'<=3) (cw:k'≠k):jq {c with ag:=c.ag.mP C c.p k' n} k key role hi:=by
 have hl:=h.lk;have e:((c.ag.mP C c.p k' n).aj (k.toNat-1))=c.ag.aj (k.toNat-1):=by
  unfold aA.mP aA.ei;dsimp only;rw[if_neg (by omega)]
 refine⟨h.lk,?_,by rw[<-h.key];exact congrArg _ e,by rw[<-h.role];exact congrArg _ e,?_,?_⟩
 ·rw[tu h.lk];have:=h.on;rw[tu h.lk]at this;rw[<-this];exact congrArg _ e
 ·have:=h.any;rwa [<-e]at this
 ·have:=h.hi;rwa [<-e]at this
end Sd
namespace Sd
variable{C:aL}
structure HS (p:aN) (a b:Int) (ka kb:av) (ra rb:Int) (c:Core) (ha hb:Int) (t:Tok) (mode:Int) (bI:Label) (q:List Ask):Prop where
 p:c.p=p
 sa:jq c a ka ra ha
 sb:jq c b kb rb hb
 t:c.t=t
 q:c.q=q
 m:c.mode=mode
 mb:c.ff=bI
variable{p:aN} {a b:Int} {ka kb:av} {ra rb:Int} {c:Core} {ha hb:Int} {t:Tok} {mode:Int} {bI:Label} {q:List Ask} {m:aY}
theorem HS.swap (h:HS p a b ka kb ra rb c ha hb t mode bI q):HS p b a kb ka rb ra c hb ha t mode bI q:=⟨h.p,h.sb,h.sa,h.t,h.q,h.m,h.mb⟩
theorem HS.bW (hT:uT C) (h:HS p a b ka kb ra rb c ha hb t mode bI q) (hab:a≠b) {n:Int} (hn:ha<n/\0<=n/\n<=4294967295):
 C.eh (c.ag.aj (a.toNat-1)).seen n≠(c.ag.aj (a.toNat-1)).seen/\HS p a b ka kb ra rb {c with ag:=c.ag.mP C c.p a n} n hb t mode bI q:=by
 have h1:=h.sa.bW hT hn;exact⟨h1.1,⟨h.p,h1.2,h.sb.other h.sa.lk hab,h.t,h.q,h.m,h.mb⟩⟩
abbrev bt (C:aL) (c:Core) (k:Int) (m:aY):Core:={c with ag:=c.ag.mP C c.p k m.seq}
theorem Vc {k:Int} (hm:m.kind=5):lj C c k m=nz (bt C c k m) k m:=by unfold lj M5;rw[if_neg (by omega),if_pos hm]
end Sd
namespace Sd
variable{C:aL} {s:aa} {c:Core} {k r:Int}
def aa.clear (s:aa):aa:=⟨s.c,[],[]⟩
def mQ (C:aL) (c:Core) (k:Int):av:=C.aw (c.p.k 3) k ((c.doors (k.toNat-1)).many+1)
def oL (C:aL) (c:Core) (k:Int):Core:=rR c k ⟨(c.doors (k.toNat-1)).many+1,true,mQ C c k⟩
def zE (c:Core) (k:Int):Core:=rR c k ⟨(c.doors (k.toNat-1)).many+1,false,λ_=>0⟩
def oM (C:aL) (c:Core) (k r:Int):Core:={zE c k with ag:=c.ag.ei (k.toNat-1) ⟨true,.start c.p.bW,r,C.key (c.p.k (k.toNat-1)) k r (mQ C c k),⟨false,0,0⟩⟩}
theorem ac4 (c:Core) (k:Int) (d:dT):rR (rR c k d) k ⟨((rR c k d).doors (k.toNat-1)).many,false,λ_=>0⟩=rR c k ⟨d.many,false,λ_=>0⟩:=by
 unfold rR;simp only[if_true];congr 1;funext j;split<;>rfl
theorem atj {N:Nat} {f:av} (h0:f 0=1) (hN:0<N):s.item C k 0 N f=s.kQ C k N f:=by
 unfold aa.item;rw[if_neg (by decide),if_pos ⟨hN,h0⟩]
theorem ac5 {N:Nat} {f:av} (h0:f 0=2) (hN:0<N):s.item C k 0 N f=s.prove C k N f:=by
 unfold aa.item;rw[if_neg (by decide),if_neg (by omega),if_pos ⟨hN,h0⟩]
variable{f1 f2:av}
theorem atk (hT:uT C) (h:s.at_ c []) (hr:0<=r/\r<=3) (ht:iq c.p k r=true) (hm:(c.doors (k.toNat-1)).many<4294967295) (h0:f1 0=1) (h1:f1 1=r):
 (s.item C k 0 2 f1).at_ (oL C c k) [(k,{kind:=129,aw:=mQ C c k})]:=by
 obtain⟨m,e1,e2⟩:=hT.kQ r f1 hr h0 h1;rw[atj h0 (by decide)];exact as5 h e1 (by rw[e2];exact ht) hm
theorem atl {p:aN} {t:aA} {key:av} (hk:1<=k/\k<=3) (hr:0<=r/\r<=3) (hs:t.de k=true\/t.many<p.d_):aA.dV p t k r key=(t.ei (k.toNat-1) ⟨true,.start p.bW,r,key,⟨false,0,0⟩⟩,0):=by
 unfold aA.dV;rw[if_neg (by omega),if_neg (by rintro⟨a,b⟩;rcases hs with e|e;rw[e]at a;cases a;omega)]
theorem atm {p:aN} {t:aA} {key:av} (hk:1<=k/\k<=3) (hr:0<=r/\r<=3) (ho:t.de k=false) (hs:p.d_<=t.many):aA.dV p t k r key=(t,19):=by
 unfold aA.dV;rw[if_neg (by omega),if_pos ⟨ho,hs⟩]
theorem atn (hT:uT C) (h:s.at_ (oL C c k) []) (hk:1<=k/\k<=3) (hr:0<=r/\r<=3) (ht:iq c.p k r=true) (h0:f2 0=2) (h1:f2 1=r) (hp:C.right (c.p.k (k.toNat-1)) k r (mQ C c k) (λj=>f2 (2+j))=true)
 (hs:c.ag.de k=true\/c.ag.many<c.p.d_):(s.item C k 0 10 f2).at_ (oM C c k r) [(k,{kind:=130,role:=r,dh:=c.t.ay,af:=c.t.af})]:=by
 obtain⟨m,e1,rfl⟩:=hT.prove r f2 hr h0 h1;rw[ac5 h0 (by decide)];have hd:(oL C c k).doors (k.toNat-1)=⟨(c.doors (k.toNat-1)).many+1,true,mQ C c k⟩:=if_pos rfl;have:=ac1 h e1 (by rw[hd]) (by rw[hd];exact hp) ht (atl (key:=C.key ((oL C c k).p.k (k.toNat-1)) k m.role ((oL C c k).doors (k.toNat-1)).aw) hk hr hs);rw[if_neg (by decide),if_neg (by decide)]at this;have e:rR (oL C c k) k ⟨((oL C c k).doors (k.toNat-1)).many,false,λ_=>0⟩=zE c k:=ac4 c k _;rw[e,hd]at this;exact this
theorem ato (hT:uT C) (h:s.at_ (oL C c k) []) (hk:1<=k/\k<=3) (hr:0<=r/\r<=3) (ht:iq c.p k r=true) (h0:f2 0=2) (h1:f2 1=r) (hp:C.right (c.p.k (k.toNat-1)) k r (mQ C c k) (λj=>f2 (2+j))=true)
 (ho:c.ag.de k=false) (hs:c.p.d_<=c.ag.many):(s.item C k 0 10 f2).at_ (zE c k) [(k,{kind:=132,seq:=0,code:=19})]:=by
 obtain⟨m,e1,rfl⟩:=hT.prove r f2 hr h0 h1;rw[ac5 h0 (by decide)];have hd:(oL C c k).doors (k.toNat-1)=⟨(c.doors (k.toNat-1)).many+1,true,mQ C c k⟩:=if_pos rfl;have:=ac1 h e1 (by rw[hd]) (by rw[hd];exact hp) ht (atm (key:=C.key ((oL C c k).p.k (k.toNat-1)) k m.role ((oL C c k).doors (k.toNat-1)).aw) hk hr ho hs);rw[if_pos (by decide),if_pos (by decide)]at this;have e:rR (oL C c k) k ⟨((oL C c k).doors (k.toNat-1)).many,false,λ_=>0⟩=zE c k:=ac4 c k _;rw[e]at this;exact this
theorem atp (hk:1<=k/\k<=3):jq (oM C c k r) k (C.key (c.p.k (k.toNat-1)) k r (mQ C c k)) r 0:=by
 refine⟨hk,?_,?_,?_,?_,?_⟩<;>simp[oM,tu hk,aA.ei]
theorem M9 (t:aA) (a1 a2 a3:Bool) (h1:t.de 1=a1) (h2:t.de 2=a2) (h3:t.de 3=a3):t.many=(if a1 then 1 else 0)+(if a2 then 1 else 0)+(if a3 then 1 else 0):=by
 rw[tu (by decide)]at h1 h2 h3;unfold aA.many;rw[<-h1,<-h2,<-h3];rfl
end Sd
namespace Go.Proofs.YtggfpcggakghnaaGreatDoor
section
open Go Go.RowKit Go.BigFrame Sx Vx
theorem atq {h f g:Nat->Int} {n:Nat} (e:∀j,j<n->f j=g j):dp h 0 n f=dp h 0 n g:=by
 funext j;unfold dp;cases hb:bu 0 j&&cu j (0+n)with
 |false=>rfl
 |true=>
  simp only[cond_true];rw[bg]at hb;have h2:=hb.2;unfold cu at h2;have:=du h2;exact e _ (by omega)
theorem atr {f g:Nat->Int} {n:Nat} (e:∀j,j<n->f j=g j):iP n f=iP n g:=by
 unfold iP Ym Yn pJ;rw[atq e]
theorem ac6 {h f g:Nat->Int} {n m:Nat} (e:∀j,j<m->f j=g j):∀j,j<n+m->cj n h f j=cj n h g j:=by
 intro j hj;unfold cj;cases hb:cu j n with
 |true=>rfl
 |false=>
  simp only[cond_false];refine e _ ?_;have:¬j<n:=λh=>by rw[EZ h]at hb;cases hb
  omega
theorem Il {f g:Nat->Int} {n j:Nat} (h:j<n):cj n f g j=f j:=by unfold cj;rw[EZ h];rfl
theorem att {f g:Nat->Int} {n j:Nat}:cj n f g (n+j)=g j:=by unfold cj;rw[I_ (by omega)];simp
theorem atu {kn:Nat} {kf d d':Nat->Int} {n:Nat} (e:∀j,j<n->d j=d' j):fm kn kf n d=fm kn kf n d':=by
 unfold fm;rw[atr (n:=64+n) (ac6 e)]
theorem atv {k f g:Nat->Int} {s:Int} {m:Nat} (e:∀j,j<m->f j=g j):∀j,j<m+8->gB k s m f j=gB k s m g j:=by
 intro j hj;unfold gB;have h:fm 32 k (1+1+m) (jC 1 1 (λ_=>77) (aK 1 (s%256)) f)=fm 32 k (1+1+m) (jC 1 1 (λ_=>77) (aK 1 (s%256)) g):=atu (λj hj=>ac6 e j hj);rw[h];by_cases M_:j<m
 ·rw[Il M_,Il M_];exact e j M_
 ·unfold cj;rw[I_ M_];rfl
theorem xor_self (kd:eS) (x:Int):bits .xor kd x x=kd.wrap 0:=by simp[bits]
theorem ac7 {f g:Nat->Int}:∀n,(∀j,j<n->f j=g j)->xI f g n=0
 |0,_=>rfl
 |n+1,h=>by
  show bits .or .u8 (xI f g n) (bits .xor .u8 (f n) (g n))=0;rw[ac7 n λj hj=>h j (by omega),h n (by omega),xor_self];rfl
theorem ac8 {f g:Nat->Int} {n:Nat} (h:∀j,j<n->f j=g j):ou n f g=true:=by
 unfold ou;rw[ac7 n h];rfl
theorem atw (k f:Nat->Int) (s:Int) (m:Nat):kD k s m (gB k s m f)=true:=by
 unfold kD;refine ac8 λj hj=>(atv (λi hi=>?_) j hj);unfold gB;exact(Il hi).symm
theorem ac9 {k f:Nat->Int} {s:Int} {m j:Nat} (h:j<m):gB k s m f j=f j:=by unfold gB;exact Il h
theorem ac_ (kn:Nat) (kf nc pf:Nat->Int) (s r:Int) (h:∀j,j<8->pf j=jR kn kf s r nc j):wA kn kf s r nc pf=true:=ac8 h
theorem ada {k r:Int} (hk:k=1\/k=2) {f:Nat->Int} (hr:0<=r/\r<=3) (h0:f 0=k) (h1:f 1=r):aH 2 f=some {Sd.eT k with role:=r}:=by
 unfold aH;rw[if_neg (by decide),h0];have e:oA k=some [uv]:=by unfold oA;rw[if_pos hk]
 rw[e];show runM 2 f [uv] 1 (Sd.eT k)=_;unfold runM;have en:uv.num (λj=>f (1+j))=r:=h1;rw[if_neg (by decide),en,if_neg (by show¬(r<0\/3<r);omega)];rfl
theorem atx {w:Sd.gx} {n:Int} (h:w.any=false\/w.high<n):dM w n≠w/\(dM w n).high=n:=by
 unfold dM;by_cases ha:w.any=false
 ·rw[if_pos ha];exact⟨(λe=>by rw[<-e]at ha;cases ha),rfl⟩
 ·rw[if_neg ha,if_pos (h.resolve_left ha)];exact⟨(λe=>by have h1:=congrArg Sd.gx.high e;have:=h.resolve_left ha;simp only at h1;omega),rfl⟩
theorem zF:Sd.uT (aJ aH):=
 ⟨λr f hr h0 h1=>⟨_,ada (.inl rfl) hr h0 h1,rfl⟩,λr f hr h0 h1=>⟨_,ada (.inr rfl) hr h0 h1,rfl⟩,λw n _ _ h=>atx h⟩
theorem aty {f:Nat->Int} {v:Int} (h:0<=v/\v<=4294967295) (h0:f 1=aK 4 (u64.wrap v) 0) (h1:f 2=aK 4 (u64.wrap v) 1) (h2:f 3=aK 4 (u64.wrap v) 2) (h3:f 4=aK 4 (u64.wrap v) 3):h_.num (λj=>f (1+j))=v:=by
 have:=U4 h;rw[acW (nX _ _ _) (nX _ _ _) (nX _ _ _) (nX _ _ _)]at this;show((f 1*256+f 2)*256+f 3)*256+f 4=v;rw[h0,h1,h2,h3];exact this
theorem adb {f:Nat->Int} {v:Int} {o:Nat} (h:0<=v/\v<=65535) (h0:f o=aK 2 (u64.wrap v) 0) (h1:f (o+1)=aK 2 (u64.wrap v) 1):mJ.num (λj=>f (o+j))=v:=by
 have:=Ie h;rw[acV (nX _ _ _) (nX _ _ _)]at this;show f o*256+f (o+1)=v;rw[h0,h1];exact this
theorem one_num {f:Nat->Int} {v:Int} {o:Nat} (h:0<=v/\v<=255) (h0:f o=aK 1 (u64.wrap v) 0):f o=v:=by
 have:=zv h;rw[U3 (nX _ _ _)]at this;rw[h0];exact this
structure B6 (f:Nat->Int) (k v:Int):Prop where
 hk:f 0=k
 hv:0<=v/\v<=4294967295
 b1:f 1=aK 4 (u64.wrap v) 0
 b2:f 2=aK 4 (u64.wrap v) 1
 b3:f 3=aK 4 (u64.wrap v) 2
 b4:f 4=aK 4 (u64.wrap v) 3
theorem Ej {f:Nat->Int} {k v:Int} {n:Nat} {l:List Fd} (h:B6 f k v) (hl:oA k=some (h_::l)) (hn:5<=n):aH n f=runM n f l 5 {Sd.eT k with seq:=v}:=by
 have hv:=h.hv;unfold aH;rw[if_neg (by omega),h.hk,hl];show runM n f (h_::l) 1 (Sd.eT k)=_;rw[runM,if_neg (by show¬(n-1<4);omega),aty h.hv h.b1 h.b2 h.b3 h.b4,if_neg (by show¬(v<0\/4294967295<v);omega)];rfl
theorem atz {f:Nat->Int} {v:Int} (h:B6 f 3 v):aH 5 f=some {Sd.eT 3 with seq:=v}:=by rw[Ej h rfl (dE _)];rfl
theorem atA {f:Nat->Int} {v:Int} (h:B6 f 9 v):aH 5 f=some {Sd.eT 9 with seq:=v}:=by rw[Ej h rfl (dE _)];rfl
theorem atC {f:Nat->Int} {v:Int} {b:Bool} (h:B6 f 5 v) (h5:f 5=aK 1 (u64.wrap (if b then 1 else 0)) 0):aH 6 f=some {Sd.eT 5 with seq:=v,now:=b}:=by
 rw[Ej (l:=[yP]) h rfl (by decide),runM,if_neg (by decide)];have e:yP.num (λj=>f (5+j))=if b then 1 else 0:=one_num (o:=5) (by cases b<;>decide) h5
 rw[e,if_neg (by cases b<;>decide)];cases b<;>rfl
theorem atD {f:Nat->Int} {v w:Int} (h:B6 f 6 v) (hw:0<=w/\w<=4) (h5:f 5=aK 1 (u64.wrap w) 0):aH 6 f=some {Sd.eT 6 with seq:=v,aU:=w}:=by
 rw[Ej (l:=[yO]) h rfl (by decide),runM,if_neg (by decide)];have e:yO.num (λj=>f (5+j))=w:=one_num (o:=5) (by omega) h5;rw[e,if_neg (by show¬(w<0\/4<w);omega)];rfl
theorem atF {f:Nat->Int} {v w:Int} (h:B6 f 7 v) (hw:0<=w/\w<=65535) (h5:f 5=aK 2 (u64.wrap w) 0) (h6:f 6=aK 2 (u64.wrap w) 1):aH 7 f=some {Sd.eT 7 with seq:=v,af:=w}:=by
 rw[Ej (l:=[mJ]) h rfl (by decide),runM,if_neg (by decide),adb (o:=5) hw h5 h6,if_neg (by show¬(w<0\/65535<w);omega)];rfl
theorem atG {f:Nat->Int} {v w x:Int} (h:B6 f 10 v) (hw:0<=w/\w<=65535) (hx:0<=x/\x<=4) (h5:f 5=aK 2 (u64.wrap w) 0) (h6:f 6=aK 2 (u64.wrap w) 1) (h7:f 7=aK 1 (u64.wrap x) 0):
 aH 8 f=some {Sd.eT 10 with seq:=v,af:=w,mode:=x}:=by
 rw[Ej (l:=[mJ,wH]) h rfl (by decide),runM,if_neg (by decide),adb (o:=5) hw h5 h6,if_neg (by show¬(w<0\/65535<w);omega)];show runM 8 f [wH] 7 _=_;rw[runM,if_neg (by decide)];have e:wH.num (λj=>f (7+j))=x:=one_num (o:=7) (by omega) h7;rw[e,if_neg (by show¬(x<0\/4<x);omega)];rfl
variable{fr:Sd.aE->Nat×Sd.av}
def Ek (bl:List VB) (x:V):Option ((Nat×Nat)×Nat×(Nat->Int)):=match x with
 |.sl i 0 n c=>(match bl[i]?with
  |some ⟨_,⟨5,(0,0)⟩,.bJ .u8 n' f::_⟩=>some ((n,c),n',f)
  |_=>none)
 |_=>none
theorem ade {ids:List Nat} {bl:List VB} {X:List ai} {ms:List Nat} {w0 w:ae} (hl:ids.length=bl.length) (S:St ms w0 (lits ids ids bl++X) w) {x:V} {n c n':Nat} {f:Nat->Int} (h:Ek bl x=some ((n,c),n',f)) (hn:n<=n'):
 ∃b,den ids x=.slice (some ⟨b,0,none⟩) n c/\cd w b 0 n f:=by
 unfold Ek at h;split at h
 ·rename_i i n1 c1;split at h
  ·rename_i wr n2 f2 r hb;cases h;refine⟨_,rfl,λj hj=>?_⟩;have aM:=(fE hl S hb).2;rw[cell_of aM,eD];simp only[ah,cl,jt];rw[gV (by simp;omega)];simp[m9 (show j<n' by omega)]
  ·cases h
 ·cases h
theorem atH {w:ae} {b n c:Nat} {f:Nat->Int} (h:cd w b 0 n f) (hn:n<=1000000) (hc:n<=c):dL w (some ⟨b,0,none⟩) n c f:=
 ⟨hn,hc,(λe=>nomatch e),λx e j hj=>by
  obtain rfl:=cA e;rw[iE];exact h j hj⟩
def Na (bl:List VB):Prop:=∃tg,bl[0]?=some (lh tg)
theorem adf {ids:List Nat} {bl:List VB} {X:List ai} {ms:List Nat} {w0 w:ae} (hg:Gl gS ids) (hl:ids.length=bl.length) (S:St ms w0 (lits ids ids bl++X) w) (h:Na bl):∃tg,w.heap[1]?=some (.cells (au .u32 64 cH) tg (0,0)):=by
 obtain⟨tg,h⟩:=h;have aM:=(fE hl S h).2;rw[(hg 1 0 rfl).2]at aM;refine⟨tg,?_⟩;rw[aM];simp only[lh,ah,cl,cQ];rfl
theorem adg {l:List V} {q:List Int} {m:Nat} {g:Nat->Int} (h:j9 l=some q) (hq:q.length=m) (hg:∀j,j<m->da q j=g j) (ids:List Nat):den ids (.agg l)=.agg (au .u8 m g):=by
 simp only[den,wa ids h,hq];rw[E0 hg];rfl
def zG (N:Nat) (F:Nat->(Nat->Int)->Int->Int->(Nat->Int)->Nat->Int):c_ (LG fr):=λargs bl ch K=>match args with
 |[x,.int .i64 s,.int .i64 r,.agg l]=>(match Ek bl x,j9 l with
  |some ((n,c),n',f),some q=>∃nc:Nat->Int,((n=n'/\n<=c/\n<=64)/\(0<=s/\s<4294967296)/\(0<=r/\r<4294967296)/\q.length=8/\(∀j,j<8->da q j=nc j)/\Na bl)/\K (.agg (ints N (F n f s r nc))) bl ch
  |_,_=>False)
 |_=>False
theorem atI (ids:List Nat) (N:Nat) (g:Nat->Int):den ids (.agg (ints N g))=.agg (au .u8 N g):=by
 simp only[den,yA]
theorem adh {N:Nat} {F:Nat->(Nat->Int)->Int->Int->(Nat->Int)->Nat->Int} {f:fc} (hF:∀(ka:Option aO) (kn kc:Nat) (kf:Nat->Int) (s r:Int) (nc:Nat->Int),vY ka kn->0<=s/\s<4294967296->0<=r/\r<4294967296->∀{tG:aG} (w:ae),w.heap[1]?=some (.cells (au .u32 64 cH) tG (0,0))->dL w ka kn kc kf->
 aS prog f #[.slice ka kn kc,.int .i64 s,.int .i64 r,.agg (au .u8 8 nc)] w λv w1=>v=.agg (au .u8 N (F kn kf s r nc))/\Ch [] w w1):Sound prog gS f (zG (fr:=fr) N F):=by
 intro args ids bl ch R ms w0 w K hg hl S hc;unfold zG at hc;split at hc
 ·rename_i x s r l;split at hc
  ·rename_i n c n' g q hb Nb;obtain⟨nc,⟨⟨rfl,Im,hn⟩,hs,hr,hq,jx,kI⟩,hK⟩:=hc;obtain⟨b,hx,h8⟩:=ade hl S hb (dE _);obtain⟨tg,hG⟩:=adf hg hl S kI;have ea:(aD ids [x,.int .i64 s,.int .i64 r,.agg l]).toArray=#[.slice (some ⟨b,0,none⟩) n c,.int .i64 s,.int .i64 r,.agg (au .u8 8 nc)]:=by
    simp only[aD,hx,adg Nb hq jx];rfl
   rw[ea];refine(hF _ n c g s r nc ⟨.inr ⟨_,rfl⟩,hn⟩ hs hr w hG (atH h8 (by omega) Im)).mono ?_;rintro v w' ⟨rfl,cn⟩;exact⟨.agg (ints N (F n g s r nc)),[],bl,_,(atI _ _ _).symm,by simpa using hl,by simpa using S.quiet cn,hK⟩
  ·exact hc.elim
 ·exact hc.elim
theorem adi {N:Nat} {F:Nat->(Nat->Int)->Int->Int->(Nat->Int)->Nat->Int}:hJ (zG (fr:=fr) N F):=by
 intro args bl ch K hc;unfold zG at hc⊢;split at hc
 ·split at hc
  ·obtain⟨nc,h,hK⟩:=hc;exact⟨nc,h,hK,[],by simp⟩
  ·exact hc.elim
 ·exact hc.elim
theorem atJ:Sound prog gS 16 (zG (fr:=fr) 8 jR):=adh λka kn kc kf s r nc h1 h2 h3 _ w hG hk=>Y6 ka kn kc kf s r nc h1 h2 h3 w hG hk
theorem atK:Sound prog gS 37 (zG (fr:=fr) 32 iz):=adh λka kn kc kf s r nc h1 h2 h3 _ w hG hk=>Y7 ka kn kc kf s r nc h1 h2 h3 w hG hk
def Io:c_ (LG fr):=λargs bl ch K=>match args with
 |[.agg l,.int .i64 s,x]=>(match Ek bl x,j9 l with
  |some ((n,c),n',f),some q=>cond (bM bl.length bl) (∃k:Nat->Int,(n=n'/\n<=50/\(0<=s/\s<4294967296)/\q.length=32/\(∀j,j<32->da q j=k j)/\Na bl)/\∀d:Nat,K (.sl bl.length 0 (n+8) (n+8+d)) (bl++[dN (n+8) d (gB k s n f)]) ch) False
  |_,_=>False)
 |_=>False
theorem atL:Sound prog gS 47 (Io (fr:=fr)):=by
 intro args ids bl ch R ms w0 w K hg hl S hc;unfold Io at hc;split at hc
 ·rename_i l s x;split at hc
  ·rename_i n c n' g q hb Nb;cases hw:bM bl.length bl with
   |false=>rw[hw]at hc;exact hc.elim
   |true=>
    rw[hw]at hc;obtain⟨k,⟨rfl,hn,hs,hq,hk,kI⟩,hK⟩:=hc;obtain⟨b,hx,h8⟩:=ade hl S hb (dE _);obtain⟨tg,hG⟩:=adf hg hl S kI;have ea:(aD ids [.agg l,.int .i64 s,x]).toArray=#[.agg (au .u8 32 k),.int .i64 s,.slice (some ⟨b,0,none⟩) n c]:=by
     simp only[aD,hx,adg Nb hq hk];rfl
    rw[ea];refine(close_ k s b 0 n c g hn hs w hG h8).mono ?_;rintro v w' ⟨b2,c2,rfl,hle,dY,oh,cn⟩;obtain⟨d,rfl⟩:=Nat.le.dest hle;refine⟨_,[b2],_,_,?_,by simp[hl],?_,hK d⟩
    ·have:(ids++[b2]).getD bl.length 0=b2:=by rw[<-hl];simp[ij]
     simp only[den,this]
    ·have em:az (ids++[b2]) b2 (dN (n+8) d (gB k s n g))=⟨b2,true,.cells (bD (n+8) (gB k s n g) (n+8+d)) 5 (0,0)⟩:=by
      unfold az;rw[xb];rfl
     rw[eZ _ _ _ _ hl,e_ _ _ (by rw[hl];exact hw)];simp only[lits,em];refine(S.new cn dY oh).perm ?_;rw[bR];exact jH.symm
  ·exact hc.elim
 ·exact hc.elim
theorem atM:hJ (Io (fr:=fr)):=by
 intro args bl ch K hc;unfold Io at hc⊢;split at hc
 ·split at hc
  ·revert hc;cases bM bl.length bl with
   |false=>exact λh=>h.elim
   |true=>
    rintro⟨k,h,hK⟩;exact⟨k,h,λd=>⟨hK d,_,rfl⟩⟩
  ·exact hc.elim
 ·exact hc.elim
def Nc:(ba->V)->Op->List VB->List (LG fr)->VK (LG fr)->Prop:=λe op bl ch K=>match op with
 |.call c=>(match c.callee,c.args.toList,c.argTypes.toList with
  |.builtin .append,[s,xs],[t,tx]=>(match prog.underlying t,prog.underlying tx with
   |some (.slice T),some (.slice _)=>(match e xs with
    |.sl i 0 m cc=>(match bl[i]?with
     |some ⟨_,_,l⟩=>(match e s with
      |.sl j 0 n c=>(match bl[j]?with
       |some ⟨true,⟨5,(0,0)⟩,l0⟩=>(match j9 l0,j9 l with
        |some q0,some q=>cond (aq T 5&&(aq q0.length n&&(aq n c&&(aq q.length m&&(bu 1 m&&(bu (n+m) 1000000&&bM bl.length bl))))))
         (∀d:Nat,K (.sl bl.length 0 (n+m) (n+m+d)) (bl++[dN (n+m) d (da (q0++q))]) ch) False
        |_,_=>False)
       |_=>False)
      |_=>(match sL prog T,ch with
       |some (z,bI),.aZ u::.core g fB::.row r::rest=>cond (aq (bY l) (m*z)&&(bj 0 l&&(lX l&&bu bI 10000000)))
        ((e s=r.v/\r.T=T/\r.z=z/\r.n+m<=1000000)/\∀r2:bU,r2.T=r.T->r2.z=r.z->r2.os=r.os++ah [] l->r2.n=r.n+m->K r2.v bl (.aZ u::.core g fB::.row r2::rest)) False
       |_,_=>False))
     |_=>False)
    |_=>False)
   |_,_=>False)
  |_,_,_=>False)
 |_=>False
theorem atN {P:aF} {w:ae} {T n c m:Nat} {f g:Nat->Int} {b:Nat} (jx:n<=c) (aM:w.heap[b]?=some (.cells (bD n f c) T (0,0)))
 {t tx ty:aG} {xv:ab} (hs:Src P 1 tx xv m (bV m g) w) (ht:P.underlying t=some (.slice T)) (hi:(P.info? T).map (λi=>(i.zero.map (·.cells),i.size,i.bytes))=some (some #[.int .u8 0],1,1))
 (hb:n+m<=140737488355328) (hg:c<n+m):
 ∃b' c' w',(mY #[t,tx] ty #[.slice (some ⟨b,0,none⟩) n c,xv]).run P w=.ok (.slice (some ⟨b',0,none⟩) (n+m) c') w'/\Ch [] w w'/\n+m<=c'/\w.heap.size<=b'/\w'.heap[b']?=some (.cells (bD (n+m) (cj n f g) c') T (0,0)):=by
 obtain⟨i,bZ,hi⟩:=gU.1 hi;simp only[bw]at hi;obtain⟨hz,dw,im⟩:=hi;obtain⟨z0,lx,ng⟩:=gU.1 hz;have jg:Src P i.size tx xv m (bV m g) w:=by rw[dw];exact hs
 have h63:n+m<=maxLen:=by unfold maxLen;omega
 have hold:(Builtin.firstCells i.size n (.slice (some ⟨b,0,none⟩) n c)).run P w.drew=.ok (bV n f).toArray w.drew:=by
  refine run_firstCells_some (P:=P) w.drew i.size n ⟨b,0,none⟩ n c (bV n f) (by rw[gi,dw,Nat.mul_one]) (λj v hj=>?_);obtain⟨j3,rfl⟩:=xQ hj;rw[iE];have:w.drew.cell? ⟨b,0+j,none⟩=w.cell? ⟨b,j,none⟩:=by simp
  rw[this,cell_of aM];simp only[bD,jt];rw[gV (by rw[gi];exact j3),qT f j3]
 have bG:=run_append_grow_src (P:=P) w t tx ty T i z0 ht bZ lx (some ⟨b,0,none⟩) n c (bV n f) hold xv m (bV m g) jg hg (by simp only[maxLen]at h63;omega) (by rw[im];exact growslice_fits hg (by omega));refine⟨_,_,_,bG,((Ch.refl [] w).drew).trans (Ch.alloc [] w.drew _) (λx hx=>.inl hx),grownCap_ge w (n+m) c T,dE _,?_⟩;refine(mX w.drew (.cells ((bV n f++bV m g).toArray++n9 z0.cells (grownCap w (n+m) c T-(n+m))) T)).trans ?_;congr 2;apply fe;rw[ng,Array.toList_append,Jd];show bV n f++bV m g++_=bV (n+m) (cj n f g)++_;rw[<-Ja]
theorem atO (q0 q:List Int):∀j,j<q0.length+q.length->cj q0.length (da q0) (da q) j=da (q0++q) j:=by
 intro j hj;unfold da;by_cases h:j<q0.length
 ·rw[Il h,oS,oS,gV h]
 ·have e:j=q0.length+(j-q0.length):=by omega
  rw[e,att,oS,oS,zL (by omega)];simp
theorem adj {gl:Nat->Option Nat}:fP prog gl (Nc (fr:=fr)):=by
 intro e op ids bl ch R ms w0 w K ρ o hg hl S a9 ho h;unfold Nc at h;split at h
 ·rename_i c;split at h
  ·rename_i s xs t tx eQ cR dO;split at h
   ·rename_i T T' ht gh;split at h
    ·rename_i i m cc fN;split at h
     ·rename_i wr ty l hb;obtain⟨nq,ar,iy⟩:=c;simp only at eQ cR dO;have e2:ar=#[s,xs]:=by rw[<-cR]
      have e3:iy=#[t,tx]:=by rw[<-dO]
      subst eQ e2 e3;have aM:=(fE hl S hb).2;split at h
      ·rename_i j n c gw;split at h
       ·rename_i l0 vD;split at h
        ·rename_i q0 q Me hq;cases Nd:aq T 5&&(aq q0.length n&&(aq n c&&(aq q.length m&&(bu 1 m&&(bu (n+m) 1000000&&bM bl.length bl)))))with
         |false=>rw[Nd]at h;exact h.elim
         |true=>
          rw[Nd]at h;simp only[bg]at Nd;obtain⟨a1,a2,a3,a4,a5,a6,a7⟩:=Nd;obtain rfl:=ck a1;obtain rfl:=ck a2;obtain rfl:=ck a3;obtain rfl:=ck a4;have a5:=du a5;have a6:=du a6;have El:=(fE hl S vD).2;rw[wa ids Me]at El;rw[wa ids hq]at aM;have sj:w.heap[ids.getD j 0]?=some (.cells (bD q0.length (da q0) q0.length) 5 (0,0)):=by
           rw[El];simp[bD]
          have h8:cd w (ids.getD i 0) 0 q.length (da q):=λk hk=>by
           rw[cell_of aM,eD];simp only[jt];exact qT _ hk
          obtain⟨b',c',w',bG,cn,hle,dY,mE⟩:=atN (P:=prog) (ty:=o.type) (dE _) sj (Ai (c:=cc) h8 gh) ht (by kernel_rfl) (by omega) (by omega);obtain⟨d,rfl⟩:=Nat.le.dest hle;have FZ:=jL (P:=prog) (ρ:=ρ) (o:=o) ho (by rw[a9,gw];simp only[den]) (by rw[a9,fN];simp only[den]) bG;refine⟨_,[b'],_,ch,w',.inl ?_,by simp[hl],?_,h d⟩
          ·rw[FZ];simp only[den];rw[<-hl,kS]
          ·have em:az (ids++[b']) b' (dN (q0.length+q.length) d (da (q0++q)))=⟨b',true,.cells (bD (q0.length+q.length) (cj q0.length (da q0) (da q)) (q0.length+q.length+d)) 5 (0,0)⟩:=by
            unfold az;rw[xb,<-PR rfl (atO q0 q)];rfl
           rw[eZ _ _ _ _ hl,e_ _ _ (by rw[hl];exact a7)];simp only[lits,em];refine(S.new cn dY mE).perm ?_;rw[bR];exact jH.symm
        ·exact h.elim
       ·exact h.elim
      ·split at h
       ·rename_i z bI u g fB r rest bZ;cases hq:aq (bY l) (m*z)&&(bj 0 l&&(lX l&&bu bI 10000000))with
        |false=>rw[hq]at h;exact h.elim
        |true=>
         rw[hq]at h;simp only[cond_true]at h;simp only[bg]at hq;obtain⟨q1,q2,q3,q4⟩:=hq;have q1:=ck q1;have q4:=du q4;obtain⟨⟨hs,rfl,rfl,hn⟩,hK⟩:=h;have hi:(prog.info? r.T).map (λi=>(i.zero.map (·.cells.size),i.size,i.bytes))=some (some r.z,r.z,bI):=Fx bZ;have hd:ah ids l=ah [] l:=by have:=j4 (ids:=[]) (more:=ids) l q2;simpa using this
         have hlen:(ah [] l).length=m*r.z:=by rw[<-q1];exact kr l
         have fH:Src prog r.z tx (.slice (some ⟨ids.getD i 0,0,none⟩) m cc) m (ah [] l) w:=by
          refine rU w gh ⟨ids.getD i 0,0,none⟩ m cc _ hlen (λj u hj=>?_) (λu hu=>Ar q3 u hu);rw[iE,cell_of aM,hd];simpa using hj
         have e1:lits ids ids bl++ax (LG.aZ u::LG.core g fB::LG.row r::rest) R=(lits ids ids bl++(dC u++(g.F.B++fB)))++(r.bl++ax rest R):=by
          simp only[MU,bR]
         rw[e1]at S;have kV:(r.n+m)*bI<=140737488355328:=iY (Nat.mul_le_mul hn q4) (by decide);obtain⟨v,w',bG,hc,x',c',bl',rfl,fD,mE⟩:=Cs (P:=prog) (ty:=o.type) r.h (λy hy=>S.at' (by simp[hy])) bI fH ht hi kV (iY hn (by decide));have S2:=S.tN r.h.wr hc (λy hy=>(mE y hy).1) (λy hy=>(mE y hy).2) fD.pw;refine⟨_,[],bl,_,w',.inl ?_,by simpa using hl,?_,hK ⟨r.T,r.z,_,x',r.n+m,c',bl',fD⟩ rfl rfl rfl rfl⟩
         ·have:=jL (P:=prog) (ρ:=ρ) (o:=o) ho (sv:=.slice r.x r.n r.c) (xv:=.slice (some ⟨ids.getD i 0,0,none⟩) m cc) (by rw[a9,hs];simp only[bU.v,den]) (by rw[a9,fN];simp only[den]) bG;simpa[den,bU.v]using this
         ·rw[cQ];have e4:lits ids ids bl++ax (LG.aZ u::LG.core g fB::LG.row ⟨r.T,r.z,r.os++ah [] l,x',r.n+m,c',bl',fD⟩::rest) R=(lits ids ids bl++(dC u++(g.F.B++fB)))++(bl'++ax rest R):=by
           simp only[MU,bR]
          rw[e4];exact S2
       ·exact h.elim
     ·exact h.elim
    ·exact h.elim
   ·exact h.elim
  ·exact h.elim
 ·exact h.elim
def mR (m:Sd.aY) (K:VK Empty):Prop:=bo (fA prog (λ_=>none) ([]:List (bK Empty)) (yv prog) AG) 60 46 [.agg (cI m)] [] [] (br 0 K)
def qt (m:Sd.aY):List (Int×Int×Int×Nat):=(m.seq,0,4294967295,4)::
 (if m.kind=5 then[(if m.now then 1 else 0,0,1,1)]else if m.kind=6 then[(m.aU,0,4,1)]else if m.kind=7 then[(m.af,0,65535,2)]else if m.kind=10 then[(m.af,0,65535,2),(m.mode,0,4,1)]else[])
theorem atP (s:Int) (K:VK Empty):mR {Sd.eT 3 with seq:=s} K=mg 3 [(s,0,4294967295,4)] K:=by
 unfold mR;kernel_rfl
theorem atQ (s:Int) (K:VK Empty):mR {Sd.eT 9 with seq:=s} K=mg 9 [(s,0,4294967295,4)] K:=by
 unfold mR;kernel_rfl
theorem atS (s:Int) (K:VK Empty):mR {Sd.eT 5 with seq:=s,now:=true} K=mg 5 [(s,0,4294967295,4),(1,0,1,1)] K:=by
 unfold mR;kernel_rfl
theorem atT (s:Int) (K:VK Empty):mR {Sd.eT 5 with seq:=s,now:=false} K=mg 5 [(s,0,4294967295,4),(0,0,1,1)] K:=by
 unfold mR;kernel_rfl
theorem atU (s t:Int) (K:VK Empty):mR {Sd.eT 6 with seq:=s,aU:=t} K=mg 6 [(s,0,4294967295,4),(t,0,4,1)] K:=by
 unfold mR;kernel_rfl
theorem atV (s e:Int) (K:VK Empty):mR {Sd.eT 7 with seq:=s,af:=e} K=mg 7 [(s,0,4294967295,4),(e,0,65535,2)] K:=by
 unfold mR;kernel_rfl
theorem atW (s e x:Int) (K:VK Empty):mR {Sd.eT 10 with seq:=s,af:=e,mode:=x} K=mg 10 [(s,0,4294967295,4),(e,0,65535,2),(x,0,4,1)] K:=by
 unfold mR;kernel_rfl
def ll (m:Sd.aY):Prop:=(0<=m.seq/\m.seq<=4294967295)/\(((m.kind=3\/m.kind=9)/\m={Sd.eT m.kind with seq:=m.seq})\/(m.kind=5/\m={Sd.eT 5 with seq:=m.seq,now:=m.now})\/(m.kind=6/\(0<=m.aU/\m.aU<=4)/\m={Sd.eT 6 with seq:=m.seq,aU:=m.aU})\/
 (m.kind=7/\(0<=m.af/\m.af<=65535)/\m={Sd.eT 7 with seq:=m.seq,af:=m.af})\/(m.kind=10/\(0<=m.af/\m.af<=65535)/\(0<=m.mode/\m.mode<=4)/\m={Sd.eT 10 with seq:=m.seq,af:=m.af,mode:=m.mode}))
theorem atX {m:Sd.aY} (h:ll m) (K:VK Empty):mR m K=mg m.kind (qt m) K:=by
 obtain⟨_,⟨h|h,e⟩|⟨h,e⟩|⟨h,_,e⟩|⟨h,_,e⟩|⟨h,_,_,e⟩⟩:=h
 ·rw[h]at e;rw[e];exact atP _ K
 ·rw[h]at e;rw[e];exact atQ _ K
 ·rw[e];cases m.now with
  |true=>exact atS _ K
  |false=>exact atT _ K
 ·rw[e];exact atU _ _ K
 ·rw[e];exact atV _ _ K
 ·rw[e];exact atW _ _ _ K
theorem atY {m:Sd.aY} (h:ll m):∀f∈qt m,f.2.1<=f.1/\f.1<=f.2.2.1/\0<=f.1/\f.1<18446744073709551616/\f.1<cJ (2^(8*f.2.2.2)):=by
 have hs:(0<=m.seq/\m.seq<=4294967295/\0<=m.seq/\m.seq<18446744073709551616/\m.seq<cJ (2^(8*4))):=by
  have:=h.1;refine⟨this.1,this.2,this.1,by omega,?_⟩;show m.seq<4294967296;omega
 intro f hf;unfold qt at hf;rcases ca.1 hf with rfl|hf
 ·exact hs
 obtain⟨_,⟨k|k,e⟩|⟨k,e⟩|⟨k,b,e⟩|⟨k,b,e⟩|⟨k,b,b2,e⟩⟩:=h<;>simp only[k,zY,if_true,if_false]at hf
 ·cases hf
 ·cases hf
 ·obtain rfl:=ig.1 hf;cases m.now<;>exact⟨by decide,by decide,by decide,by decide,by decide⟩
 ·obtain rfl:=ig.1 hf;exact⟨b.1,b.2,b.1,by show m.aU<_;omega,by show m.aU<256;omega⟩
 ·obtain rfl:=ig.1 hf;exact⟨b.1,b.2,b.1,by show m.af<_;omega,by show m.af<65536;omega⟩
 ·rcases ca.1 hf with rfl|hf
  ·exact⟨b.1,b.2,b.1,by show m.af<_;omega,by show m.af<65536;omega⟩
  ·obtain rfl:=ig.1 hf;exact⟨b2.1,b2.2,b2.1,by show m.mode<_;omega,by show m.mode<256;omega⟩
def jr (m:Sd.aY):List Int:=m.kind::((qt m).map λf=>(bd f.2.2.2).map (aK f.2.2.2 (u64.wrap f.1))).flatten
def mS (m:Sd.aY):Nat->Int:=da (jr m)
def dc (m:Sd.aY):Nat:=(jr m).length
theorem adk:∀r:List Int,j9 (r.map (V.int .u8))=some r
 |[]=>rfl
 |x::r=>by simp only[eH,j9,adk r]
theorem atZ (m:Sd.aY):[V.int .u8 m.kind]++((qt m).map λf=>jV f.2.2.2 f.1).flatten=(jr m).map (V.int .u8):=by
 have e:∀l:List (Int×Int×Int×Nat),(l.map λf=>jV f.2.2.2 f.1).flatten=((l.map λf=>(bd f.2.2.2).map (aK f.2.2.2 (u64.wrap f.1))).flatten).map (V.int .u8):=by
  intro l;induction l with
  |nil=>rfl
  |cons f l ih=>
   simp only[eH,List.flatten_cons,qB,ih];congr 1;unfold jV;rw[mr];rfl
 rw[e];rfl
theorem adl:∀r:List Int,bY (r.map (V.int .u8))=r.length
 |[]=>rfl
 |x::r=>by simp only[eH,bY,adl r,kN];show 1+_=_;omega
theorem at0 (m:Sd.aY):1+((qt m).map λf=>f.2.2.2).sum=dc m:=by
 have e:∀l:List (Int×Int×Int×Nat),((l.map λf=>(bd f.2.2.2).map (aK f.2.2.2 (u64.wrap f.1))).flatten).length=(l.map λf=>f.2.2.2).sum:=by
  intro l;induction l with
  |nil=>rfl
  |cons f l ih=>simp only[eH,List.flatten_cons,fq,Eu,IK,ih,List.sum_cons]
 unfold dc jr;rw[kN,e];omega
theorem at4 {m:Sd.aY} (h:ll m) (w:ae):aS prog 46 #[.agg (Kn m)] w λv w1=>∃b c u,v=.tuple #[.slice (some ⟨b,0,none⟩) (dc m) c,.int .i64 0]/\dc m<=c/\u.length=c-dc m/\w.heap.size<=b/\w1.heap[b]?=some (.cells (bV (dc m) (mS m)++u).toArray 5 (0,0))/\Ch [] w w1:=by
 have hv:mR m λv b _=>∃c u,dc m<=c/\u.length=c-dc m/\v=.an [.sl 0 0 (dc m) c,.int .i64 0]/\b=[⟨true,⟨5,(0,0)⟩,(jr m).map (V.int .u8)++[.rest u]⟩]:=by
  rw[atX h];refine acJ (atY h) λc u h1 h2=>?_;rw[at0]at h1⊢;rw[atZ]at h2⊢;rw[acH,adl]at h2;refine⟨c,u,h1,?_,rfl,rfl⟩;have:bY [V.rest u]=u.length:=by show u.length+0=_;rfl
  rw[this]at h2;unfold dc;omega
 have ea:(aD [] [.agg (cI m)]).toArray=#[.agg (Kn m)]:=by simp only[aD,aan]
 rw[<-ea];refine(eG (aC.nil (G:=Empty) (P:=prog) (gl:=λ_=>none)).T (aC.nil (G:=Empty) (P:=prog) (gl:=λ_=>none)).Q 60 (C:=fA prog (λ_=>none) ([]:List (bK Empty)) (yv prog) AG) (ids:=[]) (bl:=[]) (ch:=[]) (R:=[]) Gl.none rfl (St.nil [] w) hv).mono ?_;rintro v w' ⟨y,more,bl',ch',rfl,h1,S',hK⟩;obtain⟨v2,cB,bl2,e2,cW,S2,c,u,hc,hu,rfl,rfl⟩:=hU (n0:=0) h1 (by simp) S' hK
 match cB,cW,S2,e2 with
 |[b],_,S2,e2=>
  have S3:St [] w [az [b] b ⟨true,⟨5,(0,0)⟩,(jr m).map (V.int .u8)++[.rest u]⟩] w':=match ch',S2 with
   |[],S2=>S2
   |e::_,_=>nomatch e
  refine⟨b,c,u,e2,hc,hu,(S3.own 0 _ rfl rfl).resolve_left (by simp),?_,S3.ch⟩;have aM:w'.heap[b]?=some (.cells (ah [b] ((jr m).map (V.int .u8)++[.rest u])).toArray 5 (0,0)):=S3.at_ 0 _ rfl;rw[aM,iG,wa [b] (adk (jr m))];have:ah [b] [V.rest u]=u:=by simp[ah,cl]
  rw[this];rfl
def Ip:c_ (LG fr):=λargs bl ch K=>match args with
 |[.agg l]=>(match yM l with
  |some m=>cond (bM bl.length bl) (ll m/\∀(d:Nat) (u:List ab),K (.an [.sl bl.length 0 (dc m) (dc m+d),.int .i64 0]) (bl++[⟨true,⟨5,(0,0)⟩,[.bJ .u8 (dc m) (mS m),.rest u]⟩]) ch) False
  |none=>False)
 |_=>False
theorem at5 {gl:Nat->Option Nat}:Sound prog gl 46 (Ip (fr:=fr)):=by
 intro args ids bl ch R ms w0 w K hg hl S hc;unfold Ip at hc;split at hc
 ·rename_i l;split at hc
  ·rename_i m hm;cases hw:bM bl.length bl with
   |false=>rw[hw]at hc;exact hc.elim
   |true=>
    rw[hw]at hc;obtain⟨hp,hK⟩:=hc;obtain rfl:=Dv hm;have ea:(aD ids [.agg (cI m)]).toArray=#[.agg (Kn m)]:=by simp only[aD,aan]
    rw[ea];refine(at4 hp w).mono ?_;rintro v w' ⟨b,c,u,rfl,hle,hu,dY,aM,cn⟩;obtain⟨d,rfl⟩:=Nat.le.dest hle;refine⟨_,[b],_,_,?_,by simp[hl],?_,hK d u⟩
    ·have:(ids++[b]).getD bl.length 0=b:=by rw[<-hl];simp[ij]
     simp only[den,aD,this]
    ·have em:az (ids++[b]) b ⟨true,⟨5,(0,0)⟩,[.bJ .u8 (dc m) (mS m),.rest u]⟩=⟨b,true,.cells (bV (dc m) (mS m)++u).toArray 5 (0,0)⟩:=by
      unfold az;simp only[ah,cl,cQ];rfl
     rw[eZ _ _ _ _ hl,e_ _ _ (by rw[hl];exact hw)];simp only[lits,em];refine(S.new cn dY aM).perm ?_;rw[bR];exact jH.symm
  ·exact hc.elim
 ·exact hc.elim
theorem at6:hJ (Ip (fr:=fr)):=by
 intro args bl ch K hc;unfold Ip at hc⊢;split at hc
 ·split at hc
  ·revert hc;cases bM bl.length bl with
   |false=>exact λh=>h.elim
   |true=>exact λh=>⟨h.1,λd u=>⟨h.2 d u,_,rfl⟩⟩
  ·exact hc.elim
 ·exact hc.elim
theorem at7 {m:Sd.aY} (h:ll m) {f:Nat->Int} (hf:∀j,j<dc m->f j=mS m j):aH (dc m) f=some m:=by
 obtain⟨hs,h⟩:=h;have at_:∀j,j<dc m->f j=(jr m).getD j 0:=hf;rcases h with⟨h|h,e⟩|⟨h,e⟩|⟨h,b,e⟩|⟨h,b,e⟩|⟨h,b,b2,e⟩
 ·rw[h]at e;have eI:jr m=[3,aK 4 (u64.wrap m.seq) 0,aK 4 (u64.wrap m.seq) 1,aK 4 (u64.wrap m.seq) 2,aK 4 (u64.wrap m.seq) 3]:=by unfold jr qt;simp only[h,zY,if_false];rfl
  have eN:dc m=5:=by unfold dc;rw[eI];rfl
  rw[eN,eI]at at_;rw[eN];refine(atz (v:=m.seq) ⟨at_ 0 (by decide),hs,at_ 1 (by decide),at_ 2 (by decide),at_ 3 (by decide),at_ 4 (by decide)⟩).trans (congrArg some e.symm)
 ·rw[h]at e;have eI:jr m=[9,aK 4 (u64.wrap m.seq) 0,aK 4 (u64.wrap m.seq) 1,aK 4 (u64.wrap m.seq) 2,aK 4 (u64.wrap m.seq) 3]:=by unfold jr qt;simp only[h,zY,if_false];rfl
  have eN:dc m=5:=by unfold dc;rw[eI];rfl
  rw[eN,eI]at at_;rw[eN];refine(atA (v:=m.seq) ⟨at_ 0 (by decide),hs,at_ 1 (by decide),at_ 2 (by decide),at_ 3 (by decide),at_ 4 (by decide)⟩).trans (congrArg some e.symm)
 ·have eI:jr m=[5,aK 4 (u64.wrap m.seq) 0,aK 4 (u64.wrap m.seq) 1,aK 4 (u64.wrap m.seq) 2,aK 4 (u64.wrap m.seq) 3,aK 1 (u64.wrap (if m.now then 1 else 0)) 0]:=by unfold jr qt;simp only[h,zY,if_true];rfl
  have eN:dc m=6:=by unfold dc;rw[eI];rfl
  rw[eN,eI]at at_;rw[eN];refine(atC (v:=m.seq) (b:=m.now) ⟨at_ 0 (by decide),hs,at_ 1 (by decide),at_ 2 (by decide),at_ 3 (by decide),at_ 4 (by decide)⟩ (at_ 5 (by decide))).trans (congrArg some e.symm)
 ·have eI:jr m=[6,aK 4 (u64.wrap m.seq) 0,aK 4 (u64.wrap m.seq) 1,aK 4 (u64.wrap m.seq) 2,aK 4 (u64.wrap m.seq) 3,aK 1 (u64.wrap m.aU) 0]:=by unfold jr qt;simp only[h,zY,if_true,if_false];rfl
  have eN:dc m=6:=by unfold dc;rw[eI];rfl
  rw[eN,eI]at at_;rw[eN];refine(atD (v:=m.seq) (w:=m.aU) ⟨at_ 0 (by decide),hs,at_ 1 (by decide),at_ 2 (by decide),at_ 3 (by decide),at_ 4 (by decide)⟩ b (at_ 5 (by decide))).trans (congrArg some e.symm)
 ·have eI:jr m=[7,aK 4 (u64.wrap m.seq) 0,aK 4 (u64.wrap m.seq) 1,aK 4 (u64.wrap m.seq) 2,aK 4 (u64.wrap m.seq) 3,aK 2 (u64.wrap m.af) 0,aK 2 (u64.wrap m.af) 1]:=by unfold jr qt;simp only[h,zY,if_true,if_false];rfl
  have eN:dc m=7:=by unfold dc;rw[eI];rfl
  rw[eN,eI]at at_;rw[eN];refine(atF (v:=m.seq) (w:=m.af) ⟨at_ 0 (by decide),hs,at_ 1 (by decide),at_ 2 (by decide),at_ 3 (by decide),at_ 4 (by decide)⟩ b (at_ 5 (by decide)) (at_ 6 (by decide))).trans (congrArg some e.symm)
 ·have eI:jr m=[10,aK 4 (u64.wrap m.seq) 0,aK 4 (u64.wrap m.seq) 1,aK 4 (u64.wrap m.seq) 2,aK 4 (u64.wrap m.seq) 3,aK 2 (u64.wrap m.af) 0,aK 2 (u64.wrap m.af) 1,aK 1 (u64.wrap m.mode) 0]:=by unfold jr qt;simp only[h,zY,if_true,if_false];rfl
  have eN:dc m=8:=by unfold dc;rw[eI];rfl
  rw[eN,eI]at at_;rw[eN];refine(atG (v:=m.seq) (w:=m.af) (x:=m.mode) ⟨at_ 0 (by decide),hs,at_ 1 (by decide),at_ 2 (by decide),at_ 3 (by decide),at_ 4 (by decide)⟩ b b2 (at_ 5 (by decide)) (at_ 6 (by decide)) (at_ 7 (by decide))).trans (congrArg some e.symm)
end
end Go.Proofs.YtggfpcggakghnaaGreatDoor
namespace Sd
variable{C:aL} {s:aa} {c:Core} {k:Int}
structure Still (t:aA) (m j:Int):Prop where
 st:t.c9.1=false
 aj:∀i,i<3->(t.aj i).on=true->(t.aj i).eL.most=m/\0<=(t.aj i).eL.n/\(t.aj i).eL.n<=j
structure TS (p:aN) (a b E off ask:Int) (j:Nat) (c:Core):Prop where
 cp:c.p=p
 ct:c.t=⟨a,E,if(j:Int)<off then b else-1,if(j:Int)<off then⟨j,off⟩else .zero,.zero,false⟩
 cq:c.q=if(j:Int)<ask then[⟨b,bC p b,⟨j,ask⟩⟩]else[]
 still:Still c.ag 900 j
 a:c.ag.de a=true
 b:c.ag.de b=true
end Sd
namespace Sd
variable{C:aL} {s:aa} {c:Core} {l:List (Int×aE)} {k:Int}
structure aua (t:aA) (B:Int) (a b d:Int) (ja:Int) (ona:Bool):Prop where
 st:t.c9.1=false
 oa:t.de a=ona
 sa:ona=true->(t.aj (a.toNat-1)).eL=⟨ja,B⟩
 ob:t.de b=true
 sb:(t.aj (b.toNat-1)).eL=⟨0,B⟩
 od:t.de d=true
 sd:(t.aj (d.toNat-1)).eL=⟨0,B⟩
def aub (p:aN) (x y j:Int):List Ask:=[⟨x,bC p x,⟨j,900⟩⟩,⟨y,bC p y,⟨j,900⟩⟩]
structure RS (p:aN) (a b d x y E B L m:Int) (bI:Label) (j:Nat) (c:Core):Prop where
 cp:c.p=p
 ct:c.t=⟨a,E,-1,.zero,if(j:Int)<B then .zero else⟨(j:Int)-B+1,L⟩,false⟩
 cq:c.q=aub p x y j
 ag:aua c.ag B a b d j (decide ((j:Int)<B))
 cm:c.mode=m
 cb:c.ff=bI
end Sd
namespace Sd
variable{C:aL} {s:aa} {c:Core} {l:List (Int×aE)} {k:Int} {m:aY}
structure uU (p:aN):Prop where
 Am:∀i,10<=i/\i<=12->p.i i=14
 table:∀i,14<=i/\i<=33->p.i i=15
 graph:∀i,34<=i/\i<=38->p.i i=31
theorem uU.iq {p:aN} (h:uU p) {r:Int} (hk:1<=k/\k<=3) (hr:1<=r/\r<=3):iq p k r=true:=by
 have e:p.Am k.toNat=14:=h.Am (9+k.toNat) (by omega);unfold Sd.iq;rw[e];rcases(by omega:k=1\/k=2\/k=3)with rfl|rfl|rfl<;>rcases(by omega:r=1\/r=2\/r=3)with rfl|rfl|rfl<;>decide
theorem uU.may {p:aN} (h:uU p) {mo r:Int} (hm:0<=mo/\mo<=4) (hr:0<=r/\r<=3):may p mo r 0=true:=by
 have e:p.table mo.toNat r.toNat=15:=h.table (14+4*mo.toNat+r.toNat) (by omega);unfold Sd.may;rw[e];rcases(by omega:mo=0\/mo=1\/mo=2\/mo=3\/mo=4)with rfl|rfl|rfl|rfl|rfl<;>rcases(by omega:r=0\/r=1\/r=2\/r=3)with rfl|rfl|rfl|rfl<;>decide
theorem uU.goes {p:aN} (h:uU p) {mo m2:Int} (hm:0<=mo/\mo<=4) (hr:0<=m2/\m2<=4):goes p mo m2=true:=by
 have e:p.graph mo.toNat=31:=h.graph (34+mo.toNat) (by omega);unfold Sd.goes;rw[e];rcases(by omega:mo=0\/mo=1\/mo=2\/mo=3\/mo=4)with rfl|rfl|rfl|rfl|rfl<;>rcases(by omega:m2=0\/m2=1\/m2=2\/m2=3\/m2=4)with rfl|rfl|rfl|rfl|rfl<;>decide
variable{p:aN} {a b:Int} {ka kb:av} {ra rb:Int} {ha hb:Int} {t:Tok} {mode:Int} {bI:Label} {q:List Ask}
theorem auc {most:Int} {x:X4} (h:most<x.a):nf most x=true:=by unfold nf;simp[h]
theorem aud {p:aN} {run:Int} {x:g9} (hv:x.valid=true) (hf:nf p.beyond x.x=true) (hs:p.pj=1):(eh p run x).2=true:=by
 unfold eh;rw[if_neg (by simp[hv,hf]),hs];unfold sat;simp only[decide_eq_true_eq];split<;>omega
theorem aue {x:g9} (hv:x.valid=true) (hf:nf c.p.beyond x.x=true) (hs:c.p.pj=1) (hh:c.t.ay≠0) (he:c.t.af<65535):
 ∃z:Core,M8 c x=zC z (c.t.pass 0 (c.t.af+1))/\z.p=c.p/\z.q=c.q/\z.ag=c.ag.fO c.p/\z.doors=c.doors/\z.t=c.t:=by
 refine⟨⟨c.p,c.t,c.q,c.doors,c.ag.fO c.p,sat c.samples 4294967295,(eh c.p c.beyond x).1,c.mode,c.ff,c.pt,c.head⟩,?_,rfl,rfl,rfl,rfl,rfl⟩;unfold M8;dsimp only;rw[if_pos (aud hv hf hs),atf (by omega) (λe=>hh e.symm) he,if_neg (by simp)]
theorem auf (q:List Ask) (x:Ask) (k:Int):Q.waits (Q.insert q x) k=(decide (x.source=k)||Q.waits q k):=by
 unfold Q.waits Q.insert;rw[List.any_append,List.any_cons];have e:q.any (λa=>decide (a.source=k))=((q.takeWhile λy=>decide (y.bC<=x.bC)).any (λa=>decide (a.source=k))||(q.dropWhile λy=>decide (y.bC<=x.bC)).any (λa=>decide (a.source=k))):=by
  rw[<-List.any_append,ad5]
 rw[e];cases(q.takeWhile λy=>decide (y.bC<=x.bC)).any (λa=>decide (a.source=k))<;>cases decide (x.source=k)<;>rfl
end Sd
namespace Go.Proofs.YtggfpcggakghnaaGreatDoor
section
open Go Go.RowKit Go.BigFrame Sx Vx
section
variable{G:Type} [Bl G]
theorem aug {C:Ctx G} {f n:Nat} {ids:List Nat} {bl:List VB} {ch0 rest:List G} {R:List ai} {ms:List Nat} {w0 w:ae} (hT:∀f c,C.T f=some c->Sound C.P C.gl f c) (hQ:pD C) (hl:ids.length=bl.length) (S:St ms w0 (lits ids ids bl++ax (ch0++rest) R) w)
 (is:List Nat) (hn:is.Nodup) (hg:Gl C.gl (is.map λi=>ids.getD i 0)) (bs:List VB) (hb:is.map (bl[·]?)=bs.map some) (hw:bM 0 bs=true) {args args':List V} (cR:aD ids args=aD (is.map λi=>ids.getD i 0) args') {P:V->List G->Prop}
 (cS:bo C n f args' bs ch0 (br bs.length λv b c=>cK 0 v=true/\b.take bs.length=bs/\∃c2,c=ch0++c2/\P v c2)):aS C.P f (aD ids args).toArray w λv w'=>∃v0 c2,v=den [] v0/\P v0 c2/\St ms w0 (lits ids ids bl++ax (ch0++(c2++rest)) R) w':=by
 have hlen:is.length=bs.length:=by have:=congrArg List.length hb;simpa using this
 have qH:∀(k i:Nat),is[k]?=some i->∃b,bs[k]?=some b/\bl[i]?=some b:=by
  intro k i hk;have:=congrArg (λl=>l[k]?) hb;simp only[iZ,hk,lO]at this;cases H4:bs[k]?with
  |none=>rw[H4]at this;simp at this
  |some b=>rw[H4]at this;simp only[lO,aV]at this;exact⟨b,rfl,this⟩
 have dv:∀i∈is,i<bl.length:=by
  intro i hi;obtain⟨k,hk⟩:=zM hi;obtain⟨b,_,h2⟩:=qH k i hk;exact iU h2
 obtain⟨r,hr,hp⟩:=yW (bl:=bl) (ids:=ids) hl hn dv;have gM:=hp bl rfl;have CM:∀(BR:List Nat),(is.map λj=>az ids (ids.getD j 0) (bl.getD j di))=lits BR (is.map λi=>ids.getD i 0) bs:=by
  intro BR;clear hr hp gM cR cS dv hg;induction is generalizing bs with
  |nil=>simp[lits]
  |cons i is ih=>
   cases bs with
   |nil=>simp at hlen
   |cons b bs=>
    simp only[eH,List.cons.injEq]at hb;simp only[bM,bg]at hw;simp only[eH,lits,jm hb.1];rw[mL (ids':=BR) hw.1,ih (qz.1 hn).2 bs hb.2 hw.2 (by simpa using hlen) (λk i hk=>qH (k+1) i (by simpa using hk))]
 rw[CM (is.map λi=>ids.getD i 0)]at gM;have S1:St ms w0 (lits (is.map λi=>ids.getD i 0) (is.map λi=>ids.getD i 0) bs++ax ch0 ((r.map λj=>az ids (ids.getD j 0) (bl.getD j di))++ax rest R)) w:=by
  refine S.perm ((gM.append_right _).trans ?_);rw[mD,iI (ax rest R) ch0,iI ((r.map λj=>az ids (ids.getD j 0) (bl.getD j di))++ax rest R) ch0];exact gO λf=>by simp only[ik];omega
 rw[cR];refine(eG hT hQ n hg (by simpa using hlen) S1 cS).mono ?_;rintro v w' ⟨x,H5,bl0,ch',rfl,tU,S0,hK⟩;obtain⟨v2,more,bl',hv,nF,S2,rQ,UF,c2,rfl,hP⟩:=hU (n0:=bs.length) tU (by simp[hlen]) S0 hK;have LU:((is.map λi=>ids.getD i 0)++H5).take bs.length=is.map λi=>ids.getD i 0:=by rw[<-hlen];have:=List.take_left (l₁:=is.map λi=>ids.getD i 0) (l₂:=H5);simpa using this
 rw[LU]at hv nF S2;refine⟨v2,c2,by rw[hv];have:=fI (ids:=[]) (more:=(is.map λi=>ids.getD i 0)++more) v2 rQ;simpa using this,hP,?_⟩;have nH:bl'=bs++bl'.drop bs.length:=by have:=jv bs.length bl';rw[UF]at this;exact this.symm
 rw[nH,eZ _ _ _ _ (by simpa using hlen),zi (ids':=is.map λi=>ids.getD i 0) (is.map λi=>ids.getD i 0) bs hw]at S2;rw[mD,iI _ ch0,iI _ c2]at S2;have S3:St ms w0 (lits (is.map λi=>ids.getD i 0) (is.map λi=>ids.getD i 0) bs++(ax ch0 []++(ax c2 []++((r.map λj=>az ids (ids.getD j 0) (bl.getD j di))++ax rest R)))) w':=by
  refine S2.sub ?_;rw[bR];refine zO ?_ _;exact oT _ _
 refine S3.perm (EA ?_ (gM.symm.append_right _));rw[mD,iI (ax (c2++rest) R) ch0,mD,iI (ax rest R) c2];exact gO λf=>by simp only[ik];omega
end
def mi (l:List Sd.aE) (j:Nat):List ab:=let r:=l.getD j default
 [.int .i64 r.kind,.int .i64 r.seq,.int .i64 r.role,.int .i64 r.dh,.int .i64 r.af,.int .i64 r.code,.int .u8 (r.aw 0),.int .u8 (r.aw 1),.int .u8 (r.aw 2),.int .u8 (r.aw 3),.int .u8 (r.aw 4),.int .u8 (r.aw 5),.int .u8 (r.aw 6),.int .u8 (r.aw 7)]
theorem auh (l:List Sd.aE):(bd l.length).flatMap (mi l)=l.flatMap λr=>ah [] (ia r):=by
 induction l with
 |nil=>rfl
 |cons r l ih=>
  rw[kN,vd,List.flatMap_cons,List.flatMap_map,List.flatMap_cons];have e:(λj=>mi (r::l) (Nat.succ j))=mi l:=by funext j;rfl
  rw[e,ih];rfl
theorem aui {ms:List Nat} {w0 w:ae} {z T n c:Nat} {olds:List ab} {x:Option aO} {B R:List ai} {g:Nat->List ab} {o:Obj} {z0:Nat} (h:eW z T olds x n c B) (S:St ms w0 (B++R) w) {tg:aG} {cs:List ab} (ho:o=.cells cs.toArray tg (0,0)) (kI:(⟨z0,false,o⟩:ai)∈R) (hg:olds=(bd n).flatMap g):
 ∃(i ty:Nat) (us:List ab),EB x n c=.slice (bif aq n 0 then x else some ⟨i,0,none⟩) n c/\St ms w0 (⟨i,false,.cells ((bd n).flatMap g++us).toArray ty (0,0)⟩::R) w:=by
 subst ho;rcases h.2.2 with⟨rfl,rfl,rfl,rfl⟩|⟨b,tail,rfl,rfl,_⟩
 ·exact⟨z0,tg,cs,rfl,by simpa using S.dup kI rfl⟩
 ·refine⟨b,T,tail,?_,?_⟩
  ·cases aq n 0<;>rfl
  ·rw[<-hg];exact S.lF
def B7:c_ (LG bO):=λargs bl ch K=>match args,ch with
 |[.f_ i 0 n c x,.int .i64 k],.aZ u::.core g fB::rest=>(match bl[i]?with
  |some ⟨_,⟨_,(0,0)⟩,[.fh 2 n' G,.rest _]⟩=>cond (bM bl.length bl) (∃(s:List (Int×Sd.aE)) (fv:Nat->uO),(n=s.length/\n'=s.length/\G=nN s fv/\(∀y∈s,Sd.rJ y)/\s.length<=1000/\mf bO s fv fB/\Na bl)/\
   ∀(rs:List Sd.aE),rs=Sd.eV s k->∀(x':Option aO) (c' ty:Nat) (us:List ab),K (.f_ bl.length 0 rs.length c' x') (bl++[⟨false,⟨ty,(0,0)⟩,[.fh 14 rs.length (mi rs),.rest us]⟩]) (.aZ u::.core g fB::rest)) False
  |_=>False)
 |_,_=>False
def Vd {G:Type}:(ba->V)->Op->List VB->List G->VK G->Prop:=λe op bl ch K=>match op with
 |.binOp .rem t x (.const (.int .i64 (.ofNat 3))) t2=>(match e x,e (.const (.int .i64 (.ofNat 3)))with
  |.int .i64 n,.int .i64 (.ofNat 3)=>0<=n/\cond (n.tmod 3==0) (K (.int .i64 0) bl ch) (cond (n.tmod 3==1) (K (.int .i64 1) bl ch) (K (.int .i64 2) bl ch))
  |_,_=>False)
 |_=>False
theorem auj {G:Type} [Bl G] {P:aF} {gl:Nat->Option Nat}:fP (G:=G) P gl Vd:=by
 intro e op ids bl ch R ms w0 w K ρ o hg hl S a9 ho h;unfold Vd at h;split at h
 ·rename_i t x t2;split at h
  ·rename_i n hx hy;obtain⟨h0,h⟩:=h;have bG:(execOp ρ o).run P w=.ok (.value (.int .i64 (n.tmod 3))) w:=by
    have hb:E6 P .rem t (e x) (e (.const (.int .i64 (.ofNat 3))))=some (.int .i64 (n.tmod (.ofNat 3))):=by rw[hx,hy];rfl
    unfold execOp;simp only[ho,a9];rw[bx,OI hb];rfl
   have dv:=Int.tmod_lt_of_pos n (show(0:Int)<3 by decide);have dY:=Int.tmod_nonneg 3 h0;have go:∀m:Int,n.tmod 3=m->K (.int .i64 m) bl ch->∃x more bl' ch' w',((execOp ρ o).run P w=.ok (.value (den (ids++more) x)) w'\/((execOp ρ o).run P w=.ok .skip w'/\x=fJ))/\(ids++more).length=bl'.length/\St ms w0 (lits (ids++more) (ids++more) bl'++ax ch' R) w'/\K x bl' ch':=λm hm hK=>⟨_,[],bl,ch,w,.inl (by rw[bG,hm];simp[den]),by simpa using hl,by simpa using S,hK⟩;cases h1:n.tmod 3==0 with
   |true=>rw[h1]at h;exact go 0 (eq_of_beq h1) h
   |false=>
    rw[h1]at h;cases h2:n.tmod 3==1 with
    |true=>rw[h2]at h;exact go 1 (eq_of_beq h2) h
    |false=>
     rw[h2]at h;exact go 2 (by have:=beq_eq_false_iff_ne.1 h1;have:=beq_eq_false_iff_ne.1 h2;omega) h
  ·exact h.elim
 ·exact h.elim
end
end Go.Proofs.YtggfpcggakghnaaGreatDoor
namespace Sd
def Gr (n:Nat) (s t:aa):Prop:=t.bA.length<=s.bA.length+n/\t.bh.length<=s.bh.length+n
theorem Gr.trans {n m:Nat} {s t u:aa} (h:Gr n s t) (k:Gr m t u):Gr (n+m) s u:=⟨by have:=h.1;have:=k.1;omega,by have:=h.2;have:=k.2;omega⟩
theorem Gr.le {n m:Nat} {s t:aa} (h:Gr n s t) (k:n<=m):Gr m s t:=⟨by have:=h.1;omega,by have:=h.2;omega⟩
theorem Gr.of {n m:Nat} {s s0 t:aa} (h:Gr n s0 t) (h1:s0.bA=s.bA) (h2:s0.bh=s.bh) (k:n<=m):Gr m s t:=⟨by have:=h.1;rw[h1]at this;omega,by have:=h.2;rw[h2]at this;omega⟩
theorem Gr.fin {n:Nat} {s t t':aa} (h:Gr n s t) (h1:t'.bA=t.bA) (h2:t'.bh=t.bh):Gr n s t':=⟨by rw[h1];exact h.1,by rw[h2];exact h.2⟩
theorem Gr.c0 {s t:aa} (h1:t.bA=s.bA) (h2:t.bh=s.bh):Gr 0 s t:=⟨by rw[h1];exact dE _,by rw[h2];exact dE _⟩
section
variable(C:aL) (s:aa)
theorem Iq (l:Int) (r:aE):Gr 1 s (s.tell l r):=⟨by simp[aa.tell],by simp[aa.tell]⟩
theorem Nf (l:Int) (r:aE):Gr 1 s (s.dH l r):=by
 unfold aa.dH;split
 ·exact Iq s l r
 ·exact(Gr.c0 rfl rfl).le (by omega)
theorem rS (k a n e h:Int):Gr 1 s (s.record C k a n e h):=⟨by simp[aa.record],by simp[aa.record]⟩
theorem zH (l n e:Int):Gr 2 s (s.refuse C l n e):=(Iq s _ _).trans (rS C _ _ _ _ _ _)
theorem Ng (l e:Int):Gr 1 s (s.iF C l e):=rS C _ _ _ _ _ _
theorem uV (l n:Int):Gr 1 s (s.done l n):=Iq s _ _
theorem adm (l w e:Int):Gr 1 s (s.gone l w e):=Nf s _ _
theorem Ve (t:Tok) (how n:Int):Gr 3 s (s.goes C t how n):=
 ((Gr.c0 (s:=s) (t:={s with c:={s.c with t:=t,q:=Q.drop s.c.q t.ay}}) rfl rfl).trans (((Nf _ _ _).trans (Nf _ _ _)).trans (rS C _ _ _ _ _ _))).le (by omega)
theorem auk (a:Int):Gr 2 s (s.leave C a):=by
 unfold aa.leave;dsimp only;split
 ·exact(Gr.c0 rfl rfl).le (by omega)
 ·exact(Gr.of ((adm _ _ _ _).trans (rS C _ _ _ _ _ _)) rfl rfl (by omega))
theorem aul (l:Int) (n:Nat) (f:av):Gr 10 s (s.kQ C l n f):=by
 unfold aa.kQ;dsimp only
 repeat' split
 all_goals first
  |exact(Ng C s _ _).le (by omega)
  |exact(zH C s _ _ _).le (by omega)
  |exact Gr.of ((Iq _ _ _).trans (rS C _ _ _ _ _ _)) rfl rfl (by omega)
theorem aum (l:Int) (n:Nat) (f:av):Gr 10 s (s.prove C l n f):=by
 unfold aa.prove;dsimp only
 repeat' split
 all_goals first
  |exact Gr.of (Ng C _ _ _) rfl rfl (by omega)
  |exact Gr.of (zH C _ _ _ _) rfl rfl (by omega)
  |exact Gr.of ((Iq _ _ _).trans (rS C _ _ _ _ _ _)) rfl rfl (by omega)
theorem aun (l:Int) (m:aY):Gr 10 s (s.jh C l m):=by
 unfold aa.jh;split
 ·exact(uV s _ _).le (by omega)
 split
 ·exact(Gr.of ((auk C _ _).trans ((rS C _ _ _ _ _ _).trans (uV _ _ _))) rfl rfl (by omega))
 split
 ·unfold aa.ask;dsimp only;split
  ·exact(zH C s _ _ _).le (by omega)
  ·split
   ·exact(Gr.of ((Ve C _ _ _ _).trans (uV _ _ _)) rfl rfl (by omega))
   ·exact(Gr.of ((rS C _ _ _ _ _ _).trans (uV _ _ _)) rfl rfl (by omega))
 split
 ·unfold aa.offer;dsimp only;split
  ·exact(zH C s _ _ _).le (by omega)
  ·exact(Gr.of ((Nf _ _ _).trans ((rS C _ _ _ _ _ _).trans (uV _ _ _))) rfl rfl (by omega))
 split
 ·unfold aa.accept;dsimp only;split
  ·exact(zH C s _ _ _).le (by omega)
  ·exact((Ve C _ _ _ _).trans (uV _ _ _)).le (by omega)
 split
 ·unfold aa.fy;dsimp only;split
  ·exact(zH C s _ _ _).le (by omega)
  ·exact(Gr.of ((adm _ _ _ _).trans ((rS C _ _ _ _ _ _).trans (uV _ _ _))) rfl rfl (by omega))
 split
 ·unfold aa.release;dsimp only;split
  ·exact(zH C s _ _ _).le (by omega)
  ·exact(Gr.of ((Ve C _ _ _ _).trans (uV _ _ _)) rfl rfl (by omega))
 split
 ·unfold aa.command;dsimp only;split
  ·exact(zH C s _ _ _).le (by omega)
  ·split
   ·exact(Gr.of ((rS C _ _ _ _ _ _).trans (uV _ _ _)) rfl rfl (by omega))
   ·exact(Gr.of ((rS C _ _ _ _ _ _).trans (uV _ _ _)) rfl rfl (by omega))
 ·exact(Gr.c0 rfl rfl).le (by omega)
theorem auo (l code:Int) (n:Nat) (f:av):Gr 10 s (s.item C l code n f):=by
 unfold aa.item;split
 ·exact(Ng C s _ _).le (by omega)
 split
 ·exact aul C s _ _ _
 split
 ·exact aum C s _ _ _
 split
 ·exact(Ng C s _ _).le (by omega)
 ·exact(Gr.of (aun C _ _ _) rfl rfl (by omega))
end
def Ql (s t:aa):Prop:=t.c.q.length<=s.c.q.length
theorem Ql.trans {s t u:aa} (h:Ql s t) (k:Ql t u):Ql s u:=iY k h
theorem Ql.of {s t:aa} (h:t.c.q=s.c.q):Ql s t:=by unfold Ql;rw[h];exact dE _
end Sd
namespace Go.Proofs.YtggfpcggakghnaaGreatDoor
section
open Go Go.RowKit Go.BigFrame Sx Vx
variable{fr:Sd.aE->Nat×Sd.av}
def Nh (C:Sd.aL):c_ (LG fr):=λargs bl ch K=>match args with
 |[.ptr ic 0,.int .i64 l,.agg [.int .i64 code,.sl ip 0 n c]]=>(match bl[ip]?with
  |some ⟨true,⟨5,(0,0)⟩,[.int .u8 a,.int .u8 b]⟩=>MI C [.ptr ic 0,.int .i64 l,.agg [.int .i64 code,.sl ip 0 n c]] bl ch K
  |_=>Mp C [.ptr ic 0,.int .i64 l,.agg [.int .i64 code,.sl ip 0 n c]] bl ch K)
 |_=>False
theorem adn (ht:Body (fr:=fr) 147 dI):Sound prog gS 24 (Nh (fr:=fr) (aJ aH)):=by
 intro args ids bl ch R ms w0 w K hg hl S hc;unfold Nh at hc;split at hc
 ·split at hc
  ·exact acp ht _ ids bl ch R ms w0 w K hg hl S hc
  ·exact ab0 ht _ ids bl ch R ms w0 w K hg hl S hc
 ·exact hc.elim
def Ni (_:ba->V) (op:Op):Bool:=match op with|.buildSlice _ _ _=>true|_=>false
def Nj (_:ba->V) (op:Op):Bool:=match op with|.binOp _ _ _ _ _=>true|_=>false
def uW:(ba->V)->Op->List VB->List (LG fr)->VK (LG fr)->Prop:=λe op bl ch K=>cond (Ni e op) (MT prog e op bl ch K) (cond (Nj e op) (Vd e op bl ch K) (Nc e op bl ch K))
theorem xp {gl:Nat->Option Nat}:fP prog gl (uW (fr:=fr)):=vU Ni acF (vU Nj auj adj)
def tv {G:Type} [Bl G] (P:aF) (gl:Nat->Option Nat) (L:List (bK G)) (h:(ba->V)->Op->List VB->List G->VK G->Prop) (hok:fP P gl h) (lp:Nat->List V->Option (Lp G)):Ctx G:=⟨P,rj L,gl,uc L,h,hok,lp⟩
def ado (j n:Nat):Prop:=0<=(j:Int)/\(j:Int)<(n:Int)
theorem aup {j n:Nat} (h:j<n):ado j n:=⟨by omega,by omega⟩
structure Em (s:List (Int×Sd.aE)) (k:Int) where
 j:Nat
 hj:j<=s.length
 r:bU
 hT:r.T=40
 hz:r.z=14
 yU:r.os=(Sd.eV (s.take j) k).flatMap λr=>ah [] (ia r)
 hn:r.n=(Sd.eV (s.take j) k).length
section
variable(u:ae) (g:Gh bO) (fB:List ai) (s:List (Int×Sd.aE)) (fv:Nat->uO) (k:Int) (wr:Bool) (ty:BT) (us:List ab) (c:Nat) (x:Option aO)
def Vf (y:Em s k):List V:=[.f_ 0 0 s.length c x,.int .i64 k,y.r.v,.int .i64 y.j]
def mT:List VB:=[⟨wr,ty,[.fh 2 s.length (nN s fv),.rest us]⟩]
def Vg (y:Em s k):List (LG bO):=[.aZ u,.core g fB,.row y.r]
def auq:Lp (LG bO):=JZ (X:=Em s k) (λy=>s.length-y.j) 45 1 [0,1,5,6] (Vf s k c x) (λ_=>mT s fv wr ty us) (Vg u g fB s k) (λ_=>rfl) (λ_=>rfl) (λ_=>rfl)
def Vh:Nat->List V->Option (Lp (LG bO)):=λi _=>bif aq i 0 then some (auq u g fB s fv k wr ty us c x)else none
def Nk:List (bK (LG bO)):=[⟨48,true,DY⟩,⟨49,true,Ii⟩]
theorem adp:aC prog cU Nk:=aC.cons ⟨asZ,λ_=>as3⟩ (aC.cons ⟨as1,λ_=>as2⟩ aC.nil)
section
variable(K:VK (LG bO))
def adq (y:Em s k) (r:bU):Prop:=true=true/\FL (λy=>s.length-y.j) (Vf s k c x) (λ_=>mT s fv wr ty us) (Vg u g fB s k) y [.f_ 0 0 s.length c x,.int .i64 k,r.v,.int .i64 (i64.wrap ((y.j:Int)+1))] (mT s fv wr ty us) [.aZ u,.core g fB,.row r]
def adr (y:Em s k):Prop:=
 let e:=s.getD (y.j:Int).toNat default
 let v:=fv (y.j:Int).toNat
 let I:=ado y.j s.length
 let L:=(y.j:Int).toNat<s.length/\∀j,(nN s fv j).length=2
 I/\L/\∃(r:Sd.aE) (b:List ai),(v.n=cM r+5/\eK 5 v.n (nA (cM r) (ko r)) v.x v.c b/\∀y∈b,y∈fB)/\∀d:Nat,
  ∃r2:Sd.aE,(RB r2/\cM r=cM r2/\cM r=cM r2/\ko r=ko r2/\cM r+d=cM r2+d/\lg=lg)/\I/\L/\cond (e.1==k)
   ((y.r.v=y.r.v/\y.r.T=40/\y.r.z=14/\y.r.n+1<=1000000)/\∀r3:bU,r3.T=y.r.T->r3.z=y.r.z->r3.os=y.r.os++ah [] (ia r2)->r3.n=y.r.n+1->adq u g fB s fv k wr ty us c x y r3) (adq u g fB s fv k wr ty us c x y y.r)
def rqX:Prop:=∀r:bU,r.T=40->r.z=14->r.os=[]->r.n=0->(true=true/\FK (Vf s k c x) (λ_=>mT s fv wr ty us) (Vg u g fB s k) [.f_ 0 0 s.length c x,.int .i64 k,r.v,.int .i64 0] (mT s fv wr ty us) [.aZ u,.core g fB,.row r])/\
 ∀(y:Em s k) (g':Nat->ab),cond (decide ((y.j:Int)<(s.length:Int))) (adr u g fB s fv k wr ty us c x y) (K y.r.v (mT s fv wr ty us) [.aZ u,.core g fB,.row y.r])
theorem aur:bo (tv prog cU Nk uW xp (Vh u g fB s fv k wr ty us c x)) 60 19 [.f_ 0 0 s.length c x,.int .i64 k] (mT s fv wr ty us) [.aZ u,.core g fB] (br 1 K)=rqX u g fB s fv k wr ty us c x (br 1 K):=by kernel_rfl
end
end
theorem rbZ {r:Sd.aE} (h:Sd.sU r):RB r:=by
 have b1:=h.kind;refine⟨h.kind,⟨h.seq,?_⟩,⟨h.role,?_⟩,⟨h.dh,?_⟩,⟨h.af,?_⟩,⟨h.code,?_⟩,⟨h.aw,?_⟩⟩
 ·by_cases e:r.kind=131\/r.kind=132
  ·exact .inl e
  ·exact .inr (h.ajP (by omega))
 ·by_cases e:r.kind=130
  ·exact .inl e
  ·exact .inr (h.ajQ e)
 ·by_cases e:r.kind=130\/r.kind=134\/r.kind=135\/r.kind=136
  ·exact .inl e
  ·exact .inr (h.ajR (by omega))
 ·by_cases e:r.kind=130\/r.kind=133\/r.kind=134\/r.kind=135
  ·exact .inl e
  ·exact .inr (h.ajS (by omega))
 ·by_cases e:r.kind=132\/r.kind=136
  ·exact .inl e
  ·exact .inr (h.ajT (by omega))
 ·by_cases e:r.kind=129
  ·exact .inl e
  ·exact .inr (h.ajU e)
theorem aus {l:List (Int×Sd.aE)} {j:Nat} (h:j<l.length):l.take (j+1)=l.take j++[l.getD j default]:=by
 rw[List.take_add_one,oS,jb h];rfl
theorem aut {l:List (Int×Sd.aE)} {j:Nat} (h:j<l.length):l.getD j default∈l:=by
 rw[oS,jb h];exact List.getElem_mem h
theorem ads (l:List (Int×Sd.aE)) (k:Int):(Sd.eV l k).length<=l.length:=by
 unfold Sd.eV;rw[Eu];exact List.length_filter_le _ _
theorem auu {l:List (Int×Sd.aE)} {j:Nat} (h:j<l.length) (k:Int):Sd.eV (l.take (j+1)) k=Sd.eV (l.take j) k++if(l.getD j default).1=k then[(l.getD j default).2]else[]:=by
 rw[aus h,Sd.atd];congr 1;unfold Sd.eV;by_cases e:(l.getD j default).1=k
 ·rw[if_pos e];simp only[List.filter_cons,e,decide_true,if_true,List.filter_nil,eH,vf]
 ·rw[if_neg e];simp only[List.filter_cons,e,decide_false,Bool.false_eq_true,if_false,List.filter_nil,vf]
section
variable{u:ae} {g:Gh bO} {fB:List ai} {s:List (Int×Sd.aE)} {fv:Nat->uO} {k:Int} {wr:Bool} {ty:BT} {us:List ab} {c:Nat} {x:Option aO} {K:VK (LG bO)}
theorem auv (hf:mf bO s fv fB) (hs:∀y∈s,Sd.rJ y) (hl:s.length<=1000) (hK:∀r:bU,r.T=40->r.z=14->r.os=(Sd.eV s k).flatMap (λr=>ah [] (ia r))->r.n=(Sd.eV s k).length->K r.v (mT s fv wr ty us) [.aZ u,.core g fB,.row r]):rqX u g fB s fv k wr ty us c x K:=by
 intro r h1 h2 h3 h4;refine⟨⟨rfl,⟨0,Nat.zero_le _,r,h1,h2,by rw[h3];rfl,by rw[h4];rfl⟩,rfl,rfl,rfl⟩,λy g'=>aI (λe=>?_) (λe=>?_)⟩
 ·have dv:y.j<s.length:=by simpa using e
  obtain⟨xx,cc,b,e1,e2,e3⟩:=hf y.j dv;have hB:=hs _ (aut dv);have hR:=rbZ hB.2;have hI:=aup dv;have hL:y.j<s.length/\∀j,(nN s fv j).length=2:=⟨dv,λj=>rfl⟩;have hlen:=ads (s.take y.j) k;have awB:(s.take y.j).length<=s.length:=by rw[u9];omega
  have hS:=auu dv k;have hw:i64.wrap ((y.j:Int)+1)=((y.j+1:Nat):Int):=by rw[te (by omega)];rfl
  unfold adr;dsimp only;rw[show((y.j:Int)).toNat=y.j from Int.toNat_natCast _];refine⟨hI,hL,(s.getD y.j default).2,b,⟨by rw[e1];rfl,by rw[e1];exact e2,e3⟩,λd=>⟨(s.getD y.j default).2,⟨hR,rfl,rfl,rfl,rfl,rfl⟩,hI,hL,aI (λe=>?_) (λe=>?_)⟩⟩
  ·rw[if_pos (eq_of_beq e)]at hS;refine⟨⟨rfl,y.hT,y.hz,by rw[y.hn];omega⟩,λr3 q1 q2 q3 q4=>⟨rfl,⟨y.j+1,dv,r3,by rw[q1,y.hT],by rw[q2,y.hz],?_,?_⟩,by show s.length-(y.j+1)<s.length-y.j;omega,?_,rfl,rfl⟩⟩
   ·rw[q3,y.yU,hS,Ey];simp
   ·rw[q4,y.hn,hS];simp
   ·rw[hw];rfl
  ·rw[if_neg (beq_eq_false_iff_ne.1 e),cQ]at hS;refine⟨rfl,⟨y.j+1,dv,y.r,y.hT,y.hz,by rw[hS];exact y.yU,by rw[hS];exact y.hn⟩,by show s.length-(y.j+1)<s.length-y.j;omega,?_,rfl,rfl⟩;rw[hw];rfl
 ·have dY:s.length<=y.j:=by have:¬y.j<s.length:=by simpa using e
                            omega
  have e0:s.take y.j=s:=List.take_of_length_le dY;exact hK y.r y.hT y.hz (by rw[y.yU,e0]) (by rw[y.hn,e0])
end
theorem auw (K:VK (LG bO)) (r:bU) (s:List (Int×Sd.aE)) (fv:Nat->uO) (wr:Bool) (ty:BT) (us:List ab) (ch:List (LG bO)):br 1 K r.v (mT s fv wr ty us) ch=K r.v (mT s fv wr ty us) ch:=by kernel_rfl
theorem Vi:Sound prog gS 19 B7:=by
 intro args ids bl ch R ms w0 w K hg hl S hc;unfold B7 at hc;split at hc
 ·rename_i i n c x k u g fB rest;split at hc
  ·rename_i wr ty n' G us hb;cases hq:bM bl.length bl with
   |false=>rw[hq]at hc;exact hc.elim
   |true=>
    rw[hq]at hc;obtain⟨s,fv,⟨rfl,rfl,rfl,hs,Uw,Mm,tgr,kI⟩,hK⟩:=hc;have cR:aD ids [.f_ i 0 s.length c x,.int .i64 k]=aD ([i].map λi=>ids.getD i 0) [.f_ 0 0 s.length c x,.int .i64 k]:=rfl;have cS:bo (tv prog cU Nk uW xp (Vh u g fB s fv k wr ⟨ty,(0,0)⟩ us c x)) 60 19 [.f_ 0 0 s.length c x,.int .i64 k] (mT s fv wr ⟨ty,(0,0)⟩ us) [.aZ u,.core g fB] (br (mT s fv wr ⟨ty,(0,0)⟩ us).length λv b c=>cK 0 v=true/\b.take (mT s fv wr ⟨ty,(0,0)⟩ us).length=mT s fv wr ⟨ty,(0,0)⟩ us/\∃c2,c=[.aZ u,.core g fB]++c2/\∃r:bU,v=r.v/\c2=[.row r]/\r.z=14/\r.os=(Sd.eV s k).flatMap (λr=>ah [] (ia r))/\r.n=(Sd.eV s k).length):=by
     show bo _ _ _ _ _ _ (br 1 _);rw[aur];exact auv Mm hs Uw λr h1 h2 h3 h4=>by
      rw[auw];exact⟨rfl,rfl,[.row r],rfl,r,rfl,rfl,h2,h3,h4⟩
    refine(aug (C:=tv prog cU Nk uW xp (Vh u g fB s fv k wr ⟨ty,(0,0)⟩ us c x)) adp.T adp.Q hl (ch0:=[.aZ u,.core g fB]) (rest:=rest) S [i] (by simp) (λg i h=>by cases h) (mT s fv wr ⟨ty,(0,0)⟩ us) (by simp[hb,mT]) rfl cR cS).mono ?_;rintro v w' ⟨v0,c2,rfl,⟨r,rfl,rfl,hz,yU,hn⟩,S2⟩;have h0:az ids 1 (lh tgr)∈lits ids ids bl:=by
     have hm:=oQ (Jp (ids:=ids) ids bl hl kI);rw[(hg 1 0 rfl).2]at hm;exact hm
    have hh:=r.h;obtain⟨rT,rz,ros,rx,rn,rc,Vj,rh⟩:=r;simp only at hz yU hn hh;subst hz hn;have S3:St ms w0 (Vj++(lits ids ids bl++ax (.aZ u::.core g fB::rest) R)) w':=S2.perm (by
     show List.Perm (lits ids ids bl++(dC u++((g.F.B++fB)++(Vj++ax rest R)))) (Vj++(lits ids ids bl++(dC u++((g.F.B++fB)++ax rest R))));exact gO λf=>by simp only[ik];omega)
    obtain⟨i2,Vk,Vl,hv,S4⟩:=aui hh S3 (z0:=1) (o:=(az ids 1 (lh tgr)).obj) rfl (oU _ h0) (yU.trans (auh _).symm);refine⟨.f_ bl.length 0 (Sd.eV s k).length rc rx,[i2],_,_,?_,by simp[hl],?_,hK _ rfl rx rc Vk Vl⟩
    ·have zx:(ids++[i2]).getD bl.length 0=i2:=by rw[<-hl];simp[ij]
     simp only[bU.v,den,zx];exact hv
    ·have em:az (ids++[i2]) i2 ⟨false,⟨Vk,(0,0)⟩,[.fh 14 (Sd.eV s k).length (mi (Sd.eV s k)),.rest Vl]⟩=⟨i2,false,.cells ((bd (Sd.eV s k).length).flatMap (mi (Sd.eV s k))++Vl).toArray Vk (0,0)⟩:=by
      unfold az;simp only[ah,cl,cQ]
     rw[eZ _ _ _ _ hl,e_ _ _ (by rw[hl];exact hq)];simp only[lits,em];refine S4.perm ?_;rw[bR];exact jH.symm
  ·exact hc.elim
 ·exact hc.elim
theorem Vm:hJ B7:=by
 intro args bl ch K hc;unfold B7 at hc⊢;split at hc
 ·split at hc
  ·revert hc;cases bM bl.length bl with
   |false=>exact λh=>h.elim
   |true=>
    rintro⟨s,fv,h,hK⟩;exact⟨s,fv,h,λrs e x' c' ty us=>⟨hK rs e x' c' ty us,_,rfl⟩⟩
  ·exact hc.elim
 ·exact hc.elim
end
section
open Go Go.RowKit Go.BigFrame Sx Vx
def uX (r:Int) (p:Nat->Int):Sd.av:=da [2,r,p 0,p 1,p 2,p 3,p 4,p 5,p 6,p 7]
def oN (C:Sd.aL) (s:Sd.aa) (l r:Int) (n:Nat) (f:Sd.av):Sd.aa×Sd.av×Sd.aE:=
 let s1:=fM C s l 0 2 (f2 1 r)
 let a:=Sd.jW (Sd.eV s1.bh l)
 if a.kind=129 then
  let s2:=fM C (cE s1) l 0 10 (uX r (jR n f l r a.aw))
  (cE s2,iz n f l r a.aw,Sd.jW (Sd.eV s2.bh l))
 else(cE s1,lg,a)
theorem Nl {C:Sd.aL} {s:Sd.aa} {l:Int} {n:Nat} {f:Sd.av} (h:1<=l/\l<=3):fM C s l 0 n f=s.item C l 0 n f:=if_pos h
theorem auy (m:Sd.aY):0<dc m:=by unfold dc jr;simp
theorem auz (m:Sd.aY):mS m 0=m.kind:=rfl
theorem ll.kinds {m:Sd.aY} (h:ll m):m.kind=3\/m.kind=5\/m.kind=6\/m.kind=7\/m.kind=9\/m.kind=10:=by
 obtain⟨_,⟨h|h,_⟩|⟨h,_⟩|⟨h,_⟩|⟨h,_⟩|⟨h,_⟩⟩:=h<;>omega
variable{s:Sd.aa} {c:Sd.Core} {l r:Int}
theorem auA {m:Sd.aY} {key:Sd.av} {role hi:Int} (h:s.at_ c []) (hS:Sd.jq c l key role hi) (hp:ll m) (hn:hi<m.seq):
 (fM (aJ aH) s l 0 (dc m+8) (gB key l (dc m) (mS m))).res [] (Sd.lj (aJ aH) c l m):=by
 rw[Nl hS.lk];have hb:=hS.bW (C:=aJ aH) zF ⟨hn,hp.1⟩;refine Sd.atc h ?_ hS.on (by omega) ?_ ?_ hp.kinds hb.1
 ·rw[ac9 (auy m)];exact auz m
 ·rw[hS.key];show kD key l (dc m+8-8) _=true;rw[Nat.add_sub_cancel];exact atw key (mS m) l (dc m)
 ·show aH (dc m+8-8) _=some m;rw[Nat.add_sub_cancel];exact at7 hp λj hj=>ac9 hj
theorem adt (r:Int) (p:Nat->Int):∀j,j<8->uX r p (2+j)=p j:=by
 intro j hj;rcases(by omega:j=0\/j=1\/j=2\/j=3\/j=4\/j=5\/j=6\/j=7)with rfl|rfl|rfl|rfl|rfl|rfl|rfl|rfl<;>rfl
theorem Vn (k:Int) (r:Sd.aE):Sd.jW (Sd.eV [(k,r)] k)=r:=by rw[Sd.Ik];rfl
theorem adu {n:Nat} {f:Sd.av} (h:s.at_ c []) (hr:0<=r/\r<=3) (hl:1<=l/\l<=3) (ht:Sd.iq c.p l r=true) (hd:(c.doors (l.toNat-1)).many<4294967295):∃s1:Sd.aa,s1.at_ (Sd.oL (aJ aH) c l) []/\
 oN (aJ aH) s l r n f=(cE (fM (aJ aH) s1 l 0 10 (uX r (jR n f l r (Sd.mQ (aJ aH) c l)))),iz n f l r (Sd.mQ (aJ aH) c l),Sd.jW (Sd.eV (fM (aJ aH) s1 l 0 10 (uX r (jR n f l r (Sd.mQ (aJ aH) c l)))).bh l)):=by
 have h1:=Sd.atk (f1:=f2 1 r) zF h hr ht hd rfl rfl;rw[<-Nl (n:=2) (C:=aJ aH) (s:=s) (f:=f2 1 r) hl]at h1;refine⟨cE (fM (aJ aH) s l 0 2 (f2 1 r)),⟨h1.1,rfl⟩,?_⟩;unfold oN;dsimp only;rw[h1.2,Vn,if_pos rfl]
theorem auB {n:Nat} {f:Sd.av} (h:s.at_ c []) (hr:0<=r/\r<=3) (hl:1<=l/\l<=3) (hk:c.p.k (l.toNat-1)=(n,f)) (ht:Sd.iq c.p l r=true) (hd:(c.doors (l.toNat-1)).many<4294967295) (hs:c.ag.de l=true\/c.ag.many<c.p.d_):
 ∃s':Sd.aa,oN (aJ aH) s l r n f=(s',iz n f l r (Sd.mQ (aJ aH) c l),{kind:=130,role:=r,dh:=c.t.ay,af:=c.t.af})/\s'.at_ (Sd.oM (aJ aH) c l r) []:=by
 obtain⟨s1,h1,e⟩:=adu (n:=n) (f:=f) h hr hl ht hd;have h2:=Sd.atn (f2:=uX r (jR n f l r (Sd.mQ (aJ aH) c l))) zF h1 hl hr ht rfl rfl (by rw[hk];exact ac_ n f _ _ l r (adt _ _)) hs;rw[<-Nl hl]at h2;rw[e,h2.2,Vn];exact⟨_,rfl,h2.1,rfl⟩
theorem auC {n:Nat} {f:Sd.av} (h:s.at_ c []) (hr:0<=r/\r<=3) (hl:1<=l/\l<=3) (hk:c.p.k (l.toNat-1)=(n,f)) (ht:Sd.iq c.p l r=true) (hd:(c.doors (l.toNat-1)).many<4294967295) (ho:c.ag.de l=false) (hs:c.p.d_<=c.ag.many):
 ∃s':Sd.aa,oN (aJ aH) s l r n f=(s',iz n f l r (Sd.mQ (aJ aH) c l),{kind:=132,seq:=0,code:=19})/\s'.at_ (Sd.zE c l) []:=by
 obtain⟨s1,h1,e⟩:=adu (n:=n) (f:=f) h hr hl ht hd;have h2:=Sd.ato (f2:=uX r (jR n f l r (Sd.mQ (aJ aH) c l))) zF h1 hl hr ht rfl rfl (by rw[hk];exact ac_ n f _ _ l r (adt _ _)) ho hs;rw[<-Nl hl]at h2;rw[e,h2.2,Vn];exact⟨_,rfl,h2.1,rfl⟩
end
section
open Go Go.RowKit Go.BigFrame Sx Vx
def En {G:Type}:c_ G:=λargs bl ch K=>match args with
 |[.f_ i 0 n c x]=>(match bl[i]?with
  |some ⟨_,⟨_,(0,0)⟩,[.fh 14 n' g,.rest _]⟩=>∃rs:List Sd.aE,(n=rs.length/\n'=rs.length/\g=mi rs/\rs.length<=1000000)/\K (.agg (ia (Sd.jW rs))) bl ch
  |_=>False)
 |_=>False
def laX (rs:List Sd.aE) (wr:Bool) (ty:BT) (us:List ab) (c:Nat) (x:Option aO) (K:VK Empty):Prop:=
 let B:List VB:=[⟨wr,ty,[.fh 14 rs.length (mi rs),.rest us]⟩]
 let j:=i64.wrap ((rs.length:Int)-1)
 cond ((rs.length:Int)==0) (K (.agg (ia {kind:=0})) B []) ((0<=j/\j<(rs.length:Int))/\(j.toNat<rs.length/\∀i,(mi rs i).length=14)/\K (.agg (ia (rs.getD j.toNat default))) B [])
theorem auD (rs:List Sd.aE) (wr:Bool) (ty:BT) (us:List ab) (c:Nat) (x:Option aO) (K:VK Empty):bo (bP prog cU ([]:List (bK Empty))) 60 36 [.f_ 0 0 rs.length c x] [⟨wr,ty,[.fh 14 rs.length (mi rs),.rest us]⟩] [] (br 1 K)=laX rs wr ty us c x K:=by kernel_rfl
theorem auE {rs:List Sd.aE} (h:0<rs.length):rs.getD (rs.length-1) default=Sd.jW rs:=by
 unfold Sd.jW
 match rs,h with
 |a::l,_=>
  rw[List.getLastD_cons];clear h;show(a::l).getD l.length default=_;induction l generalizing a with
  |nil=>rfl
  |cons b l ih=>rw[List.getLastD_cons,<-ih b (by simp)];rfl
theorem adv {G:Type} [Bl G] {gl:Nat->Option Nat}:Sound (G:=G) prog gl 36 En:=by
 intro args ids bl ch R ms w0 w K hg hl S hc;unfold En at hc;split at hc
 ·rename_i i n c x;split at hc
  ·rename_i wr ty n' g us hb;obtain⟨rs,⟨rfl,rfl,rfl,hle⟩,hK⟩:=hc;have cS:bo (bP prog cU ([]:List (bK Empty))) 60 36 [.f_ 0 0 rs.length c x] [⟨wr,⟨ty,(0,0)⟩,[.fh 14 rs.length (mi rs),.rest us]⟩] [] (br ([⟨wr,⟨ty,(0,0)⟩,[.fh 14 rs.length (mi rs),.rest us]⟩]:List VB).length λv b c=>v=.agg (ia (Sd.jW rs))/\b.take ([⟨wr,⟨ty,(0,0)⟩,[.fh 14 rs.length (mi rs),.rest us]⟩]:List VB).length=[⟨wr,⟨ty,(0,0)⟩,[.fh 14 rs.length (mi rs),.rest us]⟩]/\∃c2,c=[]++c2):=by
    show bo _ _ _ _ _ _ (br 1 _);rw[auD];refine aI (λe=>⟨?_,rfl,[],rfl⟩) (λe=>?_)
    ·have:rs=[]:=List.length_eq_zero_iff.1 (by simpa using e);rw[this];rfl
    ·have hp:0<rs.length:=by
      rcases u6 rs.length with h|h
      ·rw[h]at e;cases e
      ·exact h
     have hw:i64.wrap ((rs.length:Int)-1)=((rs.length-1:Nat):Int):=by rw[te (by omega)];omega
     rw[hw,Int.toNat_natCast];exact⟨⟨by omega,by omega⟩,⟨by omega,λi=>rfl⟩,by rw[auE hp],rfl,[],rfl⟩
   refine(arL (C:=bP prog cU ([]:List (bK Empty))) (aC.nil (P:=prog) (gl:=cU)).T (aC.nil (P:=prog) (gl:=cU)).Q rfl hl S [i] (by simp) [⟨wr,⟨ty,(0,0)⟩,[.fh 14 rs.length (mi rs),.rest us]⟩] (by simp[hb]) rfl (args:=[.f_ i 0 rs.length c x]) rfl rfl cS).mono ?_;rintro v w' ⟨rfl,S2⟩;exact⟨.agg (ia (Sd.jW rs)),[],bl,ch,rfl,by simpa using hl,by simpa using S2,hK⟩
  ·exact hc.elim
 ·exact hc.elim
theorem adw {G:Type}:hJ (En (G:=G)):=by
 intro args bl ch K hc;unfold En at hc⊢;split at hc
 ·split at hc
  ·obtain⟨rs,h,hK⟩:=hc;exact⟨rs,h,hK,[],by simp⟩
  ·exact hc.elim
 ·exact hc.elim
def Nm (C:Sd.aL):List (bK (LG bO)):=[⟨46,true,Ip⟩,⟨47,true,Io⟩,⟨24,false,Nh C⟩,⟨19,true,B7⟩,⟨36,true,En⟩]
theorem adx:aC prog gS (Nm (aJ aH)):=aC.cons ⟨at5,λ_=>at6⟩ (aC.cons ⟨atL,λ_=>atM⟩ (aC.cons ⟨adn Eh,λe=>by cases e⟩ (aC.cons ⟨Vi,λ_=>Vm⟩ (aC.cons ⟨adv,λ_=>adw⟩ aC.nil))))
def Eo {fr:Sd.aE->Nat×Sd.av} {k:LK} (sv:Sd.aa) (X:(s':Sd.aa)->TR->List ai->aW fr (aR k (cE s'))->Prop):Prop:=∀s',s'=sv->∀(r:TR) (fn:List ai) (F0:aW fr (aR k (cE s'))),cO=F0.vs->cO=F0.vr->mf fr s'.bh r.fv fn->X s' r fn F0
def Vo {fr:Sd.aE->Nat×Sd.av} (k:LK) (s:Sd.aa) (F:aW fr (aR k s)) (n:Nat) (f:Sd.av):Prop:=ef k (bQ s)/\cO=F.vs/\cO=F.vr/\n<=58/\By f
def Vp (k:LK):Prop:=∃tg,some (b9 k)=some (lh tg)
def Nn (k:LK) (s':Sd.aa) (r:TR) (fB:List ai) (l:Int) (X:Sd.aE->Prop):Prop:=∃(s0:List (Int×Sd.aE)) (fv:Nat->uO),(s'.bh.length=s0.length/\s'.bh.length=s0.length/\nN s'.bh r.fv=nN s0 fv/\(∀y∈s0,Sd.rJ y)/\s0.length<=1000/\mf bO s0 fv fB/\Vp k)/\
 ∀(rs:List Sd.aE),rs=Sd.eV s0 l->∀(x':Option aO) (c' ty:Nat) (us:List ab),∃C1:List Sd.aE,(rs.length=C1.length/\rs.length=C1.length/\mi rs=mi C1/\C1.length<=1000000)/\X (Sd.jW C1)
section
variable(C:Sd.aL) (k:LK) (s:Sd.aa) (F:aW bO (aR k s)) (u:ae) (fB:List ai) (kf:Nat->Int) (l:Int) (m:Sd.aY) (K:VK (LG bO))
def syX:Prop:=ll m/\∀(d:Nat) (us:List ab),∃k2:Nat->Int,(dc m=dc m/\dc m<=50/\(0<=l/\l<4294967296)/\32=32/\(∀j,j<32->da [kf 0,kf 1,kf 2,kf 3,kf 4,kf 5,kf 6,kf 7,kf 8,kf 9,kf 10,kf 11,kf 12,kf 13,kf 14,kf 15,kf 16,kf 17,kf 18,kf 19,kf 20,kf 21,kf 22,kf 23,kf 24,kf 25,kf 26,kf 27,kf 28,kf 29,kf 30,kf 31] j=k2 j)/\Vp k)/\∀d:Nat,
 Mr k s/\(dc m+8=dc m+8/\dc m+8+d=dc m+8+d/\lg=lg)/\nO k/\Vo k s F (dc m+8) (gB k2 l (dc m) (mS m))/\Eo (fr:=bO) (k:=k) (fM C (bQ s) l 0 (dc m+8) (gB k2 l (dc m) (mS m))) λs' r fn F0=>
  Nn k s' r (fn++fB) l λa=>K (.an [r.v s' 4,.agg (ia a)]) (cP k (cE s')++[r.sB s',r.rB s']) [.aZ u,.core (a_ k (cE s') F0) (fn++fB)]
theorem auF:bo (tv prog gS (Nm C) uW xp λ_ _=>none) 60 18 [.ptr 2 0,.agg (ints 32 kf),.int .i64 l,.agg (cI m)] (cP k s) [.aZ u,.core (a_ k s F) fB] (br 4 K)=syX C k s F u fB kf l m K:=by kernel_rfl
end
def No (C:Sd.aL):List (bK (LG bO)):=[⟨16,true,zG 8 jR⟩,⟨37,true,zG 32 iz⟩,⟨24,false,Nh C⟩,⟨19,true,B7⟩,⟨36,true,En⟩]
theorem ady:aC prog gS (No (aJ aH)):=aC.cons ⟨atJ,λ_=>adi⟩ (aC.cons ⟨atK,λ_=>adi⟩ (aC.cons ⟨adn Eh,λe=>by cases e⟩ (aC.cons ⟨Vi,λ_=>Vm⟩ (aC.cons ⟨adv,λ_=>adw⟩ aC.nil))))
def tz (wr:Bool) (n:Nat) (f:Sd.av) (us:List ab):VB:=⟨wr,⟨5,(0,0)⟩,[.bJ .u8 n f,.rest us]⟩
def Ir (r:Int):Int:=u8.wrap (bits .and .i64 r 255)
def Vq (k:LK) (n c:Nat) (l r:Int) (a:Sd.aE) (nc:Nat->Int):Prop:=(n=n/\n<=c/\n<=64)/\(0<=l/\l<4294967296)/\(0<=r/\r<4294967296)/\8=8/\(∀j,j<8->da [a.aw 0,a.aw 1,a.aw 2,a.aw 3,a.aw 4,a.aw 5,a.aw 6,a.aw 7] j=nc j)/\Vp k
section
variable(C:Sd.aL) (k:LK) (s:Sd.aa) (F:aW bO (aR k s)) (u:ae) (fB:List ai) (wr:Bool) (n:Nat) (f:Sd.av) (us:List ab) (c:Nat) (l r:Int) (K:VK (LG bO))
def Vr:Prop:=
 let B (s':Sd.aa):=cP k (cE s')++[tz wr n f us]
 Mr k s/\(2=2/\2+0=2/\lg=lg)/\nO k/\Vo k s F 2 (f2 1 (Ir r))/\Eo (fr:=bO) (k:=k) (fM C (bQ s) l 0 2 (f2 1 (Ir r))) λs1 r1 Ep F1=>Nn k s1 r1 (Ep++fB) l λa=>
  cond (a.kind !=129) (let Z:=K (.an [.agg (ints 32 lg),.agg (ia a)]) (B s1) [.aZ u,.core (a_ k (cE s1) F1) (Ep++fB)];Z/\Z)
   (∃nc:Nat->Int,Vq k n c l r a nc/\∀d:Nat,Mr k (cE s1)/\(10=10/\10+d=10+d/\lg=lg)/\nO k/\Vo k (cE s1) F1 10 (uX (Ir r) (jR n f l r nc))/\Eo (fr:=bO) (k:=k) (fM C (bQ (cE s1)) l 0 10 (uX (Ir r) (jR n f l r nc))) λs2 r2 Is F2=>
    ∃nc:Nat->Int,Vq k n c l r a nc/\Nn k s2 r2 (Is++(Ep++fB)) l λb=>K (.an [.agg (ints 32 (iz n f l r nc)),.agg (ia b)]) (B s2) [.aZ u,.core (a_ k (cE s2) F2) (Is++(Ep++fB))])
theorem auG:bo (tv prog gS (No C) uW xp λ_ _=>none) 60 13 [.ptr 2 0,.sl 4 0 n c,.int .i64 l,.int .i64 r] (cP k s++[tz wr n f us]) [.aZ u,.core (a_ k s F) fB] (br 5 K)=Vr C k s F u fB wr n f us c l r K:=by kernel_rfl
end
end
end Go.Proofs.YtggfpcggakghnaaGreatDoor
namespace Sd
def adz (l:List Rec):Int:=l.foldl (λa r=>if r.kind=8 then a+1 else a) 0
def adA (l:List Rec):Int:=l.foldl (λa r=>if r.kind=8 then r.how else a) 0
structure Wn where
 p:aN
 xh:Int
 xe:Int
 xo:Int
 auH:Bool
 n:Nat
 q:Nat->Int
 yh:Int
 ye:Int
 yo:Int
 auI:Bool
 on:Int->Bool
 l:List Rec
 kind:Int
 link:Int
def auJ (w:Wn) (how:Int):Prop:=
 (how=1/\w.kind=0/\w.xo=w.yh/\w.link=w.yh)\/
 (how=2/\w.kind<2/\0<w.n/\w.q 0=w.yh/\(w.kind=1↔w.xh=0))\/
 (how=3/\w.kind=0/\w.link=w.yh/\fw w.p w.yh w.xh=true/\w.auH=false)\/
 (how=4/\w.kind=1/\w.yh=0)\/
 (how=5/\w.kind=3/\w.on w.xh=false/\w.on w.yh=true)\/
 (how=6/\w.yh=4/\((w.kind=2/\w.auI=true)\/(w.kind=3/\w.xe=65535/\w.on w.xh=false)))
structure awC (w:Wn):Prop where
 hx:0<=w.xh/\w.xh<=4
 hy:0<=w.yh/\w.yh<=4
 ex:0<=w.xe/\w.xe<=65535
 kd:0<=w.kind/\w.kind<=3
 len:w.l.length<=1000
 awD:∀j,j<w.l.length->(w.l.getD j default).kind=8->(w.l.getD j default).source=w.yh/\(w.l.getD j default).af=w.ye
 how:(w.yh=w.xh/\w.ye=w.xe/\adz w.l=0)\/(w.yh≠w.xh/\adz w.l=1/\w.yo=-1/\((w.ye=w.xe+1)\/(w.xe=65535/\w.ye=w.xe/\adA w.l=6))/\auJ w (adA w.l))
theorem uu.link {a b:Core} {k l l' how:Int} (h:uu a b k l how) (hk:k≠0):uu a b k l' how:=by
 unfold uu at h⊢;rcases h with h|h|h|h|h|h
 ·exact absurd h.2.1 hk
 ·exact .inr (.inl h)
 ·exact absurd h.2.1 hk
 ·exact .inr (.inr (.inr (.inl h)))
 ·exact .inr (.inr (.inr (.inr (.inl h))))
 ·exact .inr (.inr (.inr (.inr (.inr h))))
theorem fb.link {C:aL} {b:Prop} {s s':aa} {k l l':Int} (h:fb C b s s' k l) (hk:k≠0):fb C b s s' k l':=
 ⟨h.inv,h.A5.imp id λ⟨how,g,w⟩=>⟨how,g,w.link hk⟩⟩
structure awE (C:aL) (s s':aa):Prop where
 head:s'.c.head=s'.bA.foldl C.next s.c.head
 lo:∀r∈s'.bA,s.c.t.af<=r.af
 hi:∀r∈s'.bA,r.af<=s'.c.t.af
 up:s'.bA.Pairwise λa b=>a.af<=b.af
 ep:s.c.t.af<=s'.c.t.af
def Vs (k:Int):Bool:=k==129||(k==130||(k==131||k==132))
theorem auK {k:Int} (h:132<k):Vs k=false:=by
 unfold Vs;simp only[Bool.or_eq_false_iff,beq_eq_false_iff_ne];omega
inductive adB (s':aa) (l:Int):Prop
 |no (h1:0<s'.bA.length) (h2:(s'.bA.getD 0 default).kind=1) (h3:s'.bh=[])
 |yes (h1:(s'.bA.getD 0 default).kind≠1\/s'.bA=[]) (xs ys:List (Int×aE)) (r:aE) (h2:s'.bh=xs++(l,r)::ys) (h3:129<=r.kind/\r.kind<=132) (h4:∀x∈xs++ys,132<x.2.kind)
theorem adB.link {s':aa} {l:Int} (h:adB s' l) {x:Int×aE} (hx:x∈s'.bh) (ha:Vs x.2.kind=true):x.1=l:=by
 cases h with
 |no h1 h2 h3=>rw[h3]at hx;cases hx
 |yes h1 xs ys r h2 h3 h4=>
  rw[h2]at hx;have no:∀y,y∈xs++ys->y=x->False:=λy hy e=>by rw[<-e,auK (h4 y hy)]at ha;cases ha
  rcases eJ.1 hx with hx|hx
  ·exact(no x (oU _ hx) rfl).elim
  ·rcases ca.1 hx with rfl|hx
   ·rfl
   ·exact(no x (tH _ hx) rfl).elim
theorem fb.auL {C:aL} {b:Prop} {s s':aa} {k l:Int} (h:fb C b s s' k l) (hs:s.bh=[]):∀x∈s'.bh,rJ x:=by
 rcases h.A5 with q|⟨how,g,w⟩
 ·obtain⟨ts,t1,t2⟩:=q.bh;rw[hs,fl]at t1;rw[t1];exact t2
 ·obtain⟨ts,t1,t2⟩:=g.bh;rw[hs,fl]at t1;rw[t1];exact t2
end Sd
