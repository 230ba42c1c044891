/- Part 2 of the proof. -/
import Derived.Test.YtddcipamdggcnaaGreatDoorProg
import Derived.Test.YtddcipamdggcnaaGreatDoorM1
set_option linter.all false
set_option maxRecDepth 100000
set_option maxHeartbeats 4000000
noncomputable section
open Go.Proofs.Tryz
open Go.IntKind (u8 u16 u32 u64 i64)
open Array renaming ext'->fD,length_toList->wF
open BitVec renaming toNat_ofInt->Ku,ofInt->pP
open Bool renaming or_eq_true->Dz,true->af,false->ag,and_eq_true->bD
open Go renaming Program->aG,Addr->aI,TypeId->aM,Value->ai,World->aj,Oper->aw,Operand->bg,Exit->dE,run_underlying->dw,IntKind->fH,FuncId->fl,wp_ret->gC,wp_skip->kQ,wp_block->kx,heap_alloc_new->n6
open Go.Addr renaming add_lit->iK
open Go.Instr renaming makeSlice->KE
open Go.IntKind renaming wrap_u64->Bm,bits->vj,signed->vm,wrap->zo
open Go.IntWalk renaming i64_in->Bj,u64_in->wM
open Go.Oper renaming wp->qK
open Go.Region renaming wanted->gk
open Go.Result renaming andThen_ok->ct
open Go.Sem renaming run_bind->bz,run_pure->cZ
open Go.Value renaming bool->DD,int->fI
open Go.World renaming cell?->zl
open Int renaming natCast_nonneg->Bg,le_trans->DE,negSucc_lt_zero->KG,ofNat->dG,fdiv->kP,toNat_natCast->vn
open List renaming any_eq_true->A9,mem_filter->A_,pairwise_cons->Be,length_filter_le->KH,append_assoc->bW,range->bo,mem_cons->cF,append_nil->cT,mem_append->eI,length_append->fL,map_cons->gb,getD->gd,getElem?_append_left->gm,getElem?_toArray->jX,mem_singleton->jZ,length_cons->jf,perm_middle->kH,map_map->l5,mem_map->n8,getElem?_range->pQ,mem_append_left->pS,mem_cons_of_mem->qQ,range_succ_eq_map->tZ,mem_cons_self->vi,singleton_append->wJ
open List.Mem renaming head->DB
open List.cons renaming inj->wI
open Nat renaming lt_of_lt_of_le->PJ,le_add_right->YI,beq->aA,ble->bZ,lt_or_ge->c9,le_refl->cY,eq_of_beq_eq_true->ck,zero_add->dS,blt->db,le_of_ble_eq_true->eO,le_trans->ia,zero_le->oQ,eq_zero_or_pos->tU
open Option renaming some->aa,none->ae,map_eq_some_iff->iX
open Option.some renaming injEq->aW
open Prod.mk renaming injEq->bC
namespace Go.Proofs.YtddcipamdggcnaaGreatDoor
section
open Go Go.RowKit Go.BigFrame Sx
def ED (f:Nat->Int) (x:Int):Nat->Nat->Int
 |0=>λ_=>0
 |k+1=>oW (ED f x k) k (bits .xor .u8 (f k) x)
def jN (f:Nat->Int) (x:Int):Nat->Int:=λj=>bits .xor .u8 (f j) x
def aaV (f:Nat->Int) (x:Int):∀(k j:Nat),j<k->ED f x k j=jN f x j
 |k+1,j,h=>by
  by_cases e:j=k
  ·subst e;exact Zh _ _ _
  ·exact(Qq _ _ e).trans (aaV f x k j oM)
def aiA (f:Nat->Int) (x:Int):aD .u8 64 (ED f x 64)=aD .u8 64 (jN f x):=agL _ λi h=>aaV f x 64 i h
def aiB {f:Nat->Int} {x:Int} (i:Int) (W:Nat->Int) (h:0<=i) (e:W=ED f x i.toNat):oW W (0+i.toNat*1) (bits .xor .u8 (f i.toNat) x)=ED f x (i+1).toNat:=by
 have h1:(i+1).toNat=i.toNat+1:=oM;rw[h1,e,dS,Nat.mul_one];rfl
def aaW {n m c:Nat} {f g:Nat->Int} (e:n=m) (h:∀i,i<m->f i=g i):bE n f c=bE m g c:=by
 subst e;unfold bE;rw[DX h]
def k8 (n1 n2:Nat) (f g h:Nat->Int):Nat->Int:=cx (n1+n2) (cx n1 f g) h
def HC (n1 n2 n3:Nat) (f g h k:Nat->Int):Nat->Int:=cx (n1+n2+n3) (cx (n1+n2) (cx n1 f g) h) k
def aaX (f:Nat->Int) (y:Int) (w:aj):
 aX prog 243 #[.agg (aD .u8 64 f),.int .u8 y] w λv w1=>∃b,v=.slice (aa ⟨b,0,ae⟩) 64 64/\w.heap.size<=b/\w1.heap[b]?=aa (.cells (aD .u8 64 (jN f y)) 5 (0,0))/\Ch [] w w1:=by
 have S0:=St.nil [] w;refine iZ Tryz.func243 rfl ?_;refine aR (aZ ?_);refine fc S0 (λb=>.pointer (aa ⟨b,0,ae⟩)) (.cells (aD .u8 64 f) 156) ?_;intro bN jd dV;refine av (.slice ae 0 0) ?_;refine aT (aQ (aR (aZ ?_)));refine fc dV (λb=>.slice (aa ⟨b,0,ae⟩) 64 64) (.cells (aD .u8 64 (λ_=>0)) 5) ?_;intro dJ nI dr;refine fp ?_;refine aT (aQ (aR (aR (aZ ?_))));refine kS dr 1 64 (aD .u8 64 f) bN 0 ?_;refine av (.int .i64 0) ?_;refine aT (aQ (kx ?_));refine K9 (λzn za zw=>∃(i:Int) (W:Nat->Int) (rD:Nat->ai),(zn=(64-i).toNat/\0<=i/\i<=64/\W=ED f y i.toNat)/\za=⟨#[.agg (aD .u8 64 f),.int .u8 y,.pointer (aa ⟨bN,0,ae⟩),undef,.slice ae 0 0,.slice (aa ⟨dJ,0,ae⟩) 64 64,(rD 6),(rD 7),.slice (aa ⟨dJ,0,ae⟩) 64 64,.agg (aD .u8 64 f),.int .i64 i,(rD 11),(rD 12),(rD 13),(rD 14),(rD 15),(rD 16),(rD 17),(rD 18),(rD 19),(rD 20),undef],[]⟩/\St [] w [⟨dJ,af,.cells (aD .u8 64 W) 5 (0,0)⟩,⟨bN,af,.cells (aD .u8 64 f) 156 (0,0)⟩] zw) _ (λzy nJ=>⟨(0:Int),(λ_=>0),(λd=>zy.tmps.getD d undef),⟨rfl,oM,oM,rfl⟩,by subst nJ;kernel_rfl,dr.re (R:=([]:List ao)) [[⟨dJ,af,.cells (aD .u8 64 (λ_=>0)) 5 (0,0)⟩],[⟨bN,af,.cells (aD .u8 64 f) 156 (0,0)⟩]] [0,1]⟩) ?_;rintro _ _ aaY ⟨i,W,rD,⟨rfl,zf8,zf9,aaZ⟩,rfl,rG⟩;refine aR (aZ ?_);refine av (.bool (decide (i<64))) ?_;refine aT (aQ (aR ?_));refine pT (decide (i<64)) ?_ ?_
 ·intro oB;have vP:=Bu oB;refine kQ (aQ (aR (kx (aR (aZ ?_)))));refine av (.int .i64 i) ?_;refine agN (e:=5) .u8 64 f .i64 i oM oM ?_;refine av (.int .i64 i) ?_;refine av (.int .u8 (f (i).toNat)) ?_;refine aT (aQ (aZ ?_));refine dh ?_;refine av (.int .i64 i) ?_;refine av (.int .u8 (f (i).toNat)) ?_;refine av (.int .u8 y) ?_;refine av (.int .u8 (bits .xor .u8 (f (i).toNat) y)) ?_;refine sR (e:=5) dJ 0 (i).toNat 64 1 64 .i64 i oM oM rfl ?_;refine store_ rG 0 (.int .u8 (bits .xor .u8 (f (i).toNat) y)) dJ (0+(i).toNat*1) ?_ (hb:=ckF (t:=5) (kd:=.u8) (n:=64) (f:=W) oM);intro EE rH;have te:St [] w [⟨dJ,af,.cells (aD .u8 64 (oW W (0+(i).toNat*1) (bits .xor .u8 (f (i).toNat) y))) 5 (0,0)⟩,⟨bN,af,.cells (aD .u8 64 f) 156 (0,0)⟩] EE:=St.stF (t:=5) (kd:=.u8) (n:=64) (f:=W) (i:=0) (off:=(0+(i).toNat*1)) (b:=dJ) rH oM;refine aT (mH (aQ (aZ ?_)));refine l6 .i64 (i+1) (Bj _ oM) ?_;refine av (.int .i64 (i+1)) ?_;refine aT ?_;refine GP λzy nJ=>?_;exact⟨_,oM,(i+1),(oW W (0+(i).toNat*1) (bits .xor .u8 (f (i).toNat) y)),(λd=>zy.tmps.getD d undef),⟨rfl,oM,oM,aiB i W oM aaZ⟩,by subst nJ;kernel_rfl,te.re (R:=([]:List ao)) [[⟨dJ,af,.cells (aD .u8 64 (oW W (0+(i).toNat*1) (bits .xor .u8 (f (i).toNat) y))) 5 (0,0)⟩],[⟨bN,af,.cells (aD .u8 64 f) 156 (0,0)⟩]] [0,1]⟩
 intro HD;have Ak:=Bv HD;refine wp_exit (mG (mG (wP (aQ (aR (aZ ?_))))));refine dh ?_;refine fp ?_;refine aT (aQ (gC ?_));refine gD rfl (fR [.tmp 4] [.slice (aa ⟨dJ,0,ae⟩) 64 64] (.slice (aa ⟨dJ,0,ae⟩) 64 64) ⟨jw,trivial⟩) ?_;have ze:aD .u8 64 W=aD .u8 64 (jN f y):=by rw[aaZ,show i.toNat=64 by omega];exact aiA f y
 exact⟨dJ,rfl,(rG.own 0 _ rfl rfl).resolve_left sP,by rw[<-ze];exact rG.at_ 0 _ rfl,rG.ch⟩
def aa0 (pb:Nat) (b0 o0 n0 c0:Nat) (f0:Nat->Int) (b1 o1 n1 c1:Nat) (f1:Nat->Int) (h0:0<n0) (hn:n0+n1<=1000000) (w:aj) (hp:w.heap[pb]?=aa (.cells #[.slice (aa ⟨b0,o0,ae⟩) n0 c0,.slice (aa ⟨b1,o1,ae⟩) n1 c1] 23 (0,0))) (Cf:cA w b0 o0 n0 f0) (xJ:cA w b1 o1 n1 f1):
 aX prog 242 #[.slice (aa ⟨pb,0,ae⟩) 2 2] w λv w1=>∃b c1,v=.slice (aa ⟨b,0,ae⟩) (n0+n1) c1/\n0+n1<=c1/\w.heap.size<=b/\w1.heap[b]?=aa (.cells (bE (n0+n1) (cx n0 f0 f1) c1) 5 (0,0))/\Ch [] w w1:=by
 have S0:=St.given (w:=w) [(pb,.cells #[.slice (aa ⟨b0,o0,ae⟩) n0 c0,.slice (aa ⟨b1,o1,ae⟩) n1 c1] 23 (0,0))] (all_cons hp (all_nil));refine iZ Tryz.func242 rfl ?_;refine aR (aZ ?_);refine av (.slice ae 0 0) ?_;refine aT (aQ (aR (aZ ?_)));refine av (.slice ae 0 0) ?_;refine aT (aQ (aR (aR (aZ ?_))));refine dh ?_;refine av (.int .i64 2) ?_;refine av (.int .i64 0) ?_;refine aT (aQ (kx (Gw 24 (aR (aZ ?_)))));refine av (.bool af) ?_;refine aT (aQ (aR (wR ?_)));refine kQ (aQ (aR (kx (aR (aZ ?_)))));refine av (.pointer (aa ⟨pb,0,ae⟩)) ?_;refine mF S0 0 (.slice (aa ⟨b0,o0,ae⟩) n0 c0) pb 0 ?_;refine fp ?_;refine aT (aQ (aZ ?_));refine av (.slice ae 0 0) ?_;refine dh ?_;have zS7:St [] w ([⟨pb,ag,.cells #[.slice (aa ⟨b0,o0,ae⟩) n0 c0,.slice (aa ⟨b1,o1,ae⟩) n1 c1] 23 (0,0)⟩]++([]:List ao)) w:=S0.re (R:=([]:List ao)) [[⟨pb,ag,.cells #[.slice (aa ⟨b0,o0,ae⟩) n0 c0,.slice (aa ⟨b1,o1,ae⟩) n1 c1] 23 (0,0)⟩]] [0];have Cg:St [] w ([⟨pb,ag,.cells #[.slice (aa ⟨b0,o0,ae⟩) n0 c0,.slice (aa ⟨b1,o1,ae⟩) n1 c1] 23 (0,0)⟩]++([]++([]:List ao))) w:=zS7.conv kR;refine Qx (n:=0) (c:=0) (f:=(λ_=>0)) (g:=f0) (xv:=.slice (aa ⟨b0,o0,ae⟩) n0 c0) Cg (Qv 5) (BF (e':=5) (St.mP S0 Cf sP)) oM ?_;intro zx2 Si zq1 nI Sj dr;have aiC:=GU Sj oM;obtain⟨zb9,xK,mg,k9⟩:=aiC;subst mg;subst k9;refine fp ?_;refine aT (mH (aQ (aZ ?_)));refine av (.int .i64 1) ?_;refine av (.int .i64 1) ?_;refine aT (wQ (aR (aZ ?_)));refine av (.bool af) ?_;refine aT (aQ (aR (wR ?_)));refine kQ (aQ (aR (kx (aR (aZ ?_)))));refine av (.pointer (aa ⟨pb,1,ae⟩)) ?_;refine mF dr 0 (.slice (aa ⟨b1,o1,ae⟩) n1 c1) pb 1 ?_;refine fp ?_;refine aT (aQ (aZ ?_));refine dh ?_;refine dh ?_;have tf:St [] w ([⟨pb,ag,.cells #[.slice (aa ⟨b0,o0,ae⟩) n0 c0,.slice (aa ⟨b1,o1,ae⟩) n1 c1] 23 (0,0)⟩]++([⟨zb9,af,.cells (bE (0+n0) (cx 0 (λ_=>0) f0) Si) 5 (0,0)⟩]++([]:List ao))) nI:=dr.re (R:=([]:List ao)) [[⟨pb,ag,.cells #[.slice (aa ⟨b0,o0,ae⟩) n0 c0,.slice (aa ⟨b1,o1,ae⟩) n1 c1] 23 (0,0)⟩],[⟨zb9,af,.cells (bE (0+n0) (cx 0 (λ_=>0) f0) Si) 5 (0,0)⟩]] [0,1];refine Qx (n:=(0+n0)) (c:=Si) (f:=(cx 0 (λ_=>0) f0)) (g:=f1) (xv:=.slice (aa ⟨b1,o1,ae⟩) n1 c1) tf ⟨xK,.inr ⟨_,rfl,rfl⟩⟩ (BF (e':=5) (St.mP dr xJ sP)) oM ?_;intro axW lM axX Ci EF rI;have aiD:=GU EF oM;obtain⟨xL,uD,HE,tj⟩:=aiD;subst HE;subst tj;refine fp ?_;refine aT (mH (aQ (aZ ?_)));refine av (.int .i64 2) ?_;refine av (.int .i64 2) ?_;refine aT (wQ (aR (aZ ?_)));refine av (.bool ag) ?_;refine aT (aQ (aR (qT ?_)));refine wp_exit (mG (mG (wP (aQ (aR (aZ ?_))))));refine dh ?_;refine fp ?_;refine aT (aQ (gC ?_));refine gD rfl (fR [.tmp 2] [.slice (aa ⟨xL,0,ae⟩) ((0+n0)+n1) lM] (.slice (aa ⟨xL,0,ae⟩) ((0+n0)+n1) lM) ⟨jw,trivial⟩) ?_;have ze:bE ((0+n0)+n1) (cx (0+n0) (cx 0 (λ_=>0) f0) f1) lM=bE (n0+n1) (cx n0 f0 f1) lM:=aaW oM λi hi=>by simp only[agR,k8,HC,dS]
 exact⟨xL,lM,by rw[show((0+n0)+n1)=n0+n1 by omega],by have:=uD;omega,(rI.own 1 _ rfl rfl).resolve_left sP,by rw[<-ze];exact rI.at_ 1 _ rfl,rI.ch⟩
def iF (kn:Nat) (kf:Nat->Int) (n:Nat) (d:Nat->Int):Nat->Int:=kK (64+32) (cx 64 (jN (ee (λ_=>0) 0 kn kf) 92) (kK (64+n) (cx 64 (jN (ee (λ_=>0) 0 kn kf) 54) d)))
def DL (f g:Nat->Int):Nat->Int
 |0=>0
 |k+1=>bits .or .u8 (DL f g k) (bits .xor .u8 (f k) (g k))
def aiE {f g:Nat->Int} (i s:Int) (h:0<=i) (e:s=DL f g i.toNat):bits .or .u8 s (bits .xor .u8 (f i.toNat) (g i.toNat))=DL f g (i+1).toNat:=by
 have h1:(i+1).toNat=i.toNat+1:=oM;rw[h1,e];rfl
def tn (n:Nat) (f g:Nat->Int):Bool:=DL f g n==0
def Al (ka:Option aI) (kn:Nat):Prop:=(0<kn\/∃x,ka=aa x)/\kn<=64
def Al.so {ka:Option aI} {kn kc:Nat} {kf:Nat->Int} {w:aj} (h:Al ka kn) (hk:dM w ka kn kc kf):∃x,ka=Option.some x:=by
 rcases h.1 with h1|h1
 ·exact hk.Zn h1
 ·exact h1
def Al.of {ka:Option aI} {kn:Nat} (h:1<=kn/\kn<=64):Al ka kn:=⟨.inl h.1,h.2⟩
def aiF {P:aG} {ops:Array aw} {rest:List aw} {o:aw} {a:Act} {w w0:aj} {ms:List Nat} {bs:List ao} {Q:dE->Act->aj->Prop} (S:St ms w0 bs w) (i:Nat) (b N off n c:Nat) (f:Nat->Int) (ka:Option aI) (m sc:Nat) (g:Nat->Int) {t:aM} {s x:bg} {tt tx elem:aM} (h8:dM w ka m sc g) (h1:∃x,ka=aa x) (hm:m<=n) (hn:off+m<=N)
 (hb:bs[i]?=aa ⟨b,af,.cells (aD .u8 N f) t (0,0)⟩) {bs':List ao} (h2:bs.set i ⟨b,af,.cells (aD .u8 N (ee f off m g)) t (0,0)⟩=bs')
 (k:∀w',St ms w0 bs' w'->WL P ops Q rest (a.put o.dst (.int .i64 m)) w')
 (hw:gk o (yielded ops a.tmps)=af:=by kernel_rfl) (ho:o.op=.call ⟨.builtin .copy,#[s,x],#[tt,tx]⟩:=by rfl) (hs:a.eval s=.slice (aa ⟨b,off,ae⟩) n c:=by kernel_rfl) (hx:a.eval x=.slice ka m sc:=by kernel_rfl)
 (hu:P.underlying tt=aa (.slice elem):=by kernel_rfl) (hz:(P.info? elem).map (·.size)=aa 1:=by kernel_rfl):WL P ops Q (o::rest) a w:=
 WL.want hw λK hK=>by
  obtain⟨x0,rfl⟩:=h1;have aS:=S.at_ i _ hb;have GS:Nat.min m n=m:=Nat.min_eq_left hm;have bT:=run_copy_row (P:=P) w tt tx o.type elem b off n c x0 m sc (aD .u8 N f) t (cI m g) hu hz aS (by rw[gf,GS]) (λj v hj=>by
   obtain⟨h1,rfl⟩:=BE hj;exact h8.2.2.2 x0 rfl j h1) (by rw[gf,GO];exact hn) GQ
  unfold qK;rw[La ho hs hx bT];rw[gf];have he:(goInt m:ai)=.int .i64 m:=rfl;rw[he];refine hK _ _ (k _ ?_);have hS:=S.step hb rfl (Ch.setRow w b _) (setRow_heap w b (aD .u8 N f) ((aD .u8 N f).toList.take off++cI m g++(aD .u8 N f).toList.drop (off+m)).toArray t (0,0) aS);have e2:((aD .u8 N f).toList.take off++cI m g++(aD .u8 N f).toList.drop (off+m)).toArray=aD .u8 N (ee f off m g):=Qs .u8 f hn g;rw[e2,h2]at hS;rw[e2];exact hS
def vQ (ka:Option aI) (kn kc:Nat) (kf:Nat->Int) (b o n c:Nat) (d:Nat->Int) (lN:Al ka kn) (hn:n<=55) {tG:aM} (w:aj) (hG:w.heap[0]?=aa (.cells (aD .u32 64 c_) tG (0,0))) (hk:dM w ka kn kc kf) (hB:cA w b o n d):
 aX prog 214 #[.slice ka kn kc,.slice (aa ⟨b,o,ae⟩) n c] w λv w1=>v=.agg (aD .u8 32 (iF kn kf n d))/\Ch [] w w1:=by
 have S0:=St.given (w:=w) [(0,.cells (aD .u32 64 c_) tG (0,0))] (all_cons hG (all_nil));refine iZ Tryz.func214 rfl ?_;refine aR (aZ ?_);refine fc S0 (λb=>.pointer (aa ⟨b,0,ae⟩)) (.cells (aD .u8 32 (λ_=>0)) 46) ?_;intro bN jd dV;refine aT (aQ (aR (aZ ?_)));refine fc dV (λb=>.pointer (aa ⟨b,0,ae⟩)) (.cells (aD .u8 64 (λ_=>0)) 156) ?_;intro dJ nI dr;refine aT (aQ (aR (aR (aZ ?_))));refine av (.slice ka kn kc) ?_;refine av (.int .i64 ((kn:Nat):Int)) ?_;refine nj (.bool (decide (64<((kn:Nat):Int)))) (.bool ag) (congrArg DD (PY (by have:=lN.2;omega))) ?_;refine aT (aQ (qT ?_));refine aZ ?_;refine av (.slice (aa ⟨dJ,0,ae⟩) 64 64) ?_;refine av (.slice ka kn kc) ?_;have hks:=lN.so hk;have axY:kn<=64:=lN.2;refine aiF (elem:=5) (t:=156) dr 0 dJ 64 0 64 64 (λ_=>0) ka kn kc kf (dM.quiet hk dr.ch) hks oM oM kR (by kernel_rfl:_=[⟨dJ,af,.cells (aD .u8 64 (ee (λ_=>0) 0 kn kf)) 156 (0,0)⟩,⟨bN,af,.cells (aD .u8 32 (λ_=>0)) 46 (0,0)⟩,⟨0,ag,.cells (aD .u32 64 c_) tG (0,0)⟩]) ?_;intro EG Cg;refine aT (aQ (aR (aZ ?_)));refine kS Cg 0 64 (aD .u8 64 (ee (λ_=>0) 0 kn kf)) dJ 0 ?_;refine fY 243 #[.agg (aD .u8 64 (ee (λ_=>0) 0 kn kf)),.int .u8 54] ?_;refine(aaX (ee (λ_=>0) 0 kn kf) 54 _).mono ?_;rintro _ zw9 ⟨Ml,rfl,oB,vP,mg⟩;have Am:=Cg.new mg oB vP;refine dh ?_;refine fc Am (λb=>.slice (aa ⟨b,0,ae⟩) 2 2) (.cells #[.slice (aa ⟨Ml,0,ae⟩) 64 64,.slice (aa ⟨b,o,ae⟩) n c] 23) ?_;intro nK aa1 te;refine fY 242 #[.slice (aa ⟨nK,0,ae⟩) 2 2] ?_;refine(aa0 nK Ml 0 64 64 (jN (ee (λ_=>0) 0 kn kf) 54) b o n c d oM oM _ (te.at_ 0 _ rfl) (St.eQ (N:=64) (f:=(jN (ee (λ_=>0) 0 kn kf) 54)) (wr:=af) (t:=5) (fr:=(0,0)) te 1) (St.mP te hB sP)).mono ?_;rintro _ Ci ⟨xL,Cj,rfl,tj,uD,HF,Ak⟩;have tf:=te.new Ak uD HF;refine fY 44 #[.slice (aa ⟨xL,0,ae⟩) (64+n) Cj] ?_;refine(Sh xL 0 (64+n) Cj (cx 64 (jN (ee (λ_=>0) 0 kn kf) 54) d) oM _ (tf.at_ 5 _ rfl) (St.BG (c:=Cj) (wr:=af) (t:=5) (fr:=(0,0)) tf 0)).mono ?_;rintro _ aa2 ⟨rfl,k_⟩;have HG:=tf.quiet k_;refine fc HG (λb=>.pointer (aa ⟨b,0,ae⟩)) (.cells (aD .u8 32 (λ_=>0)) 46) ?_;intro EH Mm Sk;refine store_ Sk 0 (.agg (aD .u8 32 (kK (64+n) (cx 64 (jN (ee (λ_=>0) 0 kn kf) 54) d)))) EH 0 ?_;intro aiG xM;refine aT (aQ (aR ?_));refine BB 3 [⟨0,λ_=>.agg (aD .u8 64 (ee (λ_=>0) 0 kn kf)),λ_=>[]⟩,⟨1,λids=>.slice (aa ⟨(ids.getD 0 0),0,ae⟩) 64 64,λids=>[((ids.getD 0 0),.cells (aD .u8 64 (jN (ee (λ_=>0) 0 kn kf) 92)) 5 (0,0))]⟩,⟨0,λ_=>.slice (aa ⟨EH,0,ae⟩) 32 32,λ_=>[]⟩] [[3,1,0],[3,1],[3,2],[4,1,0],[4,1],[4,3,2],[4,3],[5,4,1,0],[5,4,1],[5,4,3,2],[5,4,3],[5,4],[6,0],[6,1],[6,2],[6,3],[6,4],[6,5]] ?_ ?_
 ·refine step_cons (GI xM 4 dJ 0 64 (aD .u8 64 (ee (λ_=>0) 0 kn kf))) ?_;refine step_cons ?_ ?_
  ·intro aiH axZ aa3 ax0 aiI;have uE:aiH 25=.agg (aD .u8 64 (ee (λ_=>0) 0 kn kf)):=(Sp.dT (aiI 0 25 kR kR)).1;have aiJ:=xM.quiet aa3;refine qY ?_;refine nq [(25,.agg (aD .u8 64 (ee (λ_=>0) 0 kn kf)))] (nr uE (qW)) ?_;have aiK:=aiJ.loc;refine Y.fY 243 #[.agg (aD .u8 64 (ee (λ_=>0) 0 kn kf)),.int .u8 92] ?_;refine(aaX (ee (λ_=>0) 0 kn kf) 92 _).mono ?_;rintro _ ax1 ⟨aiL,rfl,aiM,Sl,HH⟩;have aa4:=aiK.new HH aiM Sl;exact⟨aa4.ch,Sp.qX [aiL] (all_cons (aa4.wY aa3.size 0 kR) (all_nil))⟩
  refine step_cons ja ?_;exact BA
 intro Sn aa5 aiN So;have EI:Sn 0=.agg (aD .u8 64 (ee (λ_=>0) 0 kn kf)):=(Sp.dT (So 0 kR)).1;have Sr:=Sp.wW (So 1 kR);obtain⟨mh,Ss,Su⟩:=Sr;have Sv:Sn 1=.slice (aa ⟨mh,0,ae⟩) 64 64:=Ss;have Sw:∀zp∈([(mh,.cells (aD .u8 64 (jN (ee (λ_=>0) 0 kn kf) 92)) 5 (0,0))]:List (Nat×Obj)),aiG.heap.size<=zp.1/\aa5.heap[zp.1]?=aa zp.2:=Su;have Sz:Sn 2=.slice (aa ⟨EH,0,ae⟩) 32 32:=(Sp.dT (So 2 kR)).1;have Mn:=xM.ro aiN ([(mh,.cells (aD .u8 64 (jN (ee (λ_=>0) 0 kn kf) 92)) 5 (0,0))]) (Sw);refine⟨[.agg (aD .u8 64 (ee (λ_=>0) 0 kn kf)),.slice (aa ⟨mh,0,ae⟩) 64 64,.slice (aa ⟨EH,0,ae⟩) 32 32],kR,eA EI (eA Sv (eA Sz (DO))),?_⟩;refine fc Mn (λb=>.slice (aa ⟨b,0,ae⟩) 2 2) (.cells #[.slice (aa ⟨mh,0,ae⟩) 64 64,.slice (aa ⟨EH,0,ae⟩) 32 32] 23) ?_;intro xN aiO Mo;refine fY 242 #[.slice (aa ⟨xN,0,ae⟩) 2 2] ?_;refine(aa0 xN mh 0 64 64 (jN (ee (λ_=>0) 0 kn kf) 92) EH 0 32 32 (kK (64+n) (cx 64 (jN (ee (λ_=>0) 0 kn kf) 54) d)) oM oM _ (Mo.at_ 0 _ rfl) (St.eQ (N:=64) (f:=(jN (ee (λ_=>0) 0 kn kf) 92)) (wr:=ag) (t:=5) (fr:=(0,0)) Mo 1) (St.eQ (N:=32) (f:=(kK (64+n) (cx 64 (jN (ee (λ_=>0) 0 kn kf) 54) d))) (wr:=af) (t:=46) (fr:=(0,0)) Mo 2)).mono ?_;rintro _ ax2 ⟨aa6,SA,rfl,aa7,SB,aiP,aiQ⟩;have SD:=Mo.new aiQ SB aiP;refine fY 44 #[.slice (aa ⟨aa6,0,ae⟩) (64+32) SA] ?_;refine(Sh aa6 0 (64+32) SA (cx 64 (jN (ee (λ_=>0) 0 kn kf) 92) (kK (64+n) (cx 64 (jN (ee (λ_=>0) 0 kn kf) 54) d))) oM _ (SD.at_ 9 _ rfl) (St.BG (c:=SA) (wr:=af) (t:=5) (fr:=(0,0)) SD 0)).mono ?_;rintro _ ax3 ⟨rfl,aiR⟩;have aiS:=SD.quiet aiR;refine store_ aiS 8 (.agg (aD .u8 32 (kK (64+32) (cx 64 (jN (ee (λ_=>0) 0 kn kf) 92) (kK (64+n) (cx 64 (jN (ee (λ_=>0) 0 kn kf) 54) d)))))) bN 0 ?_;intro ax4 aa8;refine aT (aQ (gC ?_));refine gD rfl (fR [.cell 4 46] [.agg (aD .u8 32 (kK (64+32) (cx 64 (jN (ee (λ_=>0) 0 kn kf) 92) (kK (64+n) (cx 64 (jN (ee (λ_=>0) 0 kn kf) 54) d)))))] (.agg (aD .u8 32 (kK (64+32) (cx 64 (jN (ee (λ_=>0) 0 kn kf) 92) (kK (64+n) (cx 64 (jN (ee (λ_=>0) 0 kn kf) 54) d)))))) ⟨og aa8 8 32 bN 0,trivial⟩) ?_;exact⟨by(unfold iF)<;>kernel_rfl,aa8.ch⟩
def SE (ka:Option aI) (kn kc:Nat) (kf:Nat->Int) (b o n c:Nat) (d:Nat->Int) (lN:Al ka kn) (hn:n<=55) {tG:aM} (w:aj) (hG:w.heap[0]?=aa (.cells (aD .u32 64 c_) tG (0,0))) (hk:dM w ka kn kc kf) (hB:cA w b o n d):
 aX prog 209 #[.slice ka kn kc,.slice (aa ⟨b,o,ae⟩) n c] w λv w1=>v=.agg (aD .u8 8 (iF kn kf n d))/\Ch [] w w1:=by
 have S0:=St.given (w:=w) [(0,.cells (aD .u32 64 c_) tG (0,0))] (all_cons hG (all_nil));refine iZ Tryz.func209 rfl ?_;refine aR (aZ ?_);refine fc S0 (λb=>.pointer (aa ⟨b,0,ae⟩)) (.cells (aD .u8 8 (λ_=>0)) 126) ?_;intro bN jd dV;refine aT (aQ (aR (aZ ?_)));refine av (.slice ka kn kc) ?_;refine dh ?_;refine fY 214 #[.slice ka kn kc,.slice (aa ⟨b,o,ae⟩) n c] ?_;refine(vQ ka kn kc kf b o n c d lN oM _ (dV.at_ 1 _ rfl) (dM.quiet hk dV.ch) (St.mP dV hB sP)).mono ?_;rintro _ HI ⟨rfl,HJ⟩;have dr:=dV.quiet HJ;refine fc dr (λb=>.pointer (aa ⟨b,0,ae⟩)) (.cells (aD .u8 32 (λ_=>0)) 46) ?_;intro uF zw8 jO;refine store_ jO 0 (.agg (aD .u8 32 (iF kn kf n d))) uF 0 ?_;intro aiT Am;refine aT (aQ (aR (aZ ?_)));refine av (.slice (aa ⟨uF,0,ae⟩) 8 32) ?_;refine av (.pointer (aa ⟨uF,0,ae⟩)) ?_;refine kS Am 0 8 (aD .u8 8 (iF kn kf n d)) uF 0 ?_;refine store_ Am 1 (.agg (aD .u8 8 (iF kn kf n d))) bN 0 ?_;intro SF Ck;refine aT (aQ (gC ?_));refine gD rfl (fR [.cell 4 126] [.agg (aD .u8 8 (iF kn kf n d))] (.agg (aD .u8 8 (iF kn kf n d))) ⟨og Ck 1 8 bN 0,trivial⟩) ?_;exact⟨kR,Ck.ch⟩
def aa9 (b o n c e q k:Nat) (f g:Nat->Int) (hn:n<=1000000) (w:aj) (hB:cA w b o n f) (hE:cA w e q n g):
 aX prog 168 #[.slice (aa ⟨b,o,ae⟩) n c,.slice (aa ⟨e,q,ae⟩) n k] w λv w1=>v=.bool (tn n f g)/\Ch [] w w1:=by
 have S0:=St.nil [] w;refine iZ Tryz.func168 rfl ?_;refine aR (aZ ?_);refine av (.bool ag) ?_;refine aT (aQ (aR (aR (aZ ?_))));refine dh ?_;refine av (.int .i64 ((n:Nat):Int)) ?_;refine dh ?_;refine av (.int .i64 ((n:Nat):Int)) ?_;refine nj (.bool (((n:Nat):Int)!=((n:Nat):Int))) (.bool ag) (congrArg DD (neF oM)) ?_;refine aT (aQ (qT ?_));refine kQ (aQ (aR (aZ ?_)));refine av (.int .u8 0) ?_;refine aT (aQ (aR (aR (aZ ?_))));refine dh ?_;refine av (.int .i64 ((n:Nat):Int)) ?_;refine av (.int .i64 0) ?_;refine aT (aQ (kx ?_));refine K9 (λzn za zw=>∃(i:Int) (s:Int) (fV:Nat->ai),(zn=(((n:Nat):Int)-i).toNat/\0<=i/\i<=((n:Nat):Int)/\s=DL f g i.toNat)/\za=⟨#[.slice (aa ⟨b,o,ae⟩) n c,.slice (aa ⟨e,q,ae⟩) n k,undef,undef,.bool ag,.int .u8 s,(fV 6),(fV 7),.slice (aa ⟨b,o,ae⟩) n c,.int .i64 ((n:Nat):Int),.slice (aa ⟨e,q,ae⟩) n k,.int .i64 ((n:Nat):Int),.bool ag,.slice (aa ⟨b,o,ae⟩) n c,.int .i64 ((n:Nat):Int),.int .i64 i,(fV 16),(fV 17),(fV 18),(fV 19),(fV 20),(fV 21),(fV 22),(fV 23),(fV 24),(fV 25),(fV 26),(fV 27),(fV 28),undef,undef],[]⟩/\St [] w [] zw) _ (λzy nJ=>⟨(0:Int),(0:Int),(λd=>zy.tmps.getD d undef),⟨rfl,oM,oM,rfl⟩,by subst nJ;kernel_rfl,S0.re (R:=([]:List ao)) [] []⟩) ?_;rintro _ _ nI ⟨i,s,fV,⟨rfl,zf2,zf3,xO⟩,rfl,dr⟩;refine aR (aZ ?_);refine av (.bool (decide (i<((n:Nat):Int)))) ?_;refine aT (aQ (aR ?_));refine pT (decide (i<((n:Nat):Int))) ?_ ?_
 ·intro xP;have qh:=Bu xP;refine kQ (aQ (aR (kx (aR (aZ ?_)))));refine av (.int .i64 i) ?_;refine sR (e:=5) b o (i).toNat n 1 c .i64 i oM oM oM ?_;refine vz b o n (o+(i).toNat*1) (i).toNat f (St.mP dr hB sP) oM oM ?_;refine av (.int .i64 i) ?_;refine av (.int .u8 (f (i).toNat)) ?_;refine aT (aQ (aZ ?_));refine av (.int .u8 s) ?_;refine av (.int .u8 (f (i).toNat)) ?_;refine dh ?_;refine av (.int .i64 i) ?_;refine sR (e:=5) e q (i).toNat n 1 k .i64 i oM oM oM ?_;refine vz e q n (q+(i).toNat*1) (i).toNat g (St.mP dr hE sP) oM oM ?_;refine av (.int .u8 (bits .xor .u8 (f (i).toNat) (g (i).toNat))) ?_;refine av (.int .u8 (bits .or .u8 s (bits .xor .u8 (f (i).toNat) (g (i).toNat)))) ?_;refine fp ?_;refine aT (mH (aQ (aZ ?_)));refine l6 .i64 (i+1) (Bj _ oM) ?_;refine av (.int .i64 (i+1)) ?_;refine aT ?_;refine GP λzy nJ=>?_;exact⟨_,oM,(i+1),(bits .or .u8 s (bits .xor .u8 (f (i).toNat) (g (i).toNat))),(λd=>zy.tmps.getD d undef),⟨rfl,oM,oM,aiE i s oM xO⟩,by subst nJ;kernel_rfl,dr.re (R:=([]:List ao)) [] []⟩
 intro xQ;have mg:=Bv xQ;refine wp_exit (mG (mG (wP (aQ (aR (aZ ?_))))));refine av (.int .u8 s) ?_;refine av (.bool (s==0)) ?_;refine av (.bool (s==0)) ?_;refine aT (aQ (gC ?_));refine gD rfl (fR [.tmp 4] [.bool (s==0)] (.bool (s==0)) ⟨jw,trivial⟩) ?_;exact⟨congrArg DD (by unfold tn;rw[xO,show i.toNat=n by omega]),dr.ch⟩
end
section
open Go Go.RowKit Go.BigFrame Sx Vx
def cw (u:aj):List ao:=u.heap.toList.zipIdx.map λp=>⟨p.2,ag,p.1⟩
def Mp {u:aj} {i:Nat} {o:Obj} (h:u.heap[i]?=aa o):(⟨i,ag,o⟩:ao)∈cw u:=by
 unfold cw;rw[n8];exact⟨(o,i),by rw[List.mk_mem_zipIdx_iff_getElem?];simpa using h,rfl⟩
def aa_ (w:aj):St [] w (cw w++[]) w:=by
 have:=St.given (w:=w) (w.heap.toList.zipIdx.map λp=>(p.2,p.1)) (by
  intro p hp;obtain⟨q,hq,rfl⟩:=n8.1 hp;have:=(List.mem_zipIdx_iff_getElem?.1 (show(q.1,q.2)∈w.heap.toList.zipIdx from hq));simpa using this)
 rw[cT];unfold cw;rw[l5]at this;exact this
structure R8 where
 n:Nat
 f:Nat->Int
 b:Nat
 c:Nat
def R8.bl (r:R8):List ao:=[⟨r.b,af,.cells (bE r.n r.f r.c) 5 (0,0)⟩]
inductive CG where
 |bj (u:aj)
 |row (r:R8)
instance:Bl CG:=⟨λg=>match g with|.bj u=>cw u|.row r=>r.bl⟩
def qi:List V->Option (List Int)
 |[]=>aa []
 |.int .u8 x::l=>(match qi l with
  |some r=>aa (x::r)
  |none=>ae)
 |_=>ae
def HK (ids:List Nat):∀{l:List V} {r:List Int},qi l=aa r->ak ids l=cI r.length (gu r)
 |[],r,h=>by cases h;rfl
 |v::l,r,h=>by
  unfold qi at h;split at h
  ·rename_i e;cases e
  ·rename_i x l' e;obtain⟨rfl,rfl⟩:=wI e;split at h
   ·rename_i r' hr;cases h;have ih:=HK ids hr;simp only[ak,cl,ih,jf];unfold cI;rw[tZ,gb,l5];rfl
   ·cases h
  ·cases h
def xT (o:Nat) (f:Nat->Int):Nat->Int:=match o with
 |0=>f
 |k+1=>Qy f (k+1)
def aba (o:Nat) (f:Nat->Int) (j:Nat):xT o f j=f (o+j):=by
 cases o with
 |zero=>simp[xT]
 |succ k=>rfl
def EJ:List CG->Option (List CG×R8)
 |[]=>ae
 |[.row r]=>aa ([],r)
 |g::l=>(match EJ l with
  |some (a,r)=>aa (g::a,r)
  |none=>ae)
def Mq:∀{ch l:List CG} {r:R8},EJ ch=aa (l,r)->ch=l++[.row r]
 |[],l,r,h=>by cases h
 |g::t,l,r,h=>by
  unfold EJ at h;split at h
  ·cases h
  ·rename_i e;obtain⟨rfl,rfl⟩:=wI e;cases h;rfl
  ·rename_i g' t' _ e;obtain⟨rfl,rfl⟩:=wI e;split at h
   ·rename_i a r' hr;cases h;rw[Mq hr];rfl
   ·cases h
def Mr (bl:List VB) (ch:List CG) (x:V) (X:Bool->Nat->(Nat->Int)->Prop):Prop:=match x with
 |.sl i o (m+1) _=>(match bl[i]?with
  |some ⟨_,⟨_,(0,0)⟩,l⟩=>(match qi l with
   |some r=>o+(m+1)<=r.length/\X af (m+1) (xT o (gu r))
   |none=>False)
  |_=>False)
 |.raw (.slice (aa ⟨b,o,ae⟩) m _)=>(match ch with
  |.bj u::_=>∃f,cA u b o m f/\X ag m f
  |_=>False)
 |_=>False
def Ms {u w w0:aj} {ms:List Nat} {B:List ao} (S:St ms w0 B w) (h:∀y∈cw u,y∈B) {b o m:Nat} {f:Nat->Int} (h8:cA u b o m f):cA w b o m f:=λj hj=>by
 have h1:=h8 j hj;unfold zl at h1⊢;cases hh:u.heap[b]?with
 |none=>simp[hh]at h1
 |some ob=>
  have:w.heap[b]?=aa ob:=S.at' (h _ (Mp hh));simp only[hh,this]at h1⊢;exact h1
def abb {ids:List Nat} {bl:List VB} {ch:List CG} {R:List ao} {ms:List Nat} {w0 w:aj} (hl:ids.length=bl.length) (S:St ms w0 (lits ids ids bl++au ch R) w) {x:V} {X:Bool->Nat->(Nat->Int)->Prop} (h:Mr bl ch x X):
 ∃b o m c f sure,den ids x=.slice (aa ⟨b,o,ae⟩) m c/\cA w b o m f/\(sure=af->0<m)/\X sure m f:=by
 unfold Mr at h;split at h
 ·rename_i i o m c;split at h
  ·rename_i wr t l hb;split at h
   ·rename_i r hr;have aS:=(gx hl S hb).2;refine⟨_,_,_,_,_,af,rfl,λj hj=>?_,λ_=>Nat.succ_pos m,h.2⟩;rw[cell_of aS,HK ids hr,aba];simp only[jX];exact rh _ (by have:=h.1;omega)
   ·exact h.elim
  ·exact h.elim
 ·rename_i b o m c;split at h
  ·rename_i u rest;obtain⟨f,h8,hX⟩:=h;refine⟨b,o,m,c,f,ag,rfl,Ms S (λy hy=>?_) h8,(λe=>by cases e),hX⟩;exact List.mem_append_right _ (pS _ hy)
  ·exact h.elim
 ·exact h.elim
def HL:(bg->V)->Op->List VB->List CG->VK CG->Prop:=λe op bl ch K=>match op with
 |.call c=>(match c.callee,c.args.toList,c.argTypes.toList with
  |.builtin .append,[s,xs],[t,tx]=>(match prog.underlying t,prog.underlying tx with
   |some (.slice 5),aa (.slice _)=>(match e s with
    |.raw (.slice ae 0 0)=>Mr bl ch (e xs) λsure m g=>m<=1000000/\
     cond sure (∀b c,m<=c->K (.raw (.slice (aa ⟨b,0,ae⟩) m c)) bl (ch++[.row ⟨m,g,b,c⟩]))
      ((m=0->K (.raw (.slice ae 0 0)) bl ch)/\(0<m->∀b c,m<=c->K (.raw (.slice (aa ⟨b,0,ae⟩) m c)) bl (ch++[.row ⟨m,g,b,c⟩])))
    |.raw (.slice (aa ⟨b,0,ae⟩) n c)=>(match EJ ch with
     |some (l,r)=>Mr bl ch (e xs) λ_ m g=>(b=r.b/\n=r.n/\c=r.c/\n<=c/\n+m<=1000000/\0<n+m)/\∀b' c',n+m<=c'->K (.raw (.slice (aa ⟨b',0,ae⟩) (n+m) c')) bl (l++[.row ⟨n+m,cx n r.f g,b',c'⟩])
     |none=>False)
    |_=>False)
   |_,_=>False)
  |_,_,_=>False)
 |.makeSlice t l c=>(match prog.underlying t,e l,e c with
  |some (.slice 5),.int _ (.ofNat 0),.int _ m=>(1<=m/\m<=1000000)/\∀b,K (.raw (.slice (aa ⟨b,0,ae⟩) 0 m.toNat)) bl (ch++[.row ⟨0,λ_=>0,b,m.toNat⟩])
  |_,_,_=>False)
 |_=>False
def abc {P:aG} {ids:List Nat} {w:aj} {t el:aM} {n:Nat} {inf:TypeInfo} {k1 k2:fH} (hu:P.underlying t=aa (.slice el)) (hi:P.info? el=aa inf) (hz:eo P el=aa (0+1)) (h0:me P el=aa [.int .u8 0]) (h1:1<=n) (hn:n<=1000000) (hb:inf.bytes<=100):
 (KE t (.int k1 ((0:Nat):Int)) (.int k2 (n:Int))).run P w=.ok (.slice (aa ⟨w.heap.size,0,ae⟩) 0 n) (w.alloc (.cells (bE 0 (λ_=>0) n) el)):=by
 obtain⟨v0,z1,z2⟩:=BK (P:=P) (w:=w) (ids:=ids) h0;have hv:v0.cells.size=0+1:=by rw[<-wF,z2];rfl
 have G3:(Array.range (n*(0+1))).map (λi=>v0.cells[i%v0.cells.size]!)=bE 0 (λ_=>0) n:=by
  apply fD;rw[Q_ v0.cells 0 hv,z2];simp[ak,cl,cI,bE,den]
 have hm:inf.bytes*n<=100000000:=ia (Nat.mul_le_mul hb hn) dC;have e1:(decide ((n:Int)<0)||decide ((inf.bytes:Int)*(n:Int)>2^48))=ag:=by
  have:(inf.bytes:Int)*(n:Int)<=100000000:=by
   have q:=Int.ofNat_le.2 hm;rw[Int.natCast_mul]at q;exact q
  rw[decide_eq_false oM,decide_eq_false oM];rfl
 have e4:(decide ((((0:Nat):Int))<0)||decide ((inf.bytes:Int)*((0:Nat):Int)>2^48))=ag:=sP;have e2:¬(n*inf.bytes>roomBytes):=by
  have:n*inf.bytes<=100000000:=by rw[Nat.mul_comm];exact hm
  show¬(n*inf.bytes>_);unfold roomBytes;omega
 have e3:¬n*(0+1)=0:=oM;simp only[KE,bz,dw hu,ct,asInt,asIntOf,cZ,G0 hi,Md hn,Md (oQ 1000000),e1,e4,Bool.false_or,askRoom,if_neg e2,vn,gi hz,if_neg e3,z1];simp only[show decide (((0:Nat):Int)<0)=ag by simp,show decide (((0:Nat):Int)>(n:Int))=ag by simp,Bool.or_self,Bool.false_eq_true,if_false,bz,cZ,ct,gi hz,if_neg e3,z1];rw[G3];rfl
def abd {ids:List Nat} {bl:List VB} {l:List CG} {B B' R:List ao} {ms:List Nat} {w0 w w':aj} (S:St ms w0 ((lits ids ids bl++au l [])++(B++R)) w) {n c:Nat} {f:Nat->Int} {x:Option aI} (hr:eQ 5 n f x c B') (hB:Wr B) (hc:Ch (B.map ao.id) w w') (aS:∀y∈B',w'.heap[y.id]?=aa y.obj/\((∃u∈B,y.id=u.id)\/w.heap.size<=y.id)) (h0:0<n):
 ∃b,x=aa ⟨b,0,ae⟩/\n<=c/\St ms w0 (lits ids ids bl++au (l++[.row ⟨n,f,b,c⟩]) R) w':=by
 obtain⟨b,hle,rfl,rfl⟩:=GU hr h0;refine⟨b,rfl,hle,?_⟩;have S2:=S.vw hB hc (λy hy=>(aS y hy).1) (λy hy=>(aS y hy).2) sP;have e:lits ids ids bl++au (l++[.row ⟨n,f,b,c⟩]) R=(lits ids ids bl++au l [])++([⟨b,af,.cells (bE n f c) 5 (0,0)⟩]++R):=by
  rw[kY,fe (au [CG.row ⟨n,f,b,c⟩] R) l,bW];rfl
 rw[e];exact S2
def HM (ids:List Nat) (bl:List VB) (l:List CG) (r:R8) (R:List ao):lits ids ids bl++au (l++[.row r]) R=(lits ids ids bl++au l [])++(r.bl++R):=by
 rw[kY,fe (au [CG.row r] R) l,bW];rfl
def SG (ids:List Nat) (bl:List VB) (l:List CG) (R:List ao):lits ids ids bl++au l R=(lits ids ids bl++au l [])++([]++R):=by
 rw[fe R l,bW];rfl
def xU (n:Nat) (f g:Nat->Int):cx 0 f g=g:=by funext j;rfl
def SH {gl:Nat->Option Nat}:ik prog gl HL:=by
 intro e op ids bl ch R ms w0 w K ρ o hg hl S bd ho h;unfold HL at h;split at h
 ·rename_i c;split at h
  ·rename_i s xs t tx ff cN dU;split at h
   ·rename_i T' ht gr;obtain⟨mR,ar,iO⟩:=c;simp only at ff cN dU;have e2:ar=#[s,xs]:=by rw[<-cN]
    have e3:iO=#[t,tx]:=by rw[<-dU]
    subst ff e2 e3;have cu:(prog.info? 5).map (λi=>(i.zero.map (·.cells),i.size,i.bytes))=aa (aa #[.int .u8 0],1,1):=kR;split at h
    ·rename_i gE;obtain⟨b,ob,m,c,f,sure,hx,h8,abe,hm,hK⟩:=abb hl S h;obtain⟨v,w',bT,cz,x',c',bl',rfl,gp,qe⟩:=Qw (P:=prog) (ty:=o.type) (Qv 5) (w:=w) (λy hy=>nomatch hy) (BF h8 gr) ht cu oM;rw[dS,xU 0]at gp;have SI:=jJ (P:=prog) (ρ:=ρ) (o:=o) ho (sv:=.slice ae 0 0) (by rw[bd,gE];rfl) (by rw[bd,hx]) bT;have SJ:0<m->∀b c,m<=c->K (.raw (.slice (aa ⟨b,0,ae⟩) m c)) bl (ch++[.row ⟨m,f,b,c⟩]):=by
      cases sure with
      |true=>exact λ_=>hK
      |false=>exact hK.2
     have uG:m=0->K (.raw (.slice ae 0 0)) bl ch:=λh0=>by
      cases sure with
      |true=>have:=abe rfl;omega
      |false=>exact hK.1 h0
     rcases tU m with j8|j8
     ·have h1:=uG j8;subst j8;obtain⟨i,hi,K6⟩:=iX.1 cu;simp only[bC]at K6;have aiU:=jJ (P:=prog) (ρ:=ρ) (o:=o) ho (sv:=.slice ae 0 0) (by rw[bd,gE];rfl) (by rw[bd,hx]) (run_append_nothing (P:=prog) w t tx o.type 5 i ht hi ae 0 0 (cY _) _ (by rw[K6.2.1];exact BF h8 gr));exact⟨_,[],bl,_,w,.inl (by rw[aiU];simp[den]),by simpa using hl,by simpa using S,h1⟩
     ·obtain⟨b',rfl,hle,S2⟩:=abd (l:=ch) (B:=[]) (by rw[<-SG];exact S) gp (λy hy=>nomatch hy) (by simpa using cz) (λy hy=>by simpa using qe y hy) j8;exact⟨_,[],bl,_,w',.inl (by rw[SI,dS];simp[den]),by simpa using hl,by simpa using S2,SJ j8 b' c' hle⟩
    ·rename_i b n c gE;split at h
     ·rename_i l r HN;obtain rfl:=Mq HN;obtain⟨b1,ob,m,c1,f,sure,hx,h8,abe,⟨rfl,rfl,rfl,j7,hb,Cm⟩,hK⟩:=abb hl S h;have S1:=S;rw[HM]at S1;obtain⟨v,w',bT,cz,x',c',bl',rfl,gp,qe⟩:=Qw (P:=prog) (ty:=o.type) (show eQ 5 r.n r.f (aa ⟨r.b,0,ae⟩) r.c r.bl from⟨j7,.inr ⟨_,rfl,rfl⟩⟩) (w:=w) (λy hy=>S1.at' (by simp[hy])) (BF h8 gr) ht cu oM;have SI:=jJ (P:=prog) (ρ:=ρ) (o:=o) ho (sv:=.slice (aa ⟨r.b,0,ae⟩) r.n r.c) (by rw[bd,gE];rfl) (by rw[bd,hx]) bT;obtain⟨b',rfl,hle,S2⟩:=abd S1 gp (Wr.cons rfl Wr.nil) cz qe Cm;exact⟨_,[],bl,_,w',.inl (by rw[SI];simp[den]),by simpa using hl,by simpa using S2,hK b' c' hle⟩
     ·exact h.elim
    ·exact h.elim
   ·exact h.elim
  ·exact h.elim
 ·rename_i t l c;split at h
  ·rename_i k1 k2 m hu oz Hw;obtain⟨⟨m1,m2⟩,hK⟩:=h;obtain⟨n,rfl⟩:=Int.eq_ofNat_of_zero_le (show 0<=m by omega);obtain⟨inf,uC,j6⟩:∃inf,prog.info? 5=aa inf/\inf.bytes<=100:=⟨_,rfl,eO kR⟩;have bT:=abc (P:=prog) (ids:=ids) (w:=w) (t:=t) (el:=5) (n:=n) (inf:=inf) (k1:=k1) (k2:=k2) hu uC kR kR oM oM j6;rw[vn]at hK;refine⟨_,[],bl,_,w.alloc (.cells (bE 0 (λ_=>0) n) 5),.inl ?_,by simpa using hl,?_,hK w.heap.size⟩
   ·unfold execOp;have e1:dG 0=((0:Nat):Int):=rfl;simp only[ho,bd,oz,Hw,den,bz,e1,bT,ct,cZ]
   ·rw[cT,HM];rw[SG]at S;exact S.vw (λy hy=>nomatch hy) (Ch.alloc [] w _) (λy hy=>by
     obtain rfl:=jZ.1 hy;exact n6 w _) (λy hy=>by
     obtain rfl:=jZ.1 hy;exact .inr (cY _)) (by simp[R8.bl])
  ·exact h.elim
 ·exact h.elim
def bG (k:Nat) (x:Int):Nat->Int:=λj=>u8.wrap (kP x (2^(8*(k-1-j))))
def fdiv_zero (x:Int) (k:Nat) (h0:0<=x) (h1:x<2^k):kP x (2^k)=0:=by
 rw[Int.fdiv_eq_ediv_of_nonneg _ (Int.le_of_lt (Int.lt_of_le_of_lt h0 h1))];exact Int.ediv_eq_zero_of_lt h0 h1
def ints (n:Nat) (f:Nat->Int):List V:=(bo n).map λj=>.int .u8 (f j)
def SL {G:Type} [Bl G] {L:List (bK G)} {h:(bg->V)->Op->List VB->List G->VK G->Prop} {hok:ik prog cJ h} (hL:aH prog cJ L) {f:fl} {args:List V} {K:VK G} {w:aj} (hv:ta (br (gy prog cJ L h hok) 60 f args [] [] (bA 0 K))):
 aX prog f (aE [] args).toArray w λv w'=>∃x ids bl ch,v=den ids x/\ids.length=bl.length/\St [] w (lits ids ids bl++au ch []) w'/\K x bl ch:=by
 refine(eZ hL.T hL.Q 60 (C:=gy prog cJ L h hok) (ids:=[]) (bl:=[]) (ch:=[]) (R:=[]) (λg i h=>by cases h) rfl (St.nil [] w) hv.h).mono ?_;rintro v w' ⟨x,more,bl',ch',rfl,h1,S',hK⟩;obtain⟨v2,cn,bl2,hv,cX,S2,lb⟩:=iP (n0:=0) h1 (oQ _) S' hK;exact⟨v2,_,bl2,ch',hv,cX,S2,lb⟩
def rJ (k:Nat) (x:Int):VB:=⟨af,⟨5,(0,0)⟩,ints k (bG k x)⟩
def Cn (k:Nat) (x d:Int) (K:VK Empty):Prop:=br (gy prog cJ ([]:List (bK Empty)) (EA prog) Hx) 60 45 [.int .u64 x,.int .i64 k] [] [] (bA 0 K)=cond (kP x d !=0) (K (.ay [.raw (.slice ae 0 0),.int .i64 1]) [] []) (K (.ay [.sl 0 0 k k,.int .i64 0]) [rJ k x] [])
def aiV (x:Int) (K:VK Empty):Cn 1 x (2^8) K:=by
 unfold Cn;kernel_rfl
def aiW (x:Int) (K:VK Empty):Cn 2 x (2^16) K:=by
 unfold Cn;kernel_rfl
def aiX (x:Int) (K:VK Empty):Cn 4 x (2^32) K:=by
 unfold Cn;kernel_rfl
def EK (ids:List Nat) (n:Nat) (f:Nat->Int):(ak ids (ints n f)).toArray=aD .u8 n f:=by
 have h:∀l:List Nat,ak ids (l.map λj=>V.int .u8 (f j))=l.map λj=>fI .u8 (f j):=by
  intro l;induction l with
  |nil=>rfl
  |cons j l ih=>simp only[gb,ak,cl,den,ih,wJ]
 unfold ints;rw[h];rfl
def SN {k e:Nat} {x:Int} (hx:0<=x/\x<2^e) (hv:∀K,Cn k x (2^e) K) (w:aj):aX prog 45 #[.int .u64 x,.int .i64 k] w λv w1=>∃b,v=.tuple #[.slice (aa ⟨b,0,ae⟩) k k,.int .i64 0]/\w.heap.size<=b/\w1.heap[b]?=aa (.cells (aD .u8 k (bG k x)) 5 (0,0))/\Ch [] w w1:=by
 have h:br (gy prog cJ ([]:List (bK Empty)) (EA prog) Hx) 60 45 [.int .u64 x,.int .i64 k] [] [] (bA 0 λv bl _=>v=.ay [.sl 0 0 k k,.int .i64 0]/\bl=[rJ k x]):=by
  rw[show _=_ from hv _,fdiv_zero x e hx.1 hx.2];exact⟨rfl,rfl⟩
 refine(SL aH.nil ⟨h⟩).mono ?_;rintro v w' ⟨y,ids,bl,ch,rfl,hl,S,rfl,rfl⟩
 match ids,hl with
 |[b],_=>
  refine⟨b,rfl,(S.own 0 (aC [b] b (rJ k x)) rfl rfl).resolve_left sP,?_,S.ch⟩;have:=S.at_ 0 (aC [b] b (rJ k x)) rfl;simp only[aC,rJ,EK]at this;exact this
def HO {G:Type}:dk G:=λargs bl ch K=>match args with
 |[.int .u64 x,.int .i64 (.ofNat k)]=>cond ((aA k 1||(aA k 2||aA k 4))&&bY bl.length bl) ((0<=x/\x<2^(8*k))/\K (.ay [.sl bl.length 0 k k,.int .i64 0]) (bl++[rJ k x]) ch) False
 |_=>False
def aiY {G:Type} [Bl G] {gl:Nat->Option Nat}:Sound (G:=G) prog gl 45 HO:=by
 intro args ids bl ch R ms w0 w K hg hl S hc;unfold HO at hc;split at hc
 ·rename_i x k;cases hq:(aA k 1||(aA k 2||aA k 4))&&bY bl.length bl with
  |false=>rw[hq]at hc;exact hc.elim
  |true=>
   rw[hq]at hc;simp only[bD,Dz]at hq;obtain⟨hx,hK⟩:=hc;have hp:aX prog 45 #[.int .u64 x,.int .i64 k] w λv w1=>∃b,v=.tuple #[.slice (aa ⟨b,0,ae⟩) k k,.int .i64 0]/\w.heap.size<=b/\w1.heap[b]?=aa (.cells (aD .u8 k (bG k x)) 5 (0,0))/\Ch [] w w1:=by
    rcases hq.1 with h|h|h
    ·obtain rfl:=ck h;exact SN hx (aiV x) w
    ·obtain rfl:=ck h;exact SN hx (aiW x) w
    ·obtain rfl:=ck h;exact SN hx (aiX x) w
   refine hp.mono ?_;rintro v w' ⟨b,rfl,fh,aS,cz⟩;refine⟨_,[b],_,_,?_,by simp[hl],?_,hK⟩
   ·have:(ids++[b]).getD bl.length 0=b:=by rw[<-hl];simp[gd]
    simp only[den,aE,this]
   ·have e:aC (ids++[b]) b (rJ k x)=⟨b,af,.cells (aD .u8 k (bG k x)) 5 (0,0)⟩:=by
     unfold aC rJ;rw[EK]
    rw[fu _ _ _ _ hl,fw _ _ (by rw[hl];exact hq.2)];simp only[lits,e];refine(S.new cz fh aS).perm ?_;rw[bW];exact kH.symm
 ·exact hc.elim
def aiZ {G:Type}:jo (HO (G:=G)):=by
 intro args bl ch K hc;unfold HO at hc⊢;split at hc
 ·revert hc;cases(aA _ 1||(aA _ 2||aA _ 4))&&bY bl.length bl with
  |false=>exact λh=>h.elim
  |true=>exact λh=>⟨h.1,h.2,_,rfl⟩
 ·exact hc.elim
def EL (G:Type):List (bK G):=[⟨45,af,HO⟩]
def abf {G:Type} [Bl G] {gl:Nat->Option Nat}:aH (G:=G) prog gl (EL G):=aH.cons ⟨aiY,λ_=>aiZ⟩ aH.nil
def HP (k:Nat) (n m:Int) (K:VK Empty):Prop:=br (bM prog cJ (EL Empty)) 60 210 [.int .i64 n,.int .i64 k] [] [] (bA 0 K)=((0<=bits .and .u64 (u64.wrap n) m/\bits .and .u64 (u64.wrap n) m<2^(8*k))/\K (.sl 0 0 k k) [rJ k (bits .and .u64 (u64.wrap n) m)] [])
def ai0 (n:Int) (K:VK Empty):HP 1 n 255 K:=by
 unfold HP;kernel_rfl
def ai1 (n:Int) (K:VK Empty):HP 4 n 4294967295 K:=by
 unfold HP;kernel_rfl
def abg {k:Nat} {n m d:Int} (hn:0<=n/\n<4294967296) (hv:∀K,HP k n m K) (he:bits .and .u64 n m=n%d) (hd:0<d) (h2:d=2^(8*k)) (w:aj):
 aX prog 210 #[.int .i64 n,.int .i64 k] w λv w1=>∃b,v=.slice (aa ⟨b,0,ae⟩) k k/\w.heap.size<=b/\w1.heap[b]?=aa (.cells (aD .u8 k (bG k (n%d))) 5 (0,0))/\Ch [] w w1:=by
 have h:br (bM prog cJ (EL Empty)) 60 210 [.int .i64 n,.int .i64 k] [] [] (bA 0 λv bl _=>v=.sl 0 0 k k/\bl=[rJ k (n%d)]):=by
  rw[show _=_ from hv _,wM _ oM,he];exact⟨⟨Int.emod_nonneg _ oM,h2▸Int.emod_lt_of_pos _ hd⟩,rfl,rfl⟩
 refine(SL (h:=BS) (hok:=Ec) abf ⟨h⟩).mono ?_;rintro v w' ⟨y,ids,bl,ch,rfl,hl,S,rfl,rfl⟩
 match ids,hl with
 |[b],_=>
  refine⟨b,rfl,(S.own 0 (aC [b] b (rJ k (n%d))) rfl rfl).resolve_left sP,?_,S.ch⟩;have:=S.at_ 0 (aC [b] b (rJ k (n%d))) rfl;simp only[aC,rJ,EK]at this;exact this
def Mt (n:Int) (hn:0<=n/\n<4294967296) (w:aj):
 aX prog 210 #[.int .i64 n,.int .i64 1] w λv w1=>∃b,v=.slice (aa ⟨b,0,ae⟩) 1 1/\w.heap.size<=b/\w1.heap[b]?=aa (.cells #[.int .u8 ((bG 1 (n%256)) 0)] 5 (0,0))/\Ch [] w w1:=
 abg hn (ai0 n) (sG .u64 n 255 256 8 dC dC dC) dC rfl w
def ai2 (n:Int) (hn:0<=n/\n<4294967296) (w:aj):
 aX prog 210 #[.int .i64 n,.int .i64 4] w λv w1=>∃b,v=.slice (aa ⟨b,0,ae⟩) 4 4/\w.heap.size<=b/\w1.heap[b]?=aa (.cells #[.int .u8 ((bG 4 (n%4294967296)) 0),.int .u8 ((bG 4 (n%4294967296)) 1),.int .u8 ((bG 4 (n%4294967296)) 2),.int .u8 ((bG 4 (n%4294967296)) 3)] 5 (0,0))/\Ch [] w w1:=
 abg hn (ai1 n) (sG .u64 n 4294967295 4294967296 32 dC dC dC) dC rfl w
abbrev JP:=(Nat×Nat×Nat×Nat)×(Nat->Int)
def jP (p:Nat×Nat×Nat×Nat):V:=.raw (.slice (aa ⟨p.1,p.2.1,ae⟩) p.2.2.1 p.2.2.2)
def jB (ps:List (Nat×Nat×Nat×Nat)):VB:=⟨ag,⟨23,(0,0)⟩,ps.map jP⟩
def oC (L:List (bK CG)) (f:fl) (args:List V) (bl:List VB) (ch:List CG) (K:VK CG):Prop:=br (gy prog cJ L HL SH) 60 f args bl ch K
section
variable(u:aj) (B:VB) (K:VK CG)
def SO:List (Nat×Nat×Nat×Nat)->Nat->Nat->Nat->(Nat->Int)->Prop
 |[],b,n,c,f=>K (.raw (.slice (aa ⟨b,0,ae⟩) n c)) [B] [.bj u,.row ⟨n,f,b,c⟩]
 |p::ps,b,n,c,f=>∃g,cA u p.1 p.2.1 p.2.2.1 g/\(b=b/\n=n/\c=c/\n<=c/\n+p.2.2.1<=1000000/\0<n+p.2.2.1)/\∀b' c',n+p.2.2.1<=c'->SO ps b' (n+p.2.2.1) c' (cx n f g)
def SP:List (Nat×Nat×Nat×Nat)->Prop
 |[]=>K (.raw (.slice ae 0 0)) [B] [.bj u]
 |p::ps=>∃g,cA u p.1 p.2.1 p.2.2.1 g/\p.2.2.1<=1000000/\(p.2.2.1=0->SP ps)/\(0<p.2.2.1->∀b c,p.2.2.1<=c->SO u B K ps b p.2.2.1 c g)
def xV (k:Nat) (ps:List (Nat×Nat×Nat×Nat)):Prop:=oC [] 172 [.sl 0 0 k k] [jB ps] [.bj u] (bA 1 K)=SP u (jB ps) K ps
def ai3 (p:Nat×Nat×Nat×Nat):xV u K 1 [p]:=by
 unfold xV;kernel_rfl
def ai4 (p q:Nat×Nat×Nat×Nat):xV u K 2 [p,q]:=by
 unfold xV;kernel_rfl
def ai5 (p q r:Nat×Nat×Nat×Nat):xV u K 3 [p,q,r]:=by
 unfold xV;kernel_rfl
def ai6 (p q r s:Nat×Nat×Nat×Nat):xV u K 4 [p,q,r,s]:=by
 unfold xV;kernel_rfl
end
def gI:List JP->Nat->Nat
 |[],n=>n
 |p::ps,n=>gI ps (n+p.1.2.2.1)
def mU:List JP->Nat->(Nat->Int)->Nat->Int
 |[],n,f=>f
 |p::ps,n,f=>mU ps (n+p.1.2.2.1) (cx n f p.2)
def SQ:∀(ps:List JP) (n:Nat),n<=gI ps n
 |[],n=>cY n
 |p::ps,n=>ia (YI _ _) (SQ ps _)
def abh {u:aj} {B:VB} {K:VK CG}:∀(ps:List JP) (b n c:Nat) (f:Nat->Int),n<=c->0<n->gI ps n<=1000000->(∀q∈ps,cA u q.1.1 q.1.2.1 q.1.2.2.1 q.2)->
 (∀b c,gI ps n<=c->K (.raw (.slice (aa ⟨b,0,ae⟩) (gI ps n) c)) [B] [.bj u,.row ⟨gI ps n,mU ps n f,b,c⟩])->SO u B K (ps.map (·.1)) b n c f
 |[],b,n,c,f,h1,_,_,_,hK=>hK b c h1
 |p::ps,b,n,c,f,h1,h2,h3,h4,hK=>by
  have:=SQ ps (n+p.1.2.2.1);have h3':gI ps (n+p.1.2.2.1)<=1000000:=h3;exact⟨p.2,h4 p vi,⟨rfl,rfl,rfl,h1,ia this h3',PJ h2 (YI _ _)⟩,λb' c' h=>abh ps b' _ c' _ h (PJ h2 (YI _ _)) h3' (λq hq=>h4 q (qQ _ hq)) hK⟩
def abi:∀(ps:List JP) (n:Nat) (f g:Nat->Int),(∀j,j<n->f j=g j)->∀j,j<gI ps n->mU ps n f j=mU ps n g j
 |[],n,f,g,h,j,hj=>h j hj
 |p::ps,n,f,g,h,j,hj=>abi ps _ _ _ (λi hi=>by
  unfold cx;cases hb:db i n with
  |false=>rfl
  |true=>exact h i (by unfold db at hb;exact eO hb)) j hj
def abj {u:aj} {B:VB} {K:VK CG} {z:Nat->Int}:∀(ps:List JP),gI ps 0<=1000000->(∀q∈ps,cA u q.1.1 q.1.2.1 q.1.2.2.1 q.2)->(gI ps 0=0->K (.raw (.slice ae 0 0)) [B] [.bj u])->
 (∀F,(∀j,j<gI ps 0->F j=mU ps 0 z j)->∀b c,0<gI ps 0->gI ps 0<=c->K (.raw (.slice (aa ⟨b,0,ae⟩) (gI ps 0) c)) [B] [.bj u,.row ⟨gI ps 0,F,b,c⟩])->SP u B K (ps.map (·.1))
 |[],_,_,h,_=>h rfl
 |p::ps,h1,h2,h3,h4=>by
  have e:gI (p::ps) 0=gI ps p.1.2.2.1:=by show gI ps (0+p.1.2.2.1)=_;rw[dS]
  have hc:mU (p::ps) 0 z=mU ps p.1.2.2.1 p.2:=by show mU ps (0+p.1.2.2.1) (cx 0 z p.2)=_;rw[dS,xU 0]
  rw[e]at h1 h3 h4;rw[hc]at h4;have fh:=SQ ps p.1.2.2.1;refine⟨p.2,h2 p vi,ia fh h1,λh0=>?_,λh0 b c hle=>abh ps b _ c _ hle h0 h1 (λq hq=>h2 q (qQ _ hq)) λb c h=>h4 _ (λ_ _=>rfl) b c (PJ h0 fh) h⟩;rw[show p.1.2.2.1=0 from h0]at h1 h3 h4;exact abj (z:=z) ps h1 (λq hq=>h2 q (qQ _ hq)) h3 λF hF=>h4 F λj hj=>(hF j hj).trans (abi ps 0 _ _ (λi hi=>absurd hi (Nat.not_lt_zero i)) j hj)
def SR {ids:List Nat} {bl:List VB} {l:List CG} {r:R8} {w w':aj} (S:St [] w (lits ids ids bl++au (l++[.row r]) []) w'):w.heap.size<=r.b:=by
 rw[HM]at S;have:=S.nu (x:=⟨r.b,af,.cells (bE r.n r.f r.c) 5 (0,0)⟩) (by simp[R8.bl]) rfl;simpa using this
def HR {ids:List Nat} {bl:List VB} {l:List CG} {r:R8} {R:List ao} {ms:List Nat} {w0 w:aj} (S:St ms w0 (lits ids ids bl++au (l++[.row r]) R) w):w.heap[r.b]?=aa (.cells (bE r.n r.f r.c) 5 (0,0)):=by
 rw[HM]at S;exact S.at' (x:=⟨r.b,af,.cells (bE r.n r.f r.c) 5 (0,0)⟩) (by simp[R8.bl])
def Mu {k pb:Nat} {ps:List JP} {w:aj} {z:Nat->Int} (hv:∀K,xV w K k (ps.map (·.1))) (hp:w.heap[pb]?=aa (.cells (ak [] ((ps.map (·.1)).map jP)).toArray 23 (0,0))) (h1:gI ps 0<=1000000) (hA:∀q∈ps,cA w q.1.1 q.1.2.1 q.1.2.2.1 q.2):
 aX prog 172 #[.slice (aa ⟨pb,0,ae⟩) k k] w λv w1=>Ch [] w w1/\((gI ps 0=0/\v=.slice ae 0 0)\/(0<gI ps 0/\∃b c,v=.slice (aa ⟨b,0,ae⟩) (gI ps 0) c/\gI ps 0<=c/\w.heap.size<=b/\w1.heap[b]?=aa (.cells (bE (gI ps 0) (mU ps 0 z) c) 5 (0,0)))):=by
 have h:oC [] 172 [.sl 0 0 k k] [jB (ps.map (·.1))] [.bj w] (bA 1 λv bl ch=>bl=[jB (ps.map (·.1))]/\((gI ps 0=0/\v=.raw (.slice ae 0 0))\/(0<gI ps 0/\∃F b c,(∀j,j<gI ps 0->F j=mU ps 0 z j)/\v=.raw (.slice (aa ⟨b,0,ae⟩) (gI ps 0) c)/\gI ps 0<=c/\ch=[.bj w,.row ⟨gI ps 0,F,b,c⟩]))):=by
  rw[show _=_ from hv _];exact abj ps h1 hA (λh=>⟨rfl,.inl ⟨h,rfl⟩⟩) λF hF b c h0 hc=>⟨rfl,.inr ⟨h0,F,b,c,hF,rfl,hc,rfl⟩⟩
 have S:St [] w (lits [pb] [pb] [jB (ps.map (·.1))]++au [CG.bj w] []) w:=by
  have:=St.given (w:=w) ((pb,.cells (ak [] ((ps.map (·.1)).map jP)).toArray 23 (0,0))::w.heap.toList.zipIdx.map λp=>(p.2,p.1)) (by
   intro p h;rcases cF.1 h with rfl|h
   ·exact hp
   obtain⟨q,hq,rfl⟩:=n8.1 h;have:=(List.mem_zipIdx_iff_getElem?.1 (show(q.1,q.2)∈w.heap.toList.zipIdx from hq));simpa using this)
  have e:ak [pb] ((ps.map (·.1)).map jP)=ak [] ((ps.map (·.1)).map jP):=by
   have:∀l:List (Nat×Nat×Nat×Nat),ak [pb] (l.map jP)=ak [] (l.map jP):=λl=>by
    induction l with
    |nil=>rfl
    |cons a l ih=>simp only[gb,ak,ih,jP,cl,den]
   exact this _
  simp only[lits,aC,jB,e];show St [] w (_::(cw w++[])) w;rw[cT];unfold cw;rw[gb,l5 (l:=w.heap.toList.zipIdx)]at this;exact this
 refine(eZ (aH.nil (G:=CG) (P:=prog) (gl:=cJ)).T (aH.nil (G:=CG) (P:=prog) (gl:=cJ)).Q 60 (C:=gy prog cJ [] HL SH) (λg i h=>by cases h) rfl S h).mono ?_;rintro v w' ⟨x,more,bl',ch',rfl,h1,S',hK⟩;obtain⟨v2,cn,bl2,hv,cX,S2,rfl,lb⟩:=iP (n0:=1) h1 sP S' hK;refine⟨S2.ch,?_⟩;rcases lb with⟨h0,rfl⟩|⟨h0,F,b,c,hF,rfl,hc,rfl⟩
 ·exact .inl ⟨h0,hv⟩
 ·refine .inr ⟨h0,b,c,hv,hc,SR (l:=[.bj w]) S2,?_⟩;have:=HR (l:=[.bj w]) S2;rw[this];congr 2;exact aaW rfl hF
def abk (pb:Nat) (b0 o0 n0 c0:Nat) (f0:Nat->Int) (b1 o1 n1 c1:Nat) (f1:Nat->Int) (b2 o2 n2 c2:Nat) (f2:Nat->Int) (h0:0<n0) (hn:n0+n1+n2<=1000000) (w:aj) (hp:w.heap[pb]?=aa (.cells #[.slice (aa ⟨b0,o0,ae⟩) n0 c0,.slice (aa ⟨b1,o1,ae⟩) n1 c1,.slice (aa ⟨b2,o2,ae⟩) n2 c2] 23 (0,0))) (Cf:cA w b0 o0 n0 f0) (xJ:cA w b1 o1 n1 f1) (HS:cA w b2 o2 n2 f2):
 aX prog 172 #[.slice (aa ⟨pb,0,ae⟩) 3 3] w λv w1=>∃b c1,v=.slice (aa ⟨b,0,ae⟩) (n0+n1+n2) c1/\n0+n1+n2<=c1/\w.heap.size<=b/\w1.heap[b]?=aa (.cells (bE (n0+n1+n2) (k8 n0 n1 f0 f1 f2) c1) 5 (0,0))/\Ch [] w w1:=by
 let ps:List JP:=[((b0,o0,n0,c0),f0),((b1,o1,n1,c1),f1),((b2,o2,n2,c2),f2)]
 have et:gI ps 0=n0+n1+n2:=by show 0+n0+n1+n2=_;rw[dS]
 refine(Mu (k:=3) (ps:=ps) (z:=λ_=>0) (λK=>ai5 w K (b0,o0,n0,c0) (b1,o1,n1,c1) (b2,o2,n2,c2)) hp (by rw[et];exact hn) (λq hq=>by
  rcases cF.1 hq with rfl|hq
  ·exact Cf
  rcases cF.1 hq with rfl|hq
  ·exact xJ
  rcases cF.1 hq with rfl|hq
  ·exact HS
  cases hq)).mono ?_
 rintro v w1 ⟨cz,⟨h,_⟩|⟨_,b,c,rfl,h1,h2,h3⟩⟩
 ·omega
 ·have ec:mU ps 0 (λ_=>0)=k8 n0 n1 f0 f1 f2:=by
   simp only[ps,mU,dS,xU 0];rfl
  rw[et]at h1 h3⊢;rw[ec]at h3;exact⟨b,c,rfl,h1,h2,h3,cz⟩
def ai7 (pb:Nat) (b0 o0 n0 c0:Nat) (f0:Nat->Int) (b1 o1 n1 c1:Nat) (f1:Nat->Int) (b2 o2 n2 c2:Nat) (f2:Nat->Int) (b3 o3 n3 c3:Nat) (f3:Nat->Int) (h0:0<n0) (hn:n0+n1+n2+n3<=1000000) (w:aj) (hp:w.heap[pb]?=aa (.cells #[.slice (aa ⟨b0,o0,ae⟩) n0 c0,.slice (aa ⟨b1,o1,ae⟩) n1 c1,.slice (aa ⟨b2,o2,ae⟩) n2 c2,.slice (aa ⟨b3,o3,ae⟩) n3 c3] 23 (0,0))) (Cf:cA w b0 o0 n0 f0) (xJ:cA w b1 o1 n1 f1) (HS:cA w b2 o2 n2 f2) (hB3:cA w b3 o3 n3 f3):
 aX prog 172 #[.slice (aa ⟨pb,0,ae⟩) 4 4] w λv w1=>∃b c1,v=.slice (aa ⟨b,0,ae⟩) (n0+n1+n2+n3) c1/\n0+n1+n2+n3<=c1/\w.heap.size<=b/\w1.heap[b]?=aa (.cells (bE (n0+n1+n2+n3) (HC n0 n1 n2 f0 f1 f2 f3) c1) 5 (0,0))/\Ch [] w w1:=by
 let ps:List JP:=[((b0,o0,n0,c0),f0),((b1,o1,n1,c1),f1),((b2,o2,n2,c2),f2),((b3,o3,n3,c3),f3)]
 have et:gI ps 0=n0+n1+n2+n3:=by show 0+n0+n1+n2+n3=_;rw[dS]
 refine(Mu (k:=4) (ps:=ps) (z:=λ_=>0) (λK=>ai6 w K (b0,o0,n0,c0) (b1,o1,n1,c1) (b2,o2,n2,c2) (b3,o3,n3,c3)) hp (by rw[et];exact hn) (λq hq=>by
  rcases cF.1 hq with rfl|hq
  ·exact Cf
  rcases cF.1 hq with rfl|hq
  ·exact xJ
  rcases cF.1 hq with rfl|hq
  ·exact HS
  rcases cF.1 hq with rfl|hq
  ·exact hB3
  cases hq)).mono ?_
 rintro v w1 ⟨cz,⟨h,_⟩|⟨_,b,c,rfl,h1,h2,h3⟩⟩
 ·omega
 ·have ec:mU ps 0 (λ_=>0)=HC n0 n1 n2 f0 f1 f2 f3:=by
   simp only[ps,mU,dS,xU 0];rfl
  rw[et]at h1 h3⊢;rw[ec]at h3;exact⟨b,c,rfl,h1,h2,h3,cz⟩
def ai8 (pb:Nat) (b0 o0 n0 c0:Nat) (f0:Nat->Int) (b1 o1 n1 c1:Nat) (f1:Nat->Int) (h0:0<n1) (hn:n0+n1<=1000000) (w:aj) (hp:w.heap[pb]?=aa (.cells #[.slice (aa ⟨b0,o0,ae⟩) n0 c0,.slice (aa ⟨b1,o1,ae⟩) n1 c1] 23 (0,0))) (Cf:cA w b0 o0 n0 f0) (xJ:cA w b1 o1 n1 f1):
 aX prog 172 #[.slice (aa ⟨pb,0,ae⟩) 2 2] w λv w1=>∃b c1,v=.slice (aa ⟨b,0,ae⟩) (n0+n1) c1/\n0+n1<=c1/\w.heap.size<=b/\w1.heap[b]?=aa (.cells (bE (n0+n1) (cx n0 f0 f1) c1) 5 (0,0))/\Ch [] w w1:=by
 let ps:List JP:=[((b0,o0,n0,c0),f0),((b1,o1,n1,c1),f1)]
 have et:gI ps 0=n0+n1:=by show 0+n0+n1=_;rw[dS]
 refine(Mu (k:=2) (ps:=ps) (z:=λ_=>0) (λK=>ai4 w K (b0,o0,n0,c0) (b1,o1,n1,c1)) hp (by rw[et];exact hn) (λq hq=>by
  rcases cF.1 hq with rfl|hq
  ·exact Cf
  rcases cF.1 hq with rfl|hq
  ·exact xJ
  cases hq)).mono ?_
 rintro v w1 ⟨cz,⟨h,_⟩|⟨_,b,c,rfl,h1,h2,h3⟩⟩
 ·omega
 ·have ec:mU ps 0 (λ_=>0)=cx n0 f0 f1:=by
   simp only[ps,mU,dS,xU 0]
  rw[et]at h1 h3⊢;rw[ec]at h3;exact⟨b,c,rfl,h1,h2,h3,cz⟩
def kg (kn:Nat) (kf:Nat->Int) (s n:Int):Nat->Int:=iF kn kf (1+1+4) (k8 1 1 (λ_=>78) (bG 1 (s%256)) (bG 4 (n%4294967296)))
def tp (y s r:Int) (nc:Nat->Int):Nat->Int:=HC 1 1 1 (λ_=>y) (bG 1 (s%256)) (bG 1 (r%256)) nc
def uH (kn:Nat) (kf:Nat->Int) (s r:Int) (nc:Nat->Int):Nat->Int:=iF kn kf (1+1+1+8) (tp 80 s r nc)
def lO (kn:Nat) (kf:Nat->Int) (s r:Int) (nc:Nat->Int):Nat->Int:=iF kn kf (1+1+1+8) (tp 75 s r nc)
def vR (k:Nat->Int) (s:Int) (m:Nat) (f:Nat->Int):Nat->Int:=cx m f (iF 32 k (1+1+m) (k8 1 1 (λ_=>77) (bG 1 (s%256)) f))
def nL (k:Nat->Int) (s:Int) (m:Nat) (f:Nat->Int):Bool:=tn (m+8) f (vR k s m f)
def ai9 (ka:Option aI) (kn kc:Nat) (kf:Nat->Int) (s n:Int) (lN:1<=kn/\kn<=64) (hs:0<=s/\s<4294967296) (hn:0<=n/\n<4294967296) {tG:aM} (w:aj) (hG:w.heap[0]?=aa (.cells (aD .u32 64 c_) tG (0,0))) (hk:dM w ka kn kc kf):
 aX prog 164 #[.slice ka kn kc,.int .i64 s,.int .i64 n] w λv w1=>v=.agg (aD .u8 8 (kg kn kf s n))/\Ch [] w w1:=by
 have S0:=St.given (w:=w) [(0,.cells (aD .u32 64 c_) tG (0,0))] (all_cons hG (all_nil));refine iZ Tryz.func164 rfl ?_;refine aR (aZ ?_);refine fc S0 (λb=>.pointer (aa ⟨b,0,ae⟩)) (.cells (aD .u8 8 (λ_=>0)) 126) ?_;intro bN jd dV;refine aT (aQ (aR (aZ ?_)));refine av (.slice ka kn kc) ?_;refine fc dV (λb=>.slice (aa ⟨b,0,ae⟩) 1 1) (.cells #[.int .u8 78] 5) ?_;intro dJ nI dr;refine av (.int .i64 s) ?_;refine fY 210 #[.int .i64 s,.int .i64 1] ?_;refine(Mt s oM _).mono ?_;rintro _ EG ⟨tq,rfl,k9,xK,qh⟩;have jO:=dr.new qh k9 xK;refine av (.int .i64 n) ?_;refine fY 210 #[.int .i64 n,.int .i64 4] ?_;refine(ai2 n oM _).mono ?_;rintro _ SS ⟨abl,rfl,EF,HD,vP⟩;have SU:=jO.new vP EF HD;refine fc SU (λb=>.slice (aa ⟨b,0,ae⟩) 3 3) (.cells #[.slice (aa ⟨dJ,0,ae⟩) 1 1,.slice (aa ⟨tq,0,ae⟩) 1 1,.slice (aa ⟨abl,0,ae⟩) 4 4] 23) ?_;intro abm ax5 xW;refine fY 172 #[.slice (aa ⟨abm,0,ae⟩) 3 3] ?_;refine(abk abm dJ 0 1 1 (λ_=>78) tq 0 1 1 (bG 1 (s%256)) abl 0 4 4 (bG 4 (n%4294967296)) oM oM _ (xW.at_ 0 _ rfl) (St.eQ (N:=1) (f:=(λ_=>78)) (wr:=af) (t:=5) (fr:=(0,0)) xW 3) (St.eQ (N:=1) (f:=(bG 1 (s%256))) (wr:=af) (t:=5) (fr:=(0,0)) xW 2) (St.eQ (N:=4) (f:=(bG 4 (n%4294967296))) (wr:=af) (t:=5) (fr:=(0,0)) xW 1)).mono ?_;rintro _ ai_ ⟨Mv,SV,rfl,k_,An,SW,tj⟩;have xX:=xW.new tj An SW;refine fY 209 #[.slice ka kn kc,.slice (aa ⟨Mv,0,ae⟩) (1+1+4) SV] ?_;refine(SE ka kn kc kf Mv 0 (1+1+4) SV (k8 1 1 (λ_=>78) (bG 1 (s%256)) (bG 4 (n%4294967296))) (.of oM) oM _ (xX.at_ 6 _ rfl) (dM.quiet hk xX.ch) (St.BG (c:=SV) (wr:=af) (t:=5) (fr:=(0,0)) xX 0)).mono ?_;rintro _ Mm ⟨rfl,vS⟩;have aja:=xX.quiet vS;refine store_ aja 5 (.agg (aD .u8 8 (iF kn kf (1+1+4) (k8 1 1 (λ_=>78) (bG 1 (s%256)) (bG 4 (n%4294967296)))))) bN 0 ?_;intro ax6 Mw;refine aT (aQ (gC ?_));refine gD rfl (fR [.cell 6 126] [.agg (aD .u8 8 (iF kn kf (1+1+4) (k8 1 1 (λ_=>78) (bG 1 (s%256)) (bG 4 (n%4294967296)))))] (.agg (aD .u8 8 (iF kn kf (1+1+4) (k8 1 1 (λ_=>78) (bG 1 (s%256)) (bG 4 (n%4294967296)))))) ⟨og Mw 5 8 bN 0,trivial⟩) ?_;exact⟨by(unfold kg)<;>kernel_rfl,Mw.ch⟩
def abn (y s r:Int) (nc:Nat->Int) (hs:0<=s/\s<4294967296) (hr:0<=r/\r<4294967296) (w:aj):
 aX prog 213 #[.int .u8 y,.int .i64 s,.int .i64 r,.agg (aD .u8 8 nc)] w λv w1=>∃b c1,v=.slice (aa ⟨b,0,ae⟩) (1+1+1+8) c1/\1+1+1+8<=c1/\w.heap.size<=b/\w1.heap[b]?=aa (.cells (bE (1+1+1+8) (tp y s r nc) c1) 5 (0,0))/\Ch [] w w1:=by
 have S0:=St.nil [] w;refine iZ Tryz.func213 rfl ?_;refine aR (aZ ?_);refine fc S0 (λb=>.pointer (aa ⟨b,0,ae⟩)) (.cells (aD .u8 8 nc) 126) ?_;intro bN jd dV;refine av (.slice ae 0 0) ?_;refine aT (aQ (aR ?_));refine BB 7 [⟨0,λ_=>.int .u8 y,λ_=>[]⟩,⟨1,λids=>.slice (aa ⟨(ids.getD 0 0),0,ae⟩) 1 1,λids=>[((ids.getD 0 0),.cells #[.int .u8 y] 5 (0,0))]⟩,⟨0,λ_=>.int .i64 s,λ_=>[]⟩,⟨1,λids=>.slice (aa ⟨(ids.getD 0 0),0,ae⟩) 1 1,λids=>[((ids.getD 0 0),.cells #[.int .u8 ((bG 1 (s%256)) 0)] 5 (0,0))]⟩,⟨0,λ_=>.int .i64 r,λ_=>[]⟩,⟨1,λids=>.slice (aa ⟨(ids.getD 0 0),0,ae⟩) 1 1,λids=>[((ids.getD 0 0),.cells #[.int .u8 ((bG 1 (r%256)) 0)] 5 (0,0))]⟩,⟨0,λ_=>.slice (aa ⟨bN,0,ae⟩) 8 8,λ_=>[]⟩] [[7,1,0],[7,1],[7,3,2],[7,3],[7,5,4],[7,5],[7,6],[8,7,1,0],[8,7,1],[8,7,3,2],[8,7,3],[8,5,4],[8,5],[8,7,6],[8,7],[9,0],[9,1],[9,2],[9,3],[9,4],[9,5],[9,6],[9,7],[9,8]] ?_ ?_
 ·refine step_cons ja ?_;refine step_cons ?_ ?_
  ·intro EM nI Co abo EO;have xQ:EM 9=.int .u8 y:=(Sp.dT (EO 0 9 kR kR)).1;have EP:=dV.quiet Co;refine qY ?_;refine nq [(9,.int .u8 y)] (nr xQ (qW)) ?_;have Am:=EP.loc;refine Y.fc Am (λb=>.slice (aa ⟨b,0,ae⟩) 1 1) (.cells #[.int .u8 y] 5) ?_;intro Ml SS qj;exact⟨qj.ch,Sp.qX [Ml] (all_cons (qj.wY Co.size 0 kR) (all_nil))⟩
  refine step_cons ja ?_;refine step_cons ?_ ?_
  ·intro ajb aa1 abp ax7 ajc;have SX:ajb 11=.int .i64 s:=(Sp.dT (ajc 2 11 kR kR)).1;have xW:=dV.quiet abp;refine qY ?_;refine nq [(11,.int .i64 s)] (nr SX (qW)) ?_;have vT:=xW.loc;refine Y.fY 210 #[.int .i64 s,.int .i64 1] ?_;refine(Mt s oM _).mono ?_;rintro _ abq ⟨ajd,rfl,k_,An,uD⟩;have pr:=vT.new uD k_ An;exact⟨pr.ch,Sp.qX [ajd] (all_cons (pr.wY abp.size 0 kR) (all_nil))⟩
  refine step_cons ja ?_;refine step_cons ?_ ?_
  ·intro aje Mm Mx ax8 ajf;have mi:aje 13=.int .i64 r:=(Sp.dT (ajf 4 13 kR kR)).1;have My:=dV.quiet Mx;refine qY ?_;refine nq [(13,.int .i64 r)] (nr mi (qW)) ?_;have ajg:=My.loc;refine Y.fY 210 #[.int .i64 r,.int .i64 1] ?_;refine(Mt r oM _).mono ?_;rintro _ ax9 ⟨ajh,rfl,rK,HT,tu⟩;have abr:=ajg.new tu rK HT;exact⟨abr.ch,Sp.qX [ajh] (all_cons (abr.wY Mx.size 0 kR) (all_nil))⟩
  refine step_cons ja ?_;exact BA
 intro Cp SY aji Cq;have Sl:Cp 0=.int .u8 y:=(Sp.dT (Cq 0 kR)).1;have ajj:=Sp.wW (Cq 1 kR);obtain⟨ER,ajk,ajl⟩:=ajj;have ajm:Cp 1=.slice (aa ⟨ER,0,ae⟩) 1 1:=ajk;have ajn:∀zp∈([(ER,.cells #[.int .u8 y] 5 (0,0))]:List (Nat×Obj)),jd.heap.size<=zp.1/\SY.heap[zp.1]?=aa zp.2:=ajl;have EI:Cp 2=.int .i64 s:=(Sp.dT (Cq 2 kR)).1;have Sr:=Sp.wW (Cq 3 kR);obtain⟨mh,Ss,Su⟩:=Sr;have Sv:Cp 3=.slice (aa ⟨mh,0,ae⟩) 1 1:=Ss;have Sw:∀zp∈([(mh,.cells #[.int .u8 ((bG 1 (s%256)) 0)] 5 (0,0))]:List (Nat×Obj)),jd.heap.size<=zp.1/\SY.heap[zp.1]?=aa zp.2:=Su;have Sz:Cp 4=.int .i64 r:=(Sp.dT (Cq 4 kR)).1;have ajo:=Sp.wW (Cq 5 kR);obtain⟨xN,ajp,ajq⟩:=ajo;have ajr:Cp 5=.slice (aa ⟨xN,0,ae⟩) 1 1:=ajp;have ajs:∀zp∈([(xN,.cells #[.int .u8 ((bG 1 (r%256)) 0)] 5 (0,0))]:List (Nat×Obj)),jd.heap.size<=zp.1/\SY.heap[zp.1]?=aa zp.2:=ajq;have ajt:Cp 6=.slice (aa ⟨bN,0,ae⟩) 8 8:=(Sp.dT (Cq 6 kR)).1;have aju:=dV.ro aji (([(ER,.cells #[.int .u8 y] 5 (0,0))]++([(mh,.cells #[.int .u8 ((bG 1 (s%256)) 0)] 5 (0,0))]++[(xN,.cells #[.int .u8 ((bG 1 (r%256)) 0)] 5 (0,0))]))) (List.forall_mem_append.2 ⟨ajn,List.forall_mem_append.2 ⟨Sw,ajs⟩⟩);refine⟨[.int .u8 y,.slice (aa ⟨ER,0,ae⟩) 1 1,.int .i64 s,.slice (aa ⟨mh,0,ae⟩) 1 1,.int .i64 r,.slice (aa ⟨xN,0,ae⟩) 1 1,.slice (aa ⟨bN,0,ae⟩) 8 8],kR,eA Sl (eA ajm (eA EI (eA Sv (eA Sz (eA ajr (eA ajt (DO))))))),?_⟩;refine fc aju (λb=>.slice (aa ⟨b,0,ae⟩) 4 4) (.cells #[.slice (aa ⟨ER,0,ae⟩) 1 1,.slice (aa ⟨mh,0,ae⟩) 1 1,.slice (aa ⟨xN,0,ae⟩) 1 1,.slice (aa ⟨bN,0,ae⟩) 8 8] 23) ?_;intro abt ax_ ES;refine fY 172 #[.slice (aa ⟨abt,0,ae⟩) 4 4] ?_;refine(ai7 abt ER 0 1 1 (λ_=>y) mh 0 1 1 (bG 1 (s%256)) xN 0 1 1 (bG 1 (r%256)) bN 0 8 8 nc oM oM _ (ES.at_ 0 _ rfl) (St.eQ (N:=1) (f:=(λ_=>y)) (wr:=ag) (t:=5) (fr:=(0,0)) ES 1) (St.eQ (N:=1) (f:=(bG 1 (s%256))) (wr:=ag) (t:=5) (fr:=(0,0)) ES 2) (St.eQ (N:=1) (f:=(bG 1 (r%256))) (wr:=ag) (t:=5) (fr:=(0,0)) ES 3) (St.eQ (N:=8) (f:=nc) (wr:=af) (t:=126) (fr:=(0,0)) ES 4)).mono ?_;rintro _ aya ⟨SZ,HU,rfl,ajv,S9,S_,SB⟩;have Tb:=ES.new SB S9 S_;refine fp ?_;refine aT (aQ (gC ?_));refine gD rfl (fR [.tmp 8] [.slice (aa ⟨SZ,0,ae⟩) (1+1+1+8) HU] (.slice (aa ⟨SZ,0,ae⟩) (1+1+1+8) HU) ⟨jw,trivial⟩) ?_;have ze:bE (1+1+1+8) (HC 1 1 1 (λ_=>y) (bG 1 (s%256)) (bG 1 (r%256)) nc) HU=bE (1+1+1+8) (tp y s r nc) HU:=kR;exact⟨SZ,HU,by rw[show(1+1+1+8)=1+1+1+8 by omega],by have:=ajv;omega,(Tb.own 0 _ rfl rfl).resolve_left sP,by rw[<-ze];exact Tb.at_ 0 _ rfl,Tb.ch⟩
def ajw (ka:Option aI) (kn kc:Nat) (kf:Nat->Int) (s r:Int) (nc:Nat->Int) (lN:Al ka kn) (hs:0<=s/\s<4294967296) (hr:0<=r/\r<4294967296) {tG:aM} (w:aj) (hG:w.heap[0]?=aa (.cells (aD .u32 64 c_) tG (0,0))) (hk:dM w ka kn kc kf):
 aX prog 167 #[.slice ka kn kc,.int .i64 s,.int .i64 r,.agg (aD .u8 8 nc)] w λv w1=>v=.agg (aD .u8 8 (uH kn kf s r nc))/\Ch [] w w1:=by
 have S0:=St.given (w:=w) [(0,.cells (aD .u32 64 c_) tG (0,0))] (all_cons hG (all_nil));refine iZ Tryz.func167 rfl ?_;refine aR (aZ ?_);refine fc S0 (λb=>.pointer (aa ⟨b,0,ae⟩)) (.cells (aD .u8 8 nc) 126) ?_;intro bN jd dV;refine fc dV (λb=>.pointer (aa ⟨b,0,ae⟩)) (.cells (aD .u8 8 (λ_=>0)) 126) ?_;intro dJ nI dr;refine aT (aQ (aR (aZ ?_)));refine av (.slice ka kn kc) ?_;refine av (.int .i64 s) ?_;refine av (.int .i64 r) ?_;refine kS dr 1 8 (aD .u8 8 nc) bN 0 ?_;refine fY 213 #[.int .u8 80,.int .i64 s,.int .i64 r,.agg (aD .u8 8 nc)] ?_;refine(abn 80 s r nc oM oM _).mono ?_;rintro _ EG ⟨tq,Cr,rfl,xK,oB,vP,qh⟩;have jO:=dr.new qh oB vP;refine fY 209 #[.slice ka kn kc,.slice (aa ⟨tq,0,ae⟩) (1+1+1+8) Cr] ?_;refine(SE ka kn kc kf tq 0 (1+1+1+8) Cr (tp 80 s r nc) lN oM _ (jO.at_ 3 _ rfl) (dM.quiet hk jO.ch) (St.BG (c:=Cr) (wr:=af) (t:=5) (fr:=(0,0)) jO 0)).mono ?_;rintro _ EE ⟨rfl,lP⟩;have te:=jO.quiet lP;refine store_ te 1 (.agg (aD .u8 8 (iF kn kf (1+1+1+8) (tp 80 s r nc)))) dJ 0 ?_;intro Ci rI;refine aT (aQ (gC ?_));refine gD rfl (fR [.cell 8 126] [.agg (aD .u8 8 (iF kn kf (1+1+1+8) (tp 80 s r nc)))] (.agg (aD .u8 8 (iF kn kf (1+1+1+8) (tp 80 s r nc)))) ⟨og rI 1 8 dJ 0,trivial⟩) ?_;exact⟨by(unfold uH)<;>kernel_rfl,rI.ch⟩
def ajx (ka:Option aI) (kn kc:Nat) (kf:Nat->Int) (s r:Int) (nc:Nat->Int) (lN:1<=kn/\kn<=64) (hs:0<=s/\s<4294967296) (hr:0<=r/\r<4294967296) {tG:aM} (w:aj) (hG:w.heap[0]?=aa (.cells (aD .u32 64 c_) tG (0,0))) (hk:dM w ka kn kc kf):
 aX prog 167 #[.slice ka kn kc,.int .i64 s,.int .i64 r,.agg (aD .u8 8 nc)] w λv w1=>v=.agg (aD .u8 8 (uH kn kf s r nc))/\Ch [] w w1:=ajw ka kn kc kf s r nc (.of lN) hs hr w hG hk
def ajy (ka:Option aI) (kn kc:Nat) (kf:Nat->Int) (s r:Int) (nc:Nat->Int) (lN:Al ka kn) (hs:0<=s/\s<4294967296) (hr:0<=r/\r<4294967296) {tG:aM} (w:aj) (hG:w.heap[0]?=aa (.cells (aD .u32 64 c_) tG (0,0))) (hk:dM w ka kn kc kf):
 aX prog 169 #[.slice ka kn kc,.int .i64 s,.int .i64 r,.agg (aD .u8 8 nc)] w λv w1=>v=.agg (aD .u8 32 (lO kn kf s r nc))/\Ch [] w w1:=by
 have S0:=St.given (w:=w) [(0,.cells (aD .u32 64 c_) tG (0,0))] (all_cons hG (all_nil));refine iZ Tryz.func169 rfl ?_;refine aR (aZ ?_);refine fc S0 (λb=>.pointer (aa ⟨b,0,ae⟩)) (.cells (aD .u8 8 nc) 126) ?_;intro bN jd dV;refine fc dV (λb=>.pointer (aa ⟨b,0,ae⟩)) (.cells (aD .u8 32 (λ_=>0)) 46) ?_;intro dJ nI dr;refine aT (aQ (aR (aZ ?_)));refine av (.slice ka kn kc) ?_;refine av (.int .i64 s) ?_;refine av (.int .i64 r) ?_;refine kS dr 1 8 (aD .u8 8 nc) bN 0 ?_;refine fY 213 #[.int .u8 75,.int .i64 s,.int .i64 r,.agg (aD .u8 8 nc)] ?_;refine(abn 75 s r nc oM oM _).mono ?_;rintro _ EG ⟨tq,Cr,rfl,xK,oB,vP,qh⟩;have jO:=dr.new qh oB vP;refine fY 214 #[.slice ka kn kc,.slice (aa ⟨tq,0,ae⟩) (1+1+1+8) Cr] ?_;refine(vQ ka kn kc kf tq 0 (1+1+1+8) Cr (tp 75 s r nc) lN oM _ (jO.at_ 3 _ rfl) (dM.quiet hk jO.ch) (St.BG (c:=Cr) (wr:=af) (t:=5) (fr:=(0,0)) jO 0)).mono ?_;rintro _ EE ⟨rfl,lP⟩;have te:=jO.quiet lP;refine store_ te 1 (.agg (aD .u8 32 (iF kn kf (1+1+1+8) (tp 75 s r nc)))) dJ 0 ?_;intro Ci rI;refine aT (aQ (gC ?_));refine gD rfl (fR [.cell 8 46] [.agg (aD .u8 32 (iF kn kf (1+1+1+8) (tp 75 s r nc)))] (.agg (aD .u8 32 (iF kn kf (1+1+1+8) (tp 75 s r nc)))) ⟨og rI 1 32 dJ 0,trivial⟩) ?_;exact⟨by(unfold lO)<;>kernel_rfl,rI.ch⟩
def ajz (ka:Option aI) (kn kc:Nat) (kf:Nat->Int) (s r:Int) (nc:Nat->Int) (lN:1<=kn/\kn<=64) (hs:0<=s/\s<4294967296) (hr:0<=r/\r<4294967296) {tG:aM} (w:aj) (hG:w.heap[0]?=aa (.cells (aD .u32 64 c_) tG (0,0))) (hk:dM w ka kn kc kf):
 aX prog 169 #[.slice ka kn kc,.int .i64 s,.int .i64 r,.agg (aD .u8 8 nc)] w λv w1=>v=.agg (aD .u8 32 (lO kn kf s r nc))/\Ch [] w w1:=ajy ka kn kc kf s r nc (.of lN) hs hr w hG hk
def close_ (k:Nat->Int) (s:Int) (b o m c:Nat) (f:Nat->Int) (hm:m<=50) (hs:0<=s/\s<4294967296) {tG:aM} (w:aj) (hG:w.heap[0]?=aa (.cells (aD .u32 64 c_) tG (0,0))) (hB:cA w b o m f):
 aX prog 171 #[.agg (aD .u8 32 k),.int .i64 s,.slice (aa ⟨b,o,ae⟩) m c] w λv w1=>∃b c1,v=.slice (aa ⟨b,0,ae⟩) (m+8) c1/\m+8<=c1/\w.heap.size<=b/\w1.heap[b]?=aa (.cells (bE (m+8) (vR k s m f) c1) 5 (0,0))/\Ch [] w w1:=by
 have S0:=St.given (w:=w) [(0,.cells (aD .u32 64 c_) tG (0,0))] (all_cons hG (all_nil));refine iZ Tryz.func171 rfl ?_;refine aR (aZ ?_);refine fc S0 (λb=>.pointer (aa ⟨b,0,ae⟩)) (.cells (aD .u8 32 k) 46) ?_;intro bN jd dV;refine av (.slice ae 0 0) ?_;refine aT (aQ (aR ?_));refine BB 9 [⟨0,λ_=>.slice (aa ⟨bN,0,ae⟩) 32 32,λ_=>[]⟩,⟨1,λids=>.slice (aa ⟨(ids.getD 0 0),0,ae⟩) 1 1,λids=>[((ids.getD 0 0),.cells #[.int .u8 77] 5 (0,0))]⟩,⟨0,λ_=>.int .i64 s,λ_=>[]⟩,⟨1,λids=>.slice (aa ⟨(ids.getD 0 0),0,ae⟩) 1 1,λids=>[((ids.getD 0 0),.cells #[.int .u8 ((bG 1 (s%256)) 0)] 5 (0,0))]⟩,⟨0,λ_=>.slice (aa ⟨b,o,ae⟩) m c,λ_=>[]⟩,⟨3,λids=>.slice (aa ⟨(ids.getD 0 0),0,ae⟩) 3 3,λids=>[((ids.getD 0 0),.cells #[.slice (aa ⟨(ids.getD 1 0),0,ae⟩) 1 1,.slice (aa ⟨(ids.getD 2 0),0,ae⟩) 1 1,.slice (aa ⟨b,o,ae⟩) m c] 23 (0,0)),((ids.getD 1 0),.cells #[.int .u8 77] 5 (0,0)),((ids.getD 2 0),.cells #[.int .u8 ((bG 1 (s%256)) 0)] 5 (0,0))]⟩,⟨2,λids=>.slice (aa ⟨(ids.getD 0 0),0,ae⟩) (1+1+m) (ids.getD 1 0),λids=>[((ids.getD 0 0),.cells (bE (1+1+m) (k8 1 1 (λ_=>77) (bG 1 (s%256)) f) (ids.getD 1 0)) 5 (0,0))]⟩,⟨0,λ_=>.agg (aD .u8 8 (iF 32 k (1+1+m) (k8 1 1 (λ_=>77) (bG 1 (s%256)) f))),λ_=>[]⟩,⟨1,λids=>.pointer (aa ⟨(ids.getD 0 0),0,ae⟩),λids=>[((ids.getD 0 0),.cells (aD .u8 8 (λ_=>0)) 126 (0,0))]⟩] [[9,0],[9,1],[9,2],[9,3],[9,4],[9,5],[9,6],[9,7],[9,8]] ?_ ?_
 ·refine step_cons ja ?_;refine step_cons ?_ ?_
  ·intro EM nI Co abo EO;have jO:=dV.quiet Co;refine qY ?_;refine nq [] (qW) ?_;have EP:=jO.loc;refine Y.fc EP (λb=>.slice (aa ⟨b,0,ae⟩) 1 1) (.cells #[.int .u8 77] 5) ?_;intro ajA SF Ck;exact⟨Ck.ch,Sp.qX [ajA] (all_cons (Ck.wY Co.size 0 kR) (all_nil))⟩
  refine step_cons ja ?_;refine step_cons ?_ ?_
  ·intro ajB EE abu ayb ajC;have Ak:ajB 10=.int .i64 s:=(Sp.dT (ajC 2 10 kR kR)).1;have tf:=dV.quiet abu;refine qY ?_;refine nq [(10,.int .i64 s)] (nr Ak (qW)) ?_;have xW:=tf.loc;refine Y.fY 210 #[.int .i64 s,.int .i64 1] ?_;refine(Mt s oM _).mono ?_;rintro _ ai_ ⟨Mv,rfl,rL,k_,tj⟩;have xX:=xW.new tj rL k_;exact⟨xX.ch,Sp.qX [Mv] (all_cons (xX.wY abu.size 0 kR) (all_nil))⟩
  refine step_cons ja ?_;refine step_cons ?_ ?_
  ·intro Tc Mz abv ayc Td;have ajD:=Sp.wW (Td 1 9 kR kR);obtain⟨ET,ajE,ajF⟩:=ajD;have MA:Tc 9=.slice (aa ⟨ET,0,ae⟩) 1 1:=ajE;have abw:∀zp∈([(ET,.cells #[.int .u8 77] 5 (0,0))]:List (Nat×Obj)),jd.heap.size<=zp.1/\Mz.heap[zp.1]?=aa zp.2:=ajF;have ajG:=Sp.wW (Td 3 11 kR kR);obtain⟨EU,ajH,ajI⟩:=ajG;have xY:Tc 11=.slice (aa ⟨EU,0,ae⟩) 1 1:=ajH;have abx:∀zp∈([(EU,.cells #[.int .u8 ((bG 1 (s%256)) 0)] 5 (0,0))]:List (Nat×Obj)),jd.heap.size<=zp.1/\Mz.heap[zp.1]?=aa zp.2:=ajI;have rK:Tc 12=.slice (aa ⟨b,o,ae⟩) m c:=(Sp.dT (Td 4 12 kR kR)).1;have ajJ:=dV.ro abv (([(ET,.cells #[.int .u8 77] 5 (0,0))]++[(EU,.cells #[.int .u8 ((bG 1 (s%256)) 0)] 5 (0,0))])) (List.forall_mem_append.2 ⟨abw,abx⟩);refine qY ?_;refine nq [(9,.slice (aa ⟨ET,0,ae⟩) 1 1),(11,.slice (aa ⟨EU,0,ae⟩) 1 1),(12,.slice (aa ⟨b,o,ae⟩) m c)] (nr MA (nr xY (nr rK (qW)))) ?_;have ajK:=ajJ.loc;refine Y.fc ajK (λb=>.slice (aa ⟨b,0,ae⟩) 3 3) (.cells #[.slice (aa ⟨ET,0,ae⟩) 1 1,.slice (aa ⟨EU,0,ae⟩) 1 1,.slice (aa ⟨b,o,ae⟩) m c] 23) ?_;intro ajL ayd Ao;exact⟨Ao.ch,Sp.qX [ajL,ET,EU] (all_cons (Ao.wY abv.size 0 kR) (all_cons (Ao.YZ 1 (abw _ (DB _)).1 ag kR) (all_cons (Ao.YZ 2 (abx _ (DB _)).1 ag kR) (all_nil))))⟩
  refine step_cons ?_ ?_
  ·intro ajM ajN aby aye ajO;have ajP:=Sp.YY (ajO 5 13 kR kR);obtain⟨EV,mh,HV,ajQ,ajR⟩:=ajP;have EI:ajM 13=.slice (aa ⟨EV,0,ae⟩) 3 3:=ajQ;have ajS:∀zp∈([(EV,.cells #[.slice (aa ⟨mh,0,ae⟩) 1 1,.slice (aa ⟨HV,0,ae⟩) 1 1,.slice (aa ⟨b,o,ae⟩) m c] 23 (0,0)),(mh,.cells #[.int .u8 77] 5 (0,0)),(HV,.cells #[.int .u8 ((bG 1 (s%256)) 0)] 5 (0,0))]:List (Nat×Obj)),jd.heap.size<=zp.1/\ajN.heap[zp.1]?=aa zp.2:=ajR;have Mn:=dV.ro aby ([(EV,.cells #[.slice (aa ⟨mh,0,ae⟩) 1 1,.slice (aa ⟨HV,0,ae⟩) 1 1,.slice (aa ⟨b,o,ae⟩) m c] 23 (0,0)),(mh,.cells #[.int .u8 77] 5 (0,0)),(HV,.cells #[.int .u8 ((bG 1 (s%256)) 0)] 5 (0,0))]) (ajS);refine qY ?_;refine nq [(13,.slice (aa ⟨EV,0,ae⟩) 3 3)] (nr EI (qW)) ?_;have HW:=Mn.loc;refine Y.fY 172 #[.slice (aa ⟨EV,0,ae⟩) 3 3] ?_;refine(abk EV mh 0 1 1 (λ_=>77) HV 0 1 1 (bG 1 (s%256)) b o m c f oM oM _ (HW.at_ 0 _ rfl) (St.eQ (N:=1) (f:=(λ_=>77)) (wr:=ag) (t:=5) (fr:=(0,0)) HW 1) (St.eQ (N:=1) (f:=(bG 1 (s%256))) (wr:=ag) (t:=5) (fr:=(0,0)) HW 2) (St.mP HW (St.mP Mn hB sP) sP)).mono ?_;rintro _ aiO ⟨ajT,ajU,rfl,ayf,ajV,aa7,ajW⟩;have abz:=HW.new ajW ajV aa7;exact⟨abz.ch,Sp.qX [ajT,ajU] (all_cons (abz.wY aby.size 0 kR) (all_nil))⟩
  refine step_cons ?_ ?_
  ·intro abA ajX ajY ayg abB;have S9:abA 8=.slice (aa ⟨bN,0,ae⟩) 32 32:=(Sp.dT (abB 0 8 kR kR)).1;have ajZ:=Sp.YX (abB 6 14 kR kR);obtain⟨EW,Cs,aj0,aj1⟩:=ajZ;have S_:abA 14=.slice (aa ⟨EW,0,ae⟩) (1+1+m) Cs:=aj0;have aj2:∀zp∈([(EW,.cells (bE (1+1+m) (k8 1 1 (λ_=>77) (bG 1 (s%256)) f) Cs) 5 (0,0))]:List (Nat×Obj)),jd.heap.size<=zp.1/\ajX.heap[zp.1]?=aa zp.2:=aj1;have aj3:=dV.ro ajY ([(EW,.cells (bE (1+1+m) (k8 1 1 (λ_=>77) (bG 1 (s%256)) f) Cs) 5 (0,0))]) (aj2);refine qY ?_;refine nq [(8,.slice (aa ⟨bN,0,ae⟩) 32 32),(14,.slice (aa ⟨EW,0,ae⟩) (1+1+m) Cs)] (nr S9 (nr S_ (qW))) ?_;have MB:=aj3.loc;refine Y.fY 209 #[.slice (aa ⟨bN,0,ae⟩) 32 32,.slice (aa ⟨EW,0,ae⟩) (1+1+m) Cs] ?_;refine(SE (aa ⟨bN,0,ae⟩) 32 32 k EW 0 (1+1+m) Cs (k8 1 1 (λ_=>77) (bG 1 (s%256)) f) (.of oM) oM _ (MB.at_ 2 _ rfl) (dM.Qz (St.eQ (N:=32) (f:=k) (wr:=ag) (t:=46) (fr:=(0,0)) MB 1) oM oM) (St.BG (c:=Cs) (wr:=ag) (t:=5) (fr:=(0,0)) MB 0)).mono ?_;rintro _ ayh ⟨rfl,aj4⟩;have aj5:=MB.quiet aj4;exact⟨aj5.ch,Sp.qX [] (all_nil)⟩
  refine step_cons ?_ ?_
  ·intro ayi ayj abC ayk ayl;have aj6:=dV.quiet abC;refine qY ?_;refine nq [] (qW) ?_;have aj7:=aj6.loc;refine Y.fc aj7 (λb=>.pointer (aa ⟨b,0,ae⟩)) (.cells (aD .u8 8 (λ_=>0)) 126) ?_;intro aj8 aym abD;exact⟨abD.ch,Sp.qX [aj8] (all_cons (abD.wY abC.size 0 kR) (all_nil))⟩
  exact BA
 intro xZ HX aj9 x_;have aj_:xZ 0=.slice (aa ⟨bN,0,ae⟩) 32 32:=(Sp.dT (x_ 0 kR)).1;have aka:=Sp.wW (x_ 1 kR);obtain⟨Te,akb,akc⟩:=aka;have akd:xZ 1=.slice (aa ⟨Te,0,ae⟩) 1 1:=akb;have ayn:∀zp∈([(Te,.cells #[.int .u8 77] 5 (0,0))]:List (Nat×Obj)),jd.heap.size<=zp.1/\HX.heap[zp.1]?=aa zp.2:=akc;have ake:xZ 2=.int .i64 s:=(Sp.dT (x_ 2 kR)).1;have akf:=Sp.wW (x_ 3 kR);obtain⟨Tf,akg,akh⟩:=akf;have aki:xZ 3=.slice (aa ⟨Tf,0,ae⟩) 1 1:=akg;have ayo:∀zp∈([(Tf,.cells #[.int .u8 ((bG 1 (s%256)) 0)] 5 (0,0))]:List (Nat×Obj)),jd.heap.size<=zp.1/\HX.heap[zp.1]?=aa zp.2:=akh;have akj:xZ 4=.slice (aa ⟨b,o,ae⟩) m c:=(Sp.dT (x_ 4 kR)).1;have akk:=Sp.YY (x_ 5 kR);obtain⟨Tg,abE,abF,akl,akm⟩:=akk;have akn:xZ 5=.slice (aa ⟨Tg,0,ae⟩) 3 3:=akl;have ayp:∀zp∈([(Tg,.cells #[.slice (aa ⟨abE,0,ae⟩) 1 1,.slice (aa ⟨abF,0,ae⟩) 1 1,.slice (aa ⟨b,o,ae⟩) m c] 23 (0,0)),(abE,.cells #[.int .u8 77] 5 (0,0)),(abF,.cells #[.int .u8 ((bG 1 (s%256)) 0)] 5 (0,0))]:List (Nat×Obj)),jd.heap.size<=zp.1/\HX.heap[zp.1]?=aa zp.2:=akm;have ako:=Sp.YX (x_ 6 kR);obtain⟨Th,Ti,akp,akq⟩:=ako;have akr:xZ 6=.slice (aa ⟨Th,0,ae⟩) (1+1+m) Ti:=akp;have ayq:∀zp∈([(Th,.cells (bE (1+1+m) (k8 1 1 (λ_=>77) (bG 1 (s%256)) f) Ti) 5 (0,0))]:List (Nat×Obj)),jd.heap.size<=zp.1/\HX.heap[zp.1]?=aa zp.2:=akq;have aks:xZ 7=.agg (aD .u8 8 (iF 32 k (1+1+m) (k8 1 1 (λ_=>77) (bG 1 (s%256)) f))):=(Sp.dT (x_ 7 kR)).1;have akt:=Sp.wW (x_ 8 kR);obtain⟨Ct,aku,akv⟩:=akt;have akw:xZ 8=.pointer (aa ⟨Ct,0,ae⟩):=aku;have abG:∀zp∈([(Ct,.cells (aD .u8 8 (λ_=>0)) 126 (0,0))]:List (Nat×Obj)),jd.heap.size<=zp.1/\HX.heap[zp.1]?=aa zp.2:=akv;have akx:=dV.new aj9 (abG _ (DB _)).1 (abG _ (DB _)).2;refine⟨[.slice (aa ⟨bN,0,ae⟩) 32 32,.slice (aa ⟨Te,0,ae⟩) 1 1,.int .i64 s,.slice (aa ⟨Tf,0,ae⟩) 1 1,.slice (aa ⟨b,o,ae⟩) m c,.slice (aa ⟨Tg,0,ae⟩) 3 3,.slice (aa ⟨Th,0,ae⟩) (1+1+m) Ti,.agg (aD .u8 8 (iF 32 k (1+1+m) (k8 1 1 (λ_=>77) (bG 1 (s%256)) f))),.pointer (aa ⟨Ct,0,ae⟩)],kR,eA aj_ (eA akd (eA ake (eA aki (eA akj (eA akn (eA akr (eA aks (eA akw (DO))))))))),?_⟩;refine store_ akx 0 (.agg (aD .u8 8 (iF 32 k (1+1+m) (k8 1 1 (λ_=>77) (bG 1 (s%256)) f)))) Ct 0 ?_;intro ayr aky;refine aT (aQ (aR (aZ ?_)));refine dh ?_;refine av (.slice (aa ⟨Ct,0,ae⟩) 8 8) ?_;refine fc aky (λb=>.slice (aa ⟨b,0,ae⟩) 2 2) (.cells #[.slice (aa ⟨b,o,ae⟩) m c,.slice (aa ⟨Ct,0,ae⟩) 8 8] 23) ?_;intro abH ays MC;refine fY 172 #[.slice (aa ⟨abH,0,ae⟩) 2 2] ?_;refine(ai8 abH b o m c f Ct 0 8 8 (iF 32 k (1+1+m) (k8 1 1 (λ_=>77) (bG 1 (s%256)) f)) oM oM _ (MC.at_ 0 _ rfl) (St.mP MC hB sP) (St.eQ (N:=8) (f:=(iF 32 k (1+1+m) (k8 1 1 (λ_=>77) (bG 1 (s%256)) f))) (wr:=af) (t:=126) (fr:=(0,0)) MC 1)).mono ?_;rintro _ ayt ⟨Tj,HY,rfl,akz,akA,akB,akC⟩;have Tk:=MC.new akC akA akB;refine fp ?_;refine aT (aQ (gC ?_));refine gD rfl (fR [.tmp 6] [.slice (aa ⟨Tj,0,ae⟩) (m+8) HY] (.slice (aa ⟨Tj,0,ae⟩) (m+8) HY) ⟨jw,trivial⟩) ?_;have ze:bE (m+8) (cx m f (iF 32 k (1+1+m) (k8 1 1 (λ_=>77) (bG 1 (s%256)) f))) HY=bE (m+8) (vR k s m f) HY:=kR;exact⟨Tj,HY,by rw[show(m+8)=m+8 by omega],by have:=akz;omega,(Tk.own 0 _ rfl rfl).resolve_left sP,by rw[<-ze];exact Tk.at_ 0 _ rfl,Tk.ch⟩
def HZ:dk CG:=λargs bl ch K=>match args,ch with
 |[.raw (.slice (aa ⟨b,o,ae⟩) n c),.raw (.slice (aa ⟨b2,o2,ae⟩) n2 c2)],.bj u::_=>(match EJ ch with
  |some (l,r)=>∃f g:Nat->Int,(cA u b o n f/\b2=r.b/\n=n2/\o2+n2<=r.n/\n<=1000000/\∀j,j<n->xT o2 r.f j=g j)/\K (.bool (tn n f g)) bl ch
  |none=>False)
 |_,_=>False
def H0:dk CG:=λargs bl ch K=>match args,ch with
 |[.agg l,.int .i64 s,.raw (.slice (aa ⟨b,o,ae⟩) n c)],.bj u::_=>(match qi l with
  |some r=>∃f k:Nat->Int,(cA u b o n f/\n<=50/\(0<=s/\s<4294967296)/\(∃tG,u.heap[0]?=aa (.cells (aD .u32 64 c_) tG (0,0)))/\r.length=32/\∀j,j<32->gu r j=k j)/\∀b' c',n+8<=c'->K (.raw (.slice (aa ⟨b',0,ae⟩) (n+8) c')) bl (ch++[.row ⟨n+8,vR k s n f,b',c'⟩])
  |none=>False)
 |_,_=>False
def H2:dk CG:=λargs bl ch K=>match args,ch with
 |[.sl i 0 1 1],.bj u::_=>(match bl[i]?with
  |some ⟨_,⟨23,(0,0)⟩,[.raw (.slice (aa ⟨b,o,ae⟩) n c)]⟩=>∃f,(cA u b o n f/\n<=1000000)/\(n=0->K (.raw (.slice ae 0 0)) bl ch)/\(0<n->∀b' c',n<=c'->K (.raw (.slice (aa ⟨b',0,ae⟩) n c')) bl (ch++[.row ⟨n,f,b',c'⟩]))
  |_=>False)
 |_,_=>False
def abI {w:aj} {r:R8} {o m:Nat} (h:w.heap[r.b]?=aa (.cells (bE r.n r.f r.c) 5 (0,0))) (hm:o+m<=r.n):cA w r.b o m (xT o r.f):=λj hj=>by
 rw[cell_of h,aba];unfold bE;simp only[jX];rw[gm (by rw[gf];omega)];exact rh _ oM
def cA.cg {w:aj} {b o n:Nat} {f g:Nat->Int} (h:cA w b o n f) (e:∀j,j<n->f j=g j):cA w b o n g:=λj hj=>by rw[h j hj,e j hj]
def H3 {ids:List Nat} {bl:List VB} {u:aj} {rest:List CG} {R:List ao} {y:ao} (h:y∈cw u):y∈lits ids ids bl++au (CG.bj u::rest) R:=List.mem_append_right _ (pS _ h)
def Tl {ids:List Nat} {bl:List VB} {u w w0:aj} {rest:List CG} {R:List ao} {ms:List Nat} (S:St ms w0 (lits ids ids bl++au (CG.bj u::rest) R) w) {i:Nat} {o:Obj} (h:u.heap[i]?=aa o):w.heap[i]?=aa o:=S.at' (x:=⟨i,ag,o⟩) (H3 (Mp h))
def akD {gl:Nat->Option Nat}:Sound prog gl 168 HZ:=by
 intro args ids bl ch R ms w0 w K hg hl S hc;unfold HZ at hc;split at hc
 ·rename_i b o n c b2 o2 n2 c2 u rest;split at hc
  ·rename_i l r HN;obtain⟨f,g,⟨h8,rfl,rfl,hle,hn,hgj⟩,hK⟩:=hc;have S1:=S;rw[Mq HN]at S1;refine(aa9 b o n c r.b o2 c2 f g hn w (Ms S (λy hy=>H3 hy) h8) (cA.cg (abI (HR S1) hle) hgj)).mono ?_;rintro v w' ⟨rfl,cz⟩;exact⟨.bool (tn n f g),[],bl,_,rfl,by simpa using hl,by simpa using S.quiet cz,hK⟩
  ·exact hc.elim
 ·exact hc.elim
def akE:jo HZ:=by
 intro args bl ch K hc;unfold HZ at hc⊢;split at hc
 ·split at hc
  ·obtain⟨f,g,h,hK⟩:=hc;rename_i e;try simp only[e]
   exact⟨f,g,h,hK,[],sP⟩
  ·exact hc.elim
 ·exact hc.elim
def abJ {ids:List Nat} {bl:List VB} {ch:List CG} {R:List ao} {ms:List Nat} {w0 w w':aj} {n b c:Nat} {f:Nat->Int} (S:St ms w0 (lits ids ids bl++au ch R) w) (cz:Ch [] w w') (fh:w.heap.size<=b) (aS:w'.heap[b]?=aa (.cells (bE n f c) 5 (0,0))):St ms w0 (lits ids ids bl++au (ch++[.row ⟨n,f,b,c⟩]) R) w':=by
 rw[HM];rw[SG]at S;exact S.vw (bl':=[⟨b,af,.cells (bE n f c) 5 (0,0)⟩]) (λy hy=>nomatch hy) cz (λy hy=>by
  obtain rfl:=jZ.1 hy;exact aS) (λy hy=>by
  obtain rfl:=jZ.1 hy;exact .inr fh) sP
def akF {gl:Nat->Option Nat}:Sound prog gl 171 H0:=by
 intro args ids bl ch R ms w0 w K hg hl S hc;unfold H0 at hc;split at hc
 ·rename_i l s b o n c u rest;split at hc
  ·rename_i r hr;obtain⟨f,k,⟨h8,hn,hs,⟨tG,hG⟩,hq,hk⟩,hK⟩:=hc;have ea:(aE ids [.agg l,.int .i64 s,.raw (.slice (aa ⟨b,o,ae⟩) n c)]).toArray=#[.agg (aD .u8 32 k),.int .i64 s,.slice (aa ⟨b,o,ae⟩) n c]:=by
    simp only[aE,den,HK ids hr,hq];rw[DX hk];rfl
   rw[ea];refine(close_ k s b o n c f hn hs w (Tl S hG) (Ms S (λy hy=>H3 hy) h8)).mono ?_;rintro v w' ⟨b2,c2,rfl,hle,fh,aS,cz⟩;exact⟨_,[],bl,_,rfl,by simpa using hl,by simpa using abJ S cz fh aS,hK b2 c2 hle⟩
  ·exact hc.elim
 ·exact hc.elim
def akH:jo H0:=by
 intro args bl ch K hc;unfold H0 at hc⊢;split at hc
 ·split at hc
  ·obtain⟨f,k,h,hK⟩:=hc;exact⟨f,k,h,λb c h=>⟨hK b c h,[],sP⟩⟩
  ·exact hc.elim
 ·exact hc.elim
def akI {gl:Nat->Option Nat}:Sound prog gl 172 H2:=by
 intro args ids bl ch R ms w0 w K hg hl S hc;unfold H2 at hc;split at hc
 ·rename_i i u rest;split at hc
  ·rename_i wr b o n c hb;obtain⟨f,⟨h8,hn⟩,uG,SJ⟩:=hc;have aS:=(gx hl S hb).2
   let ps:List JP:=[((b,o,n,c),f)]
   have et:gI ps 0=n:=by show 0+n=_;rw[dS]
   refine(Mu (k:=1) (ps:=ps) (z:=λ_=>0) (λK=>ai3 w K (b,o,n,c)) aS (by rw[et];exact hn) (λq hq=>by
    rcases cF.1 hq with rfl|hq
    ·exact Ms S (λy hy=>H3 hy) h8
    cases hq)).mono ?_
   rintro v w' ⟨cz,⟨h,rfl⟩|⟨h0,b',c',rfl,h1,h2,h3⟩⟩
   ·exact⟨_,[],bl,_,rfl,by simpa using hl,by simpa using S.quiet cz,uG (by rw[<-et];exact h)⟩
   ·have ec:mU ps 0 (λ_=>0)=f:=by
     simp only[ps,mU,dS,xU 0]
    rw[et]at h1 h3⊢;rw[ec]at h3;rw[et]at h0;exact⟨_,[],bl,_,rfl,by simpa using hl,by simpa using abJ S cz h2 h3,SJ h0 b' c' h1⟩
  ·exact hc.elim
 ·exact hc.elim
def akJ:jo H2:=by
 intro args bl ch K hc;unfold H2 at hc⊢;split at hc
 ·split at hc
  ·obtain⟨f,h,h0,h1⟩:=hc;exact⟨f,h,λe=>⟨h0 e,[],sP⟩,λe b c h=>⟨h1 e b c h,[],sP⟩⟩
  ·exact hc.elim
 ·exact hc.elim
def Tm:List (bK CG):=[⟨171,af,H0⟩,⟨168,af,HZ⟩,⟨172,af,H2⟩]
def akK:aH prog cJ Tm:=aH.cons ⟨akF,λ_=>akH⟩ (aH.cons ⟨akD,λ_=>akE⟩ (aH.cons ⟨akI,λ_=>akJ⟩ aH.nil))
def opX (u:aj) (k:Nat->Int) (s:Int) (b o n c:Nat) (K:VK CG):Prop:=
 let q:=i64.wrap ((n:Int)-8)
 let no (ch:List CG):Prop:=K (.ay [.raw (.slice ae 0 0),.int .i64 14]) [] (.bj u::ch)
 cond (decide (q<0)) (no []) ((0<=q/\q<=(c:Int))/\∃f kk:Nat->Int,(cA u b o q.toNat f/\q.toNat<=50/\(0<=s/\s<4294967296)/\(∃tG,u.heap[0]?=aa (.cells (aD .u32 64 c_) tG (0,0)))/\((bo 32).map k).length=32/\∀j,j<32->gu ((bo 32).map k) j=kk j)/\
  ∀b1 c1:Nat,q.toNat+8<=c1->∃f2 g2:Nat->Int,(cA u b o n f2/\b1=b1/\n=q.toNat+8/\0+(q.toNat+8)<=q.toNat+8/\n<=1000000/\∀j,j<n->vR kk s q.toNat f j=g2 j)/\
   cond (!(tn n f2 g2)) (no [.row ⟨q.toNat+8,vR kk s q.toNat f,b1,c1⟩]) ((0<=q/\q<=(c:Int))/\∃f3:Nat->Int,(cA u b o q.toNat f3/\q.toNat<=1000000)/\
    (q.toNat=0->K (.ay [.raw (.slice ae 0 0),.int .i64 0]) [] [.bj u,.row ⟨q.toNat+8,vR kk s q.toNat f,b1,c1⟩])/\
    (0<q.toNat->∀b2 c2:Nat,q.toNat<=c2->K (.ay [.raw (.slice (aa ⟨b2,0,ae⟩) q.toNat c2),.int .i64 0]) [] [.bj u,.row ⟨q.toNat+8,vR kk s q.toNat f,b1,c1⟩,.row ⟨q.toNat,f3,b2,c2⟩])))
def akL (u:aj) (k:Nat->Int) (s:Int) (b o n c:Nat) (K:VK CG):oC Tm 127 [.agg (ints 32 k),.int .i64 s,.raw (.slice (aa ⟨b,o,ae⟩) n c)] [] [.bj u] (bA 0 K)=opX u k s b o n c K:=kR
def Ap {L:List (bK CG)} (hL:aH prog cJ L) {f:fl} {args:List V} {K:VK CG} {w:aj} (h:oC L f args [] [.bj w] (bA 0 K)):aX prog f (aE [] args).toArray w λv w'=>∃x ids bl ch,v=den ids x/\ids.length=bl.length/\St [] w (lits ids ids bl++au ch []) w'/\K x bl ch:=by
 refine(eZ hL.T hL.Q 60 (C:=gy prog cJ L HL SH) (ids:=[]) (bl:=[]) (ch:=[.bj w]) (R:=[]) (λg i h=>by cases h) rfl (aa_ w) h).mono ?_;rintro v w' ⟨x,more,bl',ch',rfl,h1,S',hK⟩;obtain⟨v2,cn,bl2,hv,cX,S2,lb⟩:=iP (n0:=0) h1 (oQ _) S' hK;exact⟨v2,_,bl2,ch',hv,cX,S2,lb⟩
def Cu {k:Nat->Int} {n j:Nat} (h:j<n):gu ((bo n).map k) j=k j:=by
 unfold gu;simp[gd,pQ h]
def abK (k:Nat->Int) (s:Int) (a:Option aI) (n c:Nat):(aE [] [.agg (ints 32 k),.int .i64 s,.raw (.slice a n c)]).toArray=#[.agg (aD .u8 32 k),.int .i64 s,.slice a n c]:=by
 simp only[aE,den,EK]
def abL (k:Nat->Int) (s:Int) (a:Option aI) (n c:Nat) (hn:n<8) (w:aj):
 aX prog 127 #[.agg (aD .u8 32 k),.int .i64 s,.slice a n c] w λv w1=>v=.tuple #[.slice ae 0 0,.int .i64 14]/\Ch [] w w1:=by
 have h:oC [] 127 [.agg (ints 32 k),.int .i64 s,.raw (.slice a n c)] [] [.bj w] (bA 0 λv _ _=>v=.ay [.raw (.slice ae 0 0),.int .i64 14]):=by
  have e:∀K:VK CG,oC [] 127 [.agg (ints 32 k),.int .i64 s,.raw (.slice a n c)] [] [.bj w] (bA 0 K)=K (.ay [.raw (.slice ae 0 0),.int .i64 14]) [] [.bj w]:=by
   intro K;rcases(by omega:n=0\/n=1\/n=2\/n=3\/n=4\/n=5\/n=6\/n=7)with rfl|rfl|rfl|rfl|rfl|rfl|rfl|rfl<;>kernel_rfl
  rw[e]
 rw[<-abK];refine(Ap aH.nil h).mono ?_;rintro v w' ⟨x,ids,bl,ch,rfl,hl,S,rfl⟩;exact⟨rfl,S.ch⟩
def abM (k:Nat->Int) (s:Int) (b o m c:Nat) (f:Nat->Int) (hm:m<=50) (hc:m+8<=c) (hs:0<=s/\s<4294967296) {tG:aM} (w:aj) (hG:w.heap[0]?=aa (.cells (aD .u32 64 c_) tG (0,0))) (hB:cA w b o (m+8) f):
 aX prog 127 #[.agg (aD .u8 32 k),.int .i64 s,.slice (aa ⟨b,o,ae⟩) (m+8) c] w λv w1=>(nL k s m f=ag/\v=.tuple #[.slice ae 0 0,.int .i64 14]/\Ch [] w w1)\/(nL k s m f=af/\∃x1 c1 jy,v=.tuple #[.slice x1 m c1,.int .i64 0]/\eQ 5 m f x1 c1 jy/\St [] w jy w1):=by
 have h:oC Tm 127 [.agg (ints 32 k),.int .i64 s,.raw (.slice (aa ⟨b,o,ae⟩) (m+8) c)] [] [.bj w] (bA 0 λv bl ch=>bl=[]/\((nL k s m f=ag/\v=.ay [.raw (.slice ae 0 0),.int .i64 14])\/(nL k s m f=af/\((m=0/\v=.ay [.raw (.slice ae 0 0),.int .i64 0])\/∃l b2 c2,0<m/\m<=c2/\v=.ay [.raw (.slice (aa ⟨b2,0,ae⟩) m c2),.int .i64 0]/\ch=l++[.row ⟨m,f,b2,c2⟩])))):=by
  rw[akL];unfold opX;have e:i64.wrap (((m+8:Nat):Int)-8)=(m:Int):=by simp[zo,vj,vm];omega
  dsimp only;rw[e,vn];refine aJ (λh=>absurd (of_decide_eq_true h) oM) λ_=>⟨⟨oM,oM⟩,f,k,⟨hB.cut oM,hm,hs,⟨tG,hG⟩,sP,λj hj=>Cu hj⟩,λb1 c1 h1=>⟨f,vR k s m f,⟨hB,rfl,rfl,oM,oM,λ_ _=>rfl⟩,aJ (λh=>⟨rfl,.inl ⟨(by unfold nL;simpa using h),rfl⟩⟩) λh=>⟨⟨oM,oM⟩,f,⟨hB.cut oM,oM⟩,λh0=>⟨rfl,.inr ⟨(by unfold nL;simpa using h),.inl ⟨h0,rfl⟩⟩⟩,λh0 b2 c2 h2=>⟨rfl,.inr ⟨(by unfold nL;simpa using h),.inr ⟨[.bj w,.row ⟨m+8,vR k s m f,b1,c1⟩],b2,c2,h0,h2,rfl,rfl⟩⟩⟩⟩⟩⟩
 rw[<-abK];refine(Ap akK h).mono ?_;rintro v w' ⟨x,ids,bl,ch,rfl,hl,S,rfl,⟨h0,rfl⟩|⟨h0,⟨rfl,rfl⟩|⟨l,b2,c2,h1,h2,rfl,rfl⟩⟩⟩
 ·exact .inl ⟨h0,rfl,S.ch⟩
 ·exact .inr ⟨h0,ae,0,[],rfl,⟨cY _,.inl ⟨rfl,rfl,rfl,rfl⟩⟩,by simpa using(St.nil [] w).quiet S.ch⟩
 ·exact .inr ⟨h0,aa ⟨b2,0,ae⟩,c2,_,rfl,⟨h2,.inr ⟨b2,rfl,rfl⟩⟩,(St.nil [] w).new S.ch (SR S) (HR S)⟩
def akM (k:Nat->Int) (s:Int) (b o m c:Nat) (f:Nat->Int) (hm:m<=50) (hc:m+8<=c) (hs:0<=s/\s<4294967296) (ho:nL k s m f=ag) {tG:aM} (w:aj) (hG:w.heap[0]?=aa (.cells (aD .u32 64 c_) tG (0,0))) (hB:cA w b o (m+8) f):
 aX prog 127 #[.agg (aD .u8 32 k),.int .i64 s,.slice (aa ⟨b,o,ae⟩) (m+8) c] w λv w1=>v=.tuple #[.slice ae 0 0,.int .i64 14]/\Ch [] w w1:=
 (abM k s b o m c f hm hc hs w hG hB).mono λv w1 h=>h.elim (λh=>h.2) λh=>by rw[ho]at h;cases h.1
def akN (k:Nat->Int) (s:Int) (b o m c:Nat) (f:Nat->Int) (hm:m<=50) (hc:m+8<=c) (hs:0<=s/\s<4294967296) (ho:nL k s m f=af) {tG:aM} (w:aj) (hG:w.heap[0]?=aa (.cells (aD .u32 64 c_) tG (0,0))) (hB:cA w b o (m+8) f):
 aX prog 127 #[.agg (aD .u8 32 k),.int .i64 s,.slice (aa ⟨b,o,ae⟩) (m+8) c] w λv w1=>∃x1 c1 jy,v=.tuple #[.slice x1 m c1,.int .i64 0]/\eQ 5 m f x1 c1 jy/\St [] w jy w1:=
 (abM k s b o m c f hm hc hs w hG hB).mono λv w1 h=>h.elim (λh=>by rw[ho]at h;cases h.1) λh=>h.2
def lg (p:Sd.aU) (ka:Nat->Option aI) (kn kc:Nat->Nat):Array ai:=#[.int .i64 (p.i 0),.int .i64 (p.i 1),.int .i64 (p.i 2),.int .i64 (p.i 3),.int .i64 (p.i 4),.slice (ka 0) (kn 0) (kc 0),.slice (ka 1) (kn 1) (kc 1),.slice (ka 2) (kn 2) (kc 2),.slice (ka 3) (kn 3) (kc 3),.int .i64 (p.i 9),.int .i64 (p.i 10),.int .i64 (p.i 11),.int .i64 (p.i 12),.int .i64 (p.i 13),.int .i64 (p.i 14),.int .i64 (p.i 15),.int .i64 (p.i 16),.int .i64 (p.i 17),.int .i64 (p.i 18),.int .i64 (p.i 19),.int .i64 (p.i 20),.int .i64 (p.i 21),.int .i64 (p.i 22),.int .i64 (p.i 23),.int .i64 (p.i 24),.int .i64 (p.i 25),.int .i64 (p.i 26),.int .i64 (p.i 27),.int .i64 (p.i 28),.int .i64 (p.i 29),.int .i64 (p.i 30),.int .i64 (p.i 31),.int .i64 (p.i 32),.int .i64 (p.i 33),.int .i64 (p.i 34),.int .i64 (p.i 35),.int .i64 (p.i 36),.int .i64 (p.i 37),.int .i64 (p.i 38),.int .i64 (p.i 39),.int .i64 (p.i 40),.int .i64 (p.i 41),.int .i64 (p.i 42),.int .i64 (p.i 43),.int .i64 (p.i 44),.int .i64 (p.i 45),.int .i64 (p.i 46),.int .i64 (p.i 47),.int .i64 (p.i 48),.int .i64 (p.i 49),.int .i64 (p.i 50),.int .i64 (p.i 51),.int .i64 (p.i 52),.int .i64 (p.i 53),.int .i64 (p.i 54),.int .i64 (p.i 55)]
def yb (t:Sd.Timer):Array ai:=#[.int .i64 t.n,.int .i64 t.most]
def x4C (t:Sd.X4):Array ai:=#[.int .i64 t.a,.int .i64 t.b,.int .i64 t.c,.int .i64 t.d]
def abN (t:Sd.Label):Array ai:=#[.int .i64 t.mQ,.int .i64 t.source,.int .i64 t.seq]
def iG (t:Sd.Tok):Array ai:=#[.int .i64 t.aF,.int .i64 t.an,.int .i64 t.offer,.int .i64 t.oa.n,.int .i64 t.oa.most,.int .i64 t.la.n,.int .i64 t.la.most,.bool t.bad]
def EX (t:Sd.fj):Array ai:=#[.int .i64 t.cls,.int .i64 t.bh.a,.int .i64 t.bh.b,.int .i64 t.bh.c,.int .i64 t.bh.d,.int .i64 t.now.a,.int .i64 t.now.b,.int .i64 t.now.c,.int .i64 t.now.d,.int .i64 t.cd.mQ,.int .i64 t.cd.source,.int .i64 t.cd.seq]
def akO (t:Sd.ft):Array ai:=#[.bool t.valid,.int .i64 t.x.a,.int .i64 t.x.b,.int .i64 t.x.c,.int .i64 t.x.d,.bool t.pW]
def jQ (t:Sd.jh):Array ai:=#[.bool t.any,.int .i64 t.high,.int .u64 t.seen]
def MD (t:Sd.Ask):Array ai:=#[.int .i64 t.source,.int .i64 t.bU,.int .i64 t.dy.n,.int .i64 t.dy.most]
def recC (t:Sd.Rec):Array ai:=#[.int .i64 t.kind,.int .i64 t.source,.int .i64 t.seq,.int .i64 t.an,.int .i64 t.code,.int .i64 t.how]
def akQ (s i:Int) (h0:0<=s) (h1:0<=i) (h2:i<=62):((kP s (2^(min (i).toNat 64)))%2==1)=Sd.has s i:=by
 have e:min i.toNat 64=i.toNat:=oM;have h3:(0:Int)<=2^i.toNat:=Int.le_of_lt (Int.pow_pos oM);rw[e,Int.fdiv_eq_ediv_of_nonneg _ h3];simp[Sd.has,h0,h1,h2];exact Bool.eq_iff_iff.2 sP
def fM (p:Sd.aU) (ka:Nat->Option aI) (kn kc:Nat->Nat):List V:=(bo 56).map λo=>bif bZ 5 o&&bZ o 8 then .raw (.slice (ka (o-5)) (kn (o-5)) (kc (o-5)))else .int .i64 (p.i o)
def vU (n m:Int):List V:=[.int .i64 n,.int .i64 m]
def ez (t:Sd.Tok):List V:=[.int .i64 t.aF,.int .i64 t.an,.int .i64 t.offer,.int .i64 t.oa.n,.int .i64 t.oa.most,.int .i64 t.la.n,.int .i64 t.la.most,.bool t.bad]
def uI (x:Sd.X4):List V:=[.int .i64 x.a,.int .i64 x.b,.int .i64 x.c,.int .i64 x.d]
def yc (t:Sd.Label):List V:=[.int .i64 t.mQ,.int .i64 t.source,.int .i64 t.seq]
def kL (t:Sd.fj):List V:=.int .i64 t.cls::(uI t.bh++(uI t.now++yc t.cd))
def iw {x:Int} (h:-9223372036854775808<=x/\x<=9223372036854775807):i64.wrap x=x:=by simp[zo,vj,vm];omega
def iR {L:List QF} {n f:Nat} {xs:List V} {v:V} {args:Array ai} {x:ai} {w:aj} (hL:bP prog (λ_=>ae) L) (h:dP prog L n f xs (·=v)) (ha:args=(aE [] xs).toArray:=by kernel_rfl) (hx:x=den [] v:=by kernel_rfl) (h1:bu 0 xs=af:=by kernel_rfl) (h2:da 0 v=af:=by kernel_rfl):
 aX prog f args w λy w1=>y=x/\Ch [] w w1:=by subst ha hx;exact xE hL n h h1 h2 [] w
def akS (n m:Int) (X:V->Prop):dP prog [] 30 95 [.int .i64 n,.int .i64 m] X=cond (decide (n<m)) (X (.int .i64 (i64.wrap (n+1)))) (X (.int .i64 m)):=kR
def akT (n:Int) (m:Int) (h_n:-9223372036854775808<=n/\n<=9223372036854775807) (H4:-9223372036854775808<=m/\m<=9223372036854775807) (w:aj):
 aX prog 95 #[.int .i64 n,.int .i64 m] w λv w1=>v=.int .i64 (Sd.sat n m)/\Ch [] w w1:=by
 refine iR bP.nil (n:=30) (xs:=[.int .i64 n,.int .i64 m]) (v:=.int .i64 (Sd.sat n m)) ?_;rw[akS];unfold Sd.sat;refine aJ (λh=>?_) (λh=>?_)
 ·have h:n<m:=by simpa using h
  rw[if_pos h,iw oM]
 ·rw[if_neg (by simpa using h)]
def akU (n m k:Int) (X:V->Prop):dP prog [] 30 184 [.int .i64 n,.int .i64 m,.int .i64 k] X=cond (decide (n<m)) (X (.int .i64 m)) (cond (decide (n>k)) (X (.int .i64 k)) (X (.int .i64 n))):=kR
def abO (n:Int) (lo:Int) (hi:Int) (w:aj):
 aX prog 184 #[.int .i64 n,.int .i64 lo,.int .i64 hi] w λv w1=>v=.int .i64 (Sd.vA n lo hi)/\Ch [] w w1:=by
 refine iR bP.nil (n:=30) (xs:=[.int .i64 n,.int .i64 lo,.int .i64 hi]) (v:=.int .i64 (Sd.vA n lo hi)) ?_;rw[akU];unfold Sd.vA;exact aJ (λh=>by rw[if_pos (by simpa using h)]) (λh=>by
  rw[if_neg (by simpa using h)];exact aJ (λh=>by rw[if_pos (by simpa using h)]) (λh=>by rw[if_neg (by simpa using h)]))
def tw (a b:Int):Int:=u64.wrap (u64.wrap a-u64.wrap b)
def abP {a b:Int} (h0:0<=a-b) (h1:a-b<18446744073709551616):tw a b=a-b:=by unfold tw;rw[Bm,Bm,Bm];omega
def akV {a:Int} (h0:0<=a) (h1:a<18446744073709551616):u64.wrap a=a:=by rw[Bm];omega
def akW (nw t b:Int) (X:V->Prop):dP prog [] 30 154 [.int .i64 nw,.int .i64 t,.int .i64 b] X=cond (decide (b<1)) (X (.int .i64 nw)) (cond (decide (t>=nw)) (cond (decide (tw t nw<=u64.wrap b)) (X (.int .i64 t)) (X (.int .i64 (i64.wrap (nw+b)))))
 (cond (decide (tw nw t<=u64.wrap b)) (X (.int .i64 t)) (X (.int .i64 (i64.wrap (nw-b)))))):=kR
def abQ (nw:Int) (t:Int) (b:Int) (abR:-9223372036854775808<=nw/\nw<=9223372036854775807) (h_t:-9223372036854775808<=t/\t<=9223372036854775807) (h_b:-9223372036854775808<=b/\b<=9223372036854775807) (w:aj):
 aX prog 154 #[.int .i64 nw,.int .i64 t,.int .i64 b] w λv w1=>v=.int .i64 (Sd.sU nw t b)/\Ch [] w w1:=by
 refine iR bP.nil (n:=30) (xs:=[.int .i64 nw,.int .i64 t,.int .i64 b]) (v:=.int .i64 (Sd.sU nw t b)) ?_;rw[akW];unfold Sd.sU;refine aJ (λh=>by rw[if_pos (by simpa using h)]) (λh=>?_);have h1:¬b<1:=by simpa using h
 rw[if_neg h1,akV oM oM];refine aJ (λh=>?_) (λh=>?_)
 ·have h2:nw<=t:=by simpa using h
  rw[if_pos h2,abP oM oM];refine aJ (λh=>by rw[if_pos (by simpa using h)]) (λh=>?_);have h3:¬t-nw<=b:=by simpa using h
  rw[if_neg h3,iw oM]
 ·have h2:¬nw<=t:=by simpa using h
  rw[if_neg h2,abP oM oM];refine aJ (λh=>by rw[if_pos (by simpa using h)]) (λh=>?_);have h3:¬nw-t<=b:=by simpa using h
  rw[if_neg h3,iw oM]
def hv (n:Int) (m:Nat):Int:=let a:=pP i64.bits (n.fdiv (2^min m i64.bits));let b:=pP i64.bits 1;i64.wrap ↑(a&&&b).toNat
def akX (n:Int) (m:Nat) (X:V->Prop):dP prog [] 30 163 [.int .i64 n,.int .i64 (.ofNat m)] X=cond (decide (n<0)) (X (.bool ag)) (cond (decide (dG m>62)) (X (.bool ag)) (X (.bool (hv n m==1)))):=kR
def akY (n:Int) (m:Nat) (X:V->Prop):dP prog [] 30 163 [.int .i64 n,.int .i64 (.negSucc m)] X=cond (decide (n<0)) (X (.bool ag)) (cond (decide (Int.negSucc m<0)) (X (.bool ag)) False):=kR
def abS (s:Int) (i:Int) (w:aj):
 aX prog 163 #[.int .i64 s,.int .i64 i] w λv w1=>v=.bool (Sd.has s i)/\Ch [] w w1:=by
 refine iR bP.nil (n:=30) (xs:=[.int .i64 s,.int .i64 i]) (v:=.bool (Sd.has s i)) ?_;cases i with
 |ofNat m=>
  rw[akX];refine aJ (λh=>?_) (λh=>aJ (λh'=>?_) λh'=>?_)
  ·have h:s<0:=by simpa using h
   congr 1;simp[Sd.has];omega
  ·have h':(m:Int)>62:=by simpa using h'
   congr 1;simp[Sd.has];omega
  ·have h:¬s<0:=by simpa using h
   have h':¬(m:Int)>62:=by simpa using h'
   have em:dG m=(m:Int):=rfl;rw[<-akQ s (.ofNat m) oM oM oM];exact congrArg (λz:Int=>V.bool (z==1)) (sG .i64 (kP s (2^(min m 64))) 1 2 1 dC dC dC)
 |negSucc m=>
  rw[akY];have e:Sd.has s (.negSucc m)=ag:=by simp[Sd.has]
  rw[e];exact aJ (λ_=>rfl) λ_=>aJ (λ_=>rfl) λh=>absurd (of_decide_eq_false h) oM
def abT (m:Int) (X:V->Prop):dP prog [] 30 174 [.int .i64 m] X=X (.agg (vU 0 (if 0>m then 0 else m))):=kR
def H5 (b:Int):Sd.Timer.start b=⟨0,if 0>b then 0 else b⟩:=by
 unfold Sd.Timer.start;congr 1;by_cases h:0>b
 ·rw[if_pos h];omega
 ·rw[if_neg h];omega
def akZ (m:Int) (H4:-9223372036854775808<=m/\m<=9223372036854775807) (w:aj):
 aX prog 174 #[.int .i64 m] w λv w1=>v=.agg (yb (Sd.Timer.start m))/\Ch [] w w1:=by
 rw[H5];refine iR bP.nil (n:=30) (xs:=[.int .i64 m]) (v:=.agg (vU 0 (if 0>m then 0 else m))) ?_;rw[abT]
def ak0 (t:Sd.Timer) (X:V->Prop):dP prog [] 30 150 [.agg (vU t.n t.most)] X=cond (decide (t.n<t.most)) (X (.agg (vU (i64.wrap (t.n+1)) t.most))) (X (.agg (vU t.most t.most))):=kR
def abU (t:Sd.Timer) (abV:-9223372036854775808<=t.n/\t.n<=9223372036854775807) (abW:-9223372036854775808<=t.most/\t.most<=9223372036854775807) (w:aj):
 aX prog 150 #[.agg (yb t)] w λv w1=>v=.agg (yb (Sd.Timer.step t))/\Ch [] w w1:=by
 refine iR bP.nil (n:=30) (xs:=[.agg (vU t.n t.most)]) (v:=.agg (vU (Sd.sat t.n t.most) t.most)) ?_;rw[ak0];unfold Sd.sat;refine aJ (λh=>?_) (λh=>?_)
 ·have h:t.n<t.most:=by simpa using h
  rw[if_pos h,iw oM]
 ·rw[if_neg (by simpa using h)]
def ak1 (t:Sd.Timer) (X:V->Prop):dP prog [] 30 151 [.agg (vU t.n t.most)] X=X (.bool (decide (t.n>=t.most))):=kR
def abX (t:Sd.Timer) (w:aj):
 aX prog 151 #[.agg (yb t)] w λv w1=>v=.bool (Sd.Timer.due t)/\Ch [] w w1:=by
 refine iR bP.nil (n:=30) (xs:=[.agg (vU t.n t.most)]) (v:=.bool t.due) ?_;rw[ak1];rfl
def ak2 (t:Sd.Tok) (o:Int) (X:V->Prop):dP prog [] 30 142 [.agg (ez t),.int .i64 o] X=cond (decide (o<0)) (X (.ay [.agg (ez t),.int .i64 1])) (cond (decide (o>=5)) (X (.ay [.agg (ez t),.int .i64 1])) (cond (o==t.aF) (X (.ay [.agg (ez t),.int .i64 25]))
 (cond (decide (t.an>=65535)) (X (.ay [.agg (ez t),.int .i64 24])) (X (.ay [.agg (ez (t.pass o (i64.wrap (t.an+1)))),.int .i64 0]))))):=kR
def ak3 (t:Sd.Tok) (o:Int) (vV:-9223372036854775808<=t.an/\t.an<=9223372036854775807) (w:aj):
 aX prog 142 #[.agg (iG t),.int .i64 o] w λv w1=>v=.tuple #[.agg (iG ((Sd.Tok.dF t o).1)),.int .i64 ((Sd.Tok.dF t o).2)]/\Ch [] w w1:=by
 refine iR bP.nil (n:=30) (xs:=[.agg (ez t),.int .i64 o]) (v:=.ay [.agg (ez (t.dF o).1),.int .i64 (t.dF o).2]) ?_;rw[ak2];unfold Sd.Tok.dF;refine aJ (λh=>by rw[if_pos (.inl (by simpa using h))]) (λh=>aJ (λh'=>by rw[if_pos (.inr (by simpa using h'))]) λh'=>?_);have h1:¬(o<0\/5<=o):=by simp at h h';omega
 rw[if_neg h1];refine aJ (λh=>by rw[if_pos (by simpa using h)]) (λh=>?_);rw[if_neg (by simpa using h)];refine aJ (λh=>by rw[if_pos (by simpa using h)]) (λh=>?_);have h2:¬65535<=t.an:=by simpa using h
 rw[if_neg h2,iw oM]
def ak4 (t:Sd.Tok) (X:V->Prop):dP prog [] 30 101 [.agg (ez t)] X=cond (t.aF !=4) (cond (decide (t.an<65535)) (X (.agg (ez (t.pass 4 (i64.wrap (t.an+1)))))) (X (.agg (ez (t.pass 4 65535))))) (X (.agg (ez (t.pass 4 t.an)))):=kR
def ak5 (t:Sd.Tok) (vV:-9223372036854775808<=t.an/\t.an<=9223372036854775807) (w:aj):
 aX prog 101 #[.agg (iG t)] w λv w1=>v=.agg (iG (Sd.Tok.gX t))/\Ch [] w w1:=by
 refine iR bP.nil (n:=30) (xs:=[.agg (ez t)]) (v:=.agg (ez t.gX)) ?_;rw[ak4];unfold Sd.Tok.gX Sd.sat;refine aJ (λh=>?_) (λh=>by rw[if_neg (by simpa using h)]);rw[if_pos (by simpa using h)];refine aJ (λh=>?_) (λh=>by rw[if_neg (by simpa using h)]);have h2:t.an<65535:=by simpa using h
 rw[if_pos h2,iw oM]
def ak6 (t:Sd.Tok) (X:V->Prop):dP prog [] 30 149 [.agg (ez t)] X=X (.bool (decide (t.offer>=0))):=kR
def open_ (t:Sd.Tok) (w:aj):
 aX prog 149 #[.agg (iG t)] w λv w1=>v=.bool (decide (0<=t.offer))/\Ch [] w w1:=by
 refine iR bP.nil (n:=30) (xs:=[.agg (ez t)]) (v:=.bool (decide (0<=t.offer))) ?_;rw[ak6]
def ak7 (t:Sd.Tok) (X:V->Prop):dP prog [] 30 152 [.agg (ez t)] X=X (.agg (ez t.jk)):=kR
def Tn (t:Sd.Tok) (w:aj):
 aX prog 152 #[.agg (iG t)] w λv w1=>v=.agg (iG (Sd.Tok.jk t))/\Ch [] w w1:=by
 refine iR bP.nil (n:=30) (xs:=[.agg (ez t)]) (v:=.agg (ez t.jk)) ?_;rw[ak7]
def p5 (p:Sd.aU):List V:=[.int .i64 (p.i 0),.int .i64 (p.i 1),.int .i64 (p.i 2),.int .i64 (p.i 3),.int .i64 (p.i 4)]
def ak8 (p:Sd.aU) (s:Int) (X:V->Prop):dP prog [] 30 244 [.agg (p5 p),.int .i64 s] X=cond (p.i 0==s) (X (.int .i64 0)) (cond (p.i 1==s) (X (.int .i64 1)) (cond (p.i 2==s) (X (.int .i64 2)) (cond (p.i 3==s) (X (.int .i64 3)) (cond (p.i 4==s) (X (.int .i64 4)) (X (.int .i64 (-1))))))):=kR
def To (p:Sd.aU) (ka:Nat->Option aI) (kn kc:Nat->Nat) (s:Int) (w:aj):
 aX prog 244 #[.agg #[.int .i64 (p.i 0),.int .i64 (p.i 1),.int .i64 (p.i 2),.int .i64 (p.i 3),.int .i64 (p.i 4)],.int .i64 s] w λv w1=>v=.int .i64 (Sd.placeOf p s)/\Ch [] w w1:=by
 refine iR bP.nil (n:=30) (xs:=[.agg (p5 p),.int .i64 s]) (v:=.int .i64 (Sd.placeOf p s)) ?_;rw[ak8];unfold Sd.placeOf;refine aJ (λh=>by rw[if_pos (by simpa using h)]) (λh=>?_);rw[if_neg (by simpa using h)];refine aJ (λh=>by rw[if_pos (by simpa using h)]) (λh=>?_);rw[if_neg (by simpa using h)];refine aJ (λh=>by rw[if_pos (by simpa using h)]) (λh=>?_);rw[if_neg (by simpa using h)];refine aJ (λh=>by rw[if_pos (by simpa using h)]) (λh=>?_);rw[if_neg (by simpa using h)];exact aJ (λh=>by rw[if_pos (by simpa using h)]) (λh=>by rw[if_neg (by simpa using h)])
def told {P:aG} {f:Nat} {args:Array ai} {ids:List Nat} {xs:List V} {x:ai} {v:V} {w:aj} (h:aX P f args w λy w1=>y=x/\Ch [] w w1) (ha:args=(aE ids xs).toArray:=by kernel_rfl) (hv:x=den ids v:=by kernel_rfl):
 aX P f (aE ids xs).toArray w λy w1=>y=den ids v/\Ch [] w w1:=by subst ha hv;exact h
structure Hd (p:Prop):Prop where
 h:p
def aB (a:Int):Prop:=-9223372036854775808<=a/\a<=9223372036854775807
def Tp:QF:=⟨244,λargs _=>match args with
 |[.agg [.int .i64 a,.int .i64 b,.int .i64 c,.int .i64 d,.int .i64 e],.int .i64 s]=>aa (True,.int .i64 (if a=s then 0 else if b=s then 1 else if c=s then 2 else if d=s then 3 else if e=s then 4 else-1))
 |_=>ae⟩
def Tq:QF:=⟨154,λargs _=>match args with
 |[.int .i64 nw,.int .i64 t,.int .i64 b]=>aa (aB nw/\aB t/\aB b,.int .i64 (Sd.sU nw t b))
 |_=>ae⟩
def H6:QF:=⟨184,λargs _=>match args with
 |[.int .i64 n,.int .i64 lo,.int .i64 hi]=>aa (True,.int .i64 (Sd.vA n lo hi))
 |_=>ae⟩
def rM:QF:=⟨163,λargs _=>match args with
 |[.int .i64 s,.int .i64 i]=>aa (True,.bool (Sd.has s i))
 |_=>ae⟩
def ME:QF:=⟨152,λargs _=>match args with
 |[.agg [.int .i64 a,.int .i64 b,.int .i64 c,.int .i64 d,.int .i64 e,.int .i64 f,.int .i64 g,.bool h]]=>aa (True,.agg (ez (⟨a,b,c,⟨d,e⟩,⟨f,g⟩,h⟩:Sd.Tok).jk))
 |_=>ae⟩
def Tr:QF:=⟨174,λargs _=>match args with
 |[.int .i64 m]=>aa (True,.agg (vU 0 (if 0>m then 0 else m)))
 |_=>ae⟩
def Ts:QF:=⟨138,λargs _=>match args with
 |[.int .i64 m,.agg [.int .i64 a,.int .i64 b,.int .i64 c,.int .i64 d]]=>aa (0<=m/\m<=1000,.bool (Sd.ue m ⟨a,b,c,d⟩))
 |_=>ae⟩
def ak9 (gl:Nat->Option Nat):Tp.Ok prog gl:=by
 intro args bl p_ v_ h hp ids w _ _;unfold Tp at h;dsimp only at h;split at h
 ·rename_i a b c d e s;simp only[aW,bC]at h;obtain⟨rfl,rfl⟩:=h;exact told (To ⟨λi=>match i with|0=>a|1=>b|2=>c|3=>d|_=>e,λ_=>(0,λ_=>0)⟩ (λ_=>ae) (λ_=>0) (λ_=>0) s w)
 ·cases h
def ak_ (gl:Nat->Option Nat):Tq.Ok prog gl:=by
 intro args bl p_ v_ h hp ids w _ _;unfold Tq at h;dsimp only at h;split at h
 ·rename_i nw t b;simp only[aW,bC]at h;obtain⟨rfl,rfl⟩:=h;exact told (abQ nw t b hp.1 hp.2.1 hp.2.2 w)
 ·cases h
def Tt (gl:Nat->Option Nat):H6.Ok prog gl:=by
 intro args bl p_ v_ h hp ids w _ _;unfold H6 at h;dsimp only at h;split at h
 ·rename_i n lo hi;simp only[aW,bC]at h;obtain⟨rfl,rfl⟩:=h;exact told (abO n lo hi w)
 ·cases h
def Tu (gl:Nat->Option Nat):rM.Ok prog gl:=by
 intro args bl p_ v_ h hp ids w _ _;unfold rM at h;dsimp only at h;split at h
 ·rename_i s i;simp only[aW,bC]at h;obtain⟨rfl,rfl⟩:=h;exact told (abS s i w)
 ·cases h
def abY (gl:Nat->Option Nat):ME.Ok prog gl:=by
 intro args bl p_ v_ h hp ids w _ _;unfold ME at h;dsimp only at h;split at h
 ·rename_i a b c d e f g h;simp only[aW,bC]at h;obtain⟨rfl,rfl⟩:=h;exact told (Tn ⟨a,b,c,⟨d,e⟩,⟨f,g⟩,h⟩ w)
 ·cases h
def ala (gl:Nat->Option Nat):Tr.Ok prog gl:=by
 intro args bl p_ v_ h hp ids w _ _;unfold Tr at h;dsimp only at h;split at h
 ·rename_i m;simp only[aW,bC]at h;obtain⟨rfl,rfl⟩:=h;exact xE bP.nil 30 (by show dP prog [] 30 174 _ _;rw[abT]) rfl rfl ids w
 ·cases h
def tz {q:QF} (h:q.Ok prog λ_=>ae):bP prog (λ_=>ae) [q]:=bP.cons h bP.nil
def alb (p:Sd.aU) (ka:Nat->Option aI) (kn kc:Nat->Nat) (s:Int) (X:V->Prop):dP prog [Tp] 30 218 [.agg (fM p ka kn kc),.int .i64 s] X=(True/\X (.int .i64 (Sd.placeOf p s))):=kR
def alc (p:Sd.aU) (ka:Nat->Option aI) (kn kc:Nat->Nat) (s:Int) (w:aj):
 aX prog 218 #[.agg (lg p ka kn kc),.int .i64 s] w λv w1=>v=.int .i64 (Sd.placeOf p s)/\Ch [] w w1:=by
 refine iR (tz (ak9 _)) (n:=30) (xs:=[.agg (fM p ka kn kc),.int .i64 s]) (v:=.int .i64 (Sd.placeOf p s)) ?_;rw[alb];exact⟨trivial,rfl⟩
def ald (p:Sd.aU) (ka:Nat->Option aI) (kn kc:Nat->Nat) (a:Int) (b:Int) (w:aj):
 aX prog 216 #[.agg (lg p ka kn kc),.int .i64 a,.int .i64 b] w λv w1=>v=.bool (Sd.eL p a b)/\Ch [] w w1:=by
 have S0:=St.nil [] w;refine iZ Tryz.func216 rfl ?_;refine aR (aZ ?_);refine fc S0 (λb=>.pointer (aa ⟨b,0,ae⟩)) (.cells (lg p ka kn kc) 28) ?_;intro bN jd dV;refine av (.bool ag) ?_;refine aT (aQ (aR (aZ ?_)));refine fp ?_;refine aT (aQ (aR ?_));refine BB 9 [⟨0,λ_=>.func (.func 244) #[] #[],λ_=>[]⟩,⟨0,λ_=>.pointer (aa ⟨bN,0,ae⟩),λ_=>[]⟩,⟨0,λ_=>.agg #[.int .i64 (p.i 0),.int .i64 (p.i 1),.int .i64 (p.i 2),.int .i64 (p.i 3),.int .i64 (p.i 4)],λ_=>[]⟩,⟨0,λ_=>.int .i64 a,λ_=>[]⟩,⟨0,λ_=>.int .i64 (Sd.placeOf p a),λ_=>[]⟩,⟨0,λ_=>.func (.func 244) #[] #[],λ_=>[]⟩,⟨0,λ_=>.pointer (aa ⟨bN,0,ae⟩),λ_=>[]⟩,⟨0,λ_=>.agg #[.int .i64 (p.i 0),.int .i64 (p.i 1),.int .i64 (p.i 2),.int .i64 (p.i 3),.int .i64 (p.i 4)],λ_=>[]⟩,⟨0,λ_=>.int .i64 b,λ_=>[]⟩] [[9,4,0],[9,4,2,1],[9,4,2],[9,4,3],[9,4],[9,5],[9,7,6],[9,7],[9,8],[10,0],[10,1],[10,2],[10,3],[10,4],[10,9,5],[10,9,7,6],[10,9,7],[10,9,8],[10,9],[11,0],[11,1],[11,2],[11,3],[11,4],[11,5],[11,6],[11,7],[11,8],[11,9],[11,10]] ?_ ?_
 ·refine step_cons ja ?_;refine step_cons ja ?_;refine step_cons (GI dV 0 bN 0 5 #[.int .i64 (p.i 0),.int .i64 (p.i 1),.int .i64 (p.i 2),.int .i64 (p.i 3),.int .i64 (p.i 4)]) ?_;refine step_cons ja ?_;refine step_cons ?_ ?_
  ·intro EM nI Co abo EO;have xQ:EM 10=.func (.func 244) #[] #[]:=(Sp.dT (EO 0 10 kR kR)).1;have mg:EM 12=.agg #[.int .i64 (p.i 0),.int .i64 (p.i 1),.int .i64 (p.i 2),.int .i64 (p.i 3),.int .i64 (p.i 4)]:=(Sp.dT (EO 2 12 kR kR)).1;have k9:EM 13=.int .i64 a:=(Sp.dT (EO 3 13 kR kR)).1;have rG:=dV.quiet Co;refine qY ?_;refine nq [(10,.func (.func 244) #[] #[]),(12,.agg #[.int .i64 (p.i 0),.int .i64 (p.i 1),.int .i64 (p.i 2),.int .i64 (p.i 3),.int .i64 (p.i 4)]),(13,.int .i64 a)] (nr xQ (nr mg (nr k9 (qW)))) ?_;have Ck:=rG.loc;refine Y.fY 244 #[.agg #[.int .i64 (p.i 0),.int .i64 (p.i 1),.int .i64 (p.i 2),.int .i64 (p.i 3),.int .i64 (p.i 4)],.int .i64 a] ?_;refine(To p ka kn kc a _).mono ?_;rintro _ ale ⟨rfl,mj⟩;have rH:=Ck.quiet mj;exact⟨rH.ch,Sp.qX [] (all_nil)⟩
  refine step_cons ja ?_;refine step_cons ja ?_;refine step_cons (GI dV 0 bN 0 5 #[.int .i64 (p.i 0),.int .i64 (p.i 1),.int .i64 (p.i 2),.int .i64 (p.i 3),.int .i64 (p.i 4)]) ?_;refine step_cons ja ?_;exact BA
 intro yd Ci Tv yf;have alf:yd 0=.func (.func 244) #[] #[]:=(Sp.dT (yf 0 kR)).1;have HE:yd 1=.pointer (aa ⟨bN,0,ae⟩):=(Sp.dT (yf 1 kR)).1;have tj:yd 2=.agg #[.int .i64 (p.i 0),.int .i64 (p.i 1),.int .i64 (p.i 2),.int .i64 (p.i 3),.int .i64 (p.i 4)]:=(Sp.dT (yf 2 kR)).1;have uD:yd 3=.int .i64 a:=(Sp.dT (yf 3 kR)).1;have HF:yd 4=.int .i64 (Sd.placeOf p a):=(Sp.dT (yf 4 kR)).1;have rL:yd 5=.func (.func 244) #[] #[]:=(Sp.dT (yf 5 kR)).1;have k_:yd 6=.pointer (aa ⟨bN,0,ae⟩):=(Sp.dT (yf 6 kR)).1;have An:yd 7=.agg #[.int .i64 (p.i 0),.int .i64 (p.i 1),.int .i64 (p.i 2),.int .i64 (p.i 3),.int .i64 (p.i 4)]:=(Sp.dT (yf 7 kR)).1;have SW:yd 8=.int .i64 b:=(Sp.dT (yf 8 kR)).1;have Cv:=dV.quiet Tv;refine⟨[.func (.func 244) #[] #[],.pointer (aa ⟨bN,0,ae⟩),.agg #[.int .i64 (p.i 0),.int .i64 (p.i 1),.int .i64 (p.i 2),.int .i64 (p.i 3),.int .i64 (p.i 4)],.int .i64 a,.int .i64 (Sd.placeOf p a),.func (.func 244) #[] #[],.pointer (aa ⟨bN,0,ae⟩),.agg #[.int .i64 (p.i 0),.int .i64 (p.i 1),.int .i64 (p.i 2),.int .i64 (p.i 3),.int .i64 (p.i 4)],.int .i64 b],kR,eA alf (eA HE (eA tj (eA uD (eA HF (eA rL (eA k_ (eA An (eA SW (DO))))))))),?_⟩;refine fY 244 #[.agg #[.int .i64 (p.i 0),.int .i64 (p.i 1),.int .i64 (p.i 2),.int .i64 (p.i 3),.int .i64 (p.i 4)],.int .i64 b] ?_;refine(To p ka kn kc b _).mono ?_;rintro _ ayu ⟨rfl,tA⟩;have xM:=Cv.quiet tA;refine fp ?_;refine fp ?_;refine aT (aQ (aR (aZ ?_)));refine dh ?_;refine av (.bool ((Sd.placeOf p a)!=(-1))) ?_;refine dh ?_;refine PW 22 ((Sd.placeOf p a)!=(-1)) ?_ ?_
 ·intro mi;have tB:=PZ mi;refine dh ?_;refine av (.bool ((Sd.placeOf p b)!=(-1))) ?_;refine av (.bool ((Sd.placeOf p b)!=(-1))) ?_;refine dh ?_;refine PW 26 ((Sd.placeOf p b)!=(-1)) ?_ ?_
  ·intro vW;have xY:=PZ vW;refine dh ?_;refine dh ?_;refine av (.bool (decide ((Sd.placeOf p a)<(Sd.placeOf p b)))) ?_;refine av (.bool (decide ((Sd.placeOf p a)<(Sd.placeOf p b)))) ?_;refine fp ?_;refine aT (aQ (gC ?_));refine gD rfl (fR [.tmp 6] [.bool (decide ((Sd.placeOf p a)<(Sd.placeOf p b)))] (.bool (decide ((Sd.placeOf p a)<(Sd.placeOf p b)))) ⟨jw,trivial⟩) ?_;have ze:Sd.eL p a b=(decide ((Sd.placeOf p a)<(Sd.placeOf p b))):=by first|rfl|(simp[Sd.eL,mi,vW,tB,xY];done)|(simp[Sd.eL,mi,vW,tB,xY];rfl)|(simp[Sd.eL,mi,vW];simp[Sd.eL,mi,vW,tB,xY];done)|(simp[Sd.eL,mi,vW];simp[Sd.eL,mi,vW,tB,xY];rfl)|(simp[Sd.eL,mi,vW,tB,xY];omega)|(unfold Sd.eL;(repeat' split)<;>first|rfl|assumption|omega|(simp_all;done)|(simp_all;omega))
   exact⟨by(rw[ze])<;>rfl,xM.ch⟩
  intro tu;have uE:=P1 tu;refine ub ?_;refine ub ?_;refine ub ?_;refine av (.bool ag) ?_;refine av (.bool ag) ?_;refine aT (aQ (gC ?_));refine gD rfl (fR [.tmp 6] [.bool ag] (.bool ag) ⟨jw,trivial⟩) ?_;have ze:Sd.eL p a b=ag:=by first|rfl|(simp[Sd.eL,mi,tu,tB,uE];done)|(simp[Sd.eL,mi,tu,tB,uE];rfl)|(simp[Sd.eL,mi,tu];simp[Sd.eL,mi,tu,tB,uE];done)|(simp[Sd.eL,mi,tu];simp[Sd.eL,mi,tu,tB,uE];rfl)|(simp[Sd.eL,mi,tu,tB,uE];omega)|(unfold Sd.eL;(repeat' split)<;>first|rfl|assumption|omega|(simp_all;done)|(simp_all;omega))
  exact⟨by(rw[ze])<;>rfl,xM.ch⟩
 intro tD;have rK:=P1 tD;refine ub ?_;refine ub ?_;refine av (.bool ag) ?_;refine av (.bool ag) ?_;refine ub ?_;refine ub ?_;refine ub ?_;refine av (.bool ag) ?_;refine av (.bool ag) ?_;refine aT (aQ (gC ?_));refine gD rfl (fR [.tmp 6] [.bool ag] (.bool ag) ⟨jw,trivial⟩) ?_;have ze:Sd.eL p a b=ag:=by first|rfl|(simp[Sd.eL,tD,rK];done)|(simp[Sd.eL,tD,rK];rfl)|(simp[Sd.eL,tD];simp[Sd.eL,tD,rK];done)|(simp[Sd.eL,tD];simp[Sd.eL,tD,rK];rfl)|(simp[Sd.eL,tD,rK];omega)|(unfold Sd.eL;(repeat' split)<;>first|rfl|assumption|omega|(simp_all;done)|(simp_all;omega))
 exact⟨by(rw[ze])<;>rfl,xM.ch⟩
def alg (p:Sd.aU) (ka:Nat->Option aI) (kn kc:Nat->Nat) (r:Int) (X:V->Prop):∀s:Nat,s<5->dP prog [rM] 30 121 [.agg (fM p ka kn kc),.int .i64 (.ofNat s),.int .i64 r] X=cond (decide (0<=r)) (cond (decide (r<4)) (True/\X (.bool (Sd.has (p.i (9+s)) r))) (X (.bool ag))) (X (.bool ag))
 |0,_=>kR
 |1,_=>kR
 |2,_=>kR
 |3,_=>kR
 |4,_=>kR
 |n+5,h=>absurd h oM
def abZ (p:Sd.aU) (ka:Nat->Option aI) (kn kc:Nat->Nat) (n:Nat) (r:Int) (X:V->Prop):dP prog [rM] 30 121 [.agg (fM p ka kn kc),.int .i64 (.ofNat (n+5)),.int .i64 r] X=X (.bool ag)/\dP prog [rM] 30 121 [.agg (fM p ka kn kc),.int .i64 (.negSucc n),.int .i64 r] X=X (.bool ag):=⟨kR,kR⟩
def Cw {n b:Int} (h:0<=n) (h2:n<b):Sd.below n b=af:=by simp[Sd.below,h,h2]
def qk {n b:Int} (h:n<0\/b<=n):Sd.below n b=ag:=by simp[Sd.below];omega
def alh (p:Sd.aU) (ka:Nat->Option aI) (kn kc:Nat->Nat) (s:Int) (r:Int) (w:aj):
 aX prog 121 #[.agg (lg p ka kn kc),.int .i64 s,.int .i64 r] w λv w1=>v=.bool (Sd.vB p s r)/\Ch [] w w1:=by
 refine iR (tz (Tu _)) (n:=30) (xs:=[.agg (fM p ka kn kc),.int .i64 s,.int .i64 r]) (v:=.bool (Sd.vB p s r)) (Hd.h ?_);unfold Sd.vB;cases s with
 |ofNat n=>
  by_cases h:n<5
  ·have e:Sd.below (dG n) 5=af:=Cw (Bg n) (by show(n:Int)<5;omega);refine⟨?_⟩;rw[alg p ka kn kc r _ n h,e];refine aJ (λh=>aJ (λh'=>?_) λh'=>?_) (λh=>?_)
   ·rw[Cw (by simpa using h) (by simpa using h')];exact⟨trivial,rfl⟩
   ·rw[qk (b:=4) (.inr (by simpa using h'))];rfl
   ·rw[qk (b:=4) (.inl (by simpa using h))];rfl
  ·have q:=(abZ p ka kn kc (n-5) r (·=.bool (Sd.below (dG n) 5&&Sd.below r 4&&Sd.has (p.Zq (dG n).toNat) r))).1;rw[show n-5+5=n by omega]at q;refine⟨?_⟩;rw[q,qk (.inr (by show(5:Int)<=(n:Int);omega))];rfl
 |negSucc n=>
  refine⟨?_⟩;rw[(abZ p ka kn kc n r _).2,qk (.inl (KG n))];rfl
def ali (p:Sd.aU) (ka:Nat->Option aI) (kn kc:Nat->Nat) (r:Int) (X:V->Prop):∀s:Nat,s<5->dP prog [rM] 30 183 [.agg (fM p ka kn kc),.int .i64 (.ofNat s),.int .i64 r] X=cond (decide (0<=r)) (cond (decide (r<5)) (True/\X (.bool (Sd.has (p.i (34+s)) r))) (X (.bool ag))) (X (.bool ag))
 |0,_=>kR
 |1,_=>kR
 |2,_=>kR
 |3,_=>kR
 |4,_=>kR
 |n+5,h=>absurd h oM
def ab0 (p:Sd.aU) (ka:Nat->Option aI) (kn kc:Nat->Nat) (n:Nat) (r:Int) (X:V->Prop):dP prog [rM] 30 183 [.agg (fM p ka kn kc),.int .i64 (.ofNat (n+5)),.int .i64 r] X=X (.bool ag)/\dP prog [rM] 30 183 [.agg (fM p ka kn kc),.int .i64 (.negSucc n),.int .i64 r] X=X (.bool ag):=⟨kR,kR⟩
def alj (p:Sd.aU) (ka:Nat->Option aI) (kn kc:Nat->Nat) (a:Int) (b:Int) (w:aj):
 aX prog 183 #[.agg (lg p ka kn kc),.int .i64 a,.int .i64 b] w λv w1=>v=.bool (Sd.goes p a b)/\Ch [] w w1:=by
 refine iR (tz (Tu _)) (n:=30) (xs:=[.agg (fM p ka kn kc),.int .i64 a,.int .i64 b]) (v:=.bool (Sd.goes p a b)) (Hd.h ?_);unfold Sd.goes;cases a with
 |ofNat n=>
  by_cases h:n<5
  ·have e:Sd.below (dG n) 5=af:=Cw (Bg n) (by show(n:Int)<5;omega);refine⟨?_⟩;rw[ali p ka kn kc b _ n h,e];refine aJ (λh=>aJ (λh'=>?_) λh'=>?_) (λh=>?_)
   ·rw[Cw (by simpa using h) (by simpa using h')];exact⟨trivial,rfl⟩
   ·rw[qk (b:=5) (.inr (by simpa using h'))];rfl
   ·rw[qk (b:=5) (.inl (by simpa using h))];rfl
  ·have q:=(ab0 p ka kn kc (n-5) b (·=.bool (Sd.below (dG n) 5&&Sd.below b 5&&Sd.has (p.graph (dG n).toNat) b))).1;rw[show n-5+5=n by omega]at q;refine⟨?_⟩;rw[q,qk (.inr (by show(5:Int)<=(n:Int);omega))];rfl
 |negSucc n=>
  refine⟨?_⟩;rw[(ab0 p ka kn kc n b _).2,qk (.inl (KG n))];rfl
def alk (p:Sd.aU) (ka:Nat->Option aI) (kn kc:Nat->Nat) (c:Int) (X:V->Prop):∀m r:Nat,m<5->r<4->dP prog [rM] 30 182 [.agg (fM p ka kn kc),.int .i64 (.ofNat m),.int .i64 (.ofNat r),.int .i64 c] X=cond (decide (0<=c)) (cond (decide (c<4)) (True/\X (.bool (Sd.has (p.i (14+4*m+r)) c))) (X (.bool ag))) (X (.bool ag))
 |0,0,_,_=>kR
 |0,1,_,_=>kR
 |0,2,_,_=>kR
 |0,3,_,_=>kR
 |1,0,_,_=>kR
 |1,1,_,_=>kR
 |1,2,_,_=>kR
 |1,3,_,_=>kR
 |2,0,_,_=>kR
 |2,1,_,_=>kR
 |2,2,_,_=>kR
 |2,3,_,_=>kR
 |3,0,_,_=>kR
 |3,1,_,_=>kR
 |3,2,_,_=>kR
 |3,3,_,_=>kR
 |4,0,_,_=>kR
 |4,1,_,_=>kR
 |4,2,_,_=>kR
 |4,3,_,_=>kR
 |n+5,_,h,_=>absurd h oM
 |_,n+4,_,h=>absurd h oM
def ab3 (p:Sd.aU) (ka:Nat->Option aI) (kn kc:Nat->Nat) (n:Nat) (r c:Int) (X:V->Prop):dP prog [rM] 30 182 [.agg (fM p ka kn kc),.int .i64 (.ofNat (n+5)),.int .i64 r,.int .i64 c] X=X (.bool ag)/\dP prog [rM] 30 182 [.agg (fM p ka kn kc),.int .i64 (.negSucc n),.int .i64 r,.int .i64 c] X=X (.bool ag):=⟨kR,kR⟩
def ab4 (p:Sd.aU) (ka:Nat->Option aI) (kn kc:Nat->Nat) (n:Nat) (c:Int) (X:V->Prop):∀m:Nat,m<5->dP prog [rM] 30 182 [.agg (fM p ka kn kc),.int .i64 (.ofNat m),.int .i64 (.ofNat (n+4)),.int .i64 c] X=X (.bool ag)/\dP prog [rM] 30 182 [.agg (fM p ka kn kc),.int .i64 (.ofNat m),.int .i64 (.negSucc n),.int .i64 c] X=X (.bool ag)
 |0,_=>⟨kR,kR⟩
 |1,_=>⟨kR,kR⟩
 |2,_=>⟨kR,kR⟩
 |3,_=>⟨kR,kR⟩
 |4,_=>⟨kR,kR⟩
 |n+5,h=>absurd h oM
def alm (p:Sd.aU) (ka:Nat->Option aI) (kn kc:Nat->Nat) (m:Int) (r:Int) (c:Int) (w:aj):
 aX prog 182 #[.agg (lg p ka kn kc),.int .i64 m,.int .i64 r,.int .i64 c] w λv w1=>v=.bool (Sd.may p m r c)/\Ch [] w w1:=by
 refine iR (tz (Tu _)) (n:=30) (xs:=[.agg (fM p ka kn kc),.int .i64 m,.int .i64 r,.int .i64 c]) (v:=.bool (Sd.may p m r c)) (Hd.h ?_);unfold Sd.may;cases m with
 |ofNat n=>
  by_cases h:n<5
  ·have e:Sd.below (dG n) 5=af:=Cw (Bg n) (by show(n:Int)<5;omega);rw[e];cases r with
   |ofNat k=>
    by_cases hk:k<4
    ·have e:Sd.below (dG k) 4=af:=Cw (Bg k) (by show(k:Int)<4;omega);refine⟨?_⟩;rw[alk p ka kn kc c _ n k h hk,e];refine aJ (λh=>aJ (λh'=>?_) λh'=>?_) (λh=>?_)
     ·rw[Cw (by simpa using h) (by simpa using h')];exact⟨trivial,rfl⟩
     ·rw[qk (b:=4) (.inr (by simpa using h'))];rfl
     ·rw[qk (b:=4) (.inl (by simpa using h))];rfl
    ·have q:=(ab4 p ka kn kc (k-4) c (·=.bool (af&&Sd.below (dG k) 4&&Sd.below c 4&&Sd.has (p.table (dG n).toNat (dG k).toNat) c)) n h).1;rw[show k-4+4=k by omega]at q;refine⟨?_⟩;rw[q,qk (b:=4) (.inr (by show(4:Int)<=(k:Int);omega))];rfl
   |negSucc k=>
    refine⟨?_⟩;rw[(ab4 p ka kn kc k c _ n h).2,qk (b:=4) (.inl (KG k))];rfl
  ·have q:=(ab3 p ka kn kc (n-5) r c (·=.bool (Sd.below (dG n) 5&&Sd.below r 4&&Sd.below c 4&&Sd.has (p.table (dG n).toNat r.toNat) c))).1;rw[show n-5+5=n by omega]at q;refine⟨?_⟩;rw[q,qk (b:=5) (.inr (by show(5:Int)<=(n:Int);omega))];rfl
 |negSucc n=>
  refine⟨?_⟩;rw[(ab3 p ka kn kc n r c _).2,qk (b:=5) (.inl (KG n))];rfl
def aln (p:Sd.aU) (ka:Nat->Option aI) (kn kc:Nat->Nat) (X:V->Prop):dP prog [] 30 49 [.agg (fM p ka kn kc)] X=X (.agg (ez (Sd.Tok.new p))):=kR
def ab5 (p:Sd.aU) (ka:Nat->Option aI) (kn kc:Nat->Nat) (w:aj):
 aX prog 49 #[.agg (lg p ka kn kc)] w λv w1=>v=.agg (iG (Sd.Tok.new p))/\Ch [] w w1:=by
 refine iR bP.nil (n:=30) (xs:=[.agg (fM p ka kn kc)]) (v:=.agg (ez (Sd.Tok.new p))) ?_;rw[aln]
def MF (t:Sd.Tok) (f:Int) (X Y:Prop):Prop:=cond (!decide (t.offer>=0)) X (cond (t.offer !=f) X Y)
def Tw {t:Sd.Tok} {f:Int} {X Y:Prop} (h:t.offer<0\/t.offer≠f->X) (k:¬(t.offer<0\/t.offer≠f)->Y):MF t f X Y:=by
 refine aJ (λa=>h (.inl (by simpa using a))) (λa=>aJ (λb=>h (.inr (by simpa using b))) λb=>k ?_);simp at a b;omega
def Tx (t:Sd.Tok) (o:Int) (X:V->Prop):Prop:=cond (decide (o<0)) (X (.ay [.agg (ez t),.int .i64 1])) (cond (decide (o>=5)) (X (.ay [.agg (ez t),.int .i64 1])) (cond (o==t.aF) (X (.ay [.agg (ez t),.int .i64 25]))
 (cond (decide (t.an>=65535)) (X (.ay [.agg (ez t),.int .i64 24])) (X (.ay [.agg (ez (t.pass o (i64.wrap (t.an+1)))),.int .i64 0])))))
def alo (t:Sd.Tok) (f e:Int) (X:V->Prop):dP prog [] 30 179 [.agg (ez t),.int .i64 f,.int .i64 e] X=MF t f (X (.ay [.agg (ez t),.int .i64 28])) (cond (e !=t.an) (X (.ay [.agg (ez t),.int .i64 21])) (Tx t f X)):=kR
def alp {t:Sd.Tok} (vV:-9223372036854775808<=t.an/\t.an<=9223372036854775807) (o:Int):Tx t o (·=.ay [.agg (ez (t.dF o).1),.int .i64 (t.dF o).2]):=by
 unfold Tx Sd.Tok.dF;refine aJ (λh=>by rw[if_pos (.inl (by simpa using h))]) (λh=>aJ (λh'=>by rw[if_pos (.inr (by simpa using h'))]) λh'=>?_);have h1:¬(o<0\/5<=o):=by simp at h h';omega
 rw[if_neg h1];refine aJ (λh=>by rw[if_pos (by simpa using h)]) (λh=>?_);rw[if_neg (by simpa using h)];refine aJ (λh=>by rw[if_pos (by simpa using h)]) (λh=>?_);have h2:¬65535<=t.an:=by simpa using h
 rw[if_neg h2,iw oM]
def alq (t:Sd.Tok) (f:Int) (e:Int) (vV:-9223372036854775808<=t.an/\t.an<=9223372036854775807) (w:aj):
 aX prog 179 #[.agg (iG t),.int .i64 f,.int .i64 e] w λv w1=>v=.tuple #[.agg (iG ((Sd.Tok.accept t f e).1)),.int .i64 ((Sd.Tok.accept t f e).2)]/\Ch [] w w1:=by
 refine iR bP.nil (n:=30) (xs:=[.agg (ez t),.int .i64 f,.int .i64 e]) (v:=.ay [.agg (ez (t.accept f e).1),.int .i64 (t.accept f e).2]) ?_;rw[alo];unfold Sd.Tok.accept;refine Tw (λh=>by rw[if_pos h]) (λh=>?_);rw[if_neg h];refine aJ (λh=>by rw[if_pos (by simpa using h)]) (λh=>?_);rw[if_neg (by simpa using h)];exact alp vV f
def alr (t:Sd.Tok) (f:Int) (X:V->Prop):dP prog [ME] 30 180 [.agg (ez t),.int .i64 f] X=MF t f (X (.ay [.agg (ez t),.int .i64 28])) (True/\X (.ay [.agg (ez t.jk),.int .i64 0])):=kR
def als (t:Sd.Tok) (f:Int) (w:aj):
 aX prog 180 #[.agg (iG t),.int .i64 f] w λv w1=>v=.tuple #[.agg (iG ((Sd.Tok.gh t f).1)),.int .i64 ((Sd.Tok.gh t f).2)]/\Ch [] w w1:=by
 refine iR (tz (abY _)) (n:=30) (xs:=[.agg (ez t),.int .i64 f]) (v:=.ay [.agg (ez (t.gh f).1),.int .i64 (t.gh f).2]) ?_;rw[alr];unfold Sd.Tok.gh;exact Tw (λh=>by rw[if_pos h]) (λh=>⟨trivial,by rw[if_neg h]⟩)
def alu (t:Sd.Tok) (f:Int) (X:V->Prop):dP prog [ME] 30 148 [.agg (ez t),.int .i64 f] X=MF t f (X (.ay [.agg (ez t),.bool ag])) (True/\X (.ay [.agg (ez t.jk),.bool af])):=kR
def alv (t:Sd.Tok) (s:Int) (w:aj):
 aX prog 148 #[.agg (iG t),.int .i64 s] w λv w1=>v=.tuple #[.agg (iG ((Sd.Tok.drop t s).1)),.bool ((Sd.Tok.drop t s).2)]/\Ch [] w w1:=by
 refine iR (tz (abY _)) (n:=30) (xs:=[.agg (ez t),.int .i64 s]) (v:=.ay [.agg (ez (t.drop s).1),.bool (t.drop s).2]) ?_;rw[alu];unfold Sd.Tok.drop;exact Tw (λh=>by rw[if_pos h]) (λh=>⟨trivial,by rw[if_neg h]⟩)
def alw (t:Sd.Tok) (ab6:-9223372036854775808<=t.oa.n/\t.oa.n<=9223372036854775807) (ab7:-9223372036854775808<=t.oa.most/\t.oa.most<=9223372036854775807) (w:aj):
 aX prog 109 #[.agg (iG t)] w λv w1=>v=.tuple #[.agg (iG ((Sd.Tok.tick t).1)),.int .i64 ((Sd.Tok.tick t).2)]/\Ch [] w w1:=by
 have S0:=St.nil [] w;refine iZ Tryz.func109 rfl ?_;refine aR (aZ ?_);refine fc S0 (λb=>.pointer (aa ⟨b,0,ae⟩)) (.cells (iG t) 121) ?_;intro bN jd dV;refine fc dV (λb=>.pointer (aa ⟨b,0,ae⟩)) (.cells #[.int .i64 0,.int .i64 0,.int .i64 0,.int .i64 0,.int .i64 0,.int .i64 0,.int .i64 0,.bool ag] 121) ?_;intro dJ nI dr;refine av (.int .i64 0) ?_;refine aT (aQ (aR (aR (aZ ?_))));refine kS dr 1 8 (iG t) bN 0 ?_;refine fY 149 #[.agg (iG t)] ?_;refine(open_ t _).mono ?_;rintro _ EG ⟨rfl,qh⟩;have jO:=dr.quiet qh;refine av (.bool (!(decide (0<=t.offer)))) ?_;refine aT (aQ ?_);refine pT (!(decide (0<=t.offer))) ?_ ?_
 ·intro mg;have k9:=P2 mg;have xK:=YR k9;refine aR (aZ ?_);refine kS jO 1 8 (iG t) bN 0 ?_;refine store_ jO 0 (.agg (iG t)) dJ 0 ?_;intro SS qj;refine av (.int .i64 (-1)) ?_;refine aT (aQ (gC (YO ?_)));refine gD rfl (fR [.cell 2 121,.tmp 3] [.agg (iG t),.int .i64 (-1)] (.tuple #[.agg (iG t),.int .i64 (-1)]) ⟨og qj 0 8 dJ 0,jw,trivial⟩) ?_;have ze:Sd.Tok.tick t=(t,(-1)):=by first|rfl|(simp[Sd.Tok.tick,mg,k9];done)|(simp[Sd.Tok.tick,mg,k9];rfl)|(simp[Sd.Tok.tick,mg,k9];simp[Sd.Tok.tick,mg,k9];done)|(simp[Sd.Tok.tick,mg,k9];simp[Sd.Tok.tick,mg,k9];rfl)|(simp[Sd.Tok.tick,mg,k9];omega)|(unfold Sd.Tok.tick;(repeat' split)<;>first|rfl|assumption|omega|(simp_all;done)|(simp_all;omega))
  exact⟨by(rw[ze])<;>rfl,qj.ch⟩
 intro mj;have lP:=P3 mj;have EF:=YQ lP;refine kQ (aQ (aR (aZ ?_)));refine av (.pointer (aa ⟨bN,3,ae⟩)) ?_;refine kS jO 1 2 (yb t.oa) bN 3 ?_;refine fY 150 #[.agg (yb t.oa)] ?_;refine(abU t.oa oM oM _).mono ?_;rintro _ Ci ⟨rfl,Ak⟩;have tf:=jO.quiet Ak;refine av (.pointer (aa ⟨bN,3,ae⟩)) ?_;refine store_ tf 1 (.agg (yb (Sd.Timer.step t.oa))) bN 3 ?_;intro Tz vT;refine aT (aQ (aR (aR (aZ ?_))));refine av (.pointer (aa ⟨bN,3,ae⟩)) ?_;refine kS vT 1 2 (yb (Sd.Timer.step t.oa)) bN 3 ?_;refine fY 151 #[.agg (yb (Sd.Timer.step t.oa))] ?_;refine(abX (Sd.Timer.step t.oa) _).mono ?_;rintro _ abq ⟨rfl,uD⟩;have pr:=vT.quiet uD;refine av (.bool (!(Sd.Timer.due (Sd.Timer.step t.oa)))) ?_;refine aT (aQ ?_);refine pT (!(Sd.Timer.due (Sd.Timer.step t.oa))) ?_ ?_
 ·intro rL;have k_:=P2 rL;have An:=YR k_;refine aR (aZ ?_);refine kS pr 1 8 #[.int .i64 t.aF,.int .i64 t.an,.int .i64 t.offer,.int .i64 (Sd.Timer.step t.oa).n,.int .i64 (Sd.Timer.step t.oa).most,.int .i64 t.la.n,.int .i64 t.la.most,.bool t.bad] bN 0 ?_;refine store_ pr 0 (.agg #[.int .i64 t.aF,.int .i64 t.an,.int .i64 t.offer,.int .i64 (Sd.Timer.step t.oa).n,.int .i64 (Sd.Timer.step t.oa).most,.int .i64 t.la.n,.int .i64 t.la.most,.bool t.bad]) dJ 0 ?_;intro Mz Cv;refine av (.int .i64 (-1)) ?_;refine aT (aQ (gC (YO ?_)));refine gD rfl (fR [.cell 2 121,.tmp 3] [.agg #[.int .i64 t.aF,.int .i64 t.an,.int .i64 t.offer,.int .i64 (Sd.Timer.step t.oa).n,.int .i64 (Sd.Timer.step t.oa).most,.int .i64 t.la.n,.int .i64 t.la.most,.bool t.bad],.int .i64 (-1)] (.tuple #[.agg #[.int .i64 t.aF,.int .i64 t.an,.int .i64 t.offer,.int .i64 (Sd.Timer.step t.oa).n,.int .i64 (Sd.Timer.step t.oa).most,.int .i64 t.la.n,.int .i64 t.la.most,.bool t.bad],.int .i64 (-1)]) ⟨og Cv 0 8 dJ 0,jw,trivial⟩) ?_;have ze:Sd.Tok.tick t=((⟨t.aF,t.an,t.offer,(Sd.Timer.step t.oa),t.la,t.bad⟩:Sd.Tok),(-1)):=by first|rfl|(simp[Sd.Tok.tick,mj,lP,rL,k_];done)|(simp[Sd.Tok.tick,mj,lP,rL,k_];rfl)|(simp[Sd.Tok.tick,mj,lP,rL,k_];simp[Sd.Tok.tick,mj,lP,rL,k_];done)|(simp[Sd.Tok.tick,mj,lP,rL,k_];simp[Sd.Tok.tick,mj,lP,rL,k_];rfl)|(simp[Sd.Tok.tick,mj,lP,rL,k_];omega)|(unfold Sd.Tok.tick;(repeat' split)<;>first|rfl|assumption|omega|(simp_all;done)|(simp_all;omega))
  exact⟨by(rw[ze])<;>rfl,Cv.ch⟩
 intro vS;have tA:=P3 vS;have MA:=YQ tA;refine kQ (aQ (aR ?_));have zD:=pr.Zc 0 0 8 (b:=dJ) kR;refine Ze pr 5 4 0 dJ 0 [] (.agg (iG (Sd.Tok.jk (⟨t.aF,t.an,t.offer,(Sd.Timer.step t.oa),t.la,t.bad⟩:Sd.Tok)))) [.agg #[.int .i64 t.aF,.int .i64 t.an,.int .i64 t.offer,.int .i64 (Sd.Timer.step t.oa).n,.int .i64 (Sd.Timer.step t.oa).most,.int .i64 t.la.n,.int .i64 t.la.most,.bool t.bad],.agg (iG (Sd.Tok.jk (⟨t.aF,t.an,t.offer,(Sd.Timer.step t.oa),t.la,t.bad⟩:Sd.Tok))),.pointer (aa ⟨bN,2,ae⟩),.int .i64 t.offer,undef] [[5,0],[5,1],[5,2],[5,3],[5,4]] (mO (GK zD 0 bN 0 8 #[.int .i64 t.aF,.int .i64 t.an,.int .i64 t.offer,.int .i64 (Sd.Timer.step t.oa).n,.int .i64 (Sd.Timer.step t.oa).most,.int .i64 t.la.n,.int .i64 t.la.most,.bool t.bad]) (mO (eC_ 152 #[.agg #[.int .i64 t.aF,.int .i64 t.an,.int .i64 t.offer,.int .i64 (Sd.Timer.step t.oa).n,.int .i64 (Sd.Timer.step t.oa).most,.int .i64 t.la.n,.int .i64 t.la.most,.bool t.bad]] (Tn (⟨t.aF,t.an,t.offer,(Sd.Timer.step t.oa),t.la,t.bad⟩:Sd.Tok))) (mO DU (mO (Y_ zD 0 bN 2) (mO (Zb pr 0 (.agg (iG (Sd.Tok.jk (⟨t.aF,t.an,t.offer,(Sd.Timer.step t.oa),t.la,t.bad⟩:Sd.Tok)))) dJ 0) (Qn)))))) ?_;intro ayv My;refine av (.int .i64 t.offer) ?_;refine aT (aQ (gC ?_));refine gD rfl (fR [.cell 2 121,.tmp 3] [.agg (iG (Sd.Tok.jk (⟨t.aF,t.an,t.offer,(Sd.Timer.step t.oa),t.la,t.bad⟩:Sd.Tok))),.int .i64 t.offer] (.tuple #[.agg (iG (Sd.Tok.jk (⟨t.aF,t.an,t.offer,(Sd.Timer.step t.oa),t.la,t.bad⟩:Sd.Tok))),.int .i64 t.offer]) ⟨og My 0 8 dJ 0,jw,trivial⟩) ?_;have ze:Sd.Tok.tick t=((Sd.Tok.jk (⟨t.aF,t.an,t.offer,(Sd.Timer.step t.oa),t.la,t.bad⟩:Sd.Tok)),t.offer):=by first|rfl|(simp[Sd.Tok.tick,mj,lP,vS,tA];done)|(simp[Sd.Tok.tick,mj,lP,vS,tA];rfl)|(simp[Sd.Tok.tick,mj,lP,vS,tA];simp[Sd.Tok.tick,mj,lP,vS,tA];done)|(simp[Sd.Tok.tick,mj,lP,vS,tA];simp[Sd.Tok.tick,mj,lP,vS,tA];rfl)|(simp[Sd.Tok.tick,mj,lP,vS,tA];omega)|(unfold Sd.Tok.tick;(repeat' split)<;>first|rfl|assumption|omega|(simp_all;done)|(simp_all;omega))
 exact⟨by(rw[ze])<;>rfl,My.ch⟩
def alx (p:Sd.aU) (ka:Nat->Option aI) (kn kc:Nat->Nat) (t:Sd.Tok) (f o:Int) (th:Bool) (X:V->Prop):dP prog [Tr] 30 178 [.agg (fM p ka kn kc),.agg (ez t),.int .i64 f,.int .i64 o,.bool th] X=
 let r:Int->Prop:=λn=>X (.ay [.agg (ez t),.int .i64 n])
 cond (f !=t.aF) (r 20) (cond (decide (t.an>=65535)) (r 24) (cond (o==f) (r 25) (cond (decide (o<1)) (r 2) (cond (decide (o>3)) (r 2) (cond (!th) (r 2) (cond (decide (t.offer>=0)) (r 28) (True/\X (.ay [.agg (ez {t with offer:=o,oa:=⟨0,if 0>p.i 44 then 0 else p.i 44⟩}),.int .i64 0])))))))):=kR
def aly (p:Sd.aU) (ka:Nat->Option aI) (kn kc:Nat->Nat) (t:Sd.Tok) (f:Int) (o:Int) (th:Bool) (hp:Sd.fF p) (w:aj):
 aX prog 178 #[.agg (lg p ka kn kc),.agg (iG t),.int .i64 f,.int .i64 o,.bool th] w λv w1=>v=.tuple #[.agg (iG ((Sd.Tok.make p t f o th).1)),.int .i64 ((Sd.Tok.make p t f o th).2)]/\Ch [] w w1:=by
 refine iR (tz (ala _)) (n:=30) (xs:=[.agg (fM p ka kn kc),.agg (ez t),.int .i64 f,.int .i64 o,.bool th]) (v:=.ay [.agg (ez (t.make p f o th).1),.int .i64 (t.make p f o th).2]) ?_;rw[alx];unfold Sd.Tok.make;refine aJ (λh=>by rw[if_pos (by simpa using h)]) (λh=>?_);rw[if_neg (by simpa using h)];refine aJ (λh=>by rw[if_pos (by simpa using h)]) (λh=>?_);rw[if_neg (by simpa using h)];refine aJ (λh=>by rw[if_pos (by simpa using h)]) (λh=>?_);rw[if_neg (by simpa using h)];refine aJ (λh=>by rw[if_pos (.inl (by simpa using h))]) (λh1=>?_);refine aJ (λh=>by rw[if_pos (.inr (.inl (by simpa using h)))]) (λh2=>?_);refine aJ (λh=>by rw[if_pos (.inr (.inr (by simpa using h)))]) (λh3=>?_);rw[if_neg (by simp at h1 h2 h3;rw[h3];simp;omega)];refine aJ (λh=>by rw[if_pos (by simpa using h)]) (λh=>?_);rw[if_neg (show¬0<=t.offer by simpa using h),H5];exact⟨trivial,rfl⟩
def MG (p:Sd.aU) (c:Nat) (n:Int):Int:=Sd.vA n (i64.wrap (0-p.i (50+c))) (p.i (50+c))
def alz (p:Sd.aU) (ka:Nat->Option aI) (kn kc:Nat->Nat) (pt:Sd.fj) (y:Sd.X4) (b:Sd.Label) (X:V->Prop):∀c:Nat,c<4->dP prog [H6] 30 141 [.agg (fM p ka kn kc),.agg (kL pt),.int .i64 (.ofNat c),.agg (uI y),.agg (yc b)] X=(True/\True/\True/\True/\X (.agg (kL ⟨.ofNat c,y.map (MG p c),pt.now,b⟩)))
 |0,_=>kR
 |1,_=>kR
 |2,_=>kR
 |3,_=>kR
 |n+4,h=>absurd h oM
def ab8 (p:Sd.aU) (ka:Nat->Option aI) (kn kc:Nat->Nat) (pt:Sd.fj) (y:Sd.X4) (b:Sd.Label) (n:Nat) (X:V->Prop):dP prog [H6] 30 141 [.agg (fM p ka kn kc),.agg (kL pt),.int .i64 (.ofNat (n+4)),.agg (uI y),.agg (yc b)] X=cond (decide (dG (n+4)>=4)) (X (.agg (kL ⟨.ofNat (n+4),.zero,pt.now,b⟩))) False/\
 dP prog [H6] 30 141 [.agg (fM p ka kn kc),.agg (kL pt),.int .i64 (.negSucc n),.agg (uI y),.agg (yc b)] X=cond (decide (Int.negSucc n<0)) (X (.agg (kL ⟨.negSucc n,.zero,pt.now,b⟩))) False:=⟨kR,kR⟩
def alA (p:Sd.aU) (ka:Nat->Option aI) (kn kc:Nat->Nat) (pt:Sd.fj) (c:Int) (y:Sd.X4) (b:Sd.Label) (hp:Sd.fF p) (w:aj):
 aX prog 141 #[.agg (lg p ka kn kc),.agg (EX pt),.int .i64 c,.agg (x4C y),.agg (abN b)] w λv w1=>v=.agg (EX (Sd.fj.set p pt c y b))/\Ch [] w w1:=by
 cases c with
 |ofNat n=>
  by_cases h:n<4
  ·refine iR (tz (Tt _)) (n:=30) (xs:=[.agg (fM p ka kn kc),.agg (kL pt),.int .i64 (.ofNat n),.agg (uI y),.agg (yc b)]) (v:=.agg (kL ⟨.ofNat n,y.map (MG p n),pt.now,b⟩)) ?_ kR ?_
   ·rw[alz p ka kn kc pt y b _ n h];exact⟨trivial,trivial,trivial,trivial,rfl⟩
   ·unfold Sd.fj.set;rw[if_neg (by show¬((n:Int)<0\/4<=(n:Int));omega)];have hm:=hp.most n h;unfold Sd.aU.most at hm;have e:MG p n=λx=>Sd.vA x (-(p.most (dG n).toNat)) (p.most (dG n).toNat):=by
     funext x;unfold MG;rw[iw oM,Int.zero_sub];rfl
    rw[e];rfl
  ·refine iR (tz (Tt _)) (n:=30) (xs:=[.agg (fM p ka kn kc),.agg (kL pt),.int .i64 (.ofNat n),.agg (uI y),.agg (yc b)]) (v:=.agg (kL ⟨.ofNat n,.zero,pt.now,b⟩)) ?_ kR ?_
   ·have q:=(ab8 p ka kn kc pt y b (n-4) (·=.agg (kL ⟨.ofNat n,.zero,pt.now,b⟩))).1;rw[show n-4+4=n by omega]at q;rw[q];exact aJ (λ_=>rfl) λh=>absurd (of_decide_eq_false h) (by show¬¬(n:Int)>=4;omega)
   ·unfold Sd.fj.set;rw[if_pos (.inr (by show(4:Int)<=(n:Int);omega))];rfl
 |negSucc n=>
  refine iR (tz (Tt _)) (n:=30) (xs:=[.agg (fM p ka kn kc),.agg (kL pt),.int .i64 (.negSucc n),.agg (uI y),.agg (yc b)]) (v:=.agg (kL ⟨.negSucc n,.zero,pt.now,b⟩)) ?_ kR ?_
  ·rw[(ab8 p ka kn kc pt y b n _).2];exact aJ (λ_=>rfl) λh=>absurd (of_decide_eq_false h) (by have:=KG n;omega)
  ·unfold Sd.fj.set;rw[if_pos (.inl (KG n))];rfl
def alB (pt:Sd.fj) (b:Sd.Label) (X:V->Prop):dP prog [] 30 146 [.agg (kL pt),.agg (yc b)] X=X (.agg (kL (pt.hold b))):=kR
def alC (pt:Sd.fj) (b:Sd.Label) (w:aj):
 aX prog 146 #[.agg (EX pt),.agg (abN b)] w λv w1=>v=.agg (EX (Sd.fj.hold pt b))/\Ch [] w w1:=by
 refine iR bP.nil (n:=30) (xs:=[.agg (kL pt),.agg (yc b)]) (v:=.agg (kL (pt.hold b))) ?_;rw[alB]
def EY (a m:Int) (X:V->Prop) (Y:Prop):Prop:=cond (decide (a<i64.wrap (0-m))) (X (.bool af)) (cond (decide (a>m)) (X (.bool af)) Y)
def alD (m:Int) (y:Sd.X4) (X:V->Prop):dP prog [] 30 138 [.int .i64 m,.agg (uI y)] X=EY y.a m X (EY y.b m X (EY y.c m X (EY y.d m X (X (.bool ag))))):=kR
def MH {a m:Int} (hm:0<=m/\m<=1000) {b:Bool} {Y:Prop} (h:a< -m\/m<a->b=af) (k:¬(a< -m\/m<a)->Y):EY a m (·=.bool b) Y:=by
 unfold EY;rw[iw oM,Int.zero_sub];refine aJ (λx=>by rw[h (.inl (by simpa using x))]) (λx=>aJ (λz=>by rw[h (.inr (by simpa using z))]) λz=>k ?_);simp at x z;omega
def ab9 (m:Int) (y:Sd.X4) (hm:0<=m/\m<=1000) (w:aj):
 aX prog 138 #[.int .i64 m,.agg (x4C y)] w λv w1=>v=.bool (Sd.ue m y)/\Ch [] w w1:=by
 refine iR bP.nil (n:=30) (xs:=[.int .i64 m,.agg (uI y)]) (v:=.bool (Sd.ue m y)) ?_;rw[alD];unfold Sd.ue;refine MH hm (λh=>by simp[h]) λh1=>MH hm (λh=>by simp[h]) λh2=>MH hm (λh=>by simp[h]) λh3=>MH hm (λh=>by simp[h]) λh4=>?_;congr 1;simp;omega
def alF (gl:Nat->Option Nat):Ts.Ok prog gl:=by
 intro args bl p_ v_ h hp ids w _ _;unfold Ts at h;dsimp only at h;split at h
 ·rename_i m a b c d;simp only[aW,bC]at h;obtain⟨rfl,rfl⟩:=h;exact told (ab9 m ⟨a,b,c,d⟩ hp w)
 ·cases h
def smV (s:Sd.ft):List V:=.bool s.valid::(uI s.x++[.bool s.pW])
def alG (p:Sd.aU) (ka:Nat->Option aI) (kn kc:Nat->Nat) (r:Int) (s:Sd.ft) (X:V->Prop):dP prog [Ts] 30 97 [.agg (fM p ka kn kc),.int .i64 r,.agg (smV s)] X=
 let m:Int:=if 0>r then 0 else r
 cond (!s.valid) (X (.ay [.int .i64 0,.bool ag])) ((0<=p.i 47/\p.i 47<=1000)/\cond (!Sd.ue (p.i 47) s.x) (X (.ay [.int .i64 0,.bool ag])) (cond (decide (m<p.i 46)) (X (.ay [.int .i64 (i64.wrap (m+1)),.bool (decide (i64.wrap (m+1)>=p.i 46))])) (X (.ay [.int .i64 (p.i 46),.bool (decide (p.i 46>=p.i 46))])))):=kR
def alH (p:Sd.aU) (ka:Nat->Option aI) (kn kc:Nat->Nat) (r:Int) (s:Sd.ft) (hp:Sd.fF p) (h_r:-9223372036854775808<=r/\r<=9223372036854775807) (w:aj):
 aX prog 97 #[.agg (lg p ka kn kc),.int .i64 r,.agg (akO s)] w λv w1=>v=.tuple #[.int .i64 ((Sd.g9 p r s).1),.bool ((Sd.g9 p r s).2)]/\Ch [] w w1:=by
 refine iR (tz (alF _)) (n:=30) (xs:=[.agg (fM p ka kn kc),.int .i64 r,.agg (smV s)]) (v:=.ay [.int .i64 (Sd.g9 p r s).1,.bool (Sd.g9 p r s).2]) ?_;rw[alG];have hb:=hp.beyond;have hs:=hp.sT;unfold Sd.aU.beyond at hb;unfold Sd.aU.sT at hs;have em:(if 0>r then 0 else r)=max r 0:=by by_cases h:0>r<;>simp[h]<;>omega
 rw[em];unfold Sd.g9 Sd.aU.beyond Sd.aU.sT;refine aJ (λh=>by rw[if_pos (.inl (by simpa using h))]) (λh=>⟨hb,aJ (λh'=>by rw[if_pos (.inr (by simpa using h'))]) λh'=>?_⟩);rw[if_neg (by simp at h h';simp[h,h'])];unfold Sd.sat;refine aJ (λh=>?_) (λh=>?_)
 ·have h:max r 0<p.i 46:=by simpa using h
  rw[if_pos h,iw oM]
 ·rw[if_neg (by simpa using h)]
def alI (p:Sd.aU) (ka:Nat->Option aI) (kn kc:Nat->Nat) (pt:Sd.fj) (X:V->Prop):dP prog [Tq] 30 112 [.agg (fM p ka kn kc),.agg (kL pt)] X=
 let n:Sd.X4:=Sd.X4.zip (λa b=>Sd.sU a b (p.i 54)) pt.now pt.bh
 ((aB pt.now.a/\aB pt.bh.a/\aB (p.i 54))/\(aB pt.now.b/\aB pt.bh.b/\aB (p.i 54))/\(aB pt.now.c/\aB pt.bh.c/\aB (p.i 54))/\(aB pt.now.d/\aB pt.bh.d/\aB (p.i 54))/\
   cond (!(n.a==pt.now.a&&(n.b==pt.now.b&&(n.c==pt.now.c&&(n.d==pt.now.d&&af))))) (X (.agg (kL ⟨pt.cls,pt.bh,n,{pt.cd with mQ:=4}⟩))) (X (.agg (kL ⟨pt.cls,pt.bh,n,pt.cd⟩)))):=kR
def alJ (p:Sd.aU) (ka:Nat->Option aI) (kn kc:Nat->Nat) (pt:Sd.fj) (hp:Sd.fF p) (TA:-9223372036854775808<=pt.bh.a/\pt.bh.a<=9223372036854775807) (TD:-9223372036854775808<=pt.bh.b/\pt.bh.b<=9223372036854775807) (TE:-9223372036854775808<=pt.bh.c/\pt.bh.c<=9223372036854775807) (TF:-9223372036854775808<=pt.bh.d/\pt.bh.d<=9223372036854775807) (TG:-9223372036854775808<=pt.now.a/\pt.now.a<=9223372036854775807) (TH:-9223372036854775808<=pt.now.b/\pt.now.b<=9223372036854775807) (TI:-9223372036854775808<=pt.now.c/\pt.now.c<=9223372036854775807) (TJ:-9223372036854775808<=pt.now.d/\pt.now.d<=9223372036854775807) (w:aj):
 aX prog 112 #[.agg (lg p ka kn kc),.agg (EX pt)] w λv w1=>v=.agg (EX (Sd.fj.step p pt))/\Ch [] w w1:=by
 refine iR (tz (ak_ _)) (n:=30) (xs:=[.agg (fM p ka kn kc),.agg (kL pt)]) (v:=.agg (kL (pt.step p))) ?_;rw[alI];have hr:=hp.D0;unfold Sd.aU.D0 at hr;have hr:aB (p.i 54):=by unfold aB;omega
 refine⟨⟨TG,TA,hr⟩,⟨TH,TD,hr⟩,⟨TI,TE,hr⟩,⟨TJ,TF,hr⟩,?_⟩;have e:Sd.fj.step p pt=⟨pt.cls,pt.bh,Sd.X4.zip (λa b=>Sd.sU a b (p.i 54)) pt.now pt.bh,if Sd.X4.zip (λa b=>Sd.sU a b (p.i 54)) pt.now pt.bh=pt.now then pt.cd else{pt.cd with mQ:=4}⟩:=rfl;rw[e];generalize Sd.X4.zip (λa b=>Sd.sU a b (p.i 54)) pt.now pt.bh=n;refine aJ (λh=>?_) (λh=>?_)
 ·rw[if_neg];intro h2;rw[h2]at h;simp at h
 ·rw[if_pos];rcases n with⟨n1,n2,n3,n4⟩;rcases pt with⟨q,u,⟨m1,m2,m3,m4⟩,l⟩;simp at h;simp[h]
def H7 (x:Int):Int:=bif(bits .and .u16 x 32768!=0)then bits .xor .u16 (u16.wrap (x*2^1)) 4129 else u16.wrap (x*2^1)
def yg (x:Int):Nat->Int
 |0=>x
 |k+1=>H7 (yg x k)
def MI (s c:Int):Int:=yg (bits .xor .u16 s (u16.wrap (u16.wrap c*2^8))) 8
def b9 (f:Nat->Int):Nat->Int
 |0=>65535
 |k+1=>MI (b9 f k) (f k)
def alK {x s:Int} {i:Int} (h:0<=i) (e:s=yg x i.toNat) (hb:(bits .and .u16 s 32768!=0)=af):bits .xor .u16 (u16.wrap (s*2^1)) 4129=yg x (i+1).toNat:=by
 have h1:(i+1).toNat=i.toNat+1:=oM;rw[h1];show _=H7 (yg x i.toNat);rw[<-e];unfold H7;rw[hb];rfl
def alL {x s:Int} {i:Int} (h:0<=i) (e:s=yg x i.toNat) (hb:(bits .and .u16 s 32768!=0)=ag):u16.wrap (s*2^1)=yg x (i+1).toNat:=by
 have h1:(i+1).toNat=i.toNat+1:=oM;rw[h1];show _=H7 (yg x i.toNat);rw[<-e];unfold H7;rw[hb];rfl
def alM {f:Nat->Int} {s i:Int} (h:0<=i) (e:s=b9 f i.toNat):MI s (f i.toNat)=b9 f (i+1).toNat:=by
 have h1:(i+1).toNat=i.toNat+1:=oM;rw[h1,e];rfl
def alO (a c:Int) (w:aj):
 aX prog 199 #[.int .u16 a,.int .u8 c] w λv w1=>v=.int .u16 (MI a c)/\Ch [] w w1:=by
 have S0:=St.nil [] w;refine iZ Tryz.func199 rfl ?_;refine aR (aZ ?_);refine av (.int .u16 0) ?_;refine aT (aQ (aR (aZ ?_)));refine av (.int .u16 a) ?_;refine av (.int .u8 c) ?_;refine av (.int .u16 (u16.wrap c)) ?_;refine av (.int .u16 (u16.wrap ((u16.wrap c)*2^8))) ?_;refine av (.int .u16 (bits .xor .u16 a (u16.wrap ((u16.wrap c)*2^8)))) ?_;refine fp ?_;refine aT (aQ (aR (aR (aZ ?_))));refine av (.int .i64 0) ?_;refine aT (aQ (kx ?_));refine K9 (λzn za zw=>∃(i:Int) (s:Int) (fV:Nat->ai),(zn=(8-i).toNat/\0<=i/\i<=8/\s=yg (bits .xor .u16 a (u16.wrap ((u16.wrap c)*2^8))) i.toNat)/\za=⟨#[.int .u16 s,.int .u8 c,undef,undef,.int .u16 0,.int .u16 a,.int .u8 c,.int .u16 (u16.wrap c),.int .u16 (u16.wrap ((u16.wrap c)*2^8)),.int .u16 (bits .xor .u16 a (u16.wrap ((u16.wrap c)*2^8))),.int .i64 i,(fV 11),(fV 12),(fV 13),(fV 14),(fV 15),(fV 16),(fV 17),(fV 18),(fV 19),(fV 20),undef],[]⟩/\St [] w [] zw) _ (λzy nJ=>⟨(0:Int),(bits .xor .u16 a (u16.wrap ((u16.wrap c)*2^8))),(λd=>zy.tmps.getD d undef),⟨rfl,oM,oM,rfl⟩,by subst nJ;kernel_rfl,S0.re (R:=([]:List ao)) [] []⟩) ?_;rintro _ _ nI ⟨i,s,fV,⟨rfl,zf2,zf3,xO⟩,rfl,dr⟩;refine aR (aZ ?_);refine av (.bool (decide (i<8))) ?_;refine aT (aQ (aR ?_));refine pT (decide (i<8)) ?_ ?_
 ·intro xP;have qh:=Bu xP;refine kQ (aQ (aR (kx (aR (aZ ?_)))));refine av (.int .u16 s) ?_;refine av (.int .u16 (bits .and .u16 s 32768)) ?_;refine av (.bool ((bits .and .u16 s 32768)!=0)) ?_;refine aT (aQ ?_);refine pT ((bits .and .u16 s 32768)!=0) ?_ ?_
  ·intro xQ;have mg:=PZ xQ;refine aZ ?_;refine av (.int .u16 s) ?_;refine av (.int .u16 (u16.wrap (s*2^1))) ?_;refine av (.int .u16 (bits .xor .u16 (u16.wrap (s*2^1)) 4129)) ?_;refine fp ?_;refine aT (mH (aQ (aZ ?_)));refine l6 .i64 (i+1) (Bj _ oM) ?_;refine av (.int .i64 (i+1)) ?_;refine aT ?_;refine GP λzy nJ=>?_;exact⟨_,oM,(i+1),(bits .xor .u16 (u16.wrap (s*2^1)) 4129),(λd=>zy.tmps.getD d undef),⟨rfl,oM,oM,(alK oM xO xQ)⟩,by subst nJ;kernel_rfl,dr.re (R:=([]:List ao)) [] []⟩
  intro k9;have xK:=P1 k9;refine aZ ?_;refine av (.int .u16 s) ?_;refine av (.int .u16 (u16.wrap (s*2^1))) ?_;refine fp ?_;refine aT (mH (aQ (aZ ?_)));refine l6 .i64 (i+1) (Bj _ oM) ?_;refine av (.int .i64 (i+1)) ?_;refine aT ?_;refine GP λzy nJ=>?_;exact⟨_,oM,(i+1),(u16.wrap (s*2^1)),(λd=>zy.tmps.getD d undef),⟨rfl,oM,oM,(alL oM xO k9)⟩,by subst nJ;kernel_rfl,dr.re (R:=([]:List ao)) [] []⟩
 intro oB;have vP:=Bv oB;refine wp_exit (mG (mG (wP (aQ (aR (aZ ?_))))));refine av (.int .u16 s) ?_;refine av (.int .u16 s) ?_;refine aT (aQ (gC ?_));refine gD rfl (fR [.tmp 4] [.int .u16 s] (.int .u16 s) ⟨jw,trivial⟩) ?_;exact⟨congrArg _ (by rw[xO,show i.toNat=8 by omega];rfl),dr.ch⟩
def ab_ (b o n c:Nat) (f:Nat->Int) (hn:n<=1000000) (w:aj) (hB:cA w b o n f):
 aX prog 157 #[.slice (aa ⟨b,o,ae⟩) n c] w λv w1=>v=.int .u16 (b9 f n)/\Ch [] w w1:=by
 have S0:=St.nil [] w;refine iZ Tryz.func157 rfl ?_;refine aR (aZ ?_);refine av (.int .u16 0) ?_;refine aT (aQ (aR (aZ ?_)));refine av (.int .u16 65535) ?_;refine aT (aQ (aR (aR (aZ ?_))));refine dh ?_;refine av (.int .i64 ((n:Nat):Int)) ?_;refine av (.int .i64 0) ?_;refine aT (aQ (kx ?_));refine K9 (λzn za zw=>∃(i:Int) (s:Int) (fV:Nat->ai),(zn=(((n:Nat):Int)-i).toNat/\0<=i/\i<=((n:Nat):Int)/\s=b9 f i.toNat)/\za=⟨#[.slice (aa ⟨b,o,ae⟩) n c,undef,.int .u16 0,.int .u16 s,undef,(fV 5),.slice (aa ⟨b,o,ae⟩) n c,.int .i64 ((n:Nat):Int),.int .i64 i,(fV 9),(fV 10),(fV 11),(fV 12),(fV 13),(fV 14),(fV 15),undef],[]⟩/\St [] w [] zw) _ (λzy nJ=>⟨(0:Int),(65535:Int),(λd=>zy.tmps.getD d undef),⟨rfl,oM,oM,rfl⟩,by subst nJ;kernel_rfl,S0.re (R:=([]:List ao)) [] []⟩) ?_;rintro _ _ nI ⟨i,s,fV,⟨rfl,zf2,zf3,xO⟩,rfl,dr⟩;refine aR (aZ ?_);refine av (.bool (decide (i<((n:Nat):Int)))) ?_;refine aT (aQ (aR ?_));refine pT (decide (i<((n:Nat):Int))) ?_ ?_
 ·intro xP;have qh:=Bu xP;refine kQ (aQ (aR (kx (aR (aZ ?_)))));refine sR (e:=5) b o (i).toNat n 1 c .i64 i oM oM oM ?_;refine vz b o n (o+(i).toNat*1) (i).toNat f (St.mP dr hB sP) oM oM ?_;refine av (.int .u8 (f (i).toNat)) ?_;refine aT (aQ (aZ ?_));refine av (.int .u16 s) ?_;refine av (.int .u8 (f (i).toNat)) ?_;refine fY 199 #[.int .u16 s,.int .u8 (f (i).toNat)] ?_;refine(alO s (f (i).toNat) _).mono ?_;rintro _ zw9 ⟨rfl,mg⟩;have Am:=dr.quiet mg;refine fp ?_;refine aT (mH (aQ (aZ ?_)));refine l6 .i64 (i+1) (Bj _ oM) ?_;refine av (.int .i64 (i+1)) ?_;refine aT ?_;refine GP λzy nJ=>?_;exact⟨_,oM,(i+1),(MI s (f (i).toNat)),(λd=>zy.tmps.getD d undef),⟨rfl,oM,oM,alM oM xO⟩,by subst nJ;kernel_rfl,Am.re (R:=([]:List ao)) [] []⟩
 intro xK;have oB:=Bv xK;refine wp_exit (mG (mG (wP (aQ (aR (aZ ?_))))));refine av (.int .u16 s) ?_;refine av (.int .u16 s) ?_;refine aT (aQ (gC ?_));refine gD rfl (fR [.tmp 2] [.int .u16 s] (.int .u16 s) ⟨jw,trivial⟩) ?_;exact⟨congrArg _ (by rw[xO,show i.toNat=n by omega]),dr.ch⟩
def yi (n:Nat) (f:Nat->Int):Nat->Int:=cx (3+n) (cx 3 (gu [165,1,n]) f) (gu [u8.wrap (kP (b9 (Qy (cx 3 (gu [165,1,n]) f) 1) (3+n-1)) (2^8)),u8.wrap (b9 (Qy (cx 3 (gu [165,1,n]) f) 1) (3+n-1))])
def H8:dk CG:=λargs bl ch K=>match args,EJ ch with
 |[.raw (.slice (aa ⟨b,o,ae⟩) m c)],aa (l,r)=>(b=r.b/\o+m<=r.n/\m<=1000000)/\K (.int .u16 (b9 (xT o r.f) m)) bl ch
 |_,_=>False
def alQ {gl:Nat->Option Nat}:Sound prog gl 157 H8:=by
 intro args ids bl ch R ms w0 w K hg hl S hc;unfold H8 at hc;split at hc
 ·rename_i b o m c l r HN;obtain⟨⟨rfl,h1,h2⟩,hK⟩:=hc;obtain rfl:=Mq HN;refine(ab_ r.b o m c (xT o r.f) h2 w (abI (HR S) h1)).mono ?_;rintro v w' ⟨rfl,cz⟩;exact⟨.int .u16 (b9 (xT o r.f) m),[],bl,_,rfl,by simpa using hl,by simpa using S.quiet cz,hK⟩
 ·exact hc.elim
def alR:jo H8:=by
 intro args bl ch K hc;unfold H8 at hc⊢;split at hc
 ·exact⟨hc.1,hc.2,[],sP⟩
 ·exact hc.elim
def TK:List (bK CG):=[⟨157,af,H8⟩]
def fpX (u:aj) (b o n:Nat) (K:VK CG):Prop:=
 let cp:=i64.wrap (i64.wrap (3+(n:Int))+2)
 let l1:=[165,1,u8.wrap (n:Int)]
 let F1:=cx 0 (λ_=>0) (gu l1)
 let N:=0+(2+1)+n
 cond (decide ((n:Int)>32)) (K (.ay [.raw (.slice ae 0 0),.int .i64 1]) [] [.bj u])
  ((1<=cp/\cp<=1000000)/\∀b0:Nat,0+(2+1)<=l1.length/\(b0=b0/\0=0/\cp.toNat=cp.toNat/\0<=cp.toNat/\0+(2+1)<=1000000/\0<0+(2+1))/\∀b1 c1:Nat,0+(2+1)<=c1->∃f,cA u b o n f/\
    let F2:=cx (0+(2+1)) F1 f
    (b1=b1/\0+(2+1)=0+(2+1)/\c1=c1/\0+(2+1)<=c1/\N<=1000000/\0<N)/\∀b2 c2:Nat,N<=c2->(1<N/\N<=c2)/\(b2=b2/\0+1+(N-1)<=N/\N-1<=1000000)/\
     let s:=b9 (xT (0+1) F2) (N-1)
     let l2:=[u8.wrap (kP s (2^8)),u8.wrap s]
     0+(1+1)<=l2.length/\(b2=b2/\N=N/\c2=c2/\N<=c2/\N+(1+1)<=1000000/\0<N+(1+1))/\∀b3 c3:Nat,N+(1+1)<=c3->
      K (.ay [.raw (.slice (aa ⟨b3,0,ae⟩) (N+(1+1)) c3),.int .i64 0]) [] [.bj u,.row ⟨N+(1+1),cx N F2 (gu l2),b3,c3⟩])
def alS (u:aj) (b o n c:Nat) (K:VK CG):oC TK 166 [.raw (.slice (aa ⟨b,o,ae⟩) n c)] [] [.bj u] (bA 0 K)=fpX u b o n K:=kR
def alT (b o n c:Nat) (f:Nat->Int) (hn:n<=32) (w:aj) (hB:cA w b o n f):
 aX prog 166 #[.slice (aa ⟨b,o,ae⟩) n c] w λv w1=>∃b c1,v=.tuple #[.slice (aa ⟨b,0,ae⟩) (n+5) c1,.int .i64 0]/\n+5<=c1/\w.heap.size<=b/\w1.heap[b]?=aa (.cells (bE (n+5) (yi n f) c1) 5 (0,0))/\Ch [] w w1:=by
 have hL:aH prog cJ TK:=aH.cons ⟨alQ,λ_=>alR⟩ aH.nil;have e1:i64.wrap (i64.wrap (3+(n:Int))+2)=((n+5:Nat):Int):=by simp[zo,vj,vm];omega
 have e2:u8.wrap (n:Int)=n:=by simp[zo,vj,vm];omega
 have h:oC TK 166 [.raw (.slice (aa ⟨b,o,ae⟩) n c)] [] [.bj w] (bA 0 λv bl ch=>bl=[]/\∃b3 c3,n+5<=c3/\v=.ay [.raw (.slice (aa ⟨b3,0,ae⟩) (n+5) c3),.int .i64 0]/\ch=[.bj w,.row ⟨n+5,yi n f,b3,c3⟩]):=by
  rw[alS];unfold fpX;dsimp only;rw[e1,e2,vn];refine aJ (λh=>absurd (of_decide_eq_true h) oM) λ_=>⟨⟨oM,oM⟩,λb0=>⟨cY 3,⟨rfl,rfl,rfl,oM,oM,oM⟩,λb1 c1 h1=>⟨f,hB,⟨rfl,rfl,rfl,h1,oM,oM⟩,λb2 c2 h2=>⟨⟨oM,h2⟩,⟨rfl,oM,oM⟩,cY 2,⟨rfl,rfl,rfl,h2,oM,oM⟩,λb3 c3 h3=>⟨rfl,b3,c3,oM,?_,?_⟩⟩⟩⟩⟩
  ·rw[show 0+(2+1)+n+(1+1)=n+5 by omega]
  ·rw[show 0+(2+1)+n+(1+1)=n+5 by omega,show 0+(2+1)+n=3+n by omega,xU 0];rfl
 refine(Ap hL h).mono ?_;rintro v w' ⟨x,ids,bl,ch,rfl,hl,S,rfl,b3,c3,hc,rfl,rfl⟩;exact⟨b3,c3,rfl,hc,SR (l:=[.bj w]) S,HR (l:=[.bj w]) S,S.ch⟩
def mn (r:Sd.Rec):Nat->Int:=(ee (ee (ee (ee (ee (ee (λ_=>0) 0 1 (bG 1 ((u64.wrap r.kind)%256))) 1 1 (bG 1 ((u64.wrap r.source)%256))) 2 4 (bG 4 ((u64.wrap r.seq)%4294967296))) 6 2 (bG 2 ((u64.wrap r.an)%65536))) 8 1 (bG 1 ((u64.wrap r.code)%256))) 9 1 (bG 1 ((u64.wrap r.how)%256)))
def yj (h:Nat->Int) (r:Sd.Rec):Nat->Int:=kK (32+10) (cx 32 h (mn r))
def H9 {G:Type}:(bg->V)->Op->List VB->List G->VK G->Prop:=λe op bl ch K=>match op with
 |.call c=>(match c.callee,c.args.toList,c.argTypes.toList with
  |.builtin .copy,[s,xs],[t,tx]=>(match prog.underlying t,e s,e xs with
   |some (.slice 5),.sl i o n c,.sl j 0 m c2=>(match bl[i]?,bl[j]?with
    |some ⟨af,⟨T,(0,0)⟩,l⟩,aa ⟨_,⟨_,(0,0)⟩,l2⟩=>(match qi l,qi l2 with
     |some r,aa r2=>cond (aA r2.length m&&(aA m n&&bZ (o+m) r.length)) (K (.int .i64 (m:Int)) (bl.set i ⟨af,⟨T,(0,0)⟩,l.take o++(l2++l.drop (o+m))⟩) ch) False
     |_,_=>False)
    |_,_=>False)
   |_,_,_=>False)
  |_,_,_=>False)
 |_=>False
def TM (ids:List Nat):∀{l:List V} {r:List Int},qi l=aa r->l=r.map (V.int .u8)/\ak ids l=r.map (fI .u8)
 |[],r,h=>by cases h;exact⟨rfl,rfl⟩
 |v::l,r,h=>by
  unfold qi at h;split at h
  ·rename_i e;cases e
  ·rename_i x l' e;obtain⟨rfl,rfl⟩:=wI e;split at h
   ·rename_i r' hr;cases h;obtain⟨h1,h2⟩:=TM ids hr;exact⟨by rw[h1];rfl,by simp only[ak,cl,den,h2,gb,wJ]⟩
   ·cases h
  ·cases h
def TN {G:Type} [Bl G] {gl:Nat->Option Nat}:ik (G:=G) prog gl H9:=by
 intro e op ids bl ch R ms w0 w K ρ o hg hl S bd ho h;unfold H9 at h;split at h
 ·rename_i c;split at h
  ·rename_i s xs t tx ff cN dU;split at h
   ·rename_i i oo n cc j m c2 hu gE fS;split at h
    ·rename_i T l wr T2 l2 hb hJ;split at h
     ·rename_i r r2 hr um;cases hq:aA r2.length m&&(aA m n&&bZ (oo+m) r.length)with
      |false=>rw[hq]at h;exact h.elim
      |true=>
       rw[hq]at h;simp only[bD]at hq;obtain rfl:=ck hq.1;obtain rfl:=ck hq.2.1;have hle:=eO hq.2.2;obtain⟨mR,ar,iO⟩:=c;simp only at ff cN dU;have e2:ar=#[s,xs]:=by rw[<-cN]
       have e3:iO=#[t,tx]:=by rw[<-dU]
       subst ff e2 e3;obtain⟨q1,q2⟩:=TM ids hr;obtain⟨q3,q4⟩:=TM ids um;have aS:=(gx hl S hb).2;have s_:=(gx hl S hJ).2;have hj:=(gx hl S hb).1;have bT:=run_copy_row (P:=prog) w t tx o.type 5 (ids.getD i 0) oo r2.length cc ⟨ids.getD j 0,0,ae⟩ r2.length c2 (ak ids l).toArray T (ak ids l2) hu kR aS (by rw[q4];simp) (λk v hk=>by
        rw[iK,cell_of s_];simpa using hk) (by rw[q4,q2];simpa using hle) (λv hv=>by
        rw[q4]at hv;obtain⟨x,_,rfl⟩:=n8.1 hv;rfl)
       have hex:=La (P:=prog) (ρ:=ρ) (o:=o) ho (sv:=.slice (aa ⟨ids.getD i 0,oo,ae⟩) r2.length cc) (xv:=.slice (aa ⟨ids.getD j 0,0,ae⟩) r2.length c2) (by rw[bd,gE];rfl) (by rw[bd,fS];rfl) bT;have hlen:(ak ids l2).length=r2.length:=by rw[q4];simp
       rw[hlen]at hex;refine⟨.int .i64 (r2.length:Int),[],_,_,_,.inl hex,by simpa using hl,?_,h⟩;simp only[cT];have fE:=S.step hj rfl (Ch.setRow w _ _) (setRow_heap w (ids.getD i 0) (ak ids l).toArray (((ak ids l).toArray.toList.take oo++ak ids l2++(ak ids l).toArray.toList.drop (oo+r2.length)).toArray) T (0,0) aS);have mM:i<(lits ids ids bl).length:=by rw[zT ids bl hl];rcases c9 i bl.length with h'|h';exact h';simp[h']at hb
       rw[<-D_ (ids:=ids) ids bl i _ hl,<-List.set_append_left _ _ mM];have e5:(ak ids (l.take oo++(l2++l.drop (oo+r2.length)))).toArray=((ak ids l).toArray.toList.take oo++ak ids l2++(ak ids l).toArray.toList.drop (oo+r2.length)).toArray:=by
        have:∀q:List Int,ak ids (q.map (V.int .u8))=q.map (fI .u8):=λq=>by
         induction q with
         |nil=>rfl
         |cons x q ih=>simp only[gb,ak,cl,den,ih,wJ]
        rw[jK,jK,q2,q4,q1,<-List.map_take,<-List.map_drop,this,this,bW,List.map_take,List.map_drop]
       simp only[aC,e5];exact fE
     ·exact h.elim
    ·exact h.elim
   ·exact h.elim
  ·exact h.elim
 ·exact h.elim
def tF (x m:Int):Int:=bits .and .u64 (u64.wrap x) m
def Aq (k:Nat) (x m:Int) (X:Prop):Prop:=(0<=tF x m/\tF x m<2^(8*k))/\X
def alU (a b c d e f:Int) (K:VK Empty):Prop:=
 Aq 1 a 255 (Aq 1 b 255 (Aq 4 c 4294967295 (Aq 2 d 65535 (Aq 1 e 255 (Aq 1 f 255
  (K (.agg (ints 1 (bG 1 (tF a 255))++(ints 1 (bG 1 (tF b 255))++(ints 4 (bG 4 (tF c 4294967295))++(ints 2 (bG 2 (tF d 65535))++(ints 1 (bG 1 (tF e 255))++ints 1 (bG 1 (tF f 255)))))))) [] []))))))
def alW (a b c d e f:Int) (K:VK Empty):br (gy prog cJ (EL Empty) H9 TN) 60 29 [.agg [.int .i64 a,.int .i64 b,.int .i64 c,.int .i64 d,.int .i64 e,.int .i64 f]] [] [] (bA 0 K)=alU a b c d e f K:=by
 kernel_rfl
def EZ {k j:Nat} {x m d:Int} {X:Prop} (hm:m=2^j-1) (hd:d=2^j) (hj:j<64) (hk:d=2^(8*k)) (hX:X):Aq k x m X:=by
 unfold Aq tF;have h0:0<d:=by rw[hd];exact Int.pow_pos dC
 rw[sG .u64 _ m d j hm hd hj];exact⟨⟨Int.emod_nonneg _ oM,hk▸Int.emod_lt_of_pos _ h0⟩,hX⟩
def alY (r:Sd.Rec) (w:aj):
 aX prog 29 #[.agg (recC r)] w λv w1=>v=.agg #[.int .u8 (mn r 0),.int .u8 (mn r 1),.int .u8 (mn r 2),.int .u8 (mn r 3),.int .u8 (mn r 4),.int .u8 (mn r 5),.int .u8 (mn r 6),.int .u8 (mn r 7),.int .u8 (mn r 8),.int .u8 (mn r 9)]/\Ch [] w w1:=by
 have m1:∀x,tF x 255=u64.wrap x%256:=λx=>sG .u64 _ 255 256 8 dC dC dC;have m2:∀x,tF x 65535=u64.wrap x%65536:=λx=>sG .u64 _ 65535 65536 16 dC dC dC;have m4:∀x,tF x 4294967295=u64.wrap x%4294967296:=λx=>sG .u64 _ 4294967295 4294967296 32 dC dC dC;have h:ta (br (gy prog cJ (EL Empty) H9 TN) 60 29 [.agg [.int .i64 r.kind,.int .i64 r.source,.int .i64 r.seq,.int .i64 r.an,.int .i64 r.code,.int .i64 r.how]] [] [] (bA 0 λv _ _=>v=.agg (ints 10 (mn r)))):=by
  rw[alW];constructor;refine EZ (j:=8) (d:=256) rfl rfl dC rfl (EZ (j:=8) (d:=256) rfl rfl dC rfl (EZ (j:=32) (d:=4294967296) rfl rfl dC rfl (EZ (j:=16) (d:=65536) rfl rfl dC rfl (EZ (j:=8) (d:=256) rfl rfl dC rfl (EZ (j:=8) (d:=256) rfl rfl dC rfl ?_)))));rw[m1,m1,m1,m1,m2,m4];show V.agg _=V.agg _;kernel_rfl
 refine(SL (G:=Empty) (L:=EL Empty) (h:=H9) (hok:=TN) abf h).mono ?_;rintro v w' ⟨y,ids,bl,ch,rfl,hl,S,rfl⟩;exact⟨kR,S.ch⟩
def alZ (h:Nat->Int) (r:Sd.Rec) {tG:aM} (w:aj) (hG:w.heap[0]?=aa (.cells (aD .u32 64 c_) tG (0,0))):
 aX prog 28 #[.agg (aD .u8 32 h),.agg (recC r)] w λv w1=>v=.agg (aD .u8 32 (yj h r))/\Ch [] w w1:=by
 have S0:=St.given (w:=w) [(0,.cells (aD .u32 64 c_) tG (0,0))] (all_cons hG (all_nil));refine iZ Tryz.func28 rfl ?_;refine aR (aZ ?_);refine fc S0 (λb=>.pointer (aa ⟨b,0,ae⟩)) (.cells (aD .u8 32 h) 46) ?_;intro bN jd dV;refine fc dV (λb=>.pointer (aa ⟨b,0,ae⟩)) (.cells (recC r) 64) ?_;intro dJ nI dr;refine fc dr (λb=>.pointer (aa ⟨b,0,ae⟩)) (.cells (aD .u8 32 (λ_=>0)) 46) ?_;intro uF zw8 jO;refine aT (aQ (aR (aZ ?_)));refine kS jO 1 6 (recC r) dJ 0 ?_;refine fY 29 #[.agg (recC r)] ?_;refine(alY r _).mono ?_;rintro _ aiT ⟨rfl,k9⟩;have rG:=jO.quiet k9;refine fc rG (λb=>.pointer (aa ⟨b,0,ae⟩)) (.cells (aD .u8 10 (λ_=>0)) 79) ?_;intro TO ale SU;refine store_ SU 0 (.agg (aD .u8 10 (mn r))) TO 0 ?_;intro aa1 te;refine aT (aQ (aR ?_));refine agE 2 [.slice (aa ⟨bN,0,ae⟩) 32 32,.slice (aa ⟨TO,0,ae⟩) 10 10] [[2,0],[2,1],[3,2,0],[3,2,1],[3,2],[4,0],[4,1],[4,2],[4,3]] (step_cons ja (step_cons ja (BA))) ?_;intro Ci SX;have rI:=te.quiet SX;refine Zp (x0:=aa ⟨bN,0,ae⟩) (T:=5) (n:=32) (c:=32) (m:=10) (f:=h) (g:=(mn r)) (xv:=.slice (aa ⟨TO,0,ae⟩) 10 10) rI (dM.Qz (St.eQ (N:=32) (f:=h) (wr:=af) (t:=46) (fr:=(0,0)) rI 3) oM oM) (BF (e':=5) (St.eQ (N:=10) (f:=(mn r)) (wr:=af) (t:=79) (fr:=(0,0)) rI 0)) oM oM ?_;intro xL Cj abq uD pr;refine fY 44 #[.slice (aa ⟨xL,0,ae⟩) (32+10) Cj] ?_;refine(Sh xL 0 (32+10) Cj (cx 32 h (mn r)) oM _ (pr.at_ 5 _ rfl) (St.BG (c:=Cj) (wr:=af) (t:=5) (fr:=(0,0)) pr 0)).mono ?_;rintro _ aa2 ⟨rfl,k_⟩;have HG:=pr.quiet k_;refine store_ HG 2 (.agg (aD .u8 32 (kK (32+10) (cx 32 h (mn r))))) uF 0 ?_;intro Mz Cv;refine aT (aQ (gC ?_));refine gD rfl (fR [.cell 4 46] [.agg (aD .u8 32 (kK (32+10) (cx 32 h (mn r))))] (.agg (aD .u8 32 (kK (32+10) (cx 32 h (mn r))))) ⟨og Cv 2 32 uF 0,trivial⟩) ?_;exact⟨kR,Cv.ch⟩
def E0 (N:Nat) (F:Nat->(Nat->Int)->Int->Int->(Nat->Int)->Nat->Int):dk CG:=λargs bl ch K=>match args,ch with
 |[.raw (.slice ka kn kc),.int .i64 s,.int .i64 r,.agg l],.bj u::_=>(match qi l with
  |some q=>∃kf nc:Nat->Int,((1<=kn/\kn<=64)/\(0<=s/\s<4294967296)/\(0<=r/\r<4294967296)/\(∃tG,u.heap[0]?=aa (.cells (aD .u32 64 c_) tG (0,0)))/\dM u ka kn kc kf/\q.length=8/\∀j,j<8->gu q j=nc j)/\K (.agg (ints N (F kn kf s r nc))) bl ch
  |none=>False)
 |_,_=>False
def H_:dk CG:=λargs bl ch K=>match args,ch with
 |[.raw (.slice ka kn kc),.int .i64 s,.int .i64 n],.bj u::_=>∃kf:Nat->Int,((1<=kn/\kn<=64)/\(0<=s/\s<4294967296)/\(0<=n/\n<4294967296)/\(∃tG,u.heap[0]?=aa (.cells (aD .u32 64 c_) tG (0,0)))/\dM u ka kn kc kf)/\K (.agg (ints 8 (kg kn kf s n))) bl ch
 |_,_=>False
def Ia:dk CG:=λargs bl ch K=>match args with
 |[.sl i 0 n c,.sl j 0 m c2]=>(match bl[i]?,bl[j]?with
  |some ⟨_,⟨_,(0,0)⟩,l⟩,aa ⟨_,⟨_,(0,0)⟩,l2⟩=>(match qi l,qi l2 with
   |some q,aa q2=>∃f g:Nat->Int,(q.length=n/\q2.length=n/\m=n/\n<=1000000/\(∀j,j<n->gu q j=f j)/\∀j,j<n->gu q2 j=g j)/\K (.bool (tn n f g)) bl ch
   |_,_=>False)
  |_,_=>False)
 |_=>False
def nM (m:Int) (b:Bool) (nc:Nat->Int):List V:=.int .i64 m::.bool b::ints 8 nc
def Ar:List (bK CG):=[⟨164,af,H_⟩,⟨167,af,E0 8 uH⟩,⟨169,af,E0 32 lO⟩,⟨168,af,Ia⟩]
def al0 {ids:List Nat} {l:List V} {q:List Int} {m:Nat} {g:Nat->Int} (h:qi l=aa q) (hq:q.length=m) (hg:∀j,j<m->gu q j=g j):den ids (.agg l)=.agg (aD .u8 m g):=by
 simp only[den,HK ids h,hq];rw[DX hg];rfl
def aca {ids:List Nat} {bl:List VB} {u w w0:aj} {rest:List CG} {R:List ao} {ms:List Nat} (S:St ms w0 (lits ids ids bl++au (CG.bj u::rest) R) w) {a:Option aI} {n c:Nat} {f:Nat->Int} (h:dM u a n c f):dM w a n c f:=by
 refine⟨h.1,h.2.1,h.2.2.1,λx e j hj=>?_⟩;have h1:=h.2.2.2 x e j hj;unfold zl at h1⊢;cases hh:u.heap[(x.add j).block]?with
 |none=>simp[hh]at h1
 |some ob=>
  have:w.heap[(x.add j).block]?=aa ob:=S.at' (x:=⟨(x.add j).block,ag,ob⟩) (H3 (Mp hh));simp only[hh,this]at h1⊢;exact h1
def acb {gl:Nat->Option Nat} {N:Nat} {F:Nat->(Nat->Int)->Int->Int->(Nat->Int)->Nat->Int} {f:fl} (hF:∀(ka:Option aI) (kn kc:Nat) (kf:Nat->Int) (s r:Int) (nc:Nat->Int),1<=kn/\kn<=64->0<=s/\s<4294967296->0<=r/\r<4294967296->∀{tG:aM} (w:aj),w.heap[0]?=aa (.cells (aD .u32 64 c_) tG (0,0))->dM w ka kn kc kf->
 aX prog f #[.slice ka kn kc,.int .i64 s,.int .i64 r,.agg (aD .u8 8 nc)] w λv w1=>v=.agg (aD .u8 N (F kn kf s r nc))/\Ch [] w w1):Sound prog gl f (E0 N F):=by
 intro args ids bl ch R ms w0 w K hg hl S hc;unfold E0 at hc;split at hc
 ·rename_i ka kn kc s r l u rest;split at hc
  ·rename_i q hq;obtain⟨kf,nc,⟨hn,hs,hr,⟨tG,hG⟩,hk,h8,j7⟩,hK⟩:=hc;have ea:(aE ids [.raw (.slice ka kn kc),.int .i64 s,.int .i64 r,.agg l]).toArray=#[.slice ka kn kc,.int .i64 s,.int .i64 r,.agg (aD .u8 8 nc)]:=by
    simp only[aE,al0 hq h8 j7];rfl
   rw[ea];refine(hF ka kn kc kf s r nc hn hs hr w (Tl S hG) (aca S hk)).mono ?_;rintro v w' ⟨rfl,cz⟩;exact⟨.agg (ints N (F kn kf s r nc)),[],bl,_,by simp only[den,EK],by simpa using hl,by simpa using S.quiet cz,hK⟩
  ·exact hc.elim
 ·exact hc.elim
def acd {N:Nat} {F:Nat->(Nat->Int)->Int->Int->(Nat->Int)->Nat->Int}:jo (E0 N F):=by
 intro args bl ch K hc;unfold E0 at hc⊢;split at hc
 ·split at hc
  ·obtain⟨kf,nc,h,hK⟩:=hc;exact⟨kf,nc,h,hK,[],sP⟩
  ·exact hc.elim
 ·exact hc.elim
def al1 {gl:Nat->Option Nat}:Sound prog gl 164 H_:=by
 intro args ids bl ch R ms w0 w K hg hl S hc;unfold H_ at hc;split at hc
 ·rename_i ka kn kc s n u rest;obtain⟨kf,⟨hn,hs,hr,⟨tG,hG⟩,hk⟩,hK⟩:=hc;refine(ai9 ka kn kc kf s n hn hs hr w (Tl S hG) (aca S hk)).mono ?_;rintro v w' ⟨rfl,cz⟩;exact⟨.agg (ints 8 (kg kn kf s n)),[],bl,_,by simp only[den,EK],by simpa using hl,by simpa using S.quiet cz,hK⟩
 ·exact hc.elim
def al2:jo H_:=by
 intro args bl ch K hc;unfold H_ at hc⊢;split at hc
 ·obtain⟨kf,h,hK⟩:=hc;exact⟨kf,h,hK,[],sP⟩
 ·exact hc.elim
def ace {ids:List Nat} {bl:List VB} {X:List ao} {ms:List Nat} {w0 w:aj} (hl:ids.length=bl.length) (S:St ms w0 (lits ids ids bl++X) w) {i n:Nat} {b:VB} {q:List Int} {f:Nat->Int} (hb:bl[i]?=aa b) (h:qi b.c=aa q) (hq:q.length=n) (hf:∀j,j<n->gu q j=f j):cA w (ids.getD i 0) 0 n f:=λj hj=>by
 have aS:=(gx hl S hb).2;rw[cell_of aS,HK ids h,dS];simp only[jX];rw[rh _ oM,hf j hj]
def al3 {gl:Nat->Option Nat}:Sound prog gl 168 Ia:=by
 intro args ids bl ch R ms w0 w K hg hl S hc;unfold Ia at hc;split at hc
 ·rename_i i n c j m c2;split at hc
  ·rename_i w1 t1 l w2 t2 l2 hb hJ;split at hc
   ·rename_i q q2 hq TP;obtain⟨f,g,⟨e1,e2,rfl,hn,hf,Ib⟩,hK⟩:=hc;refine(aa9 (ids.getD i 0) 0 m c (ids.getD j 0) 0 c2 f g hn w (ace hl S hb hq e1 hf) (ace hl S hJ TP e2 Ib)).mono ?_;rintro v w' ⟨rfl,cz⟩;exact⟨.bool (tn m f g),[],bl,_,rfl,by simpa using hl,by simpa using S.quiet cz,hK⟩
   ·exact hc.elim
  ·exact hc.elim
 ·exact hc.elim
def al4:jo Ia:=by
 intro args bl ch K hc;unfold Ia at hc⊢;split at hc
 ·split at hc
  ·split at hc
   ·obtain⟨f,g,h,hK⟩:=hc;rename_i e1 e2;simp only[e1,e2];exact⟨f,g,h,hK,[],sP⟩
   ·exact hc.elim
  ·exact hc.elim
 ·exact hc.elim
def Ic:aH prog cJ Ar:=aH.cons ⟨al1,λ_=>al2⟩ (aH.cons ⟨acb λka kn kc kf s r nc h1 h2 h3 _ w hG hk=>ajx ka kn kc kf s r nc h1 h2 h3 w hG hk,λ_=>acd⟩ (aH.cons ⟨acb λka kn kc kf s r nc h1 h2 h3 _ w hG hk=>ajz ka kn kc kf s r nc h1 h2 h3 w hG hk,λ_=>acd⟩ (aH.cons ⟨al3,λ_=>al4⟩ aH.nil)))
section
variable(u:aj) (m s r:Int) (b:Bool) (nc pf:Nat->Int) (ka:Option aI) (kn kc:Nat) (K:VK CG)
def dhX:Prop:=
 let m1:=i64.wrap (m+1)
 cond (decide (m>=4294967295)) (K (.ay [.agg (nM m b nc),.int .i64 24]) [] [.bj u]) (∃kf:Nat->Int,((1<=kn/\kn<=64)/\(0<=s/\s<4294967296)/\(0<=m1/\m1<4294967296)/\(∃tG,u.heap[0]?=aa (.cells (aD .u32 64 c_) tG (0,0)))/\dM u ka kn kc kf)/\K (.ay [.agg (nM m1 af (kg kn kf s m1)),.int .i64 0]) [] [.bj u])
def acf:oC Ar 123 [.agg (nM m b nc),.raw (.slice ka kn kc),.int .i64 s] [] [.bj u] (bA 0 K)=dhX u m s b nc ka kn kc K:=kR
def MJ (kf n1:Nat->Int):Prop:=(1<=kn/\kn<=64)/\(0<=s/\s<4294967296)/\(0<=r/\r<4294967296)/\(∃tG,u.heap[0]?=aa (.cells (aD .u32 64 c_) tG (0,0)))/\dM u ka kn kc kf/\((bo 8).map nc).length=8/\∀j,j<8->gu ((bo 8).map nc) j=n1 j
def MK:Prop:=
 let no (c:Int):Prop:=K (.ay [.agg (nM m ag λ_=>0),.agg (ints 32 λ_=>0),.int .i64 c]) [] [.bj u]
 cond (!b) (K (.ay [.agg (nM m b nc),.agg (ints 32 λ_=>0),.int .i64 17]) [] [.bj u])
  (∃kf n1:Nat->Int,MJ u s r nc ka kn kc kf n1/\∃f g:Nat->Int,(((bo 8).map pf).length=8/\((bo 8).map (uH kn kf s r n1)).length=8/\8=8/\8<=1000000/\(∀j,j<8->gu ((bo 8).map pf) j=f j)/\∀j,j<8->gu ((bo 8).map (uH kn kf s r n1)) j=g j)/\
   cond (!(tn 8 f g)) (no 14) (∃kf2 n2:Nat->Int,MJ u s r nc ka kn kc kf2 n2/\K (.ay [.agg (nM m ag λ_=>0),.agg (ints 32 (lO kn kf2 s r n2)),.int .i64 0]) [] [.bj u]))
def TQ:oC Ar 125 [.agg (nM m b nc),.raw (.slice ka kn kc),.int .i64 s,.int .i64 r,.agg (ints 8 pf)] [] [.bj u] (bA 0 K)=MK u m s r b nc pf ka kn kc K:=kR
end
def As (kn:Nat) (kf:Nat->Int) (s r:Int) (nc pf:Nat->Int):Bool:=tn 8 pf (uH kn kf s r nc)
def al5 (ka:Option aI) (kn kc:Nat) (kf:Nat->Int) (s:Int) (d:Sd.eS) (hd:4294967295<=d.many) (Ie:d.many<=9223372036854775807) (w:aj):
 aX prog 123 #[.agg #[.int .i64 d.many,.bool d.ji,.int .u8 (d.aK 0),.int .u8 (d.aK 1),.int .u8 (d.aK 2),.int .u8 (d.aK 3),.int .u8 (d.aK 4),.int .u8 (d.aK 5),.int .u8 (d.aK 6),.int .u8 (d.aK 7)],.slice ka kn kc,.int .i64 s] w λv w1=>v=.tuple #[.agg #[.int .i64 d.many,.bool d.ji,.int .u8 (d.aK 0),.int .u8 (d.aK 1),.int .u8 (d.aK 2),.int .u8 (d.aK 3),.int .u8 (d.aK 4),.int .u8 (d.aK 5),.int .u8 (d.aK 6),.int .u8 (d.aK 7)],.int .i64 24]/\Ch [] w w1:=by
 have h:oC Ar 123 [.agg (nM d.many d.ji d.aK),.raw (.slice ka kn kc),.int .i64 s] [] [.bj w] (bA 0 λv _ _=>v=.ay [.agg (nM d.many d.ji d.aK),.int .i64 24]):=by
  rw[acf];exact aJ (λ_=>rfl) λh=>absurd (of_decide_eq_false h) oM
 refine(Ap Ic h).mono ?_;rintro v w' ⟨x,ids,bl,ch,rfl,hl,S,rfl⟩;exact⟨kR,S.ch⟩
def al6 (ka:Option aI) (kn kc:Nat) (kf:Nat->Int) (s:Int) (d:Sd.eS) (lN:1<=kn/\kn<=64) (hs:0<=s/\s<4294967296) (hd:0<=d.many/\d.many<4294967295) {tG:aM} (w:aj) (hG:w.heap[0]?=aa (.cells (aD .u32 64 c_) tG (0,0))) (hk:dM w ka kn kc kf):
 aX prog 123 #[.agg #[.int .i64 d.many,.bool d.ji,.int .u8 (d.aK 0),.int .u8 (d.aK 1),.int .u8 (d.aK 2),.int .u8 (d.aK 3),.int .u8 (d.aK 4),.int .u8 (d.aK 5),.int .u8 (d.aK 6),.int .u8 (d.aK 7)],.slice ka kn kc,.int .i64 s] w λv w1=>v=.tuple #[.agg #[.int .i64 (d.many+1),.bool af,.int .u8 ((kg kn kf s (d.many+1)) 0),.int .u8 ((kg kn kf s (d.many+1)) 1),.int .u8 ((kg kn kf s (d.many+1)) 2),.int .u8 ((kg kn kf s (d.many+1)) 3),.int .u8 ((kg kn kf s (d.many+1)) 4),.int .u8 ((kg kn kf s (d.many+1)) 5),.int .u8 ((kg kn kf s (d.many+1)) 6),.int .u8 ((kg kn kf s (d.many+1)) 7)],.int .i64 0]/\Ch [] w w1:=by
 have e:i64.wrap (d.many+1)=d.many+1:=by simp[zo,vj,vm];omega
 have h:oC Ar 123 [.agg (nM d.many d.ji d.aK),.raw (.slice ka kn kc),.int .i64 s] [] [.bj w] (bA 0 λv _ _=>v=.ay [.agg (nM (d.many+1) af (kg kn kf s (d.many+1))),.int .i64 0]):=by
  rw[acf];unfold dhX;dsimp only;rw[e];exact aJ (λh=>absurd (of_decide_eq_true h) oM) λ_=>⟨kf,⟨lN,hs,oM,⟨tG,hG⟩,hk⟩,rfl⟩
 refine(Ap Ic h).mono ?_;rintro v w' ⟨x,ids,bl,ch,rfl,hl,S,rfl⟩;exact⟨kR,S.ch⟩
def al7 (ka:Option aI) (kn kc:Nat) (kf:Nat->Int) (s r:Int) (d:Sd.eS) (pf:Nat->Int) (ho:d.ji=ag) (w:aj):
 aX prog 125 #[.agg #[.int .i64 d.many,.bool d.ji,.int .u8 (d.aK 0),.int .u8 (d.aK 1),.int .u8 (d.aK 2),.int .u8 (d.aK 3),.int .u8 (d.aK 4),.int .u8 (d.aK 5),.int .u8 (d.aK 6),.int .u8 (d.aK 7)],.slice ka kn kc,.int .i64 s,.int .i64 r,.agg (aD .u8 8 pf)] w λv w1=>v=.tuple #[.agg #[.int .i64 d.many,.bool d.ji,.int .u8 (d.aK 0),.int .u8 (d.aK 1),.int .u8 (d.aK 2),.int .u8 (d.aK 3),.int .u8 (d.aK 4),.int .u8 (d.aK 5),.int .u8 (d.aK 6),.int .u8 (d.aK 7)],.agg (aD .u8 32 (λ_=>0)),.int .i64 17]/\Ch [] w w1:=by
 have h:oC Ar 125 [.agg (nM d.many d.ji d.aK),.raw (.slice ka kn kc),.int .i64 s,.int .i64 r,.agg (ints 8 pf)] [] [.bj w] (bA 0 λv _ _=>v=.ay [.agg (nM d.many d.ji d.aK),.agg (ints 32 λ_=>0),.int .i64 17]):=by
  rw[TQ];unfold MK;dsimp only;exact aJ (λ_=>rfl) λh=>by rw[ho]at h;cases h
 refine(Ap Ic h).mono ?_;rintro v w' ⟨x,ids,bl,ch,rfl,hl,S,rfl⟩;exact⟨kR,S.ch⟩
def al8 (ka:Option aI) (kn kc:Nat) (kf:Nat->Int) (s r:Int) (d:Sd.eS) (pf:Nat->Int) (lN:1<=kn/\kn<=64) (hs:0<=s/\s<4294967296) (TT:0<=r/\r<4294967296) (ho:d.ji=af) (hr:As kn kf s r d.aK pf=ag) {tG:aM} (w:aj) (hG:w.heap[0]?=aa (.cells (aD .u32 64 c_) tG (0,0))) (hk:dM w ka kn kc kf):
 aX prog 125 #[.agg #[.int .i64 d.many,.bool d.ji,.int .u8 (d.aK 0),.int .u8 (d.aK 1),.int .u8 (d.aK 2),.int .u8 (d.aK 3),.int .u8 (d.aK 4),.int .u8 (d.aK 5),.int .u8 (d.aK 6),.int .u8 (d.aK 7)],.slice ka kn kc,.int .i64 s,.int .i64 r,.agg (aD .u8 8 pf)] w λv w1=>v=.tuple #[.agg #[.int .i64 d.many,.bool ag,.int .u8 0,.int .u8 0,.int .u8 0,.int .u8 0,.int .u8 0,.int .u8 0,.int .u8 0,.int .u8 0],.agg (aD .u8 32 (λ_=>0)),.int .i64 14]/\Ch [] w w1:=by
 have h:oC Ar 125 [.agg (nM d.many d.ji d.aK),.raw (.slice ka kn kc),.int .i64 s,.int .i64 r,.agg (ints 8 pf)] [] [.bj w] (bA 0 λv _ _=>v=.ay [.agg (nM d.many ag λ_=>0),.agg (ints 32 λ_=>0),.int .i64 14]):=by
  rw[TQ];unfold MK;dsimp only;have hp:=(⟨lN,hs,TT,⟨tG,hG⟩,hk,sP,λj hj=>Cu hj⟩:MJ w s r d.aK ka kn kc kf d.aK);exact aJ (λh=>by rw[ho]at h;cases h) λ_=>⟨kf,d.aK,hp,⟨pf,uH kn kf s r d.aK,⟨sP,sP,rfl,dC,λj hj=>Cu hj,λj hj=>Cu hj⟩,aJ (λ_=>rfl) λh=>by rw[show tn 8 pf (uH kn kf s r d.aK)=ag from hr]at h;cases h⟩⟩
 refine(Ap Ic h).mono ?_;rintro v w' ⟨x,ids,bl,ch,rfl,hl,S,rfl⟩;exact⟨kR,S.ch⟩
def al9 (ka:Option aI) (kn kc:Nat) (kf:Nat->Int) (s r:Int) (d:Sd.eS) (pf:Nat->Int) (lN:1<=kn/\kn<=64) (hs:0<=s/\s<4294967296) (TT:0<=r/\r<4294967296) (ho:d.ji=af) (hr:As kn kf s r d.aK pf=af) {tG:aM} (w:aj) (hG:w.heap[0]?=aa (.cells (aD .u32 64 c_) tG (0,0))) (hk:dM w ka kn kc kf):
 aX prog 125 #[.agg #[.int .i64 d.many,.bool d.ji,.int .u8 (d.aK 0),.int .u8 (d.aK 1),.int .u8 (d.aK 2),.int .u8 (d.aK 3),.int .u8 (d.aK 4),.int .u8 (d.aK 5),.int .u8 (d.aK 6),.int .u8 (d.aK 7)],.slice ka kn kc,.int .i64 s,.int .i64 r,.agg (aD .u8 8 pf)] w λv w1=>v=.tuple #[.agg #[.int .i64 d.many,.bool ag,.int .u8 0,.int .u8 0,.int .u8 0,.int .u8 0,.int .u8 0,.int .u8 0,.int .u8 0,.int .u8 0],.agg (aD .u8 32 (lO kn kf s r d.aK)),.int .i64 0]/\Ch [] w w1:=by
 have h:oC Ar 125 [.agg (nM d.many d.ji d.aK),.raw (.slice ka kn kc),.int .i64 s,.int .i64 r,.agg (ints 8 pf)] [] [.bj w] (bA 0 λv _ _=>v=.ay [.agg (nM d.many ag λ_=>0),.agg (ints 32 (lO kn kf s r d.aK)),.int .i64 0]):=by
  rw[TQ];unfold MK;dsimp only;have hp:=(⟨lN,hs,TT,⟨tG,hG⟩,hk,sP,λj hj=>Cu hj⟩:MJ w s r d.aK ka kn kc kf d.aK);exact aJ (λh=>by rw[ho]at h;cases h) λ_=>⟨kf,d.aK,hp,⟨pf,uH kn kf s r d.aK,⟨sP,sP,rfl,dC,λj hj=>Cu hj,λj hj=>Cu hj⟩,aJ (λh=>by rw[show tn 8 pf (uH kn kf s r d.aK)=af from hr]at h;cases h) λ_=>⟨kf,d.aK,hp,rfl⟩⟩⟩
 refine(Ap Ic h).mono ?_;rintro v w' ⟨x,ids,bl,ch,rfl,hl,S,rfl⟩;exact⟨kR,S.ch⟩
def eM (z:Sd.jh) (n:Int):Sd.jh:=
 if z.any=ag then⟨af,n,1⟩
 else if z.high<n then⟨af,n,bits .or .u64 (u64.wrap (z.seen*2^(min (n-z.high).toNat 64))) 1⟩
 else if z.high-n<64 then⟨af,z.high,bits .or .u64 z.seen (u64.wrap ((1:Int)*2^(min (z.high-n).toNat 64)))⟩
 else z
def Ig (x y:Sd.jh):Bool:=!((x.any==y.any)&&((x.high==y.high)&&((x.seen==y.seen)&&af)))
def acg (x y:Sd.jh):Ig x y=ag↔x=y:=by
 obtain⟨a,b,c⟩:=x;obtain⟨d,e,f⟩:=y;simp[Ig]
def al_ (z:Sd.jh) (n:Int) (h0:0<=z.high/\z.high<=4294967295) (h1:0<=n/\n<=4294967295) (w:aj):
 aX prog 173 #[.agg (jQ z),.int .i64 n] w λv w1=>v=.agg (jQ (eM z n))/\Ch [] w w1:=by
 have S0:=St.nil [] w;refine iZ Tryz.func173 rfl ?_;refine aR (aZ ?_);refine fc S0 (λb=>.pointer (aa ⟨b,0,ae⟩)) (.cells (jQ z) 176) ?_;intro bN jd dV;refine fc dV (λb=>.pointer (aa ⟨b,0,ae⟩)) (.cells #[.bool ag,.int .i64 0,.int .u64 0] 176) ?_;intro dJ nI dr;refine aT (aQ (aR (kx (aR (aZ ?_)))));refine av (.int .i64 n) ?_;refine nj (.bool (decide (n<0))) (.bool ag) (congrArg DD (PY oM)) ?_;refine av (.bool ag) ?_;refine av (.int .i64 n) ?_;refine nj (.bool (decide (4294967295<n))) (.bool ag) (congrArg DD (PY oM)) ?_;refine av (.bool ag) ?_;refine av (.bool ag) ?_;refine aT (aQ (qT ?_));refine aR (aZ ?_);refine av (.pointer (aa ⟨bN,0,ae⟩)) ?_;refine mF dr 1 (.bool z.any) bN 0 ?_;refine av (.bool (!z.any)) ?_;refine av (.bool (!z.any)) ?_;refine aT (aQ ?_);refine pT (!z.any) ?_ ?_
 ·intro xP;have qh:=P2 xP;refine aZ ?_;refine av (.int .i64 n) ?_;refine av (.agg #[.bool af,.int .i64 n,.int .u64 1]) ?_;refine store_ dr 1 (.agg #[.bool af,.int .i64 n,.int .u64 1]) bN 0 ?_;intro zw9 EP;refine aT (mH (aQ (aR (aZ ?_))));refine kS EP 1 3 #[.bool af,.int .i64 n,.int .u64 1] bN 0 ?_;refine store_ EP 0 (.agg #[.bool af,.int .i64 n,.int .u64 1]) dJ 0 ?_;intro aaY rG;refine aT (aQ (gC ?_));refine gD rfl (fR [.cell 4 176] [.agg #[.bool af,.int .i64 n,.int .u64 1]] (.agg #[.bool af,.int .i64 n,.int .u64 1]) ⟨og rG 0 3 dJ 0,trivial⟩) ?_;have ze:eM z n=(⟨af,n,1⟩:Sd.jh):=by unfold eM;(repeat' split)<;>first|rfl|omega|(simp_all;done)|(simp_all;omega)|(cases z;simp_all)
  exact⟨by(rw[ze])<;>rfl,rG.ch⟩
 intro oB;have vP:=P3 oB;refine aR (aZ ?_);refine av (.int .i64 n) ?_;refine av (.pointer (aa ⟨bN,1,ae⟩)) ?_;refine mF dr 1 (.int .i64 z.high) bN 1 ?_;refine av (.bool (decide (z.high<n))) ?_;refine fp ?_;refine aT (aQ ?_);refine pT (decide (z.high<n)) ?_ ?_
 ·intro mj;have lP:=Bu mj;refine aR (aZ ?_);refine av (.pointer (aa ⟨bN,2,ae⟩)) ?_;refine mF dr 1 (.int .u64 z.seen) bN 2 ?_;refine av (.int .i64 n) ?_;refine l6 .u64 n (wM _ oM) ?_;refine av (.pointer (aa ⟨bN,1,ae⟩)) ?_;refine mF dr 1 (.int .i64 z.high) bN 1 ?_;refine l6 .u64 z.high (wM _ oM) ?_;refine l6 .u64 (n-z.high) (wM _ oM) ?_;refine QA .u64 .u64 z.seen (n-z.high) oM ?_;refine av (.int .u64 (bits .or .u64 (u64.wrap (z.seen*2^(min ((n-z.high)).toNat 64))) 1)) ?_;refine av (.pointer (aa ⟨bN,2,ae⟩)) ?_;refine store_ dr 1 (.int .u64 (bits .or .u64 (u64.wrap (z.seen*2^(min ((n-z.high)).toNat 64))) 1)) bN 2 ?_;intro ayw ama;refine aT (aQ (aZ ?_));refine av (.int .i64 n) ?_;refine av (.pointer (aa ⟨bN,1,ae⟩)) ?_;refine store_ ama 1 (.int .i64 n) bN 1 ?_;intro ayx tf;refine aT (mH (aQ (aR (aZ ?_))));refine kS tf 1 3 #[.bool z.any,.int .i64 n,.int .u64 (bits .or .u64 (u64.wrap (z.seen*2^(min ((n-z.high)).toNat 64))) 1)] bN 0 ?_;refine store_ tf 0 (.agg #[.bool z.any,.int .i64 n,.int .u64 (bits .or .u64 (u64.wrap (z.seen*2^(min ((n-z.high)).toNat 64))) 1)]) dJ 0 ?_;intro Tz vT;refine aT (aQ (gC ?_));refine gD rfl (fR [.cell 4 176] [.agg #[.bool z.any,.int .i64 n,.int .u64 (bits .or .u64 (u64.wrap (z.seen*2^(min ((n-z.high)).toNat 64))) 1)]] (.agg #[.bool z.any,.int .i64 n,.int .u64 (bits .or .u64 (u64.wrap (z.seen*2^(min ((n-z.high)).toNat 64))) 1)]) ⟨og vT 0 3 dJ 0,trivial⟩) ?_;have ze:eM z n=(⟨z.any,n,(bits .or .u64 (u64.wrap (z.seen*2^(min ((n-z.high)).toNat 64))) 1)⟩:Sd.jh):=by unfold eM;(repeat' split)<;>first|rfl|omega|(simp_all;done)|(simp_all;omega)|(cases z;simp_all)
  exact⟨by(rw[ze])<;>rfl,vT.ch⟩
 intro tj;have uD:=Bv tj;refine aR (aZ ?_);refine av (.pointer (aa ⟨bN,1,ae⟩)) ?_;refine mF dr 1 (.int .i64 z.high) bN 1 ?_;refine av (.int .i64 n) ?_;refine l6 .i64 (z.high-n) (Bj _ oM) ?_;refine av (.bool (decide ((z.high-n)<64))) ?_;refine fp ?_;refine aT (aQ ?_);refine pT (decide ((z.high-n)<64)) ?_ ?_
 ·intro HF;have rL:=Bu HF;refine BB 7 [⟨0,λ_=>.pointer (aa ⟨bN,2,ae⟩),λ_=>[]⟩,⟨0,λ_=>.int .u64 z.seen,λ_=>[]⟩,⟨0,λ_=>.pointer (aa ⟨bN,1,ae⟩),λ_=>[]⟩,⟨0,λ_=>.int .i64 z.high,λ_=>[]⟩,⟨0,λ_=>.int .i64 n,λ_=>[]⟩,⟨0,λ_=>.int .i64 (z.high-n),λ_=>[]⟩,⟨0,λ_=>.int .u64 (u64.wrap ((1:Int)*2^(min ((z.high-n)).toNat 64))),λ_=>[]⟩] [[7,1,0],[7,1],[7,6,5,3,2],[7,6,5,3],[7,6,5,4],[7,6,5],[7,6],[8,0],[8,1],[8,2],[8,3],[8,4],[8,5],[8,6],[8,7],[9,0],[9,1],[9,2],[9,3],[9,4],[9,5],[9,6],[9,7],[9,8]] ?_ ?_
  ·refine step_cons ja ?_;refine step_cons (K1 dr 1 bN 2) ?_;refine step_cons ja ?_;refine step_cons (K1 dr 1 bN 1) ?_;refine step_cons ja ?_;refine step_cons (qS_ .i64 (z.high-n) (Bj _ oM)) ?_;refine step_cons ?_ ?_
   ·intro amb ayy amc ayz amd;have tA:amb 47=.int .i64 (z.high-n):=(Sp.dT (amd 5 47 kR kR)).1;have xM:=dr.quiet amc;refine qY ?_;refine nq [(47,.int .i64 (z.high-n))] (nr tA (qW)) ?_;have Mw:=xM.loc;refine Y.QA .u64 .i64 1 (z.high-n) oM ?_;exact⟨Mw.ch,Sp.qX [] (all_nil)⟩
   exact BA
  intro Cx ayA ame Cy;have uE:Cx 0=.pointer (aa ⟨bN,2,ae⟩):=(Sp.dT (Cy 0 kR)).1;have tD:Cx 1=.int .u64 z.seen:=(Sp.dT (Cy 1 kR)).1;have rK:Cx 2=.pointer (aa ⟨bN,1,ae⟩):=(Sp.dT (Cy 2 kR)).1;have HT:Cx 3=.int .i64 z.high:=(Sp.dT (Cy 3 kR)).1;have HH:Cx 4=.int .i64 n:=(Sp.dT (Cy 4 kR)).1;have TU:Cx 5=.int .i64 (z.high-n):=(Sp.dT (Cy 5 kR)).1;have TV:Cx 6=.int .u64 (u64.wrap ((1:Int)*2^(min ((z.high-n)).toNat 64))):=(Sp.dT (Cy 6 kR)).1;have Ao:=dr.quiet ame;refine⟨[.pointer (aa ⟨bN,2,ae⟩),.int .u64 z.seen,.pointer (aa ⟨bN,1,ae⟩),.int .i64 z.high,.int .i64 n,.int .i64 (z.high-n),.int .u64 (u64.wrap ((1:Int)*2^(min ((z.high-n)).toNat 64)))],kR,eA uE (eA tD (eA rK (eA HT (eA HH (eA TU (eA TV (DO))))))),?_⟩;refine av (.int .u64 (bits .or .u64 z.seen (u64.wrap ((1:Int)*2^(min ((z.high-n)).toNat 64))))) ?_;refine av (.pointer (aa ⟨bN,2,ae⟩)) ?_;refine store_ Ao 1 (.int .u64 (bits .or .u64 z.seen (u64.wrap ((1:Int)*2^(min ((z.high-n)).toNat 64))))) bN 2 ?_;intro amf ML;refine aT (mH (aQ (aR (aZ ?_))));refine kS ML 1 3 #[.bool z.any,.int .i64 z.high,.int .u64 (bits .or .u64 z.seen (u64.wrap ((1:Int)*2^(min ((z.high-n)).toNat 64))))] bN 0 ?_;refine store_ ML 0 (.agg #[.bool z.any,.int .i64 z.high,.int .u64 (bits .or .u64 z.seen (u64.wrap ((1:Int)*2^(min ((z.high-n)).toNat 64))))]) dJ 0 ?_;intro aa5 ach;refine aT (aQ (gC ?_));refine gD rfl (fR [.cell 4 176] [.agg #[.bool z.any,.int .i64 z.high,.int .u64 (bits .or .u64 z.seen (u64.wrap ((1:Int)*2^(min ((z.high-n)).toNat 64))))]] (.agg #[.bool z.any,.int .i64 z.high,.int .u64 (bits .or .u64 z.seen (u64.wrap ((1:Int)*2^(min ((z.high-n)).toNat 64))))]) ⟨og ach 0 3 dJ 0,trivial⟩) ?_;have ze:eM z n=(⟨z.any,z.high,(bits .or .u64 z.seen (u64.wrap ((1:Int)*2^(min ((z.high-n)).toNat 64))))⟩:Sd.jh):=by unfold eM;(repeat' split)<;>first|rfl|omega|(simp_all;done)|(simp_all;omega)|(cases z;simp_all)
  exact⟨by(rw[ze])<;>rfl,ach.ch⟩
 intro amg;have EI:=Bv amg;refine kQ (mH (aQ (aR (aZ ?_))));refine kS dr 1 3 (jQ z) bN 0 ?_;refine store_ dr 0 (.agg (jQ z)) dJ 0 ?_;intro ayB aci;refine aT (aQ (gC ?_));refine gD rfl (fR [.cell 4 176] [.agg (jQ z)] (.agg (jQ z)) ⟨og aci 0 3 dJ 0,trivial⟩) ?_;have ze:eM z n=z:=by unfold eM;(repeat' split)<;>first|rfl|omega|(simp_all;done)|(simp_all;omega)|(cases z;simp_all)
 exact⟨by(rw[ze])<;>rfl,aci.ch⟩
def amh (z:Sd.jh) (n:Int) (h0:0<=z.high/\z.high<=4294967295) (h1:0<=n/\n<=4294967295) (w:aj):
 aX prog 128 #[.agg (jQ z),.int .i64 n] w λv w1=>v=.tuple #[.agg (jQ (eM z n)),.bool (Ig (eM z n) z)]/\Ch [] w w1:=by
 have S0:=St.nil [] w;refine iZ Tryz.func128 rfl ?_;refine aR (aZ ?_);refine fc S0 (λb=>.pointer (aa ⟨b,0,ae⟩)) (.cells (jQ z) 176) ?_;intro bN jd dV;refine fc dV (λb=>.pointer (aa ⟨b,0,ae⟩)) (.cells #[.bool ag,.int .i64 0,.int .u64 0] 176) ?_;intro dJ nI dr;refine av (.bool ag) ?_;refine aT (aQ (aR (aZ ?_)));refine kS dr 1 3 (jQ z) bN 0 ?_;refine av (.int .i64 n) ?_;refine fY 173 #[.agg (jQ z),.int .i64 n] ?_;refine(al_ z n oM oM _).mono ?_;rintro _ EG ⟨rfl,qh⟩;have jO:=dr.quiet qh;refine fc jO (λb=>.pointer (aa ⟨b,0,ae⟩)) (.cells #[.bool ag,.int .i64 0,.int .u64 0] 176) ?_;intro tq aaY rG;refine store_ rG 0 (.agg (jQ (eM z n))) tq 0 ?_;intro SS qj;refine aT (aQ (aR ?_));have zD:=qj.Zc 1 0 3 (b:=dJ) kR;refine Ze qj 5 4 1 dJ 0 [] (.agg (jQ (eM z n))) [.agg (jQ (eM z n)),.agg (jQ (eM z n)),.agg (jQ z),.bool (!(((eM z n).any==z.any)&&(((eM z n).high==z.high)&&(((eM z n).seen==z.seen)&&af)))),undef] [[5,0],[5,1],[5,2],[5,3],[5,4]] (mO (GK zD 0 tq 0 3 (jQ (eM z n))) (mO (GK zD 0 tq 0 3 (jQ (eM z n))) (mO (GK zD 1 bN 0 3 (jQ z)) (mO (DU (h:=funext λ_=>agT af (((eM z n).any==z.any)&&(((eM z n).high==z.high)&&(((eM z n).seen==z.seen)&&af))) (jQ (eM z n)) (jQ z) rF)) (mO (Zb qj 1 (.agg (jQ (eM z n))) dJ 0) (Qn)))))) ?_;intro EE rH;refine fp ?_;refine aT (aQ (gC ?_));refine gD rfl (fR [.cell 4 176,.tmp 5] [.agg (jQ (eM z n)),.bool (!(((eM z n).any==z.any)&&(((eM z n).high==z.high)&&(((eM z n).seen==z.seen)&&af))))] (.tuple #[.agg (jQ (eM z n)),.bool (!(((eM z n).any==z.any)&&(((eM z n).high==z.high)&&(((eM z n).seen==z.seen)&&af))))]) ⟨og rH 1 3 dJ 0,jw,trivial⟩) ?_;exact⟨rfl,rH.ch⟩
end
end Go.Proofs.YtddcipamdggcnaaGreatDoor
namespace Sd
structure Cz (b:Prop) (r:Rec):Prop where
 kind:1<=r.kind/\r.kind<=12
 source:0<=r.source/\r.source<=4
 seq:0<=r.seq/\r.seq<=4294967295
 an:0<=r.an/\r.an<=65535
 code:b->0<=r.code/\r.code<=255
 how:0<=r.how/\r.how<=6
structure vX (r:aO):Prop where
 kind:129<=r.kind/\r.kind<=136
 seq:0<=r.seq/\r.seq<=4294967295
 role:0<=r.role/\r.role<=3
 eK:0<=r.eK/\r.eK<=4
 an:0<=r.an/\r.an<=65535
 code:0<=r.code/\r.code<=255
 aK:∀j,0<=r.aK j/\r.aK j<=255
 ayC:r.kind≠131/\r.kind≠132->r.seq=0
 ayD:r.kind≠130->r.role=0
 ayE:r.kind≠130/\r.kind≠134/\r.kind≠135/\r.kind≠136->r.eK=0
 ayF:r.kind≠130/\r.kind≠133/\r.kind≠134/\r.kind≠135->r.an=0
 ayG:r.kind≠132/\r.kind≠136->r.code=0
 ayH:r.kind≠129->r.aK=λ_=>0
def MN (x:Int×aO):Prop:=(1<=x.1/\x.1<=3)/\vX x.2
structure Quiet (C:aL) (b:Prop) (s s':ah):Prop where
 aF:s'.c.t.aF=s.c.t.aF
 an:s'.c.t.an=s.c.t.an
 p:s'.c.p=s.c.p
 aV:∃rs:List Rec,s'.aV=s.aV++rs/\(∀r∈rs,r.kind≠8/\r.an=s.c.t.an/\Cz b r)/\s'.c.head=rs.foldl C.next s.c.head
 bw:∃ts:List (Int×aO),s'.bw=s.bw++ts/\∀x∈ts,MN x
def Quiet.refl (C:aL) (b:Prop) (s:ah):Quiet C b s s:=⟨rfl,rfl,rfl,⟨[],sP,sP,rfl⟩,⟨[],sP,sP⟩⟩
def Quiet.trans {C:aL} {b:Prop} {s t u:ah} (h:Quiet C b s t) (k:Quiet C b t u):Quiet C b s u:=by
 obtain⟨rs,r1,r2,r3⟩:=h.aV;obtain⟨qs,q1,q2,q3⟩:=k.aV;obtain⟨ts,t1,t2⟩:=h.bw;obtain⟨us,u1,u2⟩:=k.bw;refine⟨k.aF.trans h.aF,k.an.trans h.an,k.p.trans h.p,⟨rs++qs,by rw[q1,r1,bW],?_,by rw[q3,r3,List.foldl_append]⟩,⟨ts++us,by rw[u1,t1,bW],?_⟩⟩
 ·intro r hr;rcases eI.1 hr with hr|hr
  ·exact r2 r hr
  ·have:=q2 r hr;rw[h.an]at this;exact this
 ·intro x hx;rcases eI.1 hx with hx|hx
  ·exact t2 x hx
  ·exact u2 x hx
namespace ah
@[simp] theorem ayI (s:ah) (l:Int) (r:aO):(s.tell l r).c=s.c:=rfl
@[simp] theorem ayJ (s:ah) (l:Int) (r:aO):(s.tell l r).aV=s.aV:=rfl
@[simp] theorem ayK (s:ah) (l:Int) (r:aO):(s.tell l r).bw=s.bw++[(l,r)]:=rfl
@[simp] theorem kB (s:ah) (l:Int) (r:aO):(s.eh l r).c=s.c:=by unfold eh;split<;>rfl
@[simp] theorem MO (s:ah) (l:Int) (r:aO):(s.eh l r).aV=s.aV:=by unfold eh;split<;>rfl
@[simp] theorem lQ (s:ah) (l w c:Int):(s.gone l w c).c=s.c:=kB ..
@[simp] theorem ami (s:ah) (l w c:Int):(s.gone l w c).aV=s.aV:=MO ..
@[simp] theorem ayL (s:ah) (l n:Int):(s.done l n).c=s.c:=rfl
@[simp] theorem ayM (s:ah) (l n:Int):(s.done l n).aV=s.aV:=rfl
@[simp] theorem ayN (C:aL) (s:ah) (k a n e h:Int):(s.record C k a n e h).c.t=s.c.t:=rfl
@[simp] theorem ayO (C:aL) (s:ah) (k a n e h:Int):(s.record C k a n e h).c.p=s.c.p:=rfl
@[simp] theorem Ih (C:aL) (s:ah) (k a n e h:Int):(s.record C k a n e h).c.q=s.c.q:=rfl
@[simp] theorem ayP (C:aL) (s:ah) (k a n e h:Int):(s.record C k a n e h).c.aq=s.c.aq:=rfl
@[simp] theorem ayQ (C:aL) (s:ah) (k a n e h:Int):(s.record C k a n e h).bw=s.bw:=rfl
@[simp] theorem ayR (C:aL) (s:ah) (k a n e h:Int):(s.record C k a n e h).aV=s.aV++[⟨k,a,n,s.c.t.an,e,h⟩]:=rfl
def Ii {C:aL} {b:Prop} {s:ah} {l:Int} {r:aO} (h:MN (l,r)):Quiet C b s (s.tell l r):=
 ⟨rfl,rfl,rfl,⟨[],sP,sP,rfl⟩,⟨[(l,r)],rfl,by simpa using h⟩⟩
def At {C:aL} {b:Prop} {s:ah} {l:Int} {r:aO} (h:vX r):Quiet C b s (s.eh l r):=by
 unfold eh;split
 ·rename_i hh;refine Ii ⟨?_,h⟩;simp[linked]at hh;exact hh.1
 ·exact Quiet.refl ..
def py {C:aL} {b:Prop} {s:ah} {k a n e h:Int} (hk:k≠8) (hb:Cz b ⟨k,a,n,s.c.t.an,e,h⟩):Quiet C b s (s.record C k a n e h):=
 ⟨rfl,rfl,rfl,⟨[⟨k,a,n,s.c.t.an,e,h⟩],rfl,by simpa using⟨hk,hb⟩,rfl⟩,⟨[],sP,sP⟩⟩
def jq {C:aL} {b:Prop} {s:ah} {c:Core} (h1:c.t.aF=s.c.t.aF) (h2:c.t.an=s.c.t.an) (h3:c.p=s.c.p) (h4:c.head=s.c.head):Quiet C b s {s with c:=c}:=
 ⟨h1,h2,h3,⟨[],sP,sP,h4⟩,⟨[],sP,sP⟩⟩
end ah
def Inv.head {c:Core} (h:Inv c) (x:ax):Inv {c with head:=x}:=⟨h.p,h.tok,h.q,h.aq,h.samples,h.mode,h.doors⟩
def Inv.record {C:aL} {s:ah} (h:Inv s.c) (k a n e w:Int):Inv (s.record C k a n e w).c:=h.head _
def Inv.tell {s:ah} (h:Inv s.c) (l:Int) (r:aO):Inv (s.tell l r).c:=h
def Inv.eh {s:ah} (h:Inv s.c) (l:Int) (r:aO):Inv (s.eh l r).c:=by rw[ah.kB];exact h
def ri.drop {p:aU} {t:aN} {h h':Int} {q:List Ask} (k:ri p t h q) (s:Int) (hh:∀a∈q,a.source≠s->a.source≠h'):ri p t h' (Q.drop q s) where
 each:=by
  intro a ha;simp only[Q.drop,A_,decide_eq_true_eq]at ha;obtain⟨a1,a2,a3,a4,a5,a6⟩:=k.each a ha.1;exact⟨a1,a2,a3,a4,hh a ha.1 ha.2,a6⟩
 sorted:=k.sorted.filter _
 len:=by have:=KH (λa:Ask=>decide (a.source≠s)) q;have:=k.len;unfold Q.drop;omega
def ny.pass {p:aU} {aq:aN} {t:Tok} (hp:fF p) {bh e:Int} (ht:0<=bh/\bh<=4) (he:p.an<=e/\e<=65535):ny p aq (t.pass bh e):=
 ⟨ht,he,.inl rfl,.inl ⟨rfl,rfl⟩⟩
structure yk (C:aL) (b:Prop) (s s':ah) (how:Int):Prop where
 p:s'.c.p=s.c.p
 aF:s'.c.t.aF≠s.c.t.aF
 offer:s'.c.t.offer=-1
 an:(s.c.t.an<65535/\s'.c.t.an=s.c.t.an+1)\/(s.c.t.an=65535/\s'.c.t.an=65535/\how=6)
 aV:∃(pre:List Rec) (n:Int) (post:List Rec),s'.aV=s.aV++(pre++⟨8,s'.c.t.aF,n,s'.c.t.an,0,how⟩::post)/\
  (∀r∈pre,r.kind≠8/\r.an=s.c.t.an/\Cz b r)/\Cz b ⟨8,s'.c.t.aF,n,s'.c.t.an,0,how⟩/\
  (∀r∈post,r.kind≠8/\r.an=s'.c.t.an/\Cz b r)/\
  s'.c.head=(pre++⟨8,s'.c.t.aF,n,s'.c.t.an,0,how⟩::post).foldl C.next s.c.head
 bw:∃ts:List (Int×aO),s'.bw=s.bw++ts/\∀x∈ts,MN x
def Quiet.goes {C:aL} {b:Prop} {s t u:ah} {how:Int} (h:Quiet C b s t) (k:yk C b t u how):yk C b s u how:=by
 obtain⟨rs,r1,r2,r3⟩:=h.aV;obtain⟨pre,n,post,q1,q2,q3,q4,q5⟩:=k.aV;obtain⟨ts,t1,t2⟩:=h.bw;obtain⟨us,u1,u2⟩:=k.bw;refine⟨k.p.trans h.p,by rw[<-h.aF];exact k.aF,k.offer,by have:=k.an;rw[h.an]at this;exact this,⟨rs++pre,n,post,by rw[q1,r1];simp,?_,q3,q4,by rw[q5,r3];simp[List.foldl_append]⟩,⟨ts++us,by rw[u1,t1,bW],?_⟩⟩
 ·intro r hr;rcases eI.1 hr with hr|hr
  ·exact r2 r hr
  ·have:=q2 r hr;rw[h.an]at this;exact this
 ·intro x hx;rcases eI.1 hx with hx|hx
  ·exact t2 x hx
  ·exact u2 x hx
def yk.quiet {C:aL} {b:Prop} {s t u:ah} {how:Int} (h:yk C b s t how) (k:Quiet C b t u) (ho:u.c.t.offer=-1):yk C b s u how:=by
 obtain⟨pre,n,post,q1,q2,q3,q4,q5⟩:=h.aV;obtain⟨rs,r1,r2,r3⟩:=k.aV;obtain⟨ts,t1,t2⟩:=h.bw;obtain⟨us,u1,u2⟩:=k.bw;refine⟨k.p.trans h.p,by rw[k.aF];exact h.aF,ho,by rw[k.an];exact h.an,⟨pre,n,post++rs,by rw[r1,q1,k.aF,k.an];simp,q2,by rw[k.aF,k.an];exact q3,?_,by rw[r3,q5,k.aF,k.an,<-List.foldl_append];simp⟩,⟨ts++us,by rw[u1,t1,bW],?_⟩⟩
 ·intro r hr;rw[k.an];rcases eI.1 hr with hr|hr
  ·exact q4 r hr
  ·exact r2 r hr
 ·intro x hx;rcases eI.1 hx with hx|hx
  ·exact t2 x hx
  ·exact u2 x hx
namespace ah
@[simp] theorem amj (C:aL) (s:ah) (t:Tok) (h n:Int):(s.goes C t h n).c.t=t:=by simp[goes]
@[simp] theorem ayS (C:aL) (s:ah) (t:Tok) (h n:Int):(s.goes C t h n).c.p=s.c.p:=by simp[goes]
@[simp] theorem TW (C:aL) (s:ah) (t:Tok) (h n:Int):(s.goes C t h n).c.q=Q.drop s.c.q t.aF:=by simp[goes]
@[simp] theorem ayT (C:aL) (s:ah) (t:Tok) (h n:Int):(s.goes C t h n).c.aq=s.c.aq:=by simp[goes]
def MP (C:aL) (s:ah) (t:Tok) (h n:Int):∃x,(s.goes C t h n).c={s.c with t:=t,q:=Q.drop s.c.q t.aF,head:=x}:=by
 refine⟨(s.goes C t h n).c.head,?_⟩;simp[goes,record]
def amk {eK e:Int} (h:0<=eK/\eK<=4) (he:0<=e/\e<=65535):vX {kind:=134,eK:=eK,an:=e}:=by
 constructor<;>simp<;>omega
def aml {e:Int} (he:0<=e/\e<=65535):vX {kind:=133,an:=e}:=by
 constructor<;>simp<;>omega
def amm {eK e:Int} (h:0<=eK/\eK<=4) (he:0<=e/\e<=65535):vX {kind:=135,eK:=eK,an:=e}:=by
 constructor<;>simp<;>omega
def Ij {eK c:Int} (h:0<=eK/\eK<=4) (hc:0<=c/\c<=255):vX {kind:=136,eK:=eK,code:=c}:=by
 constructor<;>simp<;>omega
def amn {n:Int} (h:0<=n/\n<=4294967295):vX {kind:=131,seq:=n}:=by
 constructor<;>simp<;>omega
def amo {n c:Int} (h:0<=n/\n<=4294967295) (hc:0<=c/\c<=255):vX {kind:=132,seq:=n,code:=c}:=by
 constructor<;>simp<;>omega
def amp {r w e:Int} (h:0<=r/\r<=3) (hw:0<=w/\w<=4) (he:0<=e/\e<=65535):vX {kind:=130,role:=r,eK:=w,an:=e}:=by
 constructor<;>simp<;>omega
def amq {n:ax} (h:∀j,0<=n j/\n j<=255):vX {kind:=129,aK:=n}:=by
 constructor<;>simp<;>omega
def Ik {C:aL} {b:Prop} {s:ah} {t:Tok} {how n:Int} (hh:0<=t.aF/\t.aF<=4) (hn:t.aF≠s.c.t.aF) (ho:t.offer=-1)
 (he:(s.c.t.an<65535/\t.an=s.c.t.an+1)\/(s.c.t.an=65535/\t.an=65535/\how=6)) (hs:0<=s.c.t.an)
 (acj:0<=how/\how<=6) (ayU:0<=n/\n<=4294967295):yk C b s (s.goes C t how n) how:=by
 have et:0<=t.an/\t.an<=65535:=oM;have q2:Quiet C b ({s with c:={s.c with t:=t,q:=Q.drop s.c.q t.aF}}:ah) ((({s with c:={s.c with t:=t,q:=Q.drop s.c.q t.aF}}:ah).eh s.c.t.aF {kind:=134,eK:=t.aF,an:=t.an}).eh t.aF {kind:=133,an:=t.an}):=
  (At (amk hh et)).trans (At (aml et))
 obtain⟨ts,t1,t2⟩:=q2.bw;exact⟨sP,by simpa using hn,by simpa using ho,by simpa using he,
  ⟨[],n,[],by simp[goes],sP,by constructor<;>simp<;>omega,sP,by simp[goes,record]⟩,
  ⟨ts,by simpa[goes]using t1,t2⟩⟩
end ah
def MQ {t:Tok} {bh:Int} (h:(t.dF bh).2=0):(t.dF bh).1=t.pass bh (t.an+1)/\0<=bh/\bh<=4/\bh≠t.aF/\t.an<65535:=by
 unfold Tok.dF at*;split at h
 ·simp at h
 ·split at h
  ·simp at h
  ·split at h
   ·simp at h
   ·rename_i a b c;simp[a,b,c];omega
def MR (t:Tok) (bh:Int):0<=(t.dF bh).2/\(t.dF bh).2<=25:=by
 unfold Tok.dF;split<;>(try split)<;>(try split)<;>simp
structure uJ (m:bQ):Prop where
 kind:1<=m.kind/\m.kind<=11
 seq:0<=m.seq/\m.seq<=4294967295
 role:0<=m.role/\m.role<=3
 bh:0<=m.bh/\m.bh<=4
 an:0<=m.an/\m.an<=65535
 mode:0<=m.mode/\m.mode<=4
 cls:0<=m.cls/\m.cls<=3
 ayV:m.kind=11->1<=m.cls
def uK (ym now:Core) (kind link how:Int):Prop:=
 (how=1/\kind=0/\ym.t.offer=now.t.aF/\link=now.t.aF)\/
 (how=2/\kind<2/\(∃a l,ym.q=a::l/\a.source=now.t.aF)/\(kind=1↔ym.t.aF=0))\/
 (how=3/\kind=0/\link=now.t.aF/\eL ym.p now.t.aF ym.t.aF=af/\ym.t.bad=ag)\/
 (how=4/\kind=1/\now.t.aF=0)\/
 (how=5/\kind=3/\now.aq.on ym.t.aF=ag/\now.aq.on now.t.aF=af)\/
 (how=6/\now.t.aF=4/\((kind=2/\now.t.bad=af)\/(kind=3/\ym.t.an=65535/\now.aq.on ym.t.aF=ag)))
structure fW (C:aL) (b:Prop) (s s':ah) (kind link:Int):Prop where
 inv:Inv s'.c
 Au:Quiet C b s s'\/∃how,yk C b s s' how/\uK s.c s'.c kind link how
def fW.lh {C:aL} {b:Prop} {s s':ah} {kind link:Int} (h:Inv s'.c) (q:Quiet C b s s'):fW C b s s' kind link:=⟨h,.inl q⟩
def Inv.MS {c:Core} (h:Inv c) {t:Tok} {q:List Ask} (ht:ny c.p c.aq t) (hq:ri c.p c.aq t.aF q):Inv {c with t:=t,q:=q}:=
 ⟨h.p,ht,hq,h.aq,h.samples,h.mode,h.doors⟩
def Inv.goes {C:aL} {s:ah} (h:Inv s.c) {t:Tok} {how n:Int} (ht:ny s.c.p s.c.aq t):Inv (s.goes C t how n).c:=by
 obtain⟨x,hx⟩:=ah.MP C s t how n;rw[hx];exact(h.MS ht (h.q.drop t.aF (λa _ ha=>ha))).head x
variable{C:aL} {b:Prop} {s:ah} {l:Int} {m:bQ}
def Inv.lR {c:Core} (h:Inv c):0<=c.t.an/\c.t.an<=65535:=by have:=h.tok.an;have:=h.p.an;omega
def TX {n e:Int} (h:Inv s.c) (hl:1<=l/\l<=3) (hn:0<=n/\n<=4294967295) (he:0<=e/\e<=255):Quiet C b s (s.refuse C l n e):=by
 have:=h.lR;exact(ah.Ii ⟨hl,ah.amo hn he⟩).trans (ah.py sP (by constructor<;>simp<;>omega))
def yn {n e kind link:Int} (h:Inv s.c) (hl:1<=l/\l<=3) (hn:0<=n/\n<=4294967295) (he:0<=e/\e<=255):fW C b s (s.refuse C l n e) kind link:=
 .lh (h.head _) (TX h hl hn he)
def ack {e:Int} (h:Inv s.c) (hl:1<=l/\l<=3) (he:b->0<=e/\e<=255):Quiet C b s (s.jx C l e):=by
 have:=h.lR;exact ah.py sP (by constructor<;>simp<;>first|omega|exact he)
def Il {e kind link:Int} (h:Inv s.c) (hl:1<=l/\l<=3) (he:b->0<=e/\e<=255):fW C b s (s.jx C l e) kind link:=
 .lh (h.head _) (ack h hl he)
def acm {n:Int} (hl:1<=l/\l<=3) (hn:0<=n/\n<=4294967295):Quiet C b s (s.done l n):=ah.Ii ⟨hl,ah.amn hn⟩
def Av {t:ah} {n kind link:Int} (h:fW C b s t kind link) (hl:1<=l/\l<=3) (hn:0<=n/\n<=4294967295):fW C b s (t.done l n) kind link:=
 ⟨h.inv,h.Au.imp (λq=>q.trans (acm hl hn)) (λ⟨how,g,k⟩=>⟨how,g.quiet (acm hl hn) g.offer,k⟩)⟩
def amr (p:aU) (t:Tok) (f o:Int) (th:Bool):0<=(t.make p f o th).2/\(t.make p f o th).2<=28:=by
 unfold Tok.make;repeat' split
 all_goals simp
def ams {p:aU} {t:Tok} {f o:Int} {th:Bool} (h:(t.make p f o th).2=0):
 (t.make p f o th).1={t with offer:=o,oa:=.start p.offer}/\f=t.aF/\t.an<65535/\o≠f/\1<=o/\o<=3/\th=af/\t.offer<0:=by
 unfold Tok.make at*;split at h
 ·simp at h
 split at h
 ·simp at h
 split at h
 ·simp at h
 split at h
 ·simp at h
 split at h
 ·simp at h
 rename_i h1 h2 h3 h4 h5;have h6:th=af:=by
  cases th
  ·exact absurd (.inr (.inr rfl)) h4
  ·rfl
 rw[if_neg h1,if_neg h2,if_neg h3,if_neg h4,if_neg h5];exact⟨rfl,by simpa using h1,oM,h3,oM,oM,h6,oM⟩
def amt (t:Tok) (f e:Int):0<=(t.accept f e).2/\(t.accept f e).2<=28:=by
 unfold Tok.accept;split
 ·simp
 split
 ·simp
 have:=MR t f;omega
def amu {t:Tok} {f e:Int} (h:(t.accept f e).2=0):
 (t.accept f e).1=t.pass f (t.an+1)/\t.offer=f/\e=t.an/\0<=f/\f<=4/\f≠t.aF/\t.an<65535:=by
 unfold Tok.accept at*;split at h
 ·simp at h
 split at h
 ·simp at h
 rename_i h1 h2;obtain⟨g1,g2,g3,g4,g5⟩:=MQ h;have h3:t.offer=f:=by
  by_cases hx:t.offer=f
  ·exact hx
  ·exact absurd (.inr hx) h1
 rw[if_neg h1,if_neg h2];exact⟨g1,h3,by simpa using h2,g2,g3,g4,g5⟩
def amv (t:Tok) (f:Int):0<=(t.gh f).2/\(t.gh f).2<=28:=by
 unfold Tok.gh;split<;>simp
def amw {t:Tok} {f:Int} (h:(t.gh f).2=0):(t.gh f).1=t.jk/\t.offer=f:=by
 unfold Tok.gh at*;split at h
 ·simp at h
 rename_i h1;rw[if_neg h1];refine⟨rfl,?_⟩;by_cases hx:t.offer=f
 ·exact hx
 ·exact absurd (.inr hx) h1
def amx (h:Inv s.c) (hl:1<=l/\l<=3) (hm:uJ m):fW C b s (s.offer C l m) 0 l:=by
 have he:=h.lR;unfold ah.offer;dsimp only;split
 ·have:=amr s.c.p s.c.t l m.bh (s.c.aq.on m.bh);exact yn h hl hm.seq oM
 rename_i hz;obtain⟨g1,g2,g3,g4,g5,g6,g7,g8⟩:=ams (by simpa using hz);rw[g1];refine Av ?_ hl hm.seq;have ht:ny s.c.p s.c.aq {s.c.t with offer:=m.bh,oa:=Timer.start s.c.p.offer}:=
  ⟨h.tok.aF,h.tok.an,.inr ⟨g5,g6,by simp;omega,g7,by simp[Timer.start];have:=h.p.offer;omega,by simp[Timer.start],by simp[Timer.start];have:=h.p.offer;omega⟩,h.tok.lost⟩
 refine .lh ?_ ?_
 ·exact Inv.record (Inv.eh (s:=s.eD _) (h.MS ht h.q) _ _) ..
 ·have hh:=h.tok.aF;refine Quiet.trans (t:=s.eD {s.c.t with offer:=m.bh,oa:=Timer.start s.c.p.offer}) (ah.jq rfl rfl rfl rfl) ?_;refine Quiet.trans (ah.At (ah.amm oM (by simpa using he))) (ah.py sP ?_);have:=hm.seq;constructor<;>simp[ah.eD]<;>omega
def amy (h:Inv s.c) (hl:1<=l/\l<=3) (hm:uJ m):fW C b s (s.accept C l m) 0 l:=by
 have he:=h.lR;unfold ah.accept;dsimp only;split
 ·have:=amt s.c.t l m.an;exact yn h hl hm.seq oM
 rename_i hz;obtain⟨g1,g0,ge,g2,g3,g4,g5⟩:=amu (by simpa using hz);rw[g1];refine Av ⟨?_,.inr ⟨1,?_,?_⟩⟩ hl hm.seq
 ·exact h.goes (ny.pass h.p oM (by have:=h.tok.an;omega))
 ·exact ah.Ik (by simp[Tok.pass];omega) (by simpa[Tok.pass]using g4) rfl (.inl ⟨g5,rfl⟩) he.1 sP hm.seq
 ·exact .inl ⟨rfl,rfl,by simpa[Tok.pass]using g0,by simp[Tok.pass]⟩
def amz (h:Inv s.c) (hl:1<=l/\l<=3) (hm:uJ m):fW C b s (s.gh C l m) 0 l:=by
 have he:=h.lR;unfold ah.gh;dsimp only;split
 ·have:=amv s.c.t l;exact yn h hl hm.seq oM
 rename_i hz;obtain⟨g1,g2⟩:=amw (by simpa using hz);rw[g1];refine Av ?_ hl hm.seq;have ht:ny s.c.p s.c.aq s.c.t.jk:=⟨h.tok.aF,h.tok.an,.inl rfl,h.tok.lost⟩;refine .lh ?_ ?_
 ·exact Inv.record (Inv.eh (s:=s.eD _) (h.MS ht h.q) _ _) ..
 ·refine Quiet.trans (t:=s.eD s.c.t.jk) (ah.jq rfl rfl rfl rfl) ?_;refine Quiet.trans (ah.At (ah.Ij oM sP)) (ah.py sP ?_);have:=hm.seq;constructor<;>simp[ah.eD,Tok.jk]<;>omega
end Sd
namespace Sd
def mem_insert {q:List Ask} {a x:Ask}:x∈Q.insert q a↔x=a\/x∈q:=by
 unfold Q.insert;rw[eI,cF];have:=List.takeWhile_append_dropWhile (p:=λx:Ask=>decide (x.bU<=a.bU)) (l:=q);constructor
 ·rintro(h|h|h)
  ·exact .inr (List.takeWhile_prefix _|>.subset h)
  ·exact .inl h
  ·exact .inr (List.dropWhile_suffix _|>.subset h)
 ·rintro(h|h)
  ·exact .inr (.inl h)
  ·rw[<-this,eI]at h;rcases h with h|h
   ·exact .inl h
   ·exact .inr (.inr h)
def length_insert (q:List Ask) (a:Ask):(Q.insert q a).length=q.length+1:=by
 have:=congrArg List.length (List.takeWhile_append_dropWhile (p:=λx:Ask=>decide (x.bU<=a.bU)) (l:=q));simp only[fL]at this;simp only[Q.insert,fL,jf];omega
def amA (y:Ask) (q:List Ask) (a:Ask):Q.insert (y::q) a=if y.bU<=a.bU then y::Q.insert q a else a::y::q:=by
 unfold Q.insert;simp only[List.takeWhile_cons,List.dropWhile_cons];by_cases h:y.bU<=a.bU<;>simp[h]
def insert_sorted {q:List Ask} {a:Ask} (h:q.Pairwise λa b=>a.bU<b.bU) (hn:∀x∈q,x.bU≠a.bU):(Q.insert q a).Pairwise λa b=>a.bU<b.bU:=by
 induction q with
 |nil=>simp[Q.insert]
 |cons y q ih=>
  rw[amA];rw[Be]at h;have hy:=hn y sP;split
  ·rw[Be];refine⟨λx hx=>?_,ih h.2 (λx hx=>hn x (by simp[hx]))⟩;rcases mem_insert.1 hx with rfl|hx
   ·omega
   ·exact h.1 x hx
  ·rw[Be,Be];refine⟨λx hx=>?_,h.1,h.2⟩;rcases cF.1 hx with rfl|hx
   ·omega
   ·have:=h.1 x hx;omega
def amB (most:Int) (q:List Ask) (a:Ask):0<=(Q.push most q a).2/\(Q.push most q a).2<=27:=by
 unfold Q.push;repeat' split
 all_goals simp
def amC {most:Int} {q:List Ask} {a:Ask} (h:(Q.push most q a).2=0):(Q.push most q a).1=Q.insert q a/\Q.waits q a.source=ag/\(q.length:Int)<most:=by
 unfold Q.push at*;split at h
 ·simp at h
 split at h
 ·simp at h
 rename_i h1 h2;rw[if_neg h1,if_neg h2];exact⟨rfl,by simpa using h1,oM⟩
def amD {q:List Ask} {s:Int} (h:Q.waits q s=ag):∀x∈q,x.source≠s:=by
 intro x hx e;have:Q.waits q s=af:=by unfold Q.waits;rw[A9];exact⟨x,hx,by simp[e]⟩
 rw[this]at h;cases h
def ri.insert {p:aU} {t:aN} {h:Int} {q:List Ask} (hp:fF p) (k:ri p t h q) {s:Int} (hs:1<=s/\s<=3) (jR:t.on s=af) (hh:s≠h)
 (hw:Q.waits q s=ag) (hl:(q.length:Int)<p.queue):ri p t h (Q.insert q ⟨s,bU p s,.start p.ask⟩) where
 each:=by
  intro a ha;rcases mem_insert.1 ha with rfl|ha
  ·have:=hp.ask;refine⟨rfl,hs.1,hs.2,jR,hh,?_,?_,?_⟩<;>simp[Timer.start]<;>omega
  ·exact k.each a ha
 sorted:=insert_sorted k.sorted (λx hx e=>by
  have h1:=k.each x hx;have h2:=amD hw x hx;rw[h1.1]at e;exact h2 (Zs hp oM oM e))
 len:=by rw[length_insert];omega
def amE {p:aU} {t:Tok} {most:Int} {q:List Ask} {f:Int} {now:Bool}:0<=(gY p t most q f now).2.2.1/\(gY p t most q f now).2.2.1<=29:=by
 unfold gY;have h1:=MR t f;have h2:=amB most q ⟨f,bU p f,.start p.ask⟩
 repeat' split
 all_goals first|(simp;done)|(simp;omega)|omega
def amF {p:aU} {t:Tok} {most:Int} {q:List Ask} {f:Int} {now:Bool} (h:(gY p t most q f now).2.2.1=0):
 t.bad=ag/\f≠t.aF/\t.an<65535/\
 ((gY p t most q f now=(t.pass f (t.an+1),3,0,Q.drop q f)/\0<=f/\f<=4/\(t.aF=4\/eL p f t.aF=af))\/
  (gY p t most q f now=(t,0,0,Q.insert q ⟨f,bU p f,.start p.ask⟩)/\Q.waits q f=ag/\(q.length:Int)<most/\t.aF≠4/\now=ag)):=by
 unfold gY at*;split at h
 ·simp at h
 split at h
 ·simp at h
 split at h
 ·simp at h
 rename_i h1 h2 h3;rw[if_neg h1,if_neg h2,if_neg h3];refine⟨by simpa using h1,h2,oM,?_⟩;split at h
 ·rename_i h4;rw[if_pos h4];split at h
  ·rename_i h5;exact absurd h h5
  ·rename_i h5;rw[if_neg h5];obtain⟨g1,g2,g3,g4,g5⟩:=MQ (by simpa using h5);exact .inl ⟨by rw[g1],g2,g3,h4.imp id And.right⟩
 ·rename_i h4;rw[if_neg h4];split at h
  ·simp at h
  ·rename_i h5;rw[if_neg h5];obtain⟨g1,g2,g3⟩:=amC h;refine .inr ⟨?_,g2,g3,λe=>h4 (.inl e),by simpa using h5⟩;rw[g1];exact Prod.ext rfl (Prod.ext rfl (Prod.ext h rfl))
def amG (t:Tok) (q:List Ask):0<=(fT t q).2.1/\(fT t q).2.1<=25:=by
 unfold fT;split
 ·simp
 ·rename_i a l;have:=MR t a.source;split<;>first|(simp;done)|(simp;omega)|omega
def amH {t:Tok} {q:List Ask} (h:(fT t q).2.1=0):
 ∃a l,q=a::l/\fT t q=(t.pass a.source (t.an+1),0,Q.drop q a.source)/\0<=a.source/\a.source<=4/\a.source≠t.aF/\t.an<65535:=by
 unfold fT at*;split at h
 ·simp at h
 ·rename_i a l;split at h
  ·rename_i h5;exact absurd h h5
  ·rename_i h5;obtain⟨g1,g2,g3,g4,g5⟩:=MQ (by simpa using h5);refine⟨a,l,rfl,?_,g2,g3,g4,g5⟩;show(if(t.dF a.source).2≠0 then _ else _)=_;rw[if_neg h5,g1]
def acn (t:Tok) (q:List Ask) (f:Int):0<=(dA t q f).2.1/\(dA t q f).2.1<=25:=by
 unfold dA;have:=amG t q
 repeat' split
 all_goals first|(simp;done)|(simp;omega)|omega
def aco {t:Tok} {q:List Ask} {f:Int} (h:(dA t q f).2.1=0):
 f=t.aF/\∃a l,q=a::l/\dA t q f=(t.pass a.source (t.an+1),0,Q.drop q a.source)/\0<=a.source/\a.source<=4/\a.source≠t.aF/\t.an<65535:=by
 unfold dA at*;split at h
 ·simp at h
 split at h
 ·simp at h
 rename_i h1 h2;rw[if_neg h1,if_neg h2];exact⟨by simpa using h1,amH h⟩
variable{C:aL} {b:Prop} {s:ah} {l:Int} {m:bQ}
def Im {kind link how n f:Int} {q:List Ask} (h:Inv s.c) (hf:0<=f/\f<=4) (hq:∃x,q=Q.drop s.c.q x) (cL:f≠s.c.t.aF) (he:s.c.t.an<65535)
 (acj:0<=how/\how<=6) (hn:0<=n/\n<=4294967295)
 (hk:uK s.c (ah.goes C ({s with c:={s.c with q:=q}}:ah) (s.c.t.pass f (s.c.t.an+1)) how n).c kind link how):
 fW C b s (ah.goes C ({s with c:={s.c with q:=q}}:ah) (s.c.t.pass f (s.c.t.an+1)) how n) kind link:=by
 have e0:=h.lR;obtain⟨x,rfl⟩:=hq;have h1:Inv ({s.c with q:=Q.drop s.c.q x}:Core):=⟨h.p,h.tok,h.q.drop x (λa ha hx=>(h.q.each a ha).2.2.2.2.1),h.aq,h.samples,h.mode,h.doors⟩;refine⟨?_,.inr ⟨how,?_,hk⟩⟩
 ·exact Inv.goes (s:={s with c:={s.c with q:=Q.drop s.c.q x}}) h1 (ny.pass h.p hf (by have:=h.tok.an;omega))
 ·have q0:Quiet C b s ({s with c:={s.c with q:=Q.drop s.c.q x}}:ah):=ah.jq rfl rfl rfl rfl;exact q0.goes (ah.Ik (by simp[Tok.pass];omega) (by simpa[Tok.pass]using cL) rfl (.inl ⟨he,rfl⟩) e0.1 acj hn)
def amI (h:Inv s.c) (hl:1<=l/\l<=3) (hm:uJ m):fW C b s (s.release C l m) 0 l:=by
 unfold ah.release;dsimp only;split
 ·have h2:=acn s.c.t s.c.q l;exact yn h hl hm.seq ⟨h2.1,DE h2.2 dC⟩
 rename_i hz;obtain⟨g0,a,r,g1,g2,g3,g4,g5,g6⟩:=aco (by simpa using hz);rw[g2];refine Av (Im h ⟨g3,g4⟩ ⟨_,rfl⟩ g5 g6 sP hm.seq ?_) hl hm.seq;refine .inr (.inl ⟨rfl,sP,⟨a,r,g1,by simp[Tok.pass]⟩,?_⟩);simp;omega
def amJ (h:Inv s.c) (hl:1<=l/\l<=3) (hm:uJ m) (jR:s.c.aq.on l=af):fW C b s (s.ask C l m) 0 l:=by
 have e0:=h.lR;unfold ah.ask;dsimp only;split
 ·have h2:=@amE s.c.p s.c.t s.c.p.queue s.c.q l m.now;exact yn h hl hm.seq ⟨h2.1,DE h2.2 dC⟩
 rename_i hz;obtain⟨g1,g2,g3,g4⟩:=amF (by simpa using hz);refine Av ?_ hl hm.seq;rcases g4 with⟨g4,g5,g6,g7⟩|⟨g4,g5,g6,g7⟩
 ·rw[g4];rw[if_pos sP];refine Im h ⟨g5,g6⟩ ⟨_,rfl⟩ g2 g3 sP hm.seq ?_;refine .inr (.inr (.inl ⟨rfl,rfl,by simp[Tok.pass],?_,g1⟩));simp only[ah.amj,Tok.pass];rcases g7 with g7|g7
  ·rw[g7,agV h.p oM oM];simpa using agW h.p oM
  ·exact g7
 ·rw[g4];rw[if_neg sP];refine .lh ?_ ?_
  ·refine Inv.record (s:=({s with c:={s.c with q:=Q.insert s.c.q ⟨l,bU s.c.p l,Timer.start s.c.p.ask⟩}}:ah).eD s.c.t) (h.MS h.tok ?_) ..;exact h.q.insert h.p hl jR g2 g5 g6
  ·refine Quiet.trans (t:=({s with c:={s.c with q:=Q.insert s.c.q ⟨l,bU s.c.p l,Timer.start s.c.p.ask⟩}}:ah).eD s.c.t) (ah.jq rfl rfl rfl rfl) (ah.py sP ?_);have:=hm.seq;constructor<;>simp[ah.eD]<;>omega
def TY (p:aU) (t:Tok) (a r mo:Int) (m:bQ):0<=oq p t a r mo m/\oq p t a r mo m<=23:=by
 unfold oq;by_cases h1:m.kind≠10/\m.kind≠11
 ·rw[if_pos h1];simp
 rw[if_neg h1];by_cases h2:a≠t.aF
 ·rw[if_pos h2];simp
 rw[if_neg h2];by_cases h3:m.an≠t.an
 ·rw[if_pos h3];simp
 rw[if_neg h3];by_cases h4:may p mo r (if m.kind=10 then 0 else m.cls)=ag
 ·rw[if_pos h4];simp
 rw[if_neg h4];by_cases h5:m.kind=10/\Sd.goes p mo m.mode=ag
 ·rw[if_pos h5];simp
 ·rw[if_neg h5];simp
def amK (h:Inv s.c) (hl:1<=l/\l<=3) (hm:uJ m):fW C b s (s.command C l m) 0 l:=by
 have e0:=h.lR;unfold ah.command;dsimp only;split
 ·have:=TY s.c.p s.c.t l (s.c.aq.role l) s.c.mode m;exact yn h hl hm.seq oM
 refine Av ?_ hl hm.seq;have:=hm.seq;split
 ·refine .lh (Inv.head (c:={s.c with mode:=m.mode,gF:=_}) ⟨h.p,h.tok,h.q,h.aq,h.samples,hm.mode,h.doors⟩ _) ?_;refine Quiet.trans (t:={s with c:={s.c with mode:=m.mode,gF:=⟨1,l,m.seq⟩}}) (ah.jq rfl rfl rfl rfl) (ah.py sP ?_);constructor<;>simp<;>omega
 ·refine .lh (Inv.head (c:={s.c with pt:=s.c.pt.set s.c.p m.cls m.x ⟨1,l,m.seq⟩}) ⟨h.p,h.tok,h.q,h.aq,h.samples,h.mode,h.doors⟩ _) ?_;refine Quiet.trans (t:={s with c:={s.c with pt:=s.c.pt.set s.c.p m.cls m.x ⟨1,l,m.seq⟩}}) (ah.jq rfl rfl rfl rfl) (ah.py sP ?_);constructor<;>simp<;>omega
end Sd
namespace Sd
variable{C:aL} {b:Prop} {s:ah} {l:Int} {m:bQ}
def MT (t:Tok) (x:Int):(t.drop x).1.aF=t.aF/\(t.drop x).1.an=t.an/\(t.drop x).1.la=t.la/\(t.drop x).1.bad=t.bad/\
 ((t.drop x).1=t/\(t.drop x).2=ag/\(t.offer<0\/t.offer≠x)\/(t.drop x).1=t.jk/\(t.drop x).2=af/\t.offer=x):=by
 unfold Tok.drop;split
 ·rename_i h;exact⟨rfl,rfl,rfl,rfl,.inl ⟨rfl,rfl,h⟩⟩
 ·rename_i h;refine⟨rfl,rfl,rfl,rfl,.inr ⟨rfl,rfl,?_⟩⟩;by_cases hx:t.offer=x
  ·exact hx
  ·exact absurd (.inr hx) h
def TZ (C:aL) (s:ah) (x:Int):∃hd,(s.leave C x).c={s.c with q:=Q.drop s.c.q x,t:=(s.c.t.drop x).1,head:=hd}:=by
 unfold ah.leave;dsimp only;rcases(MT s.c.t x).2.2.2.2 with⟨h1,h2,_⟩|⟨h1,h2,_⟩
 ·rw[if_pos h2,h1];exact⟨s.c.head,rfl⟩
 ·rw[if_neg (by rw[h2];simp)];refine⟨C.next s.c.head ⟨12,x,0,(s.c.t.drop x).1.an,16,0⟩,?_⟩;rw[show∀(y:ah) (k a n e w:Int),(y.record C k a n e w).c={y.c with head:=C.next y.c.head ⟨k,a,n,y.c.t.an,e,w⟩}from λ_ _ _ _ _ _=>rfl];simp only[ah.lQ]
def acp {x:Int} (hx:1<=x/\x<=3) (he:0<=s.c.t.an/\s.c.t.an<=65535):Quiet C b s (s.leave C x):=by
 unfold ah.leave;dsimp only;have q0:Quiet C b s ({s with c:={s.c with q:=Q.drop s.c.q x}}:ah):=ah.jq rfl rfl rfl rfl;have hd:=MT s.c.t x;split
 ·exact q0
 ·refine q0.trans (Quiet.trans (t:=({s with c:={s.c with q:=Q.drop s.c.q x,t:=(s.c.t.drop x).1}}:ah)) (ah.jq hd.1 hd.2.1 rfl rfl) ?_);refine Quiet.trans (ah.At (ah.Ij oM sP)) (ah.py sP ?_);have e:(({s with c:={s.c with q:=Q.drop s.c.q x,t:=(s.c.t.drop x).1}}:ah).eh (s.c.t.drop x).1.aF {kind:=136,eK:=x,code:=16}).c.t.an=s.c.t.an:=by
   rw[ah.kB];exact hd.2.1
  constructor<;>first|(dsimp only;rw[e];exact he)|(simp;done)|(simp;omega)
def Inv.leave {T:aN} {x:Int} (h:Inv {s.c with aq:=T}):Inv {(s.leave C x).c with aq:=T}/\(s.leave C x).c.aq=s.c.aq/\(s.leave C x).c.p=s.c.p/\
 (s.leave C x).c.q=Q.drop s.c.q x/\(s.leave C x).c.t.offer≠x/\((s.leave C x).c.t.offer=s.c.t.offer\/(s.leave C x).c.t.offer=-1)/\(s.leave C x).c.t.aF=s.c.t.aF\/x<0:=by
 by_cases hx:x<0
 ·exact .inr hx
 refine .inl ?_;obtain⟨hd,e⟩:=TZ C s x;have Io:=MT s.c.t x;rw[e];refine⟨?_,rfl,rfl,rfl,?_,?_,Io.1⟩
 ·have ht:ny s.c.p T (s.c.t.drop x).1:=by
   rcases Io.2.2.2.2 with⟨h1,_,_⟩|⟨h1,_,_⟩
   ·rw[h1];exact h.tok
   ·rw[h1];exact⟨h.tok.aF,h.tok.an,.inl rfl,h.tok.lost⟩
  exact⟨h.p,ht,h.q.drop x (λa ha _=>by show a.source≠(s.c.t.drop x).1.aF;rw[Io.1];exact(h.q.each a ha).2.2.2.2.1),h.aq,h.samples,h.mode,h.doors⟩
 ·show(s.c.t.drop x).1.offer≠x;rcases Io.2.2.2.2 with⟨h1,_,h2⟩|⟨h1,_,_⟩
  ·rw[h1];omega
  ·rw[h1];simp[Tok.jk];omega
 ·show(s.c.t.drop x).1.offer=s.c.t.offer\/(s.c.t.drop x).1.offer=-1;rcases Io.2.2.2.2 with⟨h1,_,h2⟩|⟨h1,_,_⟩
  ·rw[h1];exact .inl rfl
  ·rw[h1];exact .inr rfl
def Inv.Ip {c:Core} {T:aN} (h:Inv {c with aq:=T}) (e:c.aq=T):Inv c:=by subst e;exact h
def Inv.MU {c:Core} {T T':aN} (h:Inv {c with aq:=T}) (ht:D4 c.p T') (hq:∀a∈c.q,T'.on a.source=af) (ho:0<=c.t.offer->T'.on c.t.offer=af):Inv {c with aq:=T'}:=
 ⟨h.p,⟨h.tok.aF,h.tok.an,h.tok.offer.imp id (λ⟨a,b,d,_,f⟩=>⟨a,b,d,ho (DE dC a),f⟩),h.tok.lost⟩,
  ⟨λa ha=>⟨(h.q.each a ha).1,(h.q.each a ha).2.1,(h.q.each a ha).2.2.1,hq a ha,(h.q.each a ha).2.2.2.2⟩,h.q.sorted,h.q.len⟩,ht,h.samples,h.mode,h.doors⟩
def amL {t:aN} {i:Nat} {x:gw} {u:Int} (hu:u.toNat-1≠i):(t.gO i x).on u=t.on u:=by
 simp[aN.on,aN.iC,aN.gO,hu]
def MV {t:aN} {u:Int} {i:Nat} {x:gw} (h:t.on u=af) (hx:x.on=af):(t.gO i x).on u=af:=by
 unfold aN.on aN.iC aN.gO at*;split at h
 ·rename_i h1;rw[if_pos h1]
 ·rename_i h1;rw[if_neg h1];split at h
  ·rename_i h2;rw[if_pos h2];exact h
  ·rename_i h2;rw[if_neg h2];simp only[bD]at h⊢;refine⟨h.1,?_⟩;split
   ·exact hx
   ·exact h.2
def amM {p:aU} {t:aN} (h:D4 p t) (l:Int):D4 p (t.end_ l):=by
 unfold aN.end_;split
 ·refine⟨h.de,λi hi jR=>?_⟩;unfold aN.gO at*;dsimp only at*;split at jR
  ·cases jR
  ·rename_i cL;rw[if_neg cL];exact h.az i hi jR
 ·exact h
def acq {t:aN} {l u:Int} (hl:1<=l/\l<=3) (hu:u≠l) (h:t.on u=af):(t.end_ l).on u=af:=by
 unfold aN.end_;split
 ·by_cases h1:u=4
  ·simp[aN.on,h1]
  by_cases h2:u=0
  ·subst h2;simpa[aN.on,aN.gO]using h
  have h3:1<=u/\u<=3:=by
   unfold aN.on aN.iC at h;rw[if_neg h1,if_neg h2]at h;simp at h;exact h.1
  rw[amL oM];exact h
 ·exact h
def amN (h:Inv s.c) (hl:1<=l/\l<=3) (hm:uJ m):fW C b s (s.BH C l m) 0 l:=by
 have e0:=h.lR;unfold ah.BH;refine Av ?_ hl hm.seq;have hq:Quiet C b s ((({s with c:={s.c with aq:=s.c.aq.end_ l}}:ah).leave C l)):=
  Quiet.trans (t:=({s with c:={s.c with aq:=s.c.aq.end_ l}}:ah)) (ah.jq rfl rfl rfl rfl) (acp hl e0)
 have hs:=hm.seq;refine .lh ?_ (hq.trans (ah.py sP ?_))
 ·refine Inv.record ?_ ..;rcases Inv.leave (C:=C) (s:=({s with c:={s.c with aq:=s.c.aq.end_ l}}:ah)) (T:=s.c.aq) (x:=l) h with⟨h1,h2,h3,h4,h5,h6,h7⟩|hx
  ·refine Inv.Ip (T:=s.c.aq.end_ l) (Inv.MU h1 (T':=s.c.aq.end_ l) (by simpa[h3]using amM h.aq l) ?_ ?_) h2
   ·intro a ha;have vC:a∈Q.drop s.c.q l:=by simpa[h4]using ha
    simp only[Q.drop,A_,decide_eq_true_eq]at vC;exact acq hl vC.2 (h.q.each a vC.1).2.2.2.1
   ·intro ho;refine acq hl h5 ?_;rcases h6 with h6|h6
    ·rcases h.tok.offer with h9|⟨_,_,_,h9,_⟩
     ·simp at ho h6;omega
     ·simpa[h6]using h9
    ·simp[h6]at ho
  ·omega
 ·have e1:=hq.an;constructor<;>first|(dsimp only;rw[e1];exact e0)|(simp;done)|(simp;omega)
def amO {X:ah} {r:aO} {k a n e w:Int} (h:Quiet C b s X) (ht:MN (l,r)) (hk:k≠8) (hb:Cz b ⟨k,a,n,X.c.t.an,e,w⟩):Quiet C b s ((X.tell l r).record C k a n e w):=
 h.trans (Quiet.trans (ah.Ii ht) (ah.py hk hb))
structure CA (C:aL):Prop where
 aK:∀k s n j,0<=C.aK k s n j/\C.aK k s n j<=255
 take:∀n f m,C.take n f=aa m->uJ m
 g9:∀w n,0<=w.high/\w.high<=4294967295->0<=n/\n<=4294967295->0<=(C.g9 w n).high/\(C.g9 w n).high<=4294967295
def acr {d:Nat->eS} (h:Inv s.c) (hd:∀i,i<3->0<=(d i).many):Inv ({s.c with doors:=d}:Core)/\Quiet C b s ({s with c:={s.c with doors:=d}}:ah):=
 ⟨⟨h.p,h.tok,h.q,h.aq,h.samples,h.mode,hd⟩,ah.jq rfl rfl rfl rfl⟩
def acs {n:Nat} {f:ax} (hC:CA C) (h:Inv s.c) (hl:1<=l/\l<=3):fW C b s (s.sV C l n f) 0 l:=by
 have e0:=h.lR;unfold ah.sV;split
 ·exact Il h hl (λ_=>oM)
 rename_i m hm;split
 ·exact yn h hl oM oM
 dsimp only;split
 ·exact yn h hl oM oM
 have hd:=h.doors (l.toNat-1) oM;obtain⟨i1,q1⟩:=acr (C:=C) (b:=b) h (d:=λj=>if j=l.toNat-1 then⟨(s.c.doors (l.toNat-1)).many+1,af,C.aK (s.c.p.k 3) l ((s.c.doors (l.toNat-1)).many+1)⟩else s.c.doors j)
  (λi hi=>by split<;>first|(dsimp only;omega)|exact h.doors i hi)
 refine .lh (Inv.head i1 _) (q1.trans (Quiet.trans (ah.Ii ⟨hl,ah.amq (hC.aK (s.c.p.k 3) l ((s.c.doors (l.toNat-1)).many+1))⟩) ?_));exact ah.py sP (by constructor<;>simp<;>omega)
def amP {p:aU} {t:aN} {s r:Int} {k:ax} (h:(aN.fk p t s r k).2=0):
 (aN.fk p t s r k).1=t.gO (s.toNat-1) ⟨af,.start p.cO,r,k,⟨ag,0,0⟩⟩/\1<=s/\s<=3/\0<=r/\r<=3:=by
 unfold aN.fk at*;split at h
 ·simp at h
 split at h
 ·simp at h
 rename_i h1 h2;rw[if_neg h1,if_neg h2];exact⟨rfl,oM,oM,oM,oM⟩
def amQ (p:aU) (t:aN) (s r:Int) (k:ax):0<=(aN.fk p t s r k).2/\(aN.fk p t s r k).2<=19:=by
 unfold aN.fk;repeat' split
 all_goals simp
def Inv.gO {c:Core} (h:Inv c) {i:Nat} {x:gw} (hx:x.on=af) (uz:x.dN.most=c.p.cO/\0<=x.dN.n/\x.dN.n<c.p.cO/\0<=x.role/\x.role<=3/\0<=x.seen.high/\x.seen.high<=4294967295):Inv {c with aq:=c.aq.gO i x}:=by
 refine Inv.MU (T:=c.aq) h ?_ (λa ha=>MV (h.q.each a ha).2.2.2.1 hx) (λho=>?_)
 ·refine⟨h.aq.de,λj hj jR=>?_⟩;unfold aN.gO at*;dsimp only at*;split at jR
  ·rename_i e;rw[if_pos e];exact uz
  ·rename_i e;rw[if_neg e];exact h.aq.az j hj jR
 ·rcases h.tok.offer with h1|⟨_,_,_,h1,_⟩
  ·omega
  ·exact MV h1 hx
def acu {n:Nat} {f:ax} (hC:CA C) (h:Inv s.c) (hl:1<=l/\l<=3):fW C b s (s.prove C l n f) 0 l:=by
 have e0:=h.lR;unfold ah.prove;split
 ·exact Il h hl (λ_=>oM)
 split
 ·exact Il h hl (λ_=>oM)
 rename_i m hm;have hmb:=hC.take _ _ _ hm;dsimp only;split
 ·exact yn h hl oM oM
 have hd:=h.doors (l.toNat-1) oM;obtain⟨i1,q1⟩:=acr (C:=C) (b:=b) h (d:=λj=>if j=l.toNat-1 then⟨(s.c.doors (l.toNat-1)).many,ag,λ_=>0⟩else s.c.doors j)
  (λi hi=>by split<;>first|(dsimp only;omega)|exact h.doors i hi)
 split
 ·exact⟨i1.head _,.inl (q1.trans (ack (s:=⟨_,_,_⟩) i1 hl (λ_=>oM)))⟩
 split
 ·exact⟨i1.head _,.inl (q1.trans (TX (s:=⟨_,_,_⟩) i1 hl oM oM))⟩
 split
 ·have h2:=amQ s.c.p s.c.aq l m.role (C.key (s.c.p.k (l.toNat-1)) l m.role (s.c.doors (l.toNat-1)).aK);exact⟨i1.head _,.inl (q1.trans (TX (s:=⟨_,_,_⟩) i1 hl oM ⟨h2.1,DE h2.2 dC⟩))⟩
 rename_i hz;obtain⟨g1,g2,g3,g4,g5⟩:=amP (by simpa using hz);have hb:=h.p.cO;have i2:=Inv.gO (c:={s.c with doors:=_}) i1 (i:=l.toNat-1) (x:=⟨af,.start s.c.p.cO,m.role,C.key (s.c.p.k (l.toNat-1)) l m.role (s.c.doors (l.toNat-1)).aK,⟨ag,0,0⟩⟩) rfl
  ⟨by simp[Timer.start];omega,by simp[Timer.start],by simp[Timer.start];omega,g4,g5,sP,sP⟩
 have hh:=h.tok.aF;rw[g1];refine .lh (Inv.head i2 _) (amO (q1.trans (ah.jq rfl rfl rfl rfl)) ⟨hl,ah.amp ⟨g4,g5⟩ hh e0⟩ sP ?_);constructor<;>simp<;>omega
def acv {p:aU} {t t':aN} {l:Int} {n:Nat} {f:ax} {m:bQ} (hC:CA C) (h:aN.take C p t l n f=(t',.ok m)):
 t.iC l=af/\uJ m/\m.kind≠1/\m.kind≠2/\
 t'=t.gO (l.toNat-1) {(t.az (l.toNat-1))with seen:=C.g9 (t.az (l.toNat-1)).seen m.seq,on:=af,dN:=.start p.cO}:=by
 unfold aN.take at h;split at h
 ·simp at h
 rename_i h1;split at h
 ·simp at h
 split at h
 ·simp at h
 rename_i m' hm;split at h
 ·simp at h
 split at h
 ·simp at h
 rename_i h2 h3;simp at h;obtain⟨rfl,rfl⟩:=h;exact⟨by simpa using h1,hC.take _ _ _ hm,oM,oM,rfl⟩
def T0 {p:aU} {t t':aN} {l:Int} {n:Nat} {f:ax} {e:Int} (h:aN.take C p t l n f=(t',.error e)):13<=e/\e<=16:=by
 unfold aN.take at h;split at h
 ·simp at h;omega
 split at h
 ·simp at h;omega
 split at h
 ·simp at h;omega
 split at h
 ·simp at h;omega
 split at h
 ·simp at h;omega
 ·simp at h
def acw (h:Inv s.c) (hl:1<=l/\l<=3) (hm:uJ m) (jR:s.c.aq.on l=af) (h1:m.kind≠1) (h2:m.kind≠2):fW C b s (s.kW C l m) 0 l:=by
 have hk:=hm.kind;unfold ah.kW;split
 ·exact Av (.lh h (Quiet.refl ..)) hl hm.seq
 split
 ·exact amN h hl hm
 split
 ·exact amJ h hl hm jR
 split
 ·exact amx h hl hm
 split
 ·exact amy h hl hm
 split
 ·exact amz h hl hm
 split
 ·exact amI h hl hm
 split
 ·exact amK h hl hm
 ·omega
def T4 {t:aN} {l:Int} (hl:1<=l/\l<=3):t.on l=t.iC l:=by
 unfold aN.on;rw[if_neg oM,if_neg oM]
def fW.Ip {t:ah} {T:aN} {kind link:Int} (k:fW C b ({s with c:={s.c with aq:=T}}:ah) t kind link):fW C b s t kind link:=
 ⟨k.inv,by
  rcases k.Au with q|⟨how,g,w⟩
  ·refine .inl (Quiet.trans ?_ q);exact ah.jq rfl rfl rfl rfl
  ·refine .inr ⟨how,Quiet.goes ?_ g,w⟩;exact ah.jq rfl rfl rfl rfl⟩
def T5 {n:Nat} {f:ax} {code:Int} (hC:CA C) (h:Inv s.c) (hl:1<=l/\l<=3) (hb:b->0<=code/\code<=255):fW C b s (s.item C l code n f) 0 l:=by
 unfold ah.item;split
 ·exact Il h hl hb
 split
 ·exact acs hC h hl
 split
 ·exact acu hC h hl
 split
 ·rename_i t e he;have:=T0 he;exact Il h hl (λ_=>oM)
 ·rename_i t m he;obtain⟨g1,g2,g3,g4,g5⟩:=acv hC he;have hb:=h.p.cO;have MW:s.c.aq.on l=af:=by rw[T4 hl];exact g1
  have i1:=h.gO (i:=l.toNat-1) (x:={(s.c.aq.az (l.toNat-1))with seen:=C.g9 (s.c.aq.az (l.toNat-1)).seen m.seq,on:=af,dN:=.start s.c.p.cO}) rfl
   (by
    have jR:(s.c.aq.az (l.toNat-1)).on=af:=by unfold aN.iC at g1;simp at g1;exact g1.2
    have:=h.aq.az (l.toNat-1) oM jR;have h9:=hC.g9 (s.c.aq.az (l.toNat-1)).seen m.seq ⟨oM,oM⟩ g2.seq;simp[Timer.start];omega)
  subst g5;exact fW.Ip (acw (s:=⟨{s.c with aq:=_},s.bw,s.aV⟩) i1 hl g2 (MV MW rfl) g3 g4)
end Sd
namespace Go.Proofs.YtddcipamdggcnaaGreatDoor
section
open Go Go.RowKit Go.BigFrame Sx
def Iq (x y:Int) (hx:0<=x/\x<2^56) (hy:0<=y/\y<256):bits .or .u64 (u64.wrap (x*2^8)) y=x*256+y:=by
 have hw:u64.wrap (x*2^8)=x*256:=by rw[Bm];omega
 rw[hw];obtain⟨a,rfl⟩:∃a:Nat,x=a:=⟨x.toNat,oM⟩;obtain⟨b,rfl⟩:∃b:Nat,y=b:=⟨y.toNat,oM⟩;have ha:a<2^56:=oM;have hb:b<256:=oM;unfold bits;have h1:(pP 64 ((a:Int)*256)).toNat=a*256:=by simp only[Ku];omega
 have h2:(pP 64 (b:Int)).toNat=b:=by simp only[Ku];omega
 have h3:(a*256|||b)=a*256+b:=by
  have:=Nat.shiftLeft_add_eq_or_of_lt (i:=8) (b:=b) oM a;rw[Nat.shiftLeft_eq]at this;exact this.symm
 show u64.wrap (((pP 64 ((a:Int)*256)|||pP 64 (b:Int)).toNat:Nat):Int)=_;rw[BitVec.toNat_or,h1,h2,h3,Bm];omega
def T6 (y:Int) (hy:0<=y/\y<256):bits .or .u64 0 y=y:=by
 have h:=Iq 0 y oM hy;rw[show u64.wrap (0*2^8)=0 from dC]at h;rw[h];omega
def E1 (f:Nat->Int):Int:=f 0
def ir (f:Nat->Int):Int:=f 0*256+f 1
def CB (f:Nat->Int):Int:=((f 0*256+f 1)*256+f 2)*256+f 3
def By (f:Nat->Int):Prop:=∀j,0<=f j/\f j<=255
def amR {f:Nat->Int} (h:By f):0<=E1 f/\E1 f<=255:=h 0
def acx {f:Nat->Int} (h:By f):0<=ir f/\ir f<=65535:=by have:=h 0;have:=h 1;unfold ir;omega
def amS {f:Nat->Int} (h:By f):0<=CB f/\CB f<=4294967295:=by have:=h 0;have:=h 1;have:=h 2;have:=h 3;unfold CB;omega
def Aw (x:Int):Int:=if 32767<x then x-65536 else x
def amT (b o c:Nat) (f:Nat->Int) (hf:By f) (w:aj) (hB:cA w b o 1 f):
 aX prog 238 #[.slice (aa ⟨b,o,ae⟩) 1 c] w λv w1=>v=.tuple #[.int .u64 (E1 f),.int .i64 0]/\Ch [] w w1:=by
 have S0:=St.nil [] w;refine iZ Tryz.func238 rfl ?_;refine aR (aZ ?_);refine av (.int .u64 0) ?_;refine av (.int .i64 0) ?_;refine aT (aQ (aR (aR (aZ ?_))));refine dh ?_;refine av (.int .i64 1) ?_;refine av (.bool ag) ?_;refine aT (aQ (qT ?_));refine kQ (aQ (aR (aZ ?_)));refine av (.int .u64 0) ?_;refine aT (aQ (aR (aR (aZ ?_))));refine dh ?_;refine av (.int .i64 1) ?_;refine av (.int .i64 0) ?_;refine aT (aQ (kx (Gw 24 (aR (aZ ?_)))));refine av (.bool af) ?_;refine aT (aQ (aR (wR ?_)));refine kQ (aQ (aR (kx (aR (aZ ?_)))));refine av (.int .i64 0) ?_;refine av (.int .i64 0) ?_;refine aT (aQ (aZ ?_));refine av (.int .u64 0) ?_;refine av (.int .u64 0) ?_;refine dh ?_;refine av (.int .i64 0) ?_;refine sR (e:=5) b o 0 1 1 c .i64 0 oM oM oM ?_;refine vz b o 1 (o+0*1) 0 f (St.mP S0 hB sP) oM oM ?_;have zh1:=hf 0;refine l6 .u64 (f 0) (wM _ oM) ?_;refine nj (.int .u64 (bits .or .u64 0 (f 0))) (.int .u64 (f 0)) (congrArg _ (T6 (f 0) oM)) ?_;refine av (.int .u64 (f 0)) ?_;refine aT (mH (aQ (aZ ?_)));refine av (.int .i64 1) ?_;refine av (.int .i64 1) ?_;refine aT (wQ (aR (aZ ?_)));refine av (.bool ag) ?_;refine aT (aQ (aR (qT ?_)));refine wp_exit (mG (mG (wP (aQ (aR (aZ ?_))))));refine av (.int .u64 (f 0)) ?_;refine av (.int .u64 (f 0)) ?_;refine av (.int .i64 0) ?_;refine aT (aQ (gC ?_));refine gD rfl (fR [.tmp 2,.tmp 3] [.int .u64 (f 0),.int .i64 0] (.tuple #[.int .u64 (f 0),.int .i64 0]) ⟨jw,jw,trivial⟩) ?_;exact⟨rfl,S0.ch⟩
def acy (b o c:Nat) (f:Nat->Int) (hf:By f) (w:aj) (hB:cA w b o 2 f):
 aX prog 238 #[.slice (aa ⟨b,o,ae⟩) 2 c] w λv w1=>v=.tuple #[.int .u64 (ir f),.int .i64 0]/\Ch [] w w1:=by
 have S0:=St.nil [] w;refine iZ Tryz.func238 rfl ?_;refine aR (aZ ?_);refine av (.int .u64 0) ?_;refine av (.int .i64 0) ?_;refine aT (aQ (aR (aR (aZ ?_))));refine dh ?_;refine av (.int .i64 2) ?_;refine av (.bool ag) ?_;refine aT (aQ (qT ?_));refine kQ (aQ (aR (aZ ?_)));refine av (.int .u64 0) ?_;refine aT (aQ (aR (aR (aZ ?_))));refine dh ?_;refine av (.int .i64 2) ?_;refine av (.int .i64 0) ?_;refine aT (aQ (kx (Gw 24 (aR (aZ ?_)))));refine av (.bool af) ?_;refine aT (aQ (aR (wR ?_)));refine kQ (aQ (aR (kx (aR (aZ ?_)))));refine av (.int .i64 0) ?_;refine av (.int .i64 0) ?_;refine aT (aQ (aZ ?_));refine av (.int .u64 0) ?_;refine av (.int .u64 0) ?_;refine dh ?_;refine av (.int .i64 0) ?_;refine sR (e:=5) b o 0 2 1 c .i64 0 oM oM oM ?_;refine vz b o 2 (o+0*1) 0 f (St.mP S0 hB sP) oM oM ?_;have zh1:=hf 0;refine l6 .u64 (f 0) (wM _ oM) ?_;refine nj (.int .u64 (bits .or .u64 0 (f 0))) (.int .u64 (f 0)) (congrArg _ (T6 (f 0) oM)) ?_;refine av (.int .u64 (f 0)) ?_;refine aT (mH (aQ (aZ ?_)));refine av (.int .i64 1) ?_;refine av (.int .i64 1) ?_;refine aT (wQ (aR (aZ ?_)));refine av (.bool af) ?_;refine aT (aQ (aR (wR ?_)));refine kQ (aQ (aR (kx (aR (aZ ?_)))));refine av (.int .i64 1) ?_;refine av (.int .i64 1) ?_;refine aT (aQ (aZ ?_));refine av (.int .u64 (f 0)) ?_;refine av (.int .u64 (u64.wrap ((f 0)*2^8))) ?_;refine dh ?_;refine av (.int .i64 1) ?_;refine sR (e:=5) b o 1 2 1 c .i64 1 oM oM oM ?_;refine vz b o 2 (o+1*1) 1 f (St.mP S0 hB sP) oM oM ?_;have T7:=hf 1;refine l6 .u64 (f 1) (wM _ oM) ?_;refine nj (.int .u64 (bits .or .u64 (u64.wrap ((f 0)*2^8)) (f 1))) (.int .u64 ((f 0)*256+(f 1))) (congrArg _ (Iq (f 0) (f 1) oM oM)) ?_;refine fp ?_;refine aT (mH (aQ (aZ ?_)));refine av (.int .i64 2) ?_;refine av (.int .i64 2) ?_;refine aT (wQ (aR (aZ ?_)));refine av (.bool ag) ?_;refine aT (aQ (aR (qT ?_)));refine wp_exit (mG (mG (wP (aQ (aR (aZ ?_))))));refine dh ?_;refine fp ?_;refine av (.int .i64 0) ?_;refine aT (aQ (gC ?_));refine gD rfl (fR [.tmp 2,.tmp 3] [.int .u64 ((f 0)*256+(f 1)),.int .i64 0] (.tuple #[.int .u64 ((f 0)*256+(f 1)),.int .i64 0]) ⟨jw,jw,trivial⟩) ?_;exact⟨rfl,S0.ch⟩
def amU (b o c:Nat) (f:Nat->Int) (hf:By f) (w:aj) (hB:cA w b o 4 f):
 aX prog 238 #[.slice (aa ⟨b,o,ae⟩) 4 c] w λv w1=>v=.tuple #[.int .u64 (CB f),.int .i64 0]/\Ch [] w w1:=by
 have S0:=St.nil [] w;refine iZ Tryz.func238 rfl ?_;refine aR (aZ ?_);refine av (.int .u64 0) ?_;refine av (.int .i64 0) ?_;refine aT (aQ (aR (aR (aZ ?_))));refine dh ?_;refine av (.int .i64 4) ?_;refine av (.bool ag) ?_;refine aT (aQ (qT ?_));refine kQ (aQ (aR (aZ ?_)));refine av (.int .u64 0) ?_;refine aT (aQ (aR (aR (aZ ?_))));refine dh ?_;refine av (.int .i64 4) ?_;refine av (.int .i64 0) ?_;refine aT (aQ (kx (Gw 24 (aR (aZ ?_)))));refine av (.bool af) ?_;refine aT (aQ (aR (wR ?_)));refine kQ (aQ (aR (kx (aR (aZ ?_)))));refine av (.int .i64 0) ?_;refine av (.int .i64 0) ?_;refine aT (aQ (aZ ?_));refine av (.int .u64 0) ?_;refine av (.int .u64 0) ?_;refine dh ?_;refine av (.int .i64 0) ?_;refine sR (e:=5) b o 0 4 1 c .i64 0 oM oM oM ?_;refine vz b o 4 (o+0*1) 0 f (St.mP S0 hB sP) oM oM ?_;have zh1:=hf 0;refine l6 .u64 (f 0) (wM _ oM) ?_;refine nj (.int .u64 (bits .or .u64 0 (f 0))) (.int .u64 (f 0)) (congrArg _ (T6 (f 0) oM)) ?_;refine av (.int .u64 (f 0)) ?_;refine aT (mH (aQ (aZ ?_)));refine av (.int .i64 1) ?_;refine av (.int .i64 1) ?_;refine aT (wQ (aR (aZ ?_)));refine av (.bool af) ?_;refine aT (aQ (aR (wR ?_)));refine kQ (aQ (aR (kx (aR (aZ ?_)))));refine av (.int .i64 1) ?_;refine av (.int .i64 1) ?_;refine aT (aQ (aZ ?_));refine av (.int .u64 (f 0)) ?_;refine av (.int .u64 (u64.wrap ((f 0)*2^8))) ?_;refine dh ?_;refine av (.int .i64 1) ?_;refine sR (e:=5) b o 1 4 1 c .i64 1 oM oM oM ?_;refine vz b o 4 (o+1*1) 1 f (St.mP S0 hB sP) oM oM ?_;have T7:=hf 1;refine l6 .u64 (f 1) (wM _ oM) ?_;refine nj (.int .u64 (bits .or .u64 (u64.wrap ((f 0)*2^8)) (f 1))) (.int .u64 ((f 0)*256+(f 1))) (congrArg _ (Iq (f 0) (f 1) oM oM)) ?_;refine fp ?_;refine aT (mH (aQ (aZ ?_)));refine av (.int .i64 2) ?_;refine av (.int .i64 2) ?_;refine aT (wQ (aR (aZ ?_)));refine av (.bool af) ?_;refine aT (aQ (aR (wR ?_)));refine kQ (aQ (aR (kx (aR (aZ ?_)))));refine av (.int .i64 2) ?_;refine av (.int .i64 2) ?_;refine aT (aQ (aZ ?_));refine dh ?_;refine av (.int .u64 (u64.wrap (((f 0)*256+(f 1))*2^8))) ?_;refine dh ?_;refine av (.int .i64 2) ?_;refine sR (e:=5) b o 2 4 1 c .i64 2 oM oM oM ?_;refine vz b o 4 (o+2*1) 2 f (St.mP S0 hB sP) oM oM ?_;have zh3:=hf 2;refine l6 .u64 (f 2) (wM _ oM) ?_;refine nj (.int .u64 (bits .or .u64 (u64.wrap (((f 0)*256+(f 1))*2^8)) (f 2))) (.int .u64 (((f 0)*256+(f 1))*256+(f 2))) (congrArg _ (Iq ((f 0)*256+(f 1)) (f 2) oM oM)) ?_;refine fp ?_;refine aT (mH (aQ (aZ ?_)));refine av (.int .i64 3) ?_;refine av (.int .i64 3) ?_;refine aT (wQ (aR (aZ ?_)));refine av (.bool af) ?_;refine aT (aQ (aR (wR ?_)));refine kQ (aQ (aR (kx (aR (aZ ?_)))));refine av (.int .i64 3) ?_;refine av (.int .i64 3) ?_;refine aT (aQ (aZ ?_));refine dh ?_;refine av (.int .u64 (u64.wrap ((((f 0)*256+(f 1))*256+(f 2))*2^8))) ?_;refine dh ?_;refine av (.int .i64 3) ?_;refine sR (e:=5) b o 3 4 1 c .i64 3 oM oM oM ?_;refine vz b o 4 (o+3*1) 3 f (St.mP S0 hB sP) oM oM ?_;have Sj:=hf 3;refine l6 .u64 (f 3) (wM _ oM) ?_;refine nj (.int .u64 (bits .or .u64 (u64.wrap ((((f 0)*256+(f 1))*256+(f 2))*2^8)) (f 3))) (.int .u64 ((((f 0)*256+(f 1))*256+(f 2))*256+(f 3))) (congrArg _ (Iq (((f 0)*256+(f 1))*256+(f 2)) (f 3) oM oM)) ?_;refine fp ?_;refine aT (mH (aQ (aZ ?_)));refine av (.int .i64 4) ?_;refine av (.int .i64 4) ?_;refine aT (wQ (aR (aZ ?_)));refine av (.bool ag) ?_;refine aT (aQ (aR (qT ?_)));refine wp_exit (mG (mG (wP (aQ (aR (aZ ?_))))));refine dh ?_;refine fp ?_;refine av (.int .i64 0) ?_;refine aT (aQ (gC ?_));refine gD rfl (fR [.tmp 2,.tmp 3] [.int .u64 ((((f 0)*256+(f 1))*256+(f 2))*256+(f 3)),.int .i64 0] (.tuple #[.int .u64 ((((f 0)*256+(f 1))*256+(f 2))*256+(f 3)),.int .i64 0]) ⟨jw,jw,trivial⟩) ?_;exact⟨rfl,S0.ch⟩
def amV (b o c:Nat) (f:Nat->Int) (hf:By f) (w:aj) (hB:cA w b o 2 f):
 aX prog 237 #[.slice (aa ⟨b,o,ae⟩) 2 c] w λv w1=>v=.tuple #[.int .i64 (Aw (ir f)),.int .i64 0]/\Ch [] w w1:=by
 have S0:=St.nil [] w;refine iZ Tryz.func237 rfl ?_;refine aR (aZ ?_);refine av (.int .i64 0) ?_;refine av (.int .i64 0) ?_;refine aT (aQ (aR (aR (aZ ?_))));refine dh ?_;refine av (.int .i64 2) ?_;refine av (.bool ag) ?_;refine aT (aQ (qT ?_));refine kQ (aQ (aR (aZ ?_)));refine dh ?_;refine fY 238 #[.slice (aa ⟨b,o,ae⟩) 2 c] ?_;refine(acy b o c f hf _ (St.mP S0 hB sP)).mono ?_;rintro _ zw1 ⟨rfl,T7⟩;have dV:=S0.quiet T7;have Sj:=acx hf;refine dh ?_;refine av (.int .u64 (ir f)) ?_;refine av (.int .i64 0) ?_;refine av (.int .u64 (ir f)) ?_;refine av (.int .i64 0) ?_;refine aT (aQ (aR (aR (aZ ?_))));refine av (.int .i64 0) ?_;refine av (.bool ag) ?_;refine aT (aQ (qT ?_));refine kQ (aQ (aR (aZ ?_)));refine av (.int .u64 (ir f)) ?_;refine l6 .i64 (ir f) (Bj _ oM) ?_;refine av (.int .i64 (ir f)) ?_;refine aT (aQ (aR (aR (aZ ?_))));refine av (.int .i64 (ir f)) ?_;refine av (.bool (decide (32767<(ir f)))) ?_;refine aT (aQ ?_);refine pT (decide (32767<(ir f))) ?_ ?_
 ·intro HJ;have zh6:=Bu HJ;refine aZ ?_;refine av (.int .i64 (ir f)) ?_;refine l6 .i64 ((ir f)-65536) (Bj _ oM) ?_;refine fp ?_;refine aT (aQ (aR (aZ ?_)));refine dh ?_;refine fp ?_;refine av (.int .i64 0) ?_;refine aT (aQ (gC ?_));refine gD rfl (fR [.tmp 2,.tmp 3] [.int .i64 ((ir f)-65536),.int .i64 0] (.tuple #[.int .i64 ((ir f)-65536),.int .i64 0]) ⟨jw,jw,trivial⟩) ?_;have ze:Aw (ir f)=((ir f)-65536):=by unfold Aw;split<;>omega
  exact⟨by(rw[ze])<;>rfl,dV.ch⟩
 intro xP;have qh:=Bv xP;refine kQ (aQ (aR (aZ ?_)));refine av (.int .i64 (ir f)) ?_;refine av (.int .i64 (ir f)) ?_;refine av (.int .i64 0) ?_;refine aT (aQ (gC ?_));refine gD rfl (fR [.tmp 2,.tmp 3] [.int .i64 (ir f),.int .i64 0] (.tuple #[.int .i64 (ir f),.int .i64 0]) ⟨jw,jw,trivial⟩) ?_;have ze:Aw (ir f)=(ir f):=by unfold Aw;split<;>omega
 exact⟨by(rw[ze])<;>rfl,dV.ch⟩
end
end Go.Proofs.YtddcipamdggcnaaGreatDoor
