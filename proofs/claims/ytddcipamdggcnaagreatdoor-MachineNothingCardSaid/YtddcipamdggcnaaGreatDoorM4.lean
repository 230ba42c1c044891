/- Part 4 of the proof. -/
import Derived.Test.YtddcipamdggcnaaGreatDoorRows
import Derived.Test.YtddcipamdggcnaaGreatDoorM3
set_option linter.all false
set_option maxRecDepth 100000
set_option maxHeartbeats 4000000
noncomputable section
open Go.Proofs.Tryz
open Go.IntKind (u8 u16 u32 u64 i64)
open BitVec renaming ofInt->pP
open Bool renaming true->af,false->ag,and_eq_true->bD
open Go renaming Addr->aI,TypeId->aM,Value->ai,World->aj,Operand->bg,FuncId->fl,MapEntry->wH
open Go.Instr renaming findNow->PN
open Go.IntKind renaming wrap_i64->agj,bits->vj,signed->vm,wrap->zo
open Go.Result renaming andThen_ok->ct
open Go.Sem renaming run_bind->bz,run_pure->cZ
open Go.Value renaming int->fI,slice->wN
open Int renaming le_trans->DE
open List renaming mem_filter->A_,foldl_cons->Bh,length_map->Gs,length_filter_le->KH,getElem?_set_ne->Ko,append_assoc->bW,range->bo,mem_cons->cF,append_nil->cT,mem_append->eI,length_append->fL,nil_append->fQ,cons_append->fm,map_cons->gb,getD->gd,getElem?_append_left->gm,take_append_drop->jH,getElem?_map->jW,getElem?_toArray->jX,mem_singleton->jZ,length_cons->jf,sublist_append_right->kG,perm_middle->kH,map_map->l5,eq_nil_of_length_eq_zero->lz,mem_map->n8,replicate->n_,map_congr_left->ni,getElem?_range->pQ,perm_append_comm_assoc->qR,singleton_append->wJ,ext_getElem?->zv
open List.Perm renaming append_left->j4,cons->vh,trans->wK
open List.Sublist renaming trans->agk,append_left->mD,cons_cons->wL
open List.cons renaming inj->wI
open Nat renaming beq->aA,and_two_pow_sub_one_eq_mod->af8,ble->bZ,lt_or_ge->c9,le_refl->cY,eq_of_beq_eq_true->ck,zero_add->dS,blt->db,blt_eq->jt,eq_zero_or_pos->tU
open Option renaming some->aa,none->ae
open Option.some renaming injEq->aW,inj->cG
open Prod.mk renaming inj->DF,injEq->bC
namespace Go.Proofs.YtddcipamdggcnaaGreatDoor
section
open Go Go.RowKit Go.BigFrame Sx Vx
def Fi:List (bK Empty):=⟨160,ag,Vu⟩::qL Empty LTk
def lq (n e:Nat) (f:Nat->Int) (t:List ai) (X:V->Prop):Prop:=br (s9 prog mV Fi) 90 120 [.sl 0 0 n (e+n)] [⟨ag,⟨5,(0,0)⟩,[.cv .u8 n f,.rest t]⟩] [] λv _ _=>X v
section
variable(e:Nat) (f:Nat->Int) (t:List ai) (X:V->Prop)
def apZ:lq 0 e f t X=X pB:=kR
def ap0:lq 1 e f t X=lS 1 f X:=kR
def ap1:lq 2 e f t X=lS 2 f X:=kR
def ap2:lq 3 e f t X=lS 3 f X:=kR
def ap3:lq 4 e f t X=lS 4 f X:=kR
def ap4:lq 5 e f t X=lS 5 f X:=kR
def ap5:lq 6 e f t X=lS 6 f X:=kR
def ap6:lq 7 e f t X=lS 7 f X:=kR
def ap7:lq 8 e f t X=lS 8 f X:=kR
def ap_:lq 9 e f t X=lS 9 f X:=kR
def aqa:lq 10 e f t X=lS 10 f X:=kR
def aqb:lq 11 e f t X=lS 11 f X:=kR
def aqc:lq 12 e f t X=lS 12 f X:=kR
def aqd:lq 13 e f t X=lS 13 f X:=kR
def aqe:lq 14 e f t X=lS 14 f X:=kR
def aqf:lq 15 e f t X=lS 15 f X:=kR
def aqg:lq 16 e f t X=lS 16 f X:=kR
def aqh (m:Nat):lq (m+17) e f t X=lS (m+17) f X:=kR
end
def Fd.num (d:Fd) (g:Nat->Int):Int:=bif d.sg then Aw (ir g)else bif aA d.sz 1 then E1 g else bif aA d.sz 2 then ir g else CB g
def Fd.set (d:Fd) (v:Int) (m:Sd.bQ):Sd.bQ:=match d.at_ with
 |1=>{m with seq:=v}|2=>{m with role:=v}|3=>{m with bh:=v}|4=>{m with an:=v}|5=>{m with mode:=v}|6=>{m with cls:=v}|7=>{m with now:=v==1}
 |8=>{m with x:=⟨v,m.x.b,m.x.c,m.x.d⟩}|9=>{m with x:=⟨m.x.a,v,m.x.c,m.x.d⟩}|10=>{m with x:=⟨m.x.a,m.x.b,v,m.x.d⟩}|11=>{m with x:=⟨m.x.a,m.x.b,m.x.c,v⟩}|_=>m
def uV (k:Int):Option (List Fd):=
 if k=1\/k=2 then aa [CD]else if k=3\/k=4\/k=8\/k=9 then aa [jS]else if k=5 then aa [jS,E7]else if k=6 then aa [jS,E5]else if k=7 then aa [jS,rN]else if k=10 then aa [jS,rN,E6]
 else if k=11 then aa [jS,rN,vY,fX 0,fX 1,fX 2,fX 3]else ae
def runM (n:Nat) (f:Nat->Int):List Fd->Nat->Sd.bQ->Option Sd.bQ
 |[],off,m=>if n-off=0 then aa m else ae
 |d::l,off,m=>if n-off<d.sz then ae else if d.num (λj=>f (off+j))<d.low\/d.high<d.num (λj=>f (off+j))then ae else runM n f l (off+d.sz) (d.set (d.num (λj=>f (off+j))) m)
def aY (n:Nat) (f:Nat->Int):Option Sd.bQ:=if n=0 then ae else match uV (f 0)with
 |some l=>runM n f l 1 (Sd.w_ (f 0))
 |none=>ae
def rY (d:Fd):Prop:=(d.sg=af->d.sz=2)/\∀v m,ma (dg m) d.at_ (bif d.b then .bool (v==1)else .int .i64 v)=dg (d.set v m)
def pH {x:Int} (h:-9223372036854775808<=x/\x<=9223372036854775807):i64.wrap x=x:=by simp[zo,vj,vm];omega
def By.at {f:Nat->Int} (h:By f) (o:Nat):By λj=>f (o+j):=λj=>h (o+j)
def ade (d:Fd) {g:Nat->Int} (h:By g):d.val g=d.num g:=by
 have h1:=amR h;have h2:=acx h;have h4:=amS h
 unfold Fd.val Fd.num;cases d.sg<;>cases aA d.sz 1<;>cases aA d.sz 2<;>simp only[cond_true,cond_false]<;>first|rfl|(apply pH;omega)
def adf {n:Nat} {f:Nat->Int} (hf:By f) {X:V->Prop}:∀(l:List Fd) (off:Nat) (m:Sd.bQ),(∀d∈l,rY d)->(∀r,runM n f l off m=aa r->X (.ay [.agg (dg r),.int .i64 0]))->(runM n f l off m=ae->X pB)->E4 n f X l off (dg m)
 |[],off,m,_,h1,h2=>by
  unfold E4;unfold runM at h1 h2;by_cases h:n-off=0
  ·rw[if_pos h]at h1;rw[h];exact h1 m rfl
  ·rw[if_neg h]at h2;have:aA (n-off) 0=ag:=by
    cases hb:aA (n-off) 0 with
    |true=>exact absurd (ck hb) h
    |false=>rfl
   rw[this];exact h2 rfl
 |d::l,off,m,hd,h1,h2=>by
  unfold E4;unfold runM at h1 h2;have hb:=hf.at off;by_cases h:n-off<d.sz
  ·rw[if_pos h]at h2;have:db (n-off) d.sz=af:=by rw[jt];exact h
   rw[this];exact h2 rfl
  ·rw[if_neg h]at h1 h2;have:db (n-off) d.sz=ag:=by
    cases hb:db (n-off) d.sz with
    |true=>rw[jt]at hb;exact absurd hb h
    |false=>rfl
   rw[this,ade d hb];refine⟨hb,aJ (λe=>?_) (λe=>aJ (λe2=>?_) (λe2=>?_))⟩
   ·have e:=of_decide_eq_true e;rw[if_pos (.inl e)]at h2;exact h2 rfl
   ·have e2:=of_decide_eq_true e2;rw[if_pos (.inr e2)]at h2;exact h2 rfl
   ·have e:=of_decide_eq_false e;have e2:=of_decide_eq_false e2;have hn:¬(d.num (λj=>f (off+j))<d.low\/d.high<d.num (λj=>f (off+j))):=oM;rw[if_neg hn]at h1 h2;have:d.up (λj=>f (off+j)) (dg m)=dg (d.set (d.num (λj=>f (off+j))) m):=by
     unfold Fd.up;rw[ade d hb];exact(hd d sP).2 _ _
    rw[this];exact adf hf l (off+d.sz) _ (λx hx=>hd x (by simp[hx])) h1 h2
def aqi {k:Int} {l:List Fd} (h:uV k=aa l):∀d∈l,rY d:=by
 have a1:rY CD:=⟨dC,λv m=>rfl⟩;have a2:rY jS:=⟨dC,λv m=>rfl⟩;have a3:rY E7:=⟨dC,λv m=>rfl⟩;have a4:rY E5:=⟨dC,λv m=>rfl⟩;have a5:rY rN:=⟨dC,λv m=>rfl⟩;have a6:rY E6:=⟨dC,λv m=>rfl⟩;have a7:rY vY:=⟨dC,λv m=>rfl⟩;have b0:rY (fX 0):=⟨dC,λv m=>rfl⟩;have b1:rY (fX 1):=⟨dC,λv m=>rfl⟩;have b2:rY (fX 2):=⟨dC,λv m=>rfl⟩;have b3:rY (fX 3):=⟨dC,λv m=>rfl⟩;unfold uV at h
 repeat' split at h
 all_goals first|(cases h;done)|(obtain rfl:=cG h;intro d hd;simp at hd;rcases hd with rfl|rfl|rfl|rfl|rfl|rfl|rfl<;>assumption)|(obtain rfl:=cG h;intro d hd;simp at hd;rcases hd with rfl|rfl|rfl<;>assumption)|(obtain rfl:=cG h;intro d hd;simp at hd;rcases hd with rfl|rfl<;>assumption)|(obtain rfl:=cG h;intro d hd;simp at hd;subst hd;assumption)
def aqj {n:Nat} {f:Nat->Int} (hf:By f) (hn:n≠0) {X:V->Prop} (h1:∀r,aY n f=aa r->X (.ay [.agg (dg r),.int .i64 0])) (h2:aY n f=ae->X pB):lS n f X:=by
 have hk:rO f=f 0:=pH (by have:=hf 0;omega);have hm:m0 f=dg (Sd.w_ (f 0)):=by unfold m0;rw[hk];rfl
 unfold lS;rw[hk,hm];unfold aY at h1 h2;rw[if_neg hn]at h1 h2;have T:∀l,uV (f 0)=aa l->E4 n f X l 1 (dg (Sd.w_ (f 0))):=by
  intro l hl;rw[hl]at h1 h2;exact adf hf l 1 _ (aqi hl) h1 h2
 have eq:∀{k:Int},(f 0==k)=af->f 0=k:=λh=>by simpa using h
 have ne:∀{k:Int},(f 0==k)=ag->f 0≠k:=λh=>by simpa using h
 refine aJ (λe=>T _ (by rw[eq e];rfl)) (λe1=>aJ (λe=>T _ (by rw[eq e];rfl)) (λe2=>aJ (λe=>T _ (by rw[eq e];rfl)) (λe3=>aJ (λe=>T _ (by rw[eq e];rfl)) (λe4=>aJ (λe=>T _ (by rw[eq e];rfl)) (λe5=>aJ (λe=>T _ (by rw[eq e];rfl)) (λe6=>
  aJ (λe=>T _ (by rw[eq e];rfl)) (λe7=>aJ (λe=>T _ (by rw[eq e];rfl)) (λe8=>aJ (λe=>T _ (by rw[eq e];rfl)) (λe9=>aJ (λe=>T _ (by rw[eq e];rfl)) (λVv=>aJ (λe c u hc=>T _ (by rw[eq e];rfl)) (λe11=>?_)))))))))))
 refine h2 ?_;have:=ne e1;have:=ne e2;have:=ne e3;have:=ne e4;have:=ne e5;have:=ne e6;have:=ne e7;have:=ne e8;have:=ne e9;have:=ne Vv;have:=ne e11
 have:uV (f 0)=ae:=by unfold uV;repeat' (rw[if_neg oM])
 rw[this]
def aqk (P Q:Nat->Prop) (Z:Prop) (h0:P 0=Z) (h1:P 1=Q 1) (h2:P 2=Q 2) (h3:P 3=Q 3) (h4:P 4=Q 4) (h5:P 5=Q 5) (h6:P 6=Q 6) (h7:P 7=Q 7) (h8:P 8=Q 8) (h9:P 9=Q 9) (mu:P 10=Q 10) (nV:P 11=Q 11) (h12:P 12=Q 12) (Vw:P 13=Q 13) (IS:P 14=Q 14) (Fj:P 15=Q 15) (Vy:P 16=Q 16) (h17:∀m,P (m+17)=Q (m+17)) (n:Nat):(n=0/\P n=Z)\/(n≠0/\P n=Q n):=by
 rcases c9 n 17 with h|h
 ·have h:n=0\/n=1\/n=2\/n=3\/n=4\/n=5\/n=6\/n=7\/n=8\/n=9\/n=10\/n=11\/n=12\/n=13\/n=14\/n=15\/n=16:=oM;rcases h with rfl|rfl|rfl|rfl|rfl|rfl|rfl|rfl|rfl|rfl|rfl|rfl|rfl|rfl|rfl|rfl|rfl
  ·exact .inl ⟨rfl,h0⟩
  ·exact .inr ⟨dC,h1⟩
  ·exact .inr ⟨dC,h2⟩
  ·exact .inr ⟨dC,h3⟩
  ·exact .inr ⟨dC,h4⟩
  ·exact .inr ⟨dC,h5⟩
  ·exact .inr ⟨dC,h6⟩
  ·exact .inr ⟨dC,h7⟩
  ·exact .inr ⟨dC,h8⟩
  ·exact .inr ⟨dC,h9⟩
  ·exact .inr ⟨dC,mu⟩
  ·exact .inr ⟨dC,nV⟩
  ·exact .inr ⟨dC,h12⟩
  ·exact .inr ⟨dC,Vw⟩
  ·exact .inr ⟨dC,IS⟩
  ·exact .inr ⟨dC,Fj⟩
  ·exact .inr ⟨dC,Vy⟩
 ·obtain⟨m,rfl⟩:∃m,n=m+17:=⟨n-17,oM⟩;exact .inr ⟨oM,h17 m⟩
def aql (e:Nat) {f:Nat->Int} (hf:By f) (t:List ai) {X:V->Prop} (n:Nat) (h1:∀r,aY n f=aa r->X (.ay [.agg (dg r),.int .i64 0])) (h2:aY n f=ae->X pB):lq n e f t X:=by
 rcases aqk (λn=>lq n e f t X) (λn=>lS n f X) (X pB) (apZ e f t X) (ap0 e f t X) (ap1 e f t X) (ap2 e f t X) (ap3 e f t X) (ap4 e f t X) (ap5 e f t X) (ap6 e f t X) (ap7 e f t X) (ap_ e f t X) (aqa e f t X) (aqb e f t X) (aqc e f t X) (aqd e f t X) (aqe e f t X) (aqf e f t X) (aqg e f t X) (aqh e f t X) n with⟨h0,h⟩|⟨h0,h⟩
 ·exact Eq.mpr h (h2 (by rw[h0];rfl))
 ·exact Eq.mpr h (aqj hf h0 h1 h2)
def pI (n:Nat) (f:Nat->Int):V:=match aY n f with
 |some r=>.ay [.agg (dg r),.int .i64 0]
 |none=>pB
def ND:aH prog mV Fi:=aH.cons ⟨apY mV,λe=>by cases e⟩ (kA (bP.cons (anp mV) (bP.cons (anq mV) bP.nil)))
def aqm (b n c:Nat) (f:Nat->Int) (t:List ai) (hf:By f) (hc:n<=c) (w:aj) (hB:w.heap[b]?=aa (.cells ((bo n).map (λj=>fI .u8 (f j))++t).toArray 5 (0,0))):
 aX prog 120 #[.slice (aa ⟨b,0,ae⟩) n c] w λv w1=>v=den [] (pI n f)/\Ch [] w w1:=by
 obtain⟨e,rfl⟩:∃e,c=e+n:=⟨c-n,oM⟩;have cV:lq n e f t (λv=>v=pI n f):=aql e hf t n (λr h=>by unfold pI;rw[h]) (λh=>by unfold pI;rw[h]);have S0:=St.given (w:=w) [(b,.cells ((bo n).map (λj=>fI .u8 (f j))++t).toArray 5 (0,0))] (all_cons hB all_nil);have S1:St [] w (lits [b] [b] [⟨ag,⟨5,(0,0)⟩,[.cv .u8 n f,.rest t]⟩]++au ([]:List Empty) []) w:=by
  simpa[lits,aC,ak,cl,au]using S0
 refine(eZ ND.TS ND.QS 90 (C:=s9 prog mV Fi) (args:=[.sl 0 0 n (e+n)]) (λg i h=>by cases h) rfl S1 cV).mono ?_;rintro v w' ⟨x,more,bl',ch',rfl,pD,S2,rfl⟩;refine⟨?_,S2.ch⟩;have hw:da 0 (pI n f)=af:=by unfold pI;split<;>rfl
 have:=g_ (ids:=[]) (more:=[b]++more) (pI n f) hw;simpa using this
variable{fr:Sd.aO->Nat×Sd.ax}
def qo (s:Sd.ah) (E:Sd.aN):Sd.ah:={s with c:={s.c with doors:=r3 (s.c.doors 0) (s.c.doors 1) (s.c.doors 2) s.c.doors,aq:=⟨E.de,r3 (E.az 0) (E.az 1) (E.az 2) s.c.aq.az⟩}}
def kD (s:Sd.ah) (t:Sd.aN):Sd.ah:={s with c:={s.c with aq:=t}}
def IT {s:Sd.ah} {E t:Sd.aN} (h1:E.de=t.de) (h2:∀j,j<3->E.az j=t.az j) (h3:∀j,t.az (j+3)=s.c.aq.az (j+3)):qo s E=kD s t:=by
 unfold qo kD;rw[Nd,h1];have e:r3 (E.az 0) (E.az 1) (E.az 2) s.c.aq.az=t.az:=by
  funext j
  match j with
  |0=>exact h2 0 dC
  |1=>exact h2 1 dC
  |2=>exact h2 2 dC
  |j+3=>exact(h3 j).symm
 rw[e]
def aqn (s:Sd.ah) (l:Int):qo s ((dX s.c.aq).end_ l)=kD s (s.c.aq.end_ l):=by
 have key:∀l:Int,l=1\/l=2\/l=3->(s.c.aq.iC l=af)->qo s ((dX s.c.aq).gO (l.toNat-1) .zero)=kD s (s.c.aq.gO (l.toNat-1) .zero):=by
  intro l hl jR;refine IT rfl ?_ ?_
  ·intro j hj;have:j=0\/j=1\/j=2:=oM;rcases hl with rfl|rfl|rfl<;>rcases this with rfl|rfl|rfl<;>rfl
  ·intro j;rcases hl with rfl|rfl|rfl<;>rfl
 unfold Sd.aN.end_;rw[IJ];by_cases h:s.c.aq.iC l=af
 ·rw[if_pos h,if_pos h];refine key l ?_ h;unfold Sd.aN.iC at h;simp only[bD,decide_eq_true_eq]at h;omega
 ·rw[if_neg h,if_neg h];refine IT rfl ?_ (λj=>rfl);intro j hj;have:j=0\/j=1\/j=2:=oM;rcases this with rfl|rfl|rfl<;>rfl
section
variable(C:Sd.aL) (k:LK) (s:Sd.ah) (F:ba fr (a9 k s)) (Kb:SK fr k)
def aqo (l:Int) (m:Sd.bQ):br (bM prog gS (L5 fr C)) 60 131 [.ptr 2 0,.int .i64 l,.agg (dg m)] (bI k s F) [a_ k s F] (cM k s Kb)
 =(True/\cq k s F/\uR C [.int .i64 l] k (qo s ((dX s.c.aq).end_ l)) F λv s2 F2=>cq k s2 F2/\iS C [.int .i64 4,.int .i64 l,.int .i64 m.seq,.int .i64 0,.int .i64 0] k (bO s2) F2 λv s3 F3=>
  cq k s3 F3/\oE [.int .i64 l,.int .i64 m.seq] k (bO s3) F3 λv s' F'=>cM k s Kb (.ay []) (bI k s' F'++[⟨af,⟨204,(0,0)⟩,dg m⟩]) [a_ k s' F']):=kR
abbrev gJ (s:Sd.ah) (l:Int) (m:Sd.bQ):Int:=Sd.oq s.c.p s.c.t l ((dX s.c.aq).role l) s.c.mode m
def Vz (s:Sd.ah) (l:Int) (m:Sd.bQ):Sd.ah:={s with c:={s.c with mode:=m.mode,gF:=⟨1,l,m.seq⟩}}
def CY (s:Sd.ah) (c:Int) (x:Sd.X4) (b:Sd.Label):Sd.ah:={s with c:={s.c with pt:=s.c.pt.set s.c.p c x b}}
def aqp (l:Int) (m:Sd.bQ):br (bM prog gS (L5 fr C)) 60 137 [.ptr 2 0,.int .i64 l,.agg (dg m)] (bI k s F) [a_ k s F] (cM k s Kb)
 =(True/\((m.kind=10\/m.kind=11)/\(gK k).c=(gK k).c)/\cond (gJ s l m !=0)
  (cq k s F/\m6 C [.int .i64 l,.int .i64 m.seq,.int .i64 (gJ s l m)] k (bO s) F λv s' F'=>cM k s Kb (.ay []) (bI k s' F'++[⟨af,⟨204,(0,0)⟩,dg m⟩]) [a_ k s' F'])
  (cond (m.kind==10)
   (cq k (Vz s l m) F/\iS C [.int .i64 6,.int .i64 l,.int .i64 m.seq,.int .i64 0,.int .i64 0] k (bO (Vz s l m)) F λv s3 F3=>cq k s3 F3/\oE [.int .i64 l,.int .i64 m.seq] k (bO s3) F3 λv s' F'=>cM k s Kb (.ay []) (bI k s' F'++[⟨af,⟨204,(0,0)⟩,dg m⟩,⟨af,⟨41,(0,0)⟩,nN ⟨1,l,m.seq⟩⟩]) [a_ k s' F'])
   (Sd.fF s.c.p/\cq k (CY s m.cls m.x ⟨1,l,m.seq⟩) F/\iS C [.int .i64 6,.int .i64 l,.int .i64 m.seq,.int .i64 0,.int .i64 0] k (bO (CY s m.cls m.x ⟨1,l,m.seq⟩)) F λv s3 F3=>cq k s3 F3/\oE [.int .i64 l,.int .i64 m.seq] k (bO s3) F3 λv s' F'=>cM k s Kb (.ay []) (bI k s' F'++[⟨af,⟨204,(0,0)⟩,dg m⟩,⟨af,⟨41,(0,0)⟩,nN ⟨1,l,m.seq⟩⟩]) [a_ k s' F']))):=kR
def aqq:br (bM prog gS (L5 fr C)) 60 98 [.ptr 2 0] (bI k s F) [a_ k s F] (cM k s Kb)
 =((vq k=vq k/\bV s.c.t.an)/\∀B (hB:QS k.bq k.most (Sd.dA s.c.t s.c.q 0).2.2 B),
  cond ((Sd.dA s.c.t s.c.q 0).2.1!=0) (cq k (cE s (Sd.dA s.c.t s.c.q 0).2.2) (F.cE (Sd.dA s.c.t s.c.q 0).2.2 B hB)/\iS C [.int .i64 7,.int .i64 0,.int .i64 s.c.samples,.int .i64 (Sd.dA s.c.t s.c.q 0).2.1,.int .i64 0] k (bO (cE s (Sd.dA s.c.t s.c.q 0).2.2)) (F.cE (Sd.dA s.c.t s.c.q 0).2.2 B hB) λv s' F'=>cM k s Kb (.ay []) (bI k s' F'++[⟨af,⟨121,(0,0)⟩,dm (Sd.dA s.c.t s.c.q 0).1⟩]) [a_ k s' F'])
  (cq k (cE s (Sd.dA s.c.t s.c.q 0).2.2) (F.cE (Sd.dA s.c.t s.c.q 0).2.2 B hB)/\rV C [.agg (dm (Sd.dA s.c.t s.c.q 0).1),.int .i64 2,.int .i64 s.c.samples] k (bO (cE s (Sd.dA s.c.t s.c.q 0).2.2)) (F.cE (Sd.dA s.c.t s.c.q 0).2.2 B hB) λv s' F'=>cM k s Kb (.ay []) (bI k s' F'++[⟨af,⟨121,(0,0)⟩,dm (Sd.dA s.c.t s.c.q 0).1⟩]) [a_ k s' F'])):=kR
def aqr:br (bM prog gS (L5 fr C)) 60 100 [.ptr 2 0] (bI k s F) [a_ k s F] (cM k s Kb)
 =(bV s.c.t.an/\cond ((s.c.t.dF 0).2!=0) (cq k s F/\iS C [.int .i64 7,.int .i64 0,.int .i64 s.c.samples,.int .i64 (s.c.t.dF 0).2,.int .i64 0] k (bO s) F λv s' F'=>cM k s Kb (.ay []) (bI k s' F'++[⟨af,⟨121,(0,0)⟩,dm (s.c.t.dF 0).1⟩]) [a_ k s' F'])
  (cq k s F/\rV C [.agg (dm (s.c.t.dF 0).1),.int .i64 4,.int .i64 s.c.samples] k (bO s) F λv s' F'=>cM k s Kb (.ay []) (bI k s' F'++[⟨af,⟨121,(0,0)⟩,dm (s.c.t.dF 0).1⟩]) [a_ k s' F'])):=kR
def Fk (s:Sd.ah):Sd.bQ:=⟨11,0,0,0,s.c.t.an,0,1,ag,⟨0,0,0,0⟩⟩
def aqs (x:Sd.ft):br (bM prog gS (L5 fr C)) 60 99 [.ptr 2 0,.agg (ql x)] (bI k s F) [a_ k s F] (cM k s Kb)
 =((((11:Int)=10\/(11:Int)=11)/\(gK k).c=(gK k).c)/\cond (Sd.oq s.c.p s.c.t 0 0 s.c.mode (Fk s)!=0)
  (cq k s F/\iS C [.int .i64 7,.int .i64 0,.int .i64 s.c.samples,.int .i64 (Sd.oq s.c.p s.c.t 0 0 s.c.mode (Fk s)),.int .i64 0] k (bO s) F λv s' F'=>cM k s Kb (.ay []) (bI k s' F'++[⟨af,⟨36,(0,0)⟩,ql x⟩,⟨af,⟨204,(0,0)⟩,dg (Fk s)⟩]) [a_ k s' F'])
  (Sd.fF s.c.p/\cq k (CY s 1 x.x ⟨1,0,s.c.samples⟩) F/\iS C [.int .i64 6,.int .i64 0,.int .i64 s.c.samples,.int .i64 0,.int .i64 0] k (bO (CY s 1 x.x ⟨1,0,s.c.samples⟩)) F λv s' F'=>cM k s Kb (.ay []) (bI k s' F'++[⟨af,⟨36,(0,0)⟩,ql x⟩,⟨af,⟨204,(0,0)⟩,dg (Fk s)⟩,⟨af,⟨41,(0,0)⟩,nN ⟨1,0,s.c.samples⟩⟩]) [a_ k s' F'])):=kR
end
def VA (C:Sd.aL) (s:Sd.ah) (l:Int):s.leave C l=if(s.c.t.drop l).2=ag then qd s l else((gA (qd s l) (s.c.t.drop l).1).gone (s.c.t.drop l).1.aF l 16).record C 12 l 0 16 0:=rfl
def NF (C:Sd.aL) (s:Sd.ah) (l:Int):(s.leave C l).c.p=s.c.p:=by
 rw[VA];split
 ·rfl
 ·show(Sd.ah.gone _ _ _ _).c.p=_;rw[lQ];rfl
def Rm.leave {C:Sd.aL} {s:Sd.ah} {l:Int} {m:Nat} (h:Rm s (m+2)):Rm (s.leave C l) m:=by
 rw[VA];have h1:Rm (qd s l) (m+2):=h;split
 ·exact h1.le oM
 ·have h2:Rm (gA (qd s l) (s.c.t.drop l).1) (m+2):=h;exact(h2.gone).rec
def aqt (p:Sd.aU) (t:Sd.Tok) (a r mo:Int) (m:Sd.bQ):N8 (Sd.oq p t a r mo m):=by have:=Sd.TY p t a r mo m;exact⟨oM,oM⟩
def IU (C:Sd.aL):SM fr:=λar k s F K=>match ar with
 |[.int .i64 l,.agg ml]=>(match E2 ml with
  |some m=>(Sy s l m/\(m.kind=10\/m.kind=11))/\∀F',K (.ay []) (s.command C l m) F'
  |none=>False)
 |_=>False
def CZ (C:Sd.aL) (s:Sd.ah):Sd.ah:=if(Sd.dA s.c.t s.c.q 0).2.1≠0 then s.record C 7 0 s.c.samples (Sd.dA s.c.t s.c.q 0).2.1 0 else(cE s (Sd.dA s.c.t s.c.q 0).2.2).goes C (Sd.dA s.c.t s.c.q 0).1 2 s.c.samples
def C0 (C:Sd.aL) (s:Sd.ah):Sd.ah:=if(s.c.t.dF 0).2≠0 then s.record C 7 0 s.c.samples (s.c.t.dF 0).2 0 else s.goes C (s.c.t.dF 0).1 4 s.c.samples
def C1 (C:Sd.aL) (s:Sd.ah) (x:Sd.X4):Sd.ah:=if Sd.oq s.c.p s.c.t 0 0 s.c.mode (Fk s)≠0 then s.record C 7 0 s.c.samples (Sd.oq s.c.p s.c.t 0 0 s.c.mode (Fk s)) 0 else(CY s 1 x ⟨1,0,s.c.samples⟩).record C 6 0 s.c.samples 0 0
structure IV (s:Sd.ah):Prop where
 r:Rm s 8
 p:Sd.fF s.c.p
 t:TB s.c.t
def wc (act:Sd.ah->Sd.ah):SM fr:=λar k s F K=>match ar with
 |[]=>IV s/\∀F',K (.ay []) (act s) F'
 |_=>False
def IW (act:Sd.ah->Sd.ft->Sd.ah):SM fr:=λar k s F K=>match ar with
 |[.agg xl]=>(match E3 xl with
  |some x=>IV s/\∀F',K (.ay []) (act s x) F'
  |none=>False)
 |_=>False
section
variable(tk:Nat->Sd.ax->Option Sd.bQ) (ht:Body (fr:=fr) 124 dt)
include tk ht
def aqu:Body (fr:=fr) 131 (jT λs l m=>s.BH (aP tk) l m):=by
 refine CW (tk:=tk) (n:=60) (Fh tk ht) ?_;intro l m k s F Kb hq hS hK;have h1:Rm (kD s (s.c.aq.end_ l)) 8:=hS.r;rw[aqo];refine⟨trivial,cK hq,yB (M:=λs F=>uR (aP tk) [.int .i64 l] k s F _) (aqn s l) F ⟨⟨h1.le dC,by have:=hS.l1;omega,by have:=hS.l3;omega⟩,λF2=>⟨cK ?_,m7 (h1.leave).r1 λF3=>⟨cK ?_,wa ⟨((h1.leave).rec).le dC,hS.n⟩ λF4=>eE rfl hK F4 (hp:=?_)⟩⟩⟩⟩
 ·rw[NF];exact hq
 ·show(Sd.ah.leave _ _ _).c.p.queue=_;rw[NF];exact hq
 ·show(Sd.ah.leave _ _ _).c.p=_;rw[NF]
def aqv:Body (fr:=fr) 137 (IU (aP tk)):=by
 refine mr (n:=60) (Fh tk ht) ?_;intro ar k s F Kb h0 hq hM;unfold IU at hM;split at hM
 ·rename_i l ml;split at hM
  ·rename_i m hm;obtain rfl:=MZ hm;have hS:=hM.1.1;have hk:=hM.1.2;have hK:=hM.2;have hj:gJ s l m=Sd.oq s.c.p s.c.t l (s.c.aq.role l) s.c.mode m:=by rw[gJ,aoW]
   have hb:=aqt s.c.p s.c.t l (s.c.aq.role l) s.c.mode m;have h1:Rm (Vz s l m) 8:=hS.r;have h2:Rm (CY s m.cls m.x ⟨1,l,m.seq⟩) 8:=hS.r;rw[aqp,hj];refine⟨trivial,⟨hk,rfl⟩,aJ (λe=>⟨cK hq,AH ⟨hS.r.le dC,hS.n,hb⟩ λF1=>eE (if_pos (rW e)).symm hK F1⟩) (λe=>aJ (λe2=>?_) (λe2=>?_))⟩
   ·refine⟨cK hq,m7 h1.r1 λF2=>⟨cK hq,wa ⟨h1.rec.le dC,hS.n⟩ λF3=>eE ?_ hK F3⟩⟩;have e3:m.kind=10:=by simpa using e2
    refine Eq.trans ?_ (if_neg (uT e)).symm;rw[if_pos e3];rfl
   ·refine⟨hS.i.p,cK hq,m7 h2.r1 λF2=>⟨cK hq,wa ⟨h2.rec.le dC,hS.n⟩ λF3=>eE ?_ hK F3⟩⟩;have e3:¬m.kind=10:=by simpa using e2
    refine Eq.trans ?_ (if_neg (uT e)).symm;rw[if_neg e3];rfl
  ·exact hM.elim
 ·exact hM.elim
def aqw:Body (fr:=fr) 98 (wc (CZ (aP tk))):=by
 refine mr (n:=60) (Fh tk ht) ?_;intro ar k s F Kb h0 hq hM;unfold wc at hM;split at hM
 ·have hS:=hM.1;have hK:=hM.2;have hb:=ac2 hS.t s.c.q 0;have h1:Rm (cE s (Sd.dA s.c.t s.c.q 0).2.2) 8:=hS.r;rw[aqq];refine⟨⟨rfl,hS.t.b⟩,λB hB=>aJ (λe=>⟨cK hq,m7 h1.r1 λF1=>eE ?_ hK F1⟩) (λe=>⟨cK hq,CT ⟨h1.le dC,hb.1.h,hb.1.e⟩ λF2=>eE (if_neg (uT e)).symm hK F2 (hp:=pG _ _ _ _ _)⟩)⟩;rw[Ny (ac3 (rW e))];exact(if_pos (rW e)).symm
 ·exact hM.elim
def aqx:Body (fr:=fr) 100 (wc (C0 (aP tk))):=by
 refine mr (n:=60) (Fh tk ht) ?_;intro ar k s F Kb h0 hq hM;unfold wc at hM;split at hM
 ·have hS:=hM.1;have hK:=hM.2;have hb:=CV hS.t 0;rw[aqr];exact⟨hS.t.b,aJ (λe=>⟨cK hq,m7 hS.r.r1 λF1=>eE (if_pos (rW e)).symm hK F1⟩) (λe=>⟨cK hq,CT ⟨hS.r.le dC,hb.1.h,hb.1.e⟩ λF2=>eE (if_neg (uT e)).symm hK F2 (hp:=pG _ _ _ _ _)⟩)⟩
 ·exact hM.elim
def aqy:Body (fr:=fr) 99 (IW λs x=>C1 (aP tk) s x.x):=by
 refine mr (n:=60) (Fh tk ht) ?_;intro ar k s F Kb h0 hq hM;unfold IW at hM;split at hM
 ·rename_i xl;split at hM
  ·rename_i x hx;obtain rfl:=M0 hx;have hS:=hM.1;have hK:=hM.2;have h2:Rm (CY s 1 x.x ⟨1,0,s.c.samples⟩) 8:=hS.r;rw[aqs];exact⟨⟨.inr rfl,rfl⟩,aJ (λe=>⟨cK hq,m7 hS.r.r1 λF1=>eE (if_pos (rW e)).symm hK F1⟩) (λe=>⟨hS.p,cK hq,m7 h2.r1 λF2=>eE (if_neg (uT e)).symm hK F2⟩)⟩
  ·exact hM.elim
 ·exact hM.elim
end
def L6 (fr:Sd.aO->Nat×Sd.ax) (C:Sd.aL):List (bK (Gh fr)):=⟨98,ag,gz (wc (CZ C))⟩::⟨100,ag,gz (wc (C0 C))⟩::⟨99,ag,gz (IW λs x=>C1 C s x.x)⟩::L5 fr C
def adg (tk:Nat->Sd.ax->Option Sd.bQ) (ht:Body (fr:=fr) 124 dt):aH prog gS (L6 fr (aP tk)):=
 aH.cons (h_ (aqw tk ht)) (aH.cons (h_ (aqx tk ht)) (aH.cons (h_ (aqy tk ht)) (Fh tk ht)))
def NG (s:Sd.ah) (n:Int):Sd.ah:={s with c:={s.c with beyond:=n}}
def AI (s:Sd.ah) (x:Sd.ft):Sd.ah:={s with c:={s.c with samples:=Sd.sat s.c.samples 4294967295,beyond:=(Sd.g9 s.c.p s.c.beyond x).1}}
def NH (s:Sd.ah):Sd.aN:={dX s.c.aq with de:=(af,.start s.c.p.cO)}
def yH (s:Sd.ah) (x:Sd.ft):Sd.ah:=kD (AI s x) (s.c.aq.ig s.c.p)
section
variable(C:Sd.aL) (k:LK) (s:Sd.ah) (F:ba fr (a9 k s)) (Kb:SK fr k)
def NI (x:Sd.ft):Prop:=cond (s.c.t.aF==0)
 (cq k (AI s x) F/\IW (λs x=>C1 C s x.x) [.agg (ql x)] k (qo (AI s x) (NH s)) F λv s' F'=>cM k s Kb (.ay []) (bI k s' F'++[⟨af,⟨36,(0,0)⟩,ql x⟩]) [a_ k s' F'])
 (cond (Sd.g9 s.c.p s.c.beyond x).2 (cq k (AI s x) F/\wc (C0 C) [] k (qo (AI s x) (NH s)) F λv s' F'=>cM k s Kb (.ay []) (bI k s' F'++[⟨af,⟨36,(0,0)⟩,ql x⟩]) [a_ k s' F'])
  (cM k s Kb (.ay []) (bI k (yH s x) F++[⟨af,⟨36,(0,0)⟩,ql x⟩]) [a_ k (yH s x) F]))
def aqz (x:Sd.ft):br (bM prog gS (L6 fr C)) 60 78 [.ptr 2 0,.agg (ql x)] (bI k s F) [a_ k s F] (cM k s Kb)
 =cond (!x.valid) (cM k s Kb (.ay []) (bI k (NG s 0) F++[⟨af,⟨36,(0,0)⟩,ql x⟩]) [a_ k (NG s 0) F])
  ((bV s.c.samples/\bV 4294967295)/\(0<=s.c.p.cO/\s.c.p.cO<=1000)/\(Sd.fF s.c.p/\bV s.c.beyond)/\
    cond (s.c.t.aF==0) (cond x.pW (cq k (AI s x) F/\wc (CZ C) [] k (qo (AI s x) (NH s)) F λv s' F'=>cM k s Kb (.ay []) (bI k s' F'++[⟨af,⟨36,(0,0)⟩,ql x⟩]) [a_ k s' F']) (NI C k s F Kb x)) (NI C k s F Kb x)):=kR
end
def VC (s:Sd.ah) (x:Sd.ft):qo (AI s x) (NH s)=yH s x:=by
 refine IT rfl ?_ (λj=>rfl);intro j hj;have:j=0\/j=1\/j=2:=oM;rcases this with rfl|rfl|rfl<;>rfl
def Fl (C:Sd.aL):SM fr:=λar k s F K=>match ar with
 |[.agg xl]=>(match E3 xl with
  |some x=>(IV s/\bV s.c.samples/\bV s.c.beyond)/\∀F',K (.ay []) (s.ig C x) F'
  |none=>False)
 |_=>False
section
variable{k:LK} {s:Sd.ah} {K:SK fr k}
end
def aqA (C:Sd.aL) (s:Sd.ah) (x:Sd.ft) (h:x.valid=ag):s.ig C x=NG s 0:=if_pos h
def NJ (C:Sd.aL) (s:Sd.ah) (x:Sd.ft) (h:¬x.valid=ag):s.ig C x=if s.c.t.aF=0/\x.pW=af then CZ C (yH s x)else if s.c.t.aF=0 then C1 C (yH s x) x.x else if(Sd.g9 s.c.p s.c.beyond x).2=af then C0 C (yH s x)else yH s x:=if_neg h
section
variable(tk:Nat->Sd.ax->Option Sd.bQ) (ht:Body (fr:=fr) 124 dt)
def aqB (C:Sd.aL) (s:Sd.ah):(CZ C s).c.p=s.c.p:=by
 unfold CZ;split
 ·rfl
 ·rw[pG];rfl
def aqC (C:Sd.aL) (s:Sd.ah):(C0 C s).c.p=s.c.p:=by
 unfold C0;split
 ·rfl
 ·rw[pG]
def aqD (C:Sd.aL) (s:Sd.ah) (x:Sd.X4):(C1 C s x).c.p=s.c.p:=by
 unfold C1;split<;>rfl
include tk ht
def adh:Body (fr:=fr) 78 (Fl (aP tk)):=by
 refine mr (n:=60) (adg tk ht) ?_;intro ar k s F Kb h0 hq hM;unfold Fl at hM;split at hM
 ·rename_i xl;split at hM
  ·rename_i x hx;obtain rfl:=M0 hx;have hS:=hM.1.1;have hK:=hM.2;have hT:IV (yH s x):=⟨hS.r,hS.p,hS.t⟩;have hX:(x.valid≠ag)->¬(s.c.t.aF=0/\x.pW=af)->NI (aP tk) k s F Kb x:=by
    intro hv hg;unfold NI;refine aJ (λe=>⟨cK hq,?_⟩) (λe=>aJ (λe2=>⟨cK hq,?_⟩) (λe2=>?_))
    ·have e1:s.c.t.aF=0:=by simpa using e
     refine yB (M:=λs F=>IW (λs x=>C1 (aP tk) s x.x) [.agg (ql x)] k s F _) (VC s x) F ⟨hT,λF1=>eE ?_ hK F1 (hp:=aqD _ _ _)⟩;rw[NJ _ _ _ hv,if_neg hg,if_pos e1]
    ·have e1:¬s.c.t.aF=0:=by simpa using e
     refine yB (M:=λs F=>wc (C0 (aP tk)) [] k s F _) (VC s x) F ⟨hT,λF1=>eE ?_ hK F1 (hp:=aqC _ _)⟩;rw[NJ _ _ _ hv,if_neg hg,if_neg e1,if_pos e2]
    ·have e1:¬s.c.t.aF=0:=by simpa using e
     refine eE ?_ hK (show ba fr (a9 k (yH s x))from F);rw[NJ _ _ _ hv,if_neg hg,if_neg e1,if_neg (by rw[e2];decide)]
   rw[aqz];refine aJ (λe=>eE ?_ hK (show ba fr (a9 k (NG s 0))from F)) (λe=>⟨⟨hM.1.2.1,dC,dC⟩,⟨by have:=hS.p.cO.1;omega,hS.p.cO.2⟩,⟨hS.p,hM.1.2.2⟩,?_⟩)
   ·rw[aqA _ _ _ (by simpa using e)]
   ·have hv:x.valid≠ag:=by simpa using e
    refine aJ (λe1=>aJ (λe2=>⟨cK hq,?_⟩) (λe2=>hX hv (by rw[e2];simp))) (λe1=>hX hv ?_)
    ·refine yB (M:=λs F=>wc (CZ (aP tk)) [] k s F _) (VC s x) F ⟨hT,λF1=>eE ?_ hK F1 (hp:=aqB _ _)⟩;rw[NJ _ _ _ hv,if_pos ⟨by simpa using e1,e2⟩]
    ·have e3:¬s.c.t.aF=0:=by simpa using e1
     exact λh=>e3 h.1
  ·exact hM.elim
 ·exact hM.elim
end
def VD:QG:=⟨153,2,λargs most q=>match args with
 |[.agg [.dO p ka kn kc],.agg tl,.bool th]=>(match lj tl with|some t=>aa (bV t.an/\(bV t.la.n/\bV t.la.most)/\(1<=p.i 43/\p.i 43<=1000),.ay [.agg (dm (Sd.gZ p t q th).1),.int .i64 (Sd.gZ p t q th).2.1],(Sd.gZ p t q th).2.2)|none=>ae)
 |_=>ae⟩
def aqE:VD.Ok:=by
 intro args k q p v q' hv hm hp B hB bs ms w0 w S
 match args,hv,hm with
 |a::b::c::l,hv,hm=>
  have ha:c=.raw (vq k):=by simpa[VD]using hv
  subst ha;replace hm:(match(generalizing:=false) a::b::l with
   |[.agg [.dO p ka kn kc],.agg tl,.bool th]=>(match lj tl with|some t=>aa (bV t.an/\(bV t.la.n/\bV t.la.most)/\(1<=p.i 43/\p.i 43<=1000),V.ay [.agg (dm (Sd.gZ p t q th).1),.int .i64 (Sd.gZ p t q th).2.1],(Sd.gZ p t q th).2.2)|none=>ae)
   |_=>ae)=aa (p,v,q'):=hm
  split at hm
  ·rename_i p' ka kn kc tl th heq;obtain⟨rfl,h2⟩:=wI heq;obtain⟨rfl,rfl⟩:=wI h2;split at hm
   ·rename_i t ht;obtain rfl:=pz ht;simp only[aW,bC]at hm;obtain⟨rfl,rfl,rfl⟩:=hm;exact apo hB p' ka kn kc th hp.1 hp.2.1 hp.2.2 S
   ·cases hm
  ·cases hm
def NK:QF:=⟨51,λargs _=>match args with
 |[]=>aa (True,.agg (nN Sd.oY))
 |_=>ae⟩
def adi (gl:Nat->Option Nat):NK.Ok prog gl:=by
 intro args bl p_ v_ h hp ids w _ _;unfold NK at h;dsimp only at h;split at h
 ·simp only[aW,bC]at h;obtain⟨rfl,rfl⟩:=h;exact told (anD w)
 ·cases h
def L7 (fr:Sd.aO->Nat×Sd.ax) (C:Sd.aL):List (bK (Gh fr)):=⟨153,ag,CR VD⟩::qE (Gh fr) NK::L6 fr C
def adj (tk:Nat->Sd.ax->Option Sd.bQ) (ht:Body (fr:=fr) 124 dt):aH prog gS (L7 fr (aP tk)):=
 aH.cons (Nm aqE) (aH.cons (No adi) (adg tk ht))
abbrev iT (s:Sd.ah):Sd.Tok×Int×List Sd.Ask:=Sd.gZ s.c.p s.c.t s.c.q ((dX s.c.aq).on s.c.t.aF)
def aqF (C:Sd.aL) (k:LK) (s:Sd.ah) (F:ba fr (a9 k s)) (Kb:SK fr k):br (bM prog gS (L7 fr C)) 60 111 [.ptr 2 0] (bI k s F) [a_ k s F] (cM k s Kb)
 =(True/\(vq k=vq k/\(bV s.c.t.an/\(bV s.c.t.la.n/\bV s.c.t.la.most)/\(1<=s.c.p.i 43/\s.c.p.i 43<=1000)))/\∀B (hB:QS k.bq k.most (iT s).2.2 B),
  cond (decide ((iT s).2.1<=0)) (cM k s Kb (.ay []) (bI k (gA (cE s (iT s).2.2) (iT s).1) (F.cE (iT s).2.2 B hB)++[⟨af,⟨121,(0,0)⟩,dm (iT s).1⟩]) [a_ k (gA (cE s (iT s).2.2) (iT s).1) (F.cE (iT s).2.2 B hB)])
  (cq k (cE s (iT s).2.2) (F.cE (iT s).2.2 B hB)/\rV C [.agg (dm (iT s).1),.int .i64 (iT s).2.1,.int .i64 0] k (bO (cE s (iT s).2.2)) (F.cE (iT s).2.2 B hB) λv s2 F2=>
   cond ((iT s).2.1==5) (cq k s2 F2/\yF [.int .i64 s2.c.p.lost,.agg (nN ⟨3,4,0⟩)] k (bO s2) F2 λv s' F'=>cM k s Kb (.ay []) (bI k s' F'++[⟨af,⟨121,(0,0)⟩,dm (iT s).1⟩]) [a_ k s' F'])
   (True/\cq k s2 F2/\yF [.int .i64 s2.c.p.safe,.agg (nN Sd.oY)] k (bO s2) F2 λv s' F'=>cM k s Kb (.ay []) (bI k s' F'++[⟨af,⟨121,(0,0)⟩,dm (iT s).1⟩]) [a_ k s' F']))):=kR
def aqG {p:Sd.aU} {t:Sd.Tok} (h:TB t) (q:List Sd.Ask) (b:Bool):TB (Sd.gZ p t q b).1:=by
 have h1:∀la,TB ({t with la:=la}:Sd.Tok):=λla=>⟨h.h,h.e⟩;unfold Sd.gZ;split
 ·exact h1 _
 ·dsimp only;generalize (if t.la.most=0 then Sd.Timer.start p.dz else t.la).step=la;split
  ·exact h1 _
  ·split
   ·rename_i hs;refine⟨by simp[Sd.Tok.gX,Sd.Tok.pass,N4],?_⟩;have e1:=h.e.1;have e2:=h.e.2;simp only[Sd.Tok.gX,Sd.Tok.pass,v7,Sd.sat];split
    ·split<;>omega
    ·omega
   ·split
    ·exact(CV (h1 _) 4).1
    ·exact(ac1 (h1 _) q).1
def aqH {p:Sd.aU} {t:Sd.Tok} {q:List Sd.Ask} {b:Bool} (h:(Sd.gZ p t q b).2.1<=0):(Sd.gZ p t q b).2.2=q:=by
 unfold Sd.gZ at h⊢;split
 ·rfl
 ·rename_i h0;rw[if_neg h0]at h;dsimp only at h⊢;revert h;generalize (if t.la.most=0 then Sd.Timer.start p.dz else t.la).step=la;intro h;split
  ·rfl
  ·rename_i h1;rw[if_neg h1]at h;split
   ·rfl
   ·rename_i h2;rw[if_neg h2]at h;split
    ·rename_i h3;rw[if_pos h3]at h;simp at h
    ·rename_i h3;rw[if_neg h3]at h;simp at h
structure VE (s:Sd.ah):Prop where
 r:Rm s 8
 p:Sd.fF s.c.p
 t:TB s.c.t
 l1:bV s.c.t.la.n
 l2:bV s.c.t.la.most
def C2 (C:Sd.aL):SM fr:=λar k s F K=>match ar with
 |[]=>VE s/\∀F',K (.ay []) (s.dz C) F'
 |_=>False
def IX (C:Sd.aL) (s:Sd.ah) (R:Sd.Tok×Int×List Sd.Ask) (h:R=Sd.gZ s.c.p s.c.t s.c.q (s.c.aq.on s.c.t.aF)):s.dz C=if R.2.1<=0 then gA s R.1 else if R.2.1=5 then((cE s R.2.2).goes C R.1 R.2.1 0).ei ((cE s R.2.2).goes C R.1 R.2.1 0).c.p.lost ⟨3,4,0⟩else((cE s R.2.2).goes C R.1 R.2.1 0).ei ((cE s R.2.2).goes C R.1 R.2.1 0).c.p.safe Sd.oY:=by subst h;rfl
def NL (C:Sd.aL) (s:Sd.ah) (t:Sd.Tok) (h n m:Int) (b:Sd.Label):((s.goes C t h n).ei m b).c.p=s.c.p:=pG C s t h n
def aqI (tk:Nat->Sd.ax->Option Sd.bQ) (ht:Body (fr:=fr) 124 dt):Body (fr:=fr) 111 (C2 (aP tk)):=by
 refine mr (n:=60) (adj tk ht) ?_;intro ar k s F Kb h0 hq hM;unfold C2 at hM;split at hM
 ·have hS:=hM.1;have hK:=hM.2;have hr:iT s=Sd.gZ s.c.p s.c.t s.c.q (s.c.aq.on s.c.t.aF):=by rw[iT,Vb]
  have hb:=aqG (p:=s.c.p) hS.t s.c.q ((dX s.c.aq).on s.c.t.aF);have h1:Rm (cE s (iT s).2.2) 8:=hS.r;rw[aqF];refine⟨trivial,⟨rfl,hS.t.b,⟨hS.l1,hS.l2⟩,hS.p.dz⟩,λB hB=>aJ (λe=>?_) (λe=>⟨cK hq,CT ⟨h1.le dC,hb.h,hb.e⟩ λF2=>aJ (λe2=>⟨cK ?_,Vh λF3=>eE ?_ hK F3 (hp:=NL _ _ _ _ _ _ _)⟩) (λe2=>⟨trivial,cK ?_,Vh λF3=>eE ?_ hK F3 (hp:=NL _ _ _ _ _ _ _)⟩)⟩)⟩
  ·have e1:(iT s).2.1<=0:=by simpa using e
   refine eE (s':=gA (cE s (iT s).2.2) (iT s).1) ?_ hK (F.cE (iT s).2.2 B hB);rw[IX _ _ _ hr,if_pos e1,Ny (aqH e1)]
  ·rw[pG];exact hq
  ·have e1:¬(iT s).2.1<=0:=by simpa using e
   have e3:(iT s).2.1=5:=by simpa using e2
   rw[IX _ _ _ hr,if_neg e1,if_pos e3]
  ·rw[pG];exact hq
  ·have e1:¬(iT s).2.1<=0:=by simpa using e
   have e3:¬(iT s).2.1=5:=by simpa using e2
   rw[IX _ _ _ hr,if_neg e1,if_neg e3]
 ·exact hM.elim
def IY:List Sd.Ask->List V
 |[]=>[]
 |a::l=>.int .i64 a.source::.int .i64 a.bU::.int .i64 a.dy.n::.int .i64 a.dy.most::IY l
def lU (l:List Sd.Ask) (t:List ai):VB:=⟨af,⟨147,(0,0)⟩,IY l++[.rest t]⟩
def VF (ids:List Nat):∀l:List Sd.Ask,ak ids (IY l)=rS l
 |[]=>rfl
 |a::l=>by
  have h:=VF ids l;simp only[IY,ak,cl,den,h];rfl
def VG:dk (Gh fr):=λargs bl ch K=>match args,ch with
 |[.raw vp],g::rest=>cond (bY bl.length bl) (vp=vq g.d.k/\(g.d.q=[]->∀x c,K (.raw (.slice x 0 c)) bl (g::rest))/\(∀a,g.d.q=[a]->∀c t,K (.sl bl.length 0 1 c) (bl++[lU [a] t]) (g::rest))/\
  (∀a b,g.d.q=[a,b]->∀c t,K (.sl bl.length 0 2 c) (bl++[lU [a,b] t]) (g::rest))/\(∀a b d,g.d.q=[a,b,d]->∀c t,K (.sl bl.length 0 3 c) (bl++[lU [a,b,d] t]) (g::rest))) False
 |_,_=>False
def adk {bq:Nat} {most:Int} {L:List Sd.Ask} {B:List ao} (h:QS bq most L B):L.length<=3:=by
 obtain⟨es,_,_,_,_,_,_,hH,rfl⟩:=h
 match es,hH with
 |[],_=>simp[cy]
 |[e0],_=>simp[cy]
 |[e0,e1],_=>simp only[cy];repeat' split
             all_goals simp
 |[e0,e1,e2],_=>simp only[cy];repeat' split
                all_goals simp
 |_::_::_::_::_,hH=>exact absurd hH (by simp[fN])
def aqJ (gl:Nat->Option Nat):Sound prog gl 60 (VG (fr:=fr)):=by
 intro args ids bl ch R ms w0 w K hg hl S hc;unfold VG at hc;split at hc
 ·rename_i vp g rest;cases hq:bY bl.length bl with
  |false=>rw[hq]at hc;exact hc.elim
  |true=>
   rw[hq]at hc;rw[<-hl]at hq;obtain⟨rfl,k0,k1,k2,k3⟩:=hc;have e0:au (g::rest) R=g.F.B++au rest R:=rfl;have S':=S;rw[e0,tJ]at S;have hL:=aol g.F.hq (S.perm (CS _ _ _ _ _ _ _));have ea:(aE ids [.raw (vq g.d.k)]).toArray=#[.pointer (aa ⟨g.d.k.bq,0,ae⟩)]:=rfl;rw[ea];refine hL.mono ?_;rintro v w1 ⟨x,c1,rows,rfl,hr,S1⟩;have aqK:=(S1.sub (kG rows _)).perm (CS _ _ _ _ _ _ _).symm;have yI:∀(n:Nat),g.d.q.length=n+1->∃(b:Nat) (t:List ai),x=aa ⟨b,0,ae⟩/\((∀c t,K (.sl bl.length 0 (n+1) c) (bl++[lU g.d.q t]) (g::rest))->
    ∃(x':V) (more:List Nat) (bl':List VB) (ch':List (Gh fr)),wN x g.d.q.length c1=den (ids++more) x'/\(ids++more).length=bl'.length/\St ms w0 (lits (ids++more) (ids++more) bl'++au ch' R) w1/\K x' bl' ch'):=by
    intro n hn;rcases hr.2.2 with⟨_,h0,_⟩|⟨b,t,hx,aqL,_⟩
    ·omega
    ·refine⟨b,t,hx,λh=>?_⟩;refine⟨.sl bl.length 0 (n+1) c1,[b],bl++[lU g.d.q t],g::rest,?_,by simp[hl],?_,h c1 t⟩
     ·rw[hx,hn,<-hl];simp only[den,lG]
     ·have e1:lits (ids++[b]) (ids++[b]) (bl++[lU g.d.q t])=lits ids ids bl++rows:=by
       rw[fu _ _ _ _ hl,fw _ _ hq];have ed:(ak (ids++[b]) (IY g.d.q++[.rest t])).toArray=(rS g.d.q++t).toArray:=by
        rw[jK,VF];simp[ak,cl]
       simp only[lits,aC,lU,ed];rw[aqL]
      rw[e1,e0,tJ,bW];refine S1.perm ?_;refine(j4 rows (CS (lits ids ids bl) _ _ _ _ _ _).symm).trans ?_;exact qR _ _ _
   have hlen:=adk g.F.hq;revert k0 k1 k2 k3 yI hlen
   match g.d.q with
   |[]=>
    intro k0 k1 k2 k3 yI hlen;refine⟨.raw (.slice x 0 c1),[],bl,g::rest,?_,by simpa using hl,?_,k0 rfl x c1⟩
    ·simp[den]
    ·simp only[cT];rw[e0,tJ];exact aqK
   |[a]=>intro k0 k1 k2 k3 yI hlen;obtain⟨b,t,_,h⟩:=yI 0 rfl;exact h (k1 a rfl)
   |[a,b']=>intro k0 k1 k2 k3 yI hlen;obtain⟨b,t,_,h⟩:=yI 1 rfl;exact h (k2 a b' rfl)
   |[a,b',d]=>intro k0 k1 k2 k3 yI hlen;obtain⟨b,t,_,h⟩:=yI 2 rfl;exact h (k3 a b' d rfl)
   |a::b'::d::e::l=>intro k0 k1 k2 k3 yI hlen;simp at hlen
 ·exact hc.elim
def L8 (fr:Sd.aO->Nat×Sd.ax) (C:Sd.aL):List (bK (Gh fr)):=⟨111,ag,gz (C2 C)⟩::⟨60,ag,VG⟩::L7 fr C
def C3 (tk:Nat->Sd.ax->Option Sd.bQ) (ht:Body (fr:=fr) 124 dt):aH prog gS (L8 fr (aP tk)):=
 aH.cons (h_ (aqI tk ht)) (aH.cons ⟨aqJ gS,λe=>by cases e⟩ (adj tk ht))
section
variable(C:Sd.aL) (k:LK) (s0:Sd.ah) (Kb:SK fr k)
def Fm:List Sd.Ask->(s:Sd.ah)->ba fr (a9 k s)->List VB->Prop
 |[],s,F,j=>True/\cq k s F/\yF [.int .i64 s.c.p.safe,.agg (nN Sd.oY)] k (bO s) F λv s' F'=>cM k s0 Kb (.ay []) (bI k s' F'++j) [a_ k s' F']
 |a::l,s,F,j=>(vq k=vq k/\True)/\∀B (hB:QS k.bq k.most (Sd.Q.drop s.c.q a.source) B),cq k (qd s a.source) (F.cE (Sd.Q.drop s.c.q a.source) B hB)/\uQ [.int .i64 a.source,.int .i64 4,.int .i64 29] k (bO (qd s a.source)) (F.cE (Sd.Q.drop s.c.q a.source) B hB) λv s2 F2=>Fm l s2 F2 (j++[⟨af,⟨147,(0,0)⟩,Iu a⟩])
def VH (s:Sd.ah) (F:ba fr (a9 k s)) (j:List VB):Prop:=vq k=vq k/\(s.c.q=[]->∀(x:Option aI) (c:Nat),Fm k s0 Kb [] s F j)/\(∀a,s.c.q=[a]->∀(c:Nat) (t:List ai),Fm k s0 Kb [a] s F (j++[lU [a] t]))/\
 (∀a b,s.c.q=[a,b]->∀(c:Nat) (t:List ai),Fm k s0 Kb [a,b] s F (j++[lU [a,b] t]))/\(∀a b d,s.c.q=[a,b,d]->∀(c:Nat) (t:List ai),Fm k s0 Kb [a,b,d] s F (j++[lU [a,b,d] t]))
def qp (s:Sd.ah) (b:Bool):Sd.ah:=gA s {s.c.t with bad:=b}
def aqM (s:Sd.ah) (F:ba fr (a9 k s)) (b:Bool):br (bM prog gS (L8 fr C)) 80 79 [.ptr 2 0,.bool b] (bI k s F) [a_ k s F] (cM k s Kb)
 =cond (!b) (cM k s Kb (.ay []) (bI k (qp s b) F) [a_ k (qp s b) F])
  (bV s.c.t.an/\cond (s.c.t.aF !=4)
   (cq k (qp s b) F/\rV C [.agg (dm ({s.c.t with bad:=b}:Sd.Tok).gX),.int .i64 6,.int .i64 0] k (bO (qp s b)) F λv s2 F2=>VH k s Kb s2 F2 [⟨af,⟨121,(0,0)⟩,dm ({s.c.t with bad:=b}:Sd.Tok).gX⟩])
   (VH k s Kb (gA s ({s.c.t with bad:=b}:Sd.Tok).gX) F [⟨af,⟨121,(0,0)⟩,dm ({s.c.t with bad:=b}:Sd.Tok).gX⟩])):=kR
end
def tK (s:Sd.ah) (a:Sd.Ask):Sd.ah:=(qd s a.source).gone a.source 4 29
def adl (s:Sd.ah) (a:Sd.Ask):(tK s a).c.p=s.c.p:=by unfold tK;rw[lQ];rfl
def Rm.tK {s:Sd.ah} {a:Sd.Ask} {n:Nat} (h:Rm s (n+1)):Rm (tK s a) n:=by
 have h1:Rm (qd s a.source) (n+1):=h;exact h1.gone
def IZ {k:LK} {s0:Sd.ah} {Kb:SK fr k}:∀(l:List Sd.Ask) (s:Sd.ah) (F:ba fr (a9 k s)) (j:List VB),s.c.p=s0.c.p->s.c.p.queue=k.most->Rm s l.length->
 (∀F',Kb (.ay []) ((l.foldl tK s).ei (l.foldl tK s).c.p.safe Sd.oY) F')->Fm k s0 Kb l s F j
 |[],s,F,j,hp,hq,hr,hK=>⟨trivial,cK hq,Vh λF1=>eE (s':=s.ei s.c.p.safe Sd.oY) rfl hK F1 (hp:=hp) (hb:=kR)⟩
 |a::l,s,F,j,hp,hq,hr,hK=>⟨⟨rfl,trivial⟩,λB hB=>⟨cK hq,IK ⟨(show Rm (qd s a.source) (l.length+1)from hr).le oM,⟨dC,dC⟩,⟨dC,dC⟩⟩ λF2=>IZ l (tK s a) F2 _ (by rw[adl];exact hp) (by rw[adl];exact hq) hr.tK hK⟩⟩
def adm {k:LK} {s0:Sd.ah} {Kb:SK fr k} (s:Sd.ah) (F:ba fr (a9 k s)) (j:List VB) (hp:s.c.p=s0.c.p) (hq:s.c.p.queue=k.most) (hr:Rm s 3)
 (hK:∀F',Kb (.ay []) ((s.c.q.foldl tK s).ei (s.c.q.foldl tK s).c.p.safe Sd.oY) F'):VH k s0 Kb s F j:=by
 refine⟨rfl,λe x c=>?_,λa e c t=>?_,λa b e c t=>?_,λa b d e c t=>?_⟩
 ·rw[e]at hK;exact IZ [] s F _ hp hq (hr.le sP) hK
 ·rw[e]at hK;exact IZ [a] s F _ hp hq (hr.le sP) hK
 ·rw[e]at hK;exact IZ [a,b] s F _ hp hq (hr.le sP) hK
 ·rw[e]at hK;exact IZ [a,b,d] s F _ hp hq (hr.le sP) hK
def aqN {t:Sd.Tok} (h:TB t):TB t.gX:=by
 have e1:=h.e.1;have e2:=h.e.2;refine⟨show(0:Int)<=4/\(4:Int)<=4 by decide,?_⟩;simp only[Sd.Tok.gX,Sd.Tok.pass,v7,Sd.sat];split
 ·split<;>omega
 ·omega
def Fo (C:Sd.aL):SM fr:=λar k s F K=>match ar with
 |[.bool b]=>(Rm s 8/\TB s.c.t)/\∀F',K (.ay []) (s.lC C b) F'
 |_=>False
def cX (C:Sd.aL) (s:Sd.ah):Sd.ah:=if s.c.t.aF≠4 then s.goes C s.c.t.gX 6 0 else gA s s.c.t.gX
def aqO (C:Sd.aL) (s:Sd.ah) (b:Bool) (h:b=ag):s.lC C b=qp s b:=if_pos h
def aqP (C:Sd.aL) (s:Sd.ah) (b:Bool) (h:¬b=ag):s.lC C b=(((cX C (qp s b)).c.q.foldl tK (cX C (qp s b))).ei ((cX C (qp s b)).c.q.foldl tK (cX C (qp s b))).c.p.safe Sd.oY):=if_neg h
def adn (tk:Nat->Sd.ax->Option Sd.bQ) (ht:Body (fr:=fr) 124 dt):Body (fr:=fr) 79 (Fo (aP tk)):=by
 refine mr (n:=80) (C3 tk ht) ?_;intro ar k s F Kb h0 hq hM;unfold Fo at hM;split at hM
 ·rename_i b;have hr:=hM.1.1;have hT:=hM.1.2;have hK:=hM.2;have h1:Rm (qp s b) 8:=hr;have hb:TB ({s.c.t with bad:=b}:Sd.Tok).gX:=aqN ⟨hT.h,hT.e⟩;rw[aqM];refine aJ (λe=>eE ?_ hK (show ba fr (a9 k (qp s b))from F)) (λe=>⟨hT.b,?_⟩)
  ·rw[aqO _ _ _ (by simpa using e)]
  ·have jM:¬b=ag:=by simpa using e
   rw[aqP _ _ _ jM]at hK;refine aJ (λe1=>⟨cK hq,CT ⟨h1.le dC,hb.h,hb.e⟩ λF2=>?_⟩) (λe1=>?_)
   ·have e2:cX (aP tk) (qp s b)=(qp s b).goes (aP tk) ({s.c.t with bad:=b}:Sd.Tok).gX 6 0:=if_pos (show s.c.t.aF≠4 by simpa using e1);rw[e2]at hK;exact adm _ F2 _ (pG _ _ _ _ _) (by rw[pG];exact hq) (h1.goes.le dC) hK
   ·have e2:cX (aP tk) (qp s b)=gA s ({s.c.t with bad:=b}:Sd.Tok).gX:=if_neg (show¬s.c.t.aF≠4 by simpa using e1);rw[e2]at hK;exact adm (gA s ({s.c.t with bad:=b}:Sd.Tok).gX) F _ rfl hq (hr.le dC) hK
 ·exact hM.elim
def aqQ {w:aj} {n c b:Nat} {f:Nat->Int} {T:aM} (h:w.heap[b]?=aa (.cells (bE n f c) T (0,0))):cA w b 0 n f:=by
 intro j hj;rw[cell_of h];simp only[bE,dS];rw[jX,gm (by rw[gf];exact hj)];simp[cI,hj]
def NM {w:aj} {n c:Nat} {f:Nat->Int} {x:Option aI} {b:List ao} (h:eQ 5 n f x c b) (aS:∀y∈b,w.heap[y.id]?=aa y.obj) (h0:0<n) (hn:n<=1000000):dM w x n c f:=by
 obtain⟨b',h1,rfl,rfl⟩:=GU h h0;exact dM.Qz (aqQ (aS _ (jZ.2 rfl))) hn h1
def ado {ms:List Nat} {w0 w:aj} {A R:List ao} {d:FD} (F:ba fr d) (S:St ms w0 (A++(F.B++R)) w) (i:Nat) (hi:i<4) (h0:0<d.k.kn i) (hn:d.k.kn i<=1000000):dM w (d.k.ka i) (d.k.kn i) (d.k.kc i) (d.k.kf i):=by
 obtain⟨b0,b1,b2,b3,b4,hB,k0,k1,k2,k3,k4⟩:=F.hk;have aS:∀y∈F.Bk,w.heap[y.id]?=aa y.obj:=λy hy=>S.at' (by rw[tJ];simp[hy]);rw[hB]at aS;have:i=0\/i=1\/i=2\/i=3:=oM;rcases this with rfl|rfl|rfl|rfl
 ·exact NM k0 (λy hy=>aS y (by simp[hy])) h0 hn
 ·exact NM k1 (λy hy=>aS y (by simp[hy])) h0 hn
 ·exact NM k2 (λy hy=>aS y (by simp[hy])) h0 hn
 ·exact NM k3 (λy hy=>aS y (by simp[hy])) h0 hn
def adp {ids:List Nat} {bl:List VB} {k:LK} {A:List ao} {ms:List Nat} {w0 w:aj} (hg:Gl gS ids) (hl:ids.length=bl.length) (S:St ms w0 (lits ids ids bl++A) w) (h:bl[0]?=aa (b_ k)):w.heap[0]?=aa (.cells (aD .u32 64 c_) k.tg (0,0)):=by
 have h1:=(gx hl S h).2;rw[(hg 0 0 rfl).2]at h1;have e:(ak ids (b_ k).c).toArray=aD .u32 64 c_:=kR;rw[e]at h1;exact h1
def I0:dk (Gh fr):=λargs bl ch K=>match args,ch with
 |[.agg [.int .i64 m,.bool o,.cv .u8 8 nc],.raw vk,.int .i64 s],g::rest=>
  (vk=.slice (g.d.k.ka 3) (g.d.k.kn 3) (g.d.k.kc 3)/\bl[0]?=aa (b_ g.d.k)/\(0<=s/\s<4294967296)/\(0<=m/\m<=9223372036854775807)/\(1<=g.d.k.kn 3/\g.d.k.kn 3<=64))/\
  cond (decide (4294967295<=m)) (K (.ay [.agg [.int .i64 m,.bool o,.cv .u8 8 nc],.int .i64 24]) bl (g::rest)) (K (.ay [.agg [.int .i64 (m+1),.bool af,.cv .u8 8 (kg (g.d.k.kn 3) (g.d.k.kf 3) s (m+1))],.int .i64 0]) bl (g::rest))
 |_,_=>False
def aqR:Sound prog gS 123 (I0 (fr:=fr)):=by
 intro args ids bl ch R ms w0 w K hg hl S hc;unfold I0 at hc;split at hc
 ·rename_i m o nc vk s g rest;obtain⟨⟨rfl,hr,hs,hm,hk⟩,hK⟩:=hc;have e0:au (g::rest) R=g.F.B++au rest R:=rfl;have S':=S;rw[e0]at S';have AJ:=ado g.F S' 3 dC oM oM;have kp:=adp hg hl S hr;by_cases h:4294967295<=m
  ·rw[show decide (4294967295<=m)=af by simp[h]]at hK;have hc:=al5 (g.d.k.ka 3) (g.d.k.kn 3) (g.d.k.kc 3) (g.d.k.kf 3) s ⟨m,o,nc⟩ h hm.2 w;have e:(aE ids [.agg [.int .i64 m,.bool o,.cv .u8 8 nc],.raw (.slice (g.d.k.ka 3) (g.d.k.kn 3) (g.d.k.kc 3)),.int .i64 s]).toArray=#[.agg #[.int .i64 m,.bool o,.int .u8 (nc 0),.int .u8 (nc 1),.int .u8 (nc 2),.int .u8 (nc 3),.int .u8 (nc 4),.int .u8 (nc 5),.int .u8 (nc 6),.int .u8 (nc 7)],.slice (g.d.k.ka 3) (g.d.k.kn 3) (g.d.k.kc 3),.int .i64 s]:=kR;rw[e];refine hc.mono ?_;rintro v w1 ⟨rfl,cz⟩;exact⟨_,[],bl,g::rest,kR,by simpa using hl,by simpa using S.quiet cz,hK⟩
  ·rw[show decide (4294967295<=m)=ag by simp[h]]at hK;have hc:=al6 (g.d.k.ka 3) (g.d.k.kn 3) (g.d.k.kc 3) (g.d.k.kf 3) s ⟨m,o,nc⟩ hk hs ⟨hm.1,Int.not_le.1 h⟩ w kp AJ;have e:(aE ids [.agg [.int .i64 m,.bool o,.cv .u8 8 nc],.raw (.slice (g.d.k.ka 3) (g.d.k.kn 3) (g.d.k.kc 3)),.int .i64 s]).toArray=#[.agg #[.int .i64 m,.bool o,.int .u8 (nc 0),.int .u8 (nc 1),.int .u8 (nc 2),.int .u8 (nc 3),.int .u8 (nc 4),.int .u8 (nc 5),.int .u8 (nc 6),.int .u8 (nc 7)],.slice (g.d.k.ka 3) (g.d.k.kn 3) (g.d.k.kc 3),.int .i64 s]:=kR;rw[e];refine hc.mono ?_;rintro v w1 ⟨rfl,cz⟩;exact⟨.ay [.agg [.int .i64 (m+1),.bool af,.cv .u8 8 (kg (g.d.k.kn 3) (g.d.k.kf 3) s (m+1))],.int .i64 0],[],bl,g::rest,kR,by simpa using hl,by simpa using S.quiet cz,hK⟩
 ·exact hc.elim
def fa (k:LK):ai:=.slice k.px k.pn k.pc
def C4 (C:Sd.aL):dk (Gh fr):=λargs bl ch K=>match args,ch with
 |[.raw vp],g::rest=>(vp=fa g.d.k/\g.d.k.pn<=1000/\By g.d.k.pf)/\(∀m,C.take g.d.k.pn g.d.k.pf=aa m->K (.ay [.agg (dg m),.int .i64 0]) bl (g::rest))/\
  (C.take g.d.k.pn g.d.k.pf=ae->∀m c,c≠0->K (.ay [.agg (dg m),.int .i64 c]) bl (g::rest))
 |_,_=>False
def LH (fr:Sd.aO->Nat×Sd.ax) (C:Sd.aL):List (bK (Gh fr)):=⟨120,af,C4 C⟩::⟨123,af,I0⟩::L8 fr C
def AK (s:Sd.ah) (a b c:Sd.eS):Sd.ah:={s with c:={s.c with doors:=r3 a b c s.c.doors,aq:=⟨s.c.aq.de,r3 (s.c.aq.az 0) (s.c.aq.az 1) (s.c.aq.az 2) s.c.aq.az⟩}}
def VI (d:Sd.eS):List V:=[.int .i64 d.many,.bool d.ji,.cv .u8 8 d.aK]
section
variable(C:Sd.aL) (k:LK) (s:Sd.ah) (F:ba fr (a9 k s)) (Kb:SK fr k) (l:Int) (d:Sd.eS) (D:Sd.eS->Sd.ah)
def yJ (k:LK) (l:Int) (d:Sd.eS):Sd.eS:=⟨d.many+1,af,kg (k.kn 3) (k.kf 3) l (d.many+1)⟩
def NN (hD:∀e,a9 k (D e)=a9 k s) (m:Sd.bQ) (c:Int):Prop:=cond (c !=0) (cq k s F/\rU C [.int .i64 l,.int .i64 13] k (bO s) F λv s' F'=>cM k s Kb (.ay []) (bI k s' F'++[⟨af,⟨204,(0,0)⟩,dg m⟩]) [a_ k s' F'])
 (True/\cond (!(Sd.vB s.c.p l m.role)) (cq k s F/\m6 C [.int .i64 l,.int .i64 0,.int .i64 18] k (bO s) F λv s' F'=>cM k s Kb (.ay []) (bI k s' F'++[⟨af,⟨204,(0,0)⟩,dg m⟩]) [a_ k s' F'])
  ((wN (k.ka 3) (k.kn 3) (k.kc 3)=.slice (k.ka 3) (k.kn 3) (k.kc 3)/\aa (b_ k)=aa (b_ k)/\(0<=l/\l<4294967296)/\(0<=d.many/\d.many<=9223372036854775807)/\(1<=k.kn 3/\k.kn 3<=64))/\
    cond (decide (4294967295<=d.many)) (cq k s F/\m6 C [.int .i64 l,.int .i64 0,.int .i64 24] k (bO s) F λv s' F'=>cM k s Kb (.ay []) (bI k s' F'++[⟨af,⟨204,(0,0)⟩,dg m⟩,⟨af,⟨128,(0,0)⟩,VI d⟩]) [a_ k s' F'])
    (cq k (D (yJ k l d)) (hD (yJ k l d)▸F)/\dt [.int .i64 l,.agg [.int .i64 129,.int .i64 0,.int .i64 0,.int .i64 0,.int .i64 0,.int .i64 0,.cv .u8 8 (yJ k l d).aK]] k (D (yJ k l d)) (hD (yJ k l d)▸F) λv s2 F2=>
     cq k s2 F2/\iS C [.int .i64 2,.int .i64 l,.int .i64 0,.int .i64 0,.int .i64 0] k (bO s2) F2 λv s' F'=>cM k s Kb (.ay []) (bI k s' F'++[⟨af,⟨204,(0,0)⟩,dg m⟩,⟨af,⟨128,(0,0)⟩,VI (yJ k l d)⟩]) [a_ k s' F'])))
end
def VJ (fr:Sd.aO->Nat×Sd.ax) (C:Sd.aL) (l:Int) (i:Nat) (D:Sd.ah->Sd.eS->Sd.ah) (hD:∀k s e,a9 k (D s e)=a9 k s):Prop:=∀(k:LK) (s:Sd.ah) (F:ba fr (a9 k s)) (Kb:SK fr k),br (bM prog gS (LH fr C)) 90 91 [.ptr 2 0,.int .i64 l,.raw (fa k)] (bI k s F) [a_ k s F] (cM k s Kb)
 =((fa k=fa k/\k.pn<=1000/\By k.pf)/\(∀m,C.take k.pn k.pf=aa m->NN C k s F Kb l (s.c.doors i) (D s) (hD k s) m 0)/\(C.take k.pn k.pf=ae->∀m c,c≠0->NN C k s F Kb l (s.c.doors i) (D s) (hD k s) m c))
def aqS (fr:Sd.aO->Nat×Sd.ax) (C:Sd.aL):VJ fr C 1 0 (λs e=>AK s e (s.c.doors 1) (s.c.doors 2)) (λ_ _ _=>rfl):=λk s F Kb=>kR
def aqT (fr:Sd.aO->Nat×Sd.ax) (C:Sd.aL):VJ fr C 2 1 (λs e=>AK s (s.c.doors 0) e (s.c.doors 2)) (λ_ _ _=>rfl):=λk s F Kb=>kR
def aqU (fr:Sd.aO->Nat×Sd.ax) (C:Sd.aL):VJ fr C 3 2 (λs e=>AK s (s.c.doors 0) (s.c.doors 1) e) (λ_ _ _=>rfl):=λk s F Kb=>kR
def rZ (s:Sd.ah) (i:Nat) (e:Sd.eS):Sd.ah:={s with c:={s.c with doors:=λj=>if j=i then e else s.c.doors j}}
def yK {s:Sd.ah} {a b c:Sd.eS} {i:Nat} {e:Sd.eS} (hi:i<3) (ha:a=if 0=i then e else s.c.doors 0) (hb:b=if 1=i then e else s.c.doors 1) (hc:c=if 2=i then e else s.c.doors 2):AK s a b c=rZ s i e:=by
 unfold AK rZ;rw[Nd];have h:r3 a b c s.c.doors=λj=>if j=i then e else s.c.doors j:=by
  funext j
  match j with
  |0=>exact ha
  |1=>exact hb
  |2=>exact hc
  |j+3=>exact(if_neg oM).symm
 rw[h]
end
section
open Go Go.RowKit Go.BigFrame Sx
def VL (n m:Int):Int:=(Int.tmod n m+m)%m
def aqV (n:Int):bits .and .i64 n 14=n%16-n%2:=by
 have Fj:=sG .i64 n 15 16 4 dC dC dC;have h1:=sG .i64 n 1 2 1 dC dC dC;unfold bits at*;simp only[BitVec.toNat_and]at*;have hk:∀m:Nat,m&&&14=(m&&&15)-(m&&&1):=by
  intro m;have e1:m&&&15=m%16:=af8 m 4;have e2:m&&&1=m%2:=af8 m 1;have e3:m&&&14=(m%16)&&&14:=by
   rw[<-e1,Nat.and_assoc];rfl
  have e4:m%2=(m%16)%2:=oM;rw[e1,e2,e3,e4];have h:m%16<16:=Nat.mod_lt _ oM;generalize m%16=k at h
  match k,h with
  |0,_=>rfl|1,_=>rfl|2,_=>rfl|3,_=>rfl|4,_=>rfl|5,_=>rfl|6,_=>rfl|7,_=>rfl
  |8,_=>rfl|9,_=>rfl|10,_=>rfl|11,_=>rfl|12,_=>rfl|13,_=>rfl|14,_=>rfl|15,_=>rfl
  |k+16,h=>exact absurd h oM
 have c14:(pP i64.bits 14).toNat=14:=dC;have c15:(pP i64.bits 15).toNat=15:=dC;have c1:(pP i64.bits 1).toNat=1:=dC;rw[c14];rw[c15]at Fj;rw[c1]at h1;rw[hk];generalize (pP i64.bits n).toNat=m at*;have ayZ:m&&&15<16:=Nat.lt_of_le_of_lt Nat.and_le_right oM;have j9:m&&&1<2:=Nat.lt_of_le_of_lt Nat.and_le_right oM;have w15:i64.wrap ((m&&&15:Nat):Int)=((m&&&15:Nat):Int):=by rw[agj];omega
 have w1:i64.wrap ((m&&&1:Nat):Int)=((m&&&1:Nat):Int):=by rw[agj];omega
 rw[w15]at Fj;rw[w1]at h1;rw[agj];omega
def Sw1 (k a b c:Int):Prop:=(k=0/\a=1/\b=2/\c=3)\/(k=1/\a=2/\b=1/\c=3)\/(k=2/\a=3/\b=2/\c=1)
def I1 (q:Nat->Int) (o1 o2 o3:Int):Prop:=∃b c,Sw1 (VL (q 1) 3) o1 b c/\((VL (q 2) 2=0/\o2=b/\o3=c)\/(VL (q 2) 2=1/\o2=c/\o3=b))
def I1.perm {q:Nat->Int} {o1 o2 o3:Int} (h:I1 q o1 o2 o3):(o1=1/\o2=2/\o3=3)\/(o1=1/\o2=3/\o3=2)\/(o1=2/\o2=1/\o3=3)\/(o1=2/\o2=3/\o3=1)\/(o1=3/\o2=1/\o3=2)\/(o1=3/\o2=2/\o3=1):=by
 obtain⟨b,c,h1,h2⟩:=h;rcases h1 with⟨_,rfl,rfl,rfl⟩|⟨_,rfl,rfl,rfl⟩|⟨_,rfl,rfl,rfl⟩<;>rcases h2 with⟨_,rfl,rfl⟩|⟨_,rfl,rfl⟩<;>simp
def I1.one {q:Nat->Int} {a b c a' b' c':Int} (h:I1 q a b c) (k:I1 q a' b' c'):a=a'/\b=b'/\c=c':=by
 obtain⟨_,_,h1,h2⟩:=h;obtain⟨_,_,k1,k2⟩:=k;rcases h1 with⟨e,rfl,rfl,rfl⟩|⟨e,rfl,rfl,rfl⟩|⟨e,rfl,rfl,rfl⟩<;>rcases k1 with⟨f,rfl,rfl,rfl⟩|⟨f,rfl,rfl,rfl⟩|⟨f,rfl,rfl,rfl⟩<;>first|(exfalso;rw[e]at f;revert f;decide)|(rcases h2 with⟨e2,rfl,rfl⟩|⟨e2,rfl,rfl⟩<;>rcases k2 with⟨f2,rfl,rfl⟩|⟨f2,rfl,rfl⟩<;>first|(exfalso;rw[e2]at f2;revert f2;decide)|exact⟨rfl,rfl,rfl⟩)
def VM (ms:List Nat) (w0:aj) (a:Option aI) (n c:Nat) (kb:Nat->Int):Prop:=n<=c/\(a=ae->n=0/\c=0)/\∀ad,a=aa ad->ad.block∉ms/\∀j,j<n->w0.cell? (ad.add j)=aa (.int .u8 (kb j))
def aqW (x:Int):0<=u8.wrap x/\u8.wrap x<=255:=by rw[IntKind.wrap_u8];omega
def adq (H:Nat->Int):By (Aj H):=λj=>by unfold Aj;split<;>exact aqW _
def aqX (n:Nat) (f:Nat->Int):By (kK n f):=by
 unfold kK;cases bZ n 55
 ·exact adq _
 ·exact adq _
def aqY (kn:Nat) (kf:Nat->Int) (s n:Int):By (kg kn kf s n):=by unfold kg iF;exact aqX _ _
end
section
open Go Go.RowKit Go.BigFrame Sx Vx
variable{fr:Sd.aO->Nat×Sd.ax}
def aqZ (C:Sd.aL):jo (C4 (fr:=fr) C):=by
 intro args bl ch K h;unfold C4 at h⊢;split at h
 ·exact⟨h.1,λm e=>⟨h.2.1 m e,[],sP⟩,λe m c hc=>⟨h.2.2 e m c hc,[],sP⟩⟩
 ·exact h.elim
def aq0:jo (I0 (fr:=fr)):=by
 intro args bl ch K h;unfold I0 at h⊢;split at h
 ·rename_i m o nc vk s' g rest;refine⟨h.1,?_⟩;have h2:=h.2;by_cases hm:4294967295<=m
  ·rw[show decide (4294967295<=m)=af by simp[hm]]at h2⊢;exact⟨h2,[],sP⟩
  ·rw[show decide (4294967295<=m)=ag by simp[hm]]at h2⊢;exact⟨h2,[],sP⟩
 ·exact h.elim
def aq1 (tk:Nat->Sd.ax->Option Sd.bQ) (ht:Body (fr:=fr) 124 dt) (h1:Sound prog gS 120 (C4 (fr:=fr) (aP tk))):aH prog gS (LH fr (aP tk)):=
 aH.cons ⟨h1,λ_=>aqZ _⟩ (aH.cons ⟨aqR,λ_=>aq0⟩ (C3 tk ht))
structure VN (k:LK) (s:Sd.ah) (l:Int):Prop where
 r:Rm s 8
 d:∀i,i<3->0<=(s.c.doors i).many/\(s.c.doors i).many<=9223372036854775807
 key:1<=k.kn 3/\k.kn 3<=64
 ke:s.c.p.k 3=(k.kn 3,k.kf 3)
 qq:k.pn<=1000/\By k.pf
 l:1<=l/\l<=3
def Fp (C:Sd.aL):SM fr:=λar k s F K=>match ar with
 |[.int .i64 l,.raw vp]=>(vp=fa k/\VN k s l)/\∀F',K (.ay []) (s.sV C l k.pn k.pf) F'
 |_=>False
def aq2 {C:Sd.aL} {s:Sd.ah} {l:Int} {n:Nat} {f:Sd.ax} (h:C.take n f=ae):s.sV C l n f=s.jx C l 13:=by unfold Sd.ah.sV;rw[h]
def aq3 {C:Sd.aL} {s:Sd.ah} {l:Int} {n:Nat} {f:Sd.ax} {m:Sd.bQ} (h:C.take n f=aa m):s.sV C l n f=if Sd.vB s.c.p l m.role=ag then s.refuse C l 0 18 else if 4294967295<=(s.c.doors (l.toNat-1)).many then s.refuse C l 0 24 else
 ((rZ s (l.toNat-1) ⟨(s.c.doors (l.toNat-1)).many+1,af,C.aK (s.c.p.k 3) l ((s.c.doors (l.toNat-1)).many+1)⟩).tell l ⟨129,0,0,0,0,0,C.aK (s.c.p.k 3) l ((s.c.doors (l.toNat-1)).many+1)⟩).record C 2 l 0 0 0:=by unfold Sd.ah.sV;rw[h];rfl
def Fq (tk:Nat->Sd.ax->Option Sd.bQ) {k:LK} {s:Sd.ah} {F:ba fr (a9 k s)} {Kb:SK fr k} {l:Int} {i:Nat} {D:Sd.eS->Sd.ah} (hD:∀e,a9 k (D e)=a9 k s) (AL:∀e,D e=rZ s i e) (hi:l.toNat-1=i) (h3:i<3) (hq:s.c.p.queue=k.most) (hP:VN k s l)
 (m:Sd.bQ) (c:Int) (hm:(c=0/\(aP tk).take k.pn k.pf=aa m)\/(c≠0/\(aP tk).take k.pn k.pf=ae)) (hK:∀F',Kb (.ay []) (s.sV (aP tk) l k.pn k.pf) F'):NN (aP tk) k s F Kb l (s.c.doors i) D hD m c:=by
 subst hi;unfold NN;refine aJ (λe=>⟨cK hq,IL hP.r.r1 λF1=>eE ?_ hK F1⟩) (λe=>⟨trivial,aJ (λe1=>⟨cK hq,AH ⟨hP.r.le dC,yE,⟨dC,dC⟩⟩ λF1=>eE ?_ hK F1⟩) (λe1=>⟨⟨rfl,rfl,⟨by have:=hP.l;omega,by have:=hP.l;omega⟩,hP.d _ h3,hP.key⟩,aJ (λe2=>⟨cK hq,AH ⟨hP.r.le dC,yE,⟨dC,dC⟩⟩ λF1=>eE ?_ hK F1⟩) (λe2=>?_)⟩)⟩)
 ·have hc:c≠0:=rW e;rcases hm with⟨h,_⟩|⟨_,h⟩
  ·exact absurd h hc
  ·exact(aq2 h).symm
 all_goals
  have hc:c=0:=by simpa using e
  have aq4:(aP tk).take k.pn k.pf=aa m:=by
   rcases hm with⟨_,h⟩|⟨h,_⟩
   ·exact h
   ·exact absurd hc h
  rw[aq3 aq4]at*
 ·exact(if_pos (by simpa using e1)).symm
 ·rw[if_neg (by simpa using e1),if_pos (by simpa using e2)]
 ·rw[if_neg (by simpa using e1),if_neg (by simpa using e2)]at hK;have hn:(aP tk).aK (s.c.p.k 3) l ((s.c.doors (l.toNat-1)).many+1)=kg (k.kn 3) (k.kf 3) l ((s.c.doors (l.toNat-1)).many+1):=by rw[hP.ke];rfl
  rw[hn]at hK;have key:∀(x:Sd.ah) (hx:a9 k x=a9 k s),x=rZ s (l.toNat-1) (yJ k l (s.c.doors (l.toNat-1)))->(cq k x (hx▸F)/\dt [.int .i64 l,.agg [.int .i64 129,.int .i64 0,.int .i64 0,.int .i64 0,.int .i64 0,.int .i64 0,.cv .u8 8 (yJ k l (s.c.doors (l.toNat-1))).aK]] k x (hx▸F) λv s2 F2=>
   cq k s2 F2/\iS (aP tk) [.int .i64 2,.int .i64 l,.int .i64 0,.int .i64 0,.int .i64 0] k (bO s2) F2 λv s' F'=>cM k s Kb (.ay []) (bI k s' F'++[⟨af,⟨204,(0,0)⟩,dg m⟩,⟨af,⟨128,(0,0)⟩,VI (yJ k l (s.c.doors (l.toNat-1)))⟩]) [a_ k s' F']):=by
   rintro x hx rfl;refine⟨cK hq,⟨⟨(show Rm (rZ s _ _) 8 from hP.r).le dC,⟨(show(129:Int)<=129/\(129:Int)<=136 by decide),⟨yE,.inr rfl⟩,⟨(show(0:Int)<=0/\(0:Int)<=3 by decide),.inr rfl⟩,⟨z4,.inr rfl⟩,⟨Nq,.inr rfl⟩,⟨z8,.inr rfl⟩,⟨aqY _ _ _ _,.inl rfl⟩⟩⟩,λF1=>⟨cK hq,m7 ?_ λF2=>eE rfl hK F2⟩⟩⟩;have:=hP.r.2;simp only[Sd.ah.tell,rZ];omega
  exact key _ (hD _) (AL _)
def aq5 (tk:Nat->Sd.ax->Option Sd.bQ) (ht:Body (fr:=fr) 124 dt) (h1:Sound prog gS 120 (C4 (fr:=fr) (aP tk))):Body (fr:=fr) 91 (Fp (aP tk)):=by
 refine mr (n:=90) (aq1 tk ht h1) ?_;intro ar k s F Kb h0 hq hM;unfold Fp at hM;split at hM
 ·rename_i l vp;have hP:=hM.1.2;have hK:=hM.2;have hv:vp=fa k:=hM.1.1;subst hv;have hl:l=1\/l=2\/l=3:=by have:=hP.l;omega
  rcases hl with rfl|rfl|rfl
  ·rw[aqS];exact⟨⟨rfl,hP.qq.1,hP.qq.2⟩,λm e=>Fq tk _ (λe=>yK (i:=0) dC rfl rfl rfl) rfl dC hq hP m 0 (.inl ⟨rfl,e⟩) hK,λe m c hc=>Fq tk _ (λe=>yK (i:=0) dC rfl rfl rfl) rfl dC hq hP m c (.inr ⟨hc,e⟩) hK⟩
  ·rw[aqT];exact⟨⟨rfl,hP.qq.1,hP.qq.2⟩,λm e=>Fq tk _ (λe=>yK (i:=1) dC rfl rfl rfl) rfl dC hq hP m 0 (.inl ⟨rfl,e⟩) hK,λe m c hc=>Fq tk _ (λe=>yK (i:=1) dC rfl rfl rfl) rfl dC hq hP m c (.inr ⟨hc,e⟩) hK⟩
  ·rw[aqU];exact⟨⟨rfl,hP.qq.1,hP.qq.2⟩,λm e=>Fq tk _ (λe=>yK (i:=2) dC rfl rfl rfl) rfl dC hq hP m 0 (.inl ⟨rfl,e⟩) hK,λe m c hc=>Fq tk _ (λe=>yK (i:=2) dC rfl rfl rfl) rfl dC hq hP m c (.inr ⟨hc,e⟩) hK⟩
 ·exact hM.elim
def NO:List Int->List V
 |[]=>[]
 |n::l=>.int .i64 n::NO l
def I2 (l:List Int) (t:List ai):VB:=⟨af,⟨3,(0,0)⟩,NO l++[.rest t]⟩
def lc (x:Int) (A B:Prop):Prop:=match x with
 |.ofNat 0=>B
 |x=>cond (Sd.linked x) A B
def aq6 {x:Int} {A B:Prop} (h:cond (Sd.linked x) A B):lc x A B:=by
 unfold lc;split
 ·exact h
 ·exact h
def m8:List Bool->Int->List Int
 |[],_=>[]
 |b::l,n=>cond b (n::m8 l (n+1)) (m8 l (n+1))
def we (t:Sd.aN):List Bool:=[t.zJ,t.l_ 0,t.l_ 1,t.l_ 2]
def NP (t:Sd.aN):Prop:=(bV t.de.2.n/\bV t.de.2.most)/\(bV (t.az 0).dN.n/\bV (t.az 0).dN.most)/\(bV (t.az 1).dN.n/\bV (t.az 1).dN.most)/\(bV (t.az 2).dN.n/\bV (t.az 2).dN.most)
def C5 (bl:List VB) (ch:List (Gh fr)) (K:VK (Gh fr)) (n:Nat) (B:List ai->VB):Prop:=match n with
 |0=>∀(x:Option aI) (c:Nat),K (.raw (.slice x 0 c)) bl ch
 |n+1=>∀(c:Nat) (t:List ai),K (.sl bl.length 0 (n+1) c) (bl++[B t]) ch
def I3 (bs:List Bool):dk (Gh fr):=λargs bl ch K=>match args with
 |[.ptr it 0]=>(match bl[it]?with
  |some ⟨af,⟨181,(0,0)⟩,tc⟩=>(match tI tc with
   |some y=>cond (bY bl.length bl) ((NP (bJ y)/\we (bJ y)=bs)/\C5 (bl.set it ⟨af,⟨181,(0,0)⟩,cP (oF (bJ y).tick y.b y.m)⟩) ch K (m8 bs 0).length (I2 (m8 bs 0))) False
   |none=>False)
  |_=>False)
 |_=>False
def I4:dk (Gh fr):=λargs bl ch K=>match args,ch with
 |[.raw vp],g::rest=>cond (bY bl.length bl) ((vp=vq g.d.k/\∀a∈g.d.q,bV a.dy.n/\bV a.dy.most)/\∀B (h:QS g.d.k.bq g.d.k.most (Sd.Q.kept g.d.q) B),
  (Sd.Q.gone g.d.q=[]->C5 bl (⟨{g.d with q:=Sd.Q.kept g.d.q},g.dx,g.sx,g.F.cE _ B h⟩::rest) K 0 (lU []))/\
  (∀a,Sd.Q.gone g.d.q=[a]->C5 bl (⟨{g.d with q:=Sd.Q.kept g.d.q},g.dx,g.sx,g.F.cE _ B h⟩::rest) K 1 (lU [a]))/\
  (∀a b,Sd.Q.gone g.d.q=[a,b]->C5 bl (⟨{g.d with q:=Sd.Q.kept g.d.q},g.dx,g.sx,g.F.cE _ B h⟩::rest) K 2 (lU [a,b]))/\
  (∀a b d,Sd.Q.gone g.d.q=[a,b,d]->C5 bl (⟨{g.d with q:=Sd.Q.kept g.d.q},g.dx,g.sx,g.F.cE _ B h⟩::rest) K 3 (lU [a,b,d]))) False
 |_,_=>False
def L9 (fr:Sd.aO->Nat×Sd.ax) (C:Sd.aL) (bs:List Bool):List (bK (Gh fr)):=⟨106,ag,I3 bs⟩::⟨110,ag,I4⟩::L8 fr C
def aq7 (tk:Nat->Sd.ax->Option Sd.bQ) (ht:Body (fr:=fr) 124 dt) (bs:List Bool) (h1:Sound prog gS 106 (I3 (fr:=fr) bs)) (h2:Sound prog gS 110 (I4 (fr:=fr))):aH prog gS (L9 fr (aP tk) bs):=
 aH.cons ⟨h1,λe=>by cases e⟩ (aH.cons ⟨h2,λe=>by cases e⟩ (C3 tk ht))
section
variable(C:Sd.aL) (k:LK) (s0:Sd.ah) (Kb:SK fr k)
abbrev SC (fr:Sd.aO->Nat×Sd.ax) (k:LK):=(s:Sd.ah)->ba fr (a9 k s)->List VB->Prop
def C6 (cont:SC fr k):List Int->SC fr k
 |[],s,F,j=>cont s F j
 |x::l,s,F,j=>cq k s F/\iS C [.int .i64 5,.int .i64 x,.int .i64 0,.int .i64 0,.int .i64 0] k (bO s) F λv s2 F2=>True/\lc x (cq k s2 F2/\uR C [.int .i64 x] k (bO s2) F2 λv s3 F3=>C6 cont l s3 F3 j) (C6 cont l s2 F2 j)
def Fs (p:Sd.fj):Prop:=bV p.bh.a/\bV p.bh.b/\bV p.bh.c/\bV p.bh.d/\bV p.now.a/\bV p.now.b/\bV p.now.c/\bV p.now.d
def C7 (s:Sd.ah):Sd.ah:={s with c:={s.c with pt:=s.c.pt.step s.c.p}}
def Ft:List Sd.Ask->SC fr k
 |[],s,F,j=>cq k s F/\C2 C [] k (bO s) F λv s2 F2=>(Sd.fF s2.c.p/\Fs s2.c.pt)/\cM k s0 Kb (.ay []) (bI k (C7 s2) F2++j) [a_ k (C7 s2) F2]
 |a::l,s,F,j=>cq k s F/\uQ [.int .i64 a.source,.int .i64 a.source,.int .i64 30] k (bO s) F λv s2 F2=>cq k s2 F2/\iS C [.int .i64 12,.int .i64 a.source,.int .i64 0,.int .i64 30,.int .i64 0] k (bO s2) F2 λv s3 F3=>Ft l s3 F3 (j++[⟨af,⟨147,(0,0)⟩,Iu a⟩])
def VO:SC fr k:=λs F j=>(vq k=vq k/\∀a∈s.c.q,bV a.dy.n/\bV a.dy.most)/\∀B (h:QS k.bq k.most (Sd.Q.kept s.c.q) B),
 (Sd.Q.gone s.c.q=[]->∀(x:Option aI) (c:Nat),Ft C k s0 Kb [] (cE s (Sd.Q.kept s.c.q)) (F.cE (Sd.Q.kept s.c.q) B h) j)/\
 (∀a,Sd.Q.gone s.c.q=[a]->∀(c:Nat) (t:List ai),Ft C k s0 Kb [a] (cE s (Sd.Q.kept s.c.q)) (F.cE (Sd.Q.kept s.c.q) B h) (j++[lU [a] t]))/\
 (∀a b,Sd.Q.gone s.c.q=[a,b]->∀(c:Nat) (t:List ai),Ft C k s0 Kb [a,b] (cE s (Sd.Q.kept s.c.q)) (F.cE (Sd.Q.kept s.c.q) B h) (j++[lU [a,b] t]))/\
 (∀a b d,Sd.Q.gone s.c.q=[a,b,d]->∀(c:Nat) (t:List ai),Ft C k s0 Kb [a,b,d] (cE s (Sd.Q.kept s.c.q)) (F.cE (Sd.Q.kept s.c.q) B h) (j++[lU [a,b,d] t]))
def Fu:SC fr k:=λs F j=>(bV s.c.t.oa.n/\bV s.c.t.oa.most)/\cond (decide (s.c.t.tick.2>=0))
 (cq k (gA s s.c.t.tick.1) F/\uQ [.int .i64 s.c.t.tick.1.aF,.int .i64 s.c.t.tick.2,.int .i64 30] k (bO (gA s s.c.t.tick.1)) F λv s2 F2=>cq k s2 F2/\iS C [.int .i64 12,.int .i64 s.c.t.tick.2,.int .i64 0,.int .i64 30,.int .i64 0] k (bO s2) F2 λv s3 F3=>VO C k s0 Kb s3 F3 (j++[⟨af,⟨121,(0,0)⟩,dm s.c.t.tick.1⟩]))
 (VO C k s0 Kb (gA s s.c.t.tick.1) F (j++[⟨af,⟨121,(0,0)⟩,dm s.c.t.tick.1⟩]))
def tkF (E:Sd.aN):List Int->SC fr k
 |[],s,F,j=>Fu C k s0 Kb (qo s E) F j
 |x::l,s,F,j=>cq k s F/\iS C [.int .i64 5,.int .i64 x,.int .i64 0,.int .i64 0,.int .i64 0] k (qo s E) F λv s2 F2=>True/\lc x (cq k s2 F2/\uR C [.int .i64 x] k (bO s2) F2 λv s3 F3=>C6 C k (Fu C k s0 Kb) l s3 F3 j) (C6 C k (Fu C k s0 Kb) l s2 F2 j)
end
def aq8 (C:Sd.aL) (k:LK) (s:Sd.ah) (F:ba fr (a9 k s)) (Kb:SK fr k) (l:List Int):Prop:=match l with
 |[]=>∀(x:Option aI) (c:Nat),tkF C k s Kb (dX s.c.aq).tick [] s F []
 |a::l=>∀(c:Nat) (t:List ai),tkF C k s Kb (dX s.c.aq).tick (a::l) s F [I2 (a::l) t]
def nW (fr:Sd.aO->Nat×Sd.ax) (C:Sd.aL) (bs:List Bool):Prop:=∀(k:LK) (s:Sd.ah) (F:ba fr (a9 k s)) (Kb:SK fr k),br (bM prog gS (L9 fr C bs)) 90 80 [.ptr 2 0] (bI k s F) [a_ k s F] (cM k s Kb)
 =((NP (dX s.c.aq)/\we (dX s.c.aq)=bs)/\aq8 C k s F Kb (m8 bs 0))
def gN:Nat->Option Nat:=λ_=>ae
def adr (a0 a1 a2 a3:List V) (b m:Int):VB:=⟨af,⟨181,(0,0)⟩,a0++(a1++(a2++(a3++[.int .i64 b,.int .i64 m])))⟩
def VP (r:bx) (x:Int) (k:bx->Prop):Prop:=(r.v=r.v/\r.n+1<=1000000)/\∀(xa:Option aI) (c:Nat) (bk:List ao) (h:dD r.z r.T (r.os++[.int .i64 x]) xa (r.n+1) c bk),k ⟨r.T,r.z,r.os++[.int .i64 x],xa,r.n+1,c,bk,h⟩
def NQ (on:Bool) (t:Sd.Timer) (aq9 aq_ ara:Prop):Prop:=cond (!on) aq9 ((bV t.n/\bV t.most)/\True/\cond t.step.due ara aq_)
def NR (on:Bool) (t:Sd.Timer):List V:=[.bool on,.int .i64 t.n,.int .i64 t.most]
def ads (x:Sd.gw):List V:=[.int .i64 x.role,.cv .u8 32 x.key,.bool x.seen.any,.int .i64 x.seen.high,.int .u64 x.seen.seen]
def adt:List V:=[.bool ag,.int .i64 0,.int .i64 0]
def NS:List V:=[.int .u8 0,.int .u8 0,.int .u8 0,.int .u8 0,.int .u8 0,.int .u8 0,.int .u8 0,.int .u8 0]
def arb:List V:=adt++(.int .i64 0::(NS++(NS++(NS++(NS++[.bool ag,.int .i64 0,.int .u64 0])))))
def adu (x:Int):VB:=⟨af,⟨3,(0,0)⟩,[.int .i64 x]⟩
def C8 (s:Sd.gw) (x:Int) (j:List VB) (r:bx) (k:List V->List VB->bx->Prop):Prop:=
 NQ s.on s.dN (k (NR s.on s.dN++ads s) j r) (k (NR s.on s.dN.step++ads s) j r) (VP r x (k arb (j++[adu x])))
def ttX (y:TC) (K:VK bx):Prop:=
 let S3 (a0 a1 a2:List V) (j:List VB) (r:bx):Prop:=C8 y.sb 3 j r λa3 j r=>K r.v (adr a0 a1 a2 a3 y.b y.m::j) [r]
 let S2 (a0 a1:List V) (j:List VB) (r:bx):Prop:=C8 y.sa 2 j r λa2 j r=>S3 a0 a1 a2 j r
 let S1 (a0:List V) (j:List VB) (r:bx):Prop:=C8 y.s0 1 j r λa1 j r=>S2 a0 a1 j r
 NQ y.s1 ⟨y.sn,y.sm⟩ (S1 (NR y.s1 ⟨y.sn,y.sm⟩) [] (.nil 3 1)) (S1 (NR y.s1 (Sd.Timer.step ⟨y.sn,y.sm⟩)) [] (.nil 3 1)) (VP (.nil 3 1) 0 (S1 adt [adu 0]))
def arc (y:TC) (K:VK bx):br (mT prog gN (qL bx QV)) 60 106 [.ptr 0 0] [⟨af,⟨181,(0,0)⟩,cP y⟩] [.nil 3 1] K=ttX y K:=kR
def adv {on:Bool} {t:Sd.Timer} {k0 k1 k2:Prop} (h:bV t.n/\bV t.most) (h0:on=ag->k0) (h1:on=af->t.step.due=ag->k1) (h2:on=af->t.step.due=af->k2):NQ on t k0 k1 k2:=by
 unfold NQ;cases on with
 |false=>exact h0 rfl
 |true=>exact⟨h,trivial,aJ (λe=>h2 rfl e) (λe=>h1 rfl e)⟩
def C9 (r:bx) (l:List Int):Prop:=r.T=3/\r.z=1/\r.os=l.map (fI .i64)/\r.n=l.length/\l.length<=100
def adw {r:bx} {x:Int} {k:bx->Prop} {l:List Int} (h:C9 r l) (hl:l.length<100) (hk:∀r',C9 r' (l++[x])->k r'):VP r x k:=by
 obtain⟨h1,h2,h3,h4,h5⟩:=h;refine⟨⟨rfl,oM⟩,λxa c bk hh=>hk _ ⟨h1,h2,?_,?_,?_⟩⟩
 ·simp[h3]
 ·simp[h4]
 ·simp;omega
def C_ (s:Sd.gw):Sd.gw:=if s.on then(if s.dN.step.due then Sd.gw.zero else{s with dN:=s.dN.step})else s
def VQ {s:Sd.gw} {x:Int} {j:List VB} {r:bx} {k:List V->List VB->bx->Prop} {l:List Int} (hb:bV s.dN.n/\bV s.dN.most) (h:C9 r l) (hl:l.length<100)
 (hk:∀a j' r',bu 0 a=af->ak [] a=ak [] (rT (C_ s))->C9 r' (l++(if s.on&&s.dN.step.due then[x]else[]))->k a j' r'):C8 s x j r k:=by
 refine adv hb (λe=>hk _ _ _ rfl ?_ ?_) (λe e2=>hk _ _ _ rfl ?_ ?_) (λe e2=>adw h hl λr' hr=>hk _ _ _ rfl ?_ ?_)
 ·rw[C_,if_neg (by simp[e])];rfl
 ·simpa[e]using h
 ·simp only[C_,e,e2];rfl
 ·simpa[e,e2]using h
 ·simp only[C_,e,e2];kernel_rfl
 ·simpa[e,e2]using hr
def KT (y:TC):VK bx:=λv bl ch=>∃(a:List V) (j:List VB) (r:bx),v=r.v/\bl=⟨af,⟨181,(0,0)⟩,a⟩::j/\bu 0 a=af/\ch=[r]/\ak [] a=ak [] (cP (oF (bJ y).tick y.b y.m))/\C9 r (m8 (we (bJ y)) 0)
def NT (ids:List Nat):∀a b:List V,ak ids (a++b)=ak ids a++ak ids b
 |[],b=>by simp[ak]
 |v::a,b=>by simp only[fm,ak,NT ids a b,bW]
def adx (n:Nat):∀a b:List V,bu n (a++b)=(bu n a&&bu n b)
 |[],b=>by simp[bu]
 |v::a,b=>by simp only[fm,bu,adx n a b,Bool.and_assoc]
def ard (y:TC) (h:NP (bJ y)):ttX y (KT y):=by
 have e0:C9 (.nil 3 1) []:=⟨rfl,rfl,rfl,rfl,sP⟩;have fin:∀(a0:List V) (l:List Int) (j:List VB) (r:bx),bu 0 a0=af->ak [] a0=ak [] [.bool (bJ y).tick.de.1,.int .i64 (bJ y).tick.de.2.n,.int .i64 (bJ y).tick.de.2.most]->C9 r l->l=(if(bJ y).zJ then[0]else[])->
  C8 y.s0 1 j r λa1 j r=>C8 y.sa 2 j r λa2 j r=>C8 y.sb 3 j r λa3 j r=>KT y r.v (adr a0 a1 a2 a3 y.b y.m::j) [r]:=by
  intro a0 l j r w0 ha hr hl;have xf:l.length<=1:=by rw[hl];split<;>simp
  refine VQ h.2.1 hr oM λa1 j1 r1 w1 h1 k1=>?_;refine VQ h.2.2.1 k1 (by simp only[fL];split<;>simp<;>omega) λa2 j2 r2 w2 h2 k2=>?_;refine VQ h.2.2.2 k2 (by simp only[fL];split<;>split<;>simp<;>omega) λa3 j3 r3 w3 h3 k3=>?_;refine⟨_,j3,r3,rfl,rfl,?_,rfl,?_,?_⟩
  ·simp only[adx,w0,w1,w2,w3];rfl
  ·have e:cP (oF (bJ y).tick y.b y.m)=[.bool (bJ y).tick.de.1,.int .i64 (bJ y).tick.de.2.n,.int .i64 (bJ y).tick.de.2.most]++(rT (C_ y.s0)++(rT (C_ y.sa)++(rT (C_ y.sb)++[.int .i64 y.b,.int .i64 y.m]))):=rfl;rw[e];simp only[NT,ha,h1,h2,h3]
  ·have e:m8 (we (bJ y)) 0=l++(if y.s0.on&&y.s0.dN.step.due then[1]else[])++(if y.sa.on&&y.sa.dN.step.due then[2]else[])++(if y.sb.on&&y.sb.dN.step.due then[3]else[]):=by
    rw[hl];have f0:(bJ y).l_ 0=(y.s0.on&&y.s0.dN.step.due):=rfl;have f1:(bJ y).l_ 1=(y.sa.on&&y.sa.dN.step.due):=rfl;have f2:(bJ y).l_ 2=(y.sb.on&&y.sb.dN.step.due):=rfl;simp only[we,m8,f0,f1,f2];cases(bJ y).zJ<;>cases(y.s0.on&&y.s0.dN.step.due)<;>cases(y.sa.on&&y.sa.dN.step.due)<;>cases(y.sb.on&&y.sb.dN.step.due)<;>rfl
   rw[e];exact k3
 have hs:(bJ y).zJ=(y.s1&&(Sd.Timer.step ⟨y.sn,y.sm⟩).due):=rfl;have ht:(bJ y).tick.de=if y.s1 then(if(Sd.Timer.step ⟨y.sn,y.sm⟩).due then(ag,.zero)else(af,Sd.Timer.step ⟨y.sn,y.sm⟩))else(y.s1,⟨y.sn,y.sm⟩):=rfl
 refine adv h.1 (λe=>fin _ [] _ _ rfl ?_ e0 ?_) (λe e2=>fin _ [] _ _ rfl ?_ e0 ?_) (λe e2=>adw e0 sP λr' hr=>fin _ [0] _ _ rfl ?_ hr ?_)
 ·rw[ht,if_neg (by simp[e])];rfl
 ·rw[hs,e];rfl
 ·rw[ht,if_pos e,if_neg (by simp[e2]),e];rfl
 ·rw[hs,e,e2];rfl
 ·rw[ht,if_pos e,if_pos e2];rfl
 ·rw[hs,e,e2];rfl
def ady {n:Nat} {b:VB} (hb:bu n b.c=af):∀{bl:List VB} (i:Nat),bY n bl=af->bY n (bl.set i b)=af
 |[],i,h=>by simp[bY]
 |x::l,0,h=>by simp only[bY,bD,List.set]at h⊢;exact⟨hb,h.2⟩
 |x::l,i+1,h=>by simp only[bY,bD,List.set]at h⊢;exact⟨h.1,ady hb i h.2⟩
def adz (ids:List Nat):∀l:List Int,ak ids (NO l)=l.map (fI .i64)
 |[]=>rfl
 |n::l=>by simp only[NO,ak,cl,den,adz ids l,gb,wJ]
def adA {r:bx} {n:Nat} {B:List ai->VB} (hB:∀(ids:List Nat) (b:Nat) (t:List ai),aC ids b (B t)=⟨b,af,.cells (r.os++t).toArray r.T (0,0)⟩) (hn:r.n=n) {bl:List VB} {ids:List Nat} {ch:List (Gh fr)} {R:List ao} {ms:List Nat} {w0 w:aj} {K:VK (Gh fr)}
 (hl:ids.length=bl.length) (hw:bY bl.length bl=af) (S:St ms w0 (lits ids ids bl++(r.bl++au ch R)) w) (hK:C5 bl ch K n B):
 ∃x more bl' ch',wN r.x r.n r.c=den (ids++more) x/\(ids++more).length=bl'.length/\St ms w0 (lits (ids++more) (ids++more) bl'++au ch' R) w/\K x bl' ch':=by
 obtain⟨h1,h2,h3⟩:=r.h;cases n with
 |zero=>
  refine⟨_,[],bl,ch,?_,by simpa using hl,?_,hK r.x r.c⟩
  ·simp only[den];rw[hn]
  ·rw[cT];exact S.sub (mD (kG _ _) _)
 |succ n=>
  rcases h3 with⟨_,hz,_⟩|⟨b,tail,hx,UX,_⟩
  ·omega
  ·refine⟨_,[b],_,ch,?_,by simp[hl],?_,hK r.c tail⟩
   ·simp only[den];rw[<-hl,lG,hx,hn]
   ·rw[fu _ _ _ _ hl,fw _ _ (by rw[hl];exact hw)];simp only[lits,hB,bW];rw[UX]at S;exact S
def adB (bs:List Bool) (gl:Nat->Option Nat):Sound prog gl 106 (I3 (fr:=fr) bs):=by
 intro args ids bl ch R ms w0 w K hg hl S hc;unfold I3 at hc;split at hc
 ·rename_i it;split at hc
  ·rename_i tc hb;split at hc
   ·rename_i y hy;cases hq:bY bl.length bl with
    |false=>rw[hq]at hc;exact hc.elim
    |true=>
     rw[hq]at hc;obtain⟨⟨hT,hO⟩,hK⟩:=hc;obtain rfl:=yy hy;have hi:=lT hb;obtain⟨r,hr,kl⟩:=Vr hl hi;have p1:=kl bl rfl;have S1:=S.perm (p1.append_right _);rw[ln hb]at S1;have S2:St ms w0 (lits [ids.getD it 0] [ids.getD it 0] [⟨af,⟨181,(0,0)⟩,cP y⟩]++au [bx.nil 3 1] ((r.map λj=>aC ids (ids.getD j 0) (bl.getD j e_))++au ch R)) w:=by
      have e:lits [ids.getD it 0] [ids.getD it 0] [⟨af,⟨181,(0,0)⟩,cP y⟩]=[aC ids (ids.getD it 0) ⟨af,⟨181,(0,0)⟩,cP y⟩]:=by
       simp only[lits,aC];have a:=jl (ids:=[]) (more:=[ids.getD it 0]) (cP y) rfl;have b:=jl (ids:=[]) (more:=ids) (cP y) rfl;simp only[fQ]at a b;rw[a,b]
      rw[e];simpa[au,bx.nil,Bl.B]using S1
     have main:=eZ (kA (Ay gN)).TR (kA (Ay gN)).QR 60 (C:=mT prog gN (qL bx QV)) (args:=[.ptr 0 0]) (K:=KT y) (λg i h=>by cases h) rfl S2 (by rw[arc];exact ard y hT);have a1:(aE ids [.ptr it 0]).toArray=(aE [ids.getD it 0] [.ptr 0 0]).toArray:=rfl;rw[a1];refine main.mono ?_;rintro v w' ⟨x,more,bl',ch',rfl,pD,S3,a,j,r',rfl,rfl,hwa,rfl,ha,hR⟩;have S4:St ms w0 (lits ids ids (bl.set it ⟨af,⟨181,(0,0)⟩,cP (oF (bJ y).tick y.b y.m)⟩)++(r'.bl++au ch R)) w':=by
      have p2:=kl (bl.set it ⟨af,⟨181,(0,0)⟩,cP (oF (bJ y).tick y.b y.m)⟩) sP;have e3:(r.map λj=>aC ids (ids.getD j 0) ((bl.set it ⟨af,⟨181,(0,0)⟩,cP (oF (bJ y).tick y.b y.m)⟩).getD j e_))=r.map λj=>aC ids (ids.getD j 0) (bl.getD j e_):=by
       apply ni;intro j hj;simp only[gd];rw[nQ (Ne.symm (hr j hj))]
      rw[e3,ln (AF hi)]at p2;have e4:lits ([ids.getD it 0]++more) ([ids.getD it 0]++more) (⟨af,⟨181,(0,0)⟩,a⟩::j)=aC ids (ids.getD it 0) ⟨af,⟨181,(0,0)⟩,cP (oF (bJ y).tick y.b y.m)⟩::lits ([ids.getD it 0]++more) more j:=by
       simp only[wJ,lits,aC];have d1:=jl (ids:=[]) (more:=ids.getD it 0::more) a hwa;have d2:=jl (ids:=[]) (more:=ids) (cP (oF (bJ y).tick y.b y.m)) rfl;simp only[fQ]at d1 d2;rw[d1,d2,ha]
      rw[e4]at S3;simp only[au,Bl.B]at S3;have S5:=S3.sub (bs':=aC ids (ids.getD it 0) ⟨af,⟨181,(0,0)⟩,cP (oF (bJ y).tick y.b y.m)⟩::(r'.bl++((r.map λj=>aC ids (ids.getD j 0) (bl.getD j e_))++au ch R))) (by
       rw[fm];exact wL _ (kG _ _))
      refine S5.perm ?_;refine wK ?_ (p2.symm.append_right _);rw[fm];exact vh _ (qR _ _ _)
     obtain⟨x,cn,bl2,ch2,g1,g2,g3,g4⟩:=adA (r:=r') (n:=(m8 bs 0).length) (B:=I2 (m8 bs 0)) (by
      intro ids b t;simp only[aC,I2,NT,adz,hR.2.2.1,hR.1,hO,ak,cl,cT]) (by rw[hR.2.2.2.1,hO]) (by simpa using hl) (by rw[List.length_set];exact ady rF it hq) S4 hK
     exact⟨x,cn,bl2,ch2,by rw[<-g1];simp only[bx.v,den],g2,g3,g4⟩
   ·exact hc.elim
  ·exact hc.elim
 ·exact hc.elim
def kq (e:One):One:=⟨{e.a with dy:=e.a.dy.step},e.came⟩
def AM (most came:Int) (gq:bx) (K:VK bx):List One->List VB->bx->bx->Prop
 |[],j,g1,g2=>K g1.v (cC g2.v most came::j) [g1,g2,gq]
 |e::l,j,g1,g2=>(bV e.a.dy.n/\bV e.a.dy.most)/\True/\cond e.a.dy.step.due
  (apps g1 (ak [] (qn (kq e).a)) λg1=>AM most came gq K l (j++[⟨af,⟨190,(0,0)⟩,uM (kq e)⟩,⟨af,⟨147,(0,0)⟩,qn (kq e).a⟩]) g1 g2)
  (apps g2 (ak [] (uM (kq e))) λg2=>AM most came gq K l (j++[⟨af,⟨190,(0,0)⟩,uM (kq e)⟩,⟨af,⟨190,(0,0)⟩,uM (kq e)⟩]) g1 g2)
def I5 (n:Nat) (most came:Int) (gq:bx) (es:List One) (K:VK bx):Prop:=
 (cC gq.v most came=cC gq.v most came/\gq.T=190/\gq.z=5/\gq.os=iu es/\gq.n=es.length/\es.length=n/\fN es)/\IF n es (λx c=>AM most came gq K [] [] (.nil 147 4) (.nil 190 5)) (λc l t=>AM most came gq K l [dL l t] (.nil 147 4) (.nil 190 5))
section
variable(most came:Int) (gq:bx) (es:List One) (K:VK bx)
abbrev LQ (n:Nat) (es:List One) (most came:Int):List (bK bx):=⟨81,ag,M_ n es most came⟩::qL bx QV
def are:br (mT prog gN (LQ 0 es most came)) 60 110 [.ptr 0 0] [cC gq.v most came] [.nil 147 4,.nil 190 5,gq] K=I5 0 most came gq es K:=kR
def arf:br (mT prog gN (LQ 1 es most came)) 60 110 [.ptr 0 0] [cC gq.v most came] [.nil 147 4,.nil 190 5,gq] K=I5 1 most came gq es K:=kR
def arh:br (mT prog gN (LQ 2 es most came)) 60 110 [.ptr 0 0] [cC gq.v most came] [.nil 147 4,.nil 190 5,gq] K=I5 2 most came gq es K:=kR
def ari:br (mT prog gN (LQ 3 es most came)) 60 110 [.ptr 0 0] [cC gq.v most came] [.nil 147 4,.nil 190 5,gq] K=I5 3 most came gq es K:=kR
end
def KQ (most came:Int) (gq:bx) (G:List Sd.Ask) (ko:List One):VK bx:=λv bl ch=>∃(j:List VB) (g1 g2:bx),v=g1.v/\bl=cC g2.v most came::j/\ch=[g1,g2,gq]/\yx g1 147 4 (rS G) G.length/\yx g2 190 5 (iu ko) ko.length
def adC:∀a b:List One,iu (a++b)=iu a++iu b
 |[],b=>rfl
 |x::a,b=>by simp only[fm,iu,adC a b,bW]
def VR (most came:Int) (gq:bx):∀(l:List One) (j:List VB) (g1 g2:bx) (G:List Sd.Ask) (Kp:List One),yx g1 147 4 (rS G) G.length->yx g2 190 5 (iu Kp) Kp.length->G.length+l.length<100->Kp.length+l.length<100->
 (∀e∈l,bV e.a.dy.n/\bV e.a.dy.most)->AM most came gq (KQ most came gq (G++((l.map kq).map (·.a)).filter λa=>a.dy.due) (Kp++(l.map kq).filter λe=>!e.a.dy.due)) l j g1 g2
 |[],j,g1,g2,G,Kp,h1,h2,_,_,_=>by
  refine⟨j,g1,g2,rfl,rfl,rfl,?_,?_⟩
  ·simpa using h1
  ·simpa using h2
 |e::l,j,g1,g2,G,Kp,h1,h2,l1,l2,hb=>by
  simp only[jf]at l1 l2;refine⟨hb e sP,trivial,aJ (λhd=>UU h1 oM λr' hr=>?_) (λhd=>UU h2 oM λr' hr=>?_)⟩
  ·have gH:(kq e).a.dy.due=af:=hd;have:=VR most came gq l (j++[⟨af,⟨190,(0,0)⟩,uM (kq e)⟩,⟨af,⟨147,(0,0)⟩,qn (kq e).a⟩]) r' g2 (G++[(kq e).a]) Kp (by rw[UT,fL];exact hr) h2 (by simp;omega) oM (λx hx=>hb x (by simp[hx]));simp only[gb,List.filter_cons,gH,if_true,Bool.not_true,Bool.false_eq_true,if_false];simpa[bW]using this
  ·have gH:(kq e).a.dy.due=ag:=hd;have:=VR most came gq l (j++[⟨af,⟨190,(0,0)⟩,uM (kq e)⟩,⟨af,⟨190,(0,0)⟩,uM (kq e)⟩]) g1 r' G (Kp++[kq e]) h1 (by rw[adC,fL];exact hr) oM (by simp;omega) (λx hx=>hb x (by simp[hx]));simp only[gb,List.filter_cons,gH,Bool.false_eq_true,if_false,Bool.not_false,if_true];simpa[bW]using this
def yL (x y:Sd.Ask):Prop:=x.bU<y.bU/\¬x.source=y.source
def arj {es:List One} (h:fN es):(cy es).Pairwise yL:=by
 match es,h with
 |[],_=>simp[cy]
 |[x],_=>simp[cy]
 |[x,y],h=>simp only[fN]at h;simp[cy,yL];exact h
 |[x,y,z],h=>
  simp only[fN]at h;simp only[cy];split
  ·simp[yL];omega
  ·simp[yL];omega
 |_::_::_::_::_,h=>exact absurd h (by simp[fN])
def ark {l:List One} (hl:l.length<=3) (h:(l.map (·.a)).Pairwise yL):fN l/\cy l=l.map (·.a):=by
 match l,hl,h with
 |[],_,_=>exact⟨trivial,rfl⟩
 |[x],_,_=>exact⟨trivial,rfl⟩
 |[x,y],_,h=>simp[yL]at h;exact⟨h,rfl⟩
 |[x,y,z],_,h=>
  simp[yL]at h;refine⟨⟨⟨h.1.1.1,h.1.2.1,oM⟩,h.1.1.2,h.1.2.2,h.2.2⟩,?_⟩;simp only[cy,if_pos h.2.1];rfl
def arl {L:List Sd.Ask} (h:L.Pairwise yL):(Sd.Q.oX L).Pairwise yL:=by
 unfold Sd.Q.oX;rw[List.pairwise_map];exact h
def arn {bq:Nat} {most:Int} {L:List Sd.Ask} {B bs:List ao} {ms:List Nat} {w0 w:aj} (hQ:QS bq most L B) (hB:∀a∈L,bV a.dy.n/\bV a.dy.most) (S0:St ms w0 (B++bs) w):
 aX prog 110 #[.pointer (aa ⟨bq,0,ae⟩)] w λv w1=>∃(B':List ao) (r:bx),v=.slice r.x r.n r.c/\yx r 147 4 (rS (Sd.Q.gone L)) (Sd.Q.gone L).length/\QS bq most (Sd.Q.kept L) B'/\St ms w0 (r.bl++(B'++bs)) w1:=by
 obtain⟨es,x,c,came,rows,rfl,hr,hH,rfl⟩:=hQ;obtain⟨Nb,oz⟩:=UW hH
 let gq:bx:=⟨190,5,iu es,x,es.length,c,rows,hr⟩
 have S1:St ms w0 (lits [bq] [bq] [cC gq.v most came]++au [bx.nil 147 4,.nil 190 5,gq] bs) w:=by simpa[lits,au,Bl.B,bx.nil,gq,aC,cC,bx.v,ak,cl,den]using S0
 let KK:VK bx:=λv bl ch=>∃l:List One,l.map (·.a)=cy es/\l.length=es.length/\KQ most came gq (((l.map kq).map (·.a)).filter λa=>a.dy.due) ((l.map kq).filter λe=>!e.a.dy.due) v bl ch
 have hq:∀(l:List One) (j:List VB),l.map (·.a)=cy es->l.length=es.length->AM most came gq KK l j (.nil 147 4) (.nil 190 5):=by
  intro l j hm hl;have h1:=VR most came gq l j (.nil 147 4) (.nil 190 5) [] [] ⟨rfl,rfl,rfl,rfl⟩ ⟨rfl,rfl,rfl,rfl⟩ (by simp;omega) (by simp;omega) (λe he=>hB e.a (by rw[<-hm];exact n8.2 ⟨e,he,rfl⟩));have mono:∀(l:List One) (j:List VB) (g1 g2:bx) (K K':VK bx),(∀v bl ch,K v bl ch->K' v bl ch)->AM most came gq K l j g1 g2->AM most came gq K' l j g1 g2:=by
   intro l;induction l with
   |nil=>intro j g1 g2 K K' h hk;exact h _ _ _ hk
   |cons e l ih=>
    intro j g1 g2 K K' h hk;obtain⟨a1,a2,a3⟩:=hk;refine⟨a1,a2,?_⟩;cases hd:e.a.dy.step.due with
    |true=>rw[hd]at a3;exact⟨a3.1,λxa c bk hh=>ih _ _ _ K K' h (a3.2 xa c bk hh)⟩
    |false=>rw[hd]at a3;exact⟨a3.1,λxa c bk hh=>ih _ _ _ K K' h (a3.2 xa c bk hh)⟩
  exact mono _ _ _ _ _ _ (λv bl ch hk=>⟨l,hm,hl,by simpa using hk⟩) h1
 have hA:I5 es.length most came gq es KK:=by
  refine⟨⟨rfl,rfl,rfl,rfl,rfl,rfl,hH⟩,acN oz (λh0 x c=>hq [] [] ?_ ?_) (λl c t hm hl=>hq l _ hm hl)⟩
  ·rw[lz h0];rfl
  ·rw[h0];rfl
 have cV:br (mT prog gN (LQ es.length es most came)) 60 110 [.ptr 0 0] [cC gq.v most came] [.nil 147 4,.nil 190 5,gq] KK:=by
  rcases(by omega:es.length=0\/es.length=1\/es.length=2\/es.length=3)with h|h|h|h<;>rw[h]at hA⊢
  ·rw[are];exact hA
  ·rw[arf];exact hA
  ·rw[arh];exact hA
  ·rw[ari];exact hA
 have dI:aH prog gN (LQ es.length es most came):=aH.cons ⟨acO _ es most came,λe=>by cases e⟩ (kA (Ay gN));have main:=eZ dI.TR dI.QR 60 (C:=mT prog gN (LQ es.length es most came)) (args:=[.ptr 0 0]) (K:=KK) (λg i h=>by cases h) rfl S1 cV;refine Calls.mono main ?_;rintro e w' ⟨v,rfl,xx,more,bl',ch',rfl,pD,S3,l,hm,hl,j,g1,g2,rfl,rfl,rfl,h1,h2⟩;have hg:Sd.Q.gone (cy es)=((l.map kq).map (·.a)).filter λa=>a.dy.due:=by
  rw[<-hm];simp only[Sd.Q.gone,Sd.Q.oX,l5];rfl
 have hk:Sd.Q.kept (cy es)=((l.map kq).filter λe=>!e.a.dy.due).map (·.a):=by
  rw[<-hm];simp only[Sd.Q.kept,Sd.Q.oX,l5,List.filter_map];rfl
 have hko:((l.map kq).filter λe=>!e.a.dy.due).length<=3:=by
  have:=KH (λe:One=>!e.a.dy.due) (l.map kq);simp at this⊢;omega
 obtain⟨UZ,hab⟩:=ark hko (by rw[<-hk];exact(arl (arj hH)).filter _);obtain⟨t1,t2,t3,t4⟩:=h2;have um:=g2.h;rw[t1,t2,t3,t4]at um;refine⟨_,rfl,⟨bq,af,.cells #[.slice g2.x ((l.map kq).filter λe=>!e.a.dy.due).length g2.c,.int .i64 most,.int .u64 came] 170 (0,0)⟩::g2.bl,g1,?_,?_,?_,?_⟩
 ·simp only[bx.v,den]
 ·rw[hg];exact h1
 ·exact⟨_,g2.x,g2.c,came,g2.bl,rfl,um,UZ,by rw[hab,hk]⟩
 ·have e1:lits ([bq]++more) ([bq]++more) (cC g2.v most came::j)=⟨bq,af,.cells #[.slice g2.x g2.n g2.c,.int .i64 most,.int .u64 came] 170 (0,0)⟩::lits ([bq]++more) more j:=rfl;rw[e1,t4]at S3;have S4:=S3.sub (bs':=⟨bq,af,.cells #[.slice g2.x ((l.map kq).filter λe=>!e.a.dy.due).length g2.c,.int .i64 most,.int .u64 came] 170 (0,0)⟩::(g1.bl++(g2.bl++bs))) (by
   rw[fm];refine wL _ ?_;refine agk ?_ (kG _ _);exact mD (mD (kG _ _) _) _)
  refine S4.perm ?_;exact kH.symm
def adD (gl:Nat->Option Nat):Sound prog gl 110 (I4 (fr:=fr)):=by
 intro args ids bl ch R ms w0 w K hg hl S hc;unfold I4 at hc;split at hc
 ·rename_i vp g rest;cases hq:bY bl.length bl with
  |false=>rw[hq]at hc;exact hc.elim
  |true=>
   rw[hq]at hc;obtain⟨⟨rfl,hb⟩,hK⟩:=hc;have e0:au (g::rest) R=g.F.B++au rest R:=rfl;rw[e0,tJ]at S;have hL:=arn g.F.hq hb (S.perm (CS _ _ _ _ _ _ _));have ea:(aE ids [.raw (vq g.d.k)]).toArray=#[.pointer (aa ⟨g.d.k.bq,0,ae⟩)]:=rfl;rw[ea];refine hL.mono ?_;rintro v w1 ⟨B',r,rfl,hr,NU,S1⟩;obtain⟨k0,k1,k2,k3⟩:=hK B' NU;have S2:St ms w0 (lits ids ids bl++(r.bl++au (⟨{g.d with q:=Sd.Q.kept g.d.q},g.dx,g.sx,g.F.cE _ B' NU⟩::rest) R)) w1:=by
    have e1:au (⟨{g.d with q:=Sd.Q.kept g.d.q},g.dx,g.sx,g.F.cE _ B' NU⟩::rest:List (Gh fr)) R=(g.F.Br++(g.F.Bs++(g.F.Bf++(B'++g.F.Bk))))++au rest R:=rfl;rw[e1];refine S1.perm ?_;refine(j4 r.bl (CS (lits ids ids bl) _ _ _ _ _ _).symm).trans ?_;exact qR _ _ _
   have hlen:(Sd.Q.gone g.d.q).length<=3:=by
    have h1:=adk g.F.hq;have:=KH (λa:Sd.Ask=>a.dy.due) (Sd.Q.oX g.d.q);simp only[Sd.Q.gone,Sd.Q.oX,Gs]at this⊢;omega
   have fin:∀(A:List Sd.Ask) (n:Nat),Sd.Q.gone g.d.q=A->A.length=n->C5 bl (⟨{g.d with q:=Sd.Q.kept g.d.q},g.dx,g.sx,g.F.cE _ B' NU⟩::rest) K n (lU A)->
    ∃x more bl' ch',wN r.x r.n r.c=den (ids++more) x/\(ids++more).length=bl'.length/\St ms w0 (lits (ids++more) (ids++more) bl'++au ch' R) w1/\K x bl' ch':=by
    rintro A n hA rfl hk;obtain⟨t1,t2,t3,t4⟩:=hr;rw[hA]at t3 t4;exact adA (r:=r) (B:=lU A) (λids b t=>by simp only[aC,lU,NT,VF,t3,t1,ak,cl,cT]) t4 hl hq S2 hk
   match hG:Sd.Q.gone g.d.q with
   |[]=>exact fin [] 0 hG rfl (k0 hG)
   |[a]=>exact fin [a] 1 hG rfl (k1 a hG)
   |[a,b]=>exact fin [a,b] 2 hG rfl (k2 a b hG)
   |[a,b,d]=>exact fin [a,b,d] 3 hG rfl (k3 a b d hG)
   |_::_::_::_::_=>rw[hG]at hlen;simp at hlen
 ·exact hc.elim
def jU (n:Nat) (f:Nat->Int):Sd.bQ:=match aY n f with
 |some m=>m
 |none=>Sd.w_ 0
def uW (n:Nat) (f:Nat->Int):Int:=match aY n f with
 |some _=>0
 |none=>13
def yM (n:Nat) (f:Nat->Int):V:=.ay [.agg (dg (jU n f)),.int .i64 (uW n f)]
def VS (n:Nat) (f:Nat->Int):pI n f=yM n f:=by
 unfold pI yM jU uW;cases aY n f<;>rfl
def VT (n:Nat) (f:Nat->Int):da 0 (yM n f)=af:=rfl
def aro (x:Option aI) (c:Nat) (X:V->Prop):br (s9 prog mV Fi) 90 120 [.raw (.slice x 0 c)] [] [] (λv _ _=>X v)=X pB:=kR
def take_nil (x:Option aI) (c:Nat) (f:Nat->Int) (w:aj):aX prog 120 #[.slice x 0 c] w λv w1=>v=den [] (pI 0 f)/\Ch [] w w1:=by
 have cV:br (s9 prog mV Fi) 90 120 [.raw (.slice x 0 c)] [] [] (λv _ _=>v=pB):=by rw[aro]
 refine(eZ ND.TS ND.QS 90 (C:=s9 prog mV Fi) (ids:=[]) (bl:=[]) (ch:=[]) (R:=[]) (ms:=[]) (w0:=w) (args:=[.raw (.slice x 0 c)]) (λg i h=>by cases h) rfl (St.nil [] w) cV).mono ?_;rintro v w' ⟨x,more,bl',ch',rfl,pD,S2,rfl⟩;refine⟨?_,S2.ch⟩;have:=g_ (ids:=[]) (more:=[]++more) pB rfl;have e:pI 0 f=pB:=rfl;rw[e];simpa using this
def adE {b m n c:Nat} {f:Nat->Int} {t:List ai} {w:aj} (hf:By f) (hn:n<=m) (hc:n<=c) (hB:w.heap[b]?=aa (.cells ((bo m).map (λj=>fI .u8 (f j))++t).toArray 5 (0,0))):
 aX prog 120 #[.slice (aa ⟨b,0,ae⟩) n c] w λv w1=>v=den [] (pI n f)/\Ch [] w w1:=by
 refine aqm b n c f (((bo m).map (λj=>fI .u8 (f j))).drop n++t) hf hc w ?_;have e:(bo n).map (λj=>fI .u8 (f j))=((bo m).map (λj=>fI .u8 (f j))).take n:=by
  rw[<-List.map_take,List.take_range,Nat.min_eq_left hn]
 rw[e,<-bW,jH];exact hB
def NV:QF:=⟨120,λargs bl=>match args with
 |[.sl i 0 n c]=>(match bl[i]?with
  |some b=>(match b.c with
   |[.cv .u8 m f,.rest t]=>bif zR b.ty 5 then aa ((n<=m/\n<=c/\By f),yM n f)else ae
   |_=>ae)
  |none=>ae)
 |[.raw (.slice x 0 c)]=>aa (True,yM 0 λ_=>0)
 |_=>ae⟩
def adF (gl:Nat->Option Nat):NV.Ok prog gl:=by
 intro args bl p v h hp ids w hg hm;unfold NV at h;dsimp only at h;split at h
 ·rename_i i n c;split at h
  ·rename_i b hb;split at h
   ·rename_i m f t hc;cases hq:zR b.ty 5 with
    |false=>rw[hq]at h;cases h
    |true=>
     rw[hq]at h;simp only[cond_true,aW,bC]at h;obtain⟨rfl,rfl⟩:=h;have aS:=hm.2 i b hb;rw[hc,Q8 hq]at aS;have e:(ak ids [V.cv .u8 m f,.rest t]).toArray=((bo m).map (λj=>fI .u8 (f j))++t).toArray:=by simp[ak,cl]
     rw[e]at aS;refine(adE hp.2.2 hp.1 hp.2.1 aS).mono ?_;rintro x w' ⟨rfl,cz⟩;refine⟨?_,cz⟩;rw[VS];have:=g_ (ids:=[]) (more:=ids) (yM n f) (VT n f);simpa using this.symm
   ·cases h
  ·cases h
 ·rename_i x c;obtain⟨rfl,rfl⟩:True=p/\yM 0 (λ_=>0)=v:=by simpa using h
  refine(take_nil x c (λ_=>0) w).mono ?_;rintro y w' ⟨rfl,cz⟩;refine⟨?_,cz⟩;rw[VS];have:=g_ (ids:=[]) (more:=ids) (yM 0 λ_=>0) (VT 0 _);simpa using this.symm
 ·cases h
def arp:Sound prog gS 120 (C4 (fr:=fr) (aP aY)):=by
 intro args ids bl ch R ms w0 w K hg hl S hc;unfold C4 at hc;split at hc
 ·rename_i vp g rest;obtain⟨⟨rfl,hn,hf⟩,h1,h2⟩:=hc;have e0:au (g::rest) R=g.F.B++au rest R:=rfl;have S':=S;rw[e0]at S';have main:aX prog 120 #[.slice g.d.k.px g.d.k.pn g.d.k.pc] w λv w1=>v=den [] (pI g.d.k.pn g.d.k.pf)/\Ch [] w w1:=by
   obtain⟨b0,b1,b2,b3,b4,hB,k0,k1,k2,k3,k4⟩:=g.F.hk;have aS:∀y∈g.F.Bk,w.heap[y.id]?=aa y.obj:=λy hy=>S'.at' (by rw[tJ];simp[hy]);rw[hB]at aS;obtain⟨hle,h|⟨b,hx,hb⟩⟩:=k4
   ·obtain⟨_,hz,_,_⟩:=h;rw[hz];exact take_nil _ _ _ w
   ·have h4:=aS ⟨b,af,.cells (bE g.d.k.pn g.d.k.pf g.d.k.pc) 5 (0,0)⟩ (by simp[hb]);rw[hx];have e:∃t,bE g.d.k.pn g.d.k.pf g.d.k.pc=((bo g.d.k.pn).map (λj=>fI .u8 (g.d.k.pf j))++t).toArray:=by
     exact⟨n_ (g.d.k.pc-g.d.k.pn) (.int .u8 0),by unfold bE;congr 2⟩
    obtain⟨t,e⟩:=e;rw[e]at h4;exact adE hf (cY _) hle h4
  have ea:(aE ids [.raw (fa g.d.k)]).toArray=#[.slice g.d.k.px g.d.k.pn g.d.k.pc]:=rfl;rw[ea];refine main.mono ?_;rintro v w1 ⟨rfl,cz⟩;refine⟨pI g.d.k.pn g.d.k.pf,[],bl,g::rest,?_,by simpa using hl,by simpa using S.quiet cz,?_⟩
  ·rw[VS];have:=g_ (ids:=[]) (more:=ids++[]) (yM g.d.k.pn g.d.k.pf) (VT _ _);simpa using this.symm
  ·unfold pI;cases h:aY g.d.k.pn g.d.k.pf with
   |some m=>exact h1 m h
   |none=>exact h2 h (Sd.w_ 0) 13 dC
 ·exact hc.elim
def arq (ht:Body (fr:=fr) 124 dt):Body (fr:=fr) 91 (Fp (aP aY)):=aq5 aY ht arp
def pY (b m:Int):Sd.aU:=⟨λi=>if i=42 then b else if i=49 then m else 0,λ_=>(0,λ_=>0)⟩
def adG:QT:=⟨126,λar y=>match ar with
 |[.int .i64 s,.int .i64 r,.agg [.cv .u8 32 key]]=>aa ((0<=y.b/\y.b<=1000)/\1<=s/\s<=3,.int .i64 (Sd.aN.fk (pY y.b y.m) (bJ y) s r key).2,(Sd.aN.fk (pY y.b y.m) (bJ y) s r key).1)
 |_=>ae⟩
def ars:adG.Ok:=by
 intro ar y p v t hm hp bt bs ms w0 w S;replace hm:(match(generalizing:=false) ar with
  |[.int .i64 s,.int .i64 r,.agg [.cv .u8 32 key]]=>aa ((0<=y.b/\y.b<=1000)/\1<=s/\s<=3,V.int .i64 (Sd.aN.fk (pY y.b y.m) (bJ y) s r key).2,(Sd.aN.fk (pY y.b y.m) (bJ y) s r key).1)
  |_=>ae)=aa (p,v,t):=hm
 split at hm
 ·rename_i s r key;simp only[aW,bC]at hm;obtain⟨rfl,rfl,rfl⟩:=hm;obtain⟨hb,h1,h3⟩:=hp;rcases(by omega:s=1\/s=2\/s=3)with rfl|rfl|rfl
  ·exact U_ y 0 oM r key (pY y.b y.m) rfl rfl S
  ·exact U_ y 1 oM r key (pY y.b y.m) rfl rfl S
  ·exact U_ y 2 oM r key (pY y.b y.m) rfl rfl S
 ·cases hm
def I6:dk (Gh fr):=λargs bl ch K=>match args,ch with
 |[.agg [.int .i64 m,.bool o,.cv .u8 8 nc],.raw vk,.int .i64 s,.int .i64 r,.agg [.cv .u8 8 pf]],g::rest=>
  (vk=.slice (g.d.k.ka (s.toNat-1)) (g.d.k.kn (s.toNat-1)) (g.d.k.kc (s.toNat-1))/\bl[0]?=aa (b_ g.d.k)/\(1<=s/\s<=3)/\(0<=r/\r<4294967296)/\(1<=g.d.k.kn (s.toNat-1)/\g.d.k.kn (s.toNat-1)<=64))/\
  cond (!o) (K (.ay [.agg [.int .i64 m,.bool o,.cv .u8 8 nc],.agg [.cv .u8 32 λ_=>0],.int .i64 17]) bl (g::rest))
   (cond (As (g.d.k.kn (s.toNat-1)) (g.d.k.kf (s.toNat-1)) s r nc pf)
    (K (.ay [.agg [.int .i64 m,.bool ag,.cv .u8 8 λ_=>0],.agg [.cv .u8 32 (lO (g.d.k.kn (s.toNat-1)) (g.d.k.kf (s.toNat-1)) s r nc)],.int .i64 0]) bl (g::rest))
    (K (.ay [.agg [.int .i64 m,.bool ag,.cv .u8 8 λ_=>0],.agg [.cv .u8 32 λ_=>0],.int .i64 14]) bl (g::rest)))
 |_,_=>False
def art:jo (I6 (fr:=fr)):=by
 intro args bl ch K h;unfold I6 at h⊢;split at h
 ·rename_i m o nc vk s r pf g rest;refine⟨h.1,?_⟩;have h2:=h.2;cases o with
  |false=>exact⟨h2,[],sP⟩
  |true=>
   cases hr:As (g.d.k.kn (s.toNat-1)) (g.d.k.kf (s.toNat-1)) s r nc pf with
   |true=>rw[hr]at h2;exact⟨h2,[],sP⟩
   |false=>rw[hr]at h2;exact⟨h2,[],sP⟩
 ·exact h.elim
def aru:Sound prog gS 125 (I6 (fr:=fr)):=by
 intro args ids bl ch R ms w0 w K hg hl S hc;unfold I6 at hc;split at hc
 ·rename_i m o nc vk s r pf g rest;obtain⟨⟨rfl,hr,hs,NW,hk⟩,hK⟩:=hc;have e0:au (g::rest) R=g.F.B++au rest R:=rfl;have S':=S;rw[e0]at S';have hi:s.toNat-1<4:=oM;have AJ:=ado g.F S' (s.toNat-1) hi oM oM;have kp:=adp hg hl S hr;generalize hI:s.toNat-1=i at*;have e:(aE ids [.agg [.int .i64 m,.bool o,.cv .u8 8 nc],.raw (.slice (g.d.k.ka i) (g.d.k.kn i) (g.d.k.kc i)),.int .i64 s,.int .i64 r,.agg [.cv .u8 8 pf]]).toArray=#[.agg #[.int .i64 m,.bool o,.int .u8 (nc 0),.int .u8 (nc 1),.int .u8 (nc 2),.int .u8 (nc 3),.int .u8 (nc 4),.int .u8 (nc 5),.int .u8 (nc 6),.int .u8 (nc 7)],.slice (g.d.k.ka i) (g.d.k.kn i) (g.d.k.kc i),.int .i64 s,.int .i64 r,.agg (aD .u8 8 pf)]:=kR;rw[e];have K5:0<=s/\s<4294967296:=oM;cases o with
  |false=>
   refine(al7 (g.d.k.ka i) (g.d.k.kn i) (g.d.k.kc i) (g.d.k.kf i) s r ⟨m,ag,nc⟩ pf rfl w).mono ?_;rintro v w1 ⟨rfl,cz⟩;exact⟨_,[],bl,g::rest,kR,by simpa using hl,by simpa using S.quiet cz,hK⟩
  |true=>
   cases hq:As (g.d.k.kn i) (g.d.k.kf i) s r nc pf with
   |true=>
    rw[hq]at hK;refine(al9 (g.d.k.ka i) (g.d.k.kn i) (g.d.k.kc i) (g.d.k.kf i) s r ⟨m,af,nc⟩ pf hk K5 NW rfl hq w kp AJ).mono ?_;rintro v w1 ⟨rfl,cz⟩;exact⟨.ay [.agg [.int .i64 m,.bool ag,.cv .u8 8 λ_=>0],.agg [.cv .u8 32 (lO (g.d.k.kn i) (g.d.k.kf i) s r nc)],.int .i64 0],[],bl,g::rest,kR,by simpa using hl,by simpa using S.quiet cz,hK⟩
   |false=>
    rw[hq]at hK;refine(al8 (g.d.k.ka i) (g.d.k.kn i) (g.d.k.kc i) (g.d.k.kf i) s r ⟨m,af,nc⟩ pf hk K5 NW rfl hq w kp AJ).mono ?_;rintro v w1 ⟨rfl,cz⟩;exact⟨.ay [.agg [.int .i64 m,.bool ag,.cv .u8 8 λ_=>0],.agg [.cv .u8 32 λ_=>0],.int .i64 14],[],bl,g::rest,kR,by simpa using hl,by simpa using S.quiet cz,hK⟩
 ·exact hc.elim
def LP (fr:Sd.aO->Nat×Sd.ax) (C:Sd.aL):List (bK (Gh fr)):=qE (Gh fr) NV::⟨125,af,I6⟩::⟨126,ag,Ff adG⟩::L8 fr C
def arv (tk:Nat->Sd.ax->Option Sd.bQ) (ht:Body (fr:=fr) 124 dt):aH prog gS (LP fr (aP tk)):=
 aH.cons ⟨LU (adF gS),λ_=>LS _⟩ (aH.cons ⟨aru,λ_=>art⟩ (aH.cons (Vs ars) (C3 tk ht)))
def fA (n:Nat) (f:Nat->Int) (t:List ai):VB:=⟨af,⟨5,(0,0)⟩,[.cv .u8 n f,.rest t]⟩
def VU (k:LK) (s:Sd.ah) (n:Nat) (f:Nat->Int) (t:List ai) (Kb:SK fr k):V->List VB->List (Gh fr)->Prop:=λv bl ch=>∃s' F',da 0 v=af/\s'.c.p=s.c.p/\Kb v s' F'/\bl.take 6=bI k s' F'++[fA n f t]/\ch=[a_ k s' F']
def I7 (s:Sd.ah) (a b c:Sd.eS) (E:Sd.aN):Sd.ah:={s with c:={s.c with doors:=r3 a b c s.c.doors,aq:=⟨E.de,r3 (E.az 0) (E.az 1) (E.az 2) s.c.aq.az⟩}}
def Fv (s:Sd.ah) (l r:Int) (key:Nat->Int):Sd.aN×Int:=Sd.aN.fk (pY s.c.p.cO s.c.p.iM) (dX s.c.aq) l r key
section
variable(C:Sd.aL) (k:LK) (s:Sd.ah) (F:ba fr (a9 k s)) (Kb:SK fr k) (l:Int) (i:Nat) (e:Nat) (f:Nat->Int) (t:List ai) (D:Sd.eS->Sd.ah) (DT:Sd.eS->Sd.aN->Sd.ah)
def lf (s0:Sd.ah) (s':Sd.ah) (F':ba fr (a9 k s')):Prop:=VU k s0 10 f t Kb (.ay []) (bI k s' F'++[fA 10 f t]) [a_ k s' F']
def lr (d:Sd.eS):Sd.eS:=⟨d.many,ag,λ_=>0⟩
def VV (hD:∀e,a9 k (D e)=a9 k s) (wg:∀e E,a9 k (DT e E)=a9 k s):Prop:=
 let d:=s.c.doors i
 let m:=jU 2 f
 let key:=lO (k.kn i) (k.kf i) l m.role d.aK
 let E:=Fv s l m.role key
 (2<=10/\2<=e+10/\By f)/\cond (uW 2 f !=0) (cq k s F/\rU C [.int .i64 l,.int .i64 13] k (bO s) F λv s' F'=>lf k Kb f t s s' F')
 ((wN (k.ka i) (k.kn i) (k.kc i)=.slice (k.ka i) (k.kn i) (k.kc i)/\aa (b_ k)=aa (b_ k)/\(1<=l/\l<=3)/\(0<=m.role/\m.role<4294967296)/\(1<=k.kn i/\k.kn i<=64))/\
   cond (!d.ji) (cq k (D d) (hD d▸F)/\m6 C [.int .i64 l,.int .i64 0,.int .i64 17] k (D d) (hD d▸F) λv s' F'=>lf k Kb f t s s' F')
   (cond (As (k.kn i) (k.kf i) l m.role d.aK λj=>f (2+j))
    (True/\cond (!(Sd.vB s.c.p l m.role)) (cq k (D (lr d)) (hD (lr d)▸F)/\m6 C [.int .i64 l,.int .i64 0,.int .i64 18] k (D (lr d)) (hD (lr d)▸F) λv s' F'=>lf k Kb f t s s' F')
     (((0<=s.c.p.cO/\s.c.p.cO<=1000)/\1<=l/\l<=3)/\cond (E.2!=0) (cq k (DT (lr d) E.1) (wg (lr d) E.1▸F)/\m6 C [.int .i64 l,.int .i64 0,.int .i64 E.2] k (DT (lr d) E.1) (wg (lr d) E.1▸F) λv s' F'=>lf k Kb f t s s' F')
       (cq k (DT (lr d) E.1) (wg (lr d) E.1▸F)/\dt [.int .i64 l,.agg (mZ 130 0 m.role s.c.t.aF s.c.t.an 0)] k (DT (lr d) E.1) (wg (lr d) E.1▸F) λv s2 F2=>
        cq k s2 F2/\iS C [.int .i64 3,.int .i64 l,.int .i64 0,.int .i64 0,.int .i64 0] k (bO s2) F2 λv s' F'=>lf k Kb f t s s' F')))
    (cq k (D (lr d)) (hD (lr d)▸F)/\rU C [.int .i64 l,.int .i64 14] k (D (lr d)) (hD (lr d)▸F) λv s' F'=>lf k Kb f t s s' F')))
end
def VW (fr:Sd.aO->Nat×Sd.ax) (C:Sd.aL) (l:Int) (i:Nat) (D:Sd.ah->Sd.eS->Sd.ah) (DT:Sd.ah->Sd.eS->Sd.aN->Sd.ah) (hD:∀k s e,a9 k (D s e)=a9 k s) (wg:∀k s e E,a9 k (DT s e E)=a9 k s):Prop:=∀(k:LK) (s:Sd.ah) (F:ba fr (a9 k s)) (Kb:SK fr k) (e:Nat) (f:Nat->Int) (t:List ai),
 br (bM prog gS (LP fr C)) 90 92 [.ptr 2 0,.int .i64 l,.sl 5 0 10 (e+10)] (bI k s F++[fA 10 f t]) [a_ k s F] (VU k s 10 f t Kb)=VV C k s F Kb l i e f t (D s) (DT s) (hD k s) (wg k s)
def arw (fr:Sd.aO->Nat×Sd.ax) (C:Sd.aL):VW fr C 1 0 (λs e=>AK s e (s.c.doors 1) (s.c.doors 2)) (λs e E=>I7 s e (s.c.doors 1) (s.c.doors 2) E) (λ_ _ _=>rfl) (λ_ _ _ _=>rfl):=λk s F Kb e f t=>kR
def arx (fr:Sd.aO->Nat×Sd.ax) (C:Sd.aL):VW fr C 2 1 (λs e=>AK s (s.c.doors 0) e (s.c.doors 2)) (λs e E=>I7 s (s.c.doors 0) e (s.c.doors 2) E) (λ_ _ _=>rfl) (λ_ _ _ _=>rfl):=λk s F Kb e f t=>kR
def ary (fr:Sd.aO->Nat×Sd.ax) (C:Sd.aL):VW fr C 3 2 (λs e=>AK s (s.c.doors 0) (s.c.doors 1) e) (λs e E=>I7 s (s.c.doors 0) (s.c.doors 1) e E) (λ_ _ _=>rfl) (λ_ _ _ _=>rfl):=λk s F Kb e f t=>kR
def arz (fr:Sd.aO->Nat×Sd.ax) (C:Sd.aL) (k:LK) (s:Sd.ah) (F:ba fr (a9 k s)) (Kb:SK fr k) (l:Int):br (bM prog gS (LP fr C)) 90 92 [.ptr 2 0,.int .i64 l,.raw (fa k)] (bI k s F) [a_ k s F] (cM k s Kb)
 =cond ((k.pn:Int)!=10) (cq k s F/\rU C [.int .i64 l,.int .i64 13] k (bO s) F λv s' F'=>cM k s Kb (.ay []) (bI k s' F') [a_ k s' F']) (((0:Int)<=2/\(2:Int)<=(k.pc:Int))/\False):=kR
structure NX (k:LK) (s:Sd.ah) (l:Int):Prop where
 r:Rm s 8
 lo:1<=l/\l<=3
 key:1<=k.kn (l.toNat-1)/\k.kn (l.toNat-1)<=64
 ke:s.c.p.k (l.toNat-1)=(k.kn (l.toNat-1),k.kf (l.toNat-1))
 cO:0<=s.c.p.cO/\s.c.p.cO<=1000
 eK:N4 s.c.t.aF
 ep:v7 s.c.t.an
def Da (s:Sd.ah) (i:Nat) (e:Sd.eS) (t:Sd.aN):Sd.ah:={s with c:={s.c with doors:=λj=>if j=i then e else s.c.doors j,aq:=t}}
def I8 (s:Sd.ah) (l r:Int) (key:Nat->Int):(Fv s l r key).2=(Sd.aN.fk s.c.p s.c.aq l r key).2/\(Fv s l r key).1.de=(Sd.aN.fk s.c.p s.c.aq l r key).1.de/\(1<=l/\l<=3->(∀j,j<3->(Fv s l r key).1.az j=(Sd.aN.fk s.c.p s.c.aq l r key).1.az j)/\∀j,(Sd.aN.fk s.c.p s.c.aq l r key).1.az (j+3)=s.c.aq.az (j+3)):=by
 have hm:(dX s.c.aq).many=s.c.aq.many:=rfl;have hp:(pY s.c.p.cO s.c.p.iM).iM=s.c.p.iM:=rfl;have hb:(pY s.c.p.cO s.c.p.iM).cO=s.c.p.cO:=rfl;have q3:∀j,j<3->(dX s.c.aq).az j=s.c.aq.az j:=by
  intro j hj;have:j=0\/j=1\/j=2:=oM;rcases this with rfl|rfl|rfl<;>rfl
 unfold Fv Sd.aN.fk;rw[IJ,hm,hp,hb];split
 ·exact⟨rfl,rfl,λ_=>⟨q3,λ_=>rfl⟩⟩
 ·split
  ·exact⟨rfl,rfl,λ_=>⟨q3,λ_=>rfl⟩⟩
  ·refine⟨rfl,rfl,λhl=>⟨λj hj=>?_,λj=>?_⟩⟩
   ·simp only[Sd.aN.gO];split
    ·rfl
    ·exact q3 j hj
   ·simp only[Sd.aN.gO];rw[if_neg oM]
def VY {s:Sd.ah} {a b c:Sd.eS} {i:Nat} {e:Sd.eS} {E t:Sd.aN} (hi:i<3) (ha:a=if 0=i then e else s.c.doors 0) (hb:b=if 1=i then e else s.c.doors 1) (hc:c=if 2=i then e else s.c.doors 2) (h1:E.de=t.de) (h2:∀j,j<3->E.az j=t.az j) (h3:∀j,t.az (j+3)=s.c.aq.az (j+3)):I7 s a b c E=Da s i e t:=by
 unfold I7 Da;have h:r3 a b c s.c.doors=λj=>if j=i then e else s.c.doors j:=by
  funext j
  match j with
  |0=>exact ha
  |1=>exact hb
  |2=>exact hc
  |j+3=>exact(if_neg oM).symm
 have e:r3 (E.az 0) (E.az 1) (E.az 2) s.c.aq.az=t.az:=by
  funext j
  match j with
  |0=>exact h2 0 dC
  |1=>exact h2 1 dC
  |2=>exact h2 2 dC
  |j+3=>exact(h3 j).symm
 rw[h,e,h1]
def NY {k:LK} {s0:Sd.ah} {Kb:SK fr k} {f:Nat->Int} {t:List ai} {s' sF:Sd.ah} (e:s'=sF) (hK:∀F,Kb (.ay []) sF F) (F':ba fr (a9 k s')) (hp:s'.c.p=s0.c.p:=by rfl):lf k Kb f t s0 s' F':=by
 subst e;exact⟨s',F',rfl,hp,hK F',rfl,rfl⟩
def NZ {n:Nat} {f:Nat->Int} (P:Sd.bQ->Prop):∀(l:List Fd) (off:Nat) (m r:Sd.bQ),(∀d∈l,∀v,d.low<=v->v<=d.high->∀m,P m->P (d.set v m))->P m->runM n f l off m=aa r->P r
 |[],off,m,r,_,hm,h=>by
  unfold runM at h;split at h
  ·cases h;exact hm
  ·cases h
 |d::l,off,m,r,hd,hm,h=>by
  unfold runM at h;split at h
  ·cases h
  ·split at h
   ·cases h
   ·rename_i hv;exact NZ P l _ _ r (λx hx=>hd x (by simp[hx])) (hd d sP _ oM oM m hm) h
structure N0 (k:Int) (m:Sd.bQ):Prop where
 kind:m.kind=k
 seq:0<=m.seq/\m.seq<=4294967295
 role:0<=m.role/\m.role<=3
 bh:0<=m.bh/\m.bh<=4
 an:0<=m.an/\m.an<=65535
 mode:0<=m.mode/\m.mode<=4
 cls:0<=m.cls/\m.cls<=3
def okB (d:Fd):Prop:=∀v,d.low<=v->v<=d.high->∀k m,N0 k m->N0 k (d.set v m)
def arA:okB CD:=λv h1 h2 k m h=>⟨h.kind,h.seq,⟨h1,h2⟩,h.bh,h.an,h.mode,h.cls⟩
def arB:okB jS:=λv h1 h2 k m h=>⟨h.kind,⟨h1,h2⟩,h.role,h.bh,h.an,h.mode,h.cls⟩
def arC:okB E5:=λv h1 h2 k m h=>⟨h.kind,h.seq,h.role,⟨h1,h2⟩,h.an,h.mode,h.cls⟩
def arD:okB rN:=λv h1 h2 k m h=>⟨h.kind,h.seq,h.role,h.bh,⟨h1,h2⟩,h.mode,h.cls⟩
def arE:okB E6:=λv h1 h2 k m h=>⟨h.kind,h.seq,h.role,h.bh,h.an,⟨h1,h2⟩,h.cls⟩
def arF:okB vY:=λv h1 h2 k m h=>⟨h.kind,h.seq,h.role,h.bh,h.an,h.mode,⟨DE dC h1,h2⟩⟩
def arG:okB E7:=λv h1 h2 k m h=>⟨h.kind,h.seq,h.role,h.bh,h.an,h.mode,h.cls⟩
def adH (i:Nat) (hi:i<4) (v:Int) (m:Sd.bQ):((fX i).set v m).kind=m.kind/\((fX i).set v m).seq=m.seq/\((fX i).set v m).role=m.role/\((fX i).set v m).bh=m.bh/\((fX i).set v m).an=m.an/\((fX i).set v m).mode=m.mode/\((fX i).set v m).cls=m.cls:=by
 have:i=0\/i=1\/i=2\/i=3:=oM;rcases this with rfl|rfl|rfl|rfl<;>exact⟨rfl,rfl,rfl,rfl,rfl,rfl,rfl⟩
def N1 (i:Nat) (hi:i<4):okB (fX i):=λv h1 h2 k m h=>by
 obtain⟨a,b,c,d,e,g,j⟩:=adH i hi v m;exact⟨a.trans h.kind,by rw[b];exact h.seq,by rw[c];exact h.role,by rw[d];exact h.bh,by rw[e];exact h.an,by rw[g];exact h.mode,by rw[j];exact h.cls⟩
def z0 (n:Int) (h:0<=n):(0:Int)<=0/\(0:Int)<=n:=⟨Int.le_refl 0,h⟩
def arH (k:Int):N0 k (Sd.w_ k):=⟨rfl,z0 _ dC,z0 _ dC,z0 _ dC,z0 _ dC,z0 _ dC,z0 _ dC⟩
def arI {k:Int} {l:List Fd} (h:uV k=aa l):∀d∈l,okB d:=by
 have a1:=arA;have a2:=arB;have a3:=arC;have a4:=arD;have a5:=arE;have a6:=arF;have a7:=arG
 have b0:=N1 0 dC;have b1:=N1 1 dC;have b2:=N1 2 dC;have b3:=N1 3 dC
 unfold uV at h
 repeat' split at h
 all_goals first|(cases h;done)|(obtain rfl:=cG h;intro d hd;simp at hd;rcases hd with rfl|rfl|rfl|rfl|rfl|rfl|rfl<;>assumption)|(obtain rfl:=cG h;intro d hd;simp at hd;rcases hd with rfl|rfl|rfl<;>assumption)|(obtain rfl:=cG h;intro d hd;simp at hd;rcases hd with rfl|rfl<;>assumption)|(obtain rfl:=cG h;intro d hd;simp at hd;subst hd;assumption)
def arJ {k:Int} {l:List Fd} (h:uV k=aa l):1<=k/\k<=11:=by
 unfold uV at h
 repeat' split at h
 all_goals first|(cases h;done)|omega
def VZ {n:Nat} {f:Nat->Int} {m:Sd.bQ} (h:aY n f=aa m):Sd.uJ m:=by
 unfold aY at h;split at h
 ·cases h
 ·split at h
  ·rename_i l hl;have hb:=NZ (N0 (f 0)) l 1 _ m (λd hd v h1 h2 m hm=>arI hl d hd v h1 h2 _ m hm) (arH _) h;have hk:=arJ hl;refine⟨by rw[hb.kind];exact hk,hb.seq,hb.role,hb.bh,hb.an,hb.mode,hb.cls,?_⟩;intro nV;rw[hb.kind]at nV;have arK:l=[jS,rN,vY,fX 0,fX 1,fX 2,fX 3]:=by
    rw[nV]at hl;exact(cG hl).symm
   subst arK;unfold runM at h;split at h
   ·cases h
   split at h
   ·cases h
   unfold runM at h;split at h
   ·cases h
   split at h
   ·cases h
   unfold runM at h;split at h
   ·cases h
   split at h
   ·cases h
   rename_i hv;refine NZ (λm=>1<=m.cls) _ _ _ m ?_ ?_ h
   ·intro d hd v _ _ m hm;have:∃i,i<4/\d=fX i:=by
     simp at hd;rcases hd with rfl|rfl|rfl|rfl
     ·exact⟨0,dC,rfl⟩
     ·exact⟨1,dC,rfl⟩
     ·exact⟨2,dC,rfl⟩
     ·exact⟨3,dC,rfl⟩
    obtain⟨i,hi,rfl⟩:=this;show 1<=((fX i).set v m).cls;rw[(adH i hi v m).2.2.2.2.2.2];exact hm
   ·have h1:vY.low=1:=rfl;have:∀v m,(vY.set v m).cls=v:=λv m=>rfl;show 1<=(vY.set _ _).cls;rw[this];omega
  ·cases h
def arL {n:Nat} {f:Nat->Int} (h:aY n f≠ae):0<=(jU n f).role/\(jU n f).role<=3:=by
 unfold jU;cases hh:aY n f with
 |some m=>exact(VZ hh).role
 |none=>exact absurd hh h
def adI {n:Nat} {f:Nat->Int} (h:(uW n f !=0)=ag):aY n f=aa (jU n f):=by
 unfold uW at h;unfold jU;cases hh:aY n f with
 |some m=>rfl
 |none=>rw[hh]at h;simp at h
def adJ {n:Nat} {f:Nat->Int} (h:(uW n f !=0)=af):aY n f=ae:=by
 unfold uW at h;cases hh:aY n f with
 |some m=>rw[hh]at h;simp at h
 |none=>rfl
def V0 {k:LK} {s:Sd.ah} {F:ba fr (a9 k s)} {Kb:SK fr k} {l:Int} {i e:Nat} {f:Nat->Int} {t:List ai} {D:Sd.eS->Sd.ah} {DT:Sd.eS->Sd.aN->Sd.ah} {hD:∀e,a9 k (D e)=a9 k s} {wg:∀e E,a9 k (DT e E)=a9 k s}
 (AL:∀e,D e=rZ s i e) (V1:∀e r key,DT e (Fv s l r key).1=Da s i e (Sd.aN.fk s.c.p s.c.aq l r key).1) (hi:l.toNat-1=i) (h3:i<3) (hq:s.c.p.queue=k.most) (hP:NX k s l) (hf:By f) (hK:∀F',Kb (.ay []) (s.prove (aP aY) l 10 f) F'):
 VV (aP aY) k s F Kb l i e f t D DT hD wg:=by
 subst hi;have V2:=hP.r;have hKk:s.c.p.k (l.toNat-1)=(k.kn (l.toNat-1),k.kf (l.toNat-1)):=hP.ke;have V3:∀(x:Sd.ah) (hx:a9 k x=a9 k s) (c:Int) (sF:Sd.ah),x.c.p=s.c.p->N8 c->x.refuse (aP aY) l 0 c=sF->(∀F,Kb (.ay []) sF F)->cq k x (hx▸F)/\m6 (aP aY) [.int .i64 l,.int .i64 0,.int .i64 c] k x (hx▸F) λv s' F'=>lf k Kb f t s s' F':=by
  intro x hx c sF hp hc hE V4;have hs:x.bw=s.bw:=congrArg FD.bw hx;have hr:x.aV=s.aV:=congrArg FD.aV hx;refine⟨cK (by rw[hp];exact hq),⟨⟨by rw[hs];have:=V2.1;omega,by rw[hr];have:=V2.2;omega⟩,yE,hc⟩,λF1=>NY hE V4 F1 hp⟩
 have arM:∀(x:Sd.ah) (hx:a9 k x=a9 k s) (c:Int) (sF:Sd.ah),x.c.p=s.c.p->x.jx (aP aY) l c=sF->(∀F,Kb (.ay []) sF F)->cq k x (hx▸F)/\rU (aP aY) [.int .i64 l,.int .i64 c] k x (hx▸F) λv s' F'=>lf k Kb f t s s' F':=by
  intro x hx c sF hp hE V4;have hr:x.aV=s.aV:=congrArg FD.aV hx;exact⟨cK (by rw[hp];exact hq),by show x.aV.length<=1000;rw[hr];have:=V2.2;omega,λF1=>NY hE V4 F1 hp⟩
 have hpr:s.prove (aP aY) l 10 f=match aY 2 f with
  |none=>s.jx (aP aY) l 13
  |some m=>if(s.c.doors (l.toNat-1)).ji=ag then s.refuse (aP aY) l 0 17
   else if As (k.kn (l.toNat-1)) (k.kf (l.toNat-1)) l m.role (s.c.doors (l.toNat-1)).aK (λj=>f (2+j))=ag then(rZ s (l.toNat-1) (lr (s.c.doors (l.toNat-1)))).jx (aP aY) l 14
   else if Sd.vB s.c.p l m.role=ag then(rZ s (l.toNat-1) (lr (s.c.doors (l.toNat-1)))).refuse (aP aY) l 0 18
   else if(Sd.aN.fk s.c.p s.c.aq l m.role (lO (k.kn (l.toNat-1)) (k.kf (l.toNat-1)) l m.role (s.c.doors (l.toNat-1)).aK)).2≠0 then(rZ s (l.toNat-1) (lr (s.c.doors (l.toNat-1)))).refuse (aP aY) l 0 (Sd.aN.fk s.c.p s.c.aq l m.role (lO (k.kn (l.toNat-1)) (k.kf (l.toNat-1)) l m.role (s.c.doors (l.toNat-1)).aK)).2
   else((Da s (l.toNat-1) (lr (s.c.doors (l.toNat-1))) (Sd.aN.fk s.c.p s.c.aq l m.role (lO (k.kn (l.toNat-1)) (k.kf (l.toNat-1)) l m.role (s.c.doors (l.toNat-1)).aK)).1).tell l ⟨130,0,m.role,s.c.t.aF,s.c.t.an,0,λ_=>0⟩).record (aP aY) 3 l 0 0 0:=by
  unfold Sd.ah.prove;rw[if_neg dC];show(match aY 2 f with|none=>_|some m=>_)=_;cases aY 2 f with
  |none=>rfl
  |some m=>
   simp only[aP,hKk];rfl
 unfold VV;refine⟨⟨dC,oM,hf⟩,aJ (λe=>?_) (λe=>?_)⟩
 ·rw[hpr,adJ e]at hK;exact⟨cK hq,IL hP.r.r1 λF1=>NY rfl hK F1⟩
 ·have hm:=adI e;have adK:=arL (n:=2) (f:=f) (by rw[hm];simp);rw[hpr,hm]at hK;simp only at hK;refine⟨⟨rfl,rfl,hP.lo,⟨adK.1,oM⟩,hP.key⟩,aJ (λe1=>?_) (λe1=>aJ (λe2=>⟨trivial,aJ (λe3=>?_) (λe3=>⟨⟨hP.cO,hP.lo⟩,aJ (λe4=>?_) (λe4=>?_)⟩)⟩) (λe2=>?_))⟩
  ·rw[if_pos (by simpa using e1)]at hK;refine V3 _ (hD _) 17 _ (by rw[AL];rfl) ⟨dC,dC⟩ ?_ hK;rw[AL];have:rZ s (l.toNat-1) (s.c.doors (l.toNat-1))=s:=by
    unfold rZ;have:(λj=>if j=l.toNat-1 then s.c.doors (l.toNat-1)else s.c.doors j)=s.c.doors:=by funext j;split<;>simp_all
    rw[this]
   rw[this]
  ·rw[if_neg (by simpa using e1),if_neg (by rw[e2];decide),if_pos (by simpa using e3)]at hK;exact V3 _ (hD _) 18 _ (by rw[AL];rfl) ⟨dC,dC⟩ (by rw[AL]) hK
  ·obtain⟨b2,b1,b3⟩:=I8 s l (jU 2 f).role (lO (k.kn (l.toNat-1)) (k.kf (l.toNat-1)) l (jU 2 f).role (s.c.doors (l.toNat-1)).aK);rw[b2]at e4⊢;have e4':(Sd.aN.fk s.c.p s.c.aq l (jU 2 f).role (lO (k.kn (l.toNat-1)) (k.kf (l.toNat-1)) l (jU 2 f).role (s.c.doors (l.toNat-1)).aK)).2≠0:=by simpa using e4
   rw[if_neg (by simpa using e1),if_neg (by rw[e2];decide),if_neg (by simpa using e3),if_pos e4']at hK;have hbg:(Sd.aN.fk s.c.p s.c.aq l (jU 2 f).role (lO (k.kn (l.toNat-1)) (k.kf (l.toNat-1)) l (jU 2 f).role (s.c.doors (l.toNat-1)).aK)).1=s.c.aq/\N8 (Sd.aN.fk s.c.p s.c.aq l (jU 2 f).role (lO (k.kn (l.toNat-1)) (k.kf (l.toNat-1)) l (jU 2 f).role (s.c.doors (l.toNat-1)).aK)).2:=by
    revert e4';unfold Sd.aN.fk;split
    ·intro _;exact⟨rfl,(show N8 1 from⟨dC,dC⟩)⟩
    ·split
     ·intro _;exact⟨rfl,(show N8 19 from⟨dC,dC⟩)⟩
     ·intro h;exact absurd rfl h
   refine V3 _ (wg _ _) _ _ (by rw[V1];rfl) hbg.2 ?_ hK;rw[V1,hbg.1];rfl
  ·obtain⟨b2,b1,b3⟩:=I8 s l (jU 2 f).role (lO (k.kn (l.toNat-1)) (k.kf (l.toNat-1)) l (jU 2 f).role (s.c.doors (l.toNat-1)).aK);rw[b2]at e4;rw[if_neg (by simpa using e1),if_neg (by rw[e2];decide),if_neg (by simpa using e3),if_neg (by simpa using e4)]at hK;have key:∀(x:Sd.ah) (hx:a9 k x=a9 k s),x=Da s (l.toNat-1) (lr (s.c.doors (l.toNat-1))) (Sd.aN.fk s.c.p s.c.aq l (jU 2 f).role (lO (k.kn (l.toNat-1)) (k.kf (l.toNat-1)) l (jU 2 f).role (s.c.doors (l.toNat-1)).aK)).1->
    (cq k x (hx▸F)/\dt [.int .i64 l,.agg (mZ 130 0 (jU 2 f).role s.c.t.aF s.c.t.an 0)] k x (hx▸F) λv s2 F2=>cq k s2 F2/\iS (aP aY) [.int .i64 3,.int .i64 l,.int .i64 0,.int .i64 0,.int .i64 0] k (bO s2) F2 λv s' F'=>lf k Kb f t s s' F'):=by
    rintro x hx rfl;refine⟨cK hq,⟨⟨(show Rm (Da s _ _ _) 8 from hP.r).le dC,⟨(show(129:Int)<=130/\(130:Int)<=136 by decide),⟨yE,.inr rfl⟩,⟨adK,.inl rfl⟩,⟨hP.eK,.inl (.inl rfl)⟩,⟨hP.ep,.inl (.inl rfl)⟩,⟨(show N8 0 from⟨dC,dC⟩),.inr rfl⟩,⟨λj=>(show(0:Int)<=0/\(0:Int)<=255 from⟨dC,dC⟩),.inr rfl⟩⟩⟩,λF2=>⟨cK hq,m7 ?_ λF3=>NY rfl hK F3⟩⟩⟩;have:=hP.r.2;simp only[Sd.ah.tell,Da];omega
   exact key _ (wg _ _) (V1 _ _ _)
  ·rw[if_neg (by simpa using e1),if_pos e2]at hK;exact arM _ (hD _) 14 _ (by rw[AL];rfl) (by rw[AL]) hK
def lV (k:LK):LK:={k with px:=ae,pn:=0,pc:=0}
def I9 (C:Sd.aL):SM fr:=λar k s F K=>match ar with
 |[.int .i64 l,.raw vp]=>(vp=fa k/\NX k s l/\By k.pf)/\∀F',K (.ay []) (s.prove C l k.pn k.pf) F'
 |_=>False
def adL (a b c:Nat) (more:List Nat):Gl gS (ca a b c++more):=by
 intro g i di;unfold gS at di;split at di
 ·obtain rfl:=cG di;exact⟨sP,rfl⟩
 ·obtain rfl:=cG di;exact⟨sP,rfl⟩
 ·cases di
def arN {k:LK} {s:Sd.ah} (F:ba fr (a9 k s)) (h0:0<k.pn):∃(bp:Nat) (t:List ai) (F0:ba fr (a9 (lV k) s)),k.px=aa ⟨bp,0,ae⟩/\k.pn<=k.pc/\F0.vs=F.vs/\F0.vr=F.vr/\F.B=F0.B++[⟨bp,af,.cells (ak [] (fA k.pn k.pf t).c).toArray 5 (0,0)⟩]/\
 (ak [] (fA k.pn k.pf t).c).toArray=bE k.pn k.pf k.pc:=by
 obtain⟨b0,b1,b2,b3,b4,hB,k0,k1,k2,k3,k4⟩:=F.hk;obtain⟨hle,h|⟨bp,hx,hb⟩⟩:=k4
 ·have:=h.2.1;simp only[a9]at this;omega
 ·have e:(ak [] (fA k.pn k.pf (n_ (k.pc-k.pn) (.int .u8 0))).c).toArray=bE k.pn k.pf k.pc:=by
   simp[fA,ak,cl,bE,cI]
  refine⟨bp,n_ (k.pc-k.pn) (.int .u8 0),{F with Bk:=b0++(b1++(b2++(b3++[]))),hk:=⟨b0,b1,b2,b3,[],rfl,k0,k1,k2,k3,⟨cY _,.inl ⟨rfl,rfl,rfl,rfl⟩⟩⟩},hx,hle,rfl,rfl,?_,e⟩;rw[e,tJ,tJ];show _=(F.Br++(F.Bs++(F.Bf++(F.Bq++(b0++(b1++(b2++(b3++[]))))))))++_;rw[hB,hb];simp[bW,a9]
def arO {k:LK} {s:Sd.ah} (F0:ba fr (a9 (lV k) s)) {bp:Nat} (hx:k.px=aa ⟨bp,0,ae⟩) (hle:k.pn<=k.pc):∃F:ba fr (a9 k s),F.vs=F0.vs/\F.vr=F0.vr/\F.B=F0.B++[⟨bp,af,.cells (bE k.pn k.pf k.pc) 5 (0,0)⟩]:=by
 obtain⟨b0,b1,b2,b3,b4,hB,k0,k1,k2,k3,k4⟩:=F0.hk;have h4:b4=[]:=by
  obtain⟨_,h|⟨b,hx,_⟩⟩:=k4
  ·exact h.2.2.2
  ·cases hx
 subst h4;refine⟨{F0 with Bk:=b0++(b1++(b2++(b3++[⟨bp,af,.cells (bE k.pn k.pf k.pc) 5 (0,0)⟩]))),hk:=⟨b0,b1,b2,b3,_,rfl,k0,k1,k2,k3,⟨hle,.inr ⟨bp,hx,rfl⟩⟩⟩},rfl,rfl,?_⟩;rw[tJ,tJ];show(F0.Br++(F0.Bs++(F0.Bf++(F0.Bq++(b0++(b1++(b2++(b3++[(⟨bp,af,.cells (bE k.pn k.pf k.pc) 5 (0,0)⟩:ao)]))))))))=_;rw[hB];simp[bW]
def adM {k:LK} {s:Sd.ah} (F:ba fr (a9 k s)) (F0:ba fr (a9 (lV k) s)) (h1:F0.vs=F.vs) (h2:F0.vr=F.vr):bI (lV k) s F0=bI k s F:=by
 have e:uN 3 F0=uN 3 F:=by unfold uN;rw[h1,h2]
 show[b_ (lV k),gK (lV k),uN 3 F0,fy (lV k) 4 s,fg s]=_;rw[e];rfl
def arP (ht:Body (fr:=fr) 124 dt):Body (fr:=fr) 92 (I9 (aP aY)):=by
 intro ar k s F Kb a b c R ms w0 w h0 hq hM S;unfold I9 at hM;split at hM
 ·rename_i l vp;obtain⟨⟨rfl,hP,hf⟩,hK⟩:=hM;have V5:=arv (fr:=fr) aY ht;by_cases hn:k.pn=10
  ·obtain⟨bp,t,F0,hx,hle,v1,v2,hB,lu⟩:=arN F oM;obtain⟨e,he⟩:∃e,k.pc=e+10:=⟨k.pc-10,oM⟩;rw[hn]at hB lu hK;have eP:lits (ca a b c++[bp]) (ca a b c++[bp]) (bI (lV k) s F0++[fA 10 k.pf t])=lits (ca a b c) (ca a b c) (bI k s F)++[⟨bp,af,.cells (ak [] (fA 10 k.pf t).c).toArray 5 (0,0)⟩]:=by
    rw[adM F F0 v1 v2,fu _ _ _ _ rfl,fw (ids:=ca a b c) (more:=[bp]) (ca a b c) (bI k s F) rfl];rfl
   have S1:St ms w0 (lits (ca a b c++[bp]) (ca a b c++[bp]) (bI (lV k) s F0++[fA 10 k.pf t])++au [a_ (lV k) s F0] R) w:=by
    rw[eP];have en:au [a_ (lV k) s F0] R=F0.B++R:=rfl;rw[en];rw[hB]at S;refine S.perm ?_;rw[bW,bW];refine j4 _ ?_;exact qR _ _ _
   have cV:br (bM prog gS (LP fr (aP aY))) 90 92 [.ptr 2 0,.int .i64 l,.sl 5 0 10 (e+10)] (bI (lV k) s F0++[fA 10 k.pf t]) [a_ (lV k) s F0] (VU (lV k) s 10 k.pf t λv s' _=>∀F',Kb v s' F'):=by
    have V6:NX (lV k) s l:=⟨hP.r,hP.lo,hP.key,hP.ke,hP.cO,hP.eK,hP.ep⟩;have hl:l=1\/l=2\/l=3:=by have:=hP.lo;omega
    have uG:∀F0':ba fr (a9 (lV k) (s.prove (aP aY) l 10 k.pf)),∀F',Kb (.ay []) (s.prove (aP aY) l 10 k.pf) F':=λ_=>hK;rcases hl with rfl|rfl|rfl
    ·rw[arw];refine V0 (λe=>yK (i:=0) dC rfl rfl rfl) (λe r key=>?_) rfl dC hq V6 hf uG;obtain⟨_,b1,b3⟩:=I8 s 1 r key;exact VY (i:=0) dC rfl rfl rfl b1 (b3 dC).1 (b3 dC).2
    ·rw[arx];refine V0 (λe=>yK (i:=1) dC rfl rfl rfl) (λe r key=>?_) rfl dC hq V6 hf uG;obtain⟨_,b1,b3⟩:=I8 s 2 r key;exact VY (i:=1) dC rfl rfl rfl b1 (b3 dC).1 (b3 dC).2
    ·rw[ary];refine V0 (λe=>yK (i:=2) dC rfl rfl rfl) (λe r key=>?_) rfl dC hq V6 hf uG;obtain⟨_,b1,b3⟩:=I8 s 3 r key;exact VY (i:=2) dC rfl rfl rfl b1 (b3 dC).1 (b3 dC).2
   have ea:(aE (ca a b c) (.ptr 2 0::[.int .i64 l,.raw (fa k)])).toArray=(aE (ca a b c++[bp]) [.ptr 2 0,.int .i64 l,.sl 5 0 10 (e+10)]).toArray:=by
    have:fa k=.slice (aa ⟨bp,0,ae⟩) 10 (e+10):=by unfold fa;rw[hx,hn,he]
    rw[this];rfl
   rw[ea];refine(eZ V5.T V5.Q 90 (C:=bM prog gS (LP fr (aP aY))) (adL a b c [bp]) rfl S1 cV).mono ?_;rintro v w' ⟨x,more,bl',ch',rfl,h1,S',s',F',hv,hp,V7,hb,rfl⟩;have ev:den (ca a b c++[bp]++more) x=den [] x:=by have:=g_ (ids:=[]) (more:=ca a b c++[bp]++more) x hv;simpa using this
   rw[<-hn]at lu;obtain⟨F2,u1,u2,HS⟩:=arO F' hx hle;refine⟨x,s',F2,ev,hv,hp,V7 F2,?_⟩;have pF:bl'=(bI (lV k) s' F'++[fA 10 k.pf t])++bl'.drop 6:=by rw[<-hb,jH]
   rw[pF]at S';have e2:lits (ca a b c++[bp]++more) (ca a b c++[bp]++more) ((bI (lV k) s' F'++[fA 10 k.pf t])++bl'.drop 6)=(lits (ca a b c) (ca a b c) (bI k s' F2)++[⟨bp,af,.cells (ak [] (fA 10 k.pf t).c).toArray 5 (0,0)⟩])++lits (ca a b c++[bp]++more) more (bl'.drop 6):=by
    rw[fu _ _ _ _ rfl,fw (ids:=ca a b c++[bp]) (more:=more) (ca a b c++[bp]) _ rfl];rw[<-adM F2 F' u1.symm u2.symm,fu _ _ _ _ rfl,fw (ids:=ca a b c) (more:=[bp]) (ca a b c) (bI (lV k) s' F') rfl];rfl
   rw[e2]at S';have e3:au [a_ (lV k) s' F'] R=F'.B++R:=rfl;rw[e3]at S';have S2:=S'.sub (bs':=(lits (ca a b c) (ca a b c) (bI k s' F2)++[⟨bp,af,.cells (ak [] (fA 10 k.pf t).c).toArray 5 (0,0)⟩])++(F'.B++R)) (by
    rw[bW (lits _ _ _++_)];exact mD (kG _ _) _)
   rw[HS];rw[hn]at lu⊢;rw[lu]at S2;refine S2.perm ?_;rw[bW,bW];refine j4 _ ?_;exact qR _ _ _
  ·refine mr (M:=λar k s F K=>(ar=[.int .i64 l,.raw (fa k)]/\k.pn≠10/\s.aV.length<=1000)/\∀F',K (.ay []) (s.jx (aP aY) l 13) F') (n:=90) V5 ?_ _ k s F Kb a b c R ms w0 w h0 hq ⟨⟨rfl,hn,by have:=hP.r.2;omega⟩,?_⟩ S
   ·rintro ar k s F Kb _ hq ⟨⟨rfl,hn,hr⟩,hK⟩;rw[arz];refine aJ (λe=>⟨cK hq,IL hr λF1=>eE rfl hK F1⟩) (λe=>?_);have:(k.pn:Int)=10:=by simpa using e
    omega
   ·have:s.prove (aP aY) l k.pn k.pf=s.jx (aP aY) l 13:=by unfold Sd.ah.prove;rw[if_pos hn]
    rw[this]at hK;exact hK
 ·exact hM.elim
end
section
open Go Go.RowKit Go.BigFrame Sx Vx
def gR:Nat->Option Nat
 |0=>aa 0
 |_=>ae
def V8:QF:=⟨128,λargs _=>match args with
 |[.agg wl,.int .i64 n]=>(match Uc wl with
  |some z=>aa ((0<=z.high/\z.high<=4294967295)/\(0<=n/\n<=4294967295),.ay [.agg (acB (eM z n)),.bool (Ig (eM z n) z)])
  |none=>ae)
 |_=>ae⟩
def arQ (gl:Nat->Option Nat):V8.Ok prog gl:=by
 intro args bl p v h hp ids w _ _;unfold V8 at h;dsimp only at h;split at h
 ·rename_i wl n;split at h
  ·rename_i z hz;simp only[aW,bC]at h;obtain⟨rfl,rfl⟩:=h;obtain rfl:=amW hz;exact told (amh z n hp.1 hp.2 w)
  ·cases h
 ·cases h
def V9 {G:Type} (k:LK):dk G:=λargs bl ch K=>match args with
 |[.agg [.cv .u8 32 key],.int .i64 l,.sl i 0 n c]=>(match bl[i]?with
  |some b=>(match b.c with
   |[.cv .u8 n' f,.rest t]=>cond (zR b.ty 5&&bY bl.length bl) ((bl[0]?=aa (b_ k)/\n=n'/\n<=58/\n<=c/\(0<=l/\l<4294967296))/\
    ((n<8\/nL key l (n-8) f=ag)->K (.ay [.raw (.slice ae 0 0),.int .i64 14]) bl ch)/\
    (8<=n->nL key l (n-8) f=af->(n=8->∀(x:Option aI) (c':Nat),K (.ay [.raw (.slice x 0 c'),.int .i64 0]) bl ch)/\
     (8<n->∀(c':Nat) (t':List ai),n-8<=c'->K (.ay [.sl bl.length 0 (n-8) c',.int .i64 0]) (bl++[fA (n-8) f t']) ch))) False
   |_=>False)
  |none=>False)
 |[.agg [.cv .u8 32 key],.int .i64 l,.raw (.slice x 0 c)]=>K (.ay [.raw (.slice ae 0 0),.int .i64 14]) bl ch
 |_=>False
def arR {G:Type} [Bl G] (k:LK):Sound (G:=G) prog gR 127 (V9 k):=by
 intro args ids bl ch R ms w0 w K hg hl S hc;unfold V9 at hc;split at hc
 ·rename_i key l i n c;split at hc
  ·rename_i b hb;split at hc
   ·rename_i n' f t hbc;cases hq:zR b.ty 5&&bY bl.length bl with
    |false=>rw[hq]at hc;exact hc.elim
    |true=>
     rw[hq]at hc;simp only[cond_true]at hc;simp only[bD]at hq;obtain⟨⟨hr,rfl,hn,j7,xf⟩,il,I_⟩:=hc;have aS:=(gx hl S hb).2;rw[hbc,Q8 hq.1]at aS;have kp:w.heap[0]?=aa (.cells (aD .u32 64 c_) k.tg (0,0)):=by
      have h1:=(gx hl S hr).2;rw[(hg 0 0 rfl).2]at h1;have e:(ak ids (b_ k).c).toArray=aD .u32 64 c_:=kR;rw[e]at h1;exact h1
     have h8:cA w (ids.getD i 0) 0 n f:=by
      intro j hj;rw[cell_of aS];have e:(ak ids [V.cv .u8 n f,.rest t]).toArray=((bo n).map (λj=>fI .u8 (f j))++t).toArray:=by simp[ak,cl]
      rw[e];simp only[dS,jX];rw[gm (by simpa using hj),jW,pQ hj];rfl
     have ea:(aE ids [.agg [.cv .u8 32 key],.int .i64 l,.sl i 0 n c]).toArray=#[.agg (aD .u8 32 key),.int .i64 l,.slice (aa ⟨ids.getD i 0,0,ae⟩) n c]:=kR;rw[ea];have fin:∀{v:ai} {w1:aj},v=.tuple #[.slice ae 0 0,.int .i64 14]->Ch [] w w1->K (.ay [.raw (.slice ae 0 0),.int .i64 14]) bl ch->∃x more bl' ch',v=den (ids++more) x/\(ids++more).length=bl'.length/\St ms w0 (lits (ids++more) (ids++more) bl'++au ch' R) w1/\K x bl' ch':=by
      rintro v w1 rfl cz hk;exact⟨_,[],bl,ch,by simp[den,aE],by simpa using hl,by simpa using S.quiet cz,hk⟩
     rcases c9 n 8 with h|h
     ·exact(abL key l _ n c h w).mono λv w1 ⟨hv,cz⟩=>fin hv cz (il (.inl h))
     ·obtain⟨m,rfl⟩:∃m,n=m+8:=⟨n-8,oM⟩;rw[Nat.add_sub_cancel]at il I_;cases ho:nL key l m f with
      |false=>exact(akM key l _ 0 m c f oM j7 xf ho w kp h8).mono λv w1 ⟨hv,cz⟩=>fin hv cz (il (.inr ho))
      |true=>
       refine(akN key l _ 0 m c f oM j7 xf ho w kp h8).mono ?_;rintro v w1 ⟨x1,c1,jy,rfl,V_,S1⟩;obtain⟨y0,y1⟩:=I_ h ho;have hS:=S.quiet S1.ch;rcases tU m with rfl|h0
       ·exact⟨_,[],bl,ch,by simp[den,aE],by simpa using hl,by simpa using hS,y0 rfl x1 c1⟩
       ·obtain⟨bn,hle,rfl,rfl⟩:=GU V_ h0;refine⟨_,[bn],_,ch,?_,by simp[hl],?_,y1 oM c1 (n_ (c1-m) (.int .u8 0)) hle⟩
        ·simp only[den,aE];rw[<-hl,lG]
        ·rw[fu _ _ _ _ hl,fw _ _ (by rw[hl];exact hq.2)];have e2:lits (ids++[bn]) [bn] [fA m f (n_ (c1-m) (.int .u8 0))]=[⟨bn,af,.cells (bE m f c1) 5 (0,0)⟩]:=by
          simp[lits,aC,fA,ak,cl,bE,cI]
         rw[e2];have arS:=S1.nu (x:=⟨bn,af,.cells (bE m f c1) 5 (0,0)⟩) sP rfl;have fh:w.heap.size<=bn:=by rcases arS with h|h;cases h;exact h
         have:=S.new S1.ch fh (S1.at' (x:=⟨bn,af,.cells (bE m f c1) 5 (0,0)⟩) sP);refine this.perm ?_;rw[bW];exact kH.symm
   ·exact hc.elim
  ·exact hc.elim
 ·rename_i key l x c;have ea:(aE ids [.agg [.cv .u8 32 key],.int .i64 l,.raw (.slice x 0 c)]).toArray=#[.agg (aD .u8 32 key),.int .i64 l,.slice x 0 c]:=kR;rw[ea];refine(abL key l x 0 c dC w).mono ?_;rintro v w1 ⟨rfl,cz⟩;exact⟨_,[],bl,ch,by simp[den,aE],by simpa using hl,by simpa using S.quiet cz,hc⟩
 ·exact hc.elim
def LO (k:LK):List (bK Empty):=⟨127,ag,V9 k⟩::qL Empty (NV::V8::QV)
def N2 (k:LK):aH prog gR (LO k):=aH.cons ⟨arR k,λe=>by cases e⟩ (kA (bP.cons (adF gR) (bP.cons (arQ gR) (Ay gR))))
def iy (e:Int):V:=.ay [.agg (dg (Sd.w_ 0)),.int .i64 e]
def Ja (w:Sd.jh) (b:Int) (m:Sd.bQ) (e:Int) (X:V->Option (Sd.jh×Sd.Timer)->Prop):Prop:=
 cond (e !=0) (X (iy 13) ae) (cond (m.kind==1) (X (iy 13) ae) (cond (m.kind==2) (X (iy 13) ae)
  (((0<=w.high/\w.high<=4294967295)/\(0<=m.seq/\m.seq<=4294967295))/\cond (!(Ig (eM w m.seq) w)) (X (iy 15) ae)
    ((-9223372036854775808<=b/\b<=9223372036854775807)/\X (.ay [.agg (dg m),.int .i64 0]) (aa (eM w m.seq,Sd.Timer.start b))))))
def Jb (k:LK) (s:Sd.gw) (b l:Int) (n c:Nat) (f:Nat->Int) (X:V->Option (Sd.jh×Sd.Timer)->Prop):Prop:=
 cond (!s.on) (X (iy 16) ae) ((aa (b_ k)=aa (b_ k)/\n=n/\n<=58/\n<=c/\(0<=l/\l<4294967296))/\
  ((n<8\/nL s.key l (n-8) f=ag)->X (iy 14) ae)/\
  (8<=n->nL s.key l (n-8) f=af->(n=8->∀(x:Option aI) (c':Nat),True/\Ja s.seen b (jU 0 λ_=>0) (uW 0 λ_=>0) X)/\
   (8<n->∀(c':Nat) (t':List ai),n-8<=c'->(n-8<=n-8/\n-8<=c'/\By f)/\Ja s.seen b (jU (n-8) f) (uW (n-8) f) X)))
def tL (s:Sd.gw):Option (Sd.jh×Sd.Timer)->Sd.gw
 |none=>s
 |some (w,t)=>{s with seen:=w,on:=af,dN:=t}
def kT (X:V->List VB->Prop):VK Empty:=λv bl _=>X v (bl.take 3)
section
variable(k:LK) (y:TC) (n c:Nat) (f:Nat->Int) (t:List ai) (X:V->List VB->Prop)
def arT:br (bM prog gR (LO k)) 60 93 [.ptr 1 0,.int .i64 1,.sl 2 0 n c] [b_ k,⟨af,⟨181,(0,0)⟩,cP y⟩,fA n f t] [] (kT X)=Jb k y.s0 y.b 1 n c f λv o=>X v [b_ k,⟨af,⟨181,(0,0)⟩,cP {y with s0:=tL y.s0 o}⟩,fA n f t]:=kR
def arU:br (bM prog gR (LO k)) 60 93 [.ptr 1 0,.int .i64 2,.sl 2 0 n c] [b_ k,⟨af,⟨181,(0,0)⟩,cP y⟩,fA n f t] [] (kT X)=Jb k y.sa y.b 2 n c f λv o=>X v [b_ k,⟨af,⟨181,(0,0)⟩,cP {y with sa:=tL y.sa o}⟩,fA n f t]:=kR
def arV:br (bM prog gR (LO k)) 60 93 [.ptr 1 0,.int .i64 3,.sl 2 0 n c] [b_ k,⟨af,⟨181,(0,0)⟩,cP y⟩,fA n f t] [] (kT X)=Jb k y.sb y.b 3 n c f λv o=>X v [b_ k,⟨af,⟨181,(0,0)⟩,cP {y with sb:=tL y.sb o}⟩,fA n f t]:=kR
def mw (y:TC) (l:Int):Sd.gw:=if l=1 then y.s0 else if l=2 then y.sa else y.sb
def arW (x:Option aI):br (bM prog gR (LO k)) 60 93 [.ptr 1 0,.int .i64 1,.raw (.slice x 0 c)] [b_ k,⟨af,⟨181,(0,0)⟩,cP y⟩] [] (λv bl _=>X v (bl.take 2))=cond (!y.s0.on) (X (iy 16) [b_ k,⟨af,⟨181,(0,0)⟩,cP y⟩]) (X (iy 14) [b_ k,⟨af,⟨181,(0,0)⟩,cP y⟩]):=kR
def arX (x:Option aI):br (bM prog gR (LO k)) 60 93 [.ptr 1 0,.int .i64 2,.raw (.slice x 0 c)] [b_ k,⟨af,⟨181,(0,0)⟩,cP y⟩] [] (λv bl _=>X v (bl.take 2))=cond (!y.sa.on) (X (iy 16) [b_ k,⟨af,⟨181,(0,0)⟩,cP y⟩]) (X (iy 14) [b_ k,⟨af,⟨181,(0,0)⟩,cP y⟩]):=kR
def arY (x:Option aI):br (bM prog gR (LO k)) 60 93 [.ptr 1 0,.int .i64 3,.raw (.slice x 0 c)] [b_ k,⟨af,⟨181,(0,0)⟩,cP y⟩] [] (λv bl _=>X v (bl.take 2))=cond (!y.sb.on) (X (iy 16) [b_ k,⟨af,⟨181,(0,0)⟩,cP y⟩]) (X (iy 14) [b_ k,⟨af,⟨181,(0,0)⟩,cP y⟩]):=kR
end
variable{fr:Sd.aO->Nat×Sd.ax}
def my (s:Sd.gw) (b l:Int) (n:Nat) (f:Nat->Int):V×Option (Sd.jh×Sd.Timer):=
 if s.on=ag then(iy 16,ae)else if n<8\/nL s.key l (n-8) f=ag then(iy 14,ae)else match aY (n-8) f with
 |none=>(iy 13,ae)
 |some m=>if m.kind=1\/m.kind=2 then(iy 13,ae)else if eM s.seen m.seq=s.seen then(iy 15,ae)else(.ay [.agg (dg m),.int .i64 0],aa (eM s.seen m.seq,Sd.Timer.start b))
def arZ {w:Sd.jh} {b:Int} {n:Nat} {f:Nat->Int} {X:V->Option (Sd.jh×Sd.Timer)->Prop} (hw:0<=w.high/\w.high<=4294967295) (hb:0<=b/\b<=1000)
 (h0:aY n f=ae->X (iy 13) ae) (h1:∀m,aY n f=aa m->if m.kind=1\/m.kind=2 then X (iy 13) ae else if eM w m.seq=w then X (iy 15) ae else X (.ay [.agg (dg m),.int .i64 0]) (aa (eM w m.seq,Sd.Timer.start b))):
 Ja w b (jU n f) (uW n f) X:=by
 unfold Ja;refine aJ (λe=>h0 (adJ e)) (λe=>?_);have hm:=adI e;have h2:=h1 _ hm;have hJ:=VZ hm;refine aJ (λe1=>?_) (λe1=>aJ (λe2=>?_) (λe2=>⟨⟨hw,hJ.seq⟩,aJ (λe3=>?_) (λe3=>⟨oM,?_⟩)⟩))
 ·rw[if_pos (.inl (by simpa using e1))]at h2;exact h2
 ·rw[if_pos (.inr (by simpa using e2))]at h2;exact h2
 ·rw[if_neg (by simp at e1 e2;simp[e1,e2]),if_pos ((acg _ _).1 (by simpa using e3))]at h2;exact h2
 ·rw[if_neg (by simp at e1 e2;simp[e1,e2]),if_neg (λh=>by rw[(acg _ _).2 h]at e3;simp at e3)]at h2;exact h2
def Wa {k:LK} {s:Sd.gw} {b l:Int} {n c:Nat} {f:Nat->Int} {X:V->Option (Sd.jh×Sd.Timer)->Prop} (hw:s.on=af->0<=s.seen.high/\s.seen.high<=4294967295) (hb:0<=b/\b<=1000) (hn:n<=58) (hc:n<=c) (hl:1<=l/\l<=3) (hf:By f)
 (h:X (my s b l n f).1 (my s b l n f).2):Jb k s b l n c f X:=by
 unfold my at h;unfold Jb;refine aJ (λe=>?_) (λe=>⟨⟨rfl,rfl,hn,hc,oM,oM⟩,λIS=>?_,λh8 ho=>?_⟩)
 ·rw[if_pos (by simpa using e)]at h;exact h
 ·rw[if_neg (by simpa using e),if_pos IS]at h;exact h
 ·rw[if_neg (by simpa using e),if_neg (by rw[ho];simp;omega)]at h;have main:∀g:Nat->Int,aY (n-8) g=aY (n-8) f->Ja s.seen b (jU (n-8) g) (uW (n-8) g) X:=by
   intro g hg;refine arZ (hw (by simpa using e)) hb (λh0=>?_) (λm hm=>?_)
   ·rw[hg]at h0;rw[h0]at h;exact h
   ·rw[hg]at hm;rw[hm]at h;simp only at h;split
    ·rename_i h1;rw[if_pos h1]at h;exact h
    ·rename_i h1;rw[if_neg h1]at h;split
     ·rename_i h2;rw[if_pos h2]at h;exact h
     ·rename_i h2;rw[if_neg h2]at h;exact h
  refine⟨λV_ x c'=>⟨trivial,?_⟩,λV_ c' t' zU=>⟨⟨cY _,zU,hf⟩,main f rfl⟩⟩;have h0:n-8=0:=oM;have:=main (λ_=>0) (by rw[h0];rfl);rw[h0]at this;exact this
def ar0 (t:Sd.aN) (p:Sd.aU) (l:Int) (n:Nat) (f:Nat->Int) (hl:1<=l/\l<=3):
 (∃e,Sd.aN.take (aP aY) p t l n f=(t,.error e)/\my (t.az (l.toNat-1)) p.cO l n f=(iy e,ae))\/
 (∃m w,Sd.aN.take (aP aY) p t l n f=(t.gO (l.toNat-1) {(t.az (l.toNat-1))with seen:=w,on:=af,dN:=.start p.cO},.ok m)/\my (t.az (l.toNat-1)) p.cO l n f=(.ay [.agg (dg m),.int .i64 0],aa (w,Sd.Timer.start p.cO))):=by
 have jR:t.iC l=(t.az (l.toNat-1)).on:=by
  unfold Sd.aN.iC;simp[hl.1,hl.2]
 unfold Sd.aN.take my;rw[jR];by_cases h1:(t.az (l.toNat-1)).on=ag
 ·rw[if_pos h1,if_pos h1];exact .inl ⟨16,rfl,rfl⟩
 ·rw[if_neg h1,if_neg h1];by_cases h2:n<8\/nL (t.az (l.toNat-1)).key l (n-8) f=ag
  ·rw[if_pos h2];have:n<8\/(aP aY).opens (t.az (l.toNat-1)).key l n f=ag:=h2;rw[if_pos this];exact .inl ⟨14,rfl,rfl⟩
  ·rw[if_neg h2];have:¬(n<8\/(aP aY).opens (t.az (l.toNat-1)).key l n f=ag):=h2;rw[if_neg this];rw[show(aP aY).take (n-8) f=aY (n-8) f from rfl];cases yN:aY (n-8) f with
   |none=>exact .inl ⟨13,rfl,rfl⟩
   |some m=>
    simp only;by_cases h3:m.kind=1\/m.kind=2
    ·rw[if_pos h3,if_pos h3];exact .inl ⟨13,rfl,rfl⟩
    ·rw[if_neg h3,if_neg h3];by_cases h4:eM (t.az (l.toNat-1)).seen m.seq=(t.az (l.toNat-1)).seen
     ·rw[if_pos h4];have:(aP aY).g9 (t.az (l.toNat-1)).seen m.seq=(t.az (l.toNat-1)).seen:=h4;rw[if_pos this];exact .inl ⟨15,rfl,rfl⟩
     ·rw[if_neg h4];have:¬(aP aY).g9 (t.az (l.toNat-1)).seen m.seq=(t.az (l.toNat-1)).seen:=h4;rw[if_neg this];exact .inr ⟨m,eM (t.az (l.toNat-1)).seen m.seq,rfl,rfl⟩
def adN {d:FD} (F:ba fr d) (h0:0<d.k.pn):∃(bp:Nat) (t:List ai) (X:List ao),d.k.px=aa ⟨bp,0,ae⟩/\d.k.pn<=d.k.pc/\F.B=X++[⟨bp,af,.cells (ak [] (fA d.k.pn d.k.pf t).c).toArray 5 (0,0)⟩]:=by
 obtain⟨b0,b1,b2,b3,b4,hB,k0,k1,k2,k3,k4⟩:=F.hk;obtain⟨hle,h|⟨bp,hx,hb⟩⟩:=k4
 ·have:=h.2.1;omega
 ·have e:(ak [] (fA d.k.pn d.k.pf (n_ (d.k.pc-d.k.pn) (.int .u8 0))).c).toArray=bE d.k.pn d.k.pf d.k.pc:=by
   simp[fA,ak,cl,bE,cI]
  refine⟨bp,n_ (d.k.pc-d.k.pn) (.int .u8 0),F.Br++(F.Bs++(F.Bf++(F.Bq++(b0++(b1++(b2++b3)))))),hx,hle,?_⟩;rw[e,tJ,hB,hb];simp[bW]
def Wb (C:Sd.aL):dk (Gh fr):=λargs bl ch K=>match args,ch with
 |[.ptr it 0,.int .i64 l,.raw vp],g::rest=>(match bl[it]?with
  |some ⟨af,⟨181,(0,0)⟩,tc⟩=>(match tI tc with
   |some y=>cond (!(aA it 0)) ((vp=fa g.d.k/\bl[0]?=aa (b_ g.d.k)/\g.d.k.pn<=58/\By g.d.k.pf/\(1<=l/\l<=3)/\(0<=y.b/\y.b<=1000)/\(∀i,i<3->((bJ y).az i).on=af->0<=((bJ y).az i).seen.high/\((bJ y).az i).seen.high<=4294967295))/\
    (∀e,Sd.aN.take C (pY y.b y.m) (bJ y) l g.d.k.pn g.d.k.pf=(bJ y,.error e)->K (iy e) bl ch)/\
    (∀t' m,Sd.aN.take C (pY y.b y.m) (bJ y) l g.d.k.pn g.d.k.pf=(t',.ok m)->K (.ay [.agg (dg m),.int .i64 0]) (bl.set it ⟨af,⟨181,(0,0)⟩,cP (oF t' y.b y.m)⟩) ch)) False
   |none=>False)
  |_=>False)
 |_,_=>False
def ar1 {bl:List VB} {i:Nat} {b:VB} (h:bl[i]?=aa b):bl.set i b=bl:=by
 apply zv;intro j;rw[List.getElem?_set];split
 ·rename_i e;subst e;have:=lT h;rw[if_pos this];exact h.symm
 ·rfl
def ar2:Sound prog gS 93 (Wb (fr:=fr) (aP aY)):=by
 intro args ids bl ch R ms w0 w K hg hl S hc;unfold Wb at hc;split at hc
 ·rename_i it l vp g rest;split at hc
  ·rename_i tc hb;split at hc
   ·rename_i y hy;cases hq:!(aA it 0)with
    |false=>rw[hq]at hc;exact hc.elim
    |true=>
     rw[hq]at hc;simp only[cond_true]at hc;obtain⟨⟨rfl,hr,hn,hf,BR,Wc,hwn⟩,hE,hO⟩:=hc;obtain rfl:=yy hy;have pC:it≠0:=by rintro rfl;simp at hq
     have hi:=lT hb;have hi0:=lT hr;have adO:ids.getD 0 0=0:=(hg 0 0 rfl).2;obtain⟨r,NW,kl⟩:=Fb hl (is:=[0,it]) (by simp[Ne.symm pC]) (by simp[hi,hi0]);have adP:(pY y.b y.m).cO=y.b:=rfl;have p1:=kl bl rfl;simp only[gb,List.map_nil,fm,fQ]at p1;rw[ln hb,ln hr,adO]at p1;have N3:(bJ y).az (l.toNat-1)=mw y l:=by
      have:l=1\/l=2\/l=3:=oM;rcases this with rfl|rfl|rfl<;>rfl
     have Jc:=ar0 (bJ y) (pY y.b y.m) l g.d.k.pn g.d.k.pf BR;rw[N3,adP]at Jc;have hw:(mw y l).on=af->0<=(mw y l).seen.high/\(mw y l).seen.high<=4294967295:=by rw[<-N3];exact hwn _ oM
     have e0:au (g::rest) R=g.F.B++au rest R:=rfl;rw[e0]at S;have er:∀is:List Nat,aC is 0 (b_ g.d.k)=aC [] 0 (b_ g.d.k):=λis=>by
      have:=jl (ids:=[]) (more:=is) (b_ g.d.k).c rfl;simp only[fQ]at this;simp only[aC,this]
     have et:∀(is:List Nat) (i:Nat) (y:TC),aC is i ⟨af,⟨181,(0,0)⟩,cP y⟩=aC [] i ⟨af,⟨181,(0,0)⟩,cP y⟩:=λis i y=>by
      have:=jl (ids:=[]) (more:=is) (cP y) rfl;simp only[fQ]at this;simp only[aC,this]
     have ep:∀(is:List Nat) (i n:Nat) (f:Nat->Int) (t:List ai),aC is i (fA n f t)=aC [] i (fA n f t):=λis i n f t=>by
      have:=jl (ids:=[]) (more:=is) (fA n f t).c rfl;simp only[fQ]at this;simp only[aC,this]
     have back:∀(y':TC) (w':aj) (Z:List ao),St ms w0 (aC [] 0 (b_ g.d.k)::aC [] (ids.getD it 0) ⟨af,⟨181,(0,0)⟩,cP y'⟩::((r.map λj=>aC ids (ids.getD j 0) (bl.getD j e_))++Z)) w'->St ms w0 (lits ids ids (bl.set it ⟨af,⟨181,(0,0)⟩,cP y'⟩)++Z) w':=by
      intro y' w' Z hS;have p2:=kl (bl.set it ⟨af,⟨181,(0,0)⟩,cP y'⟩) sP;simp only[gb,List.map_nil,fm,fQ]at p2;have e3:(r.map λj=>aC ids (ids.getD j 0) ((bl.set it ⟨af,⟨181,(0,0)⟩,cP y'⟩).getD j e_))=r.map λj=>aC ids (ids.getD j 0) (bl.getD j e_):=by
       apply ni;intro j hj;have:=NW j hj;simp only[gd];rw[nQ (λh=>this (by simp[h]))]
      rw[e3,ln (AF hi),ln (i:=0) (b:=b_ g.d.k) (by rw[Ko pC];exact hr),adO,er,et]at p2;exact hS.perm (p2.symm.append_right Z)
     have done:∀{w':aj} (y':TC) (v:V) (o:Option (Sd.jh×Sd.Timer)),da 0 v=af->my (mw y l) y.b l g.d.k.pn g.d.k.pf=(v,o)->y'=(if l=1 then{y with s0:=tL y.s0 o}else if l=2 then{y with sa:=tL y.sa o}else{y with sb:=tL y.sb o})->
      St ms w0 (lits ids ids (bl.set it ⟨af,⟨181,(0,0)⟩,cP y'⟩)++(g.F.B++au rest R)) w'->∃x more bl' ch',den [] v=den (ids++more) x/\(ids++more).length=bl'.length/\St ms w0 (lits (ids++more) (ids++more) bl'++au ch' R) w'/\K x bl' ch':=by
      intro w' y' v o hv ht N5 hS;have ev:∀is,den is v=den [] v:=λis=>by have:=g_ (ids:=[]) (more:=is) v hv;simpa using this
      rcases Jc with⟨e,h1,h2⟩|⟨m,w2,h1,h2⟩
      ·rw[h2]at ht;obtain⟨rfl,rfl⟩:=DF ht;have Wd:y'=y:=by
        rw[N5];split
        ·rfl
        ·split<;>rfl
       rw[Wd]at hS;have zV:bl.set it ⟨af,⟨181,(0,0)⟩,cP y⟩=bl:=ar1 hb;rw[zV]at hS;exact⟨iy e,[],bl,g::rest,(ev _).symm,by simpa using hl,by rw[cT,e0];exact hS,hE e h1⟩
      ·rw[h2]at ht;obtain⟨rfl,rfl⟩:=DF ht;refine⟨.ay [.agg (dg m),.int .i64 0],[],_,g::rest,(ev _).symm,by simpa using hl,?_,hO _ m h1⟩;rw[cT,e0];have Wd:oF ((bJ y).gO (l.toNat-1) {mw y l with seen:=w2,on:=af,dN:=.start y.b}) y.b y.m=y':=by
        rw[N5];have:l=1\/l=2\/l=3:=oM;rcases this with rfl|rfl|rfl<;>rfl
       rw[Wd];exact hS
     have hX:∀(y':TC) (o:Option (Sd.jh×Sd.Timer)) (v:V),my (mw y l) y.b l g.d.k.pn g.d.k.pf=(v,o)->da 0 v=af:=by
      intro y' o v hv;rcases Jc with⟨e,h1,h2⟩|⟨m,w2,h1,h2⟩<;>(rw[h2]at hv;obtain⟨rfl,rfl⟩:=DF hv;rfl)
     rcases tU g.d.k.pn with hz|Cm
     ·
      have Ib:Gl gR [0,ids.getD it 0]:=by
       intro gg i di;unfold gR at di;split at di
       ·obtain rfl:=cG di;exact⟨sP,rfl⟩
       ·cases di
      have S1:=S.perm (p1.append_right _);simp only[fm]at S1;rw[er,et]at S1;have S2:St ms w0 (lits [0,ids.getD it 0] [0,ids.getD it 0] [b_ g.d.k,⟨af,⟨181,(0,0)⟩,cP y⟩]++au ([]:List Empty) ((r.map λj=>aC ids (ids.getD j 0) (bl.getD j e_))++(g.F.B++au rest R))) w:=by
       simp only[lits,au,er,et,fm,fQ];exact S1
      let X:V->List VB->Prop:=λv b=>v=(my (mw y l) y.b l g.d.k.pn g.d.k.pf).1/\b=[b_ g.d.k,⟨af,⟨181,(0,0)⟩,cP y⟩]
      have hT:my (mw y l) y.b l g.d.k.pn g.d.k.pf=if(mw y l).on=ag then(iy 16,ae)else(iy 14,ae):=by
       unfold my;rw[hz];split
       ·rfl
       ·rw[if_pos (.inl dC)]
      have cV:br (bM prog gR (LO g.d.k)) 60 93 [.ptr 1 0,.int .i64 l,.raw (.slice g.d.k.px 0 g.d.k.pc)] [b_ g.d.k,⟨af,⟨181,(0,0)⟩,cP y⟩] [] (λv bl _=>X v (bl.take 2)):=by
       have We:cond (!(mw y l).on) (X (iy 16) [b_ g.d.k,⟨af,⟨181,(0,0)⟩,cP y⟩]) (X (iy 14) [b_ g.d.k,⟨af,⟨181,(0,0)⟩,cP y⟩]):=by
        refine aJ (λe=>⟨?_,rfl⟩) (λe=>⟨?_,rfl⟩)
        ·rw[hT,if_pos (by simpa using e)]
        ·rw[hT,if_neg (by simpa using e)]
       have:l=1\/l=2\/l=3:=oM;rcases this with rfl|rfl|rfl
       ·rw[arW];exact We
       ·rw[arX];exact We
       ·rw[arY];exact We
      have ea:(aE ids [.ptr it 0,.int .i64 l,.raw (fa g.d.k)]).toArray=(aE [0,ids.getD it 0] [.ptr 1 0,.int .i64 l,.raw (.slice g.d.k.px 0 g.d.k.pc)]).toArray:=by
       have:fa g.d.k=.slice g.d.k.px 0 g.d.k.pc:=by unfold fa;rw[hz]
       rw[this];rfl
      rw[ea];refine(eZ (N2 g.d.k).T (N2 g.d.k).Q 60 (C:=bM prog gR (LO g.d.k)) Ib rfl S2 cV).mono ?_;rintro v w' ⟨x,more,bl',ch',rfl,h1,S3,hv,hJ⟩;have uX:da 0 x=af:=by
       rw[hv];exact hX y _ _ rfl
      have pF:bl'=[b_ g.d.k,⟨af,⟨181,(0,0)⟩,cP y⟩]++bl'.drop 2:=by rw[<-hJ,jH]
      rw[pF]at S3;have e2:lits ([0,ids.getD it 0]++more) ([0,ids.getD it 0]++more) ([b_ g.d.k,⟨af,⟨181,(0,0)⟩,cP y⟩]++bl'.drop 2)=aC [] 0 (b_ g.d.k)::aC [] (ids.getD it 0) ⟨af,⟨181,(0,0)⟩,cP y⟩::lits ([0,ids.getD it 0]++more) more (bl'.drop 2):=by
       simp only[fm,fQ,lits,er,et]
      rw[e2]at S3;have e3:au ch' ((r.map λj=>aC ids (ids.getD j 0) (bl.getD j e_))++(g.F.B++au rest R))=(r.map λj=>aC ids (ids.getD j 0) (bl.getD j e_))++(g.F.B++au rest R):=by cases ch' with
       |nil=>rfl
       |cons c _=>cases c
      rw[e3]at S3;have S4:=S3.sub (bs':=aC [] 0 (b_ g.d.k)::aC [] (ids.getD it 0) ⟨af,⟨181,(0,0)⟩,cP y⟩::((r.map λj=>aC ids (ids.getD j 0) (bl.getD j e_))++(g.F.B++au rest R))) (by
       simp only[fm];exact wL _ (wL _ (kG _ _)))
      have ex:den ([0,ids.getD it 0]++more) x=den [] x:=by have:=g_ (ids:=[]) (more:=[0,ids.getD it 0]++more) x uX;simpa using this
      rw[ex];have ho:(my (mw y l) y.b l g.d.k.pn g.d.k.pf).2=ae:=by rw[hT];split<;>rfl
      refine done y x ae uX ?_ ?_ (back y w' _ S4)
      ·rw[hv,<-ho]
      ·split
       ·rfl
       ·split<;>rfl
     ·
      obtain⟨bp,t,XX,hx,hle,Wf⟩:=adN g.F Cm;have Ib:Gl gR [0,ids.getD it 0,bp]:=by
       intro gg i di;unfold gR at di;split at di
       ·obtain rfl:=cG di;exact⟨sP,rfl⟩
       ·cases di
      have ar3:(⟨bp,af,.cells (ak [] (fA g.d.k.pn g.d.k.pf t).c).toArray 5 (0,0)⟩:ao)=aC [] bp (fA g.d.k.pn g.d.k.pf t):=rfl;rw[ar3]at Wf;have S1:=S.perm (p1.append_right _);rw[Wf]at S1;simp only[fm]at S1;rw[er,et]at S1;have pm:∀(a b c:ao) (A B Z:List ao),(a::b::(A++((B++[c])++Z))).Perm (a::b::c::(A++(B++Z))):=by
       intro a b c A B Z;refine vh a (vh b ?_);have:=kH (a:=c) (l₁:=A++B) (l₂:=Z);simpa[bW]using this
      have S2:St ms w0 (lits [0,ids.getD it 0,bp] [0,ids.getD it 0,bp] [b_ g.d.k,⟨af,⟨181,(0,0)⟩,cP y⟩,fA g.d.k.pn g.d.k.pf t]++au ([]:List Empty) ((r.map λj=>aC ids (ids.getD j 0) (bl.getD j e_))++(XX++au rest R))) w:=by
       simp only[lits,au,er,et,ep,fm,fQ];exact S1.perm (pm _ _ _ _ _ _)
      let X:V->List VB->Prop:=λv b=>v=(my (mw y l) y.b l g.d.k.pn g.d.k.pf).1/\b=[b_ g.d.k,⟨af,⟨181,(0,0)⟩,cP (if l=1 then{y with s0:=tL y.s0 (my (mw y l) y.b l g.d.k.pn g.d.k.pf).2}else if l=2 then{y with sa:=tL y.sa (my (mw y l) y.b l g.d.k.pn g.d.k.pf).2}else{y with sb:=tL y.sb (my (mw y l) y.b l g.d.k.pn g.d.k.pf).2})⟩,fA g.d.k.pn g.d.k.pf t]
      have cV:br (bM prog gR (LO g.d.k)) 60 93 [.ptr 1 0,.int .i64 l,.sl 2 0 g.d.k.pn g.d.k.pc] [b_ g.d.k,⟨af,⟨181,(0,0)⟩,cP y⟩,fA g.d.k.pn g.d.k.pf t] [] (kT X):=by
       have:l=1\/l=2\/l=3:=oM;rcases this with rfl|rfl|rfl
       ·rw[arT];exact Wa hw Wc hn hle dC hf ⟨rfl,rfl⟩
       ·rw[arU];exact Wa hw Wc hn hle dC hf ⟨rfl,rfl⟩
       ·rw[arV];exact Wa hw Wc hn hle dC hf ⟨rfl,rfl⟩
      have ea:(aE ids [.ptr it 0,.int .i64 l,.raw (fa g.d.k)]).toArray=(aE [0,ids.getD it 0,bp] [.ptr 1 0,.int .i64 l,.sl 2 0 g.d.k.pn g.d.k.pc]).toArray:=by
       have:fa g.d.k=.slice (aa ⟨bp,0,ae⟩) g.d.k.pn g.d.k.pc:=by unfold fa;rw[hx]
       rw[this];rfl
      rw[ea];refine(eZ (N2 g.d.k).T (N2 g.d.k).Q 60 (C:=bM prog gR (LO g.d.k)) Ib rfl S2 cV).mono ?_;rintro v w' ⟨x,more,bl',ch',rfl,h1,S3,hv,hJ⟩;generalize N5:(if l=1 then{y with s0:=tL y.s0 (my (mw y l) y.b l g.d.k.pn g.d.k.pf).2}else if l=2 then{y with sa:=tL y.sa (my (mw y l) y.b l g.d.k.pn g.d.k.pf).2}else{y with sb:=tL y.sb (my (mw y l) y.b l g.d.k.pn g.d.k.pf).2}:TC)=y' at hJ;have uX:da 0 x=af:=by
       rw[hv];exact hX y _ _ rfl
      have pF:bl'=[b_ g.d.k,⟨af,⟨181,(0,0)⟩,cP y'⟩,fA g.d.k.pn g.d.k.pf t]++bl'.drop 3:=by rw[<-hJ,jH]
      rw[pF]at S3;have e2:lits ([0,ids.getD it 0,bp]++more) ([0,ids.getD it 0,bp]++more) ([b_ g.d.k,⟨af,⟨181,(0,0)⟩,cP y'⟩,fA g.d.k.pn g.d.k.pf t]++bl'.drop 3)=aC [] 0 (b_ g.d.k)::aC [] (ids.getD it 0) ⟨af,⟨181,(0,0)⟩,cP y'⟩::aC [] bp (fA g.d.k.pn g.d.k.pf t)::lits ([0,ids.getD it 0,bp]++more) more (bl'.drop 3):=by
       simp only[fm,fQ,lits,er,et,ep]
      rw[e2]at S3;have e3:∀Z,au ch' Z=Z:=by
       intro Z;cases ch' with
       |nil=>rfl
       |cons c _=>cases c
      rw[e3]at S3;have S4:=S3.sub (bs':=aC [] 0 (b_ g.d.k)::aC [] (ids.getD it 0) ⟨af,⟨181,(0,0)⟩,cP y'⟩::aC [] bp (fA g.d.k.pn g.d.k.pf t)::((r.map λj=>aC ids (ids.getD j 0) (bl.getD j e_))++(XX++au rest R))) (by
       simp only[fm];exact wL _ (wL _ (wL _ (kG _ _))))
      have S5:=S4.perm (pm _ _ _ _ _ _).symm;rw[<-Wf]at S5;have ex:den ([0,ids.getD it 0,bp]++more) x=den [] x:=by have:=g_ (ids:=[]) (more:=[0,ids.getD it 0,bp]++more) x uX;simpa using this
      rw[ex];exact done y' x _ uX (by rw[hv]) N5.symm (back y' w' _ S5)
   ·exact hc.elim
  ·exact hc.elim
 ·exact hc.elim
def tM (a:Nat) (f:fl):ai:=.func (.func f) #[.pointer (aa ⟨a,0,ae⟩)] #[]
def qt (a:Nat):List (Int×ai):=[(3,tM a 130),(4,tM a 131),(5,tM a 132),(6,tM a 133),(7,tM a 134),(8,tM a 135),(9,tM a 136),(10,tM a 137),(11,tM a 137)]
def adQ:Nat->Prop->Prop->Prop
 |0,_,q=>q
 |n+1,p,q=>p/\adQ n p q
def ar4 (a:Nat) (K:VK Ag):br (R5 prog gN []) 60 94 [.raw (.pointer (aa ⟨a,0,ae⟩))] [] [] K=∀id:Nat,adQ 9 (Value.map (aa id)=.map (aa id)) (K (.raw (.map (aa id))) [] [⟨id,qt a⟩]):=kR
def ar5 (a:Nat) {ms:List Nat} {w0 w:aj} {B:List ao} (S:St ms w0 B w):aX prog 94 #[.pointer (aa ⟨a,0,ae⟩)] w λv w1=>∃id,v=.map (aa id)/\St ms w0 (⟨id,af,om .i64 (qt a)⟩::B) w1:=by
 have cV:br (R5 prog gN []) 60 94 [.raw (.pointer (aa ⟨a,0,ae⟩))] [] [] (λv bl ch=>∃id,v=.raw (.map (aa id))/\bl=[]/\ch=[⟨id,qt a⟩]):=by
  rw[ar4];exact λid=>⟨rfl,rfl,rfl,rfl,rfl,rfl,rfl,rfl,rfl,id,rfl,rfl,rfl⟩
 refine(eZ (G:=Ag) (aH.nil (P:=prog) (gl:=gN)).T (aH.nil (P:=prog) (gl:=gN)).Q 60 (C:=R5 prog gN []) (ids:=[]) (bl:=[]) (ch:=[]) (R:=B) (args:=[.raw (.pointer (aa ⟨a,0,ae⟩))]) (λg i h=>by cases h) rfl S cV).mono ?_;rintro v w' ⟨x,more,bl',ch',rfl,pD,S2,id,rfl,rfl,rfl⟩;have hm:more=[]:=by cases more with
  |nil=>rfl
  |cons=>simp at pD
 subst hm;exact⟨id,by simp[den],S2⟩
def uY (a:Nat):Nat->Option Nat:=λg=>match gS g with
 |some i=>aa i
 |none=>bif aA g a then aa 2 else ae
def ar6 {a:Nat} {ids:List Nat} (h:Gl (uY a) ids):Gl gS ids:=λg i hi=>h g i (by unfold uY;rw[hi])
def adR {a:Nat} {ids:List Nat} (h:Gl (uY a) ids) (ha:gS a=ae):2<ids.length/\ids.getD 2 0=a:=h a 2 (by unfold uY;rw[ha];simp)
def Jd (a:Nat):dk (Sm (Gh fr)):=λargs bl ch K=>match args with
 |[.ptr 2 0]=>gS a=ae/\∀id:Nat,K (.raw (.map (aa id))) bl (ch++[.m ⟨id,qt a⟩])
 |_=>False
def ar7 (a:Nat):Sound prog (uY a) 94 (Jd (fr:=fr) a):=by
 intro args ids bl ch R ms w0 w K hg hl S hc;unfold Jd at hc;split at hc
 ·obtain⟨ha,hK⟩:=hc;have h2:=(adR hg ha).2;have ea:(aE ids [.ptr 2 0]).toArray=#[.pointer (aa ⟨a,0,ae⟩)]:=by simp only[aE,den,h2]
  rw[ea];refine(ar5 a S).mono ?_;rintro v w1 ⟨id,rfl,S1⟩;refine⟨_,[],bl,_,?_,by simpa using hl,?_,hK id⟩
  ·simp[den]
  ·rw[cT,kY,fe _ ch];have e:au [(.m ⟨id,qt a⟩:Sm (Gh fr))] R=⟨id,af,om .i64 (qt a)⟩::R:=rfl;rw[e];rw[fe R ch]at S1;refine S1.perm ?_;rw[<-bW,<-bW];exact kH.symm
 ·exact hc.elim
def ar8 (a:Nat):jo (Jd (fr:=fr) a):=by
 intro args bl ch K h;unfold Jd at h⊢;split at h
 ·exact⟨h.1,λid=>⟨h.2 id,[],sP⟩⟩
 ·exact h.elim
def tN (f:fl):V:=.ay [.fn f [.ptr 2 0] [],.bool af]
def N6 (a:Nat):(bg->V)->Op->List VB->List (Sm (Gh fr))->VK (Sm (Gh fr))->Prop:=λe op bl ch K=>match op with
 |.lookup mt m k af=>(match ch,e m,e k with
  |[.g x,.m g],.raw mv,.int .i64 kd=>(match prog.underlying mt with
   |some (.map kt _)=>(match prog.underlying kt with
    |some (.int .i64)=>(mv=.map (aa g.id)/\g.tb=qt a/\gS a=ae/\3<=kd/\kd<=11)/\
     cond (kd==3) (K (tN 130) bl ch) (cond (kd==4) (K (tN 131) bl ch) (cond (kd==5) (K (tN 132) bl ch) (cond (kd==6) (K (tN 133) bl ch) (cond (kd==7) (K (tN 134) bl ch) (cond (kd==8) (K (tN 135) bl ch) (cond (kd==9) (K (tN 136) bl ch) (K (tN 137) bl ch)))))))
    |_=>False)
   |_=>False)
  |_,_,_=>False)
 |_=>False
def adS (a:Nat):ik prog (uY a) (N6 (fr:=fr) a):=by
 intro e op ids bl ch R ms w0 w K ρ o hg hl S bd ho h;unfold N6 at h;split at h
 ·rename_i mt m k;split at h
  ·rename_i x g mv kd hm hk;split at h
   ·rename_i kt et hu;split at h
    ·rename_i R4;obtain⟨⟨rfl,Wg,ha,h3,nV⟩,hK⟩:=h;have h2:=(adR hg ha).2;have e0:au [(.g x:Sm (Gh fr)),.m g] R=Bl.B x++(⟨g.id,af,om .i64 g.tb⟩::R):=rfl;have S':=S;rw[e0,Wg]at S';have aS:=S'.at' (x:=⟨g.id,af,om .i64 (qt a)⟩) sP;have run:∀f,(∃j,PN (.int .i64) (.int .i64 kd) (((qt a).zipIdx.map λx=>(⟨.int .i64 x.1.1,x.1.2,x.2⟩:wH)).toArray).toList 0=aa (aa (j,tM a f)))->K (tN f) bl [(.g x:Sm (Gh fr)),.m g]->
      ∃Wh more bl' ch' w',((execOp ρ o).run prog w=.ok (.value (den (ids++more) Wh)) w'\/((execOp ρ o).run prog w=.ok .skip w'/\Wh=fU))/\(ids++more).length=bl'.length/\St ms w0 (lits (ids++more) (ids++more) bl'++au ch' R) w'/\K Wh bl' ch':=by
      intro f hf hkf;refine⟨tN f,[],bl,_,w,.inl ?_,by simpa using hl,by simpa using S,hkf⟩;have bT:=ah7 (P:=prog) hu R4 aS hf;unfold execOp;simp only[ho,bd,hm,hk,den]at bT⊢;have ar9:den ids (tN f)=.tuple #[tM a f,.bool af]:=by simp only[tN,den,aE,h2,tM]
      rw[cT,ar9];simp only[bz,bT,ct,cZ]
     have N7:kd=3\/kd=4\/kd=5\/kd=6\/kd=7\/kd=8\/kd=9\/kd=10\/kd=11:=oM;rcases N7 with rfl|rfl|rfl|rfl|rfl|rfl|rfl|rfl|rfl
     ·exact run 130 ⟨0,kR⟩ hK
     ·exact run 131 ⟨1,kR⟩ hK
     ·exact run 132 ⟨2,kR⟩ hK
     ·exact run 133 ⟨3,kR⟩ hK
     ·exact run 134 ⟨4,kR⟩ hK
     ·exact run 135 ⟨5,kR⟩ hK
     ·exact run 136 ⟨6,kR⟩ hK
     ·exact run 137 ⟨7,kR⟩ hK
     ·exact run 137 ⟨8,kR⟩ hK
    ·exact h.elim
   ·exact h.elim
  ·exact h.elim
 ·exact h.elim
def Je:dk (Gh fr):=λargs bl ch K=>match args,ch with
 |[.raw vp,.int .u8 kd],g::rest=>vp=fa g.d.k/\K (.bool (decide (0<g.d.k.pn)&&(g.d.k.pf 0==kd))) bl (g::rest)
 |_,_=>False
def ar_:jo (Je (fr:=fr)):=by
 intro args bl ch K h;unfold Je at h⊢;split at h
 ·exact⟨h.1,h.2,[],sP⟩
 ·exact h.elim
def Jf:List (bK Empty):=[]
def asa (x:Option aI) (c:Nat) (kd:Int) (X:V->Prop):br (bM (G:=Empty) prog mV Jf) 40 90 [.raw (.slice x 0 c),.int .u8 kd] [] [] (λv _ _=>X v)=X (.bool ag):=kR
def asb (n c:Nat) (kd:Int) (f:Nat->Int) (t:List ai) (X:V->Prop):br (bM (G:=Empty) prog mV Jf) 40 90 [.sl 0 0 (n+1) c,.int .u8 kd] [⟨ag,⟨5,(0,0)⟩,[.cv .u8 (n+1) f,.rest t]⟩] [] (λv _ _=>X v)=cond (decide (((n+1:Nat):Int)>0)) (X (.bool (f 0==kd))) (X (.bool ag)):=kR
def N9:aH (G:=Empty) prog mV Jf:=aH.nil
def asc:Sound prog gS 90 (Je (fr:=fr)):=by
 intro args ids bl ch R ms w0 w K hg hl S hc;unfold Je at hc;split at hc
 ·rename_i vp kd g rest;obtain⟨rfl,hK⟩:=hc;have e0:au (g::rest) R=g.F.B++au rest R:=rfl;have S':=S;rw[e0]at S';have main:aX prog 90 #[fa g.d.k,.int .u8 kd] w λv w1=>v=.bool (decide (0<g.d.k.pn)&&(g.d.k.pf 0==kd))/\Ch [] w w1:=by
   rcases tU g.d.k.pn with hz|Cm
   ·have ep:fa g.d.k=.slice g.d.k.px 0 g.d.k.pc:=by unfold fa;rw[hz]
    rw[ep];refine(eZ (G:=Empty) N9.T N9.Q 40 (C:=bM prog mV Jf) (ids:=[]) (bl:=[]) (ch:=[]) (R:=[]) (ms:=[]) (w0:=w) (args:=[.raw (.slice g.d.k.px 0 g.d.k.pc),.int .u8 kd]) (λg i h=>by cases h) rfl (St.nil [] w) (K:=λv _ _=>v=.bool ag) (f:=90) (by rw[asa])).mono ?_;rintro v w' ⟨x,more,bl',ch',rfl,pD,S2,rfl⟩;exact⟨by simp[den,hz],S2.ch⟩
   ·obtain⟨bp,t,X,hx,hle,hB⟩:=adN g.F Cm;rw[hB]at S';have aS:=S'.at' (x:=⟨bp,af,.cells (ak [] (fA g.d.k.pn g.d.k.pf t).c).toArray 5 (0,0)⟩) sP;obtain⟨n,hn⟩:∃n,g.d.k.pn=n+1:=⟨g.d.k.pn-1,oM⟩;have ep:fa g.d.k=.slice (aa ⟨bp,0,ae⟩) (n+1) g.d.k.pc:=by unfold fa;rw[hx,hn]
    rw[ep];rw[hn]at aS;have S0:=St.given (w:=w) [(bp,.cells (ak [] (fA (n+1) g.d.k.pf t).c).toArray 5 (0,0))] (all_cons aS all_nil);have S1:St [] w (lits [bp] [bp] [⟨ag,⟨5,(0,0)⟩,[.cv .u8 (n+1) g.d.k.pf,.rest t]⟩]++au ([]:List Empty) []) w:=by
     simpa[lits,aC,ak,cl,au,fA]using S0
    refine(eZ (G:=Empty) N9.T N9.Q 40 (C:=bM prog mV Jf) (args:=[.sl 0 0 (n+1) g.d.k.pc,.int .u8 kd]) (λg i h=>by cases h) rfl S1 (K:=λv _ _=>v=.bool (g.d.k.pf 0==kd)) (f:=90) (by rw[asb];exact aJ (λ_=>rfl) (λe=>by have:=of_decide_eq_false e;omega))).mono ?_;rintro v w' ⟨x,more,bl',ch',rfl,pD,S2,rfl⟩;refine⟨?_,S2.ch⟩;have:decide (0<g.d.k.pn)=af:=by simp[Cm]
    simp[den,this]
  have ea:(aE ids [.raw (fa g.d.k),.int .u8 kd]).toArray=#[fa g.d.k,.int .u8 kd]:=rfl;rw[ea];refine main.mono ?_;rintro v w1 ⟨rfl,cz⟩;exact⟨_,[],bl,g::rest,by simp only[den],by simpa using hl,by simpa using S.quiet cz,hK⟩
 ·exact hc.elim
def Wi (C:Sd.aL):dk (Gh fr):=λargs bl ch K=>match args,ch with
 |[.ptr it 0,.int .i64 l,.raw vp],g::rest=>(match bl[it]?with
  |some ⟨af,⟨181,(0,0)⟩,tc⟩=>(match tI tc with
   |some y=>cond (!(aA it 0)) ((vp=fa g.d.k/\bl[0]?=aa (b_ g.d.k)/\g.d.k.pn<=58/\By g.d.k.pf/\(1<=l/\l<=3)/\(0<=y.b/\y.b<=1000)/\(∀i,i<3->((bJ y).az i).on=af->0<=((bJ y).az i).seen.high/\((bJ y).az i).seen.high<=4294967295))/\
    (Sd.aN.take C (pY y.b y.m) (bJ y) l g.d.k.pn g.d.k.pf=(bJ y,.error 16)->K (iy 16) bl ch)/\
    (Sd.aN.take C (pY y.b y.m) (bJ y) l g.d.k.pn g.d.k.pf=(bJ y,.error 14)->K (iy 14) bl ch)/\
    (Sd.aN.take C (pY y.b y.m) (bJ y) l g.d.k.pn g.d.k.pf=(bJ y,.error 13)->K (iy 13) bl ch)/\
    (Sd.aN.take C (pY y.b y.m) (bJ y) l g.d.k.pn g.d.k.pf=(bJ y,.error 15)->K (iy 15) bl ch)/\
    (∀t' m,Sd.aN.take C (pY y.b y.m) (bJ y) l g.d.k.pn g.d.k.pf=(t',.ok m)->K (.ay [.agg (dg m),.int .i64 0]) (bl.set it ⟨af,⟨181,(0,0)⟩,cP (oF t' y.b y.m)⟩) ch)) False
   |none=>False)
  |_=>False)
 |_,_=>False
def T0 {C:Sd.aL} {p:Sd.aU} {t t':Sd.aN} {l:Int} {n:Nat} {f:Nat->Int} {e:Int} (h:Sd.aN.take C p t l n f=(t',.error e)):e=16\/e=14\/e=13\/e=15:=by
 unfold Sd.aN.take at h
 repeat' split at h
 all_goals first|(cases h;done)|(obtain⟨_,h2⟩:=DF h;cases h2;simp)
def asd:Sound prog gS 93 (Wi (fr:=fr) (aP aY)):=by
 intro args ids bl ch R ms w0 w K hg hl S hc;refine ar2 args ids bl ch R ms w0 w K hg hl S ?_;unfold Wi at hc;unfold Wb;split at hc
 ·rename_i it l vp g rest;split at hc
  ·rename_i tc hb;try simp only[hb]
   split at hc
   ·rename_i y hy;try simp only[hy]
    cases hq:!(aA it 0)with
    |false=>rw[hq]at hc;exact hc.elim
    |true=>
     rw[hq]at hc;obtain⟨hp,Vy,IS,Vw,Fj,hok⟩:=hc;refine⟨hp,λe he=>?_,hok⟩;rcases T0 he with rfl|rfl|rfl|rfl
     ·exact Vy he
     ·exact IS he
     ·exact Vw he
     ·exact Fj he
   ·exact hc.elim
  ·exact hc.elim
 ·exact hc.elim
def LIg (fr:Sd.aO->Nat×Sd.ax) (C:Sd.aL):List (bK (Gh fr)):=⟨91,ag,gz (Fp C)⟩::⟨92,ag,gz (I9 C)⟩::⟨93,ag,Wi C⟩::⟨90,af,Je⟩::⟨130,ag,gz (jT λs l m=>s.done l m.seq)⟩::⟨131,ag,gz (jT λs l m=>s.BH C l m)⟩::⟨132,ag,gz (jT λs l m=>s.ask C l m)⟩::
 ⟨133,ag,gz (jT λs l m=>s.offer C l m)⟩::⟨134,ag,gz (jT λs l m=>s.accept C l m)⟩::⟨135,ag,gz (jT λs l m=>s.gh C l m)⟩::⟨136,ag,gz (jT λs l m=>s.release C l m)⟩::⟨137,ag,gz (IU C)⟩::L8 fr C
def ase (ht:Body (fr:=fr) 124 dt):aH prog gS (LIg fr (aP aY)):=
 aH.cons (h_ (arq ht)) (aH.cons (h_ (arP ht)) (aH.cons ⟨asd,λe=>by cases e⟩ (aH.cons ⟨asc,λ_=>ar_⟩ (aH.cons (h_ (apG aY ht)) (aH.cons (h_ (aqu aY ht)) (aH.cons (h_ (apM aY ht)) (aH.cons (h_ (apJ aY ht)) (aH.cons (h_ (apH aY ht)) (aH.cons (h_ (apI aY ht)) (aH.cons (h_ (apL aY ht)) (aH.cons (h_ (aqv aY ht)) (C3 aY ht))))))))))))
def LI (fr:Sd.aO->Nat×Sd.ax) (a:Nat) (C:Sd.aL):List (bK (Sm (Gh fr))):=⟨94,af,Jd a⟩::R6 (LIg fr C)
def asf (a:Nat) (ht:Body (fr:=fr) 124 dt):aH prog (uY a) (LI fr a (aP aY)):=aH.cons ⟨ar7 a,λ_=>ar8 a⟩ (aaK (λids h=>ar6 h) (ase ht))
def Wj (k:LK) (s:Sd.ah) (Kb:SK fr k):V->List VB->List (Sm (Gh fr))->Prop:=λv bl ch=>∃s' F' r,da 0 v=af/\s'.c.p=s.c.p/\Kb v s' F'/\bl.take 5=bI k s' F'/\ch=.g (a_ k s' F')::r
section
variable(a:Nat) (C:Sd.aL) (k:LK) (s:Sd.ah) (F:ba fr (a9 k s)) (Kb:SK fr k) (l code:Int)
def AN (r:List (Sm (Gh fr))) (s':Sd.ah) (F':ba fr (a9 k s')):Prop:=Wj k s Kb (.ay []) (bI k s' F') (.g (a_ k s' F')::r)
def Jg (e:Int):Prop:=Sd.aN.take C (pY s.c.p.cO s.c.p.iM) (dX s.c.aq) l k.pn k.pf=(dX s.c.aq,.error e)->cq k s F/\rU C [.int .i64 l,.int .i64 e] k (bO s) F λv s' F'=>AN k s Kb [] s' F'
def yO (M:SM fr) (t':Sd.aN) (m:Sd.bQ) (id:Nat):Prop:=cq k s F/\M [.int .i64 l,.agg (dg m)] k (qo s t') F λv s' F'=>AN k s Kb [.m ⟨id,qt a⟩] s' F'
def itO (t':Sd.aN) (m:Sd.bQ):Prop:=gS a=ae/\∀id:Nat,(Value.map (aa id)=.map (aa id)/\qt a=qt a/\gS a=ae/\3<=m.kind/\m.kind<=11)/\
 cond (m.kind==3) (yO a k s F Kb l (jT λs l m=>s.done l m.seq) t' m id) (cond (m.kind==4) (yO a k s F Kb l (jT λs l m=>s.BH C l m) t' m id) (cond (m.kind==5) (yO a k s F Kb l (jT λs l m=>s.ask C l m) t' m id) (cond (m.kind==6) (yO a k s F Kb l (jT λs l m=>s.offer C l m) t' m id)
 (cond (m.kind==7) (yO a k s F Kb l (jT λs l m=>s.accept C l m) t' m id) (cond (m.kind==8) (yO a k s F Kb l (jT λs l m=>s.gh C l m) t' m id) (cond (m.kind==9) (yO a k s F Kb l (jT λs l m=>s.release C l m) t' m id) (yO a k s F Kb l (IU C) t' m id)))))))
def Wk:Prop:=
 cond (code !=0) (cq k s F/\rU C [.int .i64 l,.int .i64 code] k (bO s) F λv s' F'=>AN k s Kb [] s' F')
 (fa k=fa k/\cond (decide (0<k.pn)&&(k.pf 0==1)) (cq k s F/\Fp C [.int .i64 l,.raw (fa k)] k (bO s) F λv s' F'=>AN k s Kb [] s' F')
 (fa k=fa k/\cond (decide (0<k.pn)&&(k.pf 0==2)) (cq k s F/\I9 C [.int .i64 l,.raw (fa k)] k (bO s) F λv s' F'=>AN k s Kb [] s' F')
 ((fa k=fa k/\aa (b_ k)=aa (b_ k)/\k.pn<=58/\By k.pf/\(1<=l/\l<=3)/\(0<=s.c.p.cO/\s.c.p.cO<=1000)/\(∀i,i<3->((bJ (v3 s)).az i).on=af->0<=((bJ (v3 s)).az i).seen.high/\((bJ (v3 s)).az i).seen.high<=4294967295))/\
   Jg C k s F Kb l 16/\Jg C k s F Kb l 14/\Jg C k s F Kb l 13/\Jg C k s F Kb l 15/\∀t' m,Sd.aN.take C (pY s.c.p.cO s.c.p.iM) (dX s.c.aq) l k.pn k.pf=(t',.ok m)->itO a C k s F Kb l t' m)))
def ash:br (gy prog (uY a) (LI fr a C) (N6 a) (adS a)) 90 77 [.ptr 2 0,.int .i64 l,.agg [.int .i64 code,.raw (fa k)]] (bI k s F) [.g (a_ k s F)] (Wj k s Kb)=Wk a C k s F Kb l code:=kR
end
def asi {w:Sd.jh} {n:Int} (h:0<=w.high/\w.high<=4294967295) (hn:0<=n/\n<=4294967295):0<=(eM w n).high/\(eM w n).high<=4294967295:=by
 unfold eM
 repeat' split
 all_goals first|exact hn|exact h
def adT (H:Nat->Int):By (Aj H):=by
 intro j;have hw:∀n:Int,0<=u8.wrap n/\u8.wrap n<=255:=by intro n;simp[zo,vj,vm];omega
 unfold Aj;split<;>exact hw _
def asj (n:Nat) (f:Nat->Int):By (kK n f):=by
 unfold kK;cases bZ n 55
 ·exact adT _
 ·exact adT _
def Db:Sd.CA (aP aY):=⟨λk s n j=>by
 show 0<=kg k.1 k.2 s n j/\kg k.1 k.2 s n j<=255;unfold kg iF;exact asj _ _ j,λn f m h=>VZ h,λw n h1 h2=>asi h1 h2⟩
structure Fw (k:LK) (s:Sd.ah) (l:Int):Prop where
 r:Rm s 8
 i:Sd.Inv s.c
 lo:1<=l/\l<=3
 d:∀i,i<3->(s.c.doors i).many<=9223372036854775807
 key:∀i,i<4->1<=k.kn i/\k.kn i<=64
 ke:∀i,i<4->s.c.p.k i=(k.kn i,k.kf i)
 qq:k.pn<=58/\By k.pf
def Fx (C:Sd.aL):SM fr:=λar k s F K=>match ar with
 |[.int .i64 l,.agg [.int .i64 code,.raw vp]]=>(vp=fa k/\Fw k s l)/\∀F',K (.ay []) (s.item C l code k.pn k.pf) F'
 |_=>False
def Fw.oz {k:LK} {s:Sd.ah} {l:Int} (h:Fw k s l):VN k s l:=⟨h.r,λi hi=>⟨h.i.doors i hi,h.d i hi⟩,h.key 3 dC,h.ke 3 dC,⟨by have:=h.qq.1;omega,h.qq.2⟩,h.lo⟩
def Fw.prv {k:LK} {s:Sd.ah} {l:Int} (h:Fw k s l):NX k s l:=⟨h.r,h.lo,h.key _ (by have:=h.lo;omega),h.ke _ (by have:=h.lo;omega),by have:=h.i.p.cO;omega,h.i.tok.aF,h.i.lR⟩
def adU (C:Sd.aL) (s:Sd.ah) (l:Int) (n:Nat) (f:Nat->Int) (hl:1<=l/\l<=3):
 (∃e,Sd.aN.take C (pY s.c.p.cO s.c.p.iM) (dX s.c.aq) l n f=(dX s.c.aq,.error e)/\Sd.aN.take C s.c.p s.c.aq l n f=(s.c.aq,.error e))\/
 (∃m E t,Sd.aN.take C (pY s.c.p.cO s.c.p.iM) (dX s.c.aq) l n f=(E,.ok m)/\Sd.aN.take C s.c.p s.c.aq l n f=(t,.ok m)/\qo s E=kD s t):=by
 have N3:(dX s.c.aq).az (l.toNat-1)=s.c.aq.az (l.toNat-1):=by
  have:l=1\/l=2\/l=3:=oM;rcases this with rfl|rfl|rfl<;>rfl
 have hb:(pY s.c.p.cO s.c.p.iM).cO=s.c.p.cO:=rfl;unfold Sd.aN.take;rw[IJ,N3,hb];by_cases h1:s.c.aq.iC l=ag
 ·rw[if_pos h1,if_pos h1];exact .inl ⟨16,rfl,rfl⟩
 rw[if_neg h1,if_neg h1];by_cases h2:n<8\/C.opens (s.c.aq.az (l.toNat-1)).key l n f=ag
 ·rw[if_pos h2,if_pos h2];exact .inl ⟨14,rfl,rfl⟩
 rw[if_neg h2,if_neg h2];cases C.take (n-8) f with
 |none=>exact .inl ⟨13,rfl,rfl⟩
 |some m=>
  simp only;by_cases h3:m.kind=1\/m.kind=2
  ·rw[if_pos h3,if_pos h3];exact .inl ⟨13,rfl,rfl⟩
  rw[if_neg h3,if_neg h3];by_cases h4:C.g9 (s.c.aq.az (l.toNat-1)).seen m.seq=(s.c.aq.az (l.toNat-1)).seen
  ·rw[if_pos h4,if_pos h4];exact .inl ⟨15,rfl,rfl⟩
  rw[if_neg h4,if_neg h4];refine .inr ⟨m,_,_,rfl,rfl,IT rfl (λj hj=>?_) (λj=>?_)⟩
  ·simp only[Sd.aN.gO];split
   ·rfl
   ·have:j=0\/j=1\/j=2:=oM;rcases this with rfl|rfl|rfl<;>rfl
  ·simp only[Sd.aN.gO];rw[if_neg oM]
def Wl {C:Sd.aL} {b:Prop} {s s':Sd.ah} {kd l:Int} (h:Sd.fW C b s s' kd l):s'.c.p=s.c.p:=by
 rcases h.Au with q|⟨how,g,_⟩
 ·exact q.p
 ·exact g.p
def asl {a:Nat} {k:LK} {s:Sd.ah} {F:ba fr (a9 k s)} {Kb:SK fr k} {l code:Int} (ha:gS a=ae) (hq:s.c.p.queue=k.most) (hP:Fw k s l) (hK:∀F',Kb (.ay []) (s.item (aP aY) l code k.pn k.pf) F'):Wk a (aP aY) k s F Kb l code:=by
 have leaf:∀(r:List (Sm (Gh fr))) (s':Sd.ah) (F':ba fr (a9 k s')),s'=s.item (aP aY) l code k.pn k.pf->s'.c.p=s.c.p->AN k s Kb r s' F':=by
  intro r s' F' e hp;subst e;exact⟨_,F',r,rfl,hp,hK F',rfl,rfl⟩
 have N_:∀e,code=0->¬(0<k.pn/\k.pf 0=1)->¬(0<k.pn/\k.pf 0=2)->Jg (aP aY) k s F Kb l e:=by
  intro e hc h1 h2 he;refine⟨cK hq,IL (hP.r.r1) λF1=>leaf _ _ F1 ?_ rfl⟩;unfold Sd.ah.item;rw[if_neg (by simp[hc]),if_neg h1,if_neg h2];rcases adU (aP aY) s l k.pn k.pf hP.lo with⟨e',h3,h4⟩|⟨m,E,t,h3,_,_⟩
  ·rw[h4];rw[h3]at he;have:=(DF he).2;cases this;rfl
  ·rw[h3]at he;have:=(DF he).2;cases this
 unfold Wk;refine aJ (λe=>⟨cK hq,IL hP.r.r1 λF1=>leaf _ _ F1 ?_ rfl⟩) (λe=>⟨rfl,aJ (λe1=>⟨cK hq,mY (M:=Fp (aP aY)) ⟨⟨rfl,hP.oz⟩,λF1=>leaf _ _ F1 ?_ ?_⟩⟩) (λe1=>⟨rfl,aJ (λe2=>⟨cK hq,mY (M:=I9 (aP aY)) ⟨⟨rfl,hP.prv,hP.qq.2⟩,λF1=>leaf _ _ F1 ?_ ?_⟩⟩) (λe2=>?_)⟩)⟩)
 ·unfold Sd.ah.item;rw[if_pos (by simpa using e)]
 ·unfold Sd.ah.item;rw[if_neg (by simpa using e),if_pos (by simpa using e1)]
 ·exact Wl (b:=False) (Sd.acs Db hP.i hP.lo)
 ·unfold Sd.ah.item;rw[if_neg (by simpa using e),if_neg (by simpa using e1),if_pos (by simpa using e2)]
 ·exact Wl (b:=False) (Sd.acu Db hP.i hP.lo)
 ·have hc:code=0:=by simpa using e
  have n1:¬(0<k.pn/\k.pf 0=1):=by simpa using e1
  have n2:¬(0<k.pn/\k.pf 0=2):=by simpa using e2
  refine⟨⟨rfl,rfl,hP.qq.1,hP.qq.2,hP.lo,by have:=hP.i.p.cO;omega,λi hi jR=>?_⟩,N_ 16 hc n1 n2,N_ 14 hc n1 n2,N_ 13 hc n1 n2,N_ 15 hc n1 n2,λt' m ht=>⟨ha,λid=>?_⟩⟩
  ·have hs:(bJ (v3 s)).az i=s.c.aq.az i:=by
    have:i=0\/i=1\/i=2:=oM;rcases this with rfl|rfl|rfl<;>rfl
   rw[hs]at jR⊢;have:=hP.i.aq.az i hi jR;exact⟨this.2.2.2.2.2.1,this.2.2.2.2.2.2⟩
  ·rcases adU (aP aY) s l k.pn k.pf hP.lo with⟨e',h3,h4⟩|⟨m',E,t,h3,h4,h5⟩
   ·rw[h3]at ht;have:=(DF ht).2;cases this
   ·rw[h3]at ht;obtain⟨rfl,hm⟩:=DF ht;cases hm;obtain⟨g1,g2,g3,g4,g5⟩:=Sd.acv Db h4;have N7:=g2.kind;have adP:=hP.i.p.cO;have MW:s.c.aq.on l=af:=by rw[Sd.T4 hP.lo];exact g1
    have jR:(s.c.aq.az (l.toNat-1)).on=af:=by unfold Sd.aN.iC at g1;simp at g1;exact g1.2
    have i1:Sd.Inv (kD s t).c:=by
     have:=hP.i.gO (i:=l.toNat-1) (x:={(s.c.aq.az (l.toNat-1))with seen:=(aP aY).g9 (s.c.aq.az (l.toNat-1)).seen m.seq,on:=af,dN:=.start s.c.p.cO}) rfl
      (by
       have:=hP.i.aq.az (l.toNat-1) (by have:=hP.lo;omega) jR;have h9:=Db.g9 (s.c.aq.az (l.toNat-1)).seen m.seq ⟨oM,oM⟩ g2.seq;simp[Sd.Timer.start];omega)
     rw[<-g5]at this;exact this
    have hS:Sy (kD s t) l m:=⟨hP.r,i1,g2.seq,hP.lo.1,hP.lo.2⟩;have asm:(kD s t).c.aq.on l=af:=by
     show t.on l=af;rw[g5];exact Sd.MV MW rfl
    have pC:s.item (aP aY) l code k.pn k.pf=(kD s t).kW (aP aY) l m:=by
     unfold Sd.ah.item;rw[if_neg (by simp[hc]),if_neg n1,if_neg n2,h4];rfl
    have adV:((kD s t).kW (aP aY) l m).c.p=s.c.p:=(Wl (C:=aP aY) (b:=False) (Sd.acw i1 hP.lo g2 asm g3 g4)).trans rfl;have go:∀(act:Sd.ah->Int->Sd.bQ->Sd.ah),act (kD s t) l m=(kD s t).kW (aP aY) l m->yO a k s F Kb l (jT act) E m id:=by
     intro act Jh;refine⟨cK hq,yB (M:=λs' F'=>jT act [.int .i64 l,.agg (dg m)] k s' F' λv s' F'=>AN k s Kb [.m ⟨id,qt a⟩] s' F') h5 F ?_⟩;exact⟨hS,λF1=>leaf _ _ F1 (by rw[pC,Jh]) (by rw[Jh];exact adV)⟩
    refine⟨⟨rfl,rfl,ha,oM,oM⟩,?_⟩;have sy:∀j:Int,m.kind=j->(kD s t).kW (aP aY) l m=(kD s t).kW (aP aY) l m:=λ_ _=>rfl;refine aJ (λe=>go _ ?_) (λx3=>aJ (λe=>go _ ?_) (λx4=>aJ (λe=>go _ ?_) (λx5=>aJ (λe=>go _ ?_) (λx6=>aJ (λe=>go _ ?_) (λx7=>aJ (λe=>go _ ?_) (λx8=>aJ (λe=>go _ ?_) (λx9=>?_)))))))
    ·unfold Sd.ah.kW;rw[if_pos (by simpa using e)]
    ·unfold Sd.ah.kW;rw[if_neg (by simpa using x3),if_pos (by simpa using e)]
    ·unfold Sd.ah.kW;rw[if_neg (by simpa using x3),if_neg (by simpa using x4),if_pos (by simpa using e)]
    ·unfold Sd.ah.kW;rw[if_neg (by simpa using x3),if_neg (by simpa using x4),if_neg (by simpa using x5),if_pos (by simpa using e)]
    ·unfold Sd.ah.kW;rw[if_neg (by simpa using x3),if_neg (by simpa using x4),if_neg (by simpa using x5),if_neg (by simpa using x6),if_pos (by simpa using e)]
    ·unfold Sd.ah.kW;rw[if_neg (by simpa using x3),if_neg (by simpa using x4),if_neg (by simpa using x5),if_neg (by simpa using x6),if_neg (by simpa using x7),if_pos (by simpa using e)]
    ·unfold Sd.ah.kW;rw[if_neg (by simpa using x3),if_neg (by simpa using x4),if_neg (by simpa using x5),if_neg (by simpa using x6),if_neg (by simpa using x7),if_neg (by simpa using x8),if_pos (by simpa using e)]
    ·have mu:m.kind=10\/m.kind=11:=by simp at x3 x4 x5 x6 x7 x8 x9;omega
     have Jh:(kD s t).command (aP aY) l m=(kD s t).kW (aP aY) l m:=by
      unfold Sd.ah.kW;rw[if_neg (by simpa using x3),if_neg (by simpa using x4),if_neg (by simpa using x5),if_neg (by simpa using x6),if_neg (by simpa using x7),if_neg (by simpa using x8),if_neg (by simpa using x9),if_pos mu]
     refine⟨cK hq,yB (M:=λs' F'=>IU (aP aY) [.int .i64 l,.agg (dg m)] k s' F' λv s' F'=>AN k s Kb [.m ⟨id,qt a⟩] s' F') h5 F ?_⟩;exact⟨⟨hS,mu⟩,λF1=>leaf _ _ F1 (by rw[pC,Jh]) (by rw[Jh];exact adV)⟩
def adW (ht:Body (fr:=fr) 124 dt):Body (fr:=fr) 77 (Fx (aP aY)):=by
 intro ar k s F Kb a b c R ms w0 w h0 hq hM S;unfold Fx at hM;split at hM
 ·rename_i l code vp;obtain⟨⟨rfl,hP⟩,hK⟩:=hM;have asn:ca a b c=[0,1,a,b,c]:=rfl;have ha:gS a=ae:=by
   have h1:(lits (ca a b c) (ca a b c) (bI k s F)++(F.B++R))[0]?=aa (aC (ca a b c) 0 (b_ k)):=rfl;have h2:(lits (ca a b c) (ca a b c) (bI k s F)++(F.B++R))[1]?=aa (aC (ca a b c) 1 (gK k)):=rfl;have h3:(lits (ca a b c) (ca a b c) (bI k s F)++(F.B++R))[2]?=aa (aC (ca a b c) a (uN 3 F)):=rfl;have n0:a≠0:=S.apart 2 0 _ _ h3 h1 dC rfl;have n2:a≠1:=S.apart 2 1 _ _ h3 h2 dC rfl;unfold gS;split
   ·exact absurd rfl n0
   ·exact absurd rfl n2
   ·rfl
  have hg:Gl (uY a) (ca a b c):=by
   intro g i di;unfold uY at di;split at di
   ·rename_i j hj;obtain rfl:=cG di;have:=adL a b c [] g j hj;simpa using this
   ·cases hb:aA g a with
    |false=>rw[hb]at di;cases di
    |true=>
     rw[hb]at di;obtain rfl:=cG di;obtain rfl:=ck hb;exact⟨by simp[asn],rfl⟩
  have S1:St ms w0 (lits (ca a b c) (ca a b c) (bI k s F)++au [(.g (a_ k s F):Sm (Gh fr))] R) w:=S;have hL:=asf (fr:=fr) a ht;refine(eZ (G:=Sm (Gh fr)) hL.T hL.Q 90 (C:=gy prog (uY a) (LI fr a (aP aY)) (N6 a) (adS a)) (f:=77) (args:=[.ptr 2 0,.int .i64 l,.agg [.int .i64 code,.raw (fa k)]]) (K:=Wj k s Kb) hg rfl S1 (by
   rw[ash];exact asl ha hq hP hK)).mono ?_
  rintro v w' ⟨x,more,bl',ch',rfl,h1,S',s',F',r,hv,hp,V7,hb,rfl⟩;have ev:den (ca a b c++more) x=den [] x:=by have:=g_ (ids:=[]) (more:=ca a b c++more) x hv;simpa using this
  refine⟨x,s',F',ev,hv,hp,V7,?_⟩;have pF:bl'=bI k s' F'++bl'.drop 5:=by rw[<-hb,jH]
  rw[pF]at S';have e2:lits (ca a b c++more) (ca a b c++more) (bI k s' F'++bl'.drop 5)=lits (ca a b c) (ca a b c) (bI k s' F')++lits (ca a b c++more) more (bl'.drop 5):=by
   rw[fu _ _ _ _ rfl,fw (ids:=ca a b c) (more:=more) (ca a b c) (bI k s' F') rfl]
  rw[e2]at S';have e3:au (.g (a_ k s' F')::r:List (Sm (Gh fr))) R=F'.B++au r R:=rfl;rw[e3,fe R r]at S';refine S'.sub ?_;rw[bW];refine mD ?_ _;refine agk ?_ (kG _ _);exact mD (kG _ _) _
 ·exact hM.elim
end
section
open Go Go.RowKit Go.BigFrame Sx Vx
def aso (fr:Sd.aO->Nat×Sd.ax) (C:Sd.aL):nW fr C [ag,ag,ag,ag]:=λk s F Kb=>kR
def asp (fr:Sd.aO->Nat×Sd.ax) (C:Sd.aL):nW fr C [ag,ag,ag,af]:=λk s F Kb=>kR
def asq (fr:Sd.aO->Nat×Sd.ax) (C:Sd.aL):nW fr C [ag,ag,af,ag]:=λk s F Kb=>kR
def asr (fr:Sd.aO->Nat×Sd.ax) (C:Sd.aL):nW fr C [ag,ag,af,af]:=λk s F Kb=>kR
def ass (fr:Sd.aO->Nat×Sd.ax) (C:Sd.aL):nW fr C [ag,af,ag,ag]:=λk s F Kb=>kR
def ast (fr:Sd.aO->Nat×Sd.ax) (C:Sd.aL):nW fr C [ag,af,ag,af]:=λk s F Kb=>kR
def asu (fr:Sd.aO->Nat×Sd.ax) (C:Sd.aL):nW fr C [ag,af,af,ag]:=λk s F Kb=>kR
def asv (fr:Sd.aO->Nat×Sd.ax) (C:Sd.aL):nW fr C [ag,af,af,af]:=λk s F Kb=>kR
def asw (fr:Sd.aO->Nat×Sd.ax) (C:Sd.aL):nW fr C [af,ag,ag,ag]:=λk s F Kb=>kR
def asx (fr:Sd.aO->Nat×Sd.ax) (C:Sd.aL):nW fr C [af,ag,ag,af]:=λk s F Kb=>kR
def asy (fr:Sd.aO->Nat×Sd.ax) (C:Sd.aL):nW fr C [af,ag,af,ag]:=λk s F Kb=>kR
def asz (fr:Sd.aO->Nat×Sd.ax) (C:Sd.aL):nW fr C [af,ag,af,af]:=λk s F Kb=>kR
def asA (fr:Sd.aO->Nat×Sd.ax) (C:Sd.aL):nW fr C [af,af,ag,ag]:=λk s F Kb=>kR
def asB (fr:Sd.aO->Nat×Sd.ax) (C:Sd.aL):nW fr C [af,af,ag,af]:=λk s F Kb=>kR
def asC (fr:Sd.aO->Nat×Sd.ax) (C:Sd.aL):nW fr C [af,af,af,ag]:=λk s F Kb=>kR
def asD (fr:Sd.aO->Nat×Sd.ax) (C:Sd.aL):nW fr C [af,af,af,af]:=λk s F Kb=>kR
variable{fr:Sd.aO->Nat×Sd.ax}
def asE (fr:Sd.aO->Nat×Sd.ax) (C:Sd.aL) (a b c d:Bool):nW fr C [a,b,c,d]:=by
 cases a<;>cases b<;>cases c<;>cases d
 ·exact aso fr C
 ·exact asp fr C
 ·exact asq fr C
 ·exact asr fr C
 ·exact ass fr C
 ·exact ast fr C
 ·exact asu fr C
 ·exact asv fr C
 ·exact asw fr C
 ·exact asx fr C
 ·exact asy fr C
 ·exact asz fr C
 ·exact asA fr C
 ·exact asB fr C
 ·exact asC fr C
 ·exact asD fr C
structure fO (c:Sd.Core):Prop where
 p:Sd.fF c.p
 t:TB c.t
 o1:bV c.t.oa.n
 o2:bV c.t.oa.most
 l1:bV c.t.la.n
 l2:bV c.t.la.most
 vQ:c.t.offer<=4
 q:∀a∈c.q,N4 a.source/\bV a.dy.n/\bV a.dy.most
 pt:Fs c.pt
def b0:bV 0:=⟨dC,dC⟩
def adX {n m:Int} (h1:bV n) (h2:bV m):bV (Sd.sat n m):=by
 obtain⟨a,b⟩:=h1;obtain⟨c,d⟩:=h2;unfold Sd.sat;split
 ·exact⟨oM,oM⟩
 ·exact⟨c,d⟩
def fO.tok {c:Sd.Core} (h:fO c) {t:Sd.Tok} (ht:TB t) (o1:bV t.oa.n) (o2:bV t.oa.most) (vQ:t.offer<=4) (hl:t.la=c.t.la):fO {c with t:=t}:=⟨h.p,ht,o1,o2,hl▸h.l1,hl▸h.l2,vQ,h.q,h.pt⟩
def fO.drop {c:Sd.Core} (h:fO c) (l:Int):fO {c with t:=(c.t.drop l).1}:=by
 unfold Sd.Tok.drop;split
 ·exact h
 ·exact h.tok ⟨h.t.h,h.t.e⟩ b0 b0 (by simp[Sd.Tok.jk]) rfl
def fO.tick {c:Sd.Core} (h:fO c):fO {c with t:=c.t.tick.1}/\c.t.tick.2<=4:=by
 unfold Sd.Tok.tick;split
 ·exact⟨h,sP⟩
 ·split
  ·exact⟨h.tok ⟨h.t.h,h.t.e⟩ b0 b0 (by simp[Sd.Tok.jk]) rfl,h.vQ⟩
  ·exact⟨h.tok ⟨h.t.h,h.t.e⟩ (adX h.o1 h.o2) h.o2 h.vQ rfl,sP⟩
def fO.qs {c:Sd.Core} (h:fO c) {q:List Sd.Ask} (hq:∀a∈q,N4 a.source/\bV a.dy.n/\bV a.dy.most):fO {c with q:=q}:=⟨h.p,h.t,h.o1,h.o2,h.l1,h.l2,h.vQ,hq,h.pt⟩
def fO.head {c:Sd.Core} (h:fO c) (x:Sd.ax):fO {c with head:=x}:=⟨h.p,h.t,h.o1,h.o2,h.l1,h.l2,h.vQ,h.q,h.pt⟩
def fO.Ji {s:Sd.ah} (h:fO s.c) (C:Sd.aL) (a b c d e:Int):fO (s.record C a b c d e).c:=h.head _
def fO.gone {s:Sd.ah} (h:fO s.c) (l w c:Int):fO (s.gone l w c).c:=by rw[lQ];exact h
def fO.leave {s:Sd.ah} (h:fO s.c) (C:Sd.aL) (l:Int):fO (s.leave C l).c:=by
 have h1:fO (qd s l).c:=h.qs λa ha=>h.q a (A_.1 ha).1;rw[VA];split
 ·exact h1
 ·exact((show fO (gA (qd s l) (s.c.t.drop l).1).c from h1.drop l).gone _ _ _).Ji _ _ _ _ _ _
def adY {c:Sd.Core} (h:fO c):∀a∈Sd.Q.oX c.q,N4 a.source/\bV a.dy.n/\bV a.dy.most:=by
 intro a ha;obtain⟨b,hb,rfl⟩:=n8.1 ha;obtain⟨h1,h2,h3⟩:=h.q b hb;exact⟨h1,adX h2 h3,h3⟩
def Fy (C:Sd.aL) (s:Sd.ah) (a:Sd.Ask):Sd.ah:=(s.gone a.source a.source 30).record C 12 a.source 0 30 0
def m9 (C:Sd.aL) (s:Sd.ah) (x:Int):Sd.ah:=if Sd.linked x then(s.record C 5 x 0 0 0).leave C x else s.record C 5 x 0 0 0
def Fz (C:Sd.aL) (s:Sd.ah):Sd.ah:=if 0<=s.c.t.tick.2 then((gA s s.c.t.tick.1).gone s.c.t.tick.1.aF s.c.t.tick.2 30).record C 12 s.c.t.tick.2 0 30 0 else gA s s.c.t.tick.1
def adZ (C:Sd.aL) (s:Sd.ah) (a:Sd.Ask):(Fy C s a).c.p=s.c.p:=by show(Sd.ah.gone _ _ _ _).c.p=_;rw[lQ]
def Oa (C:Sd.aL) (s:Sd.ah) (x:Int):(m9 C s x).c.p=s.c.p:=by
 unfold m9;split
 ·rw[NF];rfl
 ·rfl
def ad0 (C:Sd.aL) (s:Sd.ah) (t:Sd.Tok) (h n:Int):(s.goes C t h n).c.pt=s.c.pt:=by
 show(Sd.ah.eh _ _ _).c.pt=_;rw[kB,kB]
def ad1 (C:Sd.aL) (s:Sd.ah):(s.dz C).c.p=s.c.p:=by
 rw[IX _ _ _ rfl];split
 ·rfl
 ·split
  ·exact NL _ _ _ _ _ _ _
  ·exact NL _ _ _ _ _ _ _
def asF {C:Sd.aL} {s:Sd.ah} (h:Fs s.c.pt):Fs (s.dz C).c.pt:=by
 have hf:∀(t:Sd.ah) (m:Int) (b:Sd.Label),t.c.pt=s.c.pt->Fs (t.ei m b).c.pt:=by
  intro t m b e;show Fs (t.c.pt.hold b);rw[e];exact⟨b0,b0,b0,b0,h.2.2.2.2⟩
 rw[IX _ _ _ rfl];split
 ·exact h
 ·split
  ·exact hf _ _ _ (ad0 _ _ _ _ _)
  ·exact hf _ _ _ (ad0 _ _ _ _ _)
section
variable{tk:Nat->Sd.ax->Option Sd.bQ} {k:LK} {s0:Sd.ah} {Kb:SK fr k}
def asG {C:Sd.aL} {s:Sd.ah} {F:ba fr (a9 k s)} {K:SK fr k} (h:VE s) (hK:∀F',K (.ay []) (s.dz C) F'):C2 C [] k (bO s) F K:=by
 have e:C2 C [] k s F K=(VE s/\∀F',K (.ay []) (s.dz C) F'):=kR;exact mY (M:=C2 C) (e▸⟨h,hK⟩)
def asH {C:Sd.aL} {s:Sd.ah} {F:ba fr (a9 k s)} {K:SK fr k} {l:Int} (h:Rm s 2/\N4 l) (hK:∀F',K (.ay []) (s.leave C l) F'):uR C [.int .i64 l] k (bO s) F K:=by
 have e:uR C [.int .i64 l] k s F K=((Rm s 2/\N4 l)/\∀F',K (.ay []) (s.leave C l) F'):=kR;exact mY (M:=uR C) (e▸⟨h,hK⟩)
def Jj:∀(l:List Sd.Ask) (s:Sd.ah) (F:ba fr (a9 k s)) (j:List VB),s.c.p=s0.c.p->s.c.p.queue=k.most->fO s.c->(∀a∈l,N4 a.source)->Rm s (2*l.length+8)->
 (∀F',Kb (.ay []) (C7 ((l.foldl (Fy (aP tk)) s).dz (aP tk))) F')->Ft (aP tk) k s0 Kb l s F j
 |[],s,F,j,hp,hq,hT,hl,hr,hK=>⟨cK hq,asG ⟨hr,hT.p,hT.t,hT.l1,hT.l2⟩ λF2=>⟨⟨by rw[ad1];exact hT.p,asF hT.pt⟩,eE (s':=C7 (s.dz (aP tk))) rfl hK F2 (hp:=by show(Sd.ah.dz _ _).c.p=_;rw[ad1];exact hp) (hb:=kR)⟩⟩
 |a::l,s,F,j,hp,hq,hT,hl,hr,hK=>by
  have ha:=hl a sP;have kj:Rm s (2*l.length+8+1+1):=hr.le (by simp only[jf];omega);refine⟨cK hq,IK ⟨hr.le oM,ha,⟨dC,dC⟩⟩ λF2=>⟨cK (by rw[lQ];exact hq),m7 kj.gone.r1 λF3=>Jj l (Fy (aP tk) s a) F3 _ (by rw[adZ];exact hp) (by rw[adZ];exact hq) ((hT.gone _ _ _).Ji _ _ _ _ _ _) (λb hb=>hl b (by simp[hb])) kj.gone.rec hK⟩⟩
def ad2 (s:Sd.ah) (F:ba fr (a9 k s)) (j:List VB) (hp:s.c.p=s0.c.p) (hq:s.c.p.queue=k.most) (hT:fO s.c) (hr:Rm s 14)
 (hK:∀F',Kb (.ay []) (C7 (((Sd.Q.gone s.c.q).foldl (Fy (aP tk)) (cE s (Sd.Q.kept s.c.q))).dz (aP tk))) F'):VO (aP tk) k s0 Kb s F j:=by
 have wk:fO (cE s (Sd.Q.kept s.c.q)).c:=hT.qs λa ha=>adY hT a (A_.1 ha).1;have hg:∀a∈Sd.Q.gone s.c.q,N4 a.source:=λa ha=>(adY hT a (A_.1 ha).1).1;have kj:Rm (cE s (Sd.Q.kept s.c.q)) 14:=hr;refine⟨⟨rfl,λa ha=>(hT.q a ha).2⟩,λB h=>⟨λe x c=>?_,λa e c t=>?_,λa b e c t=>?_,λa b d e c t=>?_⟩⟩<;>rw[e]at hK hg
 ·exact Jj [] _ _ _ hp hq wk hg (kj.le sP) hK
 ·exact Jj [a] _ _ _ hp hq wk hg (kj.le sP) hK
 ·exact Jj [a,b] _ _ _ hp hq wk hg (kj.le sP) hK
 ·exact Jj [a,b,d] _ _ _ hp hq wk hg (kj.le sP) hK
def ad3 (s:Sd.ah) (F:ba fr (a9 k s)) (j:List VB) (hp:s.c.p=s0.c.p) (hq:s.c.p.queue=k.most) (hT:fO s.c) (hr:Rm s 16)
 (hK:∀F',Kb (.ay []) (C7 (((Sd.Q.gone (Fz (aP tk) s).c.q).foldl (Fy (aP tk)) (cE (Fz (aP tk) s) (Sd.Q.kept (Fz (aP tk) s).c.q))).dz (aP tk))) F'):Fu (aP tk) k s0 Kb s F j:=by
 have wk:fO (gA s s.c.t.tick.1).c:=hT.tick.1;have kj:Rm (gA s s.c.t.tick.1) 16:=hr;refine⟨⟨hT.o1,hT.o2⟩,aJ (λe=>?_) (λe=>?_)⟩
 ·have e1:0<=s.c.t.tick.2:=by simpa using e
  have e2:Fz (aP tk) s=((gA s s.c.t.tick.1).gone s.c.t.tick.1.aF s.c.t.tick.2 30).record (aP tk) 12 s.c.t.tick.2 0 30 0:=if_pos e1;rw[e2]at hK;refine⟨cK hq,IK ⟨kj.le dC,⟨e1,hT.tick.2⟩,⟨dC,dC⟩⟩ λF2=>⟨cK (by rw[lQ];exact hq),m7 kj.gone.r1 λF3=>ad2 _ F3 _ ?_ ?_ ((wk.gone _ _ _).Ji _ _ _ _ _ _) (kj.gone.rec) hK⟩⟩
  ·show(Sd.ah.gone _ _ _ _).c.p=_;rw[lQ];exact hp
  ·show(Sd.ah.gone _ _ _ _).c.p.queue=_;rw[lQ];exact hq
 ·have e1:¬0<=s.c.t.tick.2:=by simpa using e
  have e2:Fz (aP tk) s=gA s s.c.t.tick.1:=if_neg e1;rw[e2]at hK;exact ad2 (gA s s.c.t.tick.1) F _ hp hq wk (kj.le dC) hK
def fO.m9 {s:Sd.ah} (h:fO s.c) (C:Sd.aL) (x:Int):fO (m9 C s x).c:=by
 unfold Go.Proofs.YtddcipamdggcnaaGreatDoor.m9;split
 ·exact(h.Ji C _ _ _ _ _).leave C x
 ·exact h.Ji C _ _ _ _ _
def Rm.m9 {C:Sd.aL} {s:Sd.ah} {x:Int} {n:Nat} (h:Rm s (n+3)):Rm (m9 C s x) n:=by
 unfold Go.Proofs.YtddcipamdggcnaaGreatDoor.m9;have h1:Rm (s.record C 5 x 0 0 0) (n+2):=Rm.rec h;split
 ·exact h1.leave
 ·exact h1.le oM
def ad4 {C:Sd.aL} {x:Int} {s:Sd.ah} {X:(s2:Sd.ah)->ba fr (a9 k s2)->Prop} (hq:s.c.p.queue=k.most) (hr:Rm s 4) (hx:0<=x/\x<=3) (h:∀F3:ba fr (a9 k (m9 C s x)),X (m9 C s x) F3):
 ∀F2:ba fr (a9 k (s.record C 5 x 0 0 0)),True/\lc x (cq k (s.record C 5 x 0 0 0) F2/\uR C [.int .i64 x] k (bO (s.record C 5 x 0 0 0)) F2 λv s3 F3=>X s3 F3) (X (s.record C 5 x 0 0 0) F2):=by
 intro F2;refine⟨trivial,aq6 (aJ (λe=>⟨cK hq,asH ⟨(Rm.rec hr).le dC,⟨hx.1,oM⟩⟩ λF3=>?_⟩) (λe=>?_))⟩
 ·have e1:m9 C s x=(s.record C 5 x 0 0 0).leave C x:=if_pos e;rw[e1]at h;exact h F3
 ·have e1:m9 C s x=s.record C 5 x 0 0 0:=if_neg (by rw[e];decide);rw[e1]at h;exact h F2
def ad5 {cont:SC fr k}:∀(l:List Int) (s:Sd.ah) (F:ba fr (a9 k s)) (j:List VB),s.c.p=s0.c.p->s.c.p.queue=k.most->fO s.c->(∀x∈l,0<=x/\x<=3)->Rm s (3*l.length+16)->
 (∀s2:Sd.ah,s2=l.foldl (m9 (aP tk)) s->s2.c.p=s0.c.p->s2.c.p.queue=k.most->fO s2.c->Rm s2 16->∀F2,cont s2 F2 j)->C6 (aP tk) k cont l s F j
 |[],s,F,j,hp,hq,hT,hl,hr,hc=>hc s rfl hp hq hT (hr.le sP) F
 |x::l,s,F,j,hp,hq,hT,hl,hr,hc=>by
  have kj:Rm s (3*l.length+16+3):=hr.le (by simp only[jf];omega);exact⟨cK hq,m7 hr.r1 (ad4 (X:=λs2 F2=>C6 (aP tk) k cont l s2 F2 j) hq (hr.le oM) (hl x sP) λF3=>ad5 l _ F3 j (by rw[Oa];exact hp) (by rw[Oa];exact hq) (hT.m9 _ _) (λy hy=>hl y (by simp[hy])) kj.m9 hc)⟩
end
def Hi (s:Sd.ah):Prop:=∀j,(s.c.aq.az (j+3)).on=ag
def ad6 {s:Sd.ah} (h:Hi s):qo s (dX s.c.aq).tick=kD s s.c.aq.tick:=by
 refine IT rfl ?_ ?_
 ·intro j hj;have:j=0\/j=1\/j=2:=oM;rcases this with rfl|rfl|rfl<;>rfl
 ·intro j;simp[Sd.aN.tick,h j]
def ad7 (t:Sd.aN):m8 (we t) 0=t.ended:=by
 unfold we Sd.aN.ended;cases t.zJ<;>cases t.l_ 0<;>cases t.l_ 1<;>cases t.l_ 2<;>rfl
def ad8:∀(bs:List Bool) (n:Int),(∀x∈m8 bs n,n<=x/\x<n+bs.length)/\(m8 bs n).length<=bs.length
 |[],n=>⟨by simp[m8],by simp[m8]⟩
 |b::l,n=>by
  obtain⟨h1,h2⟩:=ad8 l (n+1);cases b
  ·refine⟨λx hx=>?_,?_⟩
   ·have:=h1 x hx;simp only[jf];omega
   ·show(m8 l (n+1)).length<=_;simp only[jf];omega
  ·refine⟨λx hx=>?_,?_⟩
   ·rcases cF.1 hx with rfl|hx
    ·simp only[jf];omega
    ·have:=h1 x hx;simp only[jf];omega
   ·show(n::m8 l (n+1)).length<=_;simp only[jf];omega
def ad9 (t:Sd.aN):(∀x∈t.ended,0<=x/\x<=3)/\t.ended.length<=4:=by
 rw[<-ad7];obtain⟨h1,h2⟩:=ad8 (we t) 0;have e:(we t).length=4:=rfl;rw[e]at h1 h2;exact⟨λx hx=>by have:=h1 x hx;omega,h2⟩
def Ob (C:Sd.aL) (s:Sd.ah):Sd.ah:=Fz C (s.c.aq.ended.foldl (m9 C) (kD s s.c.aq.tick))
def Oc (C:Sd.aL) (s:Sd.ah):s.tick C=C7 (((Sd.Q.gone (Ob C s).c.q).foldl (Fy C) (cE (Ob C s) (Sd.Q.kept (Ob C s).c.q))).dz C):=kR
structure TkP (s:Sd.ah):Prop where
 c:fO s.c
 r:Rm s 28
 h:Hi s
 b:NP s.c.aq
def FA (C:Sd.aL):SM fr:=λar k s F K=>match ar with
 |[]=>TkP s/\∀F',K (.ay []) (s.tick C) F'
 |_=>False
def asI {f:Nat} {M:SM fr} (h:∀s0:Sd.ah,Body f (λar k s F K=>s=s0/\M ar k s F K)):Body f M:=λar k s F Kb a b c R ms w0 w h0 hq hM S=>h s ar k s F Kb a b c R ms w0 w h0 hq ⟨rfl,hM⟩ S
def ad_ (tk:Nat->Sd.ax->Option Sd.bQ) (ht:Body (fr:=fr) 124 dt) (h1:∀bs,Sound prog gS 106 (I3 (fr:=fr) bs)) (h2:Sound prog gS 110 (I4 (fr:=fr))):Body (fr:=fr) 80 (FA (aP tk)):=by
 refine asI λs0=>mr (n:=90) (aq7 tk ht (we (dX s0.c.aq)) (h1 _) h2) ?_;intro ar k s F Kb h0 hq hM;obtain⟨rfl,hM⟩:=hM;unfold FA at hM;split at hM
 ·have hP:=hM.1;have hK:=hM.2;rw[Oc]at hK;have hv:=asE fr (aP tk) (dX s.c.aq).zJ ((dX s.c.aq).l_ 0) ((dX s.c.aq).l_ 1) ((dX s.c.aq).l_ 2) k s F Kb;refine hv▸⟨⟨hP.b,rfl⟩,?_⟩;have el:m8 [(dX s.c.aq).zJ,(dX s.c.aq).l_ 0,(dX s.c.aq).l_ 1,(dX s.c.aq).l_ 2] 0=s.c.aq.ended:=ad7 s.c.aq;rw[el];have kj:Rm (kD s s.c.aq.tick) 28:=hP.r;have wk:fO (kD s s.c.aq.tick).c:=⟨hP.c.p,hP.c.t,hP.c.o1,hP.c.o2,hP.c.l1,hP.c.l2,hP.c.vQ,hP.c.q,hP.c.pt⟩;obtain⟨hb,hn⟩:=ad9 s.c.aq;unfold Ob at hK;revert hK hb hn;generalize s.c.aq.ended=l;intro hK hb hn;cases l with
  |nil=>
   intro x c;exact yB (M:=λs' F=>Fu (aP tk) k s Kb s' F []) (ad6 hP.h) F (ad3 _ _ _ rfl hq wk (kj.le dC) hK)
  |cons a l=>
   intro c t;simp only[jf]at hn;refine⟨cK hq,yB (M:=λs' F=>iS (aP tk) [.int .i64 5,.int .i64 a,.int .i64 0,.int .i64 0,.int .i64 0] k s' F _) (ad6 hP.h) F ⟨kj.r1,ad4 (s:=kD s s.c.aq.tick) (X:=λs2 F2=>C6 (aP tk) k (Fu (aP tk) k s Kb) l s2 F2 [I2 (a::l) t]) hq (kj.le dC) (hb a sP) λF3=>?_⟩⟩;refine ad5 l _ F3 _ (Oa _ _ _) (by rw[Oa];exact hq) (wk.m9 _ _) (λx hx=>hb x (by simp[hx])) ((Rm.m9 (n:=25) kj).le oM) ?_;intro s2 e2 xw TP hT2 um F2;subst e2;exact ad3 _ F2 _ xw TP hT2 um hK
 ·exact hM.elim
def cj:ai:=.slice ae 0 0
def du (k:LK) (s:Sd.ah):List VB:=[b_ k,gK k,fy k 3 s,fg s]
def Jk (k:LK) (s:Sd.ah) (F:ba fr (a9 k s)):Prop:=cj=F.vs/\cj=F.vr/\aa (b_ k)=aa (b_ k)/\aa (gK k)=aa (gK k)/\mX k 3 s=mX k 3 (bO s)/\s.c.p.cO=s.c.p.cO/\s.c.p.iM=s.c.p.iM/\s.c.p.queue=k.most
def qu (s:Sd.ah) (vs vr:ai):List V:=[.int .i64 s.c.mode,.int .i64 s.c.pt.cls,.int .i64 s.c.pt.now.a,.int .i64 s.c.pt.now.b,.int .i64 s.c.pt.now.c,.int .i64 s.c.pt.now.d,.int .i64 s.c.gF.mQ,.int .i64 s.c.gF.source,.int .i64 s.c.gF.seq,
 .int .i64 s.c.pt.cd.mQ,.int .i64 s.c.pt.cd.source,.int .i64 s.c.pt.cd.seq,.raw vs,.raw vr,.cv .u8 32 s.c.head]
def uZ (k:LK) (s:Sd.ah) (Kb:(s':Sd.ah)->ba fr (a9 k s')->Prop):VK (Gh fr):=λv bl ch=>∃(s':Sd.ah) (F':ba fr (a9 k s')),v=.agg (qu s' F'.vs F'.vr)/\bl.take 4=du k s'/\ch=[a_ k s' F']/\Kb s' F'
def LC (fr:Sd.aO->Nat×Sd.ax) (C:Sd.aL):List (bK (Gh fr)):=[⟨80,ag,gz (FA C)⟩,⟨78,ag,gz (Fl C)⟩,⟨79,ag,gz (Fo C)⟩,⟨77,ag,gz (Fx C)⟩]
def asJ (ht:Body (fr:=fr) 124 dt):aH prog gS (LC fr (aP aY)):=
 aH.cons (h_ (ad_ aY ht (λbs=>adB bs gS) (adD gS))) (aH.cons (h_ (adh aY ht)) (aH.cons (h_ (adn aY ht)) (aH.cons (h_ (adW ht)) aH.nil)))
def LCt (fr:Sd.aO->Nat×Sd.ax) (C:Sd.aL):List (bK (Gh fr)):=[⟨80,ag,gz (FA C)⟩]
def asK (ht:Body (fr:=fr) 124 dt):aH prog gS (LCt fr (aP aY)):=aH.cons (h_ (ad_ aY ht (λbs=>adB bs gS) (adD gS))) aH.nil
def LCs (fr:Sd.aO->Nat×Sd.ax) (C:Sd.aL):List (bK (Gh fr)):=[⟨78,ag,gz (Fl C)⟩]
def asL (ht:Body (fr:=fr) 124 dt):aH prog gS (LCs fr (aP aY)):=aH.cons (h_ (adh aY ht)) aH.nil
def LCh (fr:Sd.aO->Nat×Sd.ax) (C:Sd.aL):List (bK (Gh fr)):=[⟨79,ag,gz (Fo C)⟩]
def asM (ht:Body (fr:=fr) 124 dt):aH prog gS (LCh fr (aP aY)):=aH.cons (h_ (adn aY ht)) aH.nil
def LCi (fr:Sd.aO->Nat×Sd.ax) (C:Sd.aL):List (bK (Gh fr)):=[⟨77,ag,gz (Fx C)⟩]
def asN (ht:Body (fr:=fr) 124 dt):aH prog gS (LCi fr (aP aY)):=aH.cons (h_ (adW ht)) aH.nil
section
variable(C:Sd.aL) (k:LK) (s:Sd.ah) (F:ba fr (a9 k s)) (Kb:(s':Sd.ah)->ba fr (a9 k s')->Prop)
def Od (s':Sd.ah) (F':ba fr (a9 k s')):Prop:=uZ k s Kb (.agg (qu s' F'.vs F'.vr)) (du k s') [a_ k s' F']
def asO:br (bM prog gS (LCt fr C)) 60 58 [.ptr 2 0] (du k s) [a_ k s F] (uZ k s Kb)=(Jk k s F/\FA C [] k (bO s) F λv s' F'=>Od k s Kb s' F'):=kR
def asP (b:Bool):br (bM prog gS (LCh fr C)) 60 57 [.ptr 2 0,.bool b] (du k s) [a_ k s F] (uZ k s Kb)=(Jk k s F/\Fo C [.bool b] k (bO s) F λv s' F'=>Od k s Kb s' F'):=kR
def asQ (x:Sd.ft):br (bM prog gS (LCs fr C)) 60 56 [.ptr 2 0,.agg (ql x)] (du k s) [a_ k s F] (uZ k s Kb)=(Jk k s F/\Fl C [.agg (ql x)] k (bO s) F λv s' F'=>Od k s Kb s' F'):=kR
def aea (l code:Int):Prop:=
 let no:Prop:=uZ k s Kb (.agg (qu s cj cj)) (du k s) [a_ k s F]
 cond (decide (l>=1)) (cond (decide (l<=3)) (Jk k s F/\Fx C [.int .i64 l,.agg [.int .i64 code,.raw (fa k)]] k (bO s) F λv s' F'=>Od k s Kb s' F') no) no
def asR (l code:Int):br (bM prog gS (LCi fr C)) 60 55 [.ptr 2 0,.int .i64 l,.agg [.int .i64 code,.raw (fa k)]] (du k s) [a_ k s F] (uZ k s Kb)=aea C k s F Kb l code:=kR
end
def qx (s:Sd.ah) (qv:V):List V:=[.int .i64 s.c.t.aF,.int .i64 s.c.t.an,.int .i64 s.c.t.offer,.int .i64 s.c.mode]++(nN s.c.gF++(yq s.c.pt++(qv::([.bool ((dX s.c.aq).on 0),.bool ((dX s.c.aq).on 1),.bool ((dX s.c.aq).on 2),.bool ((dX s.c.aq).on 3),.bool ((dX s.c.aq).on 4)]++
 [.int .i64 ((dX s.c.aq).role 0),.int .i64 ((dX s.c.aq).role 1),.int .i64 ((dX s.c.aq).role 2),.int .i64 ((dX s.c.aq).role 3),.int .i64 ((dX s.c.aq).role 4),.bool s.c.t.bad]))))
def u5:List Sd.Ask->List V
 |[]=>[]
 |a::l=>.int .i64 a.source::u5 l
def Dc (l:List Sd.Ask) (u:List ai):VB:=⟨af,⟨3,(0,0)⟩,u5 l++[.rest u]⟩
def Oe:Nat->Nat->Prop->Prop
 |0,_,q=>q
 |n+1,j,q=>True/\(0<=(j:Int)/\(j:Int)<(5:Nat))/\True/\True/\Oe n (j+1) q
section
variable(C:Sd.aL) (k:LK) (s:Sd.ah) (F:ba fr (a9 k s)) (K:VK (Gh fr))
def asS:Prop:=Oe 5 0 (K (.agg (qx s (.raw cj))) (du k s) [a_ k s F])
def Wm (l:List Sd.Ask) (c:Nat) (u:List ai):Prop:=Oe 5 0 (K (.agg (qx s (.sl 4 0 l.length c))) (du k s++[Dc l u]) [a_ k s F])
def Wo (n:Nat) (l:List Sd.Ask) (P:Prop) (k:Nat->List ai->Prop):Prop:=P/\(∀(c:Nat) (u:List ai),n+1<=c->cD (u5 l++[.rest u])=c*1->k c u)/\(∀(c:Nat) (u:List ai),n+1<=c->cD (u5 l++[.rest u])=c*1->k c u)
def Wp (a:Sd.Ask) (k:Nat->List ai->Prop):Prop:=∀(c:Nat) (u:List ai),0+1<=c->cD (u5 [a]++[.rest u])=c*1->k c u
def asT:Prop:=vq k=vq k/\(s.c.q=[]->∀(x:Option aI) (c:Nat),asS k s F K)/\
 (∀a,s.c.q=[a]->∀(c:Nat) (t:List ai),Wp a λc u=>Wm k s F K [a] c u)/\
 (∀a b,s.c.q=[a,b]->∀(c:Nat) (t:List ai),Wp a λc u=>Wo 1 [a,b] (1<=c/\cD (u5 [a]++[.rest u])=c*1) λc u=>Wm k s F K [a,b] c u)/\
 (∀a b d,s.c.q=[a,b,d]->∀(c:Nat) (t:List ai),Wp a λc u=>Wo 1 [a,b] (1<=c/\cD (u5 [a]++[.rest u])=c*1) λc u=>Wo 2 [a,b,d] (2<=c/\cD (u5 [a,b]++[.rest u])=c*1) λc u=>Wm k s F K [a,b,d] c u)
def asU:br (gy prog gS (L8 fr C) (Ca prog) Ez) 60 37 [.ptr 2 0] (du k s) [a_ k s F] (bA 4 K)=asT k s F K:=kR
end
end
end Go.Proofs.YtddcipamdggcnaaGreatDoor
namespace Sd
variable{C:aL} {b:Prop} {s:ah} {l:Int} {m:bQ}
def Of {X:ah} {k a n e w:Int} (h:Quiet C b s X) (hk:k≠8) (hb:Cz b ⟨k,a,n,X.c.t.an,e,w⟩):Quiet C b s (X.record C k a n e w):=
 h.trans (ah.py hk hb)
def Inv.asV {c:Core} (h:Inv c) {n y:Int} (hn:0<=n/\n<=4294967295):Inv {c with samples:=n,aq:=c.aq.ig c.p,beyond:=y}:=by
 have hb:=h.p.cO;have h1:=Inv.MU (T:=c.aq) (T':=c.aq.ig c.p) h ⟨λ_=>by simp[aN.ig,Timer.start];omega,h.aq.az⟩
  (λa ha=>by
   have:=(h.q.each a ha).2.2.2.1;unfold aN.on at*;split
   ·rfl
   ·rename_i h4;rw[if_neg h4]at this;split
    ·rfl
    ·rename_i h0;rw[if_neg h0]at this;exact this)
  (λho=>by
   have:c.aq.on c.t.offer=af:=by
    rcases h.tok.offer with h1|⟨_,_,_,h1,_⟩
    ·omega
    ·exact h1
   unfold aN.on at*;split
   ·rfl
   ·rename_i h4;rw[if_neg h4]at this;split
    ·rfl
    ·rename_i h0;rw[if_neg h0]at this;exact this)
 exact⟨h1.p,h1.tok,h1.q,h1.aq,hn,h1.mode,h1.doors⟩
def fW.asW {t:ah} {c:Core} {kind link:Int} (k:fW C b ({s with c:=c}:ah) t kind link) (h1:c.t=s.c.t) (h2:c.q=s.c.q) (h3:c.p=s.c.p) (h4:c.head=s.c.head):fW C b s t kind link:=by
 have q0:Quiet C b s ({s with c:=c}:ah):=ah.jq (by rw[h1]) (by rw[h1]) h3 h4;refine⟨k.inv,?_⟩;rcases k.Au with q|⟨how,g,w⟩
 ·exact .inl (q0.trans q)
 ·refine .inr ⟨how,q0.goes g,?_⟩;unfold uK at*;simpa only[h1,h2,h3]using w
def Wq {x:ft} (h:Inv s.c):fW C b s (s.ig C x) 1 0:=by
 have e0:=h.lR;unfold ah.ig;split
 ·exact .lh ⟨h.p,h.tok,h.q,h.aq,h.samples,h.mode,h.doors⟩ (ah.jq rfl rfl rfl rfl)
 dsimp only;have hn:=agX h.samples.1 (m:=4294967295) oM h.samples.2;have i1:=h.asV (y:=(g9 s.c.p s.c.beyond x).1) hn;have q1:Quiet C b s ({s with c:={s.c with samples:=sat s.c.samples 4294967295,aq:=s.c.aq.ig s.c.p,beyond:=(g9 s.c.p s.c.beyond x).1}}:ah):=ah.jq rfl rfl rfl rfl;split
 ·rename_i hg;split
  ·have h2:=acn s.c.t s.c.q 0;refine .lh (i1.head _) (Of q1 sP ?_);exact⟨sP,sP,hn,e0,λ_=>⟨h2.1,DE h2.2 dC⟩,sP⟩
  ·rename_i hz;obtain⟨g0,a,r,g1,g2,g3,g4,g5,g6⟩:=aco (by simpa using hz);rw[g2];refine fW.asW (c:={s.c with samples:=sat s.c.samples 4294967295,aq:=s.c.aq.ig s.c.p,beyond:=(g9 s.c.p s.c.beyond x).1}) (Im (s:=⟨_,s.bw,s.aV⟩) i1 ⟨g3,g4⟩ ⟨_,rfl⟩ g5 g6 sP hn ?_) rfl rfl rfl rfl;refine .inr (.inl ⟨rfl,sP,⟨a,r,g1,by simp[Tok.pass]⟩,?_⟩);simp;exact g0.symm
 split
 ·rename_i h0;split
  ·have h2:=TY s.c.p s.c.t 0 0 s.c.mode {w_ 11 with an:=s.c.t.an,cls:=1};refine .lh (i1.head _) (Of q1 sP ?_);exact⟨sP,sP,hn,e0,λ_=>⟨h2.1,DE h2.2 dC⟩,sP⟩
  ·refine .lh (Inv.head (c:={s.c with samples:=sat s.c.samples 4294967295,aq:=s.c.aq.ig s.c.p,beyond:=(g9 s.c.p s.c.beyond x).1,pt:=s.c.pt.set s.c.p 1 x.x ⟨1,0,sat s.c.samples 4294967295⟩}) ⟨i1.p,i1.tok,i1.q,i1.aq,i1.samples,i1.mode,i1.doors⟩ _) (Of (q1.trans (ah.jq rfl rfl rfl rfl)) sP ?_);exact⟨sP,sP,hn,e0,sP,sP⟩
 split
 ·rename_i h0;split
  ·have h2:=MR s.c.t 0;refine .lh (i1.head _) (Of q1 sP ?_);exact⟨sP,sP,hn,e0,λ_=>⟨h2.1,DE h2.2 dC⟩,sP⟩
  ·rename_i hz;obtain⟨g1,g2,g3,g4,g5⟩:=MQ (by simpa using hz);rw[g1];refine⟨Inv.goes (s:=⟨_,s.bw,s.aV⟩) i1 (ny.pass h.p ⟨g2,g3⟩ (by have:=h.tok.an;omega)),.inr ⟨4,?_,.inr (.inr (.inr (.inl ⟨rfl,rfl,by simp[Tok.pass]⟩)))⟩⟩;exact q1.goes (ah.Ik (by simp[Tok.pass]) (by simpa[Tok.pass]using g4) rfl (.inl ⟨g5,rfl⟩) e0.1 sP hn)
 ·exact .lh i1 q1
def Inv.Jl {c:Core} (h:Inv c) {mo:Int} (hm:0<=mo/\mo<=4) (y:Label) (pt:fj):Inv {c with mode:=mo,gF:=y,pt:=pt}:=
 ⟨h.p,h.tok,h.q,h.aq,h.samples,hm,h.doors⟩
def Dd {mo:Int} {y:Label}:Quiet C b s (s.ei mo y):=ah.jq rfl rfl rfl rfl
def oG (s:ah) (a:Ask):ah:=({s with c:={s.c with q:=Q.drop s.c.q a.source}}:ah).gone a.source 4 29
def asY {a:Ask}:Quiet C b s (oG s a):=
 Quiet.trans (t:=({s with c:={s.c with q:=Q.drop s.c.q a.source}}:ah)) (ah.jq rfl rfl rfl rfl) (ah.At (ah.Ij oM oM))
def Og {a:Ask}:(oG s a).c={s.c with q:=Q.drop s.c.q a.source}:=by unfold oG;rw[ah.lQ]
def Inv.oG {a:Ask} (h:Inv s.c):Inv (Sd.oG s a).c:=by
 rw[Og];exact⟨h.p,h.tok,h.q.drop a.source (λx hx _=>(h.q.each x hx).2.2.2.2.1),h.aq,h.samples,h.mode,h.doors⟩
def aeb (q:List Ask):∀s:ah,Inv s.c->Inv (q.foldl oG s).c/\Quiet C b s (q.foldl oG s)/\(q.foldl oG s).c.t=s.c.t/\(q.foldl oG s).c.aq=s.c.aq/\
 (∀x∈(q.foldl oG s).c.q,x∈s.c.q/\∀a∈q,x.source≠a.source)/\∃q',(q.foldl oG s).c={s.c with q:=q'}:=by
 induction q with
 |nil=>intro s h;exact⟨h,Quiet.refl ..,rfl,rfl,λx hx=>⟨hx,sP⟩,s.c.q,rfl⟩
 |cons a q ih=>
  intro s h;obtain⟨h1,h2,h3,h4,h5,q',h6⟩:=ih (oG s a) h.oG;rw[Og]at h3 h4 h5 h6;refine⟨h1,asY.trans h2,h3,h4,λx hx=>?_,q',h6⟩;obtain⟨h7,h8⟩:=h5 x hx;simp only[Q.drop,A_,decide_eq_true_eq]at h7;exact⟨h7.1,λy hy=>by
   rcases cF.1 hy with rfl|hy
   ·exact h7.2
   ·exact h8 y hy⟩
def aec (bad:Bool) (hb:bad=af):s.lC C bad=
 ((((if s.c.t.aF≠4 then(s.eD {s.c.t with bad:=bad}).goes C ({s.c.t with bad:=bad}:Tok).gX 6 0 else(s.eD {s.c.t with bad:=bad}).eD ({s.c.t with bad:=bad}:Tok).gX):ah).c.q.foldl oG
   (if s.c.t.aF≠4 then(s.eD {s.c.t with bad:=bad}).goes C ({s.c.t with bad:=bad}:Tok).gX 6 0 else(s.eD {s.c.t with bad:=bad}).eD ({s.c.t with bad:=bad}:Tok).gX)).ei
    s.c.p.safe oY):=by
 unfold ah.lC;rw[if_neg (by simp[hb])];dsimp only;congr 1;have:∀(q:List Ask) (s:ah),(q.foldl oG s).c.p=s.c.p:=by
  intro q;induction q with
  |nil=>intro s;rfl
  |cons a q ih=>intro s;rw[Bh,ih,Og]
 refine Eq.trans (congrArg aU.safe (this _ _)) ?_;split<;>simp[ah.eD]
def Ws {bad:Bool} (h:Inv s.c):fW C b s (s.lC C bad) 2 0:=by
 have e0:=h.lR;have he:=h.tok.an;have hh:=h.tok.aF;have i0:Inv {s.c with t:={s.c.t with bad:=bad}}:=⟨h.p,⟨h.tok.aF,h.tok.an,h.tok.offer,h.tok.lost⟩,h.q,h.aq,h.samples,h.mode,h.doors⟩;have q0:Quiet C b s (s.eD {s.c.t with bad:=bad}):=ah.jq rfl rfl rfl rfl;cases bad
 ·exact .lh i0 q0
 rw[aec af rfl];split
 ·rename_i h4;have hs:sat s.c.t.an 65535=if s.c.t.an<65535 then s.c.t.an+1 else 65535:=rfl
  have et:({s.c.t with bad:=af}:Tok).gX=Tok.pass {s.c.t with bad:=af} 4 (sat s.c.t.an 65535):=by simp[Tok.gX,h4]
  rw[et];have i1:Inv ((s.eD {s.c.t with bad:=af}).goes C (Tok.pass {s.c.t with bad:=af} 4 (sat s.c.t.an 65535)) 6 0).c:=
   Inv.goes (s:=s.eD _) i0 (ny.pass h.p oM (by show s.c.p.an<=_/\_;rw[hs];split<;>omega))
  obtain⟨h1,h2,h3,h5,h6,q',h7⟩:=aeb (C:=C) (b:=b) ((s.eD {s.c.t with bad:=af}).goes C (Tok.pass {s.c.t with bad:=af} 4 (sat s.c.t.an 65535)) 6 0).c.q _ i1;refine⟨h1.Jl h.p.safe _ _,.inr ⟨6,?_,?_⟩⟩
  ·refine yk.quiet (Quiet.goes q0 (ah.Ik (by simp[Tok.pass]) (by simpa[Tok.pass,ah.eD]using λe=>h4 e.symm) rfl ?_ e0.1 sP sP)) (h2.trans Dd) ?_
   ·show(s.c.t.an<65535/\sat s.c.t.an 65535=s.c.t.an+1)\/(s.c.t.an=65535/\sat s.c.t.an 65535=65535/\(6:Int)=6);rw[hs];split<;>omega
   ·show(ah.ei _ _ _).c.t.offer=-1;simp only[ah.ei];rw[h3];simp[Tok.pass]
  ·refine .inr (.inr (.inr (.inr (.inr ⟨rfl,?_,.inl ⟨rfl,?_⟩⟩))))
   ·simp only[ah.ei];rw[h3];simp[Tok.pass]
   ·simp only[ah.ei];rw[h3];simp[Tok.pass]
 ·rename_i h4;have Wt:s.c.t.aF=4:=by simpa using h4
  have et:({s.c.t with bad:=af}:Tok).gX=Tok.pass {s.c.t with bad:=af} 4 s.c.t.an:=by simp[Tok.gX,Wt]
  rw[et];have i1:Inv ((s.eD {s.c.t with bad:=af}).eD (Tok.pass {s.c.t with bad:=af} 4 s.c.t.an)).c:=
   ⟨h.p,ny.pass h.p oM he,⟨λa ha=>by have:=h.q.each a ha;simpa[Tok.pass,ah.eD,Wt]using this,h.q.sorted,h.q.len⟩,h.aq,h.samples,h.mode,h.doors⟩
  obtain⟨h1,h2,h3,h5,h6,q',h7⟩:=aeb (C:=C) (b:=b) ((s.eD {s.c.t with bad:=af}).eD (Tok.pass {s.c.t with bad:=af} 4 s.c.t.an)).c.q _ i1;refine .lh (h1.Jl h.p.safe _ _) ?_;exact Quiet.trans (Quiet.trans (t:=(s.eD {s.c.t with bad:=af}).eD (Tok.pass {s.c.t with bad:=af} 4 s.c.t.an)) (ah.jq (by simp[Tok.pass,Wt]) rfl rfl rfl) h2) Dd
def qy (C:aL) (s:ah) (x:Int):ah:=let s:=s.record C 5 x 0 0 0;if linked x then s.leave C x else s
def yP (q:List Ask) (xs:List Int):List Ask:=xs.foldl (λq x=>if linked x then Q.drop q x else q) q
def lW (t:Tok) (xs:List Int):Tok:=xs.foldl (λt x=>if linked x then(t.drop x).1 else t) t
def aed (C:aL) (s:ah) (x:Int):∃hd,(qy C s x).c={s.c with q:=yP s.c.q [x],t:=lW s.c.t [x],head:=hd}:=by
 unfold qy yP lW;simp only[Bh,List.foldl_nil];split
 ·obtain⟨hd,e⟩:=TZ C (s.record C 5 x 0 0 0) x;exact⟨hd,by rw[e];rfl⟩
 ·exact⟨_,rfl⟩
def asZ {x:Int} (hx:0<=x/\x<=3) (he:0<=s.c.t.an/\s.c.t.an<=65535):Quiet C b s (qy C s x):=by
 unfold qy;have q1:Quiet C b s (s.record C 5 x 0 0 0):=ah.py sP ⟨sP,by simp;omega,sP,he,sP,sP⟩;dsimp only;split
 ·rename_i h;simp[linked]at h;exact q1.trans (acp oM he)
 ·exact q1
def Inv.qy {T:aN} {x:Int} (hx:0<=x/\x<=3) (h:Inv {s.c with aq:=T}):Inv {(Sd.qy C s x).c with aq:=T}:=by
 unfold Sd.qy;dsimp only;split
 ·rcases Inv.leave (C:=C) (s:=s.record C 5 x 0 0 0) (T:=T) (x:=x) (h.head _)with⟨h1,_⟩|h1
  ·exact h1
  ·omega
 ·exact h.head _
def aee (xs:List Int):∀t:Tok,(lW t xs).aF=t.aF/\(lW t xs).an=t.an/\(lW t xs).la=t.la/\(lW t xs).bad=t.bad/\
 (((lW t xs)=t/\∀x∈xs,linked x=af->t.offer≠x)\/(lW t xs=t.jk/\t.offer∈xs)\/t.offer=-1/\lW t xs=t):=by
 induction xs with
 |nil=>intro t;exact⟨rfl,rfl,rfl,rfl,.inl ⟨rfl,sP⟩⟩
 |cons x xs ih=>
  intro t;unfold lW;simp only[Bh];by_cases hl:linked x=af
  ·simp only[hl,if_true];have hd:=MT t x;obtain⟨h1,h2,h3,h4,h5⟩:=ih (t.drop x).1;unfold lW at h1 h2 h3 h4 h5;refine⟨h1.trans hd.1,h2.trans hd.2.1,h3.trans hd.2.2.1,h4.trans hd.2.2.2.1,?_⟩;have hx:1<=x:=by simp[linked]at hl;exact hl.1
   rcases hd.2.2.2.2 with⟨e,_,e2⟩|⟨e,_,e2⟩
   ·rw[e]at h5⊢;rcases h5 with⟨h5,h6⟩|⟨h5,h6⟩|⟨h5,h6⟩
    ·refine .inl ⟨h5,λy hy Oh=>?_⟩;rcases cF.1 hy with rfl|hy
     ·omega
     ·exact h6 y hy Oh
    ·exact .inr (.inl ⟨h5,by simp[h6]⟩)
    ·exact .inr (.inr ⟨h5,h6⟩)
   ·rw[e]at h5⊢;refine .inr (.inl ⟨?_,by simp[e2]⟩);rcases h5 with⟨h5,h6⟩|⟨h5,h6⟩|⟨h5,h6⟩
    ·exact h5
    ·rw[h5];rfl
    ·exact h6
  ·simp only[hl];obtain⟨h1,h2,h3,h4,h5⟩:=ih t;unfold lW at h1 h2 h3 h4 h5;refine⟨h1,h2,h3,h4,?_⟩;rcases h5 with⟨h5,h6⟩|⟨h5,h6⟩|⟨h5,h6⟩
   ·refine .inl ⟨h5,λy hy Oh=>?_⟩;rcases cF.1 hy with rfl|hy
    ·exact absurd Oh hl
    ·exact h6 y hy Oh
   ·exact .inr (.inl ⟨h5,by simp[h6]⟩)
   ·exact .inr (.inr ⟨h5,h6⟩)
def as0 (xs:List Int):∀(q:List Ask) (a:Ask),a∈yP q xs↔a∈q/\∀x∈xs,linked x=af->a.source≠x:=by
 induction xs with
 |nil=>intro q a;simp[yP]
 |cons x xs ih=>
  intro q a;have:=ih (if linked x then Q.drop q x else q) a;unfold yP at*;simp only[Bh];rw[this];by_cases hl:linked x=af
  ·simp[hl,Q.drop,and_assoc]
  ·simp[hl]
def as1 (xs:List Int):∀(s:ah) (T:aN),(∀x∈xs,0<=x/\x<=3)->Inv {s.c with aq:=T}->
 Inv {(xs.foldl (qy C) s).c with aq:=T}/\Quiet C b s (xs.foldl (qy C) s)/\∃hd,(xs.foldl (qy C) s).c={s.c with q:=yP s.c.q xs,t:=lW s.c.t xs,head:=hd}:=by
 induction xs with
 |nil=>intro s T _ h;exact⟨h,Quiet.refl ..,s.c.head,rfl⟩
 |cons x xs ih=>
  intro s T hx h;have DZ:=hx x sP;have e0:0<=s.c.t.an/\s.c.t.an<=65535:=Inv.lR (c:={s.c with aq:=T}) h;obtain⟨h1,h2,hd,h3⟩:=ih (qy C s x) T (λy hy=>hx y (by simp[hy])) (h.qy DZ);obtain⟨FB,h4⟩:=aed C s x;refine⟨h1,(asZ DZ e0).trans h2,hd,?_⟩;simp only[Bh];rw[h3,h4];rfl
def FC {t:Timer} {m:Int} (h:t.most=m/\0<=t.n/\t.n<m):t.step=⟨t.n+1,m⟩/\(t.step.due=af↔t.n+1=m):=by
 obtain⟨h1,h2,h3⟩:=h;have:t.step=⟨t.n+1,m⟩:=by unfold Timer.step sat;rw[if_pos oM,h1]
 rw[this];refine⟨rfl,?_⟩;simp[Timer.due];omega
def as2 {p:aU} {t:aN} (hp:fF p) (h:D4 p t):D4 p t.tick:=by
 have hb:=hp.cO;constructor
 ·intro ho;unfold aN.tick at*;dsimp only at*;split at ho
  ·rename_i h1;rw[if_pos h1];obtain⟨h2,h3⟩:=FC (h.de h1);split at ho
   ·cases ho
   ·rename_i h4;rw[if_neg h4,h2];have:=h.de h1;simp at h4;have:t.de.2.n+1≠p.cO:=λe=>by rw[h3.2 e]at h4;cases h4
    dsimp only;omega
  ·rename_i h1;exact absurd ho h1
 ·intro i hi ho;unfold aN.tick at*;dsimp only at*;split at ho
  ·rename_i h1;rw[if_pos h1];have h0:=h.az i hi h1;obtain⟨h2,h3⟩:=FC (m:=p.cO) ⟨h0.1,h0.2.1,h0.2.2.1⟩;split at ho
   ·cases ho
   ·rename_i h4;rw[if_neg h4];dsimp only;rw[h2];simp at h4;have:(t.az i).dN.n+1≠p.cO:=λe=>by rw[h3.2 e]at h4;cases h4
    dsimp only;omega
  ·rename_i h1;exact absurd ho h1
def as3 {t:aN} {x:Int} (h:x∈t.ended):0<=x/\x<=3:=by
 unfold aN.ended at h;simp only[eI]at h;rcases h with((h|h)|h)|h<;>split at h<;>simp at h<;>omega
def aef {t:aN} {x:Int} (hx:1<=x/\x<=3) (h:t.on x=af) (hn:x∉t.ended):t.tick.on x=af:=by
 have e:x=1\/x=2\/x=3:=oM;rw[T4 hx]at*;unfold aN.iC aN.tick at*;rcases e with rfl|rfl|rfl<;>simp[aN.ended,aN.l_]at*<;>simp[h]<;>simp[h]at hn<;>simp[hn,h]
def as4 {q:List Ask} {a:Ask} (h:a∈Q.kept q):∃x∈q,a={x with dy:=x.dy.step}/\a.dy.due=ag:=by
 unfold Q.kept Q.oX at h;simp only[A_,n8]at h;obtain⟨⟨x,hx,rfl⟩,h2⟩:=h;exact⟨x,hx,rfl,by simpa using h2⟩
def as5 {q:List Ask} {a:Ask} (h:a∈Q.gone q):∃x∈q,a={x with dy:=x.dy.step}/\a.dy.due=af:=by
 unfold Q.gone Q.oX at h;simp only[A_,n8]at h;obtain⟨⟨x,hx,rfl⟩,h2⟩:=h;exact⟨x,hx,rfl,by simpa using h2⟩
def ri.kept {p:aU} {t:aN} {h:Int} {q:List Ask} (k:ri p t h q):ri p t h (Q.kept q) where
 each:=by
  intro a ha;obtain⟨x,hx,rfl,hd⟩:=as4 ha;obtain⟨a1,a2,a3,a4,a5,a6,a7,a8⟩:=k.each x hx;obtain⟨e1,e2⟩:=FC ⟨a6,a7,a8⟩;refine⟨a1,a2,a3,a4,a5,by dsimp only;rw[e1],by dsimp only;rw[e1];dsimp only;omega,?_⟩;dsimp only at*;rw[e1];have:x.dy.n+1≠p.ask:=λe=>by rw[e2.2 e]at hd;cases hd
  dsimp only;omega
 sorted:=by
  unfold Q.kept Q.oX;refine List.Pairwise.filter _ ?_;rw[List.pairwise_map];exact k.sorted
 len:=by
  have:=KH (λa:Ask=>!a.dy.due) (Q.oX q);have h2:=k.len;unfold Q.kept;simp only[Q.oX,Gs]at*;omega
def AO (C:aL) (s:ah) (a:Ask):ah:=(s.gone a.source a.source 30).record C 12 a.source 0 30 0
def as6 (q:List Ask):∀s:ah,(∀a∈q,1<=a.source/\a.source<=3)->0<=s.c.t.an/\s.c.t.an<=65535->
 Quiet C b s (q.foldl (AO C) s)/\∃hd,(q.foldl (AO C) s).c={s.c with head:=hd}:=by
 induction q with
 |nil=>intro s _ _;exact⟨Quiet.refl ..,s.c.head,rfl⟩
 |cons a q ih=>
  intro s hq he;have ha:=hq a sP;have e1:(AO C s a).c={s.c with head:=C.next s.c.head ⟨12,a.source,0,s.c.t.an,30,0⟩}:=by
   unfold AO;rw[show∀(y:ah) (k a n e w:Int),(y.record C k a n e w).c={y.c with head:=C.next y.c.head ⟨k,a,n,y.c.t.an,e,w⟩}from λ_ _ _ _ _ _=>rfl,ah.lQ]
  have q1:Quiet C b s (AO C s a):=by
   refine Quiet.trans (ah.At (ah.Ij oM oM)) (ah.py sP ?_);refine⟨sP,by dsimp only;omega,sP,?_,sP,sP⟩;dsimp only;rw[ah.kB];exact he
  obtain⟨h1,hd,h2⟩:=ih (AO C s a) (λx hx=>hq x (by simp[hx])) (by rw[e1];exact he);refine⟨q1.trans h1,hd,?_⟩;simp only[Bh];rw[h2,e1]
def as7 {p:aU} {aq:aN} {t:Tok} (h:ny p aq t):t.tick.1.aF=t.aF/\t.tick.1.an=t.an/\t.tick.1.la=t.la/\t.tick.1.bad=t.bad/\
 ny p aq t.tick.1/\((t.tick.2=-1/\t.tick.1.offer=t.offer)\/(t.tick.2=t.offer/\1<=t.offer/\t.offer<=3/\t.tick.1.offer=-1)):=by
 unfold Tok.tick;rcases h.offer with ho|⟨o1,o2,o3,o4,o5,o6,o7⟩
 ·rw[if_pos oM];exact⟨rfl,rfl,rfl,rfl,h,.inl ⟨rfl,rfl⟩⟩
 ·rw[if_neg oM];obtain⟨e1,e2⟩:=FC ⟨o5,o6,o7⟩;split
  ·exact⟨rfl,rfl,rfl,rfl,⟨h.aF,h.an,.inl rfl,h.lost⟩,.inr ⟨rfl,o1,o2,rfl⟩⟩
  ·rename_i hd;refine⟨rfl,rfl,rfl,rfl,⟨h.aF,h.an,.inr ⟨o1,o2,o3,o4,?_⟩,h.lost⟩,.inl ⟨rfl,rfl⟩⟩;have:t.oa.n+1≠p.offer:=λe=>hd (e2.2 e);dsimp only;rw[e1];dsimp only;omega
inductive AP (p:aU) (t:Tok) (q:List Ask) (there:Bool):Tok->Int->List Ask->Prop
 |here (h:t.aF=4\/there=af):AP p t q there {t with la:=.zero} 0 q
 |aeg (la:Timer) (h1:t.aF≠4) (h2:there=ag) (hm:la.most=p.dz) (hn:la.n=t.la.n+1) (cH:la.n<p.dz):AP p t q there {t with la:=la} 0 q
 |safe (h1:t.aF≠4) (h2:there=ag) (hn:t.la.n+1=p.dz) (he:t.an=65535):AP p t q there (t.pass 4 65535) 6 q
 |first (a:Ask) (l:List Ask) (h1:t.aF≠4) (h2:there=ag) (hn:t.la.n+1=p.dz) (he:t.an<65535) (hq:q=a::l):AP p t q there (t.pass a.source (t.an+1)) 5 (Q.drop q a.source)
 |none (h1:t.aF≠4) (h2:there=ag) (hn:t.la.n+1=p.dz) (he:t.an<65535) (hq:q=[]):AP p t q there (t.pass 4 (t.an+1)) 5 q
def as8 {p:aU} {aq:aN} {t:Tok} {q:List Ask} {there:Bool} (hp:fF p) (h:ny p aq t) (hq:ri p aq t.aF q):
 AP p t q there (gZ p t q there).1 (gZ p t q there).2.1 (gZ p t q there).2.2:=by
 unfold gZ;have hb:=hp.dz;split
 ·rename_i h1;exact .here h1
 rename_i h1;have FE:t.aF≠4:=λe=>h1 (.inl e);have Oi:there=ag:=by
  cases there
  ·rfl
  ·exact absurd (.inr rfl) h1
 have ui:∃la:Timer,(if t.la.most=0 then Timer.start p.dz else t.la).step=la/\la.most=p.dz/\la.n=t.la.n+1/\(la.due=af↔t.la.n+1=p.dz):=by
  rcases h.lost with⟨l1,l2⟩|⟨l1,l2,l3⟩
  ·rw[if_pos l1];obtain⟨e1,e2⟩:=FC (t:=Timer.start p.dz) (m:=p.dz) (by simp[Timer.start];omega);have e0:(Timer.start p.dz).n=0:=rfl;refine⟨_,rfl,by rw[e1],by rw[e1,e0,l2],?_⟩;rw[e2,e0,l2]
  ·rw[if_neg oM];obtain⟨e1,e2⟩:=FC ⟨l1,l2,l3⟩;exact⟨_,rfl,by rw[e1],by rw[e1],e2⟩
 obtain⟨la,e0,e1,e2,e3⟩:=ui;simp only[e0];split
 ·rename_i hd;refine .aeg la FE Oi e1 e2 ?_;have cL:t.la.n+1≠p.dz:=λe=>by rw[e3.2 e]at hd;cases hd
  rcases h.lost with⟨l1,l2⟩|⟨l1,l2,l3⟩<;>omega
 rename_i hd;have hn:t.la.n+1=p.dz:=e3.1 (by simpa using hd);have he:=h.an;split
 ·rename_i h6;have h6':t.an=65535:=oM;have:({t with la:=la}:Tok).gX=t.pass 4 65535:=by
   simp only[Tok.gX,Tok.pass];rw[if_pos FE,h6'];rfl
  rw[this];exact .safe FE Oi hn h6'
 rename_i h6;have cH:t.an<65535:=oM;have g4:({t with la:=la}:Tok).dF 4=(t.pass 4 (t.an+1),0):=by
  unfold Tok.dF;rw[if_neg oM,if_neg (λe=>FE e.symm),if_neg (by dsimp only;omega)];rfl
 cases q with
 |nil=>
  have:(fT ({t with la:=la}:Tok) []).2.1≠0:=by simp[fT]
  rw[if_pos this,g4];exact .none FE Oi hn cH rfl
 |cons a r=>
  have ha:=hq.each a sP;have ga:({t with la:=la}:Tok).dF a.source=(t.pass a.source (t.an+1),0):=by
   unfold Tok.dF;rw[if_neg oM,if_neg ha.2.2.2.2.1,if_neg (by dsimp only;omega)];rfl
  have e:fT ({t with la:=la}:Tok) (a::r)=(t.pass a.source (t.an+1),0,Q.drop (a::r) a.source):=by
   unfold fT;simp only[ga];rw[if_neg sP]
  rw[e,if_neg sP];exact .first a r FE Oi hn cH rfl
def as9 (h:Inv s.c):fW C b s (s.dz C) 3 0/\(s.dz C).c.aq=s.c.aq/\(s.dz C).c.p=s.c.p/\
 AP s.c.p s.c.t s.c.q (s.c.aq.on s.c.t.aF) (s.dz C).c.t (gZ s.c.p s.c.t s.c.q (s.c.aq.on s.c.t.aF)).2.1 (s.dz C).c.q/\
 ((gZ s.c.p s.c.t s.c.q (s.c.aq.on s.c.t.aF)).2.1=5->(s.dz C).c.mode=s.c.p.lost/\(s.dz C).c.gF=⟨3,4,0⟩/\(s.dz C).c.pt=s.c.pt.hold ⟨3,4,0⟩)/\
 ((gZ s.c.p s.c.t s.c.q (s.c.aq.on s.c.t.aF)).2.1=0->(s.dz C).c.mode=s.c.mode/\(s.dz C).c.gF=s.c.gF/\(s.dz C).c.pt=s.c.pt):=by
 have e0:=h.lR;have he:=h.tok.an;have hh:=h.tok.aF;have hb:=h.p.dz;have hL:=as8 (there:=s.c.aq.on s.c.t.aF) h.p h.tok h.q;unfold ah.dz;dsimp only;generalize ht:(gZ s.c.p s.c.t s.c.q (s.c.aq.on s.c.t.aF)).1=t at hL⊢;generalize hw:(gZ s.c.p s.c.t s.c.q (s.c.aq.on s.c.t.aF)).2.1=how at hL⊢;generalize hq:(gZ s.c.p s.c.t s.c.q (s.c.aq.on s.c.t.aF)).2.2=q at hL⊢;have Jm:=hL;cases hL with
 |here h1=>
  rw[if_pos oM];refine⟨.lh ⟨h.p,⟨h.tok.aF,h.tok.an,h.tok.offer,.inl ⟨rfl,rfl⟩⟩,h.q,h.aq,h.samples,h.mode,h.doors⟩ (ah.jq rfl rfl rfl rfl),rfl,rfl,Jm,sP,λ_=>⟨rfl,rfl,rfl⟩⟩
 |aeg la h1 h2 hm hn cH=>
  rw[if_pos oM];have:0<=la.n:=by rcases h.tok.lost with⟨_,l2⟩|⟨_,l2,_⟩<;>omega
  refine⟨.lh ⟨h.p,⟨h.tok.aF,h.tok.an,h.tok.offer,.inr ⟨hm,this,cH⟩⟩,h.q,h.aq,h.samples,h.mode,h.doors⟩ (ah.jq rfl rfl rfl rfl),rfl,rfl,Jm,sP,λ_=>⟨rfl,rfl,rfl⟩⟩
 |safe h1 h2 hn h6=>
  rw[if_neg oM,if_neg oM];have i1:Inv (ah.goes C ({s with c:={s.c with q:=s.c.q}}:ah) (s.c.t.pass 4 65535) 6 0).c:=Inv.goes (s:=s) h (ny.pass h.p oM oM);have hd:Q.drop s.c.q 4=s.c.q:=by
   unfold Q.drop;rw[List.filter_eq_self];intro a ha;have:=(h.q.each a ha).2.2.1;simp;omega
  have De:(ah.goes C ({s with c:={s.c with q:=s.c.q}}:ah) (s.c.t.pass 4 65535) 6 0).c.q=s.c.q:=by
   rw[ah.TW];exact hd
  refine⟨⟨i1.Jl (by simpa using h.p.safe) _ _,.inr ⟨6,?_,?_⟩⟩,by simp[ah.ei],by simp[ah.ei],?_,sP,sP⟩
  ·refine yk.quiet (ah.Ik (s:=s) (by simp[Tok.pass]) (by simpa[Tok.pass]using λe=>h1 e.symm) rfl (.inr ⟨h6,rfl,rfl⟩) e0.1 sP sP) Dd ?_;simp[ah.ei,Tok.pass]
  ·refine .inr (.inr (.inr (.inr (.inr ⟨rfl,by simp[ah.ei,Tok.pass],.inr ⟨rfl,h6,?_⟩⟩))));simpa[ah.ei]using h2
  ·have e1:(ah.ei (ah.goes C ({s with c:={s.c with q:=s.c.q}}:ah) (s.c.t.pass 4 65535) 6 0) (ah.goes C ({s with c:={s.c with q:=s.c.q}}:ah) (s.c.t.pass 4 65535) 6 0).c.p.safe oY).c.t=s.c.t.pass 4 65535:=by simp[ah.ei]
   rw[e1];have e2:(ah.ei (ah.goes C ({s with c:={s.c with q:=s.c.q}}:ah) (s.c.t.pass 4 65535) 6 0) (ah.goes C ({s with c:={s.c with q:=s.c.q}}:ah) (s.c.t.pass 4 65535) 6 0).c.p.safe oY).c.q=s.c.q:=De;rw[e2];exact Jm
 |first a r h1 h2 hn cH Wu=>
  rw[if_neg oM,if_pos rfl];have ha:=h.q.each a (by rw[Wu];simp);obtain⟨g1,g2⟩:=Im (C:=C) (b:=b) (s:=s) (kind:=3) (link:=0) (how:=5) (n:=0) (f:=a.source) (q:=Q.drop s.c.q a.source) h oM ⟨_,rfl⟩ ha.2.2.2.2.1 cH sP sP
   (.inr (.inr (.inr (.inr (.inl ⟨rfl,rfl,by simpa using h2,by simpa[Tok.pass]using ha.2.2.2.1⟩)))))
  have hdd:Q.drop (Q.drop s.c.q a.source) a.source=Q.drop s.c.q a.source:=by
   unfold Q.drop;rw[List.filter_filter];congr 1;funext x;simp
  have De:(ah.goes C ({s with c:={s.c with q:=Q.drop s.c.q a.source}}:ah) (s.c.t.pass a.source (s.c.t.an+1)) 5 0).c.q=Q.drop s.c.q a.source:=by
   rw[ah.TW];exact hdd
  generalize hX:ah.goes C ({s with c:={s.c with q:=Q.drop s.c.q a.source}}:ah) (s.c.t.pass a.source (s.c.t.an+1)) 5 0=X at g1 g2 De;have eX:X.c.t=s.c.t.pass a.source (s.c.t.an+1)/\X.c.p=s.c.p/\X.c.aq=s.c.aq:=by subst hX;simp
  have Wv:X.c.pt=s.c.pt:=by
   subst hX;obtain⟨x,e⟩:=ah.MP C ({s with c:={s.c with q:=Q.drop s.c.q a.source}}:ah) (s.c.t.pass a.source (s.c.t.an+1)) 5 0;rw[e]
  refine⟨⟨g1.Jl (by rw[eX.2.1];exact h.p.lost) _ _,?_⟩,by simp[ah.ei,eX],by simp[ah.ei,eX],by simpa[ah.ei,eX,De]using Jm,λ_=>⟨by simp[ah.ei,eX],rfl,by simp[ah.ei,Wv]⟩,sP⟩;rcases g2 with g2|⟨how,g2,g3⟩
  ·exact .inl (g2.trans Dd)
  ·exact .inr ⟨how,g2.quiet Dd (by simp[ah.ei,eX,Tok.pass]),by simpa[uK,ah.ei]using g3⟩
 |none h1 h2 hn cH Wu=>
  rw[if_neg oM,if_pos rfl];have hq0:s.c.q=Q.drop s.c.q 4:=by rw[Wu];rfl
  obtain⟨g1,g2⟩:=Im (C:=C) (b:=b) (s:=s) (kind:=3) (link:=0) (how:=5) (n:=0) (f:=4) (q:=s.c.q) h oM ⟨4,hq0⟩ (λe=>h1 e.symm) cH sP sP
   (.inr (.inr (.inr (.inr (.inl ⟨rfl,rfl,by simpa using h2,by simp[Tok.pass,aN.on]⟩)))))
  have De:(ah.goes C ({s with c:={s.c with q:=s.c.q}}:ah) (s.c.t.pass 4 (s.c.t.an+1)) 5 0).c.q=s.c.q:=by
   rw[ah.TW];exact hq0.symm
  generalize hX:ah.goes C ({s with c:={s.c with q:=s.c.q}}:ah) (s.c.t.pass 4 (s.c.t.an+1)) 5 0=X at g1 g2 De;have eX:X.c.t=s.c.t.pass 4 (s.c.t.an+1)/\X.c.p=s.c.p/\X.c.aq=s.c.aq:=by subst hX;simp
  have Wv:X.c.pt=s.c.pt:=by
   subst hX;obtain⟨x,e⟩:=ah.MP C ({s with c:={s.c with q:=s.c.q}}:ah) (s.c.t.pass 4 (s.c.t.an+1)) 5 0;rw[e]
  refine⟨⟨g1.Jl (by rw[eX.2.1];exact h.p.lost) _ _,?_⟩,by simp[ah.ei,eX],by simp[ah.ei,eX],by simpa[ah.ei,eX,De]using Jm,λ_=>⟨by simp[ah.ei,eX],rfl,by simp[ah.ei,Wv]⟩,sP⟩;rcases g2 with g2|⟨how,g2,g3⟩
  ·exact .inl (g2.trans Dd)
  ·exact .inr ⟨how,g2.quiet Dd (by simp[ah.ei,eX,Tok.pass]),by simpa[uK,ah.ei]using g3⟩
structure Mid (c c':Core):Prop where
 inv:Inv c'
 p:c'.p=c.p
 aq:c'.aq=c.aq.tick
 aF:c'.t.aF=c.t.aF
 an:c'.t.an=c.t.an
 la:c'.t.la=c.t.la
 bad:c'.t.bad=c.t.bad
 q:c'.q=Q.kept (yP c.q c.aq.ended)
 offer:c'.t.offer=(lW c.t c.aq.ended).tick.1.offer
 mode:c'.mode=c.mode/\c'.gF=c.gF/\c'.pt=c.pt
 rest:c'.samples=c.samples/\c'.beyond=c.beyond/\c'.doors=c.doors
def r9 (C:aL) (s:ah):ah:=s.c.aq.ended.foldl (qy C) ({s with c:={s.c with aq:=s.c.aq.tick}}:ah)
def r_ (C:aL) (s:ah):ah:=
 let s2:=s.eD s.c.t.tick.1
 if 0<=s.c.t.tick.2 then(s2.gone s.c.t.tick.1.aF s.c.t.tick.2 30).record C 12 s.c.t.tick.2 0 30 0 else s2
def yQ (C:aL) (s:ah):ah:=(Q.gone s.c.q).foldl (AO C) ({s with c:={s.c with q:=Q.kept s.c.q}}:ah)
def Oc (C:aL) (s:ah):s.tick C=(let s6:=(yQ C (r_ C (r9 C s))).dz C;{s6 with c:={s6.c with pt:=s6.c.pt.step s6.c.p}}):=rfl
def aeh (h:Inv s.c):Quiet C b s (yQ C (r_ C (r9 C s)))/\Mid s.c (yQ C (r_ C (r9 C s))).c:=by
 have e0:=h.lR;obtain⟨a1,a2,FB,a3⟩:=as1 (C:=C) (b:=b) s.c.aq.ended ({s with c:={s.c with aq:=s.c.aq.tick}}:ah) s.c.aq (λx hx=>as3 hx) h;have q1:Quiet C b s (r9 C s):=Quiet.trans (t:=({s with c:={s.c with aq:=s.c.aq.tick}}:ah)) (ah.jq rfl rfl rfl rfl) a2;have i1:Inv (r9 C s).c:=by
  have e3:(r9 C s).c={s.c with aq:=s.c.aq.tick,q:=yP s.c.q s.c.aq.ended,t:=lW s.c.t s.c.aq.ended,head:=FB}:=a3;refine Inv.Ip (T:=s.c.aq.tick) (Inv.MU (T:=s.c.aq) a1 (by rw[e3];exact as2 h.p h.aq) ?_ ?_) (by rw[e3])
  ·rw[e3];intro x hx;obtain⟨oA,uz⟩:=(as0 _ _ _).1 hx;have:=h.q.each x oA;refine aef ⟨this.2.1,this.2.2.1⟩ this.2.2.2.1 (λhm=>uz x.source hm ?_ rfl);simp[linked];omega
  ·rw[e3];intro ho;have hf:=aee s.c.aq.ended s.c.t;show s.c.aq.tick.on (lW s.c.t s.c.aq.ended).offer=af;have kU:0<=(lW s.c.t s.c.aq.ended).offer:=ho;rcases hf.2.2.2.2 with⟨e,cL⟩|⟨e,_⟩|⟨e,e'⟩
   ·rw[e]at kU⊢;rcases h.tok.offer with h1|⟨h1,h2,_,h3,_⟩
    ·omega
    ·refine aef ⟨h1,h2⟩ h3 (λhm=>cL _ hm ?_ rfl);simp[linked];omega
   ·rw[e]at kU;simp[Tok.jk]at kU
   ·rw[e',e]at kU;omega
 have e1:(r9 C s).c={s.c with aq:=s.c.aq.tick,q:=yP s.c.q s.c.aq.ended,t:=lW s.c.t s.c.aq.ended,head:=FB}:=a3;have hf:=aee s.c.aq.ended s.c.t;generalize r9 C s=s1 at*;have Vv:=i1.lR;have hk:=as7 i1.tok;have i2:Inv {s1.c with t:=s1.c.t.tick.1}:=⟨i1.p,hk.2.2.2.2.1,by show ri _ _ s1.c.t.tick.1.aF _;rw[hk.1];exact i1.q,i1.aq,i1.samples,i1.mode,i1.doors⟩;have q2:Quiet C b s1 (r_ C s1)/\∃hd,(r_ C s1).c={s1.c with t:=s1.c.t.tick.1,head:=hd}:=by
  have q20:Quiet C b s1 (s1.eD s1.c.t.tick.1):=ah.jq hk.1 hk.2.1 rfl rfl;unfold r_;dsimp only;split
  ·rename_i hw;have hw':1<=s1.c.t.tick.2/\s1.c.t.tick.2<=3:=by rcases hk.2.2.2.2.2 with⟨e,_⟩|⟨e,_,_,_⟩<;>omega
   refine⟨q20.trans (Quiet.trans (ah.At (ah.Ij oM oM)) (ah.py sP ?_)),?_⟩
   ·refine⟨sP,by dsimp only;omega,sP,?_,sP,sP⟩;dsimp only;rw[ah.kB];show 0<=s1.c.t.tick.1.an/\s1.c.t.tick.1.an<=65535;rw[hk.2.1];exact Vv
   ·refine⟨C.next s1.c.head ⟨12,s1.c.t.tick.2,0,s1.c.t.tick.1.an,30,0⟩,?_⟩;rw[show∀(y:ah) (k a n e w:Int),(y.record C k a n e w).c={y.c with head:=C.next y.c.head ⟨k,a,n,y.c.t.an,e,w⟩}from λ_ _ _ _ _ _=>rfl,ah.lQ];rfl
  ·exact⟨q20,s1.c.head,rfl⟩
 obtain⟨q2,Ie,e2⟩:=q2;have yR:Inv (r_ C s1).c:=by rw[e2];exact i2.head _
 generalize r_ C s1=s2 at*;have e20:=yR.lR;obtain⟨a4,hd3,e3⟩:=as6 (C:=C) (b:=b) (Q.gone s2.c.q) ({s2 with c:={s2.c with q:=Q.kept s2.c.q}}:ah)
  (λa ha=>by
   obtain⟨x,hx,rfl,_⟩:=as5 ha;have:=yR.q.each x hx;exact⟨this.2.1,this.2.2.1⟩) e20
 have q3:Quiet C b s2 (yQ C s2):=Quiet.trans (t:=({s2 with c:={s2.c with q:=Q.kept s2.c.q}}:ah)) (ah.jq rfl rfl rfl rfl) a4;have u6:(yQ C s2).c={s2.c with q:=Q.kept s2.c.q,head:=hd3}:=e3;have i3:Inv (yQ C s2).c:=by
  rw[u6];exact⟨yR.p,yR.tok,yR.q.kept,yR.aq,yR.samples,yR.mode,yR.doors⟩
 refine⟨q1.trans (q2.trans q3),i3,?_,?_,?_,?_,?_,?_,?_,?_,?_,?_⟩
 ·rw[u6,e2,e1]
 ·rw[u6,e2,e1]
 ·rw[u6,e2];show s1.c.t.tick.1.aF=_;rw[hk.1,e1];exact hf.1
 ·rw[u6,e2];show s1.c.t.tick.1.an=_;rw[hk.2.1,e1];exact hf.2.1
 ·rw[u6,e2];show s1.c.t.tick.1.la=_;rw[hk.2.2.1,e1];exact hf.2.2.1
 ·rw[u6,e2];show s1.c.t.tick.1.bad=_;rw[hk.2.2.2.1,e1];exact hf.2.2.2.1
 ·rw[u6,e2,e1]
 ·rw[u6,e2,e1]
 ·rw[u6,e2,e1];exact⟨rfl,rfl,rfl⟩
 ·rw[u6,e2,e1];exact⟨rfl,rfl,rfl⟩
structure as_ (c m c':Core) (how:Int):Prop where
 p:c'.p=c.p
 aq:c'.aq=c.aq.tick
 lost:AP c.p m.t m.q (m.aq.on m.t.aF) c'.t how c'.q
 ay0:how=5->c'.mode=c.p.lost/\c'.gF=⟨3,4,0⟩/\c'.pt=(c.pt.hold ⟨3,4,0⟩).step c.p
 stays:how=0->c'.mode=c.mode/\c'.gF=c.gF/\c'.pt=c.pt.step c.p
def Ww (h:Inv s.c):fW C b s (s.tick C) 3 0/\∃m how,Mid s.c m/\as_ s.c m (s.tick C).c how:=by
 obtain⟨q3,hm⟩:=aeh (C:=C) (b:=b) h;rw[Oc];generalize yQ C (r_ C (r9 C s))=s3 at*;obtain⟨⟨i4,w4⟩,t4,p4,l4,r4,du⟩:=as9 (C:=C) (b:=b) hm.inv;generalize hs4:s3.dz C=s4 at*;dsimp only;have i5:Inv {s4.c with pt:=s4.c.pt.step s4.c.p}:=⟨i4.p,i4.tok,i4.q,i4.aq,i4.samples,i4.mode,i4.doors⟩;have q5:Quiet C b s4 ({s4 with c:={s4.c with pt:=s4.c.pt.step s4.c.p}}:ah):=ah.jq rfl rfl rfl rfl;refine⟨⟨i5,?_⟩,s3.c,(gZ s3.c.p s3.c.t s3.c.q (s3.c.aq.on s3.c.t.aF)).2.1,hm,p4.trans hm.p,t4.trans hm.aq,?_,?_,?_⟩
 ·rcases w4 with w4|⟨how,g4,w4⟩
  ·exact .inl (q3.trans (w4.trans q5))
  ·refine .inr ⟨how,(q3.goes g4).quiet q5 g4.offer,?_⟩;unfold uK at*;simp only[hm.aF,hm.an]at w4;rcases w4 with⟨e,k,_⟩|⟨e,k,_⟩|⟨e,k,_⟩|⟨e,k,_⟩|w4|⟨e,k,w4⟩
   ·omega
   ·omega
   ·omega
   ·omega
   ·exact .inr (.inr (.inr (.inr (.inl ⟨w4.1,rfl,w4.2.2⟩))))
   ·refine .inr (.inr (.inr (.inr (.inr ⟨e,k,?_⟩))));rcases w4 with⟨e',_⟩|w4
    ·omega
    ·exact .inr ⟨rfl,w4.2⟩
 ·rw[hm.p]at l4;rw[hm.p];exact l4
 ·intro e;obtain⟨r1,r2,r3⟩:=r4 e;refine⟨by rw[<-hm.p];exact r1,r2,?_⟩;show s4.c.pt.step s4.c.p=_;rw[r3,p4,hm.p,hm.mode.2.2]
 ·intro e;obtain⟨r1,r2,r3⟩:=du e;refine⟨by rw[<-hm.mode.1];exact r1,by rw[<-hm.mode.2.1];exact r2,?_⟩;show s4.c.pt.step s4.c.p=_;rw[r3,p4,hm.p,hm.mode.2.2]
structure Calm (s s':ah):Prop where
 aV:∃rs:List Rec,s'.aV=s.aV++rs/\∀r∈rs,r.kind≠1/\r.kind≠7
 bw:∃ts:List (Int×aO),s'.bw=s.bw++ts/\∀x∈ts,132<x.2.kind
def Calm.refl (s:ah):Calm s s:=⟨⟨[],sP,sP⟩,⟨[],sP,sP⟩⟩
def Calm.trans {s t u:ah} (h:Calm s t) (k:Calm t u):Calm s u:=by
 obtain⟨⟨rs,r1,r2⟩,⟨ts,t1,t2⟩⟩:=h;obtain⟨⟨qs,q1,q2⟩,⟨us,u1,u2⟩⟩:=k;exact⟨⟨rs++qs,by rw[q1,r1,bW],λr hr=>(eI.1 hr).elim (r2 r) (q2 r)⟩,⟨ts++us,by rw[u1,t1,bW],λx hx=>(eI.1 hx).elim (t2 x) (u2 x)⟩⟩
structure Oj (c c':Core):Prop where
 p:c'.p=c.p
 t:c'.t=c.t
 q:c'.q=c.q
 on:∀x,c'.aq.on x=c.aq.on x
 role:∀x,c'.aq.role x=c.aq.role x
 mode:c'.mode=c.mode
 gF:c'.gF=c.gF
 pt:c'.pt=c.pt
inductive Class (s s':ah) (l:Int):Prop
 |rejected (e:Int) (he:e≠0) (hr:s'.aV=s.aV++[⟨1,l,0,s.c.t.an,e,0⟩]) (hs:s'.bw=s.bw) (hc:Oj s.c s'.c)
 |refused (n e:Int) (he:e≠0) (hr:s'.aV=s.aV++[⟨7,l,n,s.c.t.an,e,0⟩]) (hs:s'.bw=s.bw++[(l,{kind:=132,seq:=n,code:=e})]) (hc:Oj s.c s'.c)
 |done (r:aO) (hr:129<=r.kind/\r.kind<=131) (rs:List Rec) (h1:s'.aV=s.aV++rs) (h2:∀r∈rs,r.kind≠1/\r.kind≠7) (xs ys:List (Int×aO)) (h3:s'.bw=s.bw++(xs++(l,r)::ys)) (h4:∀x∈xs++ys,132<x.2.kind)
def Oj.refl (c:Core):Oj c c:=⟨rfl,rfl,rfl,λ_=>rfl,λ_=>rfl,rfl,rfl,rfl⟩
def Class.Ip {T:aN} {t:ah} (k:Class ({s with c:={s.c with aq:=T}}:ah) t l) (jR:∀x,T.on x=s.c.aq.on x) (hr:∀x,T.role x=s.c.aq.role x):Class s t l:=by
 cases k with
 |rejected e he gp hs hc=>exact .rejected e he gp hs ⟨hc.p,hc.t,hc.q,λx=>(hc.on x).trans (jR x),λx=>(hc.role x).trans (hr x),hc.mode,hc.gF,hc.pt⟩
 |refused n e he gp hs hc=>exact .refused n e he gp hs ⟨hc.p,hc.t,hc.q,λx=>(hc.on x).trans (jR x),λx=>(hc.role x).trans (hr x),hc.mode,hc.gF,hc.pt⟩
 |done r hr rs h1 h2 xs ys h3 h4=>exact .done r hr rs h1 h2 xs ys h3 h4
end Sd
namespace Sd
variable{C:aL}
def Ol (C:aL) (c:Core):Core:=((⟨c,[],[]⟩:ah).tick C).c
end Sd
namespace Sd
variable{C:aL} {s:ah}
def Bd (n:Int):Prop:=-9223372036854775808<=n/\n<=9223372036854775807
def wm (t:Timer):Prop:=Bd t.n/\Bd t.most
structure qz (t:aN):Prop where
 hi:∀j,(t.az (j+3)).on=ag
 st:wm t.de.2
 ss:∀j,wm (t.az j).dN
structure iU (t:Tok):Prop where
 oa:wm t.oa
 la:wm t.la
def kr (x:X4):Prop:=Bd x.a/\Bd x.b/\Bd x.c/\Bd x.d
structure Jn (p:fj):Prop where
 bh:kr p.bh
 now:kr p.now
structure Ext (c:Core):Prop where
 aq:qz c.aq
 t:iU c.t
 pt:Jn c.pt
 d:∀i,(c.doors i).many<=4294967295
 be:Bd c.beyond
def wo:Bd 0:=⟨dC,dC⟩
def tO:wm Timer.zero:=⟨wo,wo⟩
def FF:kr X4.zero:=⟨wo,wo,wo,wo⟩
def aei {n m:Int} (h:Bd n) (k:Bd m):Bd (sat n m):=by
 unfold Bd sat at*;split<;>omega
def FG {n a b:Int} (h:a<=n/\n<=b) (ha:-9223372036854775808<=a) (hb:b<=9223372036854775807):Bd n:=⟨oM,oM⟩
def Jo {m:Int} (h:Bd m):wm (Timer.start m):=⟨wo,by unfold Timer.start Bd at*;dsimp only;omega⟩
def Jp {t:Timer} (h:wm t):wm t.step:=⟨aei h.1 h.2,h.2⟩
def Ext.eq {c c':Core} (h:Ext c) (h1:c'.aq=c.aq) (h2:c'.t=c.t) (h3:c'.pt=c.pt) (h4:c'.doors=c.doors) (h5:c'.beyond=c.beyond):Ext c':=
 ⟨h1▸h.aq,h2▸h.t,h3▸h.pt,h4▸h.d,h5▸h.be⟩
def Ext.new {p:aU}:Ext (Core.new p):=⟨⟨λ_=>rfl,tO,λ_=>tO⟩,⟨tO,tO⟩,⟨FF,FF⟩,λ_=>show(0:Int)<=4294967295 by decide,wo⟩
def Om {t:Tok} {a b:Int}:iU (t.pass a b):=⟨tO,tO⟩
def Jq {t:Tok} (h:iU t) {a:Int}:iU (t.dF a).1:=by
 unfold Tok.dF;split
 ·exact h
 split
 ·exact h
 split
 ·exact h
 exact Om
def aej {t:Tok} (h:iU t):iU t.jk:=⟨tO,h.la⟩
def ata {p:aU} (hp:fF p) {t:Tok} (h:iU t) {a b:Int} {th:Bool}:iU (t.make p a b th).1:=by
 unfold Tok.make;split
 ·exact h
 split
 ·exact h
 split
 ·exact h
 split
 ·exact h
 split
 ·exact h
 exact⟨Jo (FG hp.offer dC dC),h.la⟩
def atb {t:Tok} (h:iU t) {a b:Int}:iU (t.accept a b).1:=by
 unfold Tok.accept;split
 ·exact h
 split
 ·exact h
 exact Jq h
def atc {t:Tok} (h:iU t) {a:Int}:iU (t.gh a).1:=by
 unfold Tok.gh;split
 ·exact h
 exact aej h
def aek {t:Tok} (h:iU t) {a:Int}:iU (t.drop a).1:=by
 unfold Tok.drop;split
 ·exact h
 exact aej h
def ael {t:Tok} (h:iU t):iU t.tick.1:=by
 unfold Tok.tick;split
 ·exact h
 split
 ·exact⟨tO,h.la⟩
 exact⟨Jp h.oa,h.la⟩
def aem {p:aU} {t:Tok} {m:Int} {q:List Ask} {f:Int} {now:Bool} (h:iU t):iU (gY p t m q f now).1:=by
 unfold gY;split
 ·exact h
 split
 ·exact h
 split
 ·exact h
 split
 ·split
  ·exact h
  ·exact Jq h
 split
 ·exact h
 exact h
def aen {t:Tok} (h:iU t) {q:List Ask}:iU (fT t q).1:=by
 unfold fT;split
 ·exact h
 split
 ·exact h
 exact Jq h
def aeo {t:Tok} (h:iU t) {q:List Ask} {f:Int}:iU (dA t q f).1:=by
 unfold dA;split
 ·exact h
 split
 ·exact h
 exact aen h
def Wx {p:aU} (hp:fF p) {t:Tok} (h:iU t) {q:List Ask} {th:Bool}:iU (gZ p t q th).1:=by
 unfold gZ;split
 ·exact⟨h.oa,tO⟩
 have ui:wm (if t.la.most=0 then Timer.start p.dz else t.la).step:=by
  split
  ·exact Jp (Jo (FG hp.dz dC dC))
  ·exact Jp h.la
 dsimp only;generalize (if t.la.most=0 then Timer.start p.dz else t.la).step=la at*;have h1:iU {t with la:=la}:=⟨h.oa,ui⟩;split
 ·exact h1
 split
 ·exact Om
 split
 ·exact Jq h1
 exact aen h1
def Ext.record {k a n e w:Int} (h:Ext s.c):Ext (s.record C k a n e w).c:=⟨h.aq,h.t,h.pt,h.d,h.be⟩
def Ext.eh {l:Int} {r:aO} (h:Ext s.c):Ext (s.eh l r).c:=by rw[ah.kB];exact h
def Ext.gone {l w e:Int} (h:Ext s.c):Ext (s.gone l w e).c:=h.eh
def Ext.tell {l:Int} {r:aO} (h:Ext s.c):Ext (s.tell l r).c:=h
def Ext.done {l n:Int} (h:Ext s.c):Ext (s.done l n).c:=h
def Ext.refuse {l n e:Int} (h:Ext s.c):Ext (s.refuse C l n e).c:=Ext.record (s:=s.tell l _) h
def Ext.jx {l e:Int} (h:Ext s.c):Ext (s.jx C l e).c:=h.record
def Ext.goes {t:Tok} {how n:Int} (h:Ext s.c) (ht:iU t):Ext (s.goes C t how n).c:=by
 obtain⟨x,e⟩:=ah.MP C s t how n;rw[e];exact⟨h.aq,ht,h.pt,h.d,h.be⟩
def Ext.leave {x:Int} (h:Ext s.c):Ext (s.leave C x).c:=by
 obtain⟨hd,e⟩:=TZ C s x;rw[e];exact⟨h.aq,aek h.t,h.pt,h.d,h.be⟩
def Ext.eD {t:Tok} (h:Ext s.c) (ht:iU t):Ext (s.eD t).c:=⟨h.aq,ht,h.pt,h.d,h.be⟩
def Ext.Jr {q:List Ask} (h:Ext s.c):Ext ({s with c:={s.c with q:=q}}:ah).c:=⟨h.aq,h.t,h.pt,h.d,h.be⟩
def Ext.ei {m:Int} {y:Label} (h:Ext s.c):Ext (s.ei m y).c:=⟨h.aq,h.t,⟨FF,h.pt.now⟩,h.d,h.be⟩
def Wy {t:aN} (h:qz t) {i:Nat} (hi:i<3) {x:gw} (hx:wm x.dN):qz (t.gO i x) where
 hi:=by
  intro j;unfold aN.gO;dsimp only;rw[if_neg oM];exact h.hi j
 st:=h.st
 ss:=by
  intro j;unfold aN.gO;dsimp only;split
  ·exact hx
  ·exact h.ss j
def atd {t:aN} (h:qz t) {l:Int} (hl:1<=l/\l<=3):qz (t.end_ l):=by
 unfold aN.end_;split
 ·exact Wy h oM tO
 ·exact h
def ate {p:aU} (hp:fF p) {t:aN} (h:qz t) {l r:Int} {key:ax}:qz (aN.fk p t l r key).1:=by
 unfold aN.fk;split
 ·exact h
 split
 ·exact h
 exact Wy h oM (Jo (FG hp.cO dC dC))
def atf {p:aU} (hp:fF p) {t:aN} (h:qz t) {l:Int} (hl:1<=l/\l<=3) {n:Nat} {f:ax}:qz (aN.take C p t l n f).1:=by
 unfold aN.take;split
 ·exact h
 split
 ·exact h
 split
 ·exact h
 split
 ·exact h
 split
 ·exact h
 exact Wy h oM (Jo (FG hp.cO dC dC))
def atg {p:aU} (hp:fF p) {t:aN} (h:qz t):qz (t.ig p):=⟨h.hi,Jo (FG hp.cO dC dC),h.ss⟩
def ath {t:aN} (h:qz t):qz t.tick where
 hi:=by
  intro j;simp only[aN.tick,h.hi j];simp[h.hi j]
 st:=by
  unfold aN.tick;dsimp only;split
  ·split
   ·exact tO
   ·exact Jp h.st
  ·exact h.st
 ss:=by
  intro j;unfold aN.tick;dsimp only;split
  ·split
   ·exact tO
   ·exact Jp (h.ss j)
  ·exact h.ss j
def On {n a b:Int} (ha:Bd a) (hb:Bd b) (h:Bd n):Bd (vA n a b):=by
 unfold vA;split
 ·exact ha
 split
 ·exact hb
 exact h
def aep {p:aU} (hp:fF p) {pt:fj} (h:Jn pt) {c:Int} {x:X4} (hx:kr x) {y:Label}:Jn (pt.set p c x y) where
 bh:=by
  unfold fj.set;dsimp only;split
  ·exact FF
  ·have hm:=hp.most c.toNat oM;have h1:Bd (-(p.most c.toNat)):=⟨oM,oM⟩;have h2:Bd (p.most c.toNat):=⟨oM,oM⟩;exact⟨On h1 h2 hx.1,On h1 h2 hx.2.1,On h1 h2 hx.2.2.1,On h1 h2 hx.2.2.2⟩
 now:=h.now
def Oo {a b r:Int} (ha:Bd a) (hb:Bd b):Bd (sU a b r):=by
 unfold sU Bd at*;split
 ·exact ha
 split
 ·split<;>omega
 ·split<;>omega
def ati {p:aU} {pt:fj} (h:Jn pt):Jn (pt.step p) where
 bh:=h.bh
 now:=⟨Oo h.now.1 h.bh.1,Oo h.now.2.1 h.bh.2.1,Oo h.now.2.2.1 h.bh.2.2.1,Oo h.now.2.2.2 h.bh.2.2.2⟩
def atj {m:bQ} {l:Int} (hl:1<=l/\l<=3) (hp:fF s.c.p) (hx:kr m.x) (h:Ext s.c):Ext (s.kW C l m).c:=by
 unfold ah.kW;split
 ·exact h.done
 split
 ·unfold ah.BH;refine Ext.done (Ext.record (Ext.leave ?_));exact⟨atd h.aq hl,h.t,h.pt,h.d,h.be⟩
 split
 ·unfold ah.ask;dsimp only;split
  ·exact h.refuse
  refine Ext.done ?_;split
  ·exact Ext.goes (h.Jr) (aem h.t)
  ·exact Ext.record (Ext.eD h.Jr (aem h.t))
 split
 ·unfold ah.offer;dsimp only;split
  ·exact h.refuse
  exact Ext.done (Ext.record (Ext.eh (Ext.eD h (ata hp h.t))))
 split
 ·unfold ah.accept;dsimp only;split
  ·exact h.refuse
  exact Ext.done (Ext.goes h (atb h.t))
 split
 ·unfold ah.gh;dsimp only;split
  ·exact h.refuse
  exact Ext.done (Ext.record (Ext.gone (Ext.eD h (atc h.t))))
 split
 ·unfold ah.release;dsimp only;split
  ·exact h.refuse
  exact Ext.done (Ext.goes h.Jr (aeo h.t))
 split
 ·unfold ah.command;dsimp only;split
  ·exact h.refuse
  refine Ext.done (Ext.record ?_);split
  ·exact⟨h.aq,h.t,h.pt,h.d,h.be⟩
  ·exact⟨h.aq,h.t,aep hp h.pt hx,h.d,h.be⟩
 ·exact h
def atk {l code:Int} {n:Nat} {f:ax} (hx:∀n f m,C.take n f=aa m->kr m.x) (hl:1<=l/\l<=3) (hp:fF s.c.p) (h:Ext s.c):Ext (s.item C l code n f).c:=by
 unfold ah.item;split
 ·exact h.jx
 split
 ·unfold ah.sV;split
  ·exact h.jx
  split
  ·exact h.refuse
  dsimp only;split
  ·exact h.refuse
  refine Ext.record (Ext.tell ?_);refine⟨h.aq,h.t,h.pt,?_,h.be⟩;intro i;dsimp only;split
  ·dsimp only;omega
  ·exact h.d i
 split
 ·unfold ah.prove;split
  ·exact h.jx
  split
  ·exact h.jx
  dsimp only;split
  ·exact h.refuse
  have h1:∀{b:Bool} {x:ax},Ext ({s.c with doors:=λj=>if j=l.toNat-1 then⟨(s.c.doors (l.toNat-1)).many,b,x⟩else s.c.doors j}:Core):=by
   intro b x;refine⟨h.aq,h.t,h.pt,?_,h.be⟩;intro i;dsimp only;split
   ·exact h.d _
   ·exact h.d i
  split
  ·exact Ext.jx (s:=({s with c:=_}:ah)) h1
  split
  ·exact Ext.refuse (s:=({s with c:=_}:ah)) h1
  split
  ·exact Ext.refuse (s:=({s with c:=_}:ah)) h1
  refine Ext.record (Ext.tell ?_);exact⟨ate hp h.aq,h.t,h.pt,(@h1 ag λ_=>0).d,h.be⟩
 split
 ·exact h.jx
 ·rename_i aq m heq;have h1:qz aq:=by have:=atf (C:=C) hp h.aq hl (n:=n) (f:=f);rw[heq]at this;exact this
  have hm:kr m.x:=by
   unfold aN.take at heq;split at heq
   ·cases heq
   split at heq
   ·cases heq
   split at heq
   ·cases heq
   ·rename_i m' uq;split at heq
    ·cases heq
    split at heq
    ·cases heq
    cases heq;exact hx _ _ _ uq
  exact atj hl hp hm ⟨h1,h.t,h.pt,h.d,h.be⟩
def atl {x:ft} (hx:kr x.x) (hp:fF s.c.p) (h:Ext s.c):Ext (s.ig C x).c:=by
 have hs:Bd (g9 s.c.p s.c.beyond x).1:=by
  unfold g9;split
  ·exact wo
  ·exact aei (by have:=h.be;unfold Bd at*;omega) (FG hp.sT dC dC)
 unfold ah.ig;split
 ·exact⟨h.aq,h.t,h.pt,h.d,wo⟩
 dsimp only;have h1:Ext ({s.c with samples:=sat s.c.samples 4294967295,aq:=s.c.aq.ig s.c.p,beyond:=(g9 s.c.p s.c.beyond x).1}:Core):=⟨atg hp h.aq,h.t,h.pt,h.d,hs⟩;split
 ·split
  ·exact Ext.record (s:=({s with c:=_}:ah)) h1
  ·exact Ext.goes ⟨h1.aq,h1.t,h1.pt,h1.d,h1.be⟩ (aeo h.t)
 split
 ·split
  ·exact Ext.record (s:=({s with c:=_}:ah)) h1
  ·exact Ext.record (s:=({s with c:=_}:ah)) ⟨h1.aq,h1.t,aep hp h.pt hx,h1.d,h1.be⟩
 split
 ·split
  ·exact Ext.record (s:=({s with c:=_}:ah)) h1
  ·exact Ext.goes (s:=({s with c:=_}:ah)) h1 (Jq h.t)
 ·exact h1
def atm (q:List Ask):∀s:ah,Ext s.c->Ext (q.foldl oG s).c:=by
 induction q with
 |nil=>intro s h;exact h
 |cons a q ih=>intro s h;exact ih _ (by rw[Og];exact⟨h.aq,h.t,h.pt,h.d,h.be⟩)
def atn {bad:Bool} (h:Ext s.c):Ext (s.lC C bad).c:=by
 cases bad with
 |false=>exact⟨h.aq,⟨h.t.oa,h.t.la⟩,h.pt,h.d,h.be⟩
 |true=>
  rw[aec af rfl];refine Ext.ei (atm _ _ ?_);have h0:Ext (s.eD {s.c.t with bad:=af}).c:=Ext.eD h ⟨h.t.oa,h.t.la⟩;split
  ·exact Ext.goes h0 Om
  ·exact Ext.eD h0 Om
def ato (xs:List Int):∀t:Tok,iU t->iU (lW t xs):=by
 induction xs with
 |nil=>intro t h;exact h
 |cons x xs ih=>
  intro t h;unfold lW at*;rw[Bh];refine ih _ ?_;split
  ·exact aek h
  ·exact h
def atp (xs:List Int):∀s:ah,Ext s.c->Ext (xs.foldl (qy C) s).c:=by
 induction xs with
 |nil=>intro s h;exact h
 |cons x xs ih=>
  intro s h;refine ih _ ?_;obtain⟨hd,e⟩:=aed C s x;rw[e];exact⟨h.aq,ato _ _ h.t,h.pt,h.d,h.be⟩
def atq (q:List Ask):∀s:ah,Ext s.c->Ext (q.foldl (AO C) s).c:=by
 induction q with
 |nil=>intro s h;exact h
 |cons a q ih=>intro s h;exact ih _ (Ext.record (Ext.gone h))
def atr (hp:fF s.c.p) (h:Ext s.c):Ext (s.dz C).c:=by
 unfold ah.dz;dsimp only;split
 ·exact Ext.eD h (Wx hp h.t)
 split
 ·exact Ext.ei (Ext.goes h.Jr (Wx hp h.t))
 ·exact Ext.ei (Ext.goes h.Jr (Wx hp h.t))
def att (hi:Inv s.c) (h:Ext s.c):Ext (s.tick C).c:=by
 rw[Oc];have h1:Ext (r9 C s).c:=atp _ _ ⟨ath h.aq,h.t,h.pt,h.d,h.be⟩;have h2:Ext (r_ C (r9 C s)).c:=by
  unfold r_;dsimp only;split
  ·exact Ext.record (Ext.gone (Ext.eD h1 (ael h1.t)))
  ·exact Ext.eD h1 (ael h1.t)
 have h3:Ext (yQ C (r_ C (r9 C s))).c:=atq _ _ ⟨h2.aq,h2.t,h2.pt,h2.d,h2.be⟩;have hp:fF (yQ C (r_ C (r9 C s))).c.p:=by rw[(aeh (b:=True) hi).2.p];exact hi.p
 have h4:=atr (C:=C) hp h3;exact⟨h4.aq,h4.t,ati h4.pt,h4.d,h4.be⟩
end Sd
