/- Part 4 of the proof. -/
import Derived.Test.YtddcipamdggcnaaGreatDoorRows
import Derived.Test.YtddcipamdggcnaaGreatDoorU3
set_option linter.all false
set_option maxRecDepth 100000
set_option maxHeartbeats 4000000
noncomputable section
open Sd(Core Label X4 aM aQ aT aX ai az ca dM fK fL fg gL iD iE jF oK pJ sat vV xI)
open Go.Proofs.Tryz
open Go.Proofs.Tryz renaming prog->du
open Go.IntKind (u8 u16 u32 u64 i64)
open BitVec renaming ofInt->qt
open Bool renaming true->af,false->ah,and_eq_true->bJ
open Go renaming Addr->aF,TypeId->aP,Value->aj,World->an,Operand->bA,FuncId->fG,MapEntry->xd
open Go.Instr renaming findNow->Qa
open Go.IntKind renaming wrap_i64->ahf,bits->td,signed->te,wrap->vH
open Go.Result renaming andThen_ok->cD
open Go.Sem renaming run_bind->bH,run_pure->de
open Go.Value renaming int->fI,slice->tj
open Int renaming le_refl->uy,le_trans->vM
open List renaming mem_filter->Bw,length_map->GA,getElem?_set_ne->KV,length_filter_le->Lc,append_assoc->bZ,range->bg,mem_cons->cG,append_nil->cy,mem_append->dV,length_append->fH,cons_append->fe,nil_append->fu,getElem?_append_left->gB,getD->gh,map_cons->gx,getElem?_toArray->j7,take_append_drop->jR,mem_singleton->jS,length_cons->jv,getElem?_map->kA,sublist_append_right->kM,eq_nil_of_length_eq_zero->kX,perm_middle->kY,map_map->lN,map_congr_left->mB,mem_map->oC,replicate->oE,getElem?_range->pr,perm_append_comm_assoc->rG,foldl_cons->xg,singleton_append->xi,ext_getElem?->zN
open List.Perm renaming append_left->j8,cons->vJ,trans->xm
open List.Sublist renaming trans->ahg,append_left->mV,cons_cons->xn
open List.cons renaming inj->xf
open Nat renaming beq->aC,and_two_pow_sub_one_eq_mod->ag4,le_refl->cW,ble->ck,eq_of_beq_eq_true->cw,zero_add->d_,lt_or_ge->di,blt->dq,blt_eq->jQ,eq_zero_or_pos->uu
open Option renaming some->aa,none->ag
open Option.some renaming injEq->a_,inj->cP
open Prod.mk renaming inj->DW,injEq->bI
open Go Go.RowKit Go.BigFrame Sx Vx
namespace Go.Proofs.YtddcipamdggcnaaGreatDoor
section
def Fv:List (bT Empty):=⟨160,ah,VQ⟩::qL Empty LTk
def lG(n e:Nat)(f:Nat->Int)(t:List aj)(X:V->Prop):Prop:=bz (tQ du nk Fv) 90 120 [.sl 0 0 n (e+n)] [⟨ah,⟨5,(0,0)⟩,[.cu .u8 n f,.rest t]⟩] [] λv _ _=>X v
section
variable(e:Nat)(f:Nat->Int)(t:List aj)(X:V->Prop)
def aq3:lG 0 e f t X=X qe:=kR
def aq4:lG 1 e f t X=mi 1 f X:=kR
def aq5:lG 2 e f t X=mi 2 f X:=kR
def aq6:lG 3 e f t X=mi 3 f X:=kR
def aq7:lG 4 e f t X=mi 4 f X:=kR
def aq8:lG 5 e f t X=mi 5 f X:=kR
def aq9:lG 6 e f t X=mi 6 f X:=kR
def aq_:lG 7 e f t X=mi 7 f X:=kR
def ara:lG 8 e f t X=mi 8 f X:=kR
def arb:lG 9 e f t X=mi 9 f X:=kR
def arc:lG 10 e f t X=mi 10 f X:=kR
def ard:lG 11 e f t X=mi 11 f X:=kR
def are:lG 12 e f t X=mi 12 f X:=kR
def arf:lG 13 e f t X=mi 13 f X:=kR
def arh:lG 14 e f t X=mi 14 f X:=kR
def ari:lG 15 e f t X=mi 15 f X:=kR
def arj:lG 16 e f t X=mi 16 f X:=kR
def ark(m:Nat):lG (m+17) e f t X=mi (m+17) f X:=kR
end
def Fd.num(d:Fd)(g:Nat->Int):Int:=bif d.sg then AO (iS g)else bif aC d.sz 1 then Fb g else bif aC d.sz 2 then iS g else CL g
def Fd.set(d:Fd)(v:Int)(m:ca):ca:=match d.at_ with
 |1=>{m with seq:=v}|2=>{m with role:=v}|3=>{m with bC:=v}|4=>{m with au:=v}|5=>{m with mode:=v}|6=>{m with cls:=v}|7=>{m with now:=v==1}
 |8=>{m with x:=⟨v,m.x.b,m.x.c,m.x.d⟩}|9=>{m with x:=⟨m.x.a,v,m.x.c,m.x.d⟩}|10=>{m with x:=⟨m.x.a,m.x.b,v,m.x.d⟩}|11=>{m with x:=⟨m.x.a,m.x.b,m.x.c,v⟩}|_=>m
def vn(k:Int):Option (List Fd):=
 if k=1\/k=2 then aa [CM]else if k=3\/k=4\/k=8\/k=9 then aa [kp]else if k=5 then aa [kp,Fi]else if k=6 then aa [kp,Fg]else if k=7 then aa [kp,sj]else if k=10 then aa [kp,sj,Fh]
 else if k=11 then aa [kp,sj,wz,fX 0,fX 1,fX 2,fX 3]else ag
def runM(n:Nat)(f:Nat->Int):List Fd->Nat->ca->Option ca
 |[],off,m=>if n-off=0 then aa m else ag
 |d::l,off,m=>if n-off<d.sz then ag else if d.num (λj=>f (off+j))<d.low\/d.high<d.num (λj=>f (off+j))then ag else runM n f l (off+d.sz) (d.set (d.num (λj=>f (off+j))) m)
def aU(n:Nat)(f:Nat->Int):Option ca:=if n=0 then ag else match vn (f 0)with
 |some l=>runM n f l 1 (xI (f 0))
 |none=>ag
def sQ(d:Fd):Prop:=(d.sg=af->d.sz=2)/\∀v m,mH (dw m) d.at_ (bif d.b then .bool (v==1)else .int .i64 v)=dw (d.set v m)
def lg{x:Int}(h:dQ x):i64.wrap x=x:=by simp[vH,td,te];omega
def By.at{f:Nat->Int}(h:By f)(o:Nat):By λj=>f (o+j):=λj=>h (o+j)
def adJ(d:Fd){g:Nat->Int}(h:By g):d.val g=d.num g:=by
 have h1:=anO h;have h2:=ac2 h;have h4:=anP h
 unfold Fd.val Fd.num;cases d.sg<;>cases aC d.sz 1<;>cases aC d.sz 2<;>simp only[cond_true,cond_false]<;>first|rfl|(apply lg;omega)
def adK{n:Nat}{f:Nat->Int}(hf:By f){X:V->Prop}:∀(l:List Fd)(off:Nat)(m:ca),(∀d∈l,sQ d)->(∀r,runM n f l off m=aa r->X (.aD [.agg (dw r),.int .i64 0]))->(runM n f l off m=ag->X qe)->Ff n f X l off (dw m)
 |[],off,m,_,h1,h2=>by
  unfold Ff;unfold runM at h1 h2;by_cases h:n-off=0
  ·rw[if_pos h]at h1;rw[h];exact h1 m rfl
  ·rw[if_neg h]at h2;have:aC (n-off) 0=ah:=by
    cases hb:aC (n-off) 0 with
    |true=>exact absurd (cw hb) h
    |false=>rfl
   rw[this];exact h2 rfl
 |d::l,off,m,hd,h1,h2=>by
  unfold Ff;unfold runM at h1 h2;have hb:=hf.at off;by_cases h:n-off<d.sz
  ·rw[if_pos h]at h2;have:dq (n-off) d.sz=af:=by rw[jQ];exact h
   rw[this];exact h2 rfl
  ·rw[if_neg h]at h1 h2;have:dq (n-off) d.sz=ah:=by
    cases hb:dq (n-off) d.sz with
    |true=>rw[jQ]at hb;exact absurd hb h
    |false=>rfl
   rw[this,adJ d hb];refine⟨hb,aN (λe=>?_) (λe=>aN (λe2=>?_) (λe2=>?_))⟩
   ·have e:=of_decide_eq_true e;rw[if_pos (.inl e)]at h2;exact h2 rfl
   ·have e2:=of_decide_eq_true e2;rw[if_pos (.inr e2)]at h2;exact h2 rfl
   ·have e:=of_decide_eq_false e;have e2:=of_decide_eq_false e2;have hn:¬(d.num (λj=>f (off+j))<d.low\/d.high<d.num (λj=>f (off+j))):=oM;rw[if_neg hn]at h1 h2;have:d.up (λj=>f (off+j)) (dw m)=dw (d.set (d.num (λj=>f (off+j))) m):=by
     unfold Fd.up;rw[adJ d hb];exact(hd d sP).2 _ _
    rw[this];exact adK hf l (off+d.sz) _ (λx hx=>hd x (by simp[hx])) h1 h2
def arl{k:Int}{l:List Fd}(h:vn k=aa l):∀d∈l,sQ d:=by
 have a1:sQ CM:=⟨dC,λv m=>rfl⟩;have a2:sQ kp:=⟨dC,λv m=>rfl⟩;have a3:sQ Fi:=⟨dC,λv m=>rfl⟩;have a4:sQ Fg:=⟨dC,λv m=>rfl⟩;have a5:sQ sj:=⟨dC,λv m=>rfl⟩;have a6:sQ Fh:=⟨dC,λv m=>rfl⟩;have a7:sQ wz:=⟨dC,λv m=>rfl⟩;have b0:sQ (fX 0):=⟨dC,λv m=>rfl⟩;have b1:sQ (fX 1):=⟨dC,λv m=>rfl⟩;have b2:sQ (fX 2):=⟨dC,λv m=>rfl⟩;have b3:sQ (fX 3):=⟨dC,λv m=>rfl⟩;unfold vn at h
 repeat' split at h
 all_goals first|(cases h;done)|(obtain rfl:=cP h;intro d hd;simp at hd;rcases hd with rfl|rfl|rfl|rfl|rfl|rfl|rfl<;>assumption)|(obtain rfl:=cP h;intro d hd;simp at hd;rcases hd with rfl|rfl|rfl<;>assumption)|(obtain rfl:=cP h;intro d hd;simp at hd;rcases hd with rfl|rfl<;>assumption)|(obtain rfl:=cP h;intro d hd;simp at hd;subst hd;assumption)
def arn{n:Nat}{f:Nat->Int}(hf:By f)(hn:n≠0){X:V->Prop}(h1:∀r,aU n f=aa r->X (.aD [.agg (dw r),.int .i64 0]))(h2:aU n f=ag->X qe):mi n f X:=by
 have hk:sr f=f 0:=lg (by have:=hf 0;omega);have hm:m0 f=dw (xI (f 0)):=by unfold m0;rw[hk];rfl
 unfold mi;rw[hk,hm];unfold aU at h1 h2;rw[if_neg hn]at h1 h2;have T:∀l,vn (f 0)=aa l->Ff n f X l 1 (dw (xI (f 0))):=by
  intro l hl;rw[hl]at h1 h2;exact adK hf l 1 _ (arl hl) h1 h2
 have eq:∀{k:Int},(f 0==k)=af->f 0=k:=λh=>by simpa using h
 have ne:∀{k:Int},(f 0==k)=ah->f 0≠k:=λh=>by simpa using h
 refine aN (λe=>T _ (by rw[eq e];rfl)) (λe1=>aN (λe=>T _ (by rw[eq e];rfl)) (λe2=>aN (λe=>T _ (by rw[eq e];rfl)) (λe3=>aN (λe=>T _ (by rw[eq e];rfl)) (λe4=>aN (λe=>T _ (by rw[eq e];rfl)) (λe5=>aN (λe=>T _ (by rw[eq e];rfl)) (λe6=>
  aN (λe=>T _ (by rw[eq e];rfl)) (λe7=>aN (λe=>T _ (by rw[eq e];rfl)) (λe8=>aN (λe=>T _ (by rw[eq e];rfl)) (λe9=>aN (λe=>T _ (by rw[eq e];rfl)) (λVR=>aN (λe c u hc=>T _ (by rw[eq e];rfl)) (λe11=>?_)))))))))))
 refine h2 ?_;have:=ne e1;have:=ne e2;have:=ne e3;have:=ne e4;have:=ne e5;have:=ne e6;have:=ne e7;have:=ne e8;have:=ne e9;have:=ne VR;have:=ne e11
 have:vn (f 0)=ag:=by unfold vn;repeat' (rw[if_neg oM])
 rw[this]
def aro(P Q:Nat->Prop)(Z:Prop)(h0:P 0=Z)(h1:P 1=Q 1)(h2:P 2=Q 2)(h3:P 3=Q 3)(h4:P 4=Q 4)(h5:P 5=Q 5)(h6:P 6=Q 6)(h7:P 7=Q 7)(h8:P 8=Q 8)(h9:P 9=Q 9)(mR:P 10=Q 10)(oq:P 11=Q 11)(h12:P 12=Q 12)(VS:P 13=Q 13)(Ja:P 14=Q 14)(Fw:P 15=Q 15)(VT:P 16=Q 16)(h17:∀m,P (m+17)=Q (m+17))(n:Nat):(n=0/\P n=Z)\/(n≠0/\P n=Q n):=by
 rcases di n 17 with h|h
 ·have h:n=0\/n=1\/n=2\/n=3\/n=4\/n=5\/n=6\/n=7\/n=8\/n=9\/n=10\/n=11\/n=12\/n=13\/n=14\/n=15\/n=16:=oM;rcases h with rfl|rfl|rfl|rfl|rfl|rfl|rfl|rfl|rfl|rfl|rfl|rfl|rfl|rfl|rfl|rfl|rfl
  ·exact .inl ⟨rfl,h0⟩
  ·exact .inr ⟨dC,h1⟩
  ·exact .inr ⟨dC,h2⟩
  ·exact .inr ⟨dC,h3⟩
  ·exact .inr ⟨dC,h4⟩
  ·exact .inr ⟨dC,h5⟩
  ·exact .inr ⟨dC,h6⟩
  ·exact .inr ⟨dC,h7⟩
  ·exact .inr ⟨dC,h8⟩
  ·exact .inr ⟨dC,h9⟩
  ·exact .inr ⟨dC,mR⟩
  ·exact .inr ⟨dC,oq⟩
  ·exact .inr ⟨dC,h12⟩
  ·exact .inr ⟨dC,VS⟩
  ·exact .inr ⟨dC,Ja⟩
  ·exact .inr ⟨dC,Fw⟩
  ·exact .inr ⟨dC,VT⟩
 ·obtain⟨m,rfl⟩:∃m,n=m+17:=⟨n-17,oM⟩;exact .inr ⟨oM,h17 m⟩
def arp(e:Nat){f:Nat->Int}(hf:By f)(t:List aj){X:V->Prop}(n:Nat)(h1:∀r,aU n f=aa r->X (.aD [.agg (dw r),.int .i64 0]))(h2:aU n f=ag->X qe):lG n e f t X:=by
 rcases aro (λn=>lG n e f t X) (λn=>mi n f X) (X qe) (aq3 e f t X) (aq4 e f t X) (aq5 e f t X) (aq6 e f t X) (aq7 e f t X) (aq8 e f t X) (aq9 e f t X) (aq_ e f t X) (ara e f t X) (arb e f t X) (arc e f t X) (ard e f t X) (are e f t X) (arf e f t X) (arh e f t X) (ari e f t X) (arj e f t X) (ark e f t X) n with⟨h0,h⟩|⟨h0,h⟩
 ·exact Eq.mpr h (h2 (by rw[h0];rfl))
 ·exact Eq.mpr h (arn hf h0 h1 h2)
def qj(n:Nat)(f:Nat->Int):V:=match aU n f with
 |some r=>.aD [.agg (dw r),.int .i64 0]
 |none=>qe
def N1:aK du nk Fv:=aK.cons ⟨aq2 nk,λe=>by cases e⟩ (kG (bW.cons (aom nk) (bW.cons (aon nk) bW.nil)))
def arq(b n c:Nat)(f:Nat->Int)(t:List aj)(hf:By f)(hc:n<=c)(w:an)(hB:w.heap[b]?=aa (.cells ((bg n).map (λj=>fI .u8 (f j))++t).toArray 5 (0,0))):
 ba du 120 #[.slice (aa ⟨b,0,ag⟩) n c] w λv w1=>v=den [] (qj n f)/\Ch [] w w1:=by
 obtain⟨e,rfl⟩:∃e,c=e+n:=⟨c-n,oM⟩;have cT:lG n e f t (λv=>v=qj n f):=arp e hf t n (λr h=>by unfold qj;rw[h]) (λh=>by unfold qj;rw[h]);have S0:=St.given (w:=w) [(b,.cells ((bg n).map (λj=>fI .u8 (f j))++t).toArray 5 (0,0))] (all_cons hB all_nil);have S1:St [] w (lits [b] [b] [⟨ah,⟨5,(0,0)⟩,[.cu .u8 n f,.rest t]⟩]++ax ([]:List Empty) []) w:=by
  simpa[lits,aI,ao,cl,ax]using S0
 refine(eO N1.TS N1.QS 90 (C:=tQ du nk Fv) (ak:=[.sl 0 0 n (e+n)]) (λg i h=>by cases h) rfl S1 cT).mono ?_;rintro v w' ⟨x,aq,b9,ce,rfl,qg,S2,rfl⟩;refine⟨?_,S2.ch⟩;have hw:dg 0 (qj n f)=af:=by unfold qj;split<;>rfl
 have:=gX (ae:=[]) (aq:=[b]++aq) (qj n f) hw;simpa using this
variable{fr:aQ->Nat×az}
def qX(s:ai)(E:aT):ai:={s with c:={s.c with doors:=r3 (s.c.doors 0) (s.c.doors 1) (s.c.doors 2) s.c.doors,ay:=⟨E.dv,r3 (E.aE 0) (E.aE 1) (E.aE 2) s.c.ay.aE⟩}}
def kW(s:ai)(t:aT):ai:={s with c:={s.c with ay:=t}}
def Jb{s:ai}{E t:aT}(h1:E.dv=t.dv)(h2:∀j,j<3->E.aE j=t.aE j)(h3:∀j,t.aE (j+3)=s.c.ay.aE (j+3)):qX s E=kW s t:=by
 unfold qX kW;rw[NB,h1];have e:r3 (E.aE 0) (E.aE 1) (E.aE 2) s.c.ay.aE=t.aE:=by
  funext j
  match j with
  |0=>exact h2 0 dC
  |1=>exact h2 1 dC
  |2=>exact h2 2 dC
  |j+3=>exact(h3 j).symm
 rw[e]
def ars(s:ai)(l:Int):qX s ((eA s.c.ay).end_ l)=kW s (s.c.ay.end_ l):=by
 have key:∀l:Int,l=1\/l=2\/l=3->(s.c.ay.iZ l=af)->qX s ((eA s.c.ay).ia (l.toNat-1) .zero)=kW s (s.c.ay.ia (l.toNat-1) .zero):=by
  intro l hl km;refine Jb rfl ?_ ?_
  ·intro j hj;have:j=0\/j=1\/j=2:=oM;rcases hl with rfl|rfl|rfl<;>rcases this with rfl|rfl|rfl<;>rfl
  ·intro j;rcases hl with rfl|rfl|rfl<;>rfl
 unfold aT.end_;rw[I4];by_cases h:s.c.ay.iZ l=af
 ·rw[if_pos h,if_pos h];refine key l ?_ h;unfold aT.iZ at h;simp only[bJ,decide_eq_true_eq]at h;omega
 ·rw[if_neg h,if_neg h];refine Jb rfl ?_ (λj=>rfl);intro j hj;have:j=0\/j=1\/j=2:=oM;rcases this with rfl|rfl|rfl<;>rfl
section
variable(C:aM)(k:LK)(s:ai)(F:bx fr (bd k s))(Kb:SK fr k)
def art(l:Int)(m:ca):bz (bU du gS (L5 fr C)) 60 131 [.ptr 2 0,.int .i64 l,.agg (dw m)] (bP k s F) [bj k s F] (cX k s Kb)
 =(True/\cF k s F/\vh C [.int .i64 l] k (qX s ((eA s.c.ay).end_ l)) F λv s2 F2=>cF k s2 F2/\jm C [.int .i64 4,.int .i64 l,.int .i64 m.seq,.int .i64 0,.int .i64 0] k (bV s2) F2 λv s3 F3=>
  cF k s3 F3/\oX [.int .i64 l,.int .i64 m.seq] k (bV s3) F3 λv s' F'=>cX k s Kb (.aD []) (bP k s' F'++[⟨af,⟨204,(0,0)⟩,dw m⟩]) [bj k s' F']):=kR
abbrev gJ(s:ai)(l:Int)(m:ca):Int:=oK s.c.p s.c.t l ((eA s.c.ay).role l) s.c.mode m
def VU(s:ai)(l:Int)(m:ca):ai:={s with c:={s.c with mode:=m.mode,gW:=⟨1,l,m.seq⟩}}
def C6(s:ai)(c:Int)(x:X4)(b:Label):ai:={s with c:={s.c with pt:=s.c.pt.set s.c.p c x b}}
def aru(l:Int)(m:ca):bz (bU du gS (L5 fr C)) 60 137 [.ptr 2 0,.int .i64 l,.agg (dw m)] (bP k s F) [bj k s F] (cX k s Kb)
 =(True/\((m.kind=10\/m.kind=11)/\(g_ k).c=(g_ k).c)/\cond (gJ s l m !=0)
  (cF k s F/\nz C [.int .i64 l,.int .i64 m.seq,.int .i64 (gJ s l m)] k (bV s) F λv s' F'=>cX k s Kb (.aD []) (bP k s' F'++[⟨af,⟨204,(0,0)⟩,dw m⟩]) [bj k s' F'])
  (cond (m.kind==10)
   (cF k (VU s l m) F/\jm C [.int .i64 6,.int .i64 l,.int .i64 m.seq,.int .i64 0,.int .i64 0] k (bV (VU s l m)) F λv s3 F3=>cF k s3 F3/\oX [.int .i64 l,.int .i64 m.seq] k (bV s3) F3 λv s' F'=>cX k s Kb (.aD []) (bP k s' F'++[⟨af,⟨204,(0,0)⟩,dw m⟩,⟨af,⟨41,(0,0)⟩,oe ⟨1,l,m.seq⟩⟩]) [bj k s' F'])
   (fL s.c.p/\cF k (C6 s m.cls m.x ⟨1,l,m.seq⟩) F/\jm C [.int .i64 6,.int .i64 l,.int .i64 m.seq,.int .i64 0,.int .i64 0] k (bV (C6 s m.cls m.x ⟨1,l,m.seq⟩)) F λv s3 F3=>cF k s3 F3/\oX [.int .i64 l,.int .i64 m.seq] k (bV s3) F3 λv s' F'=>cX k s Kb (.aD []) (bP k s' F'++[⟨af,⟨204,(0,0)⟩,dw m⟩,⟨af,⟨41,(0,0)⟩,oe ⟨1,l,m.seq⟩⟩]) [bj k s' F']))):=kR
def arv:bz (bU du gS (L5 fr C)) 60 98 [.ptr 2 0] (bP k s F) [bj k s F] (cX k s Kb)
 =((vq k=vq k/\cq s.c.t.au)/\∀B(hB:QS k.bq k.most (dM s.c.t s.c.q 0).2.2 B),
  cond ((dM s.c.t s.c.q 0).2.1!=0) (cF k (cO s (dM s.c.t s.c.q 0).2.2) (F.cO (dM s.c.t s.c.q 0).2.2 B hB)/\jm C [.int .i64 7,.int .i64 0,.int .i64 s.c.samples,.int .i64 (dM s.c.t s.c.q 0).2.1,.int .i64 0] k (bV (cO s (dM s.c.t s.c.q 0).2.2)) (F.cO (dM s.c.t s.c.q 0).2.2 B hB) λv s' F'=>cX k s Kb (.aD []) (bP k s' F'++[⟨af,⟨121,(0,0)⟩,dA (dM s.c.t s.c.q 0).1⟩]) [bj k s' F'])
  (cF k (cO s (dM s.c.t s.c.q 0).2.2) (F.cO (dM s.c.t s.c.q 0).2.2 B hB)/\sJ C [.agg (dA (dM s.c.t s.c.q 0).1),.int .i64 2,.int .i64 s.c.samples] k (bV (cO s (dM s.c.t s.c.q 0).2.2)) (F.cO (dM s.c.t s.c.q 0).2.2 B hB) λv s' F'=>cX k s Kb (.aD []) (bP k s' F'++[⟨af,⟨121,(0,0)⟩,dA (dM s.c.t s.c.q 0).1⟩]) [bj k s' F'])):=kR
def arw:bz (bU du gS (L5 fr C)) 60 100 [.ptr 2 0] (bP k s F) [bj k s F] (cX k s Kb)
 =(cq s.c.t.au/\cond ((s.c.t.dT 0).2!=0) (cF k s F/\jm C [.int .i64 7,.int .i64 0,.int .i64 s.c.samples,.int .i64 (s.c.t.dT 0).2,.int .i64 0] k (bV s) F λv s' F'=>cX k s Kb (.aD []) (bP k s' F'++[⟨af,⟨121,(0,0)⟩,dA (s.c.t.dT 0).1⟩]) [bj k s' F'])
  (cF k s F/\sJ C [.agg (dA (s.c.t.dT 0).1),.int .i64 4,.int .i64 s.c.samples] k (bV s) F λv s' F'=>cX k s Kb (.aD []) (bP k s' F'++[⟨af,⟨121,(0,0)⟩,dA (s.c.t.dT 0).1⟩]) [bj k s' F'])):=kR
def Fx(s:ai):ca:=⟨11,0,0,0,s.c.t.au,0,1,ah,⟨0,0,0,0⟩⟩
def arx(x:fK):bz (bU du gS (L5 fr C)) 60 99 [.ptr 2 0,.agg (qU x)] (bP k s F) [bj k s F] (cX k s Kb)
 =((((11:Int)=10\/(11:Int)=11)/\(g_ k).c=(g_ k).c)/\cond (oK s.c.p s.c.t 0 0 s.c.mode (Fx s)!=0)
  (cF k s F/\jm C [.int .i64 7,.int .i64 0,.int .i64 s.c.samples,.int .i64 (oK s.c.p s.c.t 0 0 s.c.mode (Fx s)),.int .i64 0] k (bV s) F λv s' F'=>cX k s Kb (.aD []) (bP k s' F'++[⟨af,⟨36,(0,0)⟩,qU x⟩,⟨af,⟨204,(0,0)⟩,dw (Fx s)⟩]) [bj k s' F'])
  (fL s.c.p/\cF k (C6 s 1 x.x ⟨1,0,s.c.samples⟩) F/\jm C [.int .i64 6,.int .i64 0,.int .i64 s.c.samples,.int .i64 0,.int .i64 0] k (bV (C6 s 1 x.x ⟨1,0,s.c.samples⟩)) F λv s' F'=>cX k s Kb (.aD []) (bP k s' F'++[⟨af,⟨36,(0,0)⟩,qU x⟩,⟨af,⟨204,(0,0)⟩,dw (Fx s)⟩,⟨af,⟨41,(0,0)⟩,oe ⟨1,0,s.c.samples⟩⟩]) [bj k s' F'])):=kR
end
def VV(C:aM)(s:ai)(l:Int):s.leave C l=if(s.c.t.drop l).2=ah then qd s l else((gP (qd s l) (s.c.t.drop l).1).gone (s.c.t.drop l).1.aS l 16).record C 12 l 0 16 0:=rfl
def N2(C:aM)(s:ai)(l:Int):(s.leave C l).c.p=s.c.p:=by
 rw[VV];split
 ·rfl
 ·show(ai.gone _ _ _ _).c.p=_;rw[mg];rfl
def Rm.leave{C:aM}{s:ai}{l:Int}{m:Nat}(h:Rm s (m+2)):Rm (s.leave C l) m:=by
 rw[VV];have h1:Rm (qd s l) (m+2):=h;split
 ·exact h1.le oM
 ·have h2:Rm (gP (qd s l) (s.c.t.drop l).1) (m+2):=h;exact(h2.gone).rec
def ary(p:aX)(t:Sd.Tok)(a r mo:Int)(m:ca):N8 (oK p t a r mo m):=by have:=Sd.Uj p t a r mo m;exact⟨oM,oM⟩
def Jc(C:aM):SM fr:=λar k s F K=>match ar with
 |[.int .i64 l,.agg ml]=>(match Fc ml with
  |some m=>(Sy s l m/\(m.kind=10\/m.kind=11))/\∀F',K (.aD []) (s.command C l m) F'
  |none=>False)
 |_=>False
def C7(C:aM)(s:ai):ai:=if(dM s.c.t s.c.q 0).2.1≠0 then s.record C 7 0 s.c.samples (dM s.c.t s.c.q 0).2.1 0 else(cO s (dM s.c.t s.c.q 0).2.2).goes C (dM s.c.t s.c.q 0).1 2 s.c.samples
def C8(C:aM)(s:ai):ai:=if(s.c.t.dT 0).2≠0 then s.record C 7 0 s.c.samples (s.c.t.dT 0).2 0 else s.goes C (s.c.t.dT 0).1 4 s.c.samples
def C9(C:aM)(s:ai)(x:X4):ai:=if oK s.c.p s.c.t 0 0 s.c.mode (Fx s)≠0 then s.record C 7 0 s.c.samples (oK s.c.p s.c.t 0 0 s.c.mode (Fx s)) 0 else(C6 s 1 x ⟨1,0,s.c.samples⟩).record C 6 0 s.c.samples 0 0
structure Jd(s:ai):Prop where
 r:Rm s 8
 p:fL s.c.p
 t:TB s.c.t
def wJ(act:ai->ai):SM fr:=λar k s F K=>match ar with
 |[]=>Jd s/\∀F',K (.aD []) (act s) F'
 |_=>False
def Je(act:ai->fK->ai):SM fr:=λar k s F K=>match ar with
 |[.agg xl]=>(match Fe xl with
  |some x=>Jd s/\∀F',K (.aD []) (act s x) F'
  |none=>False)
 |_=>False
section
variable(tk:Nat->az->Option ca)(ht:Body (fr:=fr) 124 dE)
include tk ht
def arz:Body (fr:=fr) 131 (kr λs l m=>s.BS (aO tk) l m):=by
 refine C4 (tk:=tk) (n:=60) (Fu tk ht) ?_;intro l m k s F Kb hq hS hK;have h1:Rm (kW s (s.c.ay.end_ l)) 8:=hS.r;rw[art];refine⟨trivial,cV hq,yR (M:=λs F=>vh (aO tk) [.int .i64 l] k s F _) (ars s l) F ⟨⟨h1.le dC,by have:=hS.l1;omega,by have:=hS.l3;omega⟩,λF2=>⟨cV ?_,nA (h1.leave).r1 λF3=>⟨cV ?_,wH ⟨((h1.leave).rec).le dC,hS.n⟩ λF4=>eW rfl hK F4 (hp:=?_)⟩⟩⟩⟩
 ·rw[N2];exact hq
 ·show(ai.leave _ _ _).c.p.queue=_;rw[N2];exact hq
 ·show(ai.leave _ _ _).c.p=_;rw[N2]
def arA:Body (fr:=fr) 137 (Jc (aO tk)):=by
 refine mQ (n:=60) (Fu tk ht) ?_;intro ar k s F Kb h0 hq hM;unfold Jc at hM;split at hM
 ·rename_i l ml;split at hM
  ·rename_i m hm;obtain rfl:=Nn hm;have hS:=hM.1.1;have hk:=hM.1.2;have hK:=hM.2;have hj:gJ s l m=oK s.c.p s.c.t l (s.c.ay.role l) s.c.mode m:=by rw[gJ,ap0]
   have hb:=ary s.c.p s.c.t l (s.c.ay.role l) s.c.mode m;have h1:Rm (VU s l m) 8:=hS.r;have h2:Rm (C6 s m.cls m.x ⟨1,l,m.seq⟩) 8:=hS.r;rw[aru,hj];refine⟨trivial,⟨hk,rfl⟩,aN (λe=>⟨cV hq,AX ⟨hS.r.le dC,hS.n,hb⟩ λF1=>eW (if_pos (sL e)).symm hK F1⟩) (λe=>aN (λe2=>?_) (λe2=>?_))⟩
   ·refine⟨cV hq,nA h1.r1 λF2=>⟨cV hq,wH ⟨h1.rec.le dC,hS.n⟩ λF3=>eW ?_ hK F3⟩⟩;have e3:m.kind=10:=by simpa using e2
    refine Eq.trans ?_ (if_neg (vj e)).symm;rw[if_pos e3];rfl
   ·refine⟨hS.i.p,cV hq,nA h2.r1 λF2=>⟨cV hq,wH ⟨h2.rec.le dC,hS.n⟩ λF3=>eW ?_ hK F3⟩⟩;have e3:¬m.kind=10:=by simpa using e2
    refine Eq.trans ?_ (if_neg (vj e)).symm;rw[if_neg e3];rfl
  ·exact hM.elim
 ·exact hM.elim
def arB:Body (fr:=fr) 98 (wJ (C7 (aO tk))):=by
 refine mQ (n:=60) (Fu tk ht) ?_;intro ar k s F Kb h0 hq hM;unfold wJ at hM;split at hM
 ·have hS:=hM.1;have hK:=hM.2;have hb:=ady hS.t s.c.q 0;have h1:Rm (cO s (dM s.c.t s.c.q 0).2.2) 8:=hS.r;rw[arv];refine⟨⟨rfl,hS.t.b⟩,λB hB=>aN (λe=>⟨cV hq,nA h1.r1 λF1=>eW ?_ hK F1⟩) (λe=>⟨cV hq,C1 ⟨h1.le dC,hb.1.h,hb.1.e⟩ λF2=>eW (if_neg (vj e)).symm hK F2 (hp:=qi _ _ _ _ _)⟩)⟩;rw[NW (adz (sL e))];exact(if_pos (sL e)).symm
 ·exact hM.elim
def arC:Body (fr:=fr) 100 (wJ (C8 (aO tk))):=by
 refine mQ (n:=60) (Fu tk ht) ?_;intro ar k s F Kb h0 hq hM;unfold wJ at hM;split at hM
 ·have hS:=hM.1;have hK:=hM.2;have hb:=C3 hS.t 0;rw[arw];exact⟨hS.t.b,aN (λe=>⟨cV hq,nA hS.r.r1 λF1=>eW (if_pos (sL e)).symm hK F1⟩) (λe=>⟨cV hq,C1 ⟨hS.r.le dC,hb.1.h,hb.1.e⟩ λF2=>eW (if_neg (vj e)).symm hK F2 (hp:=qi _ _ _ _ _)⟩)⟩
 ·exact hM.elim
def arD:Body (fr:=fr) 99 (Je λs x=>C9 (aO tk) s x.x):=by
 refine mQ (n:=60) (Fu tk ht) ?_;intro ar k s F Kb h0 hq hM;unfold Je at hM;split at hM
 ·rename_i xl;split at hM
  ·rename_i x hx;obtain rfl:=No hx;have hS:=hM.1;have hK:=hM.2;have h2:Rm (C6 s 1 x.x ⟨1,0,s.c.samples⟩) 8:=hS.r;rw[arx];exact⟨⟨.inr rfl,rfl⟩,aN (λe=>⟨cV hq,nA hS.r.r1 λF1=>eW (if_pos (sL e)).symm hK F1⟩) (λe=>⟨hS.p,cV hq,nA h2.r1 λF2=>eW (if_neg (vj e)).symm hK F2⟩)⟩
  ·exact hM.elim
 ·exact hM.elim
end
def L6(fr:aQ->Nat×az)(C:aM):List (bT (Gh fr)):=⟨98,ah,gO (wJ (C7 C))⟩::⟨100,ah,gO (wJ (C8 C))⟩::⟨99,ah,gO (Je λs x=>C9 C s x.x)⟩::L5 fr C
def adL(tk:Nat->az->Option ca)(ht:Body (fr:=fr) 124 dE):aK du gS (L6 fr (aO tk)):=
 aK.cons (iH (arB tk ht)) (aK.cons (iH (arC tk ht)) (aK.cons (iH (arD tk ht)) (Fu tk ht)))
def N3(s:ai)(n:Int):ai:={s with c:={s.c with beyond:=n}}
def AY(s:ai)(x:fK):ai:={s with c:={s.c with samples:=sat s.c.samples 4294967295,beyond:=(iE s.c.p s.c.beyond x).1}}
def N5(s:ai):aT:={eA s.c.ay with dv:=(af,.start s.c.p.da)}
def yW(s:ai)(x:fK):ai:=kW (AY s x) (s.c.ay.iK s.c.p)
section
variable(C:aM)(k:LK)(s:ai)(F:bx fr (bd k s))(Kb:SK fr k)
def N6(x:fK):Prop:=cond (s.c.t.aS==0)
 (cF k (AY s x) F/\Je (λs x=>C9 C s x.x) [.agg (qU x)] k (qX (AY s x) (N5 s)) F λv s' F'=>cX k s Kb (.aD []) (bP k s' F'++[⟨af,⟨36,(0,0)⟩,qU x⟩]) [bj k s' F'])
 (cond (iE s.c.p s.c.beyond x).2 (cF k (AY s x) F/\wJ (C8 C) [] k (qX (AY s x) (N5 s)) F λv s' F'=>cX k s Kb (.aD []) (bP k s' F'++[⟨af,⟨36,(0,0)⟩,qU x⟩]) [bj k s' F'])
  (cX k s Kb (.aD []) (bP k (yW s x) F++[⟨af,⟨36,(0,0)⟩,qU x⟩]) [bj k (yW s x) F]))
def arE(x:fK):bz (bU du gS (L6 fr C)) 60 78 [.ptr 2 0,.agg (qU x)] (bP k s F) [bj k s F] (cX k s Kb)
 =cond (!x.valid) (cX k s Kb (.aD []) (bP k (N3 s 0) F++[⟨af,⟨36,(0,0)⟩,qU x⟩]) [bj k (N3 s 0) F])
  ((cq s.c.samples/\cq 4294967295)/\(0<=s.c.p.da/\s.c.p.da<=1000)/\(fL s.c.p/\cq s.c.beyond)/\
    cond (s.c.t.aS==0) (cond x.qG (cF k (AY s x) F/\wJ (C7 C) [] k (qX (AY s x) (N5 s)) F λv s' F'=>cX k s Kb (.aD []) (bP k s' F'++[⟨af,⟨36,(0,0)⟩,qU x⟩]) [bj k s' F']) (N6 C k s F Kb x)) (N6 C k s F Kb x)):=kR
end
def VW(s:ai)(x:fK):qX (AY s x) (N5 s)=yW s x:=by
 refine Jb rfl ?_ (λj=>rfl);intro j hj;have:j=0\/j=1\/j=2:=oM;rcases this with rfl|rfl|rfl<;>rfl
def Fy(C:aM):SM fr:=λar k s F K=>match ar with
 |[.agg xl]=>(match Fe xl with
  |some x=>(Jd s/\cq s.c.samples/\cq s.c.beyond)/\∀F',K (.aD []) (s.iK C x) F'
  |none=>False)
 |_=>False
section
variable{k:LK}{s:ai}{K:SK fr k}
end
def arF(C:aM)(s:ai)(x:fK)(h:x.valid=ah):s.iK C x=N3 s 0:=if_pos h
def N7(C:aM)(s:ai)(x:fK)(h:¬x.valid=ah):s.iK C x=if s.c.t.aS=0/\x.qG=af then C7 C (yW s x)else if s.c.t.aS=0 then C9 C (yW s x) x.x else if(iE s.c.p s.c.beyond x).2=af then C8 C (yW s x)else yW s x:=if_neg h
section
variable(tk:Nat->az->Option ca)(ht:Body (fr:=fr) 124 dE)
def arG(C:aM)(s:ai):(C7 C s).c.p=s.c.p:=by
 unfold C7;split
 ·rfl
 ·rw[qi];rfl
def arH(C:aM)(s:ai):(C8 C s).c.p=s.c.p:=by
 unfold C8;split
 ·rfl
 ·rw[qi]
def arI(C:aM)(s:ai)(x:X4):(C9 C s x).c.p=s.c.p:=by
 unfold C9;split<;>rfl
include tk ht
def adM:Body (fr:=fr) 78 (Fy (aO tk)):=by
 refine mQ (n:=60) (adL tk ht) ?_;intro ar k s F Kb h0 hq hM;unfold Fy at hM;split at hM
 ·rename_i xl;split at hM
  ·rename_i x hx;obtain rfl:=No hx;have hS:=hM.1.1;have hK:=hM.2;have hT:Jd (yW s x):=⟨hS.r,hS.p,hS.t⟩;have hX:(x.valid≠ah)->¬(s.c.t.aS=0/\x.qG=af)->N6 (aO tk) k s F Kb x:=by
    intro hv hg;unfold N6;refine aN (λe=>⟨cV hq,?_⟩) (λe=>aN (λe2=>⟨cV hq,?_⟩) (λe2=>?_))
    ·have e1:s.c.t.aS=0:=by simpa using e
     refine yR (M:=λs F=>Je (λs x=>C9 (aO tk) s x.x) [.agg (qU x)] k s F _) (VW s x) F ⟨hT,λF1=>eW ?_ hK F1 (hp:=arI _ _ _)⟩;rw[N7 _ _ _ hv,if_neg hg,if_pos e1]
    ·have e1:¬s.c.t.aS=0:=by simpa using e
     refine yR (M:=λs F=>wJ (C8 (aO tk)) [] k s F _) (VW s x) F ⟨hT,λF1=>eW ?_ hK F1 (hp:=arH _ _)⟩;rw[N7 _ _ _ hv,if_neg hg,if_neg e1,if_pos e2]
    ·have e1:¬s.c.t.aS=0:=by simpa using e
     refine eW ?_ hK (show bx fr (bd k (yW s x))from F);rw[N7 _ _ _ hv,if_neg hg,if_neg e1,if_neg (by rw[e2];decide)]
   rw[arE];refine aN (λe=>eW ?_ hK (show bx fr (bd k (N3 s 0))from F)) (λe=>⟨⟨hM.1.2.1,dC,dC⟩,⟨by have:=hS.p.da.1;omega,hS.p.da.2⟩,⟨hS.p,hM.1.2.2⟩,?_⟩)
   ·rw[arF _ _ _ (by simpa using e)]
   ·have hv:x.valid≠ah:=by simpa using e
    refine aN (λe1=>aN (λe2=>⟨cV hq,?_⟩) (λe2=>hX hv (by rw[e2];simp))) (λe1=>hX hv ?_)
    ·refine yR (M:=λs F=>wJ (C7 (aO tk)) [] k s F _) (VW s x) F ⟨hT,λF1=>eW ?_ hK F1 (hp:=arG _ _)⟩;rw[N7 _ _ _ hv,if_pos ⟨by simpa using e1,e2⟩]
    ·have e3:¬s.c.t.aS=0:=by simpa using e1
     exact λh=>e3 h.1
  ·exact hM.elim
 ·exact hM.elim
end
def VY:QG:=⟨153,2,λak most q=>match ak with
 |[.agg [.fi p ka kn kc],.agg tl,.bool th]=>(match lD tl with|some t=>aa (cq t.au/\(cq t.la.n/\cq t.la.most)/\(1<=p.i 43/\p.i 43<=1000),.aD [.agg (dA (iD p t q th).1),.int .i64 (iD p t q th).2.1],(iD p t q th).2.2)|none=>ag)
 |_=>ag⟩
def arJ:VY.Ok:=by
 intro ak k q p v q' hv hm hp B hB bs ms w0 w S
 match ak,hv,hm with
 |a::b::c::l,hv,hm=>
  have ha:c=.raw (vq k):=by simpa[VY]using hv
  subst ha;replace hm:(match(generalizing:=false) a::b::l with
   |[.agg [.fi p ka kn kc],.agg tl,.bool th]=>(match lD tl with|some t=>aa (cq t.au/\(cq t.la.n/\cq t.la.most)/\(1<=p.i 43/\p.i 43<=1000),V.aD [.agg (dA (iD p t q th).1),.int .i64 (iD p t q th).2.1],(iD p t q th).2.2)|none=>ag)
   |_=>ag)=aa (p,v,q'):=hm
  split at hm
  ·rename_i p' ka kn kc tl th heq;obtain⟨rfl,h2⟩:=xf heq;obtain⟨rfl,rfl⟩:=xf h2;split at hm
   ·rename_i t ht;obtain rfl:=qc ht;simp only[a_,bI]at hm;obtain⟨rfl,rfl,rfl⟩:=hm;exact aqu hB p' ka kn kc th hp.1 hp.2.1 hp.2.2 S
   ·cases hm
  ·cases hm
def N9:QF:=⟨51,λak _=>match ak with
 |[]=>aa (True,.agg (oe pJ))
 |_=>ag⟩
def adN(gl:Nat->Option Nat):N9.Ok du gl:=by
 intro ak bl p_ v_ h hp ae w _ _;unfold N9 at h;dsimp only at h;split at h
 ·simp only[a_,bI]at h;obtain⟨rfl,rfl⟩:=h;exact told (aoz w)
 ·cases h
def L7(fr:aQ->Nat×az)(C:aM):List (bT (Gh fr)):=⟨153,ah,CZ VY⟩::qE (Gh fr) N9::L6 fr C
def adO(tk:Nat->az->Option ca)(ht:Body (fr:=fr) 124 dE):aK du gS (L7 fr (aO tk)):=
 aK.cons (NK arJ) (aK.cons (NM adN) (adL tk ht))
abbrev jn(s:ai):Sd.Tok×Int×List Sd.Ask:=iD s.c.p s.c.t s.c.q ((eA s.c.ay).on s.c.t.aS)
def arK(C:aM)(k:LK)(s:ai)(F:bx fr (bd k s))(Kb:SK fr k):bz (bU du gS (L7 fr C)) 60 111 [.ptr 2 0] (bP k s F) [bj k s F] (cX k s Kb)
 =(True/\(vq k=vq k/\(cq s.c.t.au/\(cq s.c.t.la.n/\cq s.c.t.la.most)/\(1<=s.c.p.i 43/\s.c.p.i 43<=1000)))/\∀B(hB:QS k.bq k.most (jn s).2.2 B),
  cond (decide ((jn s).2.1<=0)) (cX k s Kb (.aD []) (bP k (gP (cO s (jn s).2.2) (jn s).1) (F.cO (jn s).2.2 B hB)++[⟨af,⟨121,(0,0)⟩,dA (jn s).1⟩]) [bj k (gP (cO s (jn s).2.2) (jn s).1) (F.cO (jn s).2.2 B hB)])
  (cF k (cO s (jn s).2.2) (F.cO (jn s).2.2 B hB)/\sJ C [.agg (dA (jn s).1),.int .i64 (jn s).2.1,.int .i64 0] k (bV (cO s (jn s).2.2)) (F.cO (jn s).2.2 B hB) λv s2 F2=>
   cond ((jn s).2.1==5) (cF k s2 F2/\yU [.int .i64 s2.c.p.lost,.agg (oe ⟨3,4,0⟩)] k (bV s2) F2 λv s' F'=>cX k s Kb (.aD []) (bP k s' F'++[⟨af,⟨121,(0,0)⟩,dA (jn s).1⟩]) [bj k s' F'])
   (True/\cF k s2 F2/\yU [.int .i64 s2.c.p.safe,.agg (oe pJ)] k (bV s2) F2 λv s' F'=>cX k s Kb (.aD []) (bP k s' F'++[⟨af,⟨121,(0,0)⟩,dA (jn s).1⟩]) [bj k s' F']))):=kR
def arL{p:aX}{t:Sd.Tok}(h:TB t)(q:List Sd.Ask)(b:Bool):TB (iD p t q b).1:=by
 have h1:∀la,TB ({t with la:=la}:Sd.Tok):=λla=>⟨h.h,h.e⟩;unfold iD;split
 ·exact h1 _
 ·dsimp only;generalize (if t.la.most=0 then Sd.Timer.start p.dL else t.la).step=la;split
  ·exact h1 _
  ·split
   ·rename_i hs;refine⟨by simp[Sd.Tok.iB,Sd.Tok.pass,N4],?_⟩;have e1:=h.e.1;have e2:=h.e.2;simp only[Sd.Tok.iB,Sd.Tok.pass,wD,sat];split
    ·split<;>omega
    ·omega
   ·split
    ·exact(C3 (h1 _) 4).1
    ·exact(adx (h1 _) q).1
def arM{p:aX}{t:Sd.Tok}{q:List Sd.Ask}{b:Bool}(h:(iD p t q b).2.1<=0):(iD p t q b).2.2=q:=by
 unfold iD at h⊢;split
 ·rfl
 ·rename_i h0;rw[if_neg h0]at h;dsimp only at h⊢;revert h;generalize (if t.la.most=0 then Sd.Timer.start p.dL else t.la).step=la;intro h;split
  ·rfl
  ·rename_i h1;rw[if_neg h1]at h;split
   ·rfl
   ·rename_i h2;rw[if_neg h2]at h;split
    ·rename_i h3;rw[if_pos h3]at h;simp at h
    ·rename_i h3;rw[if_neg h3]at h;simp at h
structure VZ(s:ai):Prop where
 r:Rm s 8
 p:fL s.c.p
 t:TB s.c.t
 l1:cq s.c.t.la.n
 l2:cq s.c.t.la.most
def C_(C:aM):SM fr:=λar k s F K=>match ar with
 |[]=>VZ s/\∀F',K (.aD []) (s.dL C) F'
 |_=>False
def Jf(C:aM)(s:ai)(R:Sd.Tok×Int×List Sd.Ask)(h:R=iD s.c.p s.c.t s.c.q (s.c.ay.on s.c.t.aS)):s.dL C=if R.2.1<=0 then gP s R.1 else if R.2.1=5 then((cO s R.2.2).goes C R.1 R.2.1 0).eL ((cO s R.2.2).goes C R.1 R.2.1 0).c.p.lost ⟨3,4,0⟩else((cO s R.2.2).goes C R.1 R.2.1 0).eL ((cO s R.2.2).goes C R.1 R.2.1 0).c.p.safe pJ:=by subst h;rfl
def N_(C:aM)(s:ai)(t:Sd.Tok)(h n m:Int)(b:Label):((s.goes C t h n).eL m b).c.p=s.c.p:=qi C s t h n
def arN(tk:Nat->az->Option ca)(ht:Body (fr:=fr) 124 dE):Body (fr:=fr) 111 (C_ (aO tk)):=by
 refine mQ (n:=60) (adO tk ht) ?_;intro ar k s F Kb h0 hq hM;unfold C_ at hM;split at hM
 ·have hS:=hM.1;have hK:=hM.2;have hr:jn s=iD s.c.p s.c.t s.c.q (s.c.ay.on s.c.t.aS):=by rw[jn,Vu]
  have hb:=arL (p:=s.c.p) hS.t s.c.q ((eA s.c.ay).on s.c.t.aS);have h1:Rm (cO s (jn s).2.2) 8:=hS.r;rw[arK];refine⟨trivial,⟨rfl,hS.t.b,⟨hS.l1,hS.l2⟩,hS.p.dL⟩,λB hB=>aN (λe=>?_) (λe=>⟨cV hq,C1 ⟨h1.le dC,hb.h,hb.e⟩ λF2=>aN (λe2=>⟨cV ?_,VC λF3=>eW ?_ hK F3 (hp:=N_ _ _ _ _ _ _ _)⟩) (λe2=>⟨trivial,cV ?_,VC λF3=>eW ?_ hK F3 (hp:=N_ _ _ _ _ _ _ _)⟩)⟩)⟩
  ·have e1:(jn s).2.1<=0:=by simpa using e
   refine eW (s':=gP (cO s (jn s).2.2) (jn s).1) ?_ hK (F.cO (jn s).2.2 B hB);rw[Jf _ _ _ hr,if_pos e1,NW (arM e1)]
  ·rw[qi];exact hq
  ·have e1:¬(jn s).2.1<=0:=by simpa using e
   have e3:(jn s).2.1=5:=by simpa using e2
   rw[Jf _ _ _ hr,if_neg e1,if_pos e3]
  ·rw[qi];exact hq
  ·have e1:¬(jn s).2.1<=0:=by simpa using e
   have e3:¬(jn s).2.1=5:=by simpa using e2
   rw[Jf _ _ _ hr,if_neg e1,if_neg e3]
 ·exact hM.elim
def Jg:List Sd.Ask->List V
 |[]=>[]
 |a::l=>.int .i64 a.source::.int .i64 a.cd::.int .i64 a.dJ.n::.int .i64 a.dJ.most::Jg l
def mn(l:List Sd.Ask)(t:List aj):VB:=⟨af,⟨147,(0,0)⟩,Jg l++[.rest t]⟩
def V0(ae:List Nat):∀l:List Sd.Ask,ao ae (Jg l)=sE l
 |[]=>rfl
 |a::l=>by
  have h:=V0 ae l;simp only[Jg,ao,cl,den,h];rfl
def V1:dm (Gh fr):=λak bl ch K=>match ak,ch with
 |[.raw vp],g::rest=>cond (bY bl.length bl) (vp=vq g.d.k/\(g.d.q=[]->∀x c,K (.raw (.slice x 0 c)) bl (g::rest))/\(∀a,g.d.q=[a]->∀c t,K (.sl bl.length 0 1 c) (bl++[mn [a] t]) (g::rest))/\
  (∀a b,g.d.q=[a,b]->∀c t,K (.sl bl.length 0 2 c) (bl++[mn [a,b] t]) (g::rest))/\(∀a b d,g.d.q=[a,b,d]->∀c t,K (.sl bl.length 0 3 c) (bl++[mn [a,b,d] t]) (g::rest))) False
 |_,_=>False
def adP{bq:Nat}{most:Int}{L:List Sd.Ask}{B:List av}(h:QS bq most L B):L.length<=3:=by
 obtain⟨es,_,_,_,_,_,_,hH,rfl⟩:=h
 match es,hH with
 |[],_=>simp[cI]
 |[e0],_=>simp[cI]
 |[e0,e1],_=>simp only[cI];repeat' split
             all_goals simp
 |[e0,e1,e2],_=>simp only[cI];repeat' split
                all_goals simp
 |_::_::_::_::_,hH=>exact absurd hH (by simp[gd])
def arO(gl:Nat->Option Nat):Sound du gl 60 (V1 (fr:=fr)):=by
 intro ak ae bl ch R ms w0 w K hg hl S hc;unfold V1 at hc;split at hc
 ·rename_i vp g rest;cases hq:bY bl.length bl with
  |false=>rw[hq]at hc;exact hc.elim
  |true=>
   rw[hq]at hc;rw[<-hl]at hq;obtain⟨rfl,k0,k1,k2,k3⟩:=hc;have e0:ax (g::rest) R=g.F.B++ax rest R:=rfl;have S':=S;rw[e0,ua]at S;have hL:=apn g.F.hq (S.perm (C0 _ _ _ _ _ _ _));have ea:(aJ ae [.raw (vq g.d.k)]).toArray=#[.pointer (aa ⟨g.d.k.bq,0,ag⟩)]:=rfl;rw[ea];refine hL.mono ?_;rintro v w1 ⟨x,c1,rows,rfl,hr,S1⟩;have arP:=(S1.sub (kM rows _)).perm (C0 _ _ _ _ _ _ _).symm;have yY:∀(n:Nat),g.d.q.length=n+1->∃(b:Nat)(t:List aj),x=aa ⟨b,0,ag⟩/\((∀c t,K (.sl bl.length 0 (n+1) c) (bl++[mn g.d.q t]) (g::rest))->
    ∃(x':V)(aq:List Nat)(b9:List VB)(ce:List (Gh fr)),tj x g.d.q.length c1=den (ae++aq) x'/\(ae++aq).length=b9.length/\St ms w0 (lits (ae++aq) (ae++aq) b9++ax ce R) w1/\K x' b9 ce):=by
    intro n hn;rcases hr.2.2 with⟨_,h0,_⟩|⟨b,t,hx,arQ,_⟩
    ·omega
    ·refine⟨b,t,hx,λh=>?_⟩;refine⟨.sl bl.length 0 (n+1) c1,[b],bl++[mn g.d.q t],g::rest,?_,by simp[hl],?_,h c1 t⟩
     ·rw[hx,hn,<-hl];simp only[den,lY]
     ·have e1:lits (ae++[b]) (ae++[b]) (bl++[mn g.d.q t])=lits ae ae bl++rows:=by
       rw[fw _ _ _ _ hl,fy _ _ hq];have ed:(ao (ae++[b]) (Jg g.d.q++[.rest t])).toArray=(sE g.d.q++t).toArray:=by
        rw[kg,V0];simp[ao,cl]
       simp only[lits,aI,mn,ed];rw[arQ]
      rw[e1,e0,ua,bZ];refine S1.perm ?_;refine(j8 rows (C0 (lits ae ae bl) _ _ _ _ _ _).symm).trans ?_;exact rG _ _ _
   have dl:=adP g.F.hq;revert k0 k1 k2 k3 yY dl
   match g.d.q with
   |[]=>
    intro k0 k1 k2 k3 yY dl;refine⟨.raw (.slice x 0 c1),[],bl,g::rest,?_,by simpa using hl,?_,k0 rfl x c1⟩
    ·simp[den]
    ·simp only[cy];rw[e0,ua];exact arP
   |[a]=>intro k0 k1 k2 k3 yY dl;obtain⟨b,t,_,h⟩:=yY 0 rfl;exact h (k1 a rfl)
   |[a,b']=>intro k0 k1 k2 k3 yY dl;obtain⟨b,t,_,h⟩:=yY 1 rfl;exact h (k2 a b' rfl)
   |[a,b',d]=>intro k0 k1 k2 k3 yY dl;obtain⟨b,t,_,h⟩:=yY 2 rfl;exact h (k3 a b' d rfl)
   |a::b'::d::e::l=>intro k0 k1 k2 k3 yY dl;simp at dl
 ·exact hc.elim
def L8(fr:aQ->Nat×az)(C:aM):List (bT (Gh fr)):=⟨111,ah,gO (C_ C)⟩::⟨60,ah,V1⟩::L7 fr C
def Da(tk:Nat->az->Option ca)(ht:Body (fr:=fr) 124 dE):aK du gS (L8 fr (aO tk)):=
 aK.cons (iH (arN tk ht)) (aK.cons ⟨arO gS,λe=>by cases e⟩ (adO tk ht))
section
variable(C:aM)(k:LK)(s0:ai)(Kb:SK fr k)
def Fz:List Sd.Ask->(s:ai)->bx fr (bd k s)->List VB->Prop
 |[],s,F,j=>True/\cF k s F/\yU [.int .i64 s.c.p.safe,.agg (oe pJ)] k (bV s) F λv s' F'=>cX k s0 Kb (.aD []) (bP k s' F'++j) [bj k s' F']
 |a::l,s,F,j=>(vq k=vq k/\True)/\∀B(hB:QS k.bq k.most (Sd.Q.drop s.c.q a.source) B),cF k (qd s a.source) (F.cO (Sd.Q.drop s.c.q a.source) B hB)/\vg [.int .i64 a.source,.int .i64 4,.int .i64 29] k (bV (qd s a.source)) (F.cO (Sd.Q.drop s.c.q a.source) B hB) λv s2 F2=>Fz l s2 F2 (j++[⟨af,⟨147,(0,0)⟩,IN a⟩])
def V2(s:ai)(F:bx fr (bd k s))(j:List VB):Prop:=vq k=vq k/\(s.c.q=[]->∀(x:Option aF)(c:Nat),Fz k s0 Kb [] s F j)/\(∀a,s.c.q=[a]->∀(c:Nat)(t:List aj),Fz k s0 Kb [a] s F (j++[mn [a] t]))/\
 (∀a b,s.c.q=[a,b]->∀(c:Nat)(t:List aj),Fz k s0 Kb [a,b] s F (j++[mn [a,b] t]))/\(∀a b d,s.c.q=[a,b,d]->∀(c:Nat)(t:List aj),Fz k s0 Kb [a,b,d] s F (j++[mn [a,b,d] t]))
def qY(s:ai)(b:Bool):ai:=gP s {s.c.t with bad:=b}
def arR(s:ai)(F:bx fr (bd k s))(b:Bool):bz (bU du gS (L8 fr C)) 80 79 [.ptr 2 0,.bool b] (bP k s F) [bj k s F] (cX k s Kb)
 =cond (!b) (cX k s Kb (.aD []) (bP k (qY s b) F) [bj k (qY s b) F])
  (cq s.c.t.au/\cond (s.c.t.aS !=4)
   (cF k (qY s b) F/\sJ C [.agg (dA ({s.c.t with bad:=b}:Sd.Tok).iB),.int .i64 6,.int .i64 0] k (bV (qY s b)) F λv s2 F2=>V2 k s Kb s2 F2 [⟨af,⟨121,(0,0)⟩,dA ({s.c.t with bad:=b}:Sd.Tok).iB⟩])
   (V2 k s Kb (gP s ({s.c.t with bad:=b}:Sd.Tok).iB) F [⟨af,⟨121,(0,0)⟩,dA ({s.c.t with bad:=b}:Sd.Tok).iB⟩])):=kR
end
def ub(s:ai)(a:Sd.Ask):ai:=(qd s a.source).gone a.source 4 29
def adQ(s:ai)(a:Sd.Ask):(ub s a).c.p=s.c.p:=by unfold ub;rw[mg];rfl
def Rm.ub{s:ai}{a:Sd.Ask}{n:Nat}(h:Rm s (n+1)):Rm (ub s a) n:=by
 have h1:Rm (qd s a.source) (n+1):=h;exact h1.gone
def Jh{k:LK}{s0:ai}{Kb:SK fr k}:∀(l:List Sd.Ask)(s:ai)(F:bx fr (bd k s))(j:List VB),s.c.p=s0.c.p->s.c.p.queue=k.most->Rm s l.length->
 (∀F',Kb (.aD []) ((l.foldl ub s).eL (l.foldl ub s).c.p.safe pJ) F')->Fz k s0 Kb l s F j
 |[],s,F,j,hp,hq,hr,hK=>⟨trivial,cV hq,VC λF1=>eW (s':=s.eL s.c.p.safe pJ) rfl hK F1 (hp:=hp) (hb:=kR)⟩
 |a::l,s,F,j,hp,hq,hr,hK=>⟨⟨rfl,trivial⟩,λB hB=>⟨cV hq,I5 ⟨(show Rm (qd s a.source) (l.length+1)from hr).le oM,⟨dC,dC⟩,⟨dC,dC⟩⟩ λF2=>Jh l (ub s a) F2 _ (by rw[adQ];exact hp) (by rw[adQ];exact hq) hr.ub hK⟩⟩
def adR{k:LK}{s0:ai}{Kb:SK fr k}(s:ai)(F:bx fr (bd k s))(j:List VB)(hp:s.c.p=s0.c.p)(hq:s.c.p.queue=k.most)(hr:Rm s 3)
 (hK:∀F',Kb (.aD []) ((s.c.q.foldl ub s).eL (s.c.q.foldl ub s).c.p.safe pJ) F'):V2 k s0 Kb s F j:=by
 refine⟨rfl,λe x c=>?_,λa e c t=>?_,λa b e c t=>?_,λa b d e c t=>?_⟩
 ·rw[e]at hK;exact Jh [] s F _ hp hq (hr.le sP) hK
 ·rw[e]at hK;exact Jh [a] s F _ hp hq (hr.le sP) hK
 ·rw[e]at hK;exact Jh [a,b] s F _ hp hq (hr.le sP) hK
 ·rw[e]at hK;exact Jh [a,b,d] s F _ hp hq (hr.le sP) hK
def arS{t:Sd.Tok}(h:TB t):TB t.iB:=by
 have e1:=h.e.1;have e2:=h.e.2;refine⟨show(0:Int)<=4/\(4:Int)<=4 by decide,?_⟩;simp only[Sd.Tok.iB,Sd.Tok.pass,wD,sat];split
 ·split<;>omega
 ·omega
def FA(C:aM):SM fr:=λar k s F K=>match ar with
 |[.bool b]=>(Rm s 8/\TB s.c.t)/\∀F',K (.aD []) (s.lT C b) F'
 |_=>False
def cK(C:aM)(s:ai):ai:=if s.c.t.aS≠4 then s.goes C s.c.t.iB 6 0 else gP s s.c.t.iB
def arT(C:aM)(s:ai)(b:Bool)(h:b=ah):s.lT C b=qY s b:=if_pos h
def arU(C:aM)(s:ai)(b:Bool)(h:¬b=ah):s.lT C b=(((cK C (qY s b)).c.q.foldl ub (cK C (qY s b))).eL ((cK C (qY s b)).c.q.foldl ub (cK C (qY s b))).c.p.safe pJ):=if_neg h
def adS(tk:Nat->az->Option ca)(ht:Body (fr:=fr) 124 dE):Body (fr:=fr) 79 (FA (aO tk)):=by
 refine mQ (n:=80) (Da tk ht) ?_;intro ar k s F Kb h0 hq hM;unfold FA at hM;split at hM
 ·rename_i b;have hr:=hM.1.1;have hT:=hM.1.2;have hK:=hM.2;have h1:Rm (qY s b) 8:=hr;have hb:TB ({s.c.t with bad:=b}:Sd.Tok).iB:=arS ⟨hT.h,hT.e⟩;rw[arR];refine aN (λe=>eW ?_ hK (show bx fr (bd k (qY s b))from F)) (λe=>⟨hT.b,?_⟩)
  ·rw[arT _ _ _ (by simpa using e)]
  ·have iM:¬b=ah:=by simpa using e
   rw[arU _ _ _ iM]at hK;refine aN (λe1=>⟨cV hq,C1 ⟨h1.le dC,hb.h,hb.e⟩ λF2=>?_⟩) (λe1=>?_)
   ·have e2:cK (aO tk) (qY s b)=(qY s b).goes (aO tk) ({s.c.t with bad:=b}:Sd.Tok).iB 6 0:=if_pos (show s.c.t.aS≠4 by simpa using e1);rw[e2]at hK;exact adR _ F2 _ (qi _ _ _ _ _) (by rw[qi];exact hq) (h1.goes.le dC) hK
   ·have e2:cK (aO tk) (qY s b)=gP s ({s.c.t with bad:=b}:Sd.Tok).iB:=if_neg (show¬s.c.t.aS≠4 by simpa using e1);rw[e2]at hK;exact adR (gP s ({s.c.t with bad:=b}:Sd.Tok).iB) F _ rfl hq (hr.le dC) hK
 ·exact hM.elim
def arV{w:an}{n c b:Nat}{f:Nat->Int}{T:aP}(h:w.heap[b]?=aa (.cells (bM n f c) T (0,0))):cJ w b 0 n f:=by
 intro j hj;rw[cell_of h];simp only[bM,d_];rw[j7,gB (by rw[gD];exact hj)];simp[cQ,hj]
def Oa{w:an}{n c:Nat}{f:Nat->Int}{x:Option aF}{b:List av}(h:ff 5 n f x c b)(aV:∀y∈b,w.heap[y.id]?=aa y.obj)(h0:0<n)(hn:n<=1000000):ei w x n c f:=by
 obtain⟨b',h1,rfl,rfl⟩:=G9 h h0;exact ei.QY (arV (aV _ (jS.2 rfl))) hn h1
def adT{ms:List Nat}{w0 w:an}{A R:List av}{d:FD}(F:bx fr d)(S:St ms w0 (A++(F.B++R)) w)(i:Nat)(hi:i<4)(h0:0<d.k.kn i)(hn:d.k.kn i<=1000000):ei w (d.k.ka i) (d.k.kn i) (d.k.kc i) (d.k.kf i):=by
 obtain⟨b0,b1,b2,b3,b4,hB,k0,k1,k2,k3,k4⟩:=F.hk;have aV:∀y∈F.Bk,w.heap[y.id]?=aa y.obj:=λy hy=>S.at' (by rw[ua];simp[hy]);rw[hB]at aV;have:i=0\/i=1\/i=2\/i=3:=oM;rcases this with rfl|rfl|rfl|rfl
 ·exact Oa k0 (λy hy=>aV y (by simp[hy])) h0 hn
 ·exact Oa k1 (λy hy=>aV y (by simp[hy])) h0 hn
 ·exact Oa k2 (λy hy=>aV y (by simp[hy])) h0 hn
 ·exact Oa k3 (λy hy=>aV y (by simp[hy])) h0 hn
def adU{ae:List Nat}{bl:List VB}{k:LK}{A:List av}{ms:List Nat}{w0 w:an}(hg:Gl gS ae)(hl:ae.length=bl.length)(S:St ms w0 (lits ae ae bl++A) w)(h:bl[0]?=aa (cx k)):w.heap[0]?=aa (.cells (aH .u32 64 c9) k.tg (0,0)):=by
 have h1:=(gp hl S h).2;rw[(hg 0 0 rfl).2]at h1;have e:(ao ae (cx k).c).toArray=aH .u32 64 c9:=kR;rw[e]at h1;exact h1
def Ji:dm (Gh fr):=λak bl ch K=>match ak,ch with
 |[.agg [.int .i64 m,.bool o,.cu .u8 8 nc],.raw vk,.int .i64 s],g::rest=>
  (vk=.slice (g.d.k.ka 3) (g.d.k.kn 3) (g.d.k.kc 3)/\bl[0]?=aa (cx g.d.k)/\(0<=s/\s<4294967296)/\(0<=m/\m<=9223372036854775807)/\(1<=g.d.k.kn 3/\g.d.k.kn 3<=64))/\
  cond (decide (4294967295<=m)) (K (.aD [.agg [.int .i64 m,.bool o,.cu .u8 8 nc],.int .i64 24]) bl (g::rest)) (K (.aD [.agg [.int .i64 (m+1),.bool af,.cu .u8 8 (kH (g.d.k.kn 3) (g.d.k.kf 3) s (m+1))],.int .i64 0]) bl (g::rest))
 |_,_=>False
def arW:Sound du gS 123 (Ji (fr:=fr)):=by
 intro ak ae bl ch R ms w0 w K hg hl S hc;unfold Ji at hc;split at hc
 ·rename_i m o nc vk s g rest;obtain⟨⟨rfl,hr,hs,hm,hk⟩,hK⟩:=hc;have e0:ax (g::rest) R=g.F.B++ax rest R:=rfl;have S':=S;rw[e0]at S';have AZ:=adT g.F S' 3 dC oM oM;have lH:=adU hg hl S hr;by_cases h:4294967295<=m
  ·rw[show decide (4294967295<=m)=af by simp[h]]at hK;have hc:=am6 (g.d.k.ka 3) (g.d.k.kn 3) (g.d.k.kc 3) (g.d.k.kf 3) s ⟨m,o,nc⟩ h hm.2 w;have e:(aJ ae [.agg [.int .i64 m,.bool o,.cu .u8 8 nc],.raw (.slice (g.d.k.ka 3) (g.d.k.kn 3) (g.d.k.kc 3)),.int .i64 s]).toArray=#[.agg #[.int .i64 m,.bool o,.int .u8 (nc 0),.int .u8 (nc 1),.int .u8 (nc 2),.int .u8 (nc 3),.int .u8 (nc 4),.int .u8 (nc 5),.int .u8 (nc 6),.int .u8 (nc 7)],.slice (g.d.k.ka 3) (g.d.k.kn 3) (g.d.k.kc 3),.int .i64 s]:=kR;rw[e];refine hc.mono ?_;rintro v w1 ⟨rfl,cz⟩;exact⟨_,[],bl,g::rest,kR,by simpa using hl,by simpa using S.quiet cz,hK⟩
  ·rw[show decide (4294967295<=m)=ah by simp[h]]at hK;have hc:=am7 (g.d.k.ka 3) (g.d.k.kn 3) (g.d.k.kc 3) (g.d.k.kf 3) s ⟨m,o,nc⟩ hk hs ⟨hm.1,Int.not_le.1 h⟩ w lH AZ;have e:(aJ ae [.agg [.int .i64 m,.bool o,.cu .u8 8 nc],.raw (.slice (g.d.k.ka 3) (g.d.k.kn 3) (g.d.k.kc 3)),.int .i64 s]).toArray=#[.agg #[.int .i64 m,.bool o,.int .u8 (nc 0),.int .u8 (nc 1),.int .u8 (nc 2),.int .u8 (nc 3),.int .u8 (nc 4),.int .u8 (nc 5),.int .u8 (nc 6),.int .u8 (nc 7)],.slice (g.d.k.ka 3) (g.d.k.kn 3) (g.d.k.kc 3),.int .i64 s]:=kR;rw[e];refine hc.mono ?_;rintro v w1 ⟨rfl,cz⟩;exact⟨.aD [.agg [.int .i64 (m+1),.bool af,.cu .u8 8 (kH (g.d.k.kn 3) (g.d.k.kf 3) s (m+1))],.int .i64 0],[],bl,g::rest,kR,by simpa using hl,by simpa using S.quiet cz,hK⟩
 ·exact hc.elim
def fq(k:LK):aj:=.slice k.px k.pn k.pc
def Db(C:aM):dm (Gh fr):=λak bl ch K=>match ak,ch with
 |[.raw vp],g::rest=>(vp=fq g.d.k/\g.d.k.pn<=1000/\By g.d.k.pf)/\(∀m,C.take g.d.k.pn g.d.k.pf=aa m->K (.aD [.agg (dw m),.int .i64 0]) bl (g::rest))/\
  (C.take g.d.k.pn g.d.k.pf=ag->∀m c,c≠0->K (.aD [.agg (dw m),.int .i64 c]) bl (g::rest))
 |_,_=>False
def LH(fr:aQ->Nat×az)(C:aM):List (bT (Gh fr)):=⟨120,af,Db C⟩::⟨123,af,Ji⟩::L8 fr C
def A0(s:ai)(a b c:fg):ai:={s with c:={s.c with doors:=r3 a b c s.c.doors,ay:=⟨s.c.ay.dv,r3 (s.c.ay.aE 0) (s.c.ay.aE 1) (s.c.ay.aE 2) s.c.ay.aE⟩}}
def V3(d:fg):List V:=[.int .i64 d.many,.bool d.jG,.cu .u8 8 d.aR]
section
variable(C:aM)(k:LK)(s:ai)(F:bx fr (bd k s))(Kb:SK fr k)(l:Int)(d:fg)(D:fg->ai)
def yZ(k:LK)(l:Int)(d:fg):fg:=⟨d.many+1,af,kH (k.kn 3) (k.kf 3) l (d.many+1)⟩
def Ob(hD:∀e,bd k (D e)=bd k s)(m:ca)(c:Int):Prop:=cond (c !=0) (cF k s F/\sH C [.int .i64 l,.int .i64 13] k (bV s) F λv s' F'=>cX k s Kb (.aD []) (bP k s' F'++[⟨af,⟨204,(0,0)⟩,dw m⟩]) [bj k s' F'])
 (True/\cond (!(vV s.c.p l m.role)) (cF k s F/\nz C [.int .i64 l,.int .i64 0,.int .i64 18] k (bV s) F λv s' F'=>cX k s Kb (.aD []) (bP k s' F'++[⟨af,⟨204,(0,0)⟩,dw m⟩]) [bj k s' F'])
  ((tj (k.ka 3) (k.kn 3) (k.kc 3)=.slice (k.ka 3) (k.kn 3) (k.kc 3)/\aa (cx k)=aa (cx k)/\(0<=l/\l<4294967296)/\(0<=d.many/\d.many<=9223372036854775807)/\(1<=k.kn 3/\k.kn 3<=64))/\
    cond (decide (4294967295<=d.many)) (cF k s F/\nz C [.int .i64 l,.int .i64 0,.int .i64 24] k (bV s) F λv s' F'=>cX k s Kb (.aD []) (bP k s' F'++[⟨af,⟨204,(0,0)⟩,dw m⟩,⟨af,⟨128,(0,0)⟩,V3 d⟩]) [bj k s' F'])
    (cF k (D (yZ k l d)) (hD (yZ k l d)▸F)/\dE [.int .i64 l,.agg [.int .i64 129,.int .i64 0,.int .i64 0,.int .i64 0,.int .i64 0,.int .i64 0,.cu .u8 8 (yZ k l d).aR]] k (D (yZ k l d)) (hD (yZ k l d)▸F) λv s2 F2=>
     cF k s2 F2/\jm C [.int .i64 2,.int .i64 l,.int .i64 0,.int .i64 0,.int .i64 0] k (bV s2) F2 λv s' F'=>cX k s Kb (.aD []) (bP k s' F'++[⟨af,⟨204,(0,0)⟩,dw m⟩,⟨af,⟨128,(0,0)⟩,V3 (yZ k l d)⟩]) [bj k s' F'])))
end
def V4(fr:aQ->Nat×az)(C:aM)(l:Int)(i:Nat)(D:ai->fg->ai)(hD:∀k s e,bd k (D s e)=bd k s):Prop:=∀(k:LK)(s:ai)(F:bx fr (bd k s))(Kb:SK fr k),bz (bU du gS (LH fr C)) 90 91 [.ptr 2 0,.int .i64 l,.raw (fq k)] (bP k s F) [bj k s F] (cX k s Kb)
 =((fq k=fq k/\k.pn<=1000/\By k.pf)/\(∀m,C.take k.pn k.pf=aa m->Ob C k s F Kb l (s.c.doors i) (D s) (hD k s) m 0)/\(C.take k.pn k.pf=ag->∀m c,c≠0->Ob C k s F Kb l (s.c.doors i) (D s) (hD k s) m c))
def arX(fr:aQ->Nat×az)(C:aM):V4 fr C 1 0 (λs e=>A0 s e (s.c.doors 1) (s.c.doors 2)) (λ_ _ _=>rfl):=λk s F Kb=>kR
def arY(fr:aQ->Nat×az)(C:aM):V4 fr C 2 1 (λs e=>A0 s (s.c.doors 0) e (s.c.doors 2)) (λ_ _ _=>rfl):=λk s F Kb=>kR
def arZ(fr:aQ->Nat×az)(C:aM):V4 fr C 3 2 (λs e=>A0 s (s.c.doors 0) (s.c.doors 1) e) (λ_ _ _=>rfl):=λk s F Kb=>kR
def sR(s:ai)(i:Nat)(e:fg):ai:={s with c:={s.c with doors:=λj=>if j=i then e else s.c.doors j}}
def y9{s:ai}{a b c:fg}{i:Nat}{e:fg}(hi:i<3)(ha:a=if 0=i then e else s.c.doors 0)(hb:b=if 1=i then e else s.c.doors 1)(hc:c=if 2=i then e else s.c.doors 2):A0 s a b c=sR s i e:=by
 unfold A0 sR;rw[NB];have h:r3 a b c s.c.doors=λj=>if j=i then e else s.c.doors j:=by
  funext j
  match j with
  |0=>exact ha
  |1=>exact hb
  |2=>exact hc
  |j+3=>exact(if_neg oM).symm
 rw[h]
end
section
def V5(n m:Int):Int:=(Int.tmod n m+m)%m
def ar0(n:Int):bits .and .i64 n 14=n%16-n%2:=by
 have Fw:=tq .i64 n 15 16 4 dC dC dC;have h1:=tq .i64 n 1 2 1 dC dC dC;unfold bits at*;simp only[BitVec.toNat_and]at*;have hk:∀m:Nat,m&&&14=(m&&&15)-(m&&&1):=by
  intro m;have e1:m&&&15=m%16:=ag4 m 4;have e2:m&&&1=m%2:=ag4 m 1;have e3:m&&&14=(m%16)&&&14:=by
   rw[<-e1,Nat.and_assoc];rfl
  have e4:m%2=(m%16)%2:=oM;rw[e1,e2,e3,e4];have h:m%16<16:=Nat.mod_lt _ oM;generalize m%16=k at h
  match k,h with
  |0,_=>rfl|1,_=>rfl|2,_=>rfl|3,_=>rfl|4,_=>rfl|5,_=>rfl|6,_=>rfl|7,_=>rfl
  |8,_=>rfl|9,_=>rfl|10,_=>rfl|11,_=>rfl|12,_=>rfl|13,_=>rfl|14,_=>rfl|15,_=>rfl
  |k+16,h=>exact absurd h oM
 have c14:(qt i64.bits 14).toNat=14:=dC;have c15:(qt i64.bits 15).toNat=15:=dC;have c1:(qt i64.bits 1).toNat=1:=dC;rw[c14];rw[c15]at Fw;rw[c1]at h1;rw[hk];generalize (qt i64.bits n).toNat=m at*;have aAf:m&&&15<16:=Nat.lt_of_le_of_lt Nat.and_le_right oM;have kF:m&&&1<2:=Nat.lt_of_le_of_lt Nat.and_le_right oM;have w15:i64.wrap ((m&&&15:Nat):Int)=((m&&&15:Nat):Int):=by rw[ahf];omega
 have w1:i64.wrap ((m&&&1:Nat):Int)=((m&&&1:Nat):Int):=by rw[ahf];omega
 rw[w15]at Fw;rw[w1]at h1;rw[ahf];omega
def Sw1(k a b c:Int):Prop:=(k=0/\a=1/\b=2/\c=3)\/(k=1/\a=2/\b=1/\c=3)\/(k=2/\a=3/\b=2/\c=1)
def Jj(q:Nat->Int)(o1 o2 o3:Int):Prop:=∃b c,Sw1 (V5 (q 1) 3) o1 b c/\((V5 (q 2) 2=0/\o2=b/\o3=c)\/(V5 (q 2) 2=1/\o2=c/\o3=b))
def Jj.perm{q:Nat->Int}{o1 o2 o3:Int}(h:Jj q o1 o2 o3):(o1=1/\o2=2/\o3=3)\/(o1=1/\o2=3/\o3=2)\/(o1=2/\o2=1/\o3=3)\/(o1=2/\o2=3/\o3=1)\/(o1=3/\o2=1/\o3=2)\/(o1=3/\o2=2/\o3=1):=by
 obtain⟨b,c,h1,h2⟩:=h;rcases h1 with⟨_,rfl,rfl,rfl⟩|⟨_,rfl,rfl,rfl⟩|⟨_,rfl,rfl,rfl⟩<;>rcases h2 with⟨_,rfl,rfl⟩|⟨_,rfl,rfl⟩<;>simp
def Jj.one{q:Nat->Int}{a b c a' b' c':Int}(h:Jj q a b c)(k:Jj q a' b' c'):a=a'/\b=b'/\c=c':=by
 obtain⟨_,_,h1,h2⟩:=h;obtain⟨_,_,k1,k2⟩:=k;rcases h1 with⟨e,rfl,rfl,rfl⟩|⟨e,rfl,rfl,rfl⟩|⟨e,rfl,rfl,rfl⟩<;>rcases k1 with⟨f,rfl,rfl,rfl⟩|⟨f,rfl,rfl,rfl⟩|⟨f,rfl,rfl,rfl⟩<;>first|(exfalso;rw[e]at f;revert f;decide)|(rcases h2 with⟨e2,rfl,rfl⟩|⟨e2,rfl,rfl⟩<;>rcases k2 with⟨f2,rfl,rfl⟩|⟨f2,rfl,rfl⟩<;>first|(exfalso;rw[e2]at f2;revert f2;decide)|exact⟨rfl,rfl,rfl⟩)
def V6(ms:List Nat)(w0:an)(a:Option aF)(n c:Nat)(kb:Nat->Int):Prop:=n<=c/\(a=ag->n=0/\c=0)/\∀ad,a=aa ad->ad.block∉ms/\∀j,j<n->w0.cell? (ad.add j)=aa (.int .u8 (kb j))
def ar1(x:Int):0<=u8.wrap x/\u8.wrap x<=255:=by rw[IntKind.wrap_u8];omega
def adV(H:Nat->Int):By (Ax H):=λj=>by unfold Ax;split<;>exact ar1 _
def ar2(n:Nat)(f:Nat->Int):By (k8 n f):=by
 unfold k8;cases ck n 55
 ·exact adV _
 ·exact adV _
def ar3(kn:Nat)(kf:Nat->Int)(s n:Int):By (kH kn kf s n):=by unfold kH jb;exact ar2 _ _
end
section
variable{fr:aQ->Nat×az}
def ar4(C:aM):gZ (Db (fr:=fr) C):=by
 intro ak bl ch K h;unfold Db at h⊢;split at h
 ·exact⟨h.1,λm e=>⟨h.2.1 m e,[],sP⟩,λe m c hc=>⟨h.2.2 e m c hc,[],sP⟩⟩
 ·exact h.elim
def ar5:gZ (Ji (fr:=fr)):=by
 intro ak bl ch K h;unfold Ji at h⊢;split at h
 ·rename_i m o nc vk s' g rest;refine⟨h.1,?_⟩;have h2:=h.2;by_cases hm:4294967295<=m
  ·rw[show decide (4294967295<=m)=af by simp[hm]]at h2⊢;exact⟨h2,[],sP⟩
  ·rw[show decide (4294967295<=m)=ah by simp[hm]]at h2⊢;exact⟨h2,[],sP⟩
 ·exact h.elim
def ar6(tk:Nat->az->Option ca)(ht:Body (fr:=fr) 124 dE)(h1:Sound du gS 120 (Db (fr:=fr) (aO tk))):aK du gS (LH fr (aO tk)):=
 aK.cons ⟨h1,λ_=>ar4 _⟩ (aK.cons ⟨arW,λ_=>ar5⟩ (Da tk ht))
structure V7(k:LK)(s:ai)(l:Int):Prop where
 r:Rm s 8
 d:∀i,i<3->0<=(s.c.doors i).many/\(s.c.doors i).many<=9223372036854775807
 key:1<=k.kn 3/\k.kn 3<=64
 ke:s.c.p.k 3=(k.kn 3,k.kf 3)
 qZ:k.pn<=1000/\By k.pf
 l:1<=l/\l<=3
def FB(C:aM):SM fr:=λar k s F K=>match ar with
 |[.int .i64 l,.raw vp]=>(vp=fq k/\V7 k s l)/\∀F',K (.aD []) (s.tJ C l k.pn k.pf) F'
 |_=>False
def ar7{C:aM}{s:ai}{l:Int}{n:Nat}{f:az}(h:C.take n f=ag):s.tJ C l n f=s.jW C l 13:=by unfold ai.tJ;rw[h]
def ar8{C:aM}{s:ai}{l:Int}{n:Nat}{f:az}{m:ca}(h:C.take n f=aa m):s.tJ C l n f=if vV s.c.p l m.role=ah then s.refuse C l 0 18 else if 4294967295<=(s.c.doors (l.toNat-1)).many then s.refuse C l 0 24 else
 ((sR s (l.toNat-1) ⟨(s.c.doors (l.toNat-1)).many+1,af,C.aR (s.c.p.k 3) l ((s.c.doors (l.toNat-1)).many+1)⟩).tell l ⟨129,0,0,0,0,0,C.aR (s.c.p.k 3) l ((s.c.doors (l.toNat-1)).many+1)⟩).record C 2 l 0 0 0:=by unfold ai.tJ;rw[h];rfl
def FC(tk:Nat->az->Option ca){k:LK}{s:ai}{F:bx fr (bd k s)}{Kb:SK fr k}{l:Int}{i:Nat}{D:fg->ai}(hD:∀e,bd k (D e)=bd k s)(A1:∀e,D e=sR s i e)(hi:l.toNat-1=i)(h3:i<3)(hq:s.c.p.queue=k.most)(hP:V7 k s l)
 (m:ca) (c:Int) (hm:(c=0/\(aO tk).take k.pn k.pf=aa m)\/(c≠0/\(aO tk).take k.pn k.pf=ag)) (hK:∀F',Kb (.aD []) (s.tJ (aO tk) l k.pn k.pf) F'):Ob (aO tk) k s F Kb l (s.c.doors i) D hD m c:=by
 subst hi;unfold Ob;refine aN (λe=>⟨cV hq,I6 hP.r.r1 λF1=>eW ?_ hK F1⟩) (λe=>⟨trivial,aN (λe1=>⟨cV hq,AX ⟨hP.r.le dC,yT,⟨dC,dC⟩⟩ λF1=>eW ?_ hK F1⟩) (λe1=>⟨⟨rfl,rfl,⟨by have:=hP.l;omega,by have:=hP.l;omega⟩,hP.d _ h3,hP.key⟩,aN (λe2=>⟨cV hq,AX ⟨hP.r.le dC,yT,⟨dC,dC⟩⟩ λF1=>eW ?_ hK F1⟩) (λe2=>?_)⟩)⟩)
 ·have hc:c≠0:=sL e;rcases hm with⟨h,_⟩|⟨_,h⟩
  ·exact absurd h hc
  ·exact(ar7 h).symm
 all_goals
  have hc:c=0:=by simpa using e
  have ar9:(aO tk).take k.pn k.pf=aa m:=by
   rcases hm with⟨_,h⟩|⟨h,_⟩
   ·exact h
   ·exact absurd hc h
  rw[ar8 ar9]at*
 ·exact(if_pos (by simpa using e1)).symm
 ·rw[if_neg (by simpa using e1),if_pos (by simpa using e2)]
 ·rw[if_neg (by simpa using e1),if_neg (by simpa using e2)]at hK;have hn:(aO tk).aR (s.c.p.k 3) l ((s.c.doors (l.toNat-1)).many+1)=kH (k.kn 3) (k.kf 3) l ((s.c.doors (l.toNat-1)).many+1):=by rw[hP.ke];rfl
  rw[hn]at hK;have key:∀(x:ai)(hx:bd k x=bd k s),x=sR s (l.toNat-1) (yZ k l (s.c.doors (l.toNat-1)))->(cF k x (hx▸F)/\dE [.int .i64 l,.agg [.int .i64 129,.int .i64 0,.int .i64 0,.int .i64 0,.int .i64 0,.int .i64 0,.cu .u8 8 (yZ k l (s.c.doors (l.toNat-1))).aR]] k x (hx▸F) λv s2 F2=>
   cF k s2 F2/\jm (aO tk) [.int .i64 2,.int .i64 l,.int .i64 0,.int .i64 0,.int .i64 0] k (bV s2) F2 λv s' F'=>cX k s Kb (.aD []) (bP k s' F'++[⟨af,⟨204,(0,0)⟩,dw m⟩,⟨af,⟨128,(0,0)⟩,V3 (yZ k l (s.c.doors (l.toNat-1)))⟩]) [bj k s' F']):=by
   rintro x hx rfl;refine⟨cV hq,⟨⟨(show Rm (sR s _ _) 8 from hP.r).le dC,⟨(show(129:Int)<=129/\(129:Int)<=136 by decide),⟨yT,.inr rfl⟩,⟨(show(0:Int)<=0/\(0:Int)<=3 by decide),.inr rfl⟩,⟨z4,.inr rfl⟩,⟨NO,.inr rfl⟩,⟨z8,.inr rfl⟩,⟨ar3 _ _ _ _,.inl rfl⟩⟩⟩,λF1=>⟨cV hq,nA ?_ λF2=>eW rfl hK F2⟩⟩⟩;have:=hP.r.2;simp only[ai.tell,sR];omega
  exact key _ (hD _) (A1 _)
def ar_(tk:Nat->az->Option ca)(ht:Body (fr:=fr) 124 dE)(h1:Sound du gS 120 (Db (fr:=fr) (aO tk))):Body (fr:=fr) 91 (FB (aO tk)):=by
 refine mQ (n:=90) (ar6 tk ht h1) ?_;intro ar k s F Kb h0 hq hM;unfold FB at hM;split at hM
 ·rename_i l vp;have hP:=hM.1.2;have hK:=hM.2;have hv:vp=fq k:=hM.1.1;subst hv;have hl:l=1\/l=2\/l=3:=by have:=hP.l;omega
  rcases hl with rfl|rfl|rfl
  ·rw[arX];exact⟨⟨rfl,hP.qZ.1,hP.qZ.2⟩,λm e=>FC tk _ (λe=>y9 (i:=0) dC rfl rfl rfl) rfl dC hq hP m 0 (.inl ⟨rfl,e⟩) hK,λe m c hc=>FC tk _ (λe=>y9 (i:=0) dC rfl rfl rfl) rfl dC hq hP m c (.inr ⟨hc,e⟩) hK⟩
  ·rw[arY];exact⟨⟨rfl,hP.qZ.1,hP.qZ.2⟩,λm e=>FC tk _ (λe=>y9 (i:=1) dC rfl rfl rfl) rfl dC hq hP m 0 (.inl ⟨rfl,e⟩) hK,λe m c hc=>FC tk _ (λe=>y9 (i:=1) dC rfl rfl rfl) rfl dC hq hP m c (.inr ⟨hc,e⟩) hK⟩
  ·rw[arZ];exact⟨⟨rfl,hP.qZ.1,hP.qZ.2⟩,λm e=>FC tk _ (λe=>y9 (i:=2) dC rfl rfl rfl) rfl dC hq hP m 0 (.inl ⟨rfl,e⟩) hK,λe m c hc=>FC tk _ (λe=>y9 (i:=2) dC rfl rfl rfl) rfl dC hq hP m c (.inr ⟨hc,e⟩) hK⟩
 ·exact hM.elim
def Oc:List Int->List V
 |[]=>[]
 |n::l=>.int .i64 n::Oc l
def Jk(l:List Int)(t:List aj):VB:=⟨af,⟨3,(0,0)⟩,Oc l++[.rest t]⟩
def lc(x:Int)(A B:Prop):Prop:=match x with
 |.ofNat 0=>B
 |x=>cond (Sd.linked x) A B
def asa{x:Int}{A B:Prop}(h:cond (Sd.linked x) A B):lc x A B:=by
 unfold lc;split
 ·exact h
 ·exact h
def nB:List Bool->Int->List Int
 |[],_=>[]
 |b::l,n=>cond b (n::nB l (n+1)) (nB l (n+1))
def wK(t:aT):List Bool:=[t.zY,t.mG 0,t.mG 1,t.mG 2]
def Od(t:aT):Prop:=(cq t.dv.2.n/\cq t.dv.2.most)/\(cq (t.aE 0).eo.n/\cq (t.aE 0).eo.most)/\(cq (t.aE 1).eo.n/\cq (t.aE 1).eo.most)/\(cq (t.aE 2).eo.n/\cq (t.aE 2).eo.most)
def Dc(bl:List VB)(ch:List (Gh fr))(K:VK (Gh fr))(n:Nat)(B:List aj->VB):Prop:=match n with
 |0=>∀(x:Option aF)(c:Nat),K (.raw (.slice x 0 c)) bl ch
 |n+1=>∀(c:Nat)(t:List aj),K (.sl bl.length 0 (n+1) c) (bl++[B t]) ch
def Jl(bs:List Bool):dm (Gh fr):=λak bl ch K=>match ak with
 |[.ptr it 0]=>(match bl[it]?with
  |some ⟨af,⟨181,(0,0)⟩,tc⟩=>(match tZ tc with
   |some y=>cond (bY bl.length bl) ((Od (bQ y)/\wK (bQ y)=bs)/\Dc (bl.set it ⟨af,⟨181,(0,0)⟩,db (oY (bQ y).tick y.b y.m)⟩) ch K (nB bs 0).length (Jk (nB bs 0))) False
   |none=>False)
  |_=>False)
 |_=>False
def Jm:dm (Gh fr):=λak bl ch K=>match ak,ch with
 |[.raw vp],g::rest=>cond (bY bl.length bl) ((vp=vq g.d.k/\∀a∈g.d.q,cq a.dJ.n/\cq a.dJ.most)/\∀B(h:QS g.d.k.bq g.d.k.most (Sd.Q.kept g.d.q) B),
  (Sd.Q.gone g.d.q=[]->Dc bl (⟨{g.d with q:=Sd.Q.kept g.d.q},g.dx,g.sx,g.F.cO _ B h⟩::rest) K 0 (mn []))/\
  (∀a,Sd.Q.gone g.d.q=[a]->Dc bl (⟨{g.d with q:=Sd.Q.kept g.d.q},g.dx,g.sx,g.F.cO _ B h⟩::rest) K 1 (mn [a]))/\
  (∀a b,Sd.Q.gone g.d.q=[a,b]->Dc bl (⟨{g.d with q:=Sd.Q.kept g.d.q},g.dx,g.sx,g.F.cO _ B h⟩::rest) K 2 (mn [a,b]))/\
  (∀a b d,Sd.Q.gone g.d.q=[a,b,d]->Dc bl (⟨{g.d with q:=Sd.Q.kept g.d.q},g.dx,g.sx,g.F.cO _ B h⟩::rest) K 3 (mn [a,b,d]))) False
 |_,_=>False
def L9(fr:aQ->Nat×az)(C:aM)(bs:List Bool):List (bT (Gh fr)):=⟨106,ah,Jl bs⟩::⟨110,ah,Jm⟩::L8 fr C
def asb(tk:Nat->az->Option ca)(ht:Body (fr:=fr) 124 dE)(bs:List Bool)(h1:Sound du gS 106 (Jl (fr:=fr) bs))(h2:Sound du gS 110 (Jm (fr:=fr))):aK du gS (L9 fr (aO tk) bs):=
 aK.cons ⟨h1,λe=>by cases e⟩ (aK.cons ⟨h2,λe=>by cases e⟩ (Da tk ht))
section
variable(C:aM)(k:LK)(s0:ai)(Kb:SK fr k)
abbrev SC(fr:aQ->Nat×az)(k:LK):=(s:ai)->bx fr (bd k s)->List VB->Prop
def Dd(cont:SC fr k):List Int->SC fr k
 |[],s,F,j=>cont s F j
 |x::l,s,F,j=>cF k s F/\jm C [.int .i64 5,.int .i64 x,.int .i64 0,.int .i64 0,.int .i64 0] k (bV s) F λv s2 F2=>True/\lc x (cF k s2 F2/\vh C [.int .i64 x] k (bV s2) F2 λv s3 F3=>Dd cont l s3 F3 j) (Dd cont l s2 F2 j)
def FE(p:Sd.fC):Prop:=cq p.bC.a/\cq p.bC.b/\cq p.bC.c/\cq p.bC.d/\cq p.now.a/\cq p.now.b/\cq p.now.c/\cq p.now.d
def De(s:ai):ai:={s with c:={s.c with pt:=s.c.pt.step s.c.p}}
def FF:List Sd.Ask->SC fr k
 |[],s,F,j=>cF k s F/\C_ C [] k (bV s) F λv s2 F2=>(fL s2.c.p/\FE s2.c.pt)/\cX k s0 Kb (.aD []) (bP k (De s2) F2++j) [bj k (De s2) F2]
 |a::l,s,F,j=>cF k s F/\vg [.int .i64 a.source,.int .i64 a.source,.int .i64 30] k (bV s) F λv s2 F2=>cF k s2 F2/\jm C [.int .i64 12,.int .i64 a.source,.int .i64 0,.int .i64 30,.int .i64 0] k (bV s2) F2 λv s3 F3=>FF l s3 F3 (j++[⟨af,⟨147,(0,0)⟩,IN a⟩])
def V8:SC fr k:=λs F j=>(vq k=vq k/\∀a∈s.c.q,cq a.dJ.n/\cq a.dJ.most)/\∀B(h:QS k.bq k.most (Sd.Q.kept s.c.q) B),
 (Sd.Q.gone s.c.q=[]->∀(x:Option aF)(c:Nat),FF C k s0 Kb [] (cO s (Sd.Q.kept s.c.q)) (F.cO (Sd.Q.kept s.c.q) B h) j)/\
 (∀a,Sd.Q.gone s.c.q=[a]->∀(c:Nat)(t:List aj),FF C k s0 Kb [a] (cO s (Sd.Q.kept s.c.q)) (F.cO (Sd.Q.kept s.c.q) B h) (j++[mn [a] t]))/\
 (∀a b,Sd.Q.gone s.c.q=[a,b]->∀(c:Nat)(t:List aj),FF C k s0 Kb [a,b] (cO s (Sd.Q.kept s.c.q)) (F.cO (Sd.Q.kept s.c.q) B h) (j++[mn [a,b] t]))/\
 (∀a b d,Sd.Q.gone s.c.q=[a,b,d]->∀(c:Nat)(t:List aj),FF C k s0 Kb [a,b,d] (cO s (Sd.Q.kept s.c.q)) (F.cO (Sd.Q.kept s.c.q) B h) (j++[mn [a,b,d] t]))
def FG:SC fr k:=λs F j=>(cq s.c.t.oa.n/\cq s.c.t.oa.most)/\cond (decide (s.c.t.tick.2>=0))
 (cF k (gP s s.c.t.tick.1) F/\vg [.int .i64 s.c.t.tick.1.aS,.int .i64 s.c.t.tick.2,.int .i64 30] k (bV (gP s s.c.t.tick.1)) F λv s2 F2=>cF k s2 F2/\jm C [.int .i64 12,.int .i64 s.c.t.tick.2,.int .i64 0,.int .i64 30,.int .i64 0] k (bV s2) F2 λv s3 F3=>V8 C k s0 Kb s3 F3 (j++[⟨af,⟨121,(0,0)⟩,dA s.c.t.tick.1⟩]))
 (V8 C k s0 Kb (gP s s.c.t.tick.1) F (j++[⟨af,⟨121,(0,0)⟩,dA s.c.t.tick.1⟩]))
def tkF(E:aT):List Int->SC fr k
 |[],s,F,j=>FG C k s0 Kb (qX s E) F j
 |x::l,s,F,j=>cF k s F/\jm C [.int .i64 5,.int .i64 x,.int .i64 0,.int .i64 0,.int .i64 0] k (qX s E) F λv s2 F2=>True/\lc x (cF k s2 F2/\vh C [.int .i64 x] k (bV s2) F2 λv s3 F3=>Dd C k (FG C k s0 Kb) l s3 F3 j) (Dd C k (FG C k s0 Kb) l s2 F2 j)
end
def asc(C:aM)(k:LK)(s:ai)(F:bx fr (bd k s))(Kb:SK fr k)(l:List Int):Prop:=match l with
 |[]=>∀(x:Option aF)(c:Nat),tkF C k s Kb (eA s.c.ay).tick [] s F []
 |a::l=>∀(c:Nat)(t:List aj),tkF C k s Kb (eA s.c.ay).tick (a::l) s F [Jk (a::l) t]
def ot(fr:aQ->Nat×az)(C:aM)(bs:List Bool):Prop:=∀(k:LK)(s:ai)(F:bx fr (bd k s))(Kb:SK fr k),bz (bU du gS (L9 fr C bs)) 90 80 [.ptr 2 0] (bP k s F) [bj k s F] (cX k s Kb)
 =((Od (eA s.c.ay)/\wK (eA s.c.ay)=bs)/\asc C k s F Kb (nB bs 0))
def gN:Nat->Option Nat:=λ_=>ag
def adW(a0 a1 a2 a3:List V)(b m:Int):VB:=⟨af,⟨181,(0,0)⟩,a0++(a1++(a2++(a3++[.int .i64 b,.int .i64 m])))⟩
def V9(r:bD)(x:Int)(k:bD->Prop):Prop:=(r.v=r.v/\r.n+1<=1000000)/\∀(xa:Option aF)(c:Nat)(bk:List av)(h:dk r.z r.T (r.os++[.int .i64 x]) xa (r.n+1) c bk),k ⟨r.T,r.z,r.os++[.int .i64 x],xa,r.n+1,c,bk,h⟩
def Oe(on:Bool)(t:Sd.Timer)(asd ase asf:Prop):Prop:=cond (!on) asd ((cq t.n/\cq t.most)/\True/\cond t.step.due asf ase)
def Of(on:Bool)(t:Sd.Timer):List V:=[.bool on,.int .i64 t.n,.int .i64 t.most]
def adX(x:gL):List V:=[.int .i64 x.role,.cu .u8 32 x.key,.bool x.seen.any,.int .i64 x.seen.high,.int .u64 x.seen.seen]
def adY:List V:=[.bool ah,.int .i64 0,.int .i64 0]
def Og:List V:=[.int .u8 0,.int .u8 0,.int .u8 0,.int .u8 0,.int .u8 0,.int .u8 0,.int .u8 0,.int .u8 0]
def ash:List V:=adY++(.int .i64 0::(Og++(Og++(Og++(Og++[.bool ah,.int .i64 0,.int .u64 0])))))
def adZ(x:Int):VB:=⟨af,⟨3,(0,0)⟩,[.int .i64 x]⟩
def Df(s:gL)(x:Int)(j:List VB)(r:bD)(k:List V->List VB->bD->Prop):Prop:=
 Oe s.on s.eo (k (Of s.on s.eo++adX s) j r) (k (Of s.on s.eo.step++adX s) j r) (V9 r x (k ash (j++[adZ x])))
def ttX(y:TC)(K:VK bD):Prop:=
 let S3 (a0 a1 a2:List V) (j:List VB) (r:bD):Prop:=Df y.sb 3 j r λa3 j r=>K r.v (adW a0 a1 a2 a3 y.b y.m::j) [r]
 let S2 (a0 a1:List V) (j:List VB) (r:bD):Prop:=Df y.sa 2 j r λa2 j r=>S3 a0 a1 a2 j r
 let S1 (a0:List V) (j:List VB) (r:bD):Prop:=Df y.s0 1 j r λa1 j r=>S2 a0 a1 j r
 Oe y.s1 ⟨y.sn,y.sm⟩ (S1 (Of y.s1 ⟨y.sn,y.sm⟩) [] (.nil 3 1)) (S1 (Of y.s1 (Sd.Timer.step ⟨y.sn,y.sm⟩)) [] (.nil 3 1)) (V9 (.nil 3 1) 0 (S1 adY [adZ 0]))
def asi(y:TC)(K:VK bD):bz (nh du gN (qL bD QV)) 60 106 [.ptr 0 0] [⟨af,⟨181,(0,0)⟩,db y⟩] [.nil 3 1] K=ttX y K:=kR
def ad0{on:Bool}{t:Sd.Timer}{k0 k1 k2:Prop}(h:cq t.n/\cq t.most)(h0:on=ah->k0)(h1:on=af->t.step.due=ah->k1)(h2:on=af->t.step.due=af->k2):Oe on t k0 k1 k2:=by
 unfold Oe;cases on with
 |false=>exact h0 rfl
 |true=>exact⟨h,trivial,aN (λe=>h2 rfl e) (λe=>h1 rfl e)⟩
def Dg(r:bD)(l:List Int):Prop:=r.T=3/\r.z=1/\r.os=l.map (fI .i64)/\r.n=l.length/\l.length<=100
def ad1{r:bD}{x:Int}{k:bD->Prop}{l:List Int}(h:Dg r l)(hl:l.length<100)(hk:∀r',Dg r' (l++[x])->k r'):V9 r x k:=by
 obtain⟨h1,h2,h3,h4,h5⟩:=h;refine⟨⟨rfl,oM⟩,λxa c bk hh=>hk _ ⟨h1,h2,?_,?_,?_⟩⟩
 ·simp[h3]
 ·simp[h4]
 ·simp;omega
def Dh(s:gL):gL:=if s.on then(if s.eo.step.due then gL.zero else{s with eo:=s.eo.step})else s
def V_{s:gL}{x:Int}{j:List VB}{r:bD}{k:List V->List VB->bD->Prop}{l:List Int}(hb:cq s.eo.n/\cq s.eo.most)(h:Dg r l)(hl:l.length<100)
 (hk:∀a j' r',bF 0 a=af->ao [] a=ao [] (sG (Dh s))->Dg r' (l++(if s.on&&s.eo.step.due then[x]else[]))->k a j' r'):Df s x j r k:=by
 refine ad0 hb (λe=>hk _ _ _ rfl ?_ ?_) (λe e2=>hk _ _ _ rfl ?_ ?_) (λe e2=>ad1 h hl λr' hr=>hk _ _ _ rfl ?_ ?_)
 ·rw[Dh,if_neg (by simp[e])];rfl
 ·simpa[e]using h
 ·simp only[Dh,e,e2];rfl
 ·simpa[e,e2]using h
 ·simp only[Dh,e,e2];kernel_rfl
 ·simpa[e,e2]using hr
def KT(y:TC):VK bD:=λv bl ch=>∃(a:List V)(j:List VB)(r:bD),v=r.v/\bl=⟨af,⟨181,(0,0)⟩,a⟩::j/\bF 0 a=af/\ch=[r]/\ao [] a=ao [] (db (oY (bQ y).tick y.b y.m))/\Dg r (nB (wK (bQ y)) 0)
def Oh(ae:List Nat):∀a b:List V,ao ae (a++b)=ao ae a++ao ae b
 |[],b=>by simp[ao]
 |v::a,b=>by simp only[fe,ao,Oh ae a b,bZ]
def ad2(n:Nat):∀a b:List V,bF n (a++b)=(bF n a&&bF n b)
 |[],b=>by simp[bF]
 |v::a,b=>by simp only[fe,bF,ad2 n a b,Bool.and_assoc]
def asj(y:TC)(h:Od (bQ y)):ttX y (KT y):=by
 have e0:Dg (.nil 3 1) []:=⟨rfl,rfl,rfl,rfl,sP⟩;have fin:∀(a0:List V)(l:List Int)(j:List VB)(r:bD),bF 0 a0=af->ao [] a0=ao [] [.bool (bQ y).tick.dv.1,.int .i64 (bQ y).tick.dv.2.n,.int .i64 (bQ y).tick.dv.2.most]->Dg r l->l=(if(bQ y).zY then[0]else[])->
  Df y.s0 1 j r λa1 j r=>Df y.sa 2 j r λa2 j r=>Df y.sb 3 j r λa3 j r=>KT y r.v (adW a0 a1 a2 a3 y.b y.m::j) [r]:=by
  intro a0 l j r w0 ha hr hl;have xK:l.length<=1:=by rw[hl];split<;>simp
  refine V_ h.2.1 hr oM λa1 j1 r1 w1 h1 k1=>?_;refine V_ h.2.2.1 k1 (by simp only[fH];split<;>simp<;>omega) λa2 j2 r2 w2 h2 k2=>?_;refine V_ h.2.2.2 k2 (by simp only[fH];split<;>split<;>simp<;>omega) λa3 j3 r3 w3 h3 k3=>?_;refine⟨_,j3,r3,rfl,rfl,?_,rfl,?_,?_⟩
  ·simp only[ad2,w0,w1,w2,w3];rfl
  ·have e:db (oY (bQ y).tick y.b y.m)=[.bool (bQ y).tick.dv.1,.int .i64 (bQ y).tick.dv.2.n,.int .i64 (bQ y).tick.dv.2.most]++(sG (Dh y.s0)++(sG (Dh y.sa)++(sG (Dh y.sb)++[.int .i64 y.b,.int .i64 y.m]))):=rfl;rw[e];simp only[Oh,ha,h1,h2,h3]
  ·have e:nB (wK (bQ y)) 0=l++(if y.s0.on&&y.s0.eo.step.due then[1]else[])++(if y.sa.on&&y.sa.eo.step.due then[2]else[])++(if y.sb.on&&y.sb.eo.step.due then[3]else[]):=by
    rw[hl];have f0:(bQ y).mG 0=(y.s0.on&&y.s0.eo.step.due):=rfl;have f1:(bQ y).mG 1=(y.sa.on&&y.sa.eo.step.due):=rfl;have f2:(bQ y).mG 2=(y.sb.on&&y.sb.eo.step.due):=rfl;simp only[wK,nB,f0,f1,f2];cases(bQ y).zY<;>cases(y.s0.on&&y.s0.eo.step.due)<;>cases(y.sa.on&&y.sa.eo.step.due)<;>cases(y.sb.on&&y.sb.eo.step.due)<;>rfl
   rw[e];exact k3
 have hs:(bQ y).zY=(y.s1&&(Sd.Timer.step ⟨y.sn,y.sm⟩).due):=rfl;have ht:(bQ y).tick.dv=if y.s1 then(if(Sd.Timer.step ⟨y.sn,y.sm⟩).due then(ah,.zero)else(af,Sd.Timer.step ⟨y.sn,y.sm⟩))else(y.s1,⟨y.sn,y.sm⟩):=rfl
 refine ad0 h.1 (λe=>fin _ [] _ _ rfl ?_ e0 ?_) (λe e2=>fin _ [] _ _ rfl ?_ e0 ?_) (λe e2=>ad1 e0 sP λr' hr=>fin _ [0] _ _ rfl ?_ hr ?_)
 ·rw[ht,if_neg (by simp[e])];rfl
 ·rw[hs,e];rfl
 ·rw[ht,if_pos e,if_neg (by simp[e2]),e];rfl
 ·rw[hs,e,e2];rfl
 ·rw[ht,if_pos e,if_pos e2];rfl
 ·rw[hs,e,e2];rfl
def ad3{n:Nat}{b:VB}(hb:bF n b.c=af):∀{bl:List VB}(i:Nat),bY n bl=af->bY n (bl.set i b)=af
 |[],i,h=>by simp[bY]
 |x::l,0,h=>by simp only[bY,bJ,List.set]at h⊢;exact⟨hb,h.2⟩
 |x::l,i+1,h=>by simp only[bY,bJ,List.set]at h⊢;exact⟨h.1,ad3 hb i h.2⟩
def ad4(ae:List Nat):∀l:List Int,ao ae (Oc l)=l.map (fI .i64)
 |[]=>rfl
 |n::l=>by simp only[Oc,ao,cl,den,ad4 ae l,gx,xi]
def ad5{r:bD}{n:Nat}{B:List aj->VB}(hB:∀(ae:List Nat)(b:Nat)(t:List aj),aI ae b (B t)=⟨b,af,.cells (r.os++t).toArray r.T (0,0)⟩)(hn:r.n=n){bl:List VB}{ae:List Nat}{ch:List (Gh fr)}{R:List av}{ms:List Nat}{w0 w:an}{K:VK (Gh fr)}
 (hl:ae.length=bl.length) (hw:bY bl.length bl=af) (S:St ms w0 (lits ae ae bl++(r.bl++ax ch R)) w) (hK:Dc bl ch K n B):
 ∃x aq b9 ce,tj r.x r.n r.c=den (ae++aq) x/\(ae++aq).length=b9.length/\St ms w0 (lits (ae++aq) (ae++aq) b9++ax ce R) w/\K x b9 ce:=by
 obtain⟨h1,h2,h3⟩:=r.h;cases n with
 |zero=>
  refine⟨_,[],bl,ch,?_,by simpa using hl,?_,hK r.x r.c⟩
  ·simp only[den];rw[hn]
  ·rw[cy];exact S.sub (mV (kM _ _) _)
 |succ n=>
  rcases h3 with⟨_,hz,_⟩|⟨b,tail,hx,Vf,_⟩
  ·omega
  ·refine⟨_,[b],_,ch,?_,by simp[hl],?_,hK r.c tail⟩
   ·simp only[den];rw[<-hl,lY,hx,hn]
   ·rw[fw _ _ _ _ hl,fy _ _ (by rw[hl];exact hw)];simp only[lits,hB,bZ];rw[Vf]at S;exact S
def ad6(bs:List Bool)(gl:Nat->Option Nat):Sound du gl 106 (Jl (fr:=fr) bs):=by
 intro ak ae bl ch R ms w0 w K hg hl S hc;unfold Jl at hc;split at hc
 ·rename_i it;split at hc
  ·rename_i tc hb;split at hc
   ·rename_i y hy;cases hq:bY bl.length bl with
    |false=>rw[hq]at hc;exact hc.elim
    |true=>
     rw[hq]at hc;obtain⟨⟨hT,hO⟩,hK⟩:=hc;obtain rfl:=yO hy;have hi:=mj hb;obtain⟨r,hr,kJ⟩:=VN hl hi;have p1:=kJ bl rfl;have S1:=S.perm (p1.append_right _);rw[lF hb]at S1;have S2:St ms w0 (lits [ae.getD it 0] [ae.getD it 0] [⟨af,⟨181,(0,0)⟩,db y⟩]++ax [bD.nil 3 1] ((r.map λj=>aI ae (ae.getD j 0) (bl.getD j fp))++ax ch R)) w:=by
      have e:lits [ae.getD it 0] [ae.getD it 0] [⟨af,⟨181,(0,0)⟩,db y⟩]=[aI ae (ae.getD it 0) ⟨af,⟨181,(0,0)⟩,db y⟩]:=by
       simp only[lits,aI];have a:=jI (ae:=[]) (aq:=[ae.getD it 0]) (db y) rfl;have b:=jI (ae:=[]) (aq:=ae) (db y) rfl;simp only[fu]at a b;rw[a,b]
      rw[e];simpa[ax,bD.nil,Bl.B]using S1
     have main:=eO (kG (AQ gN)).TR (kG (AQ gN)).QR 60 (C:=nh du gN (qL bD QV)) (ak:=[.ptr 0 0]) (K:=KT y) (λg i h=>by cases h) rfl S2 (by rw[asi];exact asj y hT);have a1:(aJ ae [.ptr it 0]).toArray=(aJ [ae.getD it 0] [.ptr 0 0]).toArray:=rfl;rw[a1];refine main.mono ?_;rintro v w' ⟨x,aq,b9,ce,rfl,qg,S3,a,j,r',rfl,rfl,hwa,rfl,ha,hR⟩;have S4:St ms w0 (lits ae ae (bl.set it ⟨af,⟨181,(0,0)⟩,db (oY (bQ y).tick y.b y.m)⟩)++(r'.bl++ax ch R)) w':=by
      have p2:=kJ (bl.set it ⟨af,⟨181,(0,0)⟩,db (oY (bQ y).tick y.b y.m)⟩) sP;have e3:(r.map λj=>aI ae (ae.getD j 0) ((bl.set it ⟨af,⟨181,(0,0)⟩,db (oY (bQ y).tick y.b y.m)⟩).getD j fp))=r.map λj=>aI ae (ae.getD j 0) (bl.getD j fp):=by
       apply mB;intro j hj;simp only[gh];rw[oh (Ne.symm (hr j hj))]
      rw[e3,lF (AV hi)]at p2;have e4:lits ([ae.getD it 0]++aq) ([ae.getD it 0]++aq) (⟨af,⟨181,(0,0)⟩,a⟩::j)=aI ae (ae.getD it 0) ⟨af,⟨181,(0,0)⟩,db (oY (bQ y).tick y.b y.m)⟩::lits ([ae.getD it 0]++aq) aq j:=by
       simp only[xi,lits,aI];have d1:=jI (ae:=[]) (aq:=ae.getD it 0::aq) a hwa;have d2:=jI (ae:=[]) (aq:=ae) (db (oY (bQ y).tick y.b y.m)) rfl;simp only[fu]at d1 d2;rw[d1,d2,ha]
      rw[e4]at S3;simp only[ax,Bl.B]at S3;have S5:=S3.sub (bs':=aI ae (ae.getD it 0) ⟨af,⟨181,(0,0)⟩,db (oY (bQ y).tick y.b y.m)⟩::(r'.bl++((r.map λj=>aI ae (ae.getD j 0) (bl.getD j fp))++ax ch R))) (by
       rw[fe];exact xn _ (kM _ _))
      refine S5.perm ?_;refine xm ?_ (p2.symm.append_right _);rw[fe];exact vJ _ (rG _ _ _)
     obtain⟨x,cj,ci,ch2,g1,g2,g3,g4⟩:=ad5 (r:=r') (n:=(nB bs 0).length) (B:=Jk (nB bs 0)) (by
      intro ae b t;simp only[aI,Jk,Oh,ad4,hR.2.2.1,hR.1,hO,ao,cl,cy]) (by rw[hR.2.2.2.1,hO]) (by simpa using hl) (by rw[List.length_set];exact ad3 rF it hq) S4 hK
     exact⟨x,cj,ci,ch2,by rw[<-g1];simp only[bD.v,den],g2,g3,g4⟩
   ·exact hc.elim
  ·exact hc.elim
 ·exact hc.elim
def kL(e:One):One:=⟨{e.a with dJ:=e.a.dJ.step},e.came⟩
def A2(most came:Int)(gq:bD)(K:VK bD):List One->List VB->bD->bD->Prop
 |[],j,g1,g2=>K g1.v (cL g2.v most came::j) [g1,g2,gq]
 |e::l,j,g1,g2=>(cq e.a.dJ.n/\cq e.a.dJ.most)/\True/\cond e.a.dJ.step.due
  (apps g1 (ao [] (qW (kL e).a)) λg1=>A2 most came gq K l (j++[⟨af,⟨190,(0,0)⟩,va (kL e)⟩,⟨af,⟨147,(0,0)⟩,qW (kL e).a⟩]) g1 g2)
  (apps g2 (ao [] (va (kL e))) λg2=>A2 most came gq K l (j++[⟨af,⟨190,(0,0)⟩,va (kL e)⟩,⟨af,⟨190,(0,0)⟩,va (kL e)⟩]) g1 g2)
def Jn(n:Nat)(most came:Int)(gq:bD)(es:List One)(K:VK bD):Prop:=
 (cL gq.v most came=cL gq.v most came/\gq.T=190/\gq.z=5/\gq.os=iT es/\gq.n=es.length/\es.length=n/\gd es)/\I0 n es (λx c=>A2 most came gq K [] [] (.nil 147 4) (.nil 190 5)) (λc l t=>A2 most came gq K l [eh l t] (.nil 147 4) (.nil 190 5))
section
variable(most came:Int)(gq:bD)(es:List One)(K:VK bD)
abbrev LQ(n:Nat)(es:List One)(most came:Int):List (bT bD):=⟨81,ah,Nx n es most came⟩::qL bD QV
def asl:bz (nh du gN (LQ 0 es most came)) 60 110 [.ptr 0 0] [cL gq.v most came] [.nil 147 4,.nil 190 5,gq] K=Jn 0 most came gq es K:=kR
def asm:bz (nh du gN (LQ 1 es most came)) 60 110 [.ptr 0 0] [cL gq.v most came] [.nil 147 4,.nil 190 5,gq] K=Jn 1 most came gq es K:=kR
def asn:bz (nh du gN (LQ 2 es most came)) 60 110 [.ptr 0 0] [cL gq.v most came] [.nil 147 4,.nil 190 5,gq] K=Jn 2 most came gq es K:=kR
def aso:bz (nh du gN (LQ 3 es most came)) 60 110 [.ptr 0 0] [cL gq.v most came] [.nil 147 4,.nil 190 5,gq] K=Jn 3 most came gq es K:=kR
end
def KQ(most came:Int)(gq:bD)(G:List Sd.Ask)(ko:List One):VK bD:=λv bl ch=>∃(j:List VB)(g1 g2:bD),v=g1.v/\bl=cL g2.v most came::j/\ch=[g1,g2,gq]/\yM g1 147 4 (sE G) G.length/\yM g2 190 5 (iT ko) ko.length
def ad7:∀a b:List One,iT (a++b)=iT a++iT b
 |[],b=>rfl
 |x::a,b=>by simp only[fe,iT,ad7 a b,bZ]
def Wa(most came:Int)(gq:bD):∀(l:List One)(j:List VB)(g1 g2:bD)(G:List Sd.Ask)(Kp:List One),yM g1 147 4 (sE G) G.length->yM g2 190 5 (iT Kp) Kp.length->G.length+l.length<100->Kp.length+l.length<100->
 (∀e∈l,cq e.a.dJ.n/\cq e.a.dJ.most)->A2 most came gq (KQ most came gq (G++((l.map kL).map (·.a)).filter λa=>a.dJ.due) (Kp++(l.map kL).filter λe=>!e.a.dJ.due)) l j g1 g2
 |[],j,g1,g2,G,Kp,h1,h2,_,_,_=>by
  refine⟨j,g1,g2,rfl,rfl,rfl,?_,?_⟩
  ·simpa using h1
  ·simpa using h2
 |e::l,j,g1,g2,G,Kp,h1,h2,l1,l2,hb=>by
  simp only[jv]at l1 l2;refine⟨hb e sP,trivial,aN (λhd=>Vd h1 oM λr' hr=>?_) (λhd=>Vd h2 oM λr' hr=>?_)⟩
  ·have gY:(kL e).a.dJ.due=af:=hd;have:=Wa most came gq l (j++[⟨af,⟨190,(0,0)⟩,va (kL e)⟩,⟨af,⟨147,(0,0)⟩,qW (kL e).a⟩]) r' g2 (G++[(kL e).a]) Kp (by rw[Vc,fH];exact hr) h2 (by simp;omega) oM (λx hx=>hb x (by simp[hx]));simp only[gx,List.filter_cons,gY,if_true,Bool.not_true,Bool.false_eq_true,if_false];simpa[bZ]using this
  ·have gY:(kL e).a.dJ.due=ah:=hd;have:=Wa most came gq l (j++[⟨af,⟨190,(0,0)⟩,va (kL e)⟩,⟨af,⟨190,(0,0)⟩,va (kL e)⟩]) g1 r' G (Kp++[kL e]) h1 (by rw[ad7,fH];exact hr) oM (by simp;omega) (λx hx=>hb x (by simp[hx]));simp only[gx,List.filter_cons,gY,Bool.false_eq_true,if_false,Bool.not_false,if_true];simpa[bZ]using this
def y_(x y:Sd.Ask):Prop:=x.cd<y.cd/\¬x.source=y.source
def asp{es:List One}(h:gd es):(cI es).Pairwise y_:=by
 match es,h with
 |[],_=>simp[cI]
 |[x],_=>simp[cI]
 |[x,y],h=>simp only[gd]at h;simp[cI,y_];exact h
 |[x,y,z],h=>
  simp only[gd]at h;simp only[cI];split
  ·simp[y_];omega
  ·simp[y_];omega
 |_::_::_::_::_,h=>exact absurd h (by simp[gd])
def asq{l:List One}(hl:l.length<=3)(h:(l.map (·.a)).Pairwise y_):gd l/\cI l=l.map (·.a):=by
 match l,hl,h with
 |[],_,_=>exact⟨trivial,rfl⟩
 |[x],_,_=>exact⟨trivial,rfl⟩
 |[x,y],_,h=>simp[y_]at h;exact⟨h,rfl⟩
 |[x,y,z],_,h=>
  simp[y_]at h;refine⟨⟨⟨h.1.1.1,h.1.2.1,oM⟩,h.1.1.2,h.1.2.2,h.2.2⟩,?_⟩;simp only[cI,if_pos h.2.1];rfl
def asr{L:List Sd.Ask}(h:L.Pairwise y_):(Sd.Q.pI L).Pairwise y_:=by
 unfold Sd.Q.pI;rw[List.pairwise_map];exact h
def ass{bq:Nat}{most:Int}{L:List Sd.Ask}{B bs:List av}{ms:List Nat}{w0 w:an}(hQ:QS bq most L B)(hB:∀a∈L,cq a.dJ.n/\cq a.dJ.most)(S0:St ms w0 (B++bs) w):
 ba du 110 #[.pointer (aa ⟨bq,0,ag⟩)] w λv w1=>∃(B':List av)(r:bD),v=.slice r.x r.n r.c/\yM r 147 4 (sE (Sd.Q.gone L)) (Sd.Q.gone L).length/\QS bq most (Sd.Q.kept L) B'/\St ms w0 (r.bl++(B'++bs)) w1:=by
 obtain⟨es,x,c,came,rows,rfl,hr,hH,rfl⟩:=hQ;obtain⟨Nz,oQ⟩:=Ve hH
 let gq:bD:=⟨190,5,iT es,x,es.length,c,rows,hr⟩
 have S1:St ms w0 (lits [bq] [bq] [cL gq.v most came]++ax [bD.nil 147 4,.nil 190 5,gq] bs) w:=by simpa[lits,ax,Bl.B,bD.nil,gq,aI,cL,bD.v,ao,cl,den]using S0
 let KK:VK bD:=λv bl ch=>∃l:List One,l.map (·.a)=cI es/\l.length=es.length/\KQ most came gq (((l.map kL).map (·.a)).filter λa=>a.dJ.due) ((l.map kL).filter λe=>!e.a.dJ.due) v bl ch
 have hq:∀(l:List One)(j:List VB),l.map (·.a)=cI es->l.length=es.length->A2 most came gq KK l j (.nil 147 4) (.nil 190 5):=by
  intro l j hm hl;have h1:=Wa most came gq l j (.nil 147 4) (.nil 190 5) [] [] ⟨rfl,rfl,rfl,rfl⟩ ⟨rfl,rfl,rfl,rfl⟩ (by simp;omega) (by simp;omega) (λe he=>hB e.a (by rw[<-hm];exact oC.2 ⟨e,he,rfl⟩));have mono:∀(l:List One)(j:List VB)(g1 g2:bD)(K K':VK bD),(∀v bl ch,K v bl ch->K' v bl ch)->A2 most came gq K l j g1 g2->A2 most came gq K' l j g1 g2:=by
   intro l;induction l with
   |nil=>intro j g1 g2 K K' h hk;exact h _ _ _ hk
   |cons e l ih=>
    intro j g1 g2 K K' h hk;obtain⟨a1,a2,a3⟩:=hk;refine⟨a1,a2,?_⟩;cases hd:e.a.dJ.step.due with
    |true=>rw[hd]at a3;exact⟨a3.1,λxa c bk hh=>ih _ _ _ K K' h (a3.2 xa c bk hh)⟩
    |false=>rw[hd]at a3;exact⟨a3.1,λxa c bk hh=>ih _ _ _ K K' h (a3.2 xa c bk hh)⟩
  exact mono _ _ _ _ _ _ (λv bl ch hk=>⟨l,hm,hl,by simpa using hk⟩) h1
 have hA:Jn es.length most came gq es KK:=by
  refine⟨⟨rfl,rfl,rfl,rfl,rfl,rfl,hH⟩,adj oQ (λh0 x c=>hq [] [] ?_ ?_) (λl c t hm hl=>hq l _ hm hl)⟩
  ·rw[kX h0];rfl
  ·rw[h0];rfl
 have cT:bz (nh du gN (LQ es.length es most came)) 60 110 [.ptr 0 0] [cL gq.v most came] [.nil 147 4,.nil 190 5,gq] KK:=by
  rcases(by omega:es.length=0\/es.length=1\/es.length=2\/es.length=3)with h|h|h|h<;>rw[h]at hA⊢
  ·rw[asl];exact hA
  ·rw[asm];exact hA
  ·rw[asn];exact hA
  ·rw[aso];exact hA
 have eg:aK du gN (LQ es.length es most came):=aK.cons ⟨adk _ es most came,λe=>by cases e⟩ (kG (AQ gN));have main:=eO eg.TR eg.QR 60 (C:=nh du gN (LQ es.length es most came)) (ak:=[.ptr 0 0]) (K:=KK) (λg i h=>by cases h) rfl S1 cT;refine Calls.mono main ?_;rintro e w' ⟨v,rfl,xx,aq,b9,ce,rfl,qg,S3,l,hm,hl,j,g1,g2,rfl,rfl,rfl,h1,h2⟩;have hg:Sd.Q.gone (cI es)=((l.map kL).map (·.a)).filter λa=>a.dJ.due:=by
  rw[<-hm];simp only[Sd.Q.gone,Sd.Q.pI,lN];rfl
 have hk:Sd.Q.kept (cI es)=((l.map kL).filter λe=>!e.a.dJ.due).map (·.a):=by
  rw[<-hm];simp only[Sd.Q.kept,Sd.Q.pI,lN,List.filter_map];rfl
 have hko:((l.map kL).filter λe=>!e.a.dJ.due).length<=3:=by
  have:=Lc (λe:One=>!e.a.dJ.due) (l.map kL);simp at this⊢;omega
 obtain⟨Vh,hab⟩:=asq hko (by rw[<-hk];exact(asr (asp hH)).filter _);obtain⟨t1,t2,t3,t4⟩:=h2;have zX:=g2.h;rw[t1,t2,t3,t4]at zX;refine⟨_,rfl,⟨bq,af,.cells #[.slice g2.x ((l.map kL).filter λe=>!e.a.dJ.due).length g2.c,.int .i64 most,.int .u64 came] 170 (0,0)⟩::g2.bl,g1,?_,?_,?_,?_⟩
 ·simp only[bD.v,den]
 ·rw[hg];exact h1
 ·exact⟨_,g2.x,g2.c,came,g2.bl,rfl,zX,Vh,by rw[hab,hk]⟩
 ·have e1:lits ([bq]++aq) ([bq]++aq) (cL g2.v most came::j)=⟨bq,af,.cells #[.slice g2.x g2.n g2.c,.int .i64 most,.int .u64 came] 170 (0,0)⟩::lits ([bq]++aq) aq j:=rfl;rw[e1,t4]at S3;have S4:=S3.sub (bs':=⟨bq,af,.cells #[.slice g2.x ((l.map kL).filter λe=>!e.a.dJ.due).length g2.c,.int .i64 most,.int .u64 came] 170 (0,0)⟩::(g1.bl++(g2.bl++bs))) (by
   rw[fe];refine xn _ ?_;refine ahg ?_ (kM _ _);exact mV (mV (kM _ _) _) _)
  refine S4.perm ?_;exact kY.symm
def ad8(gl:Nat->Option Nat):Sound du gl 110 (Jm (fr:=fr)):=by
 intro ak ae bl ch R ms w0 w K hg hl S hc;unfold Jm at hc;split at hc
 ·rename_i vp g rest;cases hq:bY bl.length bl with
  |false=>rw[hq]at hc;exact hc.elim
  |true=>
   rw[hq]at hc;obtain⟨⟨rfl,hb⟩,hK⟩:=hc;have e0:ax (g::rest) R=g.F.B++ax rest R:=rfl;rw[e0,ua]at S;have hL:=ass g.F.hq hb (S.perm (C0 _ _ _ _ _ _ _));have ea:(aJ ae [.raw (vq g.d.k)]).toArray=#[.pointer (aa ⟨g.d.k.bq,0,ag⟩)]:=rfl;rw[ea];refine hL.mono ?_;rintro v w1 ⟨B',r,rfl,hr,Oi,S1⟩;obtain⟨k0,k1,k2,k3⟩:=hK B' Oi;have S2:St ms w0 (lits ae ae bl++(r.bl++ax (⟨{g.d with q:=Sd.Q.kept g.d.q},g.dx,g.sx,g.F.cO _ B' Oi⟩::rest) R)) w1:=by
    have e1:ax (⟨{g.d with q:=Sd.Q.kept g.d.q},g.dx,g.sx,g.F.cO _ B' Oi⟩::rest:List (Gh fr)) R=(g.F.Br++(g.F.Bs++(g.F.Bf++(B'++g.F.Bk))))++ax rest R:=rfl;rw[e1];refine S1.perm ?_;refine(j8 r.bl (C0 (lits ae ae bl) _ _ _ _ _ _).symm).trans ?_;exact rG _ _ _
   have dl:(Sd.Q.gone g.d.q).length<=3:=by
    have h1:=adP g.F.hq;have:=Lc (λa:Sd.Ask=>a.dJ.due) (Sd.Q.pI g.d.q);simp only[Sd.Q.gone,Sd.Q.pI,GA]at this⊢;omega
   have fin:∀(A:List Sd.Ask)(n:Nat),Sd.Q.gone g.d.q=A->A.length=n->Dc bl (⟨{g.d with q:=Sd.Q.kept g.d.q},g.dx,g.sx,g.F.cO _ B' Oi⟩::rest) K n (mn A)->
    ∃x aq b9 ce,tj r.x r.n r.c=den (ae++aq) x/\(ae++aq).length=b9.length/\St ms w0 (lits (ae++aq) (ae++aq) b9++ax ce R) w1/\K x b9 ce:=by
    rintro A n hA rfl hk;obtain⟨t1,t2,t3,t4⟩:=hr;rw[hA]at t3 t4;exact ad5 (r:=r) (B:=mn A) (λae b t=>by simp only[aI,mn,Oh,V0,t3,t1,ao,cl,cy]) t4 hl hq S2 hk
   match hG:Sd.Q.gone g.d.q with
   |[]=>exact fin [] 0 hG rfl (k0 hG)
   |[a]=>exact fin [a] 1 hG rfl (k1 a hG)
   |[a,b]=>exact fin [a,b] 2 hG rfl (k2 a b hG)
   |[a,b,d]=>exact fin [a,b,d] 3 hG rfl (k3 a b d hG)
   |_::_::_::_::_=>rw[hG]at dl;simp at dl
 ·exact hc.elim
def ku(n:Nat)(f:Nat->Int):ca:=match aU n f with
 |some m=>m
 |none=>xI 0
def vo(n:Nat)(f:Nat->Int):Int:=match aU n f with
 |some _=>0
 |none=>13
def zb(n:Nat)(f:Nat->Int):V:=.aD [.agg (dw (ku n f)),.int .i64 (vo n f)]
def Wb(n:Nat)(f:Nat->Int):qj n f=zb n f:=by
 unfold qj zb ku vo;cases aU n f<;>rfl
def Wc(n:Nat)(f:Nat->Int):dg 0 (zb n f)=af:=rfl
def ast(x:Option aF)(c:Nat)(X:V->Prop):bz (tQ du nk Fv) 90 120 [.raw (.slice x 0 c)] [] [] (λv _ _=>X v)=X qe:=kR
def take_nil(x:Option aF)(c:Nat)(f:Nat->Int)(w:an):ba du 120 #[.slice x 0 c] w λv w1=>v=den [] (qj 0 f)/\Ch [] w w1:=by
 have cT:bz (tQ du nk Fv) 90 120 [.raw (.slice x 0 c)] [] [] (λv _ _=>v=qe):=by rw[ast]
 refine(eO N1.TS N1.QS 90 (C:=tQ du nk Fv) (ae:=[]) (bl:=[]) (ch:=[]) (R:=[]) (ms:=[]) (w0:=w) (ak:=[.raw (.slice x 0 c)]) (λg i h=>by cases h) rfl (St.nil [] w) cT).mono ?_;rintro v w' ⟨x,aq,b9,ce,rfl,qg,S2,rfl⟩;refine⟨?_,S2.ch⟩;have:=gX (ae:=[]) (aq:=[]++aq) qe rfl;have e:qj 0 f=qe:=rfl;rw[e];simpa using this
def ad9{b m n c:Nat}{f:Nat->Int}{t:List aj}{w:an}(hf:By f)(hn:n<=m)(hc:n<=c)(hB:w.heap[b]?=aa (.cells ((bg m).map (λj=>fI .u8 (f j))++t).toArray 5 (0,0))):
 ba du 120 #[.slice (aa ⟨b,0,ag⟩) n c] w λv w1=>v=den [] (qj n f)/\Ch [] w w1:=by
 refine arq b n c f (((bg m).map (λj=>fI .u8 (f j))).drop n++t) hf hc w ?_;have e:(bg n).map (λj=>fI .u8 (f j))=((bg m).map (λj=>fI .u8 (f j))).take n:=by
  rw[<-List.map_take,List.take_range,Nat.min_eq_left hn]
 rw[e,<-bZ,jR];exact hB
def Oj:QF:=⟨120,λak bl=>match ak with
 |[.sl i 0 n c]=>(match bl[i]?with
  |some b=>(match b.c with
   |[.cu .u8 m f,.rest t]=>bif Ab b.ty 5 then aa ((n<=m/\n<=c/\By f),zb n f)else ag
   |_=>ag)
  |none=>ag)
 |[.raw (.slice x 0 c)]=>aa (True,zb 0 λ_=>0)
 |_=>ag⟩
def ad_(gl:Nat->Option Nat):Oj.Ok du gl:=by
 intro ak bl p v h hp ae w hg hm;unfold Oj at h;dsimp only at h;split at h
 ·rename_i i n c;split at h
  ·rename_i b hb;split at h
   ·rename_i m f t hc;cases hq:Ab b.ty 5 with
    |false=>rw[hq]at h;cases h
    |true=>
     rw[hq]at h;simp only[cond_true,a_,bI]at h;obtain⟨rfl,rfl⟩:=h;have aV:=hm.2 i b hb;rw[hc,Ro hq]at aV;have e:(ao ae [V.cu .u8 m f,.rest t]).toArray=((bg m).map (λj=>fI .u8 (f j))++t).toArray:=by simp[ao,cl]
     rw[e]at aV;refine(ad9 hp.2.2 hp.1 hp.2.1 aV).mono ?_;rintro x w' ⟨rfl,cz⟩;refine⟨?_,cz⟩;rw[Wb];have:=gX (ae:=[]) (aq:=ae) (zb n f) (Wc n f);simpa using this.symm
   ·cases h
  ·cases h
 ·rename_i x c;obtain⟨rfl,rfl⟩:True=p/\zb 0 (λ_=>0)=v:=by simpa using h
  refine(take_nil x c (λ_=>0) w).mono ?_;rintro y w' ⟨rfl,cz⟩;refine⟨?_,cz⟩;rw[Wb];have:=gX (ae:=[]) (aq:=ae) (zb 0 λ_=>0) (Wc 0 _);simpa using this.symm
 ·cases h
def asu:Sound du gS 120 (Db (fr:=fr) (aO aU)):=by
 intro ak ae bl ch R ms w0 w K hg hl S hc;unfold Db at hc;split at hc
 ·rename_i vp g rest;obtain⟨⟨rfl,hn,hf⟩,h1,h2⟩:=hc;have e0:ax (g::rest) R=g.F.B++ax rest R:=rfl;have S':=S;rw[e0]at S';have main:ba du 120 #[.slice g.d.k.px g.d.k.pn g.d.k.pc] w λv w1=>v=den [] (qj g.d.k.pn g.d.k.pf)/\Ch [] w w1:=by
   obtain⟨b0,b1,b2,b3,b4,hB,k0,k1,k2,k3,k4⟩:=g.F.hk;have aV:∀y∈g.F.Bk,w.heap[y.id]?=aa y.obj:=λy hy=>S'.at' (by rw[ua];simp[hy]);rw[hB]at aV;obtain⟨hle,h|⟨b,hx,hb⟩⟩:=k4
   ·obtain⟨_,hz,_,_⟩:=h;rw[hz];exact take_nil _ _ _ w
   ·have h4:=aV ⟨b,af,.cells (bM g.d.k.pn g.d.k.pf g.d.k.pc) 5 (0,0)⟩ (by simp[hb]);rw[hx];have e:∃t,bM g.d.k.pn g.d.k.pf g.d.k.pc=((bg g.d.k.pn).map (λj=>fI .u8 (g.d.k.pf j))++t).toArray:=by
     exact⟨oE (g.d.k.pc-g.d.k.pn) (.int .u8 0),by unfold bM;congr 2⟩
    obtain⟨t,e⟩:=e;rw[e]at h4;exact ad9 hf (cW _) hle h4
  have ea:(aJ ae [.raw (fq g.d.k)]).toArray=#[.slice g.d.k.px g.d.k.pn g.d.k.pc]:=rfl;rw[ea];refine main.mono ?_;rintro v w1 ⟨rfl,cz⟩;refine⟨qj g.d.k.pn g.d.k.pf,[],bl,g::rest,?_,by simpa using hl,by simpa using S.quiet cz,?_⟩
  ·rw[Wb];have:=gX (ae:=[]) (aq:=ae++[]) (zb g.d.k.pn g.d.k.pf) (Wc _ _);simpa using this.symm
  ·unfold qj;cases h:aU g.d.k.pn g.d.k.pf with
   |some m=>exact h1 m h
   |none=>exact h2 h (xI 0) 13 dC
 ·exact hc.elim
def asv(ht:Body (fr:=fr) 124 dE):Body (fr:=fr) 91 (FB (aO aU)):=ar_ aU ht asu
def pY(b m:Int):aX:=⟨λi=>if i=42 then b else if i=49 then m else 0,λ_=>(0,λ_=>0)⟩
def aea:QT:=⟨126,λar y=>match ar with
 |[.int .i64 s,.int .i64 r,.agg [.cu .u8 32 key]]=>aa ((0<=y.b/\y.b<=1000)/\1<=s/\s<=3,.int .i64 (aT.fD (pY y.b y.m) (bQ y) s r key).2,(aT.fD (pY y.b y.m) (bQ y) s r key).1)
 |_=>ag⟩
def asw:aea.Ok:=by
 intro ar y p v t hm hp bt bs ms w0 w S;replace hm:(match(generalizing:=false) ar with
  |[.int .i64 s,.int .i64 r,.agg [.cu .u8 32 key]]=>aa ((0<=y.b/\y.b<=1000)/\1<=s/\s<=3,V.int .i64 (aT.fD (pY y.b y.m) (bQ y) s r key).2,(aT.fD (pY y.b y.m) (bQ y) s r key).1)
  |_=>ag)=aa (p,v,t):=hm
 split at hm
 ·rename_i s r key;simp only[a_,bI]at hm;obtain⟨rfl,rfl,rfl⟩:=hm;obtain⟨hb,h1,h3⟩:=hp;rcases(by omega:s=1\/s=2\/s=3)with rfl|rfl|rfl
  ·exact Vs y 0 oM r key (pY y.b y.m) rfl rfl S
  ·exact Vs y 1 oM r key (pY y.b y.m) rfl rfl S
  ·exact Vs y 2 oM r key (pY y.b y.m) rfl rfl S
 ·cases hm
def Jo:dm (Gh fr):=λak bl ch K=>match ak,ch with
 |[.agg [.int .i64 m,.bool o,.cu .u8 8 nc],.raw vk,.int .i64 s,.int .i64 r,.agg [.cu .u8 8 pf]],g::rest=>
  (vk=.slice (g.d.k.ka (s.toNat-1)) (g.d.k.kn (s.toNat-1)) (g.d.k.kc (s.toNat-1))/\bl[0]?=aa (cx g.d.k)/\(1<=s/\s<=3)/\(0<=r/\r<4294967296)/\(1<=g.d.k.kn (s.toNat-1)/\g.d.k.kn (s.toNat-1)<=64))/\
  cond (!o) (K (.aD [.agg [.int .i64 m,.bool o,.cu .u8 8 nc],.agg [.cu .u8 32 λ_=>0],.int .i64 17]) bl (g::rest))
   (cond (AJ (g.d.k.kn (s.toNat-1)) (g.d.k.kf (s.toNat-1)) s r nc pf)
    (K (.aD [.agg [.int .i64 m,.bool ah,.cu .u8 8 λ_=>0],.agg [.cu .u8 32 (l_ (g.d.k.kn (s.toNat-1)) (g.d.k.kf (s.toNat-1)) s r nc)],.int .i64 0]) bl (g::rest))
    (K (.aD [.agg [.int .i64 m,.bool ah,.cu .u8 8 λ_=>0],.agg [.cu .u8 32 λ_=>0],.int .i64 14]) bl (g::rest)))
 |_,_=>False
def asx:gZ (Jo (fr:=fr)):=by
 intro ak bl ch K h;unfold Jo at h⊢;split at h
 ·rename_i m o nc vk s r pf g rest;refine⟨h.1,?_⟩;have h2:=h.2;cases o with
  |false=>exact⟨h2,[],sP⟩
  |true=>
   cases hr:AJ (g.d.k.kn (s.toNat-1)) (g.d.k.kf (s.toNat-1)) s r nc pf with
   |true=>rw[hr]at h2;exact⟨h2,[],sP⟩
   |false=>rw[hr]at h2;exact⟨h2,[],sP⟩
 ·exact h.elim
def asy:Sound du gS 125 (Jo (fr:=fr)):=by
 intro ak ae bl ch R ms w0 w K hg hl S hc;unfold Jo at hc;split at hc
 ·rename_i m o nc vk s r pf g rest;obtain⟨⟨rfl,hr,hs,Ol,hk⟩,hK⟩:=hc;have e0:ax (g::rest) R=g.F.B++ax rest R:=rfl;have S':=S;rw[e0]at S';have hi:s.toNat-1<4:=oM;have AZ:=adT g.F S' (s.toNat-1) hi oM oM;have lH:=adU hg hl S hr;generalize hI:s.toNat-1=i at*;have e:(aJ ae [.agg [.int .i64 m,.bool o,.cu .u8 8 nc],.raw (.slice (g.d.k.ka i) (g.d.k.kn i) (g.d.k.kc i)),.int .i64 s,.int .i64 r,.agg [.cu .u8 8 pf]]).toArray=#[.agg #[.int .i64 m,.bool o,.int .u8 (nc 0),.int .u8 (nc 1),.int .u8 (nc 2),.int .u8 (nc 3),.int .u8 (nc 4),.int .u8 (nc 5),.int .u8 (nc 6),.int .u8 (nc 7)],.slice (g.d.k.ka i) (g.d.k.kn i) (g.d.k.kc i),.int .i64 s,.int .i64 r,.agg (aH .u8 8 pf)]:=kR;rw[e];have Lt:0<=s/\s<4294967296:=oM;cases o with
  |false=>
   refine(am8 (g.d.k.ka i) (g.d.k.kn i) (g.d.k.kc i) (g.d.k.kf i) s r ⟨m,ah,nc⟩ pf rfl w).mono ?_;rintro v w1 ⟨rfl,cz⟩;exact⟨_,[],bl,g::rest,kR,by simpa using hl,by simpa using S.quiet cz,hK⟩
  |true=>
   cases hq:AJ (g.d.k.kn i) (g.d.k.kf i) s r nc pf with
   |true=>
    rw[hq]at hK;refine(am_ (g.d.k.ka i) (g.d.k.kn i) (g.d.k.kc i) (g.d.k.kf i) s r ⟨m,af,nc⟩ pf hk Lt Ol rfl hq w lH AZ).mono ?_;rintro v w1 ⟨rfl,cz⟩;exact⟨.aD [.agg [.int .i64 m,.bool ah,.cu .u8 8 λ_=>0],.agg [.cu .u8 32 (l_ (g.d.k.kn i) (g.d.k.kf i) s r nc)],.int .i64 0],[],bl,g::rest,kR,by simpa using hl,by simpa using S.quiet cz,hK⟩
   |false=>
    rw[hq]at hK;refine(am9 (g.d.k.ka i) (g.d.k.kn i) (g.d.k.kc i) (g.d.k.kf i) s r ⟨m,af,nc⟩ pf hk Lt Ol rfl hq w lH AZ).mono ?_;rintro v w1 ⟨rfl,cz⟩;exact⟨.aD [.agg [.int .i64 m,.bool ah,.cu .u8 8 λ_=>0],.agg [.cu .u8 32 λ_=>0],.int .i64 14],[],bl,g::rest,kR,by simpa using hl,by simpa using S.quiet cz,hK⟩
 ·exact hc.elim
def LP(fr:aQ->Nat×az)(C:aM):List (bT (Gh fr)):=qE (Gh fr) Oj::⟨125,af,Jo⟩::⟨126,ah,Fs aea⟩::L8 fr C
def asz(tk:Nat->az->Option ca)(ht:Body (fr:=fr) 124 dE):aK du gS (LP fr (aO tk)):=
 aK.cons ⟨Mr (ad_ gS),λ_=>Mq _⟩ (aK.cons ⟨asy,λ_=>asx⟩ (aK.cons (VO asw) (Da tk ht)))
def fN(n:Nat)(f:Nat->Int)(t:List aj):VB:=⟨af,⟨5,(0,0)⟩,[.cu .u8 n f,.rest t]⟩
def Wd(k:LK)(s:ai)(n:Nat)(f:Nat->Int)(t:List aj)(Kb:SK fr k):V->List VB->List (Gh fr)->Prop:=λv bl ch=>∃s' F',dg 0 v=af/\s'.c.p=s.c.p/\Kb v s' F'/\bl.take 6=bP k s' F'++[fN n f t]/\ch=[bj k s' F']
def Jp(s:ai)(a b c:fg)(E:aT):ai:={s with c:={s.c with doors:=r3 a b c s.c.doors,ay:=⟨E.dv,r3 (E.aE 0) (E.aE 1) (E.aE 2) s.c.ay.aE⟩}}
def FH(s:ai)(l r:Int)(key:Nat->Int):aT×Int:=aT.fD (pY s.c.p.da s.c.p.jk) (eA s.c.ay) l r key
section
variable(C:aM)(k:LK)(s:ai)(F:bx fr (bd k s))(Kb:SK fr k)(l:Int)(i:Nat)(e:Nat)(f:Nat->Int)(t:List aj)(D:fg->ai)(DT:fg->aT->ai)
def lf(s0:ai)(s':ai)(F':bx fr (bd k s')):Prop:=Wd k s0 10 f t Kb (.aD []) (bP k s' F'++[fN 10 f t]) [bj k s' F']
def lI(d:fg):fg:=⟨d.many,ah,λ_=>0⟩
def We(hD:∀e,bd k (D e)=bd k s)(wL:∀e E,bd k (DT e E)=bd k s):Prop:=
 let d:=s.c.doors i
 let m:=ku 2 f
 let key:=l_ (k.kn i) (k.kf i) l m.role d.aR
 let E:=FH s l m.role key
 (2<=10/\2<=e+10/\By f)/\cond (vo 2 f !=0) (cF k s F/\sH C [.int .i64 l,.int .i64 13] k (bV s) F λv s' F'=>lf k Kb f t s s' F')
 ((tj (k.ka i) (k.kn i) (k.kc i)=.slice (k.ka i) (k.kn i) (k.kc i)/\aa (cx k)=aa (cx k)/\(1<=l/\l<=3)/\(0<=m.role/\m.role<4294967296)/\(1<=k.kn i/\k.kn i<=64))/\
   cond (!d.jG) (cF k (D d) (hD d▸F)/\nz C [.int .i64 l,.int .i64 0,.int .i64 17] k (D d) (hD d▸F) λv s' F'=>lf k Kb f t s s' F')
   (cond (AJ (k.kn i) (k.kf i) l m.role d.aR λj=>f (2+j))
    (True/\cond (!(vV s.c.p l m.role)) (cF k (D (lI d)) (hD (lI d)▸F)/\nz C [.int .i64 l,.int .i64 0,.int .i64 18] k (D (lI d)) (hD (lI d)▸F) λv s' F'=>lf k Kb f t s s' F')
     (((0<=s.c.p.da/\s.c.p.da<=1000)/\1<=l/\l<=3)/\cond (E.2!=0) (cF k (DT (lI d) E.1) (wL (lI d) E.1▸F)/\nz C [.int .i64 l,.int .i64 0,.int .i64 E.2] k (DT (lI d) E.1) (wL (lI d) E.1▸F) λv s' F'=>lf k Kb f t s s' F')
       (cF k (DT (lI d) E.1) (wL (lI d) E.1▸F)/\dE [.int .i64 l,.agg (ny 130 0 m.role s.c.t.aS s.c.t.au 0)] k (DT (lI d) E.1) (wL (lI d) E.1▸F) λv s2 F2=>
        cF k s2 F2/\jm C [.int .i64 3,.int .i64 l,.int .i64 0,.int .i64 0,.int .i64 0] k (bV s2) F2 λv s' F'=>lf k Kb f t s s' F')))
    (cF k (D (lI d)) (hD (lI d)▸F)/\sH C [.int .i64 l,.int .i64 14] k (D (lI d)) (hD (lI d)▸F) λv s' F'=>lf k Kb f t s s' F')))
end
def Wf(fr:aQ->Nat×az)(C:aM)(l:Int)(i:Nat)(D:ai->fg->ai)(DT:ai->fg->aT->ai)(hD:∀k s e,bd k (D s e)=bd k s)(wL:∀k s e E,bd k (DT s e E)=bd k s):Prop:=∀(k:LK)(s:ai)(F:bx fr (bd k s))(Kb:SK fr k)(e:Nat)(f:Nat->Int)(t:List aj),
 bz (bU du gS (LP fr C)) 90 92 [.ptr 2 0,.int .i64 l,.sl 5 0 10 (e+10)] (bP k s F++[fN 10 f t]) [bj k s F] (Wd k s 10 f t Kb)=We C k s F Kb l i e f t (D s) (DT s) (hD k s) (wL k s)
def asA(fr:aQ->Nat×az)(C:aM):Wf fr C 1 0 (λs e=>A0 s e (s.c.doors 1) (s.c.doors 2)) (λs e E=>Jp s e (s.c.doors 1) (s.c.doors 2) E) (λ_ _ _=>rfl) (λ_ _ _ _=>rfl):=λk s F Kb e f t=>kR
def asB(fr:aQ->Nat×az)(C:aM):Wf fr C 2 1 (λs e=>A0 s (s.c.doors 0) e (s.c.doors 2)) (λs e E=>Jp s (s.c.doors 0) e (s.c.doors 2) E) (λ_ _ _=>rfl) (λ_ _ _ _=>rfl):=λk s F Kb e f t=>kR
def asC(fr:aQ->Nat×az)(C:aM):Wf fr C 3 2 (λs e=>A0 s (s.c.doors 0) (s.c.doors 1) e) (λs e E=>Jp s (s.c.doors 0) (s.c.doors 1) e E) (λ_ _ _=>rfl) (λ_ _ _ _=>rfl):=λk s F Kb e f t=>kR
def asD(fr:aQ->Nat×az)(C:aM)(k:LK)(s:ai)(F:bx fr (bd k s))(Kb:SK fr k)(l:Int):bz (bU du gS (LP fr C)) 90 92 [.ptr 2 0,.int .i64 l,.raw (fq k)] (bP k s F) [bj k s F] (cX k s Kb)
 =cond ((k.pn:Int)!=10) (cF k s F/\sH C [.int .i64 l,.int .i64 13] k (bV s) F λv s' F'=>cX k s Kb (.aD []) (bP k s' F') [bj k s' F']) (((0:Int)<=2/\(2:Int)<=(k.pc:Int))/\False):=kR
structure Om(k:LK)(s:ai)(l:Int):Prop where
 r:Rm s 8
 lo:1<=l/\l<=3
 key:1<=k.kn (l.toNat-1)/\k.kn (l.toNat-1)<=64
 ke:s.c.p.k (l.toNat-1)=(k.kn (l.toNat-1),k.kf (l.toNat-1))
 da:0<=s.c.p.da/\s.c.p.da<=1000
 fa:N4 s.c.t.aS
 ep:wD s.c.t.au
def Di(s:ai)(i:Nat)(e:fg)(t:aT):ai:={s with c:={s.c with doors:=λj=>if j=i then e else s.c.doors j,ay:=t}}
def Jq(s:ai)(l r:Int)(key:Nat->Int):(FH s l r key).2=(aT.fD s.c.p s.c.ay l r key).2/\(FH s l r key).1.dv=(aT.fD s.c.p s.c.ay l r key).1.dv/\(1<=l/\l<=3->(∀j,j<3->(FH s l r key).1.aE j=(aT.fD s.c.p s.c.ay l r key).1.aE j)/\∀j,(aT.fD s.c.p s.c.ay l r key).1.aE (j+3)=s.c.ay.aE (j+3)):=by
 have hm:(eA s.c.ay).many=s.c.ay.many:=rfl;have hp:(pY s.c.p.da s.c.p.jk).jk=s.c.p.jk:=rfl;have hb:(pY s.c.p.da s.c.p.jk).da=s.c.p.da:=rfl;have q3:∀j,j<3->(eA s.c.ay).aE j=s.c.ay.aE j:=by
  intro j hj;have:j=0\/j=1\/j=2:=oM;rcases this with rfl|rfl|rfl<;>rfl
 unfold FH aT.fD;rw[I4,hm,hp,hb];split
 ·exact⟨rfl,rfl,λ_=>⟨q3,λ_=>rfl⟩⟩
 ·split
  ·exact⟨rfl,rfl,λ_=>⟨q3,λ_=>rfl⟩⟩
  ·refine⟨rfl,rfl,λhl=>⟨λj hj=>?_,λj=>?_⟩⟩
   ·simp only[aT.ia];split
    ·rfl
    ·exact q3 j hj
   ·simp only[aT.ia];rw[if_neg oM]
def Wg{s:ai}{a b c:fg}{i:Nat}{e:fg}{E t:aT}(hi:i<3)(ha:a=if 0=i then e else s.c.doors 0)(hb:b=if 1=i then e else s.c.doors 1)(hc:c=if 2=i then e else s.c.doors 2)(h1:E.dv=t.dv)(h2:∀j,j<3->E.aE j=t.aE j)(h3:∀j,t.aE (j+3)=s.c.ay.aE (j+3)):Jp s a b c E=Di s i e t:=by
 unfold Jp Di;have h:r3 a b c s.c.doors=λj=>if j=i then e else s.c.doors j:=by
  funext j
  match j with
  |0=>exact ha
  |1=>exact hb
  |2=>exact hc
  |j+3=>exact(if_neg oM).symm
 have e:r3 (E.aE 0) (E.aE 1) (E.aE 2) s.c.ay.aE=t.aE:=by
  funext j
  match j with
  |0=>exact h2 0 dC
  |1=>exact h2 1 dC
  |2=>exact h2 2 dC
  |j+3=>exact(h3 j).symm
 rw[h,e,h1]
def On{k:LK}{s0:ai}{Kb:SK fr k}{f:Nat->Int}{t:List aj}{s' sF:ai}(e:s'=sF)(hK:∀F,Kb (.aD []) sF F)(F':bx fr (bd k s'))(hp:s'.c.p=s0.c.p:=by rfl):lf k Kb f t s0 s' F':=by
 subst e;exact⟨s',F',rfl,hp,hK F',rfl,rfl⟩
def Oo{n:Nat}{f:Nat->Int}(P:ca->Prop):∀(l:List Fd)(off:Nat)(m r:ca),(∀d∈l,∀v,d.low<=v->v<=d.high->∀m,P m->P (d.set v m))->P m->runM n f l off m=aa r->P r
 |[],off,m,r,_,hm,h=>by
  unfold runM at h;split at h
  ·cases h;exact hm
  ·cases h
 |d::l,off,m,r,hd,hm,h=>by
  unfold runM at h;split at h
  ·cases h
  ·split at h
   ·cases h
   ·rename_i hv;exact Oo P l _ _ r (λx hx=>hd x (by simp[hx])) (hd d sP _ oM oM m hm) h
structure Oq(k:Int)(m:ca):Prop where
 kind:m.kind=k
 seq:0<=m.seq/\m.seq<=4294967295
 role:0<=m.role/\m.role<=3
 bC:0<=m.bC/\m.bC<=4
 au:0<=m.au/\m.au<=65535
 mode:0<=m.mode/\m.mode<=4
 cls:0<=m.cls/\m.cls<=3
def okB(d:Fd):Prop:=∀v,d.low<=v->v<=d.high->∀k m,Oq k m->Oq k (d.set v m)
def asE:okB CM:=λv h1 h2 k m h=>⟨h.kind,h.seq,⟨h1,h2⟩,h.bC,h.au,h.mode,h.cls⟩
def asF:okB kp:=λv h1 h2 k m h=>⟨h.kind,⟨h1,h2⟩,h.role,h.bC,h.au,h.mode,h.cls⟩
def asG:okB Fg:=λv h1 h2 k m h=>⟨h.kind,h.seq,h.role,⟨h1,h2⟩,h.au,h.mode,h.cls⟩
def asH:okB sj:=λv h1 h2 k m h=>⟨h.kind,h.seq,h.role,h.bC,⟨h1,h2⟩,h.mode,h.cls⟩
def asI:okB Fh:=λv h1 h2 k m h=>⟨h.kind,h.seq,h.role,h.bC,h.au,⟨h1,h2⟩,h.cls⟩
def asJ:okB wz:=λv h1 h2 k m h=>⟨h.kind,h.seq,h.role,h.bC,h.au,h.mode,⟨vM dC h1,h2⟩⟩
def asK:okB Fi:=λv h1 h2 k m h=>⟨h.kind,h.seq,h.role,h.bC,h.au,h.mode,h.cls⟩
def aeb(i:Nat)(hi:i<4)(v:Int)(m:ca):((fX i).set v m).kind=m.kind/\((fX i).set v m).seq=m.seq/\((fX i).set v m).role=m.role/\((fX i).set v m).bC=m.bC/\((fX i).set v m).au=m.au/\((fX i).set v m).mode=m.mode/\((fX i).set v m).cls=m.cls:=by
 have:i=0\/i=1\/i=2\/i=3:=oM;rcases this with rfl|rfl|rfl|rfl<;>exact⟨rfl,rfl,rfl,rfl,rfl,rfl,rfl⟩
def Ot(i:Nat)(hi:i<4):okB (fX i):=λv h1 h2 k m h=>by
 obtain⟨a,b,c,d,e,g,j⟩:=aeb i hi v m;exact⟨a.trans h.kind,by rw[b];exact h.seq,by rw[c];exact h.role,by rw[d];exact h.bC,by rw[e];exact h.au,by rw[g];exact h.mode,by rw[j];exact h.cls⟩
def z0(n:Int)(h:0<=n):(0:Int)<=0/\(0:Int)<=n:=⟨uy 0,h⟩
def asL(k:Int):Oq k (xI k):=⟨rfl,z0 _ dC,z0 _ dC,z0 _ dC,z0 _ dC,z0 _ dC,z0 _ dC⟩
def asM{k:Int}{l:List Fd}(h:vn k=aa l):∀d∈l,okB d:=by
 have a1:=asE;have a2:=asF;have a3:=asG;have a4:=asH;have a5:=asI;have a6:=asJ;have a7:=asK
 have b0:=Ot 0 dC;have b1:=Ot 1 dC;have b2:=Ot 2 dC;have b3:=Ot 3 dC
 unfold vn at h
 repeat' split at h
 all_goals first|(cases h;done)|(obtain rfl:=cP h;intro d hd;simp at hd;rcases hd with rfl|rfl|rfl|rfl|rfl|rfl|rfl<;>assumption)|(obtain rfl:=cP h;intro d hd;simp at hd;rcases hd with rfl|rfl|rfl<;>assumption)|(obtain rfl:=cP h;intro d hd;simp at hd;rcases hd with rfl|rfl<;>assumption)|(obtain rfl:=cP h;intro d hd;simp at hd;subst hd;assumption)
def asN{k:Int}{l:List Fd}(h:vn k=aa l):1<=k/\k<=11:=by
 unfold vn at h
 repeat' split at h
 all_goals first|(cases h;done)|omega
def Wh{n:Nat}{f:Nat->Int}{m:ca}(h:aU n f=aa m):Sd.u9 m:=by
 unfold aU at h;split at h
 ·cases h
 ·split at h
  ·rename_i l hl;have hb:=Oo (Oq (f 0)) l 1 _ m (λd hd v h1 h2 m hm=>asM hl d hd v h1 h2 _ m hm) (asL _) h;have hk:=asN hl;refine⟨by rw[hb.kind];exact hk,hb.seq,hb.role,hb.bC,hb.au,hb.mode,hb.cls,?_⟩;intro oq;rw[hb.kind]at oq;have asO:l=[kp,sj,wz,fX 0,fX 1,fX 2,fX 3]:=by
    rw[oq]at hl;exact(cP hl).symm
   subst asO;unfold runM at h;split at h
   ·cases h
   split at h
   ·cases h
   unfold runM at h;split at h
   ·cases h
   split at h
   ·cases h
   unfold runM at h;split at h
   ·cases h
   split at h
   ·cases h
   rename_i hv;refine Oo (λm=>1<=m.cls) _ _ _ m ?_ ?_ h
   ·intro d hd v _ _ m hm;have:∃i,i<4/\d=fX i:=by
     simp at hd;rcases hd with rfl|rfl|rfl|rfl
     ·exact⟨0,dC,rfl⟩
     ·exact⟨1,dC,rfl⟩
     ·exact⟨2,dC,rfl⟩
     ·exact⟨3,dC,rfl⟩
    obtain⟨i,hi,rfl⟩:=this;show 1<=((fX i).set v m).cls;rw[(aeb i hi v m).2.2.2.2.2.2];exact hm
   ·have h1:wz.low=1:=rfl;have:∀v m,(wz.set v m).cls=v:=λv m=>rfl;show 1<=(wz.set _ _).cls;rw[this];omega
  ·cases h
def asP{n:Nat}{f:Nat->Int}(h:aU n f≠ag):0<=(ku n f).role/\(ku n f).role<=3:=by
 unfold ku;cases hh:aU n f with
 |some m=>exact(Wh hh).role
 |none=>exact absurd hh h
def aec{n:Nat}{f:Nat->Int}(h:(vo n f !=0)=ah):aU n f=aa (ku n f):=by
 unfold vo at h;unfold ku;cases hh:aU n f with
 |some m=>rfl
 |none=>rw[hh]at h;simp at h
def aed{n:Nat}{f:Nat->Int}(h:(vo n f !=0)=af):aU n f=ag:=by
 unfold vo at h;cases hh:aU n f with
 |some m=>rw[hh]at h;simp at h
 |none=>rfl
def Wi{k:LK}{s:ai}{F:bx fr (bd k s)}{Kb:SK fr k}{l:Int}{i e:Nat}{f:Nat->Int}{t:List aj}{D:fg->ai}{DT:fg->aT->ai}{hD:∀e,bd k (D e)=bd k s}{wL:∀e E,bd k (DT e E)=bd k s}
 (A1:∀e,D e=sR s i e) (Wj:∀e r key,DT e (FH s l r key).1=Di s i e (aT.fD s.c.p s.c.ay l r key).1) (hi:l.toNat-1=i) (h3:i<3) (hq:s.c.p.queue=k.most) (hP:Om k s l) (hf:By f) (hK:∀F',Kb (.aD []) (s.prove (aO aU) l 10 f) F'):
 We (aO aU) k s F Kb l i e f t D DT hD wL:=by
 subst hi;have Wk:=hP.r;have hKk:s.c.p.k (l.toNat-1)=(k.kn (l.toNat-1),k.kf (l.toNat-1)):=hP.ke;have Wl:∀(x:ai)(hx:bd k x=bd k s)(c:Int)(sF:ai),x.c.p=s.c.p->N8 c->x.refuse (aO aU) l 0 c=sF->(∀F,Kb (.aD []) sF F)->cF k x (hx▸F)/\nz (aO aU) [.int .i64 l,.int .i64 0,.int .i64 c] k x (hx▸F) λv s' F'=>lf k Kb f t s s' F':=by
  intro x hx c sF hp hc hE Wm;have hs:x.bE=s.bE:=congrArg FD.bE hx;have hr:x.aY=s.aY:=congrArg FD.aY hx;refine⟨cV (by rw[hp];exact hq),⟨⟨by rw[hs];have:=Wk.1;omega,by rw[hr];have:=Wk.2;omega⟩,yT,hc⟩,λF1=>On hE Wm F1 hp⟩
 have asQ:∀(x:ai)(hx:bd k x=bd k s)(c:Int)(sF:ai),x.c.p=s.c.p->x.jW (aO aU) l c=sF->(∀F,Kb (.aD []) sF F)->cF k x (hx▸F)/\sH (aO aU) [.int .i64 l,.int .i64 c] k x (hx▸F) λv s' F'=>lf k Kb f t s s' F':=by
  intro x hx c sF hp hE Wm;have hr:x.aY=s.aY:=congrArg FD.aY hx;exact⟨cV (by rw[hp];exact hq),by show x.aY.length<=1000;rw[hr];have:=Wk.2;omega,λF1=>On hE Wm F1 hp⟩
 have hpr:s.prove (aO aU) l 10 f=match aU 2 f with
  |none=>s.jW (aO aU) l 13
  |some m=>if(s.c.doors (l.toNat-1)).jG=ah then s.refuse (aO aU) l 0 17
   else if AJ (k.kn (l.toNat-1)) (k.kf (l.toNat-1)) l m.role (s.c.doors (l.toNat-1)).aR (λj=>f (2+j))=ah then(sR s (l.toNat-1) (lI (s.c.doors (l.toNat-1)))).jW (aO aU) l 14
   else if vV s.c.p l m.role=ah then(sR s (l.toNat-1) (lI (s.c.doors (l.toNat-1)))).refuse (aO aU) l 0 18
   else if(aT.fD s.c.p s.c.ay l m.role (l_ (k.kn (l.toNat-1)) (k.kf (l.toNat-1)) l m.role (s.c.doors (l.toNat-1)).aR)).2≠0 then(sR s (l.toNat-1) (lI (s.c.doors (l.toNat-1)))).refuse (aO aU) l 0 (aT.fD s.c.p s.c.ay l m.role (l_ (k.kn (l.toNat-1)) (k.kf (l.toNat-1)) l m.role (s.c.doors (l.toNat-1)).aR)).2
   else((Di s (l.toNat-1) (lI (s.c.doors (l.toNat-1))) (aT.fD s.c.p s.c.ay l m.role (l_ (k.kn (l.toNat-1)) (k.kf (l.toNat-1)) l m.role (s.c.doors (l.toNat-1)).aR)).1).tell l ⟨130,0,m.role,s.c.t.aS,s.c.t.au,0,λ_=>0⟩).record (aO aU) 3 l 0 0 0:=by
  unfold ai.prove;rw[if_neg dC];show(match aU 2 f with|none=>_|some m=>_)=_;cases aU 2 f with
  |none=>rfl
  |some m=>
   simp only[aO,hKk];rfl
 unfold We;refine⟨⟨dC,oM,hf⟩,aN (λe=>?_) (λe=>?_)⟩
 ·rw[hpr,aed e]at hK;exact⟨cV hq,I6 hP.r.r1 λF1=>On rfl hK F1⟩
 ·have hm:=aec e;have aee:=asP (n:=2) (f:=f) (by rw[hm];simp);rw[hpr,hm]at hK;simp only at hK;refine⟨⟨rfl,rfl,hP.lo,⟨aee.1,oM⟩,hP.key⟩,aN (λe1=>?_) (λe1=>aN (λe2=>⟨trivial,aN (λe3=>?_) (λe3=>⟨⟨hP.da,hP.lo⟩,aN (λe4=>?_) (λe4=>?_)⟩)⟩) (λe2=>?_))⟩
  ·rw[if_pos (by simpa using e1)]at hK;refine Wl _ (hD _) 17 _ (by rw[A1];rfl) ⟨dC,dC⟩ ?_ hK;rw[A1];have:sR s (l.toNat-1) (s.c.doors (l.toNat-1))=s:=by
    unfold sR;have:(λj=>if j=l.toNat-1 then s.c.doors (l.toNat-1)else s.c.doors j)=s.c.doors:=by funext j;split<;>simp_all
    rw[this]
   rw[this]
  ·rw[if_neg (by simpa using e1),if_neg (by rw[e2];decide),if_pos (by simpa using e3)]at hK;exact Wl _ (hD _) 18 _ (by rw[A1];rfl) ⟨dC,dC⟩ (by rw[A1]) hK
  ·obtain⟨b2,b1,b3⟩:=Jq s l (ku 2 f).role (l_ (k.kn (l.toNat-1)) (k.kf (l.toNat-1)) l (ku 2 f).role (s.c.doors (l.toNat-1)).aR);rw[b2]at e4⊢;have e4':(aT.fD s.c.p s.c.ay l (ku 2 f).role (l_ (k.kn (l.toNat-1)) (k.kf (l.toNat-1)) l (ku 2 f).role (s.c.doors (l.toNat-1)).aR)).2≠0:=by simpa using e4
   rw[if_neg (by simpa using e1),if_neg (by rw[e2];decide),if_neg (by simpa using e3),if_pos e4']at hK;have hbg:(aT.fD s.c.p s.c.ay l (ku 2 f).role (l_ (k.kn (l.toNat-1)) (k.kf (l.toNat-1)) l (ku 2 f).role (s.c.doors (l.toNat-1)).aR)).1=s.c.ay/\N8 (aT.fD s.c.p s.c.ay l (ku 2 f).role (l_ (k.kn (l.toNat-1)) (k.kf (l.toNat-1)) l (ku 2 f).role (s.c.doors (l.toNat-1)).aR)).2:=by
    revert e4';unfold aT.fD;split
    ·intro _;exact⟨rfl,(show N8 1 from⟨dC,dC⟩)⟩
    ·split
     ·intro _;exact⟨rfl,(show N8 19 from⟨dC,dC⟩)⟩
     ·intro h;exact absurd rfl h
   refine Wl _ (wL _ _) _ _ (by rw[Wj];rfl) hbg.2 ?_ hK;rw[Wj,hbg.1];rfl
  ·obtain⟨b2,b1,b3⟩:=Jq s l (ku 2 f).role (l_ (k.kn (l.toNat-1)) (k.kf (l.toNat-1)) l (ku 2 f).role (s.c.doors (l.toNat-1)).aR);rw[b2]at e4;rw[if_neg (by simpa using e1),if_neg (by rw[e2];decide),if_neg (by simpa using e3),if_neg (by simpa using e4)]at hK;have key:∀(x:ai)(hx:bd k x=bd k s),x=Di s (l.toNat-1) (lI (s.c.doors (l.toNat-1))) (aT.fD s.c.p s.c.ay l (ku 2 f).role (l_ (k.kn (l.toNat-1)) (k.kf (l.toNat-1)) l (ku 2 f).role (s.c.doors (l.toNat-1)).aR)).1->
    (cF k x (hx▸F)/\dE [.int .i64 l,.agg (ny 130 0 (ku 2 f).role s.c.t.aS s.c.t.au 0)] k x (hx▸F) λv s2 F2=>cF k s2 F2/\jm (aO aU) [.int .i64 3,.int .i64 l,.int .i64 0,.int .i64 0,.int .i64 0] k (bV s2) F2 λv s' F'=>lf k Kb f t s s' F'):=by
    rintro x hx rfl;refine⟨cV hq,⟨⟨(show Rm (Di s _ _ _) 8 from hP.r).le dC,⟨(show(129:Int)<=130/\(130:Int)<=136 by decide),⟨yT,.inr rfl⟩,⟨aee,.inl rfl⟩,⟨hP.fa,.inl (.inl rfl)⟩,⟨hP.ep,.inl (.inl rfl)⟩,⟨(show N8 0 from⟨dC,dC⟩),.inr rfl⟩,⟨λj=>(show(0:Int)<=0/\(0:Int)<=255 from⟨dC,dC⟩),.inr rfl⟩⟩⟩,λF2=>⟨cV hq,nA ?_ λF3=>On rfl hK F3⟩⟩⟩;have:=hP.r.2;simp only[ai.tell,Di];omega
   exact key _ (wL _ _) (Wj _ _ _)
  ·rw[if_neg (by simpa using e1),if_pos e2]at hK;exact asQ _ (hD _) 14 _ (by rw[A1];rfl) (by rw[A1]) hK
def mq(k:LK):LK:={k with px:=ag,pn:=0,pc:=0}
def Jr(C:aM):SM fr:=λar k s F K=>match ar with
 |[.int .i64 l,.raw vp]=>(vp=fq k/\Om k s l/\By k.pf)/\∀F',K (.aD []) (s.prove C l k.pn k.pf) F'
 |_=>False
def aef(a b c:Nat)(aq:List Nat):Gl gS (cv a b c++aq):=by
 intro g i dz;unfold gS at dz;split at dz
 ·obtain rfl:=cP dz;exact⟨sP,rfl⟩
 ·obtain rfl:=cP dz;exact⟨sP,rfl⟩
 ·cases dz
def asR{k:LK}{s:ai}(F:bx fr (bd k s))(h0:0<k.pn):∃(bp:Nat)(t:List aj)(F0:bx fr (bd (mq k) s)),k.px=aa ⟨bp,0,ag⟩/\k.pn<=k.pc/\F0.vs=F.vs/\F0.vr=F.vr/\F.B=F0.B++[⟨bp,af,.cells (ao [] (fN k.pn k.pf t).c).toArray 5 (0,0)⟩]/\
 (ao [] (fN k.pn k.pf t).c).toArray=bM k.pn k.pf k.pc:=by
 obtain⟨b0,b1,b2,b3,b4,hB,k0,k1,k2,k3,k4⟩:=F.hk;obtain⟨hle,h|⟨bp,hx,hb⟩⟩:=k4
 ·have:=h.2.1;simp only[bd]at this;omega
 ·have e:(ao [] (fN k.pn k.pf (oE (k.pc-k.pn) (.int .u8 0))).c).toArray=bM k.pn k.pf k.pc:=by
   simp[fN,ao,cl,bM,cQ]
  refine⟨bp,oE (k.pc-k.pn) (.int .u8 0),{F with Bk:=b0++(b1++(b2++(b3++[]))),hk:=⟨b0,b1,b2,b3,[],rfl,k0,k1,k2,k3,⟨cW _,.inl ⟨rfl,rfl,rfl,rfl⟩⟩⟩},hx,hle,rfl,rfl,?_,e⟩;rw[e,ua,ua];show _=(F.Br++(F.Bs++(F.Bf++(F.Bq++(b0++(b1++(b2++(b3++[]))))))))++_;rw[hB,hb];simp[bZ,bd]
def asS{k:LK}{s:ai}(F0:bx fr (bd (mq k) s)){bp:Nat}(hx:k.px=aa ⟨bp,0,ag⟩)(hle:k.pn<=k.pc):∃F:bx fr (bd k s),F.vs=F0.vs/\F.vr=F0.vr/\F.B=F0.B++[⟨bp,af,.cells (bM k.pn k.pf k.pc) 5 (0,0)⟩]:=by
 obtain⟨b0,b1,b2,b3,b4,hB,k0,k1,k2,k3,k4⟩:=F0.hk;have h4:b4=[]:=by
  obtain⟨_,h|⟨b,hx,_⟩⟩:=k4
  ·exact h.2.2.2
  ·cases hx
 subst h4;refine⟨{F0 with Bk:=b0++(b1++(b2++(b3++[⟨bp,af,.cells (bM k.pn k.pf k.pc) 5 (0,0)⟩]))),hk:=⟨b0,b1,b2,b3,_,rfl,k0,k1,k2,k3,⟨hle,.inr ⟨bp,hx,rfl⟩⟩⟩},rfl,rfl,?_⟩;rw[ua,ua];show(F0.Br++(F0.Bs++(F0.Bf++(F0.Bq++(b0++(b1++(b2++(b3++[(⟨bp,af,.cells (bM k.pn k.pf k.pc) 5 (0,0)⟩:av)]))))))))=_;rw[hB];simp[bZ]
def aeg{k:LK}{s:ai}(F:bx fr (bd k s))(F0:bx fr (bd (mq k) s))(h1:F0.vs=F.vs)(h2:F0.vr=F.vr):bP (mq k) s F0=bP k s F:=by
 have e:vb 3 F0=vb 3 F:=by unfold vb;rw[h1,h2]
 show[cx (mq k),g_ (mq k),vb 3 F0,fM (mq k) 4 s,fA s]=_;rw[e];rfl
def asT(ht:Body (fr:=fr) 124 dE):Body (fr:=fr) 92 (Jr (aO aU)):=by
 intro ar k s F Kb a b c R ms w0 w h0 hq hM S;unfold Jr at hM;split at hM
 ·rename_i l vp;obtain⟨⟨rfl,hP,hf⟩,hK⟩:=hM;have Wo:=asz (fr:=fr) aU ht;by_cases hn:k.pn=10
  ·obtain⟨bp,t,F0,hx,hle,v1,v2,hB,lJ⟩:=asR F oM;obtain⟨e,he⟩:∃e,k.pc=e+10:=⟨k.pc-10,oM⟩;rw[hn]at hB lJ hK;have eP:lits (cv a b c++[bp]) (cv a b c++[bp]) (bP (mq k) s F0++[fN 10 k.pf t])=lits (cv a b c) (cv a b c) (bP k s F)++[⟨bp,af,.cells (ao [] (fN 10 k.pf t).c).toArray 5 (0,0)⟩]:=by
    rw[aeg F F0 v1 v2,fw _ _ _ _ rfl,fy (ae:=cv a b c) (aq:=[bp]) (cv a b c) (bP k s F) rfl];rfl
   have S1:St ms w0 (lits (cv a b c++[bp]) (cv a b c++[bp]) (bP (mq k) s F0++[fN 10 k.pf t])++ax [bj (mq k) s F0] R) w:=by
    rw[eP];have en:ax [bj (mq k) s F0] R=F0.B++R:=rfl;rw[en];rw[hB]at S;refine S.perm ?_;rw[bZ,bZ];refine j8 _ ?_;exact rG _ _ _
   have cT:bz (bU du gS (LP fr (aO aU))) 90 92 [.ptr 2 0,.int .i64 l,.sl 5 0 10 (e+10)] (bP (mq k) s F0++[fN 10 k.pf t]) [bj (mq k) s F0] (Wd (mq k) s 10 k.pf t λv s' _=>∀F',Kb v s' F'):=by
    have Wp:Om (mq k) s l:=⟨hP.r,hP.lo,hP.key,hP.ke,hP.da,hP.fa,hP.ep⟩;have hl:l=1\/l=2\/l=3:=by have:=hP.lo;omega
    have sd:∀F0':bx fr (bd (mq k) (s.prove (aO aU) l 10 k.pf)),∀F',Kb (.aD []) (s.prove (aO aU) l 10 k.pf) F':=λ_=>hK;rcases hl with rfl|rfl|rfl
    ·rw[asA];refine Wi (λe=>y9 (i:=0) dC rfl rfl rfl) (λe r key=>?_) rfl dC hq Wp hf sd;obtain⟨_,b1,b3⟩:=Jq s 1 r key;exact Wg (i:=0) dC rfl rfl rfl b1 (b3 dC).1 (b3 dC).2
    ·rw[asB];refine Wi (λe=>y9 (i:=1) dC rfl rfl rfl) (λe r key=>?_) rfl dC hq Wp hf sd;obtain⟨_,b1,b3⟩:=Jq s 2 r key;exact Wg (i:=1) dC rfl rfl rfl b1 (b3 dC).1 (b3 dC).2
    ·rw[asC];refine Wi (λe=>y9 (i:=2) dC rfl rfl rfl) (λe r key=>?_) rfl dC hq Wp hf sd;obtain⟨_,b1,b3⟩:=Jq s 3 r key;exact Wg (i:=2) dC rfl rfl rfl b1 (b3 dC).1 (b3 dC).2
   have ea:(aJ (cv a b c) (.ptr 2 0::[.int .i64 l,.raw (fq k)])).toArray=(aJ (cv a b c++[bp]) [.ptr 2 0,.int .i64 l,.sl 5 0 10 (e+10)]).toArray:=by
    have:fq k=.slice (aa ⟨bp,0,ag⟩) 10 (e+10):=by unfold fq;rw[hx,hn,he]
    rw[this];rfl
   rw[ea];refine(eO Wo.T Wo.Q 90 (C:=bU du gS (LP fr (aO aU))) (aef a b c [bp]) rfl S1 cT).mono ?_;rintro v w' ⟨x,aq,b9,ce,rfl,h1,S',s',F',hv,hp,Wq,hb,rfl⟩;have ev:den (cv a b c++[bp]++aq) x=den [] x:=by have:=gX (ae:=[]) (aq:=cv a b c++[bp]++aq) x hv;simpa using this
   rw[<-hn]at lJ;obtain⟨F2,u1,u2,H9⟩:=asS F' hx hle;refine⟨x,s',F2,ev,hv,hp,Wq F2,?_⟩;have qh:b9=(bP (mq k) s' F'++[fN 10 k.pf t])++b9.drop 6:=by rw[<-hb,jR]
   rw[qh]at S';have e2:lits (cv a b c++[bp]++aq) (cv a b c++[bp]++aq) ((bP (mq k) s' F'++[fN 10 k.pf t])++b9.drop 6)=(lits (cv a b c) (cv a b c) (bP k s' F2)++[⟨bp,af,.cells (ao [] (fN 10 k.pf t).c).toArray 5 (0,0)⟩])++lits (cv a b c++[bp]++aq) aq (b9.drop 6):=by
    rw[fw _ _ _ _ rfl,fy (ae:=cv a b c++[bp]) (aq:=aq) (cv a b c++[bp]) _ rfl];rw[<-aeg F2 F' u1.symm u2.symm,fw _ _ _ _ rfl,fy (ae:=cv a b c) (aq:=[bp]) (cv a b c) (bP (mq k) s' F') rfl];rfl
   rw[e2]at S';have e3:ax [bj (mq k) s' F'] R=F'.B++R:=rfl;rw[e3]at S';have S2:=S'.sub (bs':=(lits (cv a b c) (cv a b c) (bP k s' F2)++[⟨bp,af,.cells (ao [] (fN 10 k.pf t).c).toArray 5 (0,0)⟩])++(F'.B++R)) (by
    rw[bZ (lits _ _ _++_)];exact mV (kM _ _) _)
   rw[H9];rw[hn]at lJ⊢;rw[lJ]at S2;refine S2.perm ?_;rw[bZ,bZ];refine j8 _ ?_;exact rG _ _ _
  ·refine mQ (M:=λar k s F K=>(ar=[.int .i64 l,.raw (fq k)]/\k.pn≠10/\s.aY.length<=1000)/\∀F',K (.aD []) (s.jW (aO aU) l 13) F') (n:=90) Wo ?_ _ k s F Kb a b c R ms w0 w h0 hq ⟨⟨rfl,hn,by have:=hP.r.2;omega⟩,?_⟩ S
   ·rintro ar k s F Kb _ hq ⟨⟨rfl,hn,hr⟩,hK⟩;rw[asD];refine aN (λe=>⟨cV hq,I6 hr λF1=>eW rfl hK F1⟩) (λe=>?_);have:(k.pn:Int)=10:=by simpa using e
    omega
   ·have:s.prove (aO aU) l k.pn k.pf=s.jW (aO aU) l 13:=by unfold ai.prove;rw[if_pos hn]
    rw[this]at hK;exact hK
 ·exact hM.elim
end
section
def gR:Nat->Option Nat
 |0=>aa 0
 |_=>ag
def Ws:QF:=⟨128,λak _=>match ak with
 |[.agg wl,.int .i64 n]=>(match Uv wl with
  |some z=>aa ((0<=z.high/\z.high<=4294967295)/\(0<=n/\n<=4294967295),.aD [.agg (ac6 (fU z n)),.bool (IB (fU z n) z)])
  |none=>ag)
 |_=>ag⟩
def asU(gl:Nat->Option Nat):Ws.Ok du gl:=by
 intro ak bl p v h hp ae w _ _;unfold Ws at h;dsimp only at h;split at h
 ·rename_i wl n;split at h
  ·rename_i z hz;simp only[a_,bI]at h;obtain⟨rfl,rfl⟩:=h;obtain rfl:=anT hz;exact told (anc z n hp.1 hp.2 w)
  ·cases h
 ·cases h
def Wt{G:Type}(k:LK):dm G:=λak bl ch K=>match ak with
 |[.agg [.cu .u8 32 key],.int .i64 l,.sl i 0 n c]=>(match bl[i]?with
  |some b=>(match b.c with
   |[.cu .u8 n' f,.rest t]=>cond (Ab b.ty 5&&bY bl.length bl) ((bl[0]?=aa (cx k)/\n=n'/\n<=58/\n<=c/\(0<=l/\l<4294967296))/\
    ((n<8\/n_ key l (n-8) f=ah)->K (.aD [.raw (.slice ag 0 0),.int .i64 14]) bl ch)/\
    (8<=n->n_ key l (n-8) f=af->(n=8->∀(x:Option aF)(c':Nat),K (.aD [.raw (.slice x 0 c'),.int .i64 0]) bl ch)/\
     (8<n->∀(c':Nat)(t':List aj),n-8<=c'->K (.aD [.sl bl.length 0 (n-8) c',.int .i64 0]) (bl++[fN (n-8) f t']) ch))) False
   |_=>False)
  |none=>False)
 |[.agg [.cu .u8 32 key],.int .i64 l,.raw (.slice x 0 c)]=>K (.aD [.raw (.slice ag 0 0),.int .i64 14]) bl ch
 |_=>False
def asV{G:Type}[Bl G](k:LK):Sound (G:=G) du gR 127 (Wt k):=by
 intro ak ae bl ch R ms w0 w K hg hl S hc;unfold Wt at hc;split at hc
 ·rename_i key l i n c;split at hc
  ·rename_i b hb;split at hc
   ·rename_i n' f t hbc;cases hq:Ab b.ty 5&&bY bl.length bl with
    |false=>rw[hq]at hc;exact hc.elim
    |true=>
     rw[hq]at hc;simp only[cond_true]at hc;simp only[bJ]at hq;obtain⟨⟨hr,rfl,hn,kD,xK⟩,iL,Js⟩:=hc;have aV:=(gp hl S hb).2;rw[hbc,Ro hq.1]at aV;have lH:w.heap[0]?=aa (.cells (aH .u32 64 c9) k.tg (0,0)):=by
      have h1:=(gp hl S hr).2;rw[(hg 0 0 rfl).2]at h1;have e:(ao ae (cx k).c).toArray=aH .u32 64 c9:=kR;rw[e]at h1;exact h1
     have h8:cJ w (ae.getD i 0) 0 n f:=by
      intro j hj;rw[cell_of aV];have e:(ao ae [V.cu .u8 n f,.rest t]).toArray=((bg n).map (λj=>fI .u8 (f j))++t).toArray:=by simp[ao,cl]
      rw[e];simp only[d_,j7];rw[gB (by simpa using hj),kA,pr hj];rfl
     have ea:(aJ ae [.agg [.cu .u8 32 key],.int .i64 l,.sl i 0 n c]).toArray=#[.agg (aH .u8 32 key),.int .i64 l,.slice (aa ⟨ae.getD i 0,0,ag⟩) n c]:=kR;rw[ea];have fin:∀{v:aj}{w1:an},v=.tuple #[.slice ag 0 0,.int .i64 14]->Ch [] w w1->K (.aD [.raw (.slice ag 0 0),.int .i64 14]) bl ch->∃x aq b9 ce,v=den (ae++aq) x/\(ae++aq).length=b9.length/\St ms w0 (lits (ae++aq) (ae++aq) b9++ax ce R) w1/\K x b9 ce:=by
      rintro v w1 rfl cz hk;exact⟨_,[],bl,ch,by simp[den,aJ],by simpa using hl,by simpa using S.quiet cz,hk⟩
     rcases di n 8 with h|h
     ·exact(ach key l _ n c h w).mono λv w1 ⟨hv,cz⟩=>fin hv cz (iL (.inl h))
     ·obtain⟨m,rfl⟩:∃m,n=m+8:=⟨n-8,oM⟩;rw[Nat.add_sub_cancel]at iL Js;cases ho:n_ key l m f with
      |false=>exact(alZ key l _ 0 m c f oM kD xK ho w lH h8).mono λv w1 ⟨hv,cz⟩=>fin hv cz (iL (.inr ho))
      |true=>
       refine(al0 key l _ 0 m c f oM kD xK ho w lH h8).mono ?_;rintro v w1 ⟨x1,c1,jX,rfl,Wu,S1⟩;obtain⟨y0,y1⟩:=Js h ho;have hS:=S.quiet S1.ch;rcases uu m with rfl|h0
       ·exact⟨_,[],bl,ch,by simp[den,aJ],by simpa using hl,by simpa using hS,y0 rfl x1 c1⟩
       ·obtain⟨bn,hle,rfl,rfl⟩:=G9 Wu h0;refine⟨_,[bn],_,ch,?_,by simp[hl],?_,y1 oM c1 (oE (c1-m) (.int .u8 0)) hle⟩
        ·simp only[den,aJ];rw[<-hl,lY]
        ·rw[fw _ _ _ _ hl,fy _ _ (by rw[hl];exact hq.2)];have e2:lits (ae++[bn]) [bn] [fN m f (oE (c1-m) (.int .u8 0))]=[⟨bn,af,.cells (bM m f c1) 5 (0,0)⟩]:=by
          simp[lits,aI,fN,ao,cl,bM,cQ]
         rw[e2];have asW:=S1.nN (x:=⟨bn,af,.cells (bM m f c1) 5 (0,0)⟩) sP rfl;have fJ:w.heap.size<=bn:=by rcases asW with h|h;cases h;exact h
         have:=S.new S1.ch fJ (S1.at' (x:=⟨bn,af,.cells (bM m f c1) 5 (0,0)⟩) sP);refine this.perm ?_;rw[bZ];exact kY.symm
   ·exact hc.elim
  ·exact hc.elim
 ·rename_i key l x c;have ea:(aJ ae [.agg [.cu .u8 32 key],.int .i64 l,.raw (.slice x 0 c)]).toArray=#[.agg (aH .u8 32 key),.int .i64 l,.slice x 0 c]:=kR;rw[ea];refine(ach key l x 0 c dC w).mono ?_;rintro v w1 ⟨rfl,cz⟩;exact⟨_,[],bl,ch,by simp[den,aJ],by simpa using hl,by simpa using S.quiet cz,hc⟩
 ·exact hc.elim
def LO(k:LK):List (bT Empty):=⟨127,ah,Wt k⟩::qL Empty (Oj::Ws::QV)
def Ou(k:LK):aK du gR (LO k):=aK.cons ⟨asV k,λe=>by cases e⟩ (kG (bW.cons (ad_ gR) (bW.cons (asU gR) (AQ gR))))
def iU(e:Int):V:=.aD [.agg (dw (xI 0)),.int .i64 e]
def Jt(w:jF)(b:Int)(m:ca)(e:Int)(X:V->Option (jF×Sd.Timer)->Prop):Prop:=
 cond (e !=0) (X (iU 13) ag) (cond (m.kind==1) (X (iU 13) ag) (cond (m.kind==2) (X (iU 13) ag)
  (((0<=w.high/\w.high<=4294967295)/\(0<=m.seq/\m.seq<=4294967295))/\cond (!(IB (fU w m.seq) w)) (X (iU 15) ag)
    ((dQ b)/\X (.aD [.agg (dw m),.int .i64 0]) (aa (fU w m.seq,Sd.Timer.start b))))))
def Ju(k:LK)(s:gL)(b l:Int)(n c:Nat)(f:Nat->Int)(X:V->Option (jF×Sd.Timer)->Prop):Prop:=
 cond (!s.on) (X (iU 16) ag) ((aa (cx k)=aa (cx k)/\n=n/\n<=58/\n<=c/\(0<=l/\l<4294967296))/\
  ((n<8\/n_ s.key l (n-8) f=ah)->X (iU 14) ag)/\
  (8<=n->n_ s.key l (n-8) f=af->(n=8->∀(x:Option aF)(c':Nat),True/\Jt s.seen b (ku 0 λ_=>0) (vo 0 λ_=>0) X)/\
   (8<n->∀(c':Nat)(t':List aj),n-8<=c'->(n-8<=n-8/\n-8<=c'/\By f)/\Jt s.seen b (ku (n-8) f) (vo (n-8) f) X)))
def uc(s:gL):Option (jF×Sd.Timer)->gL
 |none=>s
 |some (w,t)=>{s with seen:=w,on:=af,eo:=t}
def kT(X:V->List VB->Prop):VK Empty:=λv bl _=>X v (bl.take 3)
section
variable(k:LK)(y:TC)(n c:Nat)(f:Nat->Int)(t:List aj)(X:V->List VB->Prop)
def asY:bz (bU du gR (LO k)) 60 93 [.ptr 1 0,.int .i64 1,.sl 2 0 n c] [cx k,⟨af,⟨181,(0,0)⟩,db y⟩,fN n f t] [] (kT X)=Ju k y.s0 y.b 1 n c f λv o=>X v [cx k,⟨af,⟨181,(0,0)⟩,db {y with s0:=uc y.s0 o}⟩,fN n f t]:=kR
def asZ:bz (bU du gR (LO k)) 60 93 [.ptr 1 0,.int .i64 2,.sl 2 0 n c] [cx k,⟨af,⟨181,(0,0)⟩,db y⟩,fN n f t] [] (kT X)=Ju k y.sa y.b 2 n c f λv o=>X v [cx k,⟨af,⟨181,(0,0)⟩,db {y with sa:=uc y.sa o}⟩,fN n f t]:=kR
def as0:bz (bU du gR (LO k)) 60 93 [.ptr 1 0,.int .i64 3,.sl 2 0 n c] [cx k,⟨af,⟨181,(0,0)⟩,db y⟩,fN n f t] [] (kT X)=Ju k y.sb y.b 3 n c f λv o=>X v [cx k,⟨af,⟨181,(0,0)⟩,db {y with sb:=uc y.sb o}⟩,fN n f t]:=kR
def mS(y:TC)(l:Int):gL:=if l=1 then y.s0 else if l=2 then y.sa else y.sb
def as1(x:Option aF):bz (bU du gR (LO k)) 60 93 [.ptr 1 0,.int .i64 1,.raw (.slice x 0 c)] [cx k,⟨af,⟨181,(0,0)⟩,db y⟩] [] (λv bl _=>X v (bl.take 2))=cond (!y.s0.on) (X (iU 16) [cx k,⟨af,⟨181,(0,0)⟩,db y⟩]) (X (iU 14) [cx k,⟨af,⟨181,(0,0)⟩,db y⟩]):=kR
def as2(x:Option aF):bz (bU du gR (LO k)) 60 93 [.ptr 1 0,.int .i64 2,.raw (.slice x 0 c)] [cx k,⟨af,⟨181,(0,0)⟩,db y⟩] [] (λv bl _=>X v (bl.take 2))=cond (!y.sa.on) (X (iU 16) [cx k,⟨af,⟨181,(0,0)⟩,db y⟩]) (X (iU 14) [cx k,⟨af,⟨181,(0,0)⟩,db y⟩]):=kR
def as3(x:Option aF):bz (bU du gR (LO k)) 60 93 [.ptr 1 0,.int .i64 3,.raw (.slice x 0 c)] [cx k,⟨af,⟨181,(0,0)⟩,db y⟩] [] (λv bl _=>X v (bl.take 2))=cond (!y.sb.on) (X (iU 16) [cx k,⟨af,⟨181,(0,0)⟩,db y⟩]) (X (iU 14) [cx k,⟨af,⟨181,(0,0)⟩,db y⟩]):=kR
end
variable{fr:aQ->Nat×az}
def mT(s:gL)(b l:Int)(n:Nat)(f:Nat->Int):V×Option (jF×Sd.Timer):=
 if s.on=ah then(iU 16,ag)else if n<8\/n_ s.key l (n-8) f=ah then(iU 14,ag)else match aU (n-8) f with
 |none=>(iU 13,ag)
 |some m=>if m.kind=1\/m.kind=2 then(iU 13,ag)else if fU s.seen m.seq=s.seen then(iU 15,ag)else(.aD [.agg (dw m),.int .i64 0],aa (fU s.seen m.seq,Sd.Timer.start b))
def as4{w:jF}{b:Int}{n:Nat}{f:Nat->Int}{X:V->Option (jF×Sd.Timer)->Prop}(hw:0<=w.high/\w.high<=4294967295)(hb:0<=b/\b<=1000)
 (h0:aU n f=ag->X (iU 13) ag) (h1:∀m,aU n f=aa m->if m.kind=1\/m.kind=2 then X (iU 13) ag else if fU w m.seq=w then X (iU 15) ag else X (.aD [.agg (dw m),.int .i64 0]) (aa (fU w m.seq,Sd.Timer.start b))):
 Jt w b (ku n f) (vo n f) X:=by
 unfold Jt;refine aN (λe=>h0 (aed e)) (λe=>?_);have hm:=aec e;have h2:=h1 _ hm;have fW:=Wh hm;refine aN (λe1=>?_) (λe1=>aN (λe2=>?_) (λe2=>⟨⟨hw,fW.seq⟩,aN (λe3=>?_) (λe3=>⟨oM,?_⟩)⟩))
 ·rw[if_pos (.inl (by simpa using e1))]at h2;exact h2
 ·rw[if_pos (.inr (by simpa using e2))]at h2;exact h2
 ·rw[if_neg (by simp at e1 e2;simp[e1,e2]),if_pos ((acP _ _).1 (by simpa using e3))]at h2;exact h2
 ·rw[if_neg (by simp at e1 e2;simp[e1,e2]),if_neg (λh=>by rw[(acP _ _).2 h]at e3;simp at e3)]at h2;exact h2
def Wv{k:LK}{s:gL}{b l:Int}{n c:Nat}{f:Nat->Int}{X:V->Option (jF×Sd.Timer)->Prop}(hw:s.on=af->0<=s.seen.high/\s.seen.high<=4294967295)(hb:0<=b/\b<=1000)(hn:n<=58)(hc:n<=c)(hl:1<=l/\l<=3)(hf:By f)
 (h:X (mT s b l n f).1 (mT s b l n f).2):Ju k s b l n c f X:=by
 unfold mT at h;unfold Ju;refine aN (λe=>?_) (λe=>⟨⟨rfl,rfl,hn,hc,oM,oM⟩,λJa=>?_,λh8 ho=>?_⟩)
 ·rw[if_pos (by simpa using e)]at h;exact h
 ·rw[if_neg (by simpa using e),if_pos Ja]at h;exact h
 ·rw[if_neg (by simpa using e),if_neg (by rw[ho];simp;omega)]at h;have main:∀g:Nat->Int,aU (n-8) g=aU (n-8) f->Jt s.seen b (ku (n-8) g) (vo (n-8) g) X:=by
   intro g hg;refine as4 (hw (by simpa using e)) hb (λh0=>?_) (λm hm=>?_)
   ·rw[hg]at h0;rw[h0]at h;exact h
   ·rw[hg]at hm;rw[hm]at h;simp only at h;split
    ·rename_i h1;rw[if_pos h1]at h;exact h
    ·rename_i h1;rw[if_neg h1]at h;split
     ·rename_i h2;rw[if_pos h2]at h;exact h
     ·rename_i h2;rw[if_neg h2]at h;exact h
  refine⟨λWu x c'=>⟨trivial,?_⟩,λWu c' t' Ad=>⟨⟨cW _,Ad,hf⟩,main f rfl⟩⟩;have h0:n-8=0:=oM;have:=main (λ_=>0) (by rw[h0];rfl);rw[h0]at this;exact this
def as5(t:aT)(p:aX)(l:Int)(n:Nat)(f:Nat->Int)(hl:1<=l/\l<=3):
 (∃e,aT.take (aO aU) p t l n f=(t,.error e)/\mT (t.aE (l.toNat-1)) p.da l n f=(iU e,ag))\/
 (∃m w,aT.take (aO aU) p t l n f=(t.ia (l.toNat-1) {(t.aE (l.toNat-1))with seen:=w,on:=af,eo:=.start p.da},.ok m)/\mT (t.aE (l.toNat-1)) p.da l n f=(.aD [.agg (dw m),.int .i64 0],aa (w,Sd.Timer.start p.da))):=by
 have km:t.iZ l=(t.aE (l.toNat-1)).on:=by
  unfold aT.iZ;simp[hl.1,hl.2]
 unfold aT.take mT;rw[km];by_cases h1:(t.aE (l.toNat-1)).on=ah
 ·rw[if_pos h1,if_pos h1];exact .inl ⟨16,rfl,rfl⟩
 ·rw[if_neg h1,if_neg h1];by_cases h2:n<8\/n_ (t.aE (l.toNat-1)).key l (n-8) f=ah
  ·rw[if_pos h2];have:n<8\/(aO aU).opens (t.aE (l.toNat-1)).key l n f=ah:=h2;rw[if_pos this];exact .inl ⟨14,rfl,rfl⟩
  ·rw[if_neg h2];have:¬(n<8\/(aO aU).opens (t.aE (l.toNat-1)).key l n f=ah):=h2;rw[if_neg this];rw[show(aO aU).take (n-8) f=aU (n-8) f from rfl];cases q_:aU (n-8) f with
   |none=>exact .inl ⟨13,rfl,rfl⟩
   |some m=>
    simp only;by_cases h3:m.kind=1\/m.kind=2
    ·rw[if_pos h3,if_pos h3];exact .inl ⟨13,rfl,rfl⟩
    ·rw[if_neg h3,if_neg h3];by_cases h4:fU (t.aE (l.toNat-1)).seen m.seq=(t.aE (l.toNat-1)).seen
     ·rw[if_pos h4];have:(aO aU).iE (t.aE (l.toNat-1)).seen m.seq=(t.aE (l.toNat-1)).seen:=h4;rw[if_pos this];exact .inl ⟨15,rfl,rfl⟩
     ·rw[if_neg h4];have:¬(aO aU).iE (t.aE (l.toNat-1)).seen m.seq=(t.aE (l.toNat-1)).seen:=h4;rw[if_neg this];exact .inr ⟨m,fU (t.aE (l.toNat-1)).seen m.seq,rfl,rfl⟩
def aeh{d:FD}(F:bx fr d)(h0:0<d.k.pn):∃(bp:Nat)(t:List aj)(X:List av),d.k.px=aa ⟨bp,0,ag⟩/\d.k.pn<=d.k.pc/\F.B=X++[⟨bp,af,.cells (ao [] (fN d.k.pn d.k.pf t).c).toArray 5 (0,0)⟩]:=by
 obtain⟨b0,b1,b2,b3,b4,hB,k0,k1,k2,k3,k4⟩:=F.hk;obtain⟨hle,h|⟨bp,hx,hb⟩⟩:=k4
 ·have:=h.2.1;omega
 ·have e:(ao [] (fN d.k.pn d.k.pf (oE (d.k.pc-d.k.pn) (.int .u8 0))).c).toArray=bM d.k.pn d.k.pf d.k.pc:=by
   simp[fN,ao,cl,bM,cQ]
  refine⟨bp,oE (d.k.pc-d.k.pn) (.int .u8 0),F.Br++(F.Bs++(F.Bf++(F.Bq++(b0++(b1++(b2++b3)))))),hx,hle,?_⟩;rw[e,ua,hB,hb];simp[bZ]
def Ww(C:aM):dm (Gh fr):=λak bl ch K=>match ak,ch with
 |[.ptr it 0,.int .i64 l,.raw vp],g::rest=>(match bl[it]?with
  |some ⟨af,⟨181,(0,0)⟩,tc⟩=>(match tZ tc with
   |some y=>cond (!(aC it 0)) ((vp=fq g.d.k/\bl[0]?=aa (cx g.d.k)/\g.d.k.pn<=58/\By g.d.k.pf/\(1<=l/\l<=3)/\(0<=y.b/\y.b<=1000)/\(∀i,i<3->((bQ y).aE i).on=af->0<=((bQ y).aE i).seen.high/\((bQ y).aE i).seen.high<=4294967295))/\
    (∀e,aT.take C (pY y.b y.m) (bQ y) l g.d.k.pn g.d.k.pf=(bQ y,.error e)->K (iU e) bl ch)/\
    (∀t' m,aT.take C (pY y.b y.m) (bQ y) l g.d.k.pn g.d.k.pf=(t',.ok m)->K (.aD [.agg (dw m),.int .i64 0]) (bl.set it ⟨af,⟨181,(0,0)⟩,db (oY t' y.b y.m)⟩) ch)) False
   |none=>False)
  |_=>False)
 |_,_=>False
def as6{bl:List VB}{i:Nat}{b:VB}(h:bl[i]?=aa b):bl.set i b=bl:=by
 apply zN;intro j;rw[List.getElem?_set];split
 ·rename_i e;subst e;have:=mj h;rw[if_pos this];exact h.symm
 ·rfl
def as7:Sound du gS 93 (Ww (fr:=fr) (aO aU)):=by
 intro ak ae bl ch R ms w0 w K hg hl S hc;unfold Ww at hc;split at hc
 ·rename_i it l vp g rest;split at hc
  ·rename_i tc hb;split at hc
   ·rename_i y hy;cases hq:!(aC it 0)with
    |false=>rw[hq]at hc;exact hc.elim
    |true=>
     rw[hq]at hc;simp only[cond_true]at hc;obtain⟨⟨rfl,hr,hn,hf,B5,Wx,hwn⟩,hE,hO⟩:=hc;obtain rfl:=yO hy;have qf:it≠0:=by rintro rfl;simp at hq
     have hi:=mj hb;have hi0:=mj hr;have aei:ae.getD 0 0=0:=(hg 0 0 rfl).2;obtain⟨r,Ol,kJ⟩:=Fo hl (is:=[0,it]) (by simp[Ne.symm qf]) (by simp[hi,hi0]);have aej:(pY y.b y.m).da=y.b:=rfl;have p1:=kJ bl rfl;simp only[gx,List.map_nil,fe,fu]at p1;rw[lF hb,lF hr,aei]at p1;have Ov:(bQ y).aE (l.toNat-1)=mS y l:=by
      have:l=1\/l=2\/l=3:=oM;rcases this with rfl|rfl|rfl<;>rfl
     have Jv:=as5 (bQ y) (pY y.b y.m) l g.d.k.pn g.d.k.pf B5;rw[Ov,aej]at Jv;have hw:(mS y l).on=af->0<=(mS y l).seen.high/\(mS y l).seen.high<=4294967295:=by rw[<-Ov];exact hwn _ oM
     have e0:ax (g::rest) R=g.F.B++ax rest R:=rfl;rw[e0]at S;have er:∀is:List Nat,aI is 0 (cx g.d.k)=aI [] 0 (cx g.d.k):=λis=>by
      have:=jI (ae:=[]) (aq:=is) (cx g.d.k).c rfl;simp only[fu]at this;simp only[aI,this]
     have et:∀(is:List Nat)(i:Nat)(y:TC),aI is i ⟨af,⟨181,(0,0)⟩,db y⟩=aI [] i ⟨af,⟨181,(0,0)⟩,db y⟩:=λis i y=>by
      have:=jI (ae:=[]) (aq:=is) (db y) rfl;simp only[fu]at this;simp only[aI,this]
     have ep:∀(is:List Nat)(i n:Nat)(f:Nat->Int)(t:List aj),aI is i (fN n f t)=aI [] i (fN n f t):=λis i n f t=>by
      have:=jI (ae:=[]) (aq:=is) (fN n f t).c rfl;simp only[fu]at this;simp only[aI,this]
     have back:∀(y':TC)(w':an)(Z:List av),St ms w0 (aI [] 0 (cx g.d.k)::aI [] (ae.getD it 0) ⟨af,⟨181,(0,0)⟩,db y'⟩::((r.map λj=>aI ae (ae.getD j 0) (bl.getD j fp))++Z)) w'->St ms w0 (lits ae ae (bl.set it ⟨af,⟨181,(0,0)⟩,db y'⟩)++Z) w':=by
      intro y' w' Z hS;have p2:=kJ (bl.set it ⟨af,⟨181,(0,0)⟩,db y'⟩) sP;simp only[gx,List.map_nil,fe,fu]at p2;have e3:(r.map λj=>aI ae (ae.getD j 0) ((bl.set it ⟨af,⟨181,(0,0)⟩,db y'⟩).getD j fp))=r.map λj=>aI ae (ae.getD j 0) (bl.getD j fp):=by
       apply mB;intro j hj;have:=Ol j hj;simp only[gh];rw[oh (λh=>this (by simp[h]))]
      rw[e3,lF (AV hi),lF (i:=0) (b:=cx g.d.k) (by rw[KV qf];exact hr),aei,er,et]at p2;exact hS.perm (p2.symm.append_right Z)
     have done:∀{w':an}(y':TC)(v:V)(o:Option (jF×Sd.Timer)),dg 0 v=af->mT (mS y l) y.b l g.d.k.pn g.d.k.pf=(v,o)->y'=(if l=1 then{y with s0:=uc y.s0 o}else if l=2 then{y with sa:=uc y.sa o}else{y with sb:=uc y.sb o})->
      St ms w0 (lits ae ae (bl.set it ⟨af,⟨181,(0,0)⟩,db y'⟩)++(g.F.B++ax rest R)) w'->∃x aq b9 ce,den [] v=den (ae++aq) x/\(ae++aq).length=b9.length/\St ms w0 (lits (ae++aq) (ae++aq) b9++ax ce R) w'/\K x b9 ce:=by
      intro w' y' v o hv ht Ow hS;have ev:∀is,den is v=den [] v:=λis=>by have:=gX (ae:=[]) (aq:=is) v hv;simpa using this
      rcases Jv with⟨e,h1,h2⟩|⟨m,w2,h1,h2⟩
      ·rw[h2]at ht;obtain⟨rfl,rfl⟩:=DW ht;have Wy:y'=y:=by
        rw[Ow];split
        ·rfl
        ·split<;>rfl
       rw[Wy]at hS;have Ae:bl.set it ⟨af,⟨181,(0,0)⟩,db y⟩=bl:=as6 hb;rw[Ae]at hS;exact⟨iU e,[],bl,g::rest,(ev _).symm,by simpa using hl,by rw[cy,e0];exact hS,hE e h1⟩
      ·rw[h2]at ht;obtain⟨rfl,rfl⟩:=DW ht;refine⟨.aD [.agg (dw m),.int .i64 0],[],_,g::rest,(ev _).symm,by simpa using hl,?_,hO _ m h1⟩;rw[cy,e0];have Wy:oY ((bQ y).ia (l.toNat-1) {mS y l with seen:=w2,on:=af,eo:=.start y.b}) y.b y.m=y':=by
        rw[Ow];have:l=1\/l=2\/l=3:=oM;rcases this with rfl|rfl|rfl<;>rfl
       rw[Wy];exact hS
     have hX:∀(y':TC)(o:Option (jF×Sd.Timer))(v:V),mT (mS y l) y.b l g.d.k.pn g.d.k.pf=(v,o)->dg 0 v=af:=by
      intro y' o v hv;rcases Jv with⟨e,h1,h2⟩|⟨m,w2,h1,h2⟩<;>(rw[h2]at hv;obtain⟨rfl,rfl⟩:=DW hv;rfl)
     rcases uu g.d.k.pn with hz|Cz
     ·
      have Ix:Gl gR [0,ae.getD it 0]:=by
       intro gg i dz;unfold gR at dz;split at dz
       ·obtain rfl:=cP dz;exact⟨sP,rfl⟩
       ·cases dz
      have S1:=S.perm (p1.append_right _);simp only[fe]at S1;rw[er,et]at S1;have S2:St ms w0 (lits [0,ae.getD it 0] [0,ae.getD it 0] [cx g.d.k,⟨af,⟨181,(0,0)⟩,db y⟩]++ax ([]:List Empty) ((r.map λj=>aI ae (ae.getD j 0) (bl.getD j fp))++(g.F.B++ax rest R))) w:=by
       simp only[lits,ax,er,et,fe,fu];exact S1
      let X:V->List VB->Prop:=λv b=>v=(mT (mS y l) y.b l g.d.k.pn g.d.k.pf).1/\b=[cx g.d.k,⟨af,⟨181,(0,0)⟩,db y⟩]
      have hT:mT (mS y l) y.b l g.d.k.pn g.d.k.pf=if(mS y l).on=ah then(iU 16,ag)else(iU 14,ag):=by
       unfold mT;rw[hz];split
       ·rfl
       ·rw[if_pos (.inl dC)]
      have cT:bz (bU du gR (LO g.d.k)) 60 93 [.ptr 1 0,.int .i64 l,.raw (.slice g.d.k.px 0 g.d.k.pc)] [cx g.d.k,⟨af,⟨181,(0,0)⟩,db y⟩] [] (λv bl _=>X v (bl.take 2)):=by
       have Wz:cond (!(mS y l).on) (X (iU 16) [cx g.d.k,⟨af,⟨181,(0,0)⟩,db y⟩]) (X (iU 14) [cx g.d.k,⟨af,⟨181,(0,0)⟩,db y⟩]):=by
        refine aN (λe=>⟨?_,rfl⟩) (λe=>⟨?_,rfl⟩)
        ·rw[hT,if_pos (by simpa using e)]
        ·rw[hT,if_neg (by simpa using e)]
       have:l=1\/l=2\/l=3:=oM;rcases this with rfl|rfl|rfl
       ·rw[as1];exact Wz
       ·rw[as2];exact Wz
       ·rw[as3];exact Wz
      have ea:(aJ ae [.ptr it 0,.int .i64 l,.raw (fq g.d.k)]).toArray=(aJ [0,ae.getD it 0] [.ptr 1 0,.int .i64 l,.raw (.slice g.d.k.px 0 g.d.k.pc)]).toArray:=by
       have:fq g.d.k=.slice g.d.k.px 0 g.d.k.pc:=by unfold fq;rw[hz]
       rw[this];rfl
      rw[ea];refine(eO (Ou g.d.k).T (Ou g.d.k).Q 60 (C:=bU du gR (LO g.d.k)) Ix rfl S2 cT).mono ?_;rintro v w' ⟨x,aq,b9,ce,rfl,h1,S3,hv,fW⟩;have vt:dg 0 x=af:=by
       rw[hv];exact hX y _ _ rfl
      have qh:b9=[cx g.d.k,⟨af,⟨181,(0,0)⟩,db y⟩]++b9.drop 2:=by rw[<-fW,jR]
      rw[qh]at S3;have e2:lits ([0,ae.getD it 0]++aq) ([0,ae.getD it 0]++aq) ([cx g.d.k,⟨af,⟨181,(0,0)⟩,db y⟩]++b9.drop 2)=aI [] 0 (cx g.d.k)::aI [] (ae.getD it 0) ⟨af,⟨181,(0,0)⟩,db y⟩::lits ([0,ae.getD it 0]++aq) aq (b9.drop 2):=by
       simp only[fe,fu,lits,er,et]
      rw[e2]at S3;have e3:ax ce ((r.map λj=>aI ae (ae.getD j 0) (bl.getD j fp))++(g.F.B++ax rest R))=(r.map λj=>aI ae (ae.getD j 0) (bl.getD j fp))++(g.F.B++ax rest R):=by cases ce with
       |nil=>rfl
       |cons c _=>cases c
      rw[e3]at S3;have S4:=S3.sub (bs':=aI [] 0 (cx g.d.k)::aI [] (ae.getD it 0) ⟨af,⟨181,(0,0)⟩,db y⟩::((r.map λj=>aI ae (ae.getD j 0) (bl.getD j fp))++(g.F.B++ax rest R))) (by
       simp only[fe];exact xn _ (xn _ (kM _ _)))
      have ex:den ([0,ae.getD it 0]++aq) x=den [] x:=by have:=gX (ae:=[]) (aq:=[0,ae.getD it 0]++aq) x vt;simpa using this
      rw[ex];have ho:(mT (mS y l) y.b l g.d.k.pn g.d.k.pf).2=ag:=by rw[hT];split<;>rfl
      refine done y x ag vt ?_ ?_ (back y w' _ S4)
      ·rw[hv,<-ho]
      ·split
       ·rfl
       ·split<;>rfl
     ·
      obtain⟨bp,t,XX,hx,hle,WA⟩:=aeh g.F Cz;have Ix:Gl gR [0,ae.getD it 0,bp]:=by
       intro gg i dz;unfold gR at dz;split at dz
       ·obtain rfl:=cP dz;exact⟨sP,rfl⟩
       ·cases dz
      have as8:(⟨bp,af,.cells (ao [] (fN g.d.k.pn g.d.k.pf t).c).toArray 5 (0,0)⟩:av)=aI [] bp (fN g.d.k.pn g.d.k.pf t):=rfl;rw[as8]at WA;have S1:=S.perm (p1.append_right _);rw[WA]at S1;simp only[fe]at S1;rw[er,et]at S1;have pm:∀(a b c:av)(A B Z:List av),(a::b::(A++((B++[c])++Z))).Perm (a::b::c::(A++(B++Z))):=by
       intro a b c A B Z;refine vJ a (vJ b ?_);have:=kY (a:=c) (l₁:=A++B) (l₂:=Z);simpa[bZ]using this
      have S2:St ms w0 (lits [0,ae.getD it 0,bp] [0,ae.getD it 0,bp] [cx g.d.k,⟨af,⟨181,(0,0)⟩,db y⟩,fN g.d.k.pn g.d.k.pf t]++ax ([]:List Empty) ((r.map λj=>aI ae (ae.getD j 0) (bl.getD j fp))++(XX++ax rest R))) w:=by
       simp only[lits,ax,er,et,ep,fe,fu];exact S1.perm (pm _ _ _ _ _ _)
      let X:V->List VB->Prop:=λv b=>v=(mT (mS y l) y.b l g.d.k.pn g.d.k.pf).1/\b=[cx g.d.k,⟨af,⟨181,(0,0)⟩,db (if l=1 then{y with s0:=uc y.s0 (mT (mS y l) y.b l g.d.k.pn g.d.k.pf).2}else if l=2 then{y with sa:=uc y.sa (mT (mS y l) y.b l g.d.k.pn g.d.k.pf).2}else{y with sb:=uc y.sb (mT (mS y l) y.b l g.d.k.pn g.d.k.pf).2})⟩,fN g.d.k.pn g.d.k.pf t]
      have cT:bz (bU du gR (LO g.d.k)) 60 93 [.ptr 1 0,.int .i64 l,.sl 2 0 g.d.k.pn g.d.k.pc] [cx g.d.k,⟨af,⟨181,(0,0)⟩,db y⟩,fN g.d.k.pn g.d.k.pf t] [] (kT X):=by
       have:l=1\/l=2\/l=3:=oM;rcases this with rfl|rfl|rfl
       ·rw[asY];exact Wv hw Wx hn hle dC hf ⟨rfl,rfl⟩
       ·rw[asZ];exact Wv hw Wx hn hle dC hf ⟨rfl,rfl⟩
       ·rw[as0];exact Wv hw Wx hn hle dC hf ⟨rfl,rfl⟩
      have ea:(aJ ae [.ptr it 0,.int .i64 l,.raw (fq g.d.k)]).toArray=(aJ [0,ae.getD it 0,bp] [.ptr 1 0,.int .i64 l,.sl 2 0 g.d.k.pn g.d.k.pc]).toArray:=by
       have:fq g.d.k=.slice (aa ⟨bp,0,ag⟩) g.d.k.pn g.d.k.pc:=by unfold fq;rw[hx]
       rw[this];rfl
      rw[ea];refine(eO (Ou g.d.k).T (Ou g.d.k).Q 60 (C:=bU du gR (LO g.d.k)) Ix rfl S2 cT).mono ?_;rintro v w' ⟨x,aq,b9,ce,rfl,h1,S3,hv,fW⟩;generalize Ow:(if l=1 then{y with s0:=uc y.s0 (mT (mS y l) y.b l g.d.k.pn g.d.k.pf).2}else if l=2 then{y with sa:=uc y.sa (mT (mS y l) y.b l g.d.k.pn g.d.k.pf).2}else{y with sb:=uc y.sb (mT (mS y l) y.b l g.d.k.pn g.d.k.pf).2}:TC)=y' at fW;have vt:dg 0 x=af:=by
       rw[hv];exact hX y _ _ rfl
      have qh:b9=[cx g.d.k,⟨af,⟨181,(0,0)⟩,db y'⟩,fN g.d.k.pn g.d.k.pf t]++b9.drop 3:=by rw[<-fW,jR]
      rw[qh]at S3;have e2:lits ([0,ae.getD it 0,bp]++aq) ([0,ae.getD it 0,bp]++aq) ([cx g.d.k,⟨af,⟨181,(0,0)⟩,db y'⟩,fN g.d.k.pn g.d.k.pf t]++b9.drop 3)=aI [] 0 (cx g.d.k)::aI [] (ae.getD it 0) ⟨af,⟨181,(0,0)⟩,db y'⟩::aI [] bp (fN g.d.k.pn g.d.k.pf t)::lits ([0,ae.getD it 0,bp]++aq) aq (b9.drop 3):=by
       simp only[fe,fu,lits,er,et,ep]
      rw[e2]at S3;have e3:∀Z,ax ce Z=Z:=by
       intro Z;cases ce with
       |nil=>rfl
       |cons c _=>cases c
      rw[e3]at S3;have S4:=S3.sub (bs':=aI [] 0 (cx g.d.k)::aI [] (ae.getD it 0) ⟨af,⟨181,(0,0)⟩,db y'⟩::aI [] bp (fN g.d.k.pn g.d.k.pf t)::((r.map λj=>aI ae (ae.getD j 0) (bl.getD j fp))++(XX++ax rest R))) (by
       simp only[fe];exact xn _ (xn _ (xn _ (kM _ _))))
      have S5:=S4.perm (pm _ _ _ _ _ _).symm;rw[<-WA]at S5;have ex:den ([0,ae.getD it 0,bp]++aq) x=den [] x:=by have:=gX (ae:=[]) (aq:=[0,ae.getD it 0,bp]++aq) x vt;simpa using this
      rw[ex];exact done y' x _ vt (by rw[hv]) Ow.symm (back y' w' _ S5)
   ·exact hc.elim
  ·exact hc.elim
 ·exact hc.elim
def ud(a:Nat)(f:fG):aj:=.func (.func f) #[.pointer (aa ⟨a,0,ag⟩)] #[]
def ra(a:Nat):List (Int×aj):=[(3,ud a 130),(4,ud a 131),(5,ud a 132),(6,ud a 133),(7,ud a 134),(8,ud a 135),(9,ud a 136),(10,ud a 137),(11,ud a 137)]
def aek:Nat->Prop->Prop->Prop
 |0,_,q=>q
 |n+1,p,q=>p/\aek n p q
def as9(a:Nat)(K:VK Av):bz (Sl du gN []) 60 94 [.raw (.pointer (aa ⟨a,0,ag⟩))] [] [] K=∀id:Nat,aek 9 (Value.map (aa id)=.map (aa id)) (K (.raw (.map (aa id))) [] [⟨id,ra a⟩]):=kR
def as_(a:Nat){ms:List Nat}{w0 w:an}{B:List av}(S:St ms w0 B w):ba du 94 #[.pointer (aa ⟨a,0,ag⟩)] w λv w1=>∃id,v=.map (aa id)/\St ms w0 (⟨id,af,oJ .i64 (ra a)⟩::B) w1:=by
 have cT:bz (Sl du gN []) 60 94 [.raw (.pointer (aa ⟨a,0,ag⟩))] [] [] (λv bl ch=>∃id,v=.raw (.map (aa id))/\bl=[]/\ch=[⟨id,ra a⟩]):=by
  rw[as9];exact λid=>⟨rfl,rfl,rfl,rfl,rfl,rfl,rfl,rfl,rfl,id,rfl,rfl,rfl⟩
 refine(eO (G:=Av) (aK.nil (P:=du) (gl:=gN)).T (aK.nil (P:=du) (gl:=gN)).Q 60 (C:=Sl du gN []) (ae:=[]) (bl:=[]) (ch:=[]) (R:=B) (ak:=[.raw (.pointer (aa ⟨a,0,ag⟩))]) (λg i h=>by cases h) rfl S cT).mono ?_;rintro v w' ⟨x,aq,b9,ce,rfl,qg,S2,id,rfl,rfl,rfl⟩;have hm:aq=[]:=by cases aq with
  |nil=>rfl
  |cons=>simp at qg
 subst hm;exact⟨id,by simp[den],S2⟩
def vu(a:Nat):Nat->Option Nat:=λg=>match gS g with
 |some i=>aa i
 |none=>bif aC g a then aa 2 else ag
def ata{a:Nat}{ae:List Nat}(h:Gl (vu a) ae):Gl gS ae:=λg i hi=>h g i (by unfold vu;rw[hi])
def ael{a:Nat}{ae:List Nat}(h:Gl (vu a) ae)(ha:gS a=ag):2<ae.length/\ae.getD 2 0=a:=h a 2 (by unfold vu;rw[ha];simp)
def Jw(a:Nat):dm (Sm (Gh fr)):=λak bl ch K=>match ak with
 |[.ptr 2 0]=>gS a=ag/\∀id:Nat,K (.raw (.map (aa id))) bl (ch++[.m ⟨id,ra a⟩])
 |_=>False
def atb(a:Nat):Sound du (vu a) 94 (Jw (fr:=fr) a):=by
 intro ak ae bl ch R ms w0 w K hg hl S hc;unfold Jw at hc;split at hc
 ·obtain⟨ha,hK⟩:=hc;have h2:=(ael hg ha).2;have ea:(aJ ae [.ptr 2 0]).toArray=#[.pointer (aa ⟨a,0,ag⟩)]:=by simp only[aJ,den,h2]
  rw[ea];refine(as_ a S).mono ?_;rintro v w1 ⟨id,rfl,S1⟩;refine⟨_,[],bl,_,?_,by simpa using hl,?_,hK id⟩
  ·simp[den]
  ·rw[cy,k7,fk _ ch];have e:ax [(.m ⟨id,ra a⟩:Sm (Gh fr))] R=⟨id,af,oJ .i64 (ra a)⟩::R:=rfl;rw[e];rw[fk R ch]at S1;refine S1.perm ?_;rw[<-bZ,<-bZ];exact kY.symm
 ·exact hc.elim
def atc(a:Nat):gZ (Jw (fr:=fr) a):=by
 intro ak bl ch K h;unfold Jw at h⊢;split at h
 ·exact⟨h.1,λid=>⟨h.2 id,[],sP⟩⟩
 ·exact h.elim
def ue(f:fG):V:=.aD [.fn f [.ptr 2 0] [],.bool af]
def Ox(a:Nat):(bA->V)->Op->List VB->List (Sm (Gh fr))->VK (Sm (Gh fr))->Prop:=λe op bl ch K=>match op with
 |.lookup mt m k af=>(match ch,e m,e k with
  |[.g x,.m g],.raw mv,.int .i64 kd=>(match du.underlying mt with
   |some (.map kt _)=>(match du.underlying kt with
    |some (.int .i64)=>(mv=.map (aa g.id)/\g.tb=ra a/\gS a=ag/\3<=kd/\kd<=11)/\
     cond (kd==3) (K (ue 130) bl ch) (cond (kd==4) (K (ue 131) bl ch) (cond (kd==5) (K (ue 132) bl ch) (cond (kd==6) (K (ue 133) bl ch) (cond (kd==7) (K (ue 134) bl ch) (cond (kd==8) (K (ue 135) bl ch) (cond (kd==9) (K (ue 136) bl ch) (K (ue 137) bl ch)))))))
    |_=>False)
   |_=>False)
  |_,_,_=>False)
 |_=>False
def aem(a:Nat):iF du (vu a) (Ox (fr:=fr) a):=by
 intro e op ae bl ch R ms w0 w K ρ o hg hl S bo ho h;unfold Ox at h;split at h
 ·rename_i mt m k;split at h
  ·rename_i x g mv kd hm hk;split at h
   ·rename_i kt et hu;split at h
    ·rename_i Sk;obtain⟨⟨rfl,WB,ha,h3,oq⟩,hK⟩:=h;have h2:=(ael hg ha).2;have e0:ax [(.g x:Sm (Gh fr)),.m g] R=Bl.B x++(⟨g.id,af,oJ .i64 g.tb⟩::R):=rfl;have S':=S;rw[e0,WB]at S';have aV:=S'.at' (x:=⟨g.id,af,oJ .i64 (ra a)⟩) sP;have run:∀f,(∃j,Qa (.int .i64) (.int .i64 kd) (((ra a).zipIdx.map λx=>(⟨.int .i64 x.1.1,x.1.2,x.2⟩:xd)).toArray).toList 0=aa (aa (j,ud a f)))->K (ue f) bl [(.g x:Sm (Gh fr)),.m g]->
      ∃WC aq b9 ce w',((execOp ρ o).run du w=.ok (.value (den (ae++aq) WC)) w'\/((execOp ρ o).run du w=.ok .skip w'/\WC=gn))/\(ae++aq).length=b9.length/\St ms w0 (lits (ae++aq) (ae++aq) b9++ax ce R) w'/\K WC b9 ce:=by
      intro f hf hkf;refine⟨ue f,[],bl,_,w,.inl ?_,by simpa using hl,by simpa using S,hkf⟩;have b_:=ai7 (P:=du) hu Sk aV hf;unfold execOp;simp only[ho,bo,hm,hk,den]at b_⊢;have atd:den ae (ue f)=.tuple #[ud a f,.bool af]:=by simp only[ue,den,aJ,h2,ud]
      rw[cy,atd];simp only[bH,b_,cD,de]
     have Oy:kd=3\/kd=4\/kd=5\/kd=6\/kd=7\/kd=8\/kd=9\/kd=10\/kd=11:=oM;rcases Oy with rfl|rfl|rfl|rfl|rfl|rfl|rfl|rfl|rfl
     ·exact run 130 ⟨0,kR⟩ hK
     ·exact run 131 ⟨1,kR⟩ hK
     ·exact run 132 ⟨2,kR⟩ hK
     ·exact run 133 ⟨3,kR⟩ hK
     ·exact run 134 ⟨4,kR⟩ hK
     ·exact run 135 ⟨5,kR⟩ hK
     ·exact run 136 ⟨6,kR⟩ hK
     ·exact run 137 ⟨7,kR⟩ hK
     ·exact run 137 ⟨8,kR⟩ hK
    ·exact h.elim
   ·exact h.elim
  ·exact h.elim
 ·exact h.elim
def Jx:dm (Gh fr):=λak bl ch K=>match ak,ch with
 |[.raw vp,.int .u8 kd],g::rest=>vp=fq g.d.k/\K (.bool (decide (0<g.d.k.pn)&&(g.d.k.pf 0==kd))) bl (g::rest)
 |_,_=>False
def ate:gZ (Jx (fr:=fr)):=by
 intro ak bl ch K h;unfold Jx at h⊢;split at h
 ·exact⟨h.1,h.2,[],sP⟩
 ·exact h.elim
def Jy:List (bT Empty):=[]
def atf(x:Option aF)(c:Nat)(kd:Int)(X:V->Prop):bz (bU (G:=Empty) du nk Jy) 40 90 [.raw (.slice x 0 c),.int .u8 kd] [] [] (λv _ _=>X v)=X (.bool ah):=kR
def atg(n c:Nat)(kd:Int)(f:Nat->Int)(t:List aj)(X:V->Prop):bz (bU (G:=Empty) du nk Jy) 40 90 [.sl 0 0 (n+1) c,.int .u8 kd] [⟨ah,⟨5,(0,0)⟩,[.cu .u8 (n+1) f,.rest t]⟩] [] (λv _ _=>X v)=cond (decide (((n+1:Nat):Int)>0)) (X (.bool (f 0==kd))) (X (.bool ah)):=kR
def Oz:aK (G:=Empty) du nk Jy:=aK.nil
def ath:Sound du gS 90 (Jx (fr:=fr)):=by
 intro ak ae bl ch R ms w0 w K hg hl S hc;unfold Jx at hc;split at hc
 ·rename_i vp kd g rest;obtain⟨rfl,hK⟩:=hc;have e0:ax (g::rest) R=g.F.B++ax rest R:=rfl;have S':=S;rw[e0]at S';have main:ba du 90 #[fq g.d.k,.int .u8 kd] w λv w1=>v=.bool (decide (0<g.d.k.pn)&&(g.d.k.pf 0==kd))/\Ch [] w w1:=by
   rcases uu g.d.k.pn with hz|Cz
   ·have ep:fq g.d.k=.slice g.d.k.px 0 g.d.k.pc:=by unfold fq;rw[hz]
    rw[ep];refine(eO (G:=Empty) Oz.T Oz.Q 40 (C:=bU du nk Jy) (ae:=[]) (bl:=[]) (ch:=[]) (R:=[]) (ms:=[]) (w0:=w) (ak:=[.raw (.slice g.d.k.px 0 g.d.k.pc),.int .u8 kd]) (λg i h=>by cases h) rfl (St.nil [] w) (K:=λv _ _=>v=.bool ah) (f:=90) (by rw[atf])).mono ?_;rintro v w' ⟨x,aq,b9,ce,rfl,qg,S2,rfl⟩;exact⟨by simp[den,hz],S2.ch⟩
   ·obtain⟨bp,t,X,hx,hle,hB⟩:=aeh g.F Cz;rw[hB]at S';have aV:=S'.at' (x:=⟨bp,af,.cells (ao [] (fN g.d.k.pn g.d.k.pf t).c).toArray 5 (0,0)⟩) sP;obtain⟨n,hn⟩:∃n,g.d.k.pn=n+1:=⟨g.d.k.pn-1,oM⟩;have ep:fq g.d.k=.slice (aa ⟨bp,0,ag⟩) (n+1) g.d.k.pc:=by unfold fq;rw[hx,hn]
    rw[ep];rw[hn]at aV;have S0:=St.given (w:=w) [(bp,.cells (ao [] (fN (n+1) g.d.k.pf t).c).toArray 5 (0,0))] (all_cons aV all_nil);have S1:St [] w (lits [bp] [bp] [⟨ah,⟨5,(0,0)⟩,[.cu .u8 (n+1) g.d.k.pf,.rest t]⟩]++ax ([]:List Empty) []) w:=by
     simpa[lits,aI,ao,cl,ax,fN]using S0
    refine(eO (G:=Empty) Oz.T Oz.Q 40 (C:=bU du nk Jy) (ak:=[.sl 0 0 (n+1) g.d.k.pc,.int .u8 kd]) (λg i h=>by cases h) rfl S1 (K:=λv _ _=>v=.bool (g.d.k.pf 0==kd)) (f:=90) (by rw[atg];exact aN (λ_=>rfl) (λe=>by have:=of_decide_eq_false e;omega))).mono ?_;rintro v w' ⟨x,aq,b9,ce,rfl,qg,S2,rfl⟩;refine⟨?_,S2.ch⟩;have:decide (0<g.d.k.pn)=af:=by simp[Cz]
    simp[den,this]
  have ea:(aJ ae [.raw (fq g.d.k),.int .u8 kd]).toArray=#[fq g.d.k,.int .u8 kd]:=rfl;rw[ea];refine main.mono ?_;rintro v w1 ⟨rfl,cz⟩;exact⟨_,[],bl,g::rest,by simp only[den],by simpa using hl,by simpa using S.quiet cz,hK⟩
 ·exact hc.elim
def WD(C:aM):dm (Gh fr):=λak bl ch K=>match ak,ch with
 |[.ptr it 0,.int .i64 l,.raw vp],g::rest=>(match bl[it]?with
  |some ⟨af,⟨181,(0,0)⟩,tc⟩=>(match tZ tc with
   |some y=>cond (!(aC it 0)) ((vp=fq g.d.k/\bl[0]?=aa (cx g.d.k)/\g.d.k.pn<=58/\By g.d.k.pf/\(1<=l/\l<=3)/\(0<=y.b/\y.b<=1000)/\(∀i,i<3->((bQ y).aE i).on=af->0<=((bQ y).aE i).seen.high/\((bQ y).aE i).seen.high<=4294967295))/\
    (aT.take C (pY y.b y.m) (bQ y) l g.d.k.pn g.d.k.pf=(bQ y,.error 16)->K (iU 16) bl ch)/\
    (aT.take C (pY y.b y.m) (bQ y) l g.d.k.pn g.d.k.pf=(bQ y,.error 14)->K (iU 14) bl ch)/\
    (aT.take C (pY y.b y.m) (bQ y) l g.d.k.pn g.d.k.pf=(bQ y,.error 13)->K (iU 13) bl ch)/\
    (aT.take C (pY y.b y.m) (bQ y) l g.d.k.pn g.d.k.pf=(bQ y,.error 15)->K (iU 15) bl ch)/\
    (∀t' m,aT.take C (pY y.b y.m) (bQ y) l g.d.k.pn g.d.k.pf=(t',.ok m)->K (.aD [.agg (dw m),.int .i64 0]) (bl.set it ⟨af,⟨181,(0,0)⟩,db (oY t' y.b y.m)⟩) ch)) False
   |none=>False)
  |_=>False)
 |_,_=>False
def Ul{C:aM}{p:aX}{t t':aT}{l:Int}{n:Nat}{f:Nat->Int}{e:Int}(h:aT.take C p t l n f=(t',.error e)):e=16\/e=14\/e=13\/e=15:=by
 unfold aT.take at h
 repeat' split at h
 all_goals first|(cases h;done)|(obtain⟨_,h2⟩:=DW h;cases h2;simp)
def ati:Sound du gS 93 (WD (fr:=fr) (aO aU)):=by
 intro ak ae bl ch R ms w0 w K hg hl S hc;refine as7 ak ae bl ch R ms w0 w K hg hl S ?_;unfold WD at hc;unfold Ww;split at hc
 ·rename_i it l vp g rest;split at hc
  ·rename_i tc hb;try simp only[hb]
   split at hc
   ·rename_i y hy;try simp only[hy]
    cases hq:!(aC it 0)with
    |false=>rw[hq]at hc;exact hc.elim
    |true=>
     rw[hq]at hc;obtain⟨hp,VT,Ja,VS,Fw,hok⟩:=hc;refine⟨hp,λe he=>?_,hok⟩;rcases Ul he with rfl|rfl|rfl|rfl
     ·exact VT he
     ·exact Ja he
     ·exact VS he
     ·exact Fw he
   ·exact hc.elim
  ·exact hc.elim
 ·exact hc.elim
def LIg(fr:aQ->Nat×az)(C:aM):List (bT (Gh fr)):=⟨91,ah,gO (FB C)⟩::⟨92,ah,gO (Jr C)⟩::⟨93,ah,WD C⟩::⟨90,af,Jx⟩::⟨130,ah,gO (kr λs l m=>s.done l m.seq)⟩::⟨131,ah,gO (kr λs l m=>s.BS C l m)⟩::⟨132,ah,gO (kr λs l m=>s.ask C l m)⟩::
 ⟨133,ah,gO (kr λs l m=>s.offer C l m)⟩::⟨134,ah,gO (kr λs l m=>s.accept C l m)⟩::⟨135,ah,gO (kr λs l m=>s.gE C l m)⟩::⟨136,ah,gO (kr λs l m=>s.release C l m)⟩::⟨137,ah,gO (Jc C)⟩::L8 fr C
def atj(ht:Body (fr:=fr) 124 dE):aK du gS (LIg fr (aO aU)):=
 aK.cons (iH (asv ht)) (aK.cons (iH (asT ht)) (aK.cons ⟨ati,λe=>by cases e⟩ (aK.cons ⟨ath,λ_=>ate⟩ (aK.cons (iH (aqL aU ht)) (aK.cons (iH (arz aU ht)) (aK.cons (iH (aqQ aU ht)) (aK.cons (iH (aqO aU ht)) (aK.cons (iH (aqM aU ht)) (aK.cons (iH (aqN aU ht)) (aK.cons (iH (aqP aU ht)) (aK.cons (iH (arA aU ht)) (Da aU ht))))))))))))
def LI(fr:aQ->Nat×az)(a:Nat)(C:aM):List (bT (Sm (Gh fr))):=⟨94,af,Jw a⟩::Sn (LIg fr C)
def atk(a:Nat)(ht:Body (fr:=fr) 124 dE):aK du (vu a) (LI fr a (aO aU)):=aK.cons ⟨atb a,λ_=>atc a⟩ (abe (λae h=>ata h) (atj ht))
def WE(k:LK)(s:ai)(Kb:SK fr k):V->List VB->List (Sm (Gh fr))->Prop:=λv bl ch=>∃s' F' r,dg 0 v=af/\s'.c.p=s.c.p/\Kb v s' F'/\bl.take 5=bP k s' F'/\ch=.g (bj k s' F')::r
section
variable(a:Nat)(C:aM)(k:LK)(s:ai)(F:bx fr (bd k s))(Kb:SK fr k)(l code:Int)
def A3(r:List (Sm (Gh fr)))(s':ai)(F':bx fr (bd k s')):Prop:=WE k s Kb (.aD []) (bP k s' F') (.g (bj k s' F')::r)
def Jz(e:Int):Prop:=aT.take C (pY s.c.p.da s.c.p.jk) (eA s.c.ay) l k.pn k.pf=(eA s.c.ay,.error e)->cF k s F/\sH C [.int .i64 l,.int .i64 e] k (bV s) F λv s' F'=>A3 k s Kb [] s' F'
def zd(M:SM fr)(t':aT)(m:ca)(id:Nat):Prop:=cF k s F/\M [.int .i64 l,.agg (dw m)] k (qX s t') F λv s' F'=>A3 k s Kb [.m ⟨id,ra a⟩] s' F'
def itO(t':aT)(m:ca):Prop:=gS a=ag/\∀id:Nat,(Value.map (aa id)=.map (aa id)/\ra a=ra a/\gS a=ag/\3<=m.kind/\m.kind<=11)/\
 cond (m.kind==3) (zd a k s F Kb l (kr λs l m=>s.done l m.seq) t' m id) (cond (m.kind==4) (zd a k s F Kb l (kr λs l m=>s.BS C l m) t' m id) (cond (m.kind==5) (zd a k s F Kb l (kr λs l m=>s.ask C l m) t' m id) (cond (m.kind==6) (zd a k s F Kb l (kr λs l m=>s.offer C l m) t' m id)
 (cond (m.kind==7) (zd a k s F Kb l (kr λs l m=>s.accept C l m) t' m id) (cond (m.kind==8) (zd a k s F Kb l (kr λs l m=>s.gE C l m) t' m id) (cond (m.kind==9) (zd a k s F Kb l (kr λs l m=>s.release C l m) t' m id) (zd a k s F Kb l (Jc C) t' m id)))))))
def WG:Prop:=
 cond (code !=0) (cF k s F/\sH C [.int .i64 l,.int .i64 code] k (bV s) F λv s' F'=>A3 k s Kb [] s' F')
 (fq k=fq k/\cond (decide (0<k.pn)&&(k.pf 0==1)) (cF k s F/\FB C [.int .i64 l,.raw (fq k)] k (bV s) F λv s' F'=>A3 k s Kb [] s' F')
 (fq k=fq k/\cond (decide (0<k.pn)&&(k.pf 0==2)) (cF k s F/\Jr C [.int .i64 l,.raw (fq k)] k (bV s) F λv s' F'=>A3 k s Kb [] s' F')
 ((fq k=fq k/\aa (cx k)=aa (cx k)/\k.pn<=58/\By k.pf/\(1<=l/\l<=3)/\(0<=s.c.p.da/\s.c.p.da<=1000)/\(∀i,i<3->((bQ (wA s)).aE i).on=af->0<=((bQ (wA s)).aE i).seen.high/\((bQ (wA s)).aE i).seen.high<=4294967295))/\
   Jz C k s F Kb l 16/\Jz C k s F Kb l 14/\Jz C k s F Kb l 13/\Jz C k s F Kb l 15/\∀t' m,aT.take C (pY s.c.p.da s.c.p.jk) (eA s.c.ay) l k.pn k.pf=(t',.ok m)->itO a C k s F Kb l t' m)))
def atl:bz (gM du (vu a) (LI fr a C) (Ox a) (aem a)) 90 77 [.ptr 2 0,.int .i64 l,.agg [.int .i64 code,.raw (fq k)]] (bP k s F) [.g (bj k s F)] (WE k s Kb)=WG a C k s F Kb l code:=kR
end
def atm{w:jF}{n:Int}(h:0<=w.high/\w.high<=4294967295)(hn:0<=n/\n<=4294967295):0<=(fU w n).high/\(fU w n).high<=4294967295:=by
 unfold fU
 repeat' split
 all_goals first|exact hn|exact h
def aen(H:Nat->Int):By (Ax H):=by
 intro j;have hw:∀n:Int,0<=u8.wrap n/\u8.wrap n<=255:=by intro n;simp[vH,td,te];omega
 unfold Ax;split<;>exact hw _
def atn(n:Nat)(f:Nat->Int):By (k8 n f):=by
 unfold k8;cases ck n 55
 ·exact aen _
 ·exact aen _
def Dj:Sd.AN (aO aU):=⟨λk s n j=>by
 show 0<=kH k.1 k.2 s n j/\kH k.1 k.2 s n j<=255;unfold kH jb;exact atn _ _ j,λn f m h=>Wh h,λw n h1 h2=>atm h1 h2⟩
structure FI(k:LK)(s:ai)(l:Int):Prop where
 r:Rm s 8
 i:Sd.Inv s.c
 lo:1<=l/\l<=3
 d:∀i,i<3->(s.c.doors i).many<=9223372036854775807
 key:∀i,i<4->1<=k.kn i/\k.kn i<=64
 ke:∀i,i<4->s.c.p.k i=(k.kn i,k.kf i)
 qZ:k.pn<=58/\By k.pf
def FJ(C:aM):SM fr:=λar k s F K=>match ar with
 |[.int .i64 l,.agg [.int .i64 code,.raw vp]]=>(vp=fq k/\FI k s l)/\∀F',K (.aD []) (s.item C l code k.pn k.pf) F'
 |_=>False
def FI.oQ{k:LK}{s:ai}{l:Int}(h:FI k s l):V7 k s l:=⟨h.r,λi hi=>⟨h.i.doors i hi,h.d i hi⟩,h.key 3 dC,h.ke 3 dC,⟨by have:=h.qZ.1;omega,h.qZ.2⟩,h.lo⟩
def FI.prv{k:LK}{s:ai}{l:Int}(h:FI k s l):Om k s l:=⟨h.r,h.lo,h.key _ (by have:=h.lo;omega),h.ke _ (by have:=h.lo;omega),by have:=h.i.p.da;omega,h.i.tok.aS,h.i.mh⟩
def aeo(C:aM)(s:ai)(l:Int)(n:Nat)(f:Nat->Int)(hl:1<=l/\l<=3):
 (∃e,aT.take C (pY s.c.p.da s.c.p.jk) (eA s.c.ay) l n f=(eA s.c.ay,.error e)/\aT.take C s.c.p s.c.ay l n f=(s.c.ay,.error e))\/
 (∃m E t,aT.take C (pY s.c.p.da s.c.p.jk) (eA s.c.ay) l n f=(E,.ok m)/\aT.take C s.c.p s.c.ay l n f=(t,.ok m)/\qX s E=kW s t):=by
 have Ov:(eA s.c.ay).aE (l.toNat-1)=s.c.ay.aE (l.toNat-1):=by
  have:l=1\/l=2\/l=3:=oM;rcases this with rfl|rfl|rfl<;>rfl
 have hb:(pY s.c.p.da s.c.p.jk).da=s.c.p.da:=rfl;unfold aT.take;rw[I4,Ov,hb];by_cases h1:s.c.ay.iZ l=ah
 ·rw[if_pos h1,if_pos h1];exact .inl ⟨16,rfl,rfl⟩
 rw[if_neg h1,if_neg h1];by_cases h2:n<8\/C.opens (s.c.ay.aE (l.toNat-1)).key l n f=ah
 ·rw[if_pos h2,if_pos h2];exact .inl ⟨14,rfl,rfl⟩
 rw[if_neg h2,if_neg h2];cases C.take (n-8) f with
 |none=>exact .inl ⟨13,rfl,rfl⟩
 |some m=>
  simp only;by_cases h3:m.kind=1\/m.kind=2
  ·rw[if_pos h3,if_pos h3];exact .inl ⟨13,rfl,rfl⟩
  rw[if_neg h3,if_neg h3];by_cases h4:C.iE (s.c.ay.aE (l.toNat-1)).seen m.seq=(s.c.ay.aE (l.toNat-1)).seen
  ·rw[if_pos h4,if_pos h4];exact .inl ⟨15,rfl,rfl⟩
  rw[if_neg h4,if_neg h4];refine .inr ⟨m,_,_,rfl,rfl,Jb rfl (λj hj=>?_) (λj=>?_)⟩
  ·simp only[aT.ia];split
   ·rfl
   ·have:j=0\/j=1\/j=2:=oM;rcases this with rfl|rfl|rfl<;>rfl
  ·simp only[aT.ia];rw[if_neg oM]
def WH{C:aM}{b:Prop}{s s':ai}{kd l:Int}(h:Sd.gb C b s s' kd l):s'.c.p=s.c.p:=by
 rcases h.AL with q|⟨how,g,_⟩
 ·exact q.p
 ·exact g.p
def ato{a:Nat}{k:LK}{s:ai}{F:bx fr (bd k s)}{Kb:SK fr k}{l code:Int}(ha:gS a=ag)(hq:s.c.p.queue=k.most)(hP:FI k s l)(hK:∀F',Kb (.aD []) (s.item (aO aU) l code k.pn k.pf) F'):WG a (aO aU) k s F Kb l code:=by
 have leaf:∀(r:List (Sm (Gh fr)))(s':ai)(F':bx fr (bd k s')),s'=s.item (aO aU) l code k.pn k.pf->s'.c.p=s.c.p->A3 k s Kb r s' F':=by
  intro r s' F' e hp;subst e;exact⟨_,F',r,rfl,hp,hK F',rfl,rfl⟩
 have OA:∀e,code=0->¬(0<k.pn/\k.pf 0=1)->¬(0<k.pn/\k.pf 0=2)->Jz (aO aU) k s F Kb l e:=by
  intro e hc h1 h2 he;refine⟨cV hq,I6 (hP.r.r1) λF1=>leaf _ _ F1 ?_ rfl⟩;unfold ai.item;rw[if_neg (by simp[hc]),if_neg h1,if_neg h2];rcases aeo (aO aU) s l k.pn k.pf hP.lo with⟨e',h3,h4⟩|⟨m,E,t,h3,_,_⟩
  ·rw[h4];rw[h3]at he;have:=(DW he).2;cases this;rfl
  ·rw[h3]at he;have:=(DW he).2;cases this
 unfold WG;refine aN (λe=>⟨cV hq,I6 hP.r.r1 λF1=>leaf _ _ F1 ?_ rfl⟩) (λe=>⟨rfl,aN (λe1=>⟨cV hq,nv (M:=FB (aO aU)) ⟨⟨rfl,hP.oQ⟩,λF1=>leaf _ _ F1 ?_ ?_⟩⟩) (λe1=>⟨rfl,aN (λe2=>⟨cV hq,nv (M:=Jr (aO aU)) ⟨⟨rfl,hP.prv,hP.qZ.2⟩,λF1=>leaf _ _ F1 ?_ ?_⟩⟩) (λe2=>?_)⟩)⟩)
 ·unfold ai.item;rw[if_pos (by simpa using e)]
 ·unfold ai.item;rw[if_neg (by simpa using e),if_pos (by simpa using e1)]
 ·exact WH (b:=False) (Sd.acY Dj hP.i hP.lo)
 ·unfold ai.item;rw[if_neg (by simpa using e),if_neg (by simpa using e1),if_pos (by simpa using e2)]
 ·exact WH (b:=False) (Sd.acZ Dj hP.i hP.lo)
 ·have hc:code=0:=by simpa using e
  have n1:¬(0<k.pn/\k.pf 0=1):=by simpa using e1
  have n2:¬(0<k.pn/\k.pf 0=2):=by simpa using e2
  refine⟨⟨rfl,rfl,hP.qZ.1,hP.qZ.2,hP.lo,by have:=hP.i.p.da;omega,λi hi km=>?_⟩,OA 16 hc n1 n2,OA 14 hc n1 n2,OA 13 hc n1 n2,OA 15 hc n1 n2,λt' m ht=>⟨ha,λid=>?_⟩⟩
  ·have hs:(bQ (wA s)).aE i=s.c.ay.aE i:=by
    have:i=0\/i=1\/i=2:=oM;rcases this with rfl|rfl|rfl<;>rfl
   rw[hs]at km⊢;have:=hP.i.ay.aE i hi km;exact⟨this.2.2.2.2.2.1,this.2.2.2.2.2.2⟩
  ·rcases aeo (aO aU) s l k.pn k.pf hP.lo with⟨e',h3,h4⟩|⟨m',E,t,h3,h4,h5⟩
   ·rw[h3]at ht;have:=(DW ht).2;cases this
   ·rw[h3]at ht;obtain⟨rfl,hm⟩:=DW ht;cases hm;obtain⟨g1,g2,g3,g4,g5⟩:=Sd.ac0 Dj h4;have Oy:=g2.kind;have aej:=hP.i.p.da;have Nk:s.c.ay.on l=af:=by rw[Sd.Um hP.lo];exact g1
    have km:(s.c.ay.aE (l.toNat-1)).on=af:=by unfold aT.iZ at g1;simp at g1;exact g1.2
    have i1:Sd.Inv (kW s t).c:=by
     have:=hP.i.ia (i:=l.toNat-1) (x:={(s.c.ay.aE (l.toNat-1))with seen:=(aO aU).iE (s.c.ay.aE (l.toNat-1)).seen m.seq,on:=af,eo:=.start s.c.p.da}) rfl
      (by
       have:=hP.i.ay.aE (l.toNat-1) (by have:=hP.lo;omega) km;have h9:=Dj.iE (s.c.ay.aE (l.toNat-1)).seen m.seq ⟨oM,oM⟩ g2.seq;simp[Sd.Timer.start];omega)
     rw[<-g5]at this;exact this
    have hS:Sy (kW s t) l m:=⟨hP.r,i1,g2.seq,hP.lo.1,hP.lo.2⟩;have atp:(kW s t).c.ay.on l=af:=by
     show t.on l=af;rw[g5];exact Sd.Nj Nk rfl
    have qf:s.item (aO aU) l code k.pn k.pf=(kW s t).lv (aO aU) l m:=by
     unfold ai.item;rw[if_neg (by simp[hc]),if_neg n1,if_neg n2,h4];rfl
    have aep:((kW s t).lv (aO aU) l m).c.p=s.c.p:=(WH (C:=aO aU) (b:=False) (Sd.ac1 i1 hP.lo g2 atp g3 g4)).trans rfl;have go:∀(act:ai->Int->ca->ai),act (kW s t) l m=(kW s t).lv (aO aU) l m->zd a k s F Kb l (kr act) E m id:=by
     intro act JA;refine⟨cV hq,yR (M:=λs' F'=>kr act [.int .i64 l,.agg (dw m)] k s' F' λv s' F'=>A3 k s Kb [.m ⟨id,ra a⟩] s' F') h5 F ?_⟩;exact⟨hS,λF1=>leaf _ _ F1 (by rw[qf,JA]) (by rw[JA];exact aep)⟩
    refine⟨⟨rfl,rfl,ha,oM,oM⟩,?_⟩;have sy:∀j:Int,m.kind=j->(kW s t).lv (aO aU) l m=(kW s t).lv (aO aU) l m:=λ_ _=>rfl;refine aN (λe=>go _ ?_) (λx3=>aN (λe=>go _ ?_) (λx4=>aN (λe=>go _ ?_) (λx5=>aN (λe=>go _ ?_) (λx6=>aN (λe=>go _ ?_) (λx7=>aN (λe=>go _ ?_) (λx8=>aN (λe=>go _ ?_) (λx9=>?_)))))))
    ·unfold ai.lv;rw[if_pos (by simpa using e)]
    ·unfold ai.lv;rw[if_neg (by simpa using x3),if_pos (by simpa using e)]
    ·unfold ai.lv;rw[if_neg (by simpa using x3),if_neg (by simpa using x4),if_pos (by simpa using e)]
    ·unfold ai.lv;rw[if_neg (by simpa using x3),if_neg (by simpa using x4),if_neg (by simpa using x5),if_pos (by simpa using e)]
    ·unfold ai.lv;rw[if_neg (by simpa using x3),if_neg (by simpa using x4),if_neg (by simpa using x5),if_neg (by simpa using x6),if_pos (by simpa using e)]
    ·unfold ai.lv;rw[if_neg (by simpa using x3),if_neg (by simpa using x4),if_neg (by simpa using x5),if_neg (by simpa using x6),if_neg (by simpa using x7),if_pos (by simpa using e)]
    ·unfold ai.lv;rw[if_neg (by simpa using x3),if_neg (by simpa using x4),if_neg (by simpa using x5),if_neg (by simpa using x6),if_neg (by simpa using x7),if_neg (by simpa using x8),if_pos (by simpa using e)]
    ·have mR:m.kind=10\/m.kind=11:=by simp at x3 x4 x5 x6 x7 x8 x9;omega
     have JA:(kW s t).command (aO aU) l m=(kW s t).lv (aO aU) l m:=by
      unfold ai.lv;rw[if_neg (by simpa using x3),if_neg (by simpa using x4),if_neg (by simpa using x5),if_neg (by simpa using x6),if_neg (by simpa using x7),if_neg (by simpa using x8),if_neg (by simpa using x9),if_pos mR]
     refine⟨cV hq,yR (M:=λs' F'=>Jc (aO aU) [.int .i64 l,.agg (dw m)] k s' F' λv s' F'=>A3 k s Kb [.m ⟨id,ra a⟩] s' F') h5 F ?_⟩;exact⟨⟨hS,mR⟩,λF1=>leaf _ _ F1 (by rw[qf,JA]) (by rw[JA];exact aep)⟩
def aeq(ht:Body (fr:=fr) 124 dE):Body (fr:=fr) 77 (FJ (aO aU)):=by
 intro ar k s F Kb a b c R ms w0 w h0 hq hM S;unfold FJ at hM;split at hM
 ·rename_i l code vp;obtain⟨⟨rfl,hP⟩,hK⟩:=hM;have atq:cv a b c=[0,1,a,b,c]:=rfl;have ha:gS a=ag:=by
   have h1:(lits (cv a b c) (cv a b c) (bP k s F)++(F.B++R))[0]?=aa (aI (cv a b c) 0 (cx k)):=rfl;have h2:(lits (cv a b c) (cv a b c) (bP k s F)++(F.B++R))[1]?=aa (aI (cv a b c) 1 (g_ k)):=rfl;have h3:(lits (cv a b c) (cv a b c) (bP k s F)++(F.B++R))[2]?=aa (aI (cv a b c) a (vb 3 F)):=rfl;have n0:a≠0:=S.apart 2 0 _ _ h3 h1 dC rfl;have n2:a≠1:=S.apart 2 1 _ _ h3 h2 dC rfl;unfold gS;split
   ·exact absurd rfl n0
   ·exact absurd rfl n2
   ·rfl
  have hg:Gl (vu a) (cv a b c):=by
   intro g i dz;unfold vu at dz;split at dz
   ·rename_i j hj;obtain rfl:=cP dz;have:=aef a b c [] g j hj;simpa using this
   ·cases hb:aC g a with
    |false=>rw[hb]at dz;cases dz
    |true=>
     rw[hb]at dz;obtain rfl:=cP dz;obtain rfl:=cw hb;exact⟨by simp[atq],rfl⟩
  have S1:St ms w0 (lits (cv a b c) (cv a b c) (bP k s F)++ax [(.g (bj k s F):Sm (Gh fr))] R) w:=S;have hL:=atk (fr:=fr) a ht;refine(eO (G:=Sm (Gh fr)) hL.T hL.Q 90 (C:=gM du (vu a) (LI fr a (aO aU)) (Ox a) (aem a)) (f:=77) (ak:=[.ptr 2 0,.int .i64 l,.agg [.int .i64 code,.raw (fq k)]]) (K:=WE k s Kb) hg rfl S1 (by
   rw[atl];exact ato ha hq hP hK)).mono ?_
  rintro v w' ⟨x,aq,b9,ce,rfl,h1,S',s',F',r,hv,hp,Wq,hb,rfl⟩;have ev:den (cv a b c++aq) x=den [] x:=by have:=gX (ae:=[]) (aq:=cv a b c++aq) x hv;simpa using this
  refine⟨x,s',F',ev,hv,hp,Wq,?_⟩;have qh:b9=bP k s' F'++b9.drop 5:=by rw[<-hb,jR]
  rw[qh]at S';have e2:lits (cv a b c++aq) (cv a b c++aq) (bP k s' F'++b9.drop 5)=lits (cv a b c) (cv a b c) (bP k s' F')++lits (cv a b c++aq) aq (b9.drop 5):=by
   rw[fw _ _ _ _ rfl,fy (ae:=cv a b c) (aq:=aq) (cv a b c) (bP k s' F') rfl]
  rw[e2]at S';have e3:ax (.g (bj k s' F')::r:List (Sm (Gh fr))) R=F'.B++ax r R:=rfl;rw[e3,fk R r]at S';refine S'.sub ?_;rw[bZ];refine mV ?_ _;refine ahg ?_ (kM _ _);exact mV (kM _ _) _
 ·exact hM.elim
end
section
def atr(fr:aQ->Nat×az)(C:aM):ot fr C [ah,ah,ah,ah]:=λk s F Kb=>kR
def att(fr:aQ->Nat×az)(C:aM):ot fr C [ah,ah,ah,af]:=λk s F Kb=>kR
def atu(fr:aQ->Nat×az)(C:aM):ot fr C [ah,ah,af,ah]:=λk s F Kb=>kR
def atv(fr:aQ->Nat×az)(C:aM):ot fr C [ah,ah,af,af]:=λk s F Kb=>kR
def atw(fr:aQ->Nat×az)(C:aM):ot fr C [ah,af,ah,ah]:=λk s F Kb=>kR
def atx(fr:aQ->Nat×az)(C:aM):ot fr C [ah,af,ah,af]:=λk s F Kb=>kR
def aty(fr:aQ->Nat×az)(C:aM):ot fr C [ah,af,af,ah]:=λk s F Kb=>kR
def atz(fr:aQ->Nat×az)(C:aM):ot fr C [ah,af,af,af]:=λk s F Kb=>kR
def atA(fr:aQ->Nat×az)(C:aM):ot fr C [af,ah,ah,ah]:=λk s F Kb=>kR
def atC(fr:aQ->Nat×az)(C:aM):ot fr C [af,ah,ah,af]:=λk s F Kb=>kR
def atD(fr:aQ->Nat×az)(C:aM):ot fr C [af,ah,af,ah]:=λk s F Kb=>kR
def atE(fr:aQ->Nat×az)(C:aM):ot fr C [af,ah,af,af]:=λk s F Kb=>kR
def atF(fr:aQ->Nat×az)(C:aM):ot fr C [af,af,ah,ah]:=λk s F Kb=>kR
def atG(fr:aQ->Nat×az)(C:aM):ot fr C [af,af,ah,af]:=λk s F Kb=>kR
def atH(fr:aQ->Nat×az)(C:aM):ot fr C [af,af,af,ah]:=λk s F Kb=>kR
def atI(fr:aQ->Nat×az)(C:aM):ot fr C [af,af,af,af]:=λk s F Kb=>kR
variable{fr:aQ->Nat×az}
def atJ(fr:aQ->Nat×az)(C:aM)(a b c d:Bool):ot fr C [a,b,c,d]:=by
 cases a<;>cases b<;>cases c<;>cases d
 ·exact atr fr C
 ·exact att fr C
 ·exact atu fr C
 ·exact atv fr C
 ·exact atw fr C
 ·exact atx fr C
 ·exact aty fr C
 ·exact atz fr C
 ·exact atA fr C
 ·exact atC fr C
 ·exact atD fr C
 ·exact atE fr C
 ·exact atF fr C
 ·exact atG fr C
 ·exact atH fr C
 ·exact atI fr C
structure gf(c:Core):Prop where
 p:fL c.p
 t:TB c.t
 o1:cq c.t.oa.n
 o2:cq c.t.oa.most
 l1:cq c.t.la.n
 l2:cq c.t.la.most
 wk:c.t.offer<=4
 q:∀a∈c.q,N4 a.source/\cq a.dJ.n/\cq a.dJ.most
 pt:FE c.pt
def b0:cq 0:=⟨dC,dC⟩
def aer{n m:Int}(h1:cq n)(h2:cq m):cq (sat n m):=by
 obtain⟨a,b⟩:=h1;obtain⟨c,d⟩:=h2;unfold sat;split
 ·exact⟨oM,oM⟩
 ·exact⟨c,d⟩
def gf.tok{c:Core}(h:gf c){t:Sd.Tok}(ht:TB t)(o1:cq t.oa.n)(o2:cq t.oa.most)(wk:t.offer<=4)(hl:t.la=c.t.la):gf {c with t:=t}:=⟨h.p,ht,o1,o2,hl▸h.l1,hl▸h.l2,wk,h.q,h.pt⟩
def gf.drop{c:Core}(h:gf c)(l:Int):gf {c with t:=(c.t.drop l).1}:=by
 unfold Sd.Tok.drop;split
 ·exact h
 ·exact h.tok ⟨h.t.h,h.t.e⟩ b0 b0 (by simp[Sd.Tok.jH]) rfl
def gf.tick{c:Core}(h:gf c):gf {c with t:=c.t.tick.1}/\c.t.tick.2<=4:=by
 unfold Sd.Tok.tick;split
 ·exact⟨h,sP⟩
 ·split
  ·exact⟨h.tok ⟨h.t.h,h.t.e⟩ b0 b0 (by simp[Sd.Tok.jH]) rfl,h.wk⟩
  ·exact⟨h.tok ⟨h.t.h,h.t.e⟩ (aer h.o1 h.o2) h.o2 h.wk rfl,sP⟩
def gf.qs{c:Core}(h:gf c){q:List Sd.Ask}(hq:∀a∈q,N4 a.source/\cq a.dJ.n/\cq a.dJ.most):gf {c with q:=q}:=⟨h.p,h.t,h.o1,h.o2,h.l1,h.l2,h.wk,hq,h.pt⟩
def gf.head{c:Core}(h:gf c)(x:az):gf {c with head:=x}:=⟨h.p,h.t,h.o1,h.o2,h.l1,h.l2,h.wk,h.q,h.pt⟩
def gf.JB{s:ai}(h:gf s.c)(C:aM)(a b c d e:Int):gf (s.record C a b c d e).c:=h.head _
def gf.gone{s:ai}(h:gf s.c)(l w c:Int):gf (s.gone l w c).c:=by rw[mg];exact h
def gf.leave{s:ai}(h:gf s.c)(C:aM)(l:Int):gf (s.leave C l).c:=by
 have h1:gf (qd s l).c:=h.qs λa ha=>h.q a (Bw.1 ha).1;rw[VV];split
 ·exact h1
 ·exact((show gf (gP (qd s l) (s.c.t.drop l).1).c from h1.drop l).gone _ _ _).JB _ _ _ _ _ _
def aes{c:Core}(h:gf c):∀a∈Sd.Q.pI c.q,N4 a.source/\cq a.dJ.n/\cq a.dJ.most:=by
 intro a ha;obtain⟨b,hb,rfl⟩:=oC.1 ha;obtain⟨h1,h2,h3⟩:=h.q b hb;exact⟨h1,aer h2 h3,h3⟩
def FK(C:aM)(s:ai)(a:Sd.Ask):ai:=(s.gone a.source a.source 30).record C 12 a.source 0 30 0
def nC(C:aM)(s:ai)(x:Int):ai:=if Sd.linked x then(s.record C 5 x 0 0 0).leave C x else s.record C 5 x 0 0 0
def FL(C:aM)(s:ai):ai:=if 0<=s.c.t.tick.2 then((gP s s.c.t.tick.1).gone s.c.t.tick.1.aS s.c.t.tick.2 30).record C 12 s.c.t.tick.2 0 30 0 else gP s s.c.t.tick.1
def aet(C:aM)(s:ai)(a:Sd.Ask):(FK C s a).c.p=s.c.p:=by show(ai.gone _ _ _ _).c.p=_;rw[mg]
def OB(C:aM)(s:ai)(x:Int):(nC C s x).c.p=s.c.p:=by
 unfold nC;split
 ·rw[N2];rfl
 ·rfl
def aeu(C:aM)(s:ai)(t:Sd.Tok)(h n:Int):(s.goes C t h n).c.pt=s.c.pt:=by
 show(ai.eK _ _ _).c.pt=_;rw[kU,kU]
def aev(C:aM)(s:ai):(s.dL C).c.p=s.c.p:=by
 rw[Jf _ _ _ rfl];split
 ·rfl
 ·split
  ·exact N_ _ _ _ _ _ _ _
  ·exact N_ _ _ _ _ _ _ _
def atK{C:aM}{s:ai}(h:FE s.c.pt):FE (s.dL C).c.pt:=by
 have hf:∀(t:ai)(m:Int)(b:Label),t.c.pt=s.c.pt->FE (t.eL m b).c.pt:=by
  intro t m b e;show FE (t.c.pt.hold b);rw[e];exact⟨b0,b0,b0,b0,h.2.2.2.2⟩
 rw[Jf _ _ _ rfl];split
 ·exact h
 ·split
  ·exact hf _ _ _ (aeu _ _ _ _ _)
  ·exact hf _ _ _ (aeu _ _ _ _ _)
section
variable{tk:Nat->az->Option ca}{k:LK}{s0:ai}{Kb:SK fr k}
def atM{C:aM}{s:ai}{F:bx fr (bd k s)}{K:SK fr k}(h:VZ s)(hK:∀F',K (.aD []) (s.dL C) F'):C_ C [] k (bV s) F K:=by
 have e:C_ C [] k s F K=(VZ s/\∀F',K (.aD []) (s.dL C) F'):=kR;exact nv (M:=C_ C) (e▸⟨h,hK⟩)
def atN{C:aM}{s:ai}{F:bx fr (bd k s)}{K:SK fr k}{l:Int}(h:Rm s 2/\N4 l)(hK:∀F',K (.aD []) (s.leave C l) F'):vh C [.int .i64 l] k (bV s) F K:=by
 have e:vh C [.int .i64 l] k s F K=((Rm s 2/\N4 l)/\∀F',K (.aD []) (s.leave C l) F'):=kR;exact nv (M:=vh C) (e▸⟨h,hK⟩)
def JC:∀(l:List Sd.Ask)(s:ai)(F:bx fr (bd k s))(j:List VB),s.c.p=s0.c.p->s.c.p.queue=k.most->gf s.c->(∀a∈l,N4 a.source)->Rm s (2*l.length+8)->
 (∀F',Kb (.aD []) (De ((l.foldl (FK (aO tk)) s).dL (aO tk))) F')->FF (aO tk) k s0 Kb l s F j
 |[],s,F,j,hp,hq,hT,hl,hr,hK=>⟨cV hq,atM ⟨hr,hT.p,hT.t,hT.l1,hT.l2⟩ λF2=>⟨⟨by rw[aev];exact hT.p,atK hT.pt⟩,eW (s':=De (s.dL (aO tk))) rfl hK F2 (hp:=by show(ai.dL _ _).c.p=_;rw[aev];exact hp) (hb:=kR)⟩⟩
 |a::l,s,F,j,hp,hq,hT,hl,hr,hK=>by
  have ha:=hl a sP;have kq:Rm s (2*l.length+8+1+1):=hr.le (by simp only[jv];omega);refine⟨cV hq,I5 ⟨hr.le oM,ha,⟨dC,dC⟩⟩ λF2=>⟨cV (by rw[mg];exact hq),nA kq.gone.r1 λF3=>JC l (FK (aO tk) s a) F3 _ (by rw[aet];exact hp) (by rw[aet];exact hq) ((hT.gone _ _ _).JB _ _ _ _ _ _) (λb hb=>hl b (by simp[hb])) kq.gone.rec hK⟩⟩
def aew(s:ai)(F:bx fr (bd k s))(j:List VB)(hp:s.c.p=s0.c.p)(hq:s.c.p.queue=k.most)(hT:gf s.c)(hr:Rm s 14)
 (hK:∀F',Kb (.aD []) (De (((Sd.Q.gone s.c.q).foldl (FK (aO tk)) (cO s (Sd.Q.kept s.c.q))).dL (aO tk))) F'):V8 (aO tk) k s0 Kb s F j:=by
 have wM:gf (cO s (Sd.Q.kept s.c.q)).c:=hT.qs λa ha=>aes hT a (Bw.1 ha).1;have hg:∀a∈Sd.Q.gone s.c.q,N4 a.source:=λa ha=>(aes hT a (Bw.1 ha).1).1;have kq:Rm (cO s (Sd.Q.kept s.c.q)) 14:=hr;refine⟨⟨rfl,λa ha=>(hT.q a ha).2⟩,λB h=>⟨λe x c=>?_,λa e c t=>?_,λa b e c t=>?_,λa b d e c t=>?_⟩⟩<;>rw[e]at hK hg
 ·exact JC [] _ _ _ hp hq wM hg (kq.le sP) hK
 ·exact JC [a] _ _ _ hp hq wM hg (kq.le sP) hK
 ·exact JC [a,b] _ _ _ hp hq wM hg (kq.le sP) hK
 ·exact JC [a,b,d] _ _ _ hp hq wM hg (kq.le sP) hK
def aex(s:ai)(F:bx fr (bd k s))(j:List VB)(hp:s.c.p=s0.c.p)(hq:s.c.p.queue=k.most)(hT:gf s.c)(hr:Rm s 16)
 (hK:∀F',Kb (.aD []) (De (((Sd.Q.gone (FL (aO tk) s).c.q).foldl (FK (aO tk)) (cO (FL (aO tk) s) (Sd.Q.kept (FL (aO tk) s).c.q))).dL (aO tk))) F'):FG (aO tk) k s0 Kb s F j:=by
 have wM:gf (gP s s.c.t.tick.1).c:=hT.tick.1;have kq:Rm (gP s s.c.t.tick.1) 16:=hr;refine⟨⟨hT.o1,hT.o2⟩,aN (λe=>?_) (λe=>?_)⟩
 ·have e1:0<=s.c.t.tick.2:=by simpa using e
  have e2:FL (aO tk) s=((gP s s.c.t.tick.1).gone s.c.t.tick.1.aS s.c.t.tick.2 30).record (aO tk) 12 s.c.t.tick.2 0 30 0:=if_pos e1;rw[e2]at hK;refine⟨cV hq,I5 ⟨kq.le dC,⟨e1,hT.tick.2⟩,⟨dC,dC⟩⟩ λF2=>⟨cV (by rw[mg];exact hq),nA kq.gone.r1 λF3=>aew _ F3 _ ?_ ?_ ((wM.gone _ _ _).JB _ _ _ _ _ _) (kq.gone.rec) hK⟩⟩
  ·show(ai.gone _ _ _ _).c.p=_;rw[mg];exact hp
  ·show(ai.gone _ _ _ _).c.p.queue=_;rw[mg];exact hq
 ·have e1:¬0<=s.c.t.tick.2:=by simpa using e
  have e2:FL (aO tk) s=gP s s.c.t.tick.1:=if_neg e1;rw[e2]at hK;exact aew (gP s s.c.t.tick.1) F _ hp hq wM (kq.le dC) hK
def gf.nC{s:ai}(h:gf s.c)(C:aM)(x:Int):gf (nC C s x).c:=by
 unfold Go.Proofs.YtddcipamdggcnaaGreatDoor.nC;split
 ·exact(h.JB C _ _ _ _ _).leave C x
 ·exact h.JB C _ _ _ _ _
def Rm.nC{C:aM}{s:ai}{x:Int}{n:Nat}(h:Rm s (n+3)):Rm (nC C s x) n:=by
 unfold Go.Proofs.YtddcipamdggcnaaGreatDoor.nC;have h1:Rm (s.record C 5 x 0 0 0) (n+2):=Rm.rec h;split
 ·exact h1.leave
 ·exact h1.le oM
def aey{C:aM}{x:Int}{s:ai}{X:(s2:ai)->bx fr (bd k s2)->Prop}(hq:s.c.p.queue=k.most)(hr:Rm s 4)(hx:0<=x/\x<=3)(h:∀F3:bx fr (bd k (nC C s x)),X (nC C s x) F3):
 ∀F2:bx fr (bd k (s.record C 5 x 0 0 0)),True/\lc x (cF k (s.record C 5 x 0 0 0) F2/\vh C [.int .i64 x] k (bV (s.record C 5 x 0 0 0)) F2 λv s3 F3=>X s3 F3) (X (s.record C 5 x 0 0 0) F2):=by
 intro F2;refine⟨trivial,asa (aN (λe=>⟨cV hq,atN ⟨(Rm.rec hr).le dC,⟨hx.1,oM⟩⟩ λF3=>?_⟩) (λe=>?_))⟩
 ·have e1:nC C s x=(s.record C 5 x 0 0 0).leave C x:=if_pos e;rw[e1]at h;exact h F3
 ·have e1:nC C s x=s.record C 5 x 0 0 0:=if_neg (by rw[e];decide);rw[e1]at h;exact h F2
def aez{cont:SC fr k}:∀(l:List Int)(s:ai)(F:bx fr (bd k s))(j:List VB),s.c.p=s0.c.p->s.c.p.queue=k.most->gf s.c->(∀x∈l,0<=x/\x<=3)->Rm s (3*l.length+16)->
 (∀s2:ai,s2=l.foldl (nC (aO tk)) s->s2.c.p=s0.c.p->s2.c.p.queue=k.most->gf s2.c->Rm s2 16->∀F2,cont s2 F2 j)->Dd (aO tk) k cont l s F j
 |[],s,F,j,hp,hq,hT,hl,hr,hc=>hc s rfl hp hq hT (hr.le sP) F
 |x::l,s,F,j,hp,hq,hT,hl,hr,hc=>by
  have kq:Rm s (3*l.length+16+3):=hr.le (by simp only[jv];omega);exact⟨cV hq,nA hr.r1 (aey (X:=λs2 F2=>Dd (aO tk) k cont l s2 F2 j) hq (hr.le oM) (hl x sP) λF3=>aez l _ F3 j (by rw[OB];exact hp) (by rw[OB];exact hq) (hT.nC _ _) (λy hy=>hl y (by simp[hy])) kq.nC hc)⟩
end
def Hi(s:ai):Prop:=∀j,(s.c.ay.aE (j+3)).on=ah
def aeA{s:ai}(h:Hi s):qX s (eA s.c.ay).tick=kW s s.c.ay.tick:=by
 refine Jb rfl ?_ ?_
 ·intro j hj;have:j=0\/j=1\/j=2:=oM;rcases this with rfl|rfl|rfl<;>rfl
 ·intro j;simp[aT.tick,h j]
def aeB(t:aT):nB (wK t) 0=t.ended:=by
 unfold wK aT.ended;cases t.zY<;>cases t.mG 0<;>cases t.mG 1<;>cases t.mG 2<;>rfl
def aeC:∀(bs:List Bool)(n:Int),(∀x∈nB bs n,n<=x/\x<n+bs.length)/\(nB bs n).length<=bs.length
 |[],n=>⟨by simp[nB],by simp[nB]⟩
 |b::l,n=>by
  obtain⟨h1,h2⟩:=aeC l (n+1);cases b
  ·refine⟨λx hx=>?_,?_⟩
   ·have:=h1 x hx;simp only[jv];omega
   ·show(nB l (n+1)).length<=_;simp only[jv];omega
  ·refine⟨λx hx=>?_,?_⟩
   ·rcases cG.1 hx with rfl|hx
    ·simp only[jv];omega
    ·have:=h1 x hx;simp only[jv];omega
   ·show(n::nB l (n+1)).length<=_;simp only[jv];omega
def aeD(t:aT):(∀x∈t.ended,0<=x/\x<=3)/\t.ended.length<=4:=by
 rw[<-aeB];obtain⟨h1,h2⟩:=aeC (wK t) 0;have e:(wK t).length=4:=rfl;rw[e]at h1 h2;exact⟨λx hx=>by have:=h1 x hx;omega,h2⟩
def OC(C:aM)(s:ai):ai:=FL C (s.c.ay.ended.foldl (nC C) (kW s s.c.ay.tick))
def OD(C:aM)(s:ai):s.tick C=De (((Sd.Q.gone (OC C s).c.q).foldl (FK C) (cO (OC C s) (Sd.Q.kept (OC C s).c.q))).dL C):=kR
structure TkP(s:ai):Prop where
 c:gf s.c
 r:Rm s 28
 h:Hi s
 b:Od s.c.ay
def FM(C:aM):SM fr:=λar k s F K=>match ar with
 |[]=>TkP s/\∀F',K (.aD []) (s.tick C) F'
 |_=>False
def atO{f:Nat}{M:SM fr}(h:∀s0:ai,Body f (λar k s F K=>s=s0/\M ar k s F K)):Body f M:=λar k s F Kb a b c R ms w0 w h0 hq hM S=>h s ar k s F Kb a b c R ms w0 w h0 hq ⟨rfl,hM⟩ S
def aeE(tk:Nat->az->Option ca)(ht:Body (fr:=fr) 124 dE)(h1:∀bs,Sound du gS 106 (Jl (fr:=fr) bs))(h2:Sound du gS 110 (Jm (fr:=fr))):Body (fr:=fr) 80 (FM (aO tk)):=by
 refine atO λs0=>mQ (n:=90) (asb tk ht (wK (eA s0.c.ay)) (h1 _) h2) ?_;intro ar k s F Kb h0 hq hM;obtain⟨rfl,hM⟩:=hM;unfold FM at hM;split at hM
 ·have hP:=hM.1;have hK:=hM.2;rw[OD]at hK;have hv:=atJ fr (aO tk) (eA s.c.ay).zY ((eA s.c.ay).mG 0) ((eA s.c.ay).mG 1) ((eA s.c.ay).mG 2) k s F Kb;refine hv▸⟨⟨hP.b,rfl⟩,?_⟩;have el:nB [(eA s.c.ay).zY,(eA s.c.ay).mG 0,(eA s.c.ay).mG 1,(eA s.c.ay).mG 2] 0=s.c.ay.ended:=aeB s.c.ay;rw[el];have kq:Rm (kW s s.c.ay.tick) 28:=hP.r;have wM:gf (kW s s.c.ay.tick).c:=⟨hP.c.p,hP.c.t,hP.c.o1,hP.c.o2,hP.c.l1,hP.c.l2,hP.c.wk,hP.c.q,hP.c.pt⟩;obtain⟨hb,hn⟩:=aeD s.c.ay;unfold OC at hK;revert hK hb hn;generalize s.c.ay.ended=l;intro hK hb hn;cases l with
  |nil=>
   intro x c;exact yR (M:=λs' F=>FG (aO tk) k s Kb s' F []) (aeA hP.h) F (aex _ _ _ rfl hq wM (kq.le dC) hK)
  |cons a l=>
   intro c t;simp only[jv]at hn;refine⟨cV hq,yR (M:=λs' F=>jm (aO tk) [.int .i64 5,.int .i64 a,.int .i64 0,.int .i64 0,.int .i64 0] k s' F _) (aeA hP.h) F ⟨kq.r1,aey (s:=kW s s.c.ay.tick) (X:=λs2 F2=>Dd (aO tk) k (FG (aO tk) k s Kb) l s2 F2 [Jk (a::l) t]) hq (kq.le dC) (hb a sP) λF3=>?_⟩⟩;refine aez l _ F3 _ (OB _ _ _) (by rw[OB];exact hq) (wM.nC _ _) (λx hx=>hb x (by simp[hx])) ((Rm.nC (n:=25) kq).le oM) ?_;intro s2 e2 xV Uf hT2 zX F2;subst e2;exact aex _ F2 _ xV Uf hT2 zX hK
 ·exact hM.elim
def cC:aj:=.slice ag 0 0
def dG(k:LK)(s:ai):List VB:=[cx k,g_ k,fM k 3 s,fA s]
def JD(k:LK)(s:ai)(F:bx fr (bd k s)):Prop:=cC=F.vs/\cC=F.vr/\aa (cx k)=aa (cx k)/\aa (g_ k)=aa (g_ k)/\nr k 3 s=nr k 3 (bV s)/\s.c.p.da=s.c.p.da/\s.c.p.jk=s.c.p.jk/\s.c.p.queue=k.most
def rh(s:ai)(vs vr:aj):List V:=[.int .i64 s.c.mode,.int .i64 s.c.pt.cls,.int .i64 s.c.pt.now.a,.int .i64 s.c.pt.now.b,.int .i64 s.c.pt.now.c,.int .i64 s.c.pt.now.d,.int .i64 s.c.gW.na,.int .i64 s.c.gW.source,.int .i64 s.c.gW.seq,
 .int .i64 s.c.pt.ct.na,.int .i64 s.c.pt.ct.source,.int .i64 s.c.pt.ct.seq,.raw vs,.raw vr,.cu .u8 32 s.c.head]
def vw(k:LK)(s:ai)(Kb:(s':ai)->bx fr (bd k s')->Prop):VK (Gh fr):=λv bl ch=>∃(s':ai)(F':bx fr (bd k s')),v=.agg (rh s' F'.vs F'.vr)/\bl.take 4=dG k s'/\ch=[bj k s' F']/\Kb s' F'
def LC(fr:aQ->Nat×az)(C:aM):List (bT (Gh fr)):=[⟨80,ah,gO (FM C)⟩,⟨78,ah,gO (Fy C)⟩,⟨79,ah,gO (FA C)⟩,⟨77,ah,gO (FJ C)⟩]
def atP(ht:Body (fr:=fr) 124 dE):aK du gS (LC fr (aO aU)):=
 aK.cons (iH (aeE aU ht (λbs=>ad6 bs gS) (ad8 gS))) (aK.cons (iH (adM aU ht)) (aK.cons (iH (adS aU ht)) (aK.cons (iH (aeq ht)) aK.nil)))
def LCt(fr:aQ->Nat×az)(C:aM):List (bT (Gh fr)):=[⟨80,ah,gO (FM C)⟩]
def atQ(ht:Body (fr:=fr) 124 dE):aK du gS (LCt fr (aO aU)):=aK.cons (iH (aeE aU ht (λbs=>ad6 bs gS) (ad8 gS))) aK.nil
def LCs(fr:aQ->Nat×az)(C:aM):List (bT (Gh fr)):=[⟨78,ah,gO (Fy C)⟩]
def atS(ht:Body (fr:=fr) 124 dE):aK du gS (LCs fr (aO aU)):=aK.cons (iH (adM aU ht)) aK.nil
def LCh(fr:aQ->Nat×az)(C:aM):List (bT (Gh fr)):=[⟨79,ah,gO (FA C)⟩]
def atT(ht:Body (fr:=fr) 124 dE):aK du gS (LCh fr (aO aU)):=aK.cons (iH (adS aU ht)) aK.nil
def LCi(fr:aQ->Nat×az)(C:aM):List (bT (Gh fr)):=[⟨77,ah,gO (FJ C)⟩]
def atU(ht:Body (fr:=fr) 124 dE):aK du gS (LCi fr (aO aU)):=aK.cons (iH (aeq ht)) aK.nil
section
variable(C:aM)(k:LK)(s:ai)(F:bx fr (bd k s))(Kb:(s':ai)->bx fr (bd k s')->Prop)
def OE(s':ai)(F':bx fr (bd k s')):Prop:=vw k s Kb (.agg (rh s' F'.vs F'.vr)) (dG k s') [bj k s' F']
def atV:bz (bU du gS (LCt fr C)) 60 58 [.ptr 2 0] (dG k s) [bj k s F] (vw k s Kb)=(JD k s F/\FM C [] k (bV s) F λv s' F'=>OE k s Kb s' F'):=kR
def atW(b:Bool):bz (bU du gS (LCh fr C)) 60 57 [.ptr 2 0,.bool b] (dG k s) [bj k s F] (vw k s Kb)=(JD k s F/\FA C [.bool b] k (bV s) F λv s' F'=>OE k s Kb s' F'):=kR
def atX(x:fK):bz (bU du gS (LCs fr C)) 60 56 [.ptr 2 0,.agg (qU x)] (dG k s) [bj k s F] (vw k s Kb)=(JD k s F/\Fy C [.agg (qU x)] k (bV s) F λv s' F'=>OE k s Kb s' F'):=kR
def aeF(l code:Int):Prop:=
 let no:Prop:=vw k s Kb (.agg (rh s cC cC)) (dG k s) [bj k s F]
 cond (decide (l>=1)) (cond (decide (l<=3)) (JD k s F/\FJ C [.int .i64 l,.agg [.int .i64 code,.raw (fq k)]] k (bV s) F λv s' F'=>OE k s Kb s' F') no) no
def atY(l code:Int):bz (bU du gS (LCi fr C)) 60 55 [.ptr 2 0,.int .i64 l,.agg [.int .i64 code,.raw (fq k)]] (dG k s) [bj k s F] (vw k s Kb)=aeF C k s F Kb l code:=kR
end
def oZ(s:ai)(qv:V):List V:=[.int .i64 s.c.t.aS,.int .i64 s.c.t.au,.int .i64 s.c.t.offer,.int .i64 s.c.mode]++(oe s.c.gW++(yI s.c.pt++(qv::([.bool ((eA s.c.ay).on 0),.bool ((eA s.c.ay).on 1),.bool ((eA s.c.ay).on 2),.bool ((eA s.c.ay).on 3),.bool ((eA s.c.ay).on 4)]++
 [.int .i64 ((eA s.c.ay).role 0),.int .i64 ((eA s.c.ay).role 1),.int .i64 ((eA s.c.ay).role 2),.int .i64 ((eA s.c.ay).role 3),.int .i64 ((eA s.c.ay).role 4),.bool s.c.t.bad]))))
def vx:List Sd.Ask->List V
 |[]=>[]
 |a::l=>.int .i64 a.source::vx l
def Dk(l:List Sd.Ask)(u:List aj):VB:=⟨af,⟨3,(0,0)⟩,vx l++[.rest u]⟩
def OF:Nat->Nat->Prop->Prop
 |0,_,q=>q
 |n+1,j,q=>True/\(0<=(j:Int)/\(j:Int)<(5:Nat))/\True/\True/\OF n (j+1) q
section
variable(C:aM)(k:LK)(s:ai)(F:bx fr (bd k s))(K:VK (Gh fr))
def atZ:Prop:=OF 5 0 (K (.agg (oZ s (.raw cC))) (dG k s) [bj k s F])
def WJ(l:List Sd.Ask)(c:Nat)(u:List aj):Prop:=OF 5 0 (K (.agg (oZ s (.sl 4 0 l.length c))) (dG k s++[Dk l u]) [bj k s F])
def WK(n:Nat)(l:List Sd.Ask)(P:Prop)(k:Nat->List aj->Prop):Prop:=P/\(∀(c:Nat)(u:List aj),n+1<=c->cM (vx l++[.rest u])=c*1->k c u)/\(∀(c:Nat)(u:List aj),n+1<=c->cM (vx l++[.rest u])=c*1->k c u)
def WM(a:Sd.Ask)(k:Nat->List aj->Prop):Prop:=∀(c:Nat)(u:List aj),0+1<=c->cM (vx [a]++[.rest u])=c*1->k c u
def at0:Prop:=vq k=vq k/\(s.c.q=[]->∀(x:Option aF)(c:Nat),atZ k s F K)/\
 (∀a,s.c.q=[a]->∀(c:Nat)(t:List aj),WM a λc u=>WJ k s F K [a] c u)/\
 (∀a b,s.c.q=[a,b]->∀(c:Nat)(t:List aj),WM a λc u=>WK 1 [a,b] (1<=c/\cM (vx [a]++[.rest u])=c*1) λc u=>WJ k s F K [a,b] c u)/\
 (∀a b d,s.c.q=[a,b,d]->∀(c:Nat)(t:List aj),WM a λc u=>WK 1 [a,b] (1<=c/\cM (vx [a]++[.rest u])=c*1) λc u=>WK 2 [a,b,d] (2<=c/\cM (vx [a,b]++[.rest u])=c*1) λc u=>WJ k s F K [a,b,d] c u)
def at1:bz (gM du gS (L8 fr C) (Cp du) EM) 60 37 [.ptr 2 0] (dG k s) [bj k s F] (bG 4 K)=at0 k s F K:=kR
end
end
end Go.Proofs.YtddcipamdggcnaaGreatDoor
namespace Sd
variable{C:aM}{b:Prop}{s:ai}{l:Int}{m:ca}
def OG{X:ai}{k a n e w:Int}(h:Quiet C b s X)(hk:k≠8)(hb:oV b ⟨k,a,n,X.c.t.au,e,w⟩):Quiet C b s (X.record C k a n e w):=
 h.trans (ai.qb hk hb)
def Inv.at2{c:Core}(h:Inv c){n y:Int}(hn:0<=n/\n<=4294967295):Inv {c with samples:=n,ay:=c.ay.iK c.p,beyond:=y}:=by
 have hb:=h.p.da;have h1:=Inv.Ni (T:=c.ay) (T':=c.ay.iK c.p) h ⟨λ_=>by simp[aT.iK,Timer.start];omega,h.ay.aE⟩
  (λa ha=>by
   have:=(h.q.each a ha).2.2.2.1;unfold aT.on at*;split
   ·rfl
   ·rename_i h4;rw[if_neg h4]at this;split
    ·rfl
    ·rename_i h0;rw[if_neg h0]at this;exact this)
  (λho=>by
   have:c.ay.on c.t.offer=af:=by
    rcases h.tok.offer with h1|⟨_,_,_,h1,_⟩
    ·omega
    ·exact h1
   unfold aT.on at*;split
   ·rfl
   ·rename_i h4;rw[if_neg h4]at this;split
    ·rfl
    ·rename_i h0;rw[if_neg h0]at this;exact this)
 exact⟨h1.p,h1.tok,h1.q,h1.ay,hn,h1.mode,h1.doors⟩
def gb.at3{t:ai}{c:Core}{kind link:Int}(k:gb C b ({s with c:=c}:ai) t kind link)(h1:c.t=s.c.t)(h2:c.q=s.c.q)(h3:c.p=s.c.p)(h4:c.head=s.c.head):gb C b s t kind link:=by
 have q0:Quiet C b s ({s with c:=c}:ai):=ai.jK (by rw[h1]) (by rw[h1]) h3 h4;refine⟨k.inv,?_⟩;rcases k.AL with q|⟨how,g,w⟩
 ·exact .inl (q0.trans q)
 ·refine .inr ⟨how,q0.goes g,?_⟩;unfold wy at*;simpa only[h1,h2,h3]using w
def WN{x:fK}(h:Inv s.c):gb C b s (s.iK C x) 1 0:=by
 have e0:=h.mh;unfold ai.iK;split
 ·exact .k_ ⟨h.p,h.tok,h.q,h.ay,h.samples,h.mode,h.doors⟩ (ai.jK rfl rfl rfl rfl)
 dsimp only;have hn:=ahV h.samples.1 (m:=4294967295) oM h.samples.2;have i1:=h.at2 (y:=(iE s.c.p s.c.beyond x).1) hn;have q1:Quiet C b s ({s with c:={s.c with samples:=sat s.c.samples 4294967295,ay:=s.c.ay.iK s.c.p,beyond:=(iE s.c.p s.c.beyond x).1}}:ai):=ai.jK rfl rfl rfl rfl;split
 ·rename_i hg;split
  ·have h2:=acT s.c.t s.c.q 0;refine .k_ (i1.head _) (OG q1 sP ?_);exact⟨sP,sP,hn,e0,λ_=>⟨h2.1,vM h2.2 dC⟩,sP⟩
  ·rename_i hz;obtain⟨g0,a,r,g1,g2,g3,g4,g5,g6⟩:=acU (by simpa using hz);rw[g2];refine gb.at3 (c:={s.c with samples:=sat s.c.samples 4294967295,ay:=s.c.ay.iK s.c.p,beyond:=(iE s.c.p s.c.beyond x).1}) (IH (s:=⟨_,s.bE,s.aY⟩) i1 ⟨g3,g4⟩ ⟨_,rfl⟩ g5 g6 sP hn ?_) rfl rfl rfl rfl;refine .inr (.inl ⟨rfl,sP,⟨a,r,g1,by simp[Tok.pass]⟩,?_⟩);simp;exact g0.symm
 split
 ·rename_i h0;split
  ·have h2:=Uj s.c.p s.c.t 0 0 s.c.mode {xI 11 with au:=s.c.t.au,cls:=1};refine .k_ (i1.head _) (OG q1 sP ?_);exact⟨sP,sP,hn,e0,λ_=>⟨h2.1,vM h2.2 dC⟩,sP⟩
  ·refine .k_ (Inv.head (c:={s.c with samples:=sat s.c.samples 4294967295,ay:=s.c.ay.iK s.c.p,beyond:=(iE s.c.p s.c.beyond x).1,pt:=s.c.pt.set s.c.p 1 x.x ⟨1,0,sat s.c.samples 4294967295⟩}) ⟨i1.p,i1.tok,i1.q,i1.ay,i1.samples,i1.mode,i1.doors⟩ _) (OG (q1.trans (ai.jK rfl rfl rfl rfl)) sP ?_);exact⟨sP,sP,hn,e0,sP,sP⟩
 split
 ·rename_i h0;split
  ·have h2:=Nf s.c.t 0;refine .k_ (i1.head _) (OG q1 sP ?_);exact⟨sP,sP,hn,e0,λ_=>⟨h2.1,vM h2.2 dC⟩,sP⟩
  ·rename_i hz;obtain⟨g1,g2,g3,g4,g5⟩:=Nd (by simpa using hz);rw[g1];refine⟨Inv.goes (s:=⟨_,s.bE,s.aY⟩) i1 (nQ.pass h.p ⟨g2,g3⟩ (by have:=h.tok.au;omega)),.inr ⟨4,?_,.inr (.inr (.inr (.inl ⟨rfl,rfl,by simp[Tok.pass]⟩)))⟩⟩;exact q1.goes (ai.IF (by simp[Tok.pass]) (by simpa[Tok.pass]using g4) rfl (.inl ⟨g5,rfl⟩) e0.1 sP hn)
 ·exact .k_ i1 q1
def Inv.JE{c:Core}(h:Inv c){mo:Int}(hm:0<=mo/\mo<=4)(y:Label)(pt:fC):Inv {c with mode:=mo,gW:=y,pt:=pt}:=
 ⟨h.p,h.tok,h.q,h.ay,h.samples,hm,h.doors⟩
def Dl{mo:Int}{y:Label}:Quiet C b s (s.eL mo y):=ai.jK rfl rfl rfl rfl
def o8(s:ai)(a:Ask):ai:=({s with c:={s.c with q:=Q.drop s.c.q a.source}}:ai).gone a.source 4 29
def at4{a:Ask}:Quiet C b s (o8 s a):=
 Quiet.trans (t:=({s with c:={s.c with q:=Q.drop s.c.q a.source}}:ai)) (ai.jK rfl rfl rfl rfl) (ai.AK (ai.IE oM oM))
def OH{a:Ask}:(o8 s a).c={s.c with q:=Q.drop s.c.q a.source}:=by unfold o8;rw[ai.mg]
def Inv.o8{a:Ask}(h:Inv s.c):Inv (Sd.o8 s a).c:=by
 rw[OH];exact⟨h.p,h.tok,h.q.drop a.source (λx hx _=>(h.q.each x hx).2.2.2.2.1),h.ay,h.samples,h.mode,h.doors⟩
def aeG(q:List Ask):∀s:ai,Inv s.c->Inv (q.foldl o8 s).c/\Quiet C b s (q.foldl o8 s)/\(q.foldl o8 s).c.t=s.c.t/\(q.foldl o8 s).c.ay=s.c.ay/\
 (∀x∈(q.foldl o8 s).c.q,x∈s.c.q/\∀a∈q,x.source≠a.source)/\∃q',(q.foldl o8 s).c={s.c with q:=q'}:=by
 induction q with
 |nil=>intro s h;exact⟨h,Quiet.refl ..,rfl,rfl,λx hx=>⟨hx,sP⟩,s.c.q,rfl⟩
 |cons a q ih=>
  intro s h;obtain⟨h1,h2,h3,h4,h5,q',h6⟩:=ih (o8 s a) h.o8;rw[OH]at h3 h4 h5 h6;refine⟨h1,at4.trans h2,h3,h4,λx hx=>?_,q',h6⟩;obtain⟨h7,h8⟩:=h5 x hx;simp only[Q.drop,Bw,decide_eq_true_eq]at h7;exact⟨h7.1,λy hy=>by
   rcases cG.1 hy with rfl|hy
   ·exact h7.2
   ·exact h8 y hy⟩
def aeH(bad:Bool)(hb:bad=af):s.lT C bad=
 ((((if s.c.t.aS≠4 then(s.eV {s.c.t with bad:=bad}).goes C ({s.c.t with bad:=bad}:Tok).iB 6 0 else(s.eV {s.c.t with bad:=bad}).eV ({s.c.t with bad:=bad}:Tok).iB):ai).c.q.foldl o8
   (if s.c.t.aS≠4 then(s.eV {s.c.t with bad:=bad}).goes C ({s.c.t with bad:=bad}:Tok).iB 6 0 else(s.eV {s.c.t with bad:=bad}).eV ({s.c.t with bad:=bad}:Tok).iB)).eL
    s.c.p.safe pJ):=by
 unfold ai.lT;rw[if_neg (by simp[hb])];dsimp only;congr 1;have:∀(q:List Ask)(s:ai),(q.foldl o8 s).c.p=s.c.p:=by
  intro q;induction q with
  |nil=>intro s;rfl
  |cons a q ih=>intro s;rw[xg,ih,OH]
 refine Eq.trans (congrArg aX.safe (this _ _)) ?_;split<;>simp[ai.eV]
def WO{bad:Bool}(h:Inv s.c):gb C b s (s.lT C bad) 2 0:=by
 have e0:=h.mh;have he:=h.tok.au;have hh:=h.tok.aS;have i0:Inv {s.c with t:={s.c.t with bad:=bad}}:=⟨h.p,⟨h.tok.aS,h.tok.au,h.tok.offer,h.tok.lost⟩,h.q,h.ay,h.samples,h.mode,h.doors⟩;have q0:Quiet C b s (s.eV {s.c.t with bad:=bad}):=ai.jK rfl rfl rfl rfl;cases bad
 ·exact .k_ i0 q0
 rw[aeH af rfl];split
 ·rename_i h4;have hs:sat s.c.t.au 65535=if s.c.t.au<65535 then s.c.t.au+1 else 65535:=rfl
  have et:({s.c.t with bad:=af}:Tok).iB=Tok.pass {s.c.t with bad:=af} 4 (sat s.c.t.au 65535):=by simp[Tok.iB,h4]
  rw[et];have i1:Inv ((s.eV {s.c.t with bad:=af}).goes C (Tok.pass {s.c.t with bad:=af} 4 (sat s.c.t.au 65535)) 6 0).c:=
   Inv.goes (s:=s.eV _) i0 (nQ.pass h.p oM (by show s.c.p.au<=_/\_;rw[hs];split<;>omega))
  obtain⟨h1,h2,h3,h5,h6,q',h7⟩:=aeG (C:=C) (b:=b) ((s.eV {s.c.t with bad:=af}).goes C (Tok.pass {s.c.t with bad:=af} 4 (sat s.c.t.au 65535)) 6 0).c.q _ i1;refine⟨h1.JE h.p.safe _ _,.inr ⟨6,?_,?_⟩⟩
  ·refine yF.quiet (Quiet.goes q0 (ai.IF (by simp[Tok.pass]) (by simpa[Tok.pass,ai.eV]using λe=>h4 e.symm) rfl ?_ e0.1 sP sP)) (h2.trans Dl) ?_
   ·show(s.c.t.au<65535/\sat s.c.t.au 65535=s.c.t.au+1)\/(s.c.t.au=65535/\sat s.c.t.au 65535=65535/\(6:Int)=6);rw[hs];split<;>omega
   ·show(ai.eL _ _ _).c.t.offer=-1;simp only[ai.eL];rw[h3];simp[Tok.pass]
  ·refine .inr (.inr (.inr (.inr (.inr ⟨rfl,?_,.inl ⟨rfl,?_⟩⟩))))
   ·simp only[ai.eL];rw[h3];simp[Tok.pass]
   ·simp only[ai.eL];rw[h3];simp[Tok.pass]
 ·rename_i h4;have WQ:s.c.t.aS=4:=by simpa using h4
  have et:({s.c.t with bad:=af}:Tok).iB=Tok.pass {s.c.t with bad:=af} 4 s.c.t.au:=by simp[Tok.iB,WQ]
  rw[et];have i1:Inv ((s.eV {s.c.t with bad:=af}).eV (Tok.pass {s.c.t with bad:=af} 4 s.c.t.au)).c:=
   ⟨h.p,nQ.pass h.p oM he,⟨λa ha=>by have:=h.q.each a ha;simpa[Tok.pass,ai.eV,WQ]using this,h.q.sorted,h.q.len⟩,h.ay,h.samples,h.mode,h.doors⟩
  obtain⟨h1,h2,h3,h5,h6,q',h7⟩:=aeG (C:=C) (b:=b) ((s.eV {s.c.t with bad:=af}).eV (Tok.pass {s.c.t with bad:=af} 4 s.c.t.au)).c.q _ i1;refine .k_ (h1.JE h.p.safe _ _) ?_;exact Quiet.trans (Quiet.trans (t:=(s.eV {s.c.t with bad:=af}).eV (Tok.pass {s.c.t with bad:=af} 4 s.c.t.au)) (ai.jK (by simp[Tok.pass,WQ]) rfl rfl rfl) h2) Dl
def ri(C:aM)(s:ai)(x:Int):ai:=let s:=s.record C 5 x 0 0 0;if linked x then s.leave C x else s
def zf(q:List Ask)(xs:List Int):List Ask:=xs.foldl (λq x=>if linked x then Q.drop q x else q) q
def mr(t:Tok)(xs:List Int):Tok:=xs.foldl (λt x=>if linked x then(t.drop x).1 else t) t
def aeI(C:aM)(s:ai)(x:Int):∃hd,(ri C s x).c={s.c with q:=zf s.c.q [x],t:=mr s.c.t [x],head:=hd}:=by
 unfold ri zf mr;simp only[xg,List.foldl_nil];split
 ·obtain⟨hd,e⟩:=Uk C (s.record C 5 x 0 0 0) x;exact⟨hd,by rw[e];rfl⟩
 ·exact⟨_,rfl⟩
def at5{x:Int}(hx:0<=x/\x<=3)(he:0<=s.c.t.au/\s.c.t.au<=65535):Quiet C b s (ri C s x):=by
 unfold ri;have q1:Quiet C b s (s.record C 5 x 0 0 0):=ai.qb sP ⟨sP,by simp;omega,sP,he,sP,sP⟩;dsimp only;split
 ·rename_i h;simp[linked]at h;exact q1.trans (acV oM he)
 ·exact q1
def Inv.ri{T:aT}{x:Int}(hx:0<=x/\x<=3)(h:Inv {s.c with ay:=T}):Inv {(Sd.ri C s x).c with ay:=T}:=by
 unfold Sd.ri;dsimp only;split
 ·rcases Inv.leave (C:=C) (s:=s.record C 5 x 0 0 0) (T:=T) (x:=x) (h.head _)with⟨h1,_⟩|h1
  ·exact h1
  ·omega
 ·exact h.head _
def aeJ(xs:List Int):∀t:Tok,(mr t xs).aS=t.aS/\(mr t xs).au=t.au/\(mr t xs).la=t.la/\(mr t xs).bad=t.bad/\
 (((mr t xs)=t/\∀x∈xs,linked x=af->t.offer≠x)\/(mr t xs=t.jH/\t.offer∈xs)\/t.offer=-1/\mr t xs=t):=by
 induction xs with
 |nil=>intro t;exact⟨rfl,rfl,rfl,rfl,.inl ⟨rfl,sP⟩⟩
 |cons x xs ih=>
  intro t;unfold mr;simp only[xg];by_cases hl:linked x=af
  ·simp only[hl,if_true];have hd:=Nh t x;obtain⟨h1,h2,h3,h4,h5⟩:=ih (t.drop x).1;unfold mr at h1 h2 h3 h4 h5;refine⟨h1.trans hd.1,h2.trans hd.2.1,h3.trans hd.2.2.1,h4.trans hd.2.2.2.1,?_⟩;have hx:1<=x:=by simp[linked]at hl;exact hl.1
   rcases hd.2.2.2.2 with⟨e,_,e2⟩|⟨e,_,e2⟩
   ·rw[e]at h5⊢;rcases h5 with⟨h5,h6⟩|⟨h5,h6⟩|⟨h5,h6⟩
    ·refine .inl ⟨h5,λy hy OI=>?_⟩;rcases cG.1 hy with rfl|hy
     ·omega
     ·exact h6 y hy OI
    ·exact .inr (.inl ⟨h5,by simp[h6]⟩)
    ·exact .inr (.inr ⟨h5,h6⟩)
   ·rw[e]at h5⊢;refine .inr (.inl ⟨?_,by simp[e2]⟩);rcases h5 with⟨h5,h6⟩|⟨h5,h6⟩|⟨h5,h6⟩
    ·exact h5
    ·rw[h5];rfl
    ·exact h6
  ·simp only[hl];obtain⟨h1,h2,h3,h4,h5⟩:=ih t;unfold mr at h1 h2 h3 h4 h5;refine⟨h1,h2,h3,h4,?_⟩;rcases h5 with⟨h5,h6⟩|⟨h5,h6⟩|⟨h5,h6⟩
   ·refine .inl ⟨h5,λy hy OI=>?_⟩;rcases cG.1 hy with rfl|hy
    ·exact absurd OI hl
    ·exact h6 y hy OI
   ·exact .inr (.inl ⟨h5,by simp[h6]⟩)
   ·exact .inr (.inr ⟨h5,h6⟩)
def at6(xs:List Int):∀(q:List Ask)(a:Ask),a∈zf q xs↔a∈q/\∀x∈xs,linked x=af->a.source≠x:=by
 induction xs with
 |nil=>intro q a;simp[zf]
 |cons x xs ih=>
  intro q a;have:=ih (if linked x then Q.drop q x else q) a;unfold zf at*;simp only[xg];rw[this];by_cases hl:linked x=af
  ·simp[hl,Q.drop,and_assoc]
  ·simp[hl]
def at7(xs:List Int):∀(s:ai)(T:aT),(∀x∈xs,0<=x/\x<=3)->Inv {s.c with ay:=T}->
 Inv {(xs.foldl (ri C) s).c with ay:=T}/\Quiet C b s (xs.foldl (ri C) s)/\∃hd,(xs.foldl (ri C) s).c={s.c with q:=zf s.c.q xs,t:=mr s.c.t xs,head:=hd}:=by
 induction xs with
 |nil=>intro s T _ h;exact⟨h,Quiet.refl ..,s.c.head,rfl⟩
 |cons x xs ih=>
  intro s T hx h;have Ee:=hx x sP;have e0:0<=s.c.t.au/\s.c.t.au<=65535:=Inv.mh (c:={s.c with ay:=T}) h;obtain⟨h1,h2,hd,h3⟩:=ih (ri C s x) T (λy hy=>hx y (by simp[hy])) (h.ri Ee);obtain⟨FN,h4⟩:=aeI C s x;refine⟨h1,(at5 Ee e0).trans h2,hd,?_⟩;simp only[xg];rw[h3,h4];rfl
def FO{t:Timer}{m:Int}(h:t.most=m/\0<=t.n/\t.n<m):t.step=⟨t.n+1,m⟩/\(t.step.due=af↔t.n+1=m):=by
 obtain⟨h1,h2,h3⟩:=h;have:t.step=⟨t.n+1,m⟩:=by unfold Timer.step sat;rw[if_pos oM,h1]
 rw[this];refine⟨rfl,?_⟩;simp[Timer.due];omega
def aua{p:aX}{t:aT}(hp:fL p)(h:Eg p t):Eg p t.tick:=by
 have hb:=hp.da;constructor
 ·intro ho;unfold aT.tick at*;dsimp only at*;split at ho
  ·rename_i h1;rw[if_pos h1];obtain⟨h2,h3⟩:=FO (h.dv h1);split at ho
   ·cases ho
   ·rename_i h4;rw[if_neg h4,h2];have:=h.dv h1;simp at h4;have:t.dv.2.n+1≠p.da:=λe=>by rw[h3.2 e]at h4;cases h4
    dsimp only;omega
  ·rename_i h1;exact absurd ho h1
 ·intro i hi ho;unfold aT.tick at*;dsimp only at*;split at ho
  ·rename_i h1;rw[if_pos h1];have h0:=h.aE i hi h1;obtain⟨h2,h3⟩:=FO (m:=p.da) ⟨h0.1,h0.2.1,h0.2.2.1⟩;split at ho
   ·cases ho
   ·rename_i h4;rw[if_neg h4];dsimp only;rw[h2];simp at h4;have:(t.aE i).eo.n+1≠p.da:=λe=>by rw[h3.2 e]at h4;cases h4
    dsimp only;omega
  ·rename_i h1;exact absurd ho h1
def aub{t:aT}{x:Int}(h:x∈t.ended):0<=x/\x<=3:=by
 unfold aT.ended at h;simp only[dV]at h;rcases h with((h|h)|h)|h<;>split at h<;>simp at h<;>omega
def aeK{t:aT}{x:Int}(hx:1<=x/\x<=3)(h:t.on x=af)(hn:x∉t.ended):t.tick.on x=af:=by
 have e:x=1\/x=2\/x=3:=oM;rw[Um hx]at*;unfold aT.iZ aT.tick at*;rcases e with rfl|rfl|rfl<;>simp[aT.ended,aT.mG]at*<;>simp[h]<;>simp[h]at hn<;>simp[hn,h]
def auc{q:List Ask}{a:Ask}(h:a∈Q.kept q):∃x∈q,a={x with dJ:=x.dJ.step}/\a.dJ.due=ah:=by
 unfold Q.kept Q.pI at h;simp only[Bw,oC]at h;obtain⟨⟨x,hx,rfl⟩,h2⟩:=h;exact⟨x,hx,rfl,by simpa using h2⟩
def aud{q:List Ask}{a:Ask}(h:a∈Q.gone q):∃x∈q,a={x with dJ:=x.dJ.step}/\a.dJ.due=af:=by
 unfold Q.gone Q.pI at h;simp only[Bw,oC]at h;obtain⟨⟨x,hx,rfl⟩,h2⟩:=h;exact⟨x,hx,rfl,by simpa using h2⟩
def rP.kept{p:aX}{t:aT}{h:Int}{q:List Ask}(k:rP p t h q):rP p t h (Q.kept q) where
 each:=by
  intro a ha;obtain⟨x,hx,rfl,hd⟩:=auc ha;obtain⟨a1,a2,a3,a4,a5,a6,a7,a8⟩:=k.each x hx;obtain⟨e1,e2⟩:=FO ⟨a6,a7,a8⟩;refine⟨a1,a2,a3,a4,a5,by dsimp only;rw[e1],by dsimp only;rw[e1];dsimp only;omega,?_⟩;dsimp only at*;rw[e1];have:x.dJ.n+1≠p.ask:=λe=>by rw[e2.2 e]at hd;cases hd
  dsimp only;omega
 sorted:=by
  unfold Q.kept Q.pI;refine List.Pairwise.filter _ ?_;rw[List.pairwise_map];exact k.sorted
 len:=by
  have:=Lc (λa:Ask=>!a.dJ.due) (Q.pI q);have h2:=k.len;unfold Q.kept;simp only[Q.pI,GA]at*;omega
def A4(C:aM)(s:ai)(a:Ask):ai:=(s.gone a.source a.source 30).record C 12 a.source 0 30 0
def aue(q:List Ask):∀s:ai,(∀a∈q,1<=a.source/\a.source<=3)->0<=s.c.t.au/\s.c.t.au<=65535->
 Quiet C b s (q.foldl (A4 C) s)/\∃hd,(q.foldl (A4 C) s).c={s.c with head:=hd}:=by
 induction q with
 |nil=>intro s _ _;exact⟨Quiet.refl ..,s.c.head,rfl⟩
 |cons a q ih=>
  intro s hq he;have ha:=hq a sP;have e1:(A4 C s a).c={s.c with head:=C.next s.c.head ⟨12,a.source,0,s.c.t.au,30,0⟩}:=by
   unfold A4;rw[show∀(y:ai)(k a n e w:Int),(y.record C k a n e w).c={y.c with head:=C.next y.c.head ⟨k,a,n,y.c.t.au,e,w⟩}from λ_ _ _ _ _ _=>rfl,ai.mg]
  have q1:Quiet C b s (A4 C s a):=by
   refine Quiet.trans (ai.AK (ai.IE oM oM)) (ai.qb sP ?_);refine⟨sP,by dsimp only;omega,sP,?_,sP,sP⟩;dsimp only;rw[ai.kU];exact he
  obtain⟨h1,hd,h2⟩:=ih (A4 C s a) (λx hx=>hq x (by simp[hx])) (by rw[e1];exact he);refine⟨q1.trans h1,hd,?_⟩;simp only[xg];rw[h2,e1]
def auf{p:aX}{ay:aT}{t:Tok}(h:nQ p ay t):t.tick.1.aS=t.aS/\t.tick.1.au=t.au/\t.tick.1.la=t.la/\t.tick.1.bad=t.bad/\
 nQ p ay t.tick.1/\((t.tick.2=-1/\t.tick.1.offer=t.offer)\/(t.tick.2=t.offer/\1<=t.offer/\t.offer<=3/\t.tick.1.offer=-1)):=by
 unfold Tok.tick;rcases h.offer with ho|⟨o1,o2,o3,o4,o5,o6,o7⟩
 ·rw[if_pos oM];exact⟨rfl,rfl,rfl,rfl,h,.inl ⟨rfl,rfl⟩⟩
 ·rw[if_neg oM];obtain⟨e1,e2⟩:=FO ⟨o5,o6,o7⟩;split
  ·exact⟨rfl,rfl,rfl,rfl,⟨h.aS,h.au,.inl rfl,h.lost⟩,.inr ⟨rfl,o1,o2,rfl⟩⟩
  ·rename_i hd;refine⟨rfl,rfl,rfl,rfl,⟨h.aS,h.au,.inr ⟨o1,o2,o3,o4,?_⟩,h.lost⟩,.inl ⟨rfl,rfl⟩⟩;have:t.oa.n+1≠p.offer:=λe=>hd (e2.2 e);dsimp only;rw[e1];dsimp only;omega
inductive A5(p:aX)(t:Tok)(q:List Ask)(there:Bool):Tok->Int->List Ask->Prop
 |here (h:t.aS=4\/there=af):A5 p t q there {t with la:=.zero} 0 q
 |aeL (la:Timer) (h1:t.aS≠4) (h2:there=ah) (hm:la.most=p.dL) (hn:la.n=t.la.n+1) (dy:la.n<p.dL):A5 p t q there {t with la:=la} 0 q
 |safe (h1:t.aS≠4) (h2:there=ah) (hn:t.la.n+1=p.dL) (he:t.au=65535):A5 p t q there (t.pass 4 65535) 6 q
 |first (a:Ask) (l:List Ask) (h1:t.aS≠4) (h2:there=ah) (hn:t.la.n+1=p.dL) (he:t.au<65535) (hq:q=a::l):A5 p t q there (t.pass a.source (t.au+1)) 5 (Q.drop q a.source)
 |none (h1:t.aS≠4) (h2:there=ah) (hn:t.la.n+1=p.dL) (he:t.au<65535) (hq:q=[]):A5 p t q there (t.pass 4 (t.au+1)) 5 q
def aug{p:aX}{ay:aT}{t:Tok}{q:List Ask}{there:Bool}(hp:fL p)(h:nQ p ay t)(hq:rP p ay t.aS q):
 A5 p t q there (iD p t q there).1 (iD p t q there).2.1 (iD p t q there).2.2:=by
 unfold iD;have hb:=hp.dL;split
 ·rename_i h1;exact .here h1
 rename_i h1;have FP:t.aS≠4:=λe=>h1 (.inl e);have OJ:there=ah:=by
  cases there
  ·rfl
  ·exact absurd (.inr rfl) h1
 have uK:∃la:Timer,(if t.la.most=0 then Timer.start p.dL else t.la).step=la/\la.most=p.dL/\la.n=t.la.n+1/\(la.due=af↔t.la.n+1=p.dL):=by
  rcases h.lost with⟨l1,l2⟩|⟨l1,l2,l3⟩
  ·rw[if_pos l1];obtain⟨e1,e2⟩:=FO (t:=Timer.start p.dL) (m:=p.dL) (by simp[Timer.start];omega);have e0:(Timer.start p.dL).n=0:=rfl;refine⟨_,rfl,by rw[e1],by rw[e1,e0,l2],?_⟩;rw[e2,e0,l2]
  ·rw[if_neg oM];obtain⟨e1,e2⟩:=FO ⟨l1,l2,l3⟩;exact⟨_,rfl,by rw[e1],by rw[e1],e2⟩
 obtain⟨la,e0,e1,e2,e3⟩:=uK;simp only[e0];split
 ·rename_i hd;refine .aeL la FP OJ e1 e2 ?_;have c_:t.la.n+1≠p.dL:=λe=>by rw[e3.2 e]at hd;cases hd
  rcases h.lost with⟨l1,l2⟩|⟨l1,l2,l3⟩<;>omega
 rename_i hd;have hn:t.la.n+1=p.dL:=e3.1 (by simpa using hd);have he:=h.au;split
 ·rename_i h6;have h6':t.au=65535:=oM;have:({t with la:=la}:Tok).iB=t.pass 4 65535:=by
   simp only[Tok.iB,Tok.pass];rw[if_pos FP,h6'];rfl
  rw[this];exact .safe FP OJ hn h6'
 rename_i h6;have dy:t.au<65535:=oM;have g4:({t with la:=la}:Tok).dT 4=(t.pass 4 (t.au+1),0):=by
  unfold Tok.dT;rw[if_neg oM,if_neg (λe=>FP e.symm),if_neg (by dsimp only;omega)];rfl
 cases q with
 |nil=>
  have:(gk ({t with la:=la}:Tok) []).2.1≠0:=by simp[gk]
  rw[if_pos this,g4];exact .none FP OJ hn dy rfl
 |cons a r=>
  have ha:=hq.each a sP;have ga:({t with la:=la}:Tok).dT a.source=(t.pass a.source (t.au+1),0):=by
   unfold Tok.dT;rw[if_neg oM,if_neg ha.2.2.2.2.1,if_neg (by dsimp only;omega)];rfl
  have e:gk ({t with la:=la}:Tok) (a::r)=(t.pass a.source (t.au+1),0,Q.drop (a::r) a.source):=by
   unfold gk;simp only[ga];rw[if_neg sP]
  rw[e,if_neg sP];exact .first a r FP OJ hn dy rfl
def auh(h:Inv s.c):gb C b s (s.dL C) 3 0/\(s.dL C).c.ay=s.c.ay/\(s.dL C).c.p=s.c.p/\
 A5 s.c.p s.c.t s.c.q (s.c.ay.on s.c.t.aS) (s.dL C).c.t (iD s.c.p s.c.t s.c.q (s.c.ay.on s.c.t.aS)).2.1 (s.dL C).c.q/\
 ((iD s.c.p s.c.t s.c.q (s.c.ay.on s.c.t.aS)).2.1=5->(s.dL C).c.mode=s.c.p.lost/\(s.dL C).c.gW=⟨3,4,0⟩/\(s.dL C).c.pt=s.c.pt.hold ⟨3,4,0⟩)/\
 ((iD s.c.p s.c.t s.c.q (s.c.ay.on s.c.t.aS)).2.1=0->(s.dL C).c.mode=s.c.mode/\(s.dL C).c.gW=s.c.gW/\(s.dL C).c.pt=s.c.pt):=by
 have e0:=h.mh;have he:=h.tok.au;have hh:=h.tok.aS;have hb:=h.p.dL;have hL:=aug (there:=s.c.ay.on s.c.t.aS) h.p h.tok h.q;unfold ai.dL;dsimp only;generalize ht:(iD s.c.p s.c.t s.c.q (s.c.ay.on s.c.t.aS)).1=t at hL⊢;generalize hw:(iD s.c.p s.c.t s.c.q (s.c.ay.on s.c.t.aS)).2.1=how at hL⊢;generalize hq:(iD s.c.p s.c.t s.c.q (s.c.ay.on s.c.t.aS)).2.2=q at hL⊢;have JF:=hL;cases hL with
 |here h1=>
  rw[if_pos oM];refine⟨.k_ ⟨h.p,⟨h.tok.aS,h.tok.au,h.tok.offer,.inl ⟨rfl,rfl⟩⟩,h.q,h.ay,h.samples,h.mode,h.doors⟩ (ai.jK rfl rfl rfl rfl),rfl,rfl,JF,sP,λ_=>⟨rfl,rfl,rfl⟩⟩
 |aeL la h1 h2 hm hn dy=>
  rw[if_pos oM];have:0<=la.n:=by rcases h.tok.lost with⟨_,l2⟩|⟨_,l2,_⟩<;>omega
  refine⟨.k_ ⟨h.p,⟨h.tok.aS,h.tok.au,h.tok.offer,.inr ⟨hm,this,dy⟩⟩,h.q,h.ay,h.samples,h.mode,h.doors⟩ (ai.jK rfl rfl rfl rfl),rfl,rfl,JF,sP,λ_=>⟨rfl,rfl,rfl⟩⟩
 |safe h1 h2 hn h6=>
  rw[if_neg oM,if_neg oM];have i1:Inv (ai.goes C ({s with c:={s.c with q:=s.c.q}}:ai) (s.c.t.pass 4 65535) 6 0).c:=Inv.goes (s:=s) h (nQ.pass h.p oM oM);have hd:Q.drop s.c.q 4=s.c.q:=by
   unfold Q.drop;rw[List.filter_eq_self];intro a ha;have:=(h.q.each a ha).2.2.1;simp;omega
  have Dm:(ai.goes C ({s with c:={s.c with q:=s.c.q}}:ai) (s.c.t.pass 4 65535) 6 0).c.q=s.c.q:=by
   rw[ai.Uh];exact hd
  refine⟨⟨i1.JE (by simpa using h.p.safe) _ _,.inr ⟨6,?_,?_⟩⟩,by simp[ai.eL],by simp[ai.eL],?_,sP,sP⟩
  ·refine yF.quiet (ai.IF (s:=s) (by simp[Tok.pass]) (by simpa[Tok.pass]using λe=>h1 e.symm) rfl (.inr ⟨h6,rfl,rfl⟩) e0.1 sP sP) Dl ?_;simp[ai.eL,Tok.pass]
  ·refine .inr (.inr (.inr (.inr (.inr ⟨rfl,by simp[ai.eL,Tok.pass],.inr ⟨rfl,h6,?_⟩⟩))));simpa[ai.eL]using h2
  ·have e1:(ai.eL (ai.goes C ({s with c:={s.c with q:=s.c.q}}:ai) (s.c.t.pass 4 65535) 6 0) (ai.goes C ({s with c:={s.c with q:=s.c.q}}:ai) (s.c.t.pass 4 65535) 6 0).c.p.safe pJ).c.t=s.c.t.pass 4 65535:=by simp[ai.eL]
   rw[e1];have e2:(ai.eL (ai.goes C ({s with c:={s.c with q:=s.c.q}}:ai) (s.c.t.pass 4 65535) 6 0) (ai.goes C ({s with c:={s.c with q:=s.c.q}}:ai) (s.c.t.pass 4 65535) 6 0).c.p.safe pJ).c.q=s.c.q:=Dm;rw[e2];exact JF
 |first a r h1 h2 hn dy WR=>
  rw[if_neg oM,if_pos rfl];have ha:=h.q.each a (by rw[WR];simp);obtain⟨g1,g2⟩:=IH (C:=C) (b:=b) (s:=s) (kind:=3) (link:=0) (how:=5) (n:=0) (f:=a.source) (q:=Q.drop s.c.q a.source) h oM ⟨_,rfl⟩ ha.2.2.2.2.1 dy sP sP
   (.inr (.inr (.inr (.inr (.inl ⟨rfl,rfl,by simpa using h2,by simpa[Tok.pass]using ha.2.2.2.1⟩)))))
  have hdd:Q.drop (Q.drop s.c.q a.source) a.source=Q.drop s.c.q a.source:=by
   unfold Q.drop;rw[List.filter_filter];congr 1;funext x;simp
  have Dm:(ai.goes C ({s with c:={s.c with q:=Q.drop s.c.q a.source}}:ai) (s.c.t.pass a.source (s.c.t.au+1)) 5 0).c.q=Q.drop s.c.q a.source:=by
   rw[ai.Uh];exact hdd
  generalize hX:ai.goes C ({s with c:={s.c with q:=Q.drop s.c.q a.source}}:ai) (s.c.t.pass a.source (s.c.t.au+1)) 5 0=X at g1 g2 Dm;have eX:X.c.t=s.c.t.pass a.source (s.c.t.au+1)/\X.c.p=s.c.p/\X.c.ay=s.c.ay:=by subst hX;simp
  have WS:X.c.pt=s.c.pt:=by
   subst hX;obtain⟨x,e⟩:=ai.Nc C ({s with c:={s.c with q:=Q.drop s.c.q a.source}}:ai) (s.c.t.pass a.source (s.c.t.au+1)) 5 0;rw[e]
  refine⟨⟨g1.JE (by rw[eX.2.1];exact h.p.lost) _ _,?_⟩,by simp[ai.eL,eX],by simp[ai.eL,eX],by simpa[ai.eL,eX,Dm]using JF,λ_=>⟨by simp[ai.eL,eX],rfl,by simp[ai.eL,WS]⟩,sP⟩;rcases g2 with g2|⟨how,g2,g3⟩
  ·exact .inl (g2.trans Dl)
  ·exact .inr ⟨how,g2.quiet Dl (by simp[ai.eL,eX,Tok.pass]),by simpa[wy,ai.eL]using g3⟩
 |none h1 h2 hn dy WR=>
  rw[if_neg oM,if_pos rfl];have hq0:s.c.q=Q.drop s.c.q 4:=by rw[WR];rfl
  obtain⟨g1,g2⟩:=IH (C:=C) (b:=b) (s:=s) (kind:=3) (link:=0) (how:=5) (n:=0) (f:=4) (q:=s.c.q) h oM ⟨4,hq0⟩ (λe=>h1 e.symm) dy sP sP
   (.inr (.inr (.inr (.inr (.inl ⟨rfl,rfl,by simpa using h2,by simp[Tok.pass,aT.on]⟩)))))
  have Dm:(ai.goes C ({s with c:={s.c with q:=s.c.q}}:ai) (s.c.t.pass 4 (s.c.t.au+1)) 5 0).c.q=s.c.q:=by
   rw[ai.Uh];exact hq0.symm
  generalize hX:ai.goes C ({s with c:={s.c with q:=s.c.q}}:ai) (s.c.t.pass 4 (s.c.t.au+1)) 5 0=X at g1 g2 Dm;have eX:X.c.t=s.c.t.pass 4 (s.c.t.au+1)/\X.c.p=s.c.p/\X.c.ay=s.c.ay:=by subst hX;simp
  have WS:X.c.pt=s.c.pt:=by
   subst hX;obtain⟨x,e⟩:=ai.Nc C ({s with c:={s.c with q:=s.c.q}}:ai) (s.c.t.pass 4 (s.c.t.au+1)) 5 0;rw[e]
  refine⟨⟨g1.JE (by rw[eX.2.1];exact h.p.lost) _ _,?_⟩,by simp[ai.eL,eX],by simp[ai.eL,eX],by simpa[ai.eL,eX,Dm]using JF,λ_=>⟨by simp[ai.eL,eX],rfl,by simp[ai.eL,WS]⟩,sP⟩;rcases g2 with g2|⟨how,g2,g3⟩
  ·exact .inl (g2.trans Dl)
  ·exact .inr ⟨how,g2.quiet Dl (by simp[ai.eL,eX,Tok.pass]),by simpa[wy,ai.eL]using g3⟩
structure Mid(c c':Core):Prop where
 inv:Inv c'
 p:c'.p=c.p
 ay:c'.ay=c.ay.tick
 aS:c'.t.aS=c.t.aS
 au:c'.t.au=c.t.au
 la:c'.t.la=c.t.la
 bad:c'.t.bad=c.t.bad
 q:c'.q=Q.kept (zf c.q c.ay.ended)
 offer:c'.t.offer=(mr c.t c.ay.ended).tick.1.offer
 mode:c'.mode=c.mode/\c'.gW=c.gW/\c'.pt=c.pt
 rest:c'.samples=c.samples/\c'.beyond=c.beyond/\c'.doors=c.doors
def sS(C:aM)(s:ai):ai:=s.c.ay.ended.foldl (ri C) ({s with c:={s.c with ay:=s.c.ay.tick}}:ai)
def sT(C:aM)(s:ai):ai:=
 let s2:=s.eV s.c.t.tick.1
 if 0<=s.c.t.tick.2 then(s2.gone s.c.t.tick.1.aS s.c.t.tick.2 30).record C 12 s.c.t.tick.2 0 30 0 else s2
def zg(C:aM)(s:ai):ai:=(Q.gone s.c.q).foldl (A4 C) ({s with c:={s.c with q:=Q.kept s.c.q}}:ai)
def OD(C:aM)(s:ai):s.tick C=(let s6:=(zg C (sT C (sS C s))).dL C;{s6 with c:={s6.c with pt:=s6.c.pt.step s6.c.p}}):=rfl
def aeM(h:Inv s.c):Quiet C b s (zg C (sT C (sS C s)))/\Mid s.c (zg C (sT C (sS C s))).c:=by
 have e0:=h.mh;obtain⟨a1,a2,FN,a3⟩:=at7 (C:=C) (b:=b) s.c.ay.ended ({s with c:={s.c with ay:=s.c.ay.tick}}:ai) s.c.ay (λx hx=>aub hx) h;have q1:Quiet C b s (sS C s):=Quiet.trans (t:=({s with c:={s.c with ay:=s.c.ay.tick}}:ai)) (ai.jK rfl rfl rfl rfl) a2;have i1:Inv (sS C s).c:=by
  have e3:(sS C s).c={s.c with ay:=s.c.ay.tick,q:=zf s.c.q s.c.ay.ended,t:=mr s.c.t s.c.ay.ended,head:=FN}:=a3;refine Inv.IJ (T:=s.c.ay.tick) (Inv.Ni (T:=s.c.ay) a1 (by rw[e3];exact aua h.p h.ay) ?_ ?_) (by rw[e3])
  ·rw[e3];intro x hx;obtain⟨oT,uU⟩:=(at6 _ _ _).1 hx;have:=h.q.each x oT;refine aeK ⟨this.2.1,this.2.2.1⟩ this.2.2.2.1 (λhm=>uU x.source hm ?_ rfl);simp[linked];omega
  ·rw[e3];intro ho;have hf:=aeJ s.c.ay.ended s.c.t;show s.c.ay.tick.on (mr s.c.t s.c.ay.ended).offer=af;have lq:0<=(mr s.c.t s.c.ay.ended).offer:=ho;rcases hf.2.2.2.2 with⟨e,c_⟩|⟨e,_⟩|⟨e,e'⟩
   ·rw[e]at lq⊢;rcases h.tok.offer with h1|⟨h1,h2,_,h3,_⟩
    ·omega
    ·refine aeK ⟨h1,h2⟩ h3 (λhm=>c_ _ hm ?_ rfl);simp[linked];omega
   ·rw[e]at lq;simp[Tok.jH]at lq
   ·rw[e',e]at lq;omega
 have e1:(sS C s).c={s.c with ay:=s.c.ay.tick,q:=zf s.c.q s.c.ay.ended,t:=mr s.c.t s.c.ay.ended,head:=FN}:=a3;have hf:=aeJ s.c.ay.ended s.c.t;generalize sS C s=s1 at*;have VR:=i1.mh;have hk:=auf i1.tok;have i2:Inv {s1.c with t:=s1.c.t.tick.1}:=⟨i1.p,hk.2.2.2.2.1,by show rP _ _ s1.c.t.tick.1.aS _;rw[hk.1];exact i1.q,i1.ay,i1.samples,i1.mode,i1.doors⟩;have q2:Quiet C b s1 (sT C s1)/\∃hd,(sT C s1).c={s1.c with t:=s1.c.t.tick.1,head:=hd}:=by
  have q20:Quiet C b s1 (s1.eV s1.c.t.tick.1):=ai.jK hk.1 hk.2.1 rfl rfl;unfold sT;dsimp only;split
  ·rename_i hw;have hw':1<=s1.c.t.tick.2/\s1.c.t.tick.2<=3:=by rcases hk.2.2.2.2.2 with⟨e,_⟩|⟨e,_,_,_⟩<;>omega
   refine⟨q20.trans (Quiet.trans (ai.AK (ai.IE oM oM)) (ai.qb sP ?_)),?_⟩
   ·refine⟨sP,by dsimp only;omega,sP,?_,sP,sP⟩;dsimp only;rw[ai.kU];show 0<=s1.c.t.tick.1.au/\s1.c.t.tick.1.au<=65535;rw[hk.2.1];exact VR
   ·refine⟨C.next s1.c.head ⟨12,s1.c.t.tick.2,0,s1.c.t.tick.1.au,30,0⟩,?_⟩;rw[show∀(y:ai)(k a n e w:Int),(y.record C k a n e w).c={y.c with head:=C.next y.c.head ⟨k,a,n,y.c.t.au,e,w⟩}from λ_ _ _ _ _ _=>rfl,ai.mg];rfl
  ·exact⟨q20,s1.c.head,rfl⟩
 obtain⟨q2,Iz,e2⟩:=q2;have zh:Inv (sT C s1).c:=by rw[e2];exact i2.head _
 generalize sT C s1=s2 at*;have e20:=zh.mh;obtain⟨a4,hd3,e3⟩:=aue (C:=C) (b:=b) (Q.gone s2.c.q) ({s2 with c:={s2.c with q:=Q.kept s2.c.q}}:ai)
  (λa ha=>by
   obtain⟨x,hx,rfl,_⟩:=aud ha;have:=zh.q.each x hx;exact⟨this.2.1,this.2.2.1⟩) e20
 have q3:Quiet C b s2 (zg C s2):=Quiet.trans (t:=({s2 with c:={s2.c with q:=Q.kept s2.c.q}}:ai)) (ai.jK rfl rfl rfl rfl) a4;have vy:(zg C s2).c={s2.c with q:=Q.kept s2.c.q,head:=hd3}:=e3;have i3:Inv (zg C s2).c:=by
  rw[vy];exact⟨zh.p,zh.tok,zh.q.kept,zh.ay,zh.samples,zh.mode,zh.doors⟩
 refine⟨q1.trans (q2.trans q3),i3,?_,?_,?_,?_,?_,?_,?_,?_,?_,?_⟩
 ·rw[vy,e2,e1]
 ·rw[vy,e2,e1]
 ·rw[vy,e2];show s1.c.t.tick.1.aS=_;rw[hk.1,e1];exact hf.1
 ·rw[vy,e2];show s1.c.t.tick.1.au=_;rw[hk.2.1,e1];exact hf.2.1
 ·rw[vy,e2];show s1.c.t.tick.1.la=_;rw[hk.2.2.1,e1];exact hf.2.2.1
 ·rw[vy,e2];show s1.c.t.tick.1.bad=_;rw[hk.2.2.2.1,e1];exact hf.2.2.2.1
 ·rw[vy,e2,e1]
 ·rw[vy,e2,e1]
 ·rw[vy,e2,e1];exact⟨rfl,rfl,rfl⟩
 ·rw[vy,e2,e1];exact⟨rfl,rfl,rfl⟩
structure aui(c m c':Core)(how:Int):Prop where
 p:c'.p=c.p
 ay:c'.ay=c.ay.tick
 lost:A5 c.p m.t m.q (m.ay.on m.t.aS) c'.t how c'.q
 aAg:how=5->c'.mode=c.p.lost/\c'.gW=⟨3,4,0⟩/\c'.pt=(c.pt.hold ⟨3,4,0⟩).step c.p
 stays:how=0->c'.mode=c.mode/\c'.gW=c.gW/\c'.pt=c.pt.step c.p
def WT(h:Inv s.c):gb C b s (s.tick C) 3 0/\∃m how,Mid s.c m/\aui s.c m (s.tick C).c how:=by
 obtain⟨q3,hm⟩:=aeM (C:=C) (b:=b) h;rw[OD];generalize zg C (sT C (sS C s))=s3 at*;obtain⟨⟨i4,w4⟩,t4,p4,l4,r4,dG⟩:=auh (C:=C) (b:=b) hm.inv;generalize hs4:s3.dL C=s4 at*;dsimp only;have i5:Inv {s4.c with pt:=s4.c.pt.step s4.c.p}:=⟨i4.p,i4.tok,i4.q,i4.ay,i4.samples,i4.mode,i4.doors⟩;have q5:Quiet C b s4 ({s4 with c:={s4.c with pt:=s4.c.pt.step s4.c.p}}:ai):=ai.jK rfl rfl rfl rfl;refine⟨⟨i5,?_⟩,s3.c,(iD s3.c.p s3.c.t s3.c.q (s3.c.ay.on s3.c.t.aS)).2.1,hm,p4.trans hm.p,t4.trans hm.ay,?_,?_,?_⟩
 ·rcases w4 with w4|⟨how,g4,w4⟩
  ·exact .inl (q3.trans (w4.trans q5))
  ·refine .inr ⟨how,(q3.goes g4).quiet q5 g4.offer,?_⟩;unfold wy at*;simp only[hm.aS,hm.au]at w4;rcases w4 with⟨e,k,_⟩|⟨e,k,_⟩|⟨e,k,_⟩|⟨e,k,_⟩|w4|⟨e,k,w4⟩
   ·omega
   ·omega
   ·omega
   ·omega
   ·exact .inr (.inr (.inr (.inr (.inl ⟨w4.1,rfl,w4.2.2⟩))))
   ·refine .inr (.inr (.inr (.inr (.inr ⟨e,k,?_⟩))));rcases w4 with⟨e',_⟩|w4
    ·omega
    ·exact .inr ⟨rfl,w4.2⟩
 ·rw[hm.p]at l4;rw[hm.p];exact l4
 ·intro e;obtain⟨r1,r2,r3⟩:=r4 e;refine⟨by rw[<-hm.p];exact r1,r2,?_⟩;show s4.c.pt.step s4.c.p=_;rw[r3,p4,hm.p,hm.mode.2.2]
 ·intro e;obtain⟨r1,r2,r3⟩:=dG e;refine⟨by rw[<-hm.mode.1];exact r1,by rw[<-hm.mode.2.1];exact r2,?_⟩;show s4.c.pt.step s4.c.p=_;rw[r3,p4,hm.p,hm.mode.2.2]
structure Calm(s s':ai):Prop where
 aY:∃rs:List Rec,s'.aY=s.aY++rs/\∀r∈rs,r.kind≠1/\r.kind≠7
 bE:∃ts:List (Int×aQ),s'.bE=s.bE++ts/\∀x∈ts,132<x.2.kind
def Calm.refl(s:ai):Calm s s:=⟨⟨[],sP,sP⟩,⟨[],sP,sP⟩⟩
def Calm.trans{s t u:ai}(h:Calm s t)(k:Calm t u):Calm s u:=by
 obtain⟨⟨rs,r1,r2⟩,⟨ts,t1,t2⟩⟩:=h;obtain⟨⟨qs,q1,q2⟩,⟨us,u1,u2⟩⟩:=k;exact⟨⟨rs++qs,by rw[q1,r1,bZ],λr hr=>(dV.1 hr).elim (r2 r) (q2 r)⟩,⟨ts++us,by rw[u1,t1,bZ],λx hx=>(dV.1 hx).elim (t2 x) (u2 x)⟩⟩
structure OK(c c':Core):Prop where
 p:c'.p=c.p
 t:c'.t=c.t
 q:c'.q=c.q
 on:∀x,c'.ay.on x=c.ay.on x
 role:∀x,c'.ay.role x=c.ay.role x
 mode:c'.mode=c.mode
 gW:c'.gW=c.gW
 pt:c'.pt=c.pt
inductive Class(s s':ai)(l:Int):Prop
 |rejected (e:Int) (he:e≠0) (hr:s'.aY=s.aY++[⟨1,l,0,s.c.t.au,e,0⟩]) (hs:s'.bE=s.bE) (hc:OK s.c s'.c)
 |refused (n e:Int) (he:e≠0) (hr:s'.aY=s.aY++[⟨7,l,n,s.c.t.au,e,0⟩]) (hs:s'.bE=s.bE++[(l,{kind:=132,seq:=n,code:=e})]) (hc:OK s.c s'.c)
 |done (r:aQ) (hr:129<=r.kind/\r.kind<=131) (rs:List Rec) (h1:s'.aY=s.aY++rs) (h2:∀r∈rs,r.kind≠1/\r.kind≠7) (xs ys:List (Int×aQ)) (h3:s'.bE=s.bE++(xs++(l,r)::ys)) (h4:∀x∈xs++ys,132<x.2.kind)
def OK.refl(c:Core):OK c c:=⟨rfl,rfl,rfl,λ_=>rfl,λ_=>rfl,rfl,rfl,rfl⟩
def Class.IJ{T:aT}{t:ai}(k:Class ({s with c:={s.c with ay:=T}}:ai) t l)(km:∀x,T.on x=s.c.ay.on x)(hr:∀x,T.role x=s.c.ay.role x):Class s t l:=by
 cases k with
 |rejected e he gi hs hc=>exact .rejected e he gi hs ⟨hc.p,hc.t,hc.q,λx=>(hc.on x).trans (km x),λx=>(hc.role x).trans (hr x),hc.mode,hc.gW,hc.pt⟩
 |refused n e he gi hs hc=>exact .refused n e he gi hs ⟨hc.p,hc.t,hc.q,λx=>(hc.on x).trans (km x),λx=>(hc.role x).trans (hr x),hc.mode,hc.gW,hc.pt⟩
 |done r hr rs h1 h2 xs ys h3 h4=>exact .done r hr rs h1 h2 xs ys h3 h4
end Sd
namespace Sd
variable{C:aM}
def OL(C:aM)(c:Core):Core:=((⟨c,[],[]⟩:ai).tick C).c
end Sd
namespace Sd
variable{C:aM}{s:ai}
def Bd(n:Int):Prop:=-9223372036854775808<=n/\n<=9223372036854775807
def wN(t:Timer):Prop:=Bd t.n/\Bd t.most
structure rj(t:aT):Prop where
 hi:∀j,(t.aE (j+3)).on=ah
 st:wN t.dv.2
 ss:∀j,wN (t.aE j).eo
structure jo(t:Tok):Prop where
 oa:wN t.oa
 la:wN t.la
def kx(x:X4):Prop:=Bd x.a/\Bd x.b/\Bd x.c/\Bd x.d
structure JG(p:fC):Prop where
 bC:kx p.bC
 now:kx p.now
structure Ext(c:Core):Prop where
 ay:rj c.ay
 t:jo c.t
 pt:JG c.pt
 d:∀i,(c.doors i).many<=4294967295
 be:Bd c.beyond
def wO:Bd 0:=⟨dC,dC⟩
def uf:wN Timer.zero:=⟨wO,wO⟩
def FQ:kx X4.zero:=⟨wO,wO,wO,wO⟩
def aeN{n m:Int}(h:Bd n)(k:Bd m):Bd (sat n m):=by
 unfold Bd sat at*;split<;>omega
def FR{n a b:Int}(h:a<=n/\n<=b)(ha:-9223372036854775808<=a)(hb:b<=9223372036854775807):Bd n:=⟨oM,oM⟩
def JH{m:Int}(h:Bd m):wN (Timer.start m):=⟨wO,by unfold Timer.start Bd at*;dsimp only;omega⟩
def JI{t:Timer}(h:wN t):wN t.step:=⟨aeN h.1 h.2,h.2⟩
def Ext.eq{c c':Core}(h:Ext c)(h1:c'.ay=c.ay)(h2:c'.t=c.t)(h3:c'.pt=c.pt)(h4:c'.doors=c.doors)(h5:c'.beyond=c.beyond):Ext c':=
 ⟨h1▸h.ay,h2▸h.t,h3▸h.pt,h4▸h.d,h5▸h.be⟩
def Ext.new{p:aX}:Ext (Core.new p):=⟨⟨λ_=>rfl,uf,λ_=>uf⟩,⟨uf,uf⟩,⟨FQ,FQ⟩,λ_=>show(0:Int)<=4294967295 by decide,wO⟩
def OM{t:Tok}{a b:Int}:jo (t.pass a b):=⟨uf,uf⟩
def JJ{t:Tok}(h:jo t){a:Int}:jo (t.dT a).1:=by
 unfold Tok.dT;split
 ·exact h
 split
 ·exact h
 split
 ·exact h
 exact OM
def aeO{t:Tok}(h:jo t):jo t.jH:=⟨uf,h.la⟩
def auj{p:aX}(hp:fL p){t:Tok}(h:jo t){a b:Int}{th:Bool}:jo (t.make p a b th).1:=by
 unfold Tok.make;split
 ·exact h
 split
 ·exact h
 split
 ·exact h
 split
 ·exact h
 split
 ·exact h
 exact⟨JH (FR hp.offer dC dC),h.la⟩
def auk{t:Tok}(h:jo t){a b:Int}:jo (t.accept a b).1:=by
 unfold Tok.accept;split
 ·exact h
 split
 ·exact h
 exact JJ h
def aul{t:Tok}(h:jo t){a:Int}:jo (t.gE a).1:=by
 unfold Tok.gE;split
 ·exact h
 exact aeO h
def aeP{t:Tok}(h:jo t){a:Int}:jo (t.drop a).1:=by
 unfold Tok.drop;split
 ·exact h
 exact aeO h
def aeQ{t:Tok}(h:jo t):jo t.tick.1:=by
 unfold Tok.tick;split
 ·exact h
 split
 ·exact⟨uf,h.la⟩
 exact⟨JI h.oa,h.la⟩
def aeR{p:aX}{t:Tok}{m:Int}{q:List Ask}{f:Int}{now:Bool}(h:jo t):jo (iC p t m q f now).1:=by
 unfold iC;split
 ·exact h
 split
 ·exact h
 split
 ·exact h
 split
 ·split
  ·exact h
  ·exact JJ h
 split
 ·exact h
 exact h
def aeS{t:Tok}(h:jo t){q:List Ask}:jo (gk t q).1:=by
 unfold gk;split
 ·exact h
 split
 ·exact h
 exact JJ h
def aeT{t:Tok}(h:jo t){q:List Ask}{f:Int}:jo (dM t q f).1:=by
 unfold dM;split
 ·exact h
 split
 ·exact h
 exact aeS h
def WU{p:aX}(hp:fL p){t:Tok}(h:jo t){q:List Ask}{th:Bool}:jo (iD p t q th).1:=by
 unfold iD;split
 ·exact⟨h.oa,uf⟩
 have uK:wN (if t.la.most=0 then Timer.start p.dL else t.la).step:=by
  split
  ·exact JI (JH (FR hp.dL dC dC))
  ·exact JI h.la
 dsimp only;generalize (if t.la.most=0 then Timer.start p.dL else t.la).step=la at*;have h1:jo {t with la:=la}:=⟨h.oa,uK⟩;split
 ·exact h1
 split
 ·exact OM
 split
 ·exact JJ h1
 exact aeS h1
def Ext.record{k a n e w:Int}(h:Ext s.c):Ext (s.record C k a n e w).c:=⟨h.ay,h.t,h.pt,h.d,h.be⟩
def Ext.eK{l:Int}{r:aQ}(h:Ext s.c):Ext (s.eK l r).c:=by rw[ai.kU];exact h
def Ext.gone{l w e:Int}(h:Ext s.c):Ext (s.gone l w e).c:=h.eK
def Ext.tell{l:Int}{r:aQ}(h:Ext s.c):Ext (s.tell l r).c:=h
def Ext.done{l n:Int}(h:Ext s.c):Ext (s.done l n).c:=h
def Ext.refuse{l n e:Int}(h:Ext s.c):Ext (s.refuse C l n e).c:=Ext.record (s:=s.tell l _) h
def Ext.jW{l e:Int}(h:Ext s.c):Ext (s.jW C l e).c:=h.record
def Ext.goes{t:Tok}{how n:Int}(h:Ext s.c)(ht:jo t):Ext (s.goes C t how n).c:=by
 obtain⟨x,e⟩:=ai.Nc C s t how n;rw[e];exact⟨h.ay,ht,h.pt,h.d,h.be⟩
def Ext.leave{x:Int}(h:Ext s.c):Ext (s.leave C x).c:=by
 obtain⟨hd,e⟩:=Uk C s x;rw[e];exact⟨h.ay,aeP h.t,h.pt,h.d,h.be⟩
def Ext.eV{t:Tok}(h:Ext s.c)(ht:jo t):Ext (s.eV t).c:=⟨h.ay,ht,h.pt,h.d,h.be⟩
def Ext.JK{q:List Ask}(h:Ext s.c):Ext ({s with c:={s.c with q:=q}}:ai).c:=⟨h.ay,h.t,h.pt,h.d,h.be⟩
def Ext.eL{m:Int}{y:Label}(h:Ext s.c):Ext (s.eL m y).c:=⟨h.ay,h.t,⟨FQ,h.pt.now⟩,h.d,h.be⟩
def WV{t:aT}(h:rj t){i:Nat}(hi:i<3){x:gL}(hx:wN x.eo):rj (t.ia i x) where
 hi:=by
  intro j;unfold aT.ia;dsimp only;rw[if_neg oM];exact h.hi j
 st:=h.st
 ss:=by
  intro j;unfold aT.ia;dsimp only;split
  ·exact hx
  ·exact h.ss j
def aum{t:aT}(h:rj t){l:Int}(hl:1<=l/\l<=3):rj (t.end_ l):=by
 unfold aT.end_;split
 ·exact WV h oM uf
 ·exact h
def aun{p:aX}(hp:fL p){t:aT}(h:rj t){l r:Int}{key:az}:rj (aT.fD p t l r key).1:=by
 unfold aT.fD;split
 ·exact h
 split
 ·exact h
 exact WV h oM (JH (FR hp.da dC dC))
def auo{p:aX}(hp:fL p){t:aT}(h:rj t){l:Int}(hl:1<=l/\l<=3){n:Nat}{f:az}:rj (aT.take C p t l n f).1:=by
 unfold aT.take;split
 ·exact h
 split
 ·exact h
 split
 ·exact h
 split
 ·exact h
 split
 ·exact h
 exact WV h oM (JH (FR hp.da dC dC))
def aup{p:aX}(hp:fL p){t:aT}(h:rj t):rj (t.iK p):=⟨h.hi,JH (FR hp.da dC dC),h.ss⟩
def auq{t:aT}(h:rj t):rj t.tick where
 hi:=by
  intro j;simp only[aT.tick,h.hi j];simp[h.hi j]
 st:=by
  unfold aT.tick;dsimp only;split
  ·split
   ·exact uf
   ·exact JI h.st
  ·exact h.st
 ss:=by
  intro j;unfold aT.tick;dsimp only;split
  ·split
   ·exact uf
   ·exact JI (h.ss j)
  ·exact h.ss j
def ON{n a b:Int}(ha:Bd a)(hb:Bd b)(h:Bd n):Bd (vU n a b):=by
 unfold vU;split
 ·exact ha
 split
 ·exact hb
 exact h
def aeU{p:aX}(hp:fL p){pt:fC}(h:JG pt){c:Int}{x:X4}(hx:kx x){y:Label}:JG (pt.set p c x y) where
 bC:=by
  unfold fC.set;dsimp only;split
  ·exact FQ
  ·have hm:=hp.most c.toNat oM;have h1:Bd (-(p.most c.toNat)):=⟨oM,oM⟩;have h2:Bd (p.most c.toNat):=⟨oM,oM⟩;exact⟨ON h1 h2 hx.1,ON h1 h2 hx.2.1,ON h1 h2 hx.2.2.1,ON h1 h2 hx.2.2.2⟩
 now:=h.now
def OO{a b r:Int}(ha:Bd a)(hb:Bd b):Bd (tI a b r):=by
 unfold tI Bd at*;split
 ·exact ha
 split
 ·split<;>omega
 ·split<;>omega
def aur{p:aX}{pt:fC}(h:JG pt):JG (pt.step p) where
 bC:=h.bC
 now:=⟨OO h.now.1 h.bC.1,OO h.now.2.1 h.bC.2.1,OO h.now.2.2.1 h.bC.2.2.1,OO h.now.2.2.2 h.bC.2.2.2⟩
def aus{m:ca}{l:Int}(hl:1<=l/\l<=3)(hp:fL s.c.p)(hx:kx m.x)(h:Ext s.c):Ext (s.lv C l m).c:=by
 unfold ai.lv;split
 ·exact h.done
 split
 ·unfold ai.BS;refine Ext.done (Ext.record (Ext.leave ?_));exact⟨aum h.ay hl,h.t,h.pt,h.d,h.be⟩
 split
 ·unfold ai.ask;dsimp only;split
  ·exact h.refuse
  refine Ext.done ?_;split
  ·exact Ext.goes (h.JK) (aeR h.t)
  ·exact Ext.record (Ext.eV h.JK (aeR h.t))
 split
 ·unfold ai.offer;dsimp only;split
  ·exact h.refuse
  exact Ext.done (Ext.record (Ext.eK (Ext.eV h (auj hp h.t))))
 split
 ·unfold ai.accept;dsimp only;split
  ·exact h.refuse
  exact Ext.done (Ext.goes h (auk h.t))
 split
 ·unfold ai.gE;dsimp only;split
  ·exact h.refuse
  exact Ext.done (Ext.record (Ext.gone (Ext.eV h (aul h.t))))
 split
 ·unfold ai.release;dsimp only;split
  ·exact h.refuse
  exact Ext.done (Ext.goes h.JK (aeT h.t))
 split
 ·unfold ai.command;dsimp only;split
  ·exact h.refuse
  refine Ext.done (Ext.record ?_);split
  ·exact⟨h.ay,h.t,h.pt,h.d,h.be⟩
  ·exact⟨h.ay,h.t,aeU hp h.pt hx,h.d,h.be⟩
 ·exact h
def aut{l code:Int}{n:Nat}{f:az}(hx:∀n f m,C.take n f=aa m->kx m.x)(hl:1<=l/\l<=3)(hp:fL s.c.p)(h:Ext s.c):Ext (s.item C l code n f).c:=by
 unfold ai.item;split
 ·exact h.jW
 split
 ·unfold ai.tJ;split
  ·exact h.jW
  split
  ·exact h.refuse
  dsimp only;split
  ·exact h.refuse
  refine Ext.record (Ext.tell ?_);refine⟨h.ay,h.t,h.pt,?_,h.be⟩;intro i;dsimp only;split
  ·dsimp only;omega
  ·exact h.d i
 split
 ·unfold ai.prove;split
  ·exact h.jW
  split
  ·exact h.jW
  dsimp only;split
  ·exact h.refuse
  have h1:∀{b:Bool}{x:az},Ext ({s.c with doors:=λj=>if j=l.toNat-1 then⟨(s.c.doors (l.toNat-1)).many,b,x⟩else s.c.doors j}:Core):=by
   intro b x;refine⟨h.ay,h.t,h.pt,?_,h.be⟩;intro i;dsimp only;split
   ·exact h.d _
   ·exact h.d i
  split
  ·exact Ext.jW (s:=({s with c:=_}:ai)) h1
  split
  ·exact Ext.refuse (s:=({s with c:=_}:ai)) h1
  split
  ·exact Ext.refuse (s:=({s with c:=_}:ai)) h1
  refine Ext.record (Ext.tell ?_);exact⟨aun hp h.ay,h.t,h.pt,(@h1 ah λ_=>0).d,h.be⟩
 split
 ·exact h.jW
 ·rename_i ay m heq;have h1:rj ay:=by have:=auo (C:=C) hp h.ay hl (n:=n) (f:=f);rw[heq]at this;exact this
  have hm:kx m.x:=by
   unfold aT.take at heq;split at heq
   ·cases heq
   split at heq
   ·cases heq
   split at heq
   ·cases heq
   ·rename_i m' uO;split at heq
    ·cases heq
    split at heq
    ·cases heq
    cases heq;exact hx _ _ _ uO
  exact aus hl hp hm ⟨h1,h.t,h.pt,h.d,h.be⟩
def auu{x:fK}(hx:kx x.x)(hp:fL s.c.p)(h:Ext s.c):Ext (s.iK C x).c:=by
 have hs:Bd (iE s.c.p s.c.beyond x).1:=by
  unfold iE;split
  ·exact wO
  ·exact aeN (by have:=h.be;unfold Bd at*;omega) (FR hp.vT dC dC)
 unfold ai.iK;split
 ·exact⟨h.ay,h.t,h.pt,h.d,wO⟩
 dsimp only;have h1:Ext ({s.c with samples:=sat s.c.samples 4294967295,ay:=s.c.ay.iK s.c.p,beyond:=(iE s.c.p s.c.beyond x).1}:Core):=⟨aup hp h.ay,h.t,h.pt,h.d,hs⟩;split
 ·split
  ·exact Ext.record (s:=({s with c:=_}:ai)) h1
  ·exact Ext.goes ⟨h1.ay,h1.t,h1.pt,h1.d,h1.be⟩ (aeT h.t)
 split
 ·split
  ·exact Ext.record (s:=({s with c:=_}:ai)) h1
  ·exact Ext.record (s:=({s with c:=_}:ai)) ⟨h1.ay,h1.t,aeU hp h.pt hx,h1.d,h1.be⟩
 split
 ·split
  ·exact Ext.record (s:=({s with c:=_}:ai)) h1
  ·exact Ext.goes (s:=({s with c:=_}:ai)) h1 (JJ h.t)
 ·exact h1
def auv(q:List Ask):∀s:ai,Ext s.c->Ext (q.foldl o8 s).c:=by
 induction q with
 |nil=>intro s h;exact h
 |cons a q ih=>intro s h;exact ih _ (by rw[OH];exact⟨h.ay,h.t,h.pt,h.d,h.be⟩)
def auw{bad:Bool}(h:Ext s.c):Ext (s.lT C bad).c:=by
 cases bad with
 |false=>exact⟨h.ay,⟨h.t.oa,h.t.la⟩,h.pt,h.d,h.be⟩
 |true=>
  rw[aeH af rfl];refine Ext.eL (auv _ _ ?_);have h0:Ext (s.eV {s.c.t with bad:=af}).c:=Ext.eV h ⟨h.t.oa,h.t.la⟩;split
  ·exact Ext.goes h0 OM
  ·exact Ext.eV h0 OM
def auy(xs:List Int):∀t:Tok,jo t->jo (mr t xs):=by
 induction xs with
 |nil=>intro t h;exact h
 |cons x xs ih=>
  intro t h;unfold mr at*;rw[xg];refine ih _ ?_;split
  ·exact aeP h
  ·exact h
def auz(xs:List Int):∀s:ai,Ext s.c->Ext (xs.foldl (ri C) s).c:=by
 induction xs with
 |nil=>intro s h;exact h
 |cons x xs ih=>
  intro s h;refine ih _ ?_;obtain⟨hd,e⟩:=aeI C s x;rw[e];exact⟨h.ay,auy _ _ h.t,h.pt,h.d,h.be⟩
def auA(q:List Ask):∀s:ai,Ext s.c->Ext (q.foldl (A4 C) s).c:=by
 induction q with
 |nil=>intro s h;exact h
 |cons a q ih=>intro s h;exact ih _ (Ext.record (Ext.gone h))
def auB(hp:fL s.c.p)(h:Ext s.c):Ext (s.dL C).c:=by
 unfold ai.dL;dsimp only;split
 ·exact Ext.eV h (WU hp h.t)
 split
 ·exact Ext.eL (Ext.goes h.JK (WU hp h.t))
 ·exact Ext.eL (Ext.goes h.JK (WU hp h.t))
def auC(hi:Inv s.c)(h:Ext s.c):Ext (s.tick C).c:=by
 rw[OD];have h1:Ext (sS C s).c:=auz _ _ ⟨auq h.ay,h.t,h.pt,h.d,h.be⟩;have h2:Ext (sT C (sS C s)).c:=by
  unfold sT;dsimp only;split
  ·exact Ext.record (Ext.gone (Ext.eV h1 (aeQ h1.t)))
  ·exact Ext.eV h1 (aeQ h1.t)
 have h3:Ext (zg C (sT C (sS C s))).c:=auA _ _ ⟨h2.ay,h2.t,h2.pt,h2.d,h2.be⟩;have hp:fL (zg C (sT C (sS C s))).c.p:=by rw[(aeM (b:=True) hi).2.p];exact hi.p
 have h4:=auB (C:=C) hp h3;exact⟨h4.ay,h4.t,aur h4.pt,h4.d,h4.be⟩
end Sd
