/- Part 3 of the proof. -/
import Derived.Test.YtddcipamdggcnaaGreatDoorRows
import Derived.Test.YtddcipamdggcnaaGreatDoorProg
import Derived.Test.YtddcipamdggcnaaGreatDoorU2
set_option linter.all false
set_option maxRecDepth 100000
set_option maxHeartbeats 4000000
noncomputable section
open Sd(Label Rec aM aQ aT aX ai az ca cd dM fC fg gL gk iC iD oK placeOf)
open Go.Proofs.Tryz
open Go.Proofs.Tryz renaming prog->du
open Go.IntKind (u8 u16 u32 u64 i64)
open Array renaming toList_append->GB,ext'->fP
open Bool renaming true->af,false->ah,and_eq_true->bJ,not_eq_true'->pj
open Go renaming Oper->aA,Addr->aF,Program->aL,TypeId->aP,Value->aj,World->an,Exit->dR,FuncId->fG,wp_ret->jC,wp_block->kZ
open Int renaming lt_asymm->Ld,ofNat->dS,le_refl->uy
open List renaming any_eq_true->Bu,length_nil->K6,take_length->Le,take_zero->Qe,length_singleton->Zb,append_assoc->bZ,range->bg,mem_cons->cG,append_nil->cy,countP_append->ee,length_append->fH,cons_append->fe,nil_append->fu,getD->gh,map_cons->gx,getElem?_eq_none->jA,take_append_drop->jR,mem_singleton->jS,getElem?_eq_getElem->jh,length_cons->jv,getElem?_map->kA,sublist_append_right->kM,eq_nil_of_length_eq_zero->kX,perm_middle->kY,Perm->lO,map_congr_left->mB,getElem?_range->pr,not_mem_nil->py,perm_append_comm_assoc->rG,map_append->uw,getElem?_append_right->vI,length_take->w9,singleton_append->xi,ext_getElem?->zN
open List.Perm renaming append_right->BA,swap->Bz,append_left->j8,cons->vJ,trans->xm
open List.Sublist renaming append_right->Zd,append_left->mV,cons_cons->xn
open List.cons renaming inj->xf
open Nat renaming beq->aC,le_refl->cW,eq_of_beq_eq_true->cw,lt_or_ge->di,blt->dq,blt_eq->jQ,add_zero->lM,add_mul->oD,eq_zero_or_pos->uu,beq_refl->uv,add_assoc->ux
open Option renaming some->aa,none->ag
open Option.some renaming injEq->a_,inj->cP
open Prod.mk renaming injEq->bI
open Go Go.RowKit Go.BigFrame Sx Vx
namespace Sx
section
variable{P:aL}{a0:Act}{w w0:an}{Q:dR->Act->an->Prop}{id:Nat}{L:List aA}{ms:List Nat}
def Ea.dY{val:aj}{C:List av->Prop}{bl:List av}{B:Nat}{T:aP}(hT:∀b9,C b9->∀x∈b9,Eb x.obj≠aa T){v:aj}{w1 w2:an}{b:Nat}{c2:Array aj}(hb:w1.heap[b]?=aa (.cells c2 T (0,0)))(hc:Ch [b] w1 w2)(h:Ea val C bl B v w1):Ea val C bl B v w2:=by
 obtain⟨h1,b9,h2,h3,h4⟩:=h;refine⟨h1,b9,h2,λy hy=>⟨?_,(h3 y hy).2⟩,h4⟩;refine(hc.block _ (oH (h3 y hy).1) ?_).trans (h3 y hy).1;intro hm;have e:y.id=b:=by simpa using hm
 have:=(h3 y hy).1;rw[e,hb]at this;exact hT b9 h2 y hy (by rw[<-cP this];rfl)
end
end Sx
namespace Go.Proofs.YtddcipamdggcnaaGreatDoor
section
def CN(q:Nat->Int)(ka:Nat->Option aF)(kn kc:Nat->Nat):Array aj:=#[.int .i64 (q 0),.int .i64 (q 1),.int .i64 (q 2),.int .i64 (q 3),.int .i64 (q 4),.slice (ka 0) (kn 0) (kc 0),.slice (ka 1) (kn 1) (kc 1),.slice (ka 2) (kn 2) (kc 2),.slice (ka 3) (kn 3) (kc 3),.int .i64 (q 9),.int .i64 (q 10),.int .i64 (q 11),.int .i64 (q 12),.int .i64 (q 13),.int .i64 (q 14),.int .i64 (q 15),.int .i64 (q 16),.int .i64 (q 17),.int .i64 (q 18),.int .i64 (q 19),.int .i64 (q 20),.int .i64 (q 21),.int .i64 (q 22),.int .i64 (q 23),.int .i64 (q 24),.int .i64 (q 25),.int .i64 (q 26),.int .i64 (q 27),.int .i64 (q 28),.int .i64 (q 29),.int .i64 (q 30),.int .i64 (q 31),.int .i64 (q 32),.int .i64 (q 33),.int .i64 (q 34),.int .i64 (q 35),.int .i64 (q 36),.int .i64 (q 37),.int .i64 (q 38),.int .i64 (q 39),.int .i64 (q 40),.int .i64 (q 41),.int .i64 (q 42),.int .i64 (q 43),.int .i64 (q 44),.int .i64 (q 45),.int .i64 (q 46),.int .i64 (q 47),.int .i64 (q 48),.int .i64 (q 49),.int .i64 (q 50),.int .i64 (q 51),.int .i64 (q 52),.int .i64 (q 53),.int .i64 (q 54),.int .i64 (q 55)]
end
section
def kV(lo hi n:Int):Bool:=decide (lo<=n)&&decide (n<=hi)
def su(a b c k:Int):Bool:=k==a||(k==b||k==c)
def IT(q:Nat->Int):Bool:=q 0==0&&(q 4==4&&(su (q 1) (q 2) (q 3) 1&&(su (q 1) (q 2) (q 3) 2&&su (q 1) (q 2) (q 3) 3)))
def u_(n:Nat):Bool:=decide (1<=(n:Int))&&decide ((n:Int)<=64)
def qV(n:Int):Bool:=kV 0 15 n&&n%2==0
def allI(lo hi:Int):List Int->Bool
 |[]=>af
 |x::xs=>kV lo hi x&&allI lo hi xs
def AS(kn:Nat->Nat):Bool:=u_ (kn 0)&&(u_ (kn 1)&&u_ (kn 2))
def CO(q:Nat->Int):Bool:=qV (q 10)&&(qV (q 11)&&qV (q 12))
def IU(q:Nat->Int):Bool:=allI 0 15 [q 14,q 15,q 16,q 17]&&(allI 0 15 [q 18,q 19,q 20,q 21]&&(allI 0 15 [q 22,q 23,q 24,q 25]&&(allI 0 15 [q 26,q 27,q 28,q 29]&&allI 0 15 [q 30,q 31,q 32,q 33])))
def og(q:Nat->Int)(kn:Nat->Nat):Int:=
 if IT q=ah then 40 else if(AS kn&&u_ (kn 3))=ah then 41 else if(q 9==1&&(q 13==0&&CO q))=ah then 42
 else if IU q=ah then 43
 else if allI 0 31 [q 34,q 35,q 36,q 37,q 38]=ah then 44
 else if allI 0 4 [q 39,q 40,q 41]=ah then 45 else if allI 1 1000 [q 42,q 43,q 44,q 45]=ah then 46 else if(kV 1 1000 (q 46)&&kV 0 1000 (q 47))=ah then 47 else if allI 1 3 [q 48,q 49]=ah then 48
 else if(q 50==0&&(allI 0 1000 [q 51,q 52,q 53]&&kV 1 1000 (q 54)))=ah then 49 else if kV 0 65535 (q 55)=ah then 50 else 0
def Fj(lo hi n:Int)(X Y:Prop):Prop:=cond (decide (lo<=n)) (cond (!decide (n<=hi)) Y X) Y
def Ns(n:Int)(X Y:Prop):Prop:=cond (decide (0<=n)) (cond (decide (n<=15)) (cond (!(Int.tmod n 2==0)) Y X) Y) Y
def yJ(lo hi:Int)(Y:Prop):List Int->Prop->Prop
 |[],X=>X
 |n::l,X=>Fj lo hi n (yJ lo hi Y l X) Y
def IV{lo hi n:Int}{X Y:Prop}(h:kV lo hi n=af->X)(k:kV lo hi n=ah->Y):Fj lo hi n X Y:=
 aN (λa=>aN (λb=>k (by rw[kV,a];simpa using b)) λb=>h (by rw[kV,a];simpa using b)) λa=>k (by rw[kV,a];rfl)
def U2{n:Int}{X Y:Prop}(h:qV n=af->X)(k:qV n=ah->Y):Ns n X Y:=by
 refine aN (λa=>aN (λb=>?_) λb=>k (by simp only[qV,kV,a,b];rfl)) λa=>k (by simp only[qV,kV,a];rfl);have e:Int.tmod n 2=n%2:=Int.tmod_eq_emod_of_nonneg (of_decide_eq_true a);exact aN (λc=>k (by simp only[qV,kV,a,b];rw[e]at c;simpa using c)) λc=>h (by simp only[qV,kV,a,b];rw[e]at c;simpa using c)
def AT{lo hi:Int}{X Y:Prop}:∀{l:List Int},(allI lo hi l=af->X)->(allI lo hi l=ah->Y)->yJ lo hi Y l X
 |[],h,_=>h rfl
 |n::l,h,k=>IV (λa=>AT (λb=>h (by rw[allI,a,b];rfl)) λb=>k (by rw[allI,a,b];rfl)) λa=>k (by rw[allI,a];rfl)
def dup(X:Prop):Prop:=X/\X
def U3{X:Prop}(h:X):dup X:=⟨h,h⟩
def nq(a b c d e:Int):Bool:=a==0&&(e==4&&(su b c d 1&&(su b c d 2&&su b c d 3)))
def U4:QF:=⟨66,λak _=>match ak with
 |[.agg [.int .i64 a,.int .i64 b,.int .i64 c,.int .i64 d,.int .i64 e]]=>aa (True,.bool (nq a b c d e))
 |_=>ag⟩
def CP(b c d k:Int)(X Y:Prop):Prop:=cond (k==b) X (cond (k==c) X (cond (k==d) X Y))
def U5{b c d k:Int}{X Y:Prop}(h:su b c d k=af->X)(n:su b c d k=ah->Y):CP b c d k X Y:=
 aN (λa=>h (by rw[su,a];rfl)) λa=>aN (λe=>h (by rw[su,a,e];rfl)) λe=>aN (λf=>h (by rw[su,a,e,f];rfl)) λf=>n (by rw[su,a,e,f];rfl)
def aoo(a b c d e:Int)(K:V->Prop):eJ du [] 60 66 [.agg [.int .i64 a,.int .i64 b,.int .i64 c,.int .i64 d,.int .i64 e]] K
 =cond (a !=0) (K (.bool ah)) (cond (e !=4) (K (.bool ah)) (CP b c d 1 (CP b c d 2 (CP b c d 3 (K (.bool af)) (K (.bool ah))) (K (.bool ah))) (K (.bool ah)))):=kR
def aop(a b c d e:Int)(w:an):ba du 66 #[.agg #[.int .i64 a,.int .i64 b,.int .i64 c,.int .i64 d,.int .i64 e]] w λv w1=>v=.bool (nq a b c d e)/\Ch [] w w1:=by
 have h:cond (a !=0) ((V.bool ah)=.bool (nq a b c d e)) (cond (e !=4) ((V.bool ah)=.bool (nq a b c d e)) (CP b c d 1 (CP b c d 2 (CP b c d 3 ((V.bool af)=.bool (nq a b c d e)) ((V.bool ah)=.bool (nq a b c d e))) ((V.bool ah)=.bool (nq a b c d e))) ((V.bool ah)=.bool (nq a b c d e)))):=by
  refine aN (λh=>?_) λh=>aN (λg=>?_) λg=>U5 (λx=>U5 (λy=>U5 (λz=>?_) λz=>?_) λy=>?_) λx=>?_
  ·have h':(a==0)=ah:=by simpa using h
   rw[nq,h'];rfl
  all_goals have h':(a==0)=af:=by simpa using h
  ·have g':(e==4)=ah:=by simpa using g
   rw[nq,h',g'];rfl
  all_goals have g':(e==4)=af:=by simpa using g
  ·rw[nq,h',g',x,y,z];rfl
  ·rw[nq,h',g',x,y,z];rfl
  ·rw[nq,h',g',x,y];rfl
  ·rw[nq,h',g',x];rfl
 refine iR (L:=[]) bW.nil (n:=60) (xs:=[.agg [.int .i64 a,.int .i64 b,.int .i64 c,.int .i64 d,.int .i64 e]]) (v:=.bool (nq a b c d e)) (Hd.h (Hd.mk ?_));rw[aoo];exact h
def aoq(gl:Nat->Option Nat):U4.Ok du gl:=by
 intro ak bl p_ v_ h hp ae w _ _;unfold U4 at h;dsimp only at h;split at h
 ·rename_i a b c d e;simp only[a_,bI]at h;obtain⟨rfl,rfl⟩:=h;exact told (aop a b c d e w)
 ·cases h
def U6(q:Nat->Int)(kn:Nat->Nat)(K:V->Prop):Prop:=
 let E:=λn:Int=>K (.int .i64 n)
 cond (!(nq (q 0) (q 1) (q 2) (q 3) (q 4))) (E 40)<|yJ 1 64 (E 41) [(kn 0:Int),(kn 1:Int),(kn 2:Int),(kn 3:Int)]<|cond (q 9!=1) (E 42)<|cond (q 13!=0) (E 42)<|(λX=>Ns (q 10) (Ns (q 11) (Ns (q 12) X (E 42)) (E 42)) (E 42))<|
 yJ 0 15 (E 43) [q 14,q 15,q 16,q 17,q 18,q 19,q 20,q 21,q 22,q 23,q 24,q 25,q 26,q 27,q 28,q 29,q 30,q 31,q 32,q 33]<|yJ 0 31 (E 44) [q 34,q 35,q 36,q 37,q 38]<|dup<|yJ 0 4 (E 45) [q 39,q 40,q 41]<|dup<|yJ 1 1000 (E 46) [q 42,q 43,q 44,q 45]<|
 (λX=>Fj 1 1000 (q 46) (Fj 0 1000 (q 47) X (E 47)) (E 47))<|dup<|yJ 1 3 (E 48) [q 48,q 49]<|cond (q 50!=0) (E 49)<|yJ 0 1000 (E 49) [q 51,q 52,q 53]<|Fj 1 1000 (q 54) (Fj 0 65535 (q 55) (E 0) (E 50)) (E 49)
def Fk(n:Int):VB:=⟨af,⟨3,(0,0)⟩,[.int .i64 n]⟩
def IW:dm Empty:=λak bl ch K=>match ak with
 |[.int .i64 lo,.int .i64 hi]=>cond (bY bl.length bl) (K (.fn 87 [] [.ptr bl.length 0,.ptr (bl.length+1) 0]) (bl++[Fk lo,Fk hi]) ch) False
 |_=>False
def aor(lo hi:Int)(K:VK Empty):bz (bU du (λ_=>ag) ([]:List (bT Empty))) 20 73 [.int .i64 lo,.int .i64 hi] [] [] K=K (.fn 87 [] [.ptr 0 0,.ptr 1 0]) [Fk lo,Fk hi] []:=kR
def aos:Sound du (λ_=>ag) 73 IW:=by
 intro ak ae bl ch R ms w0 w K hg hl S hc;unfold IW at hc;split at hc
 ·rename_i lo hi;cases hq:bY bl.length bl with
  |false=>rw[hq]at hc;exact hc.elim
  |true=>
   rw[hq]at hc;have hv:bz (bU du (λ_=>ag) ([]:List (bT Empty))) 20 73 [.int .i64 lo,.int .i64 hi] [] [] (λv b c=>v=.fn 87 [] [.ptr 0 0,.ptr 1 0]/\b=[Fk lo,Fk hi]/\c=[]):=by rw[aor];exact⟨rfl,rfl,rfl⟩
   refine(eO (aK.nil (P:=du) (gl:=λ_=>ag)).T aK.nil.Q 20 (C:=bU du (λ_=>ag) ([]:List (bT Empty))) (ae:=[]) (bl:=[]) (ch:=[]) (R:=[]) (ms:=[]) (w0:=w) (w:=w) Gl.no rfl (St.nil [] w) hv).mono ?_;rintro x w' ⟨y,aq,b9,ce,rfl,h1,S',rfl,rfl,rfl⟩
   match aq,h1 with
   |[b1,b2],_=>
    have S2:=S.beside S' (bl:=[⟨b1,af,.cells #[.int .i64 lo] 3 (0,0)⟩,⟨b2,af,.cells #[.int .i64 hi] 3 (0,0)⟩]) (Wr.cons rfl (Wr.cons rfl Wr.nil));refine⟨_,[b1,b2],_,ch,?_,by simp[hl],?_,hc⟩
    ·simp only[den,aJ,<-hl];simp[gh]
    ·rw[fw _ _ _ _ hl,fy _ _ (by rw[hl];exact hq),bZ];refine S2.perm ?_;exact(rG [_,_] (lits ae ae bl) (ax ch R))
 ·exact hc.elim
def aot:wb du (λ_=>ag) ⟨73,af,IW⟩:=⟨aos,λ_ ak bl ch K h=>by
 simp only at h⊢;unfold IW at h⊢;split at h
 ·cases hq:bY bl.length bl with
  |false=>rw[hq]at h;exact h.elim
  |true=>rw[hq]at h;exact⟨h,_,rfl⟩
 ·exact h.elim⟩
def U7:List (bT Empty):=⟨73,af,IW⟩::qL Empty [U4]
def ada:aK du (λ_=>ag) U7:=aK.cons aot (kG (bW.cons (aoq _) bW.nil))
def vcP(n:Nat)(f:fG)(ak:List V)(X:V->Prop):Prop:=bz (bU du (λ_=>ag) U7) n f ak [] [] λv _ _=>X v
def aou(p:aX)(ka:Nat->Option aF)(kn kc:Nat->Nat)(K:V->Prop):vcP 60 46 [.agg (fT p ka kn kc)] K=(True/\U6 p.i kn K):=kR
def aov(q:Nat->Int)(kn:Nat->Nat):U6 q kn (·=.int .i64 (og q kn)):=by
 have k4:allI 1 64 [(kn 0:Int),(kn 1:Int),(kn 2:Int),(kn 3:Int)]=(AS kn&&u_ (kn 3)):=by simp only[allI,kV,AS,u_,Bool.and_assoc,Bool.and_true]
 have t5:allI 0 15 [q 14,q 15,q 16,q 17,q 18,q 19,q 20,q 21,q 22,q 23,q 24,q 25,q 26,q 27,q 28,q 29,q 30,q 31,q 32,q 33]=IU q:=by simp only[allI,IU,Bool.and_assoc,Bool.and_true]
 unfold U6 og;refine aN (λh=>?_) λh=>?_
 ·have h0:IT q=ah:=(by simpa using h:nq (q 0) (q 1) (q 2) (q 3) (q 4)=ah);rw[if_pos h0]
 have h0:IT q=af:=(by simpa using h:nq (q 0) (q 1) (q 2) (q 3) (q 4)=af);clear h;refine AT (λh1=>?_) λh1=>?_<;>rw[k4]at h1
 ·refine aN (λa=>?_) λa=>aN (λb=>?_) λb=>U2 (λc=>U2 (λd=>U2 (λe=>?_) λe=>?_) λd=>?_) λc=>?_
  ·have a':(q 9==1)=ah:=by simpa using a
   simp[h0,h1,a']
  all_goals have a':(q 9==1)=af:=by simpa using a
  ·have b':(q 13==0)=ah:=by simpa using b
   simp[h0,h1,a',b']
  all_goals have b':(q 13==0)=af:=by simpa using b
  ·have r:CO q=af:=by simp[CO,c,d,e]
   have h2:(q 9==1&&(q 13==0&&CO q))=af:=by rw[a',b',r];rfl
   refine AT (λh3=>?_) λh3=>?_<;>rw[t5]at h3
   ·refine AT (λh4=>U3 (AT (λh5=>U3 (AT (λh6=>IV (λh7=>IV (λh8=>U3 (AT (λh9=>aN (λu=>?_) λu=>AT (λv=>IV (λx=>IV (λy=>?_) λy=>?_) λx=>?_) λv=>?_) λh9=>?_)) λh8=>?_) λh7=>?_) λh6=>?_)) λh5=>?_)) λh4=>?_
    ·have u':(q 50==0)=ah:=by simpa using u
     simp[h0,h1,h2,h3,h4,h5,h6,h7,h8,h9,u']
    iterate 4
     ·have u':(q 50==0)=af:=by simpa using u
      simp[h0,h1,h2,h3, *]
    all_goals simp[h0,h1,h2,h3, *]
   ·simp[h0,h1,h2,h3]
  all_goals simp[h0,h1,a',b',CO, *]
 ·simp[h0,h1]
def aow(q:Nat->Int)(ka:Nat->Option aF)(kn kc:Nat->Nat)(w:an):ba du 46 #[.agg (CN q ka kn kc)] w λv w1=>v=.int .i64 (og q kn)/\Ch [] w w1:=by
 have h:vcP 60 46 [.agg (fT ⟨q,λ_=>(0,λ_=>0)⟩ ka kn kc)] (·=.int .i64 (og q kn)):=by rw[aou];exact⟨trivial,aov q kn⟩
 refine(eO ada.T ada.Q 60 (C:=bU du (λ_=>ag) U7) (ae:=[]) (bl:=[]) (ch:=[]) (R:=[]) (ms:=[]) (w0:=w) (w:=w) Gl.no rfl (St.nil [] w) h).mono ?_;rintro x w' ⟨y,aq,b9,ce,rfl,h1,S,rfl⟩;exact⟨rfl,S.ch⟩
end
section
def f3{α:Type}(a b c:α):Nat->α:=λj=>match j with|0=>a|1=>b|_=>c
def tY(p:aX)(ka:Nat->Option aF)(kn kc:Nat->Nat)(t:Sd.Tok)(bq:Nat)(D:Nat->fg)(bt:Nat)(sa be mo:Int)(mb:Label)(pt:fC)(hd:Nat->Int):Array aj:=#[.int .i64 (p.i 0),.int .i64 (p.i 1),.int .i64 (p.i 2),.int .i64 (p.i 3),.int .i64 (p.i 4),.slice (ka 0) (kn 0) (kc 0),.slice (ka 1) (kn 1) (kc 1),.slice (ka 2) (kn 2) (kc 2),.slice (ka 3) (kn 3) (kc 3),.int .i64 (p.i 9),.int .i64 (p.i 10),.int .i64 (p.i 11),.int .i64 (p.i 12),.int .i64 (p.i 13),.int .i64 (p.i 14),.int .i64 (p.i 15),.int .i64 (p.i 16),.int .i64 (p.i 17),.int .i64 (p.i 18),.int .i64 (p.i 19),.int .i64 (p.i 20),.int .i64 (p.i 21),.int .i64 (p.i 22),.int .i64 (p.i 23),.int .i64 (p.i 24),.int .i64 (p.i 25),.int .i64 (p.i 26),.int .i64 (p.i 27),.int .i64 (p.i 28),.int .i64 (p.i 29),.int .i64 (p.i 30),.int .i64 (p.i 31),.int .i64 (p.i 32),.int .i64 (p.i 33),.int .i64 (p.i 34),.int .i64 (p.i 35),.int .i64 (p.i 36),.int .i64 (p.i 37),.int .i64 (p.i 38),.int .i64 (p.i 39),.int .i64 (p.i 40),.int .i64 (p.i 41),.int .i64 (p.i 42),.int .i64 (p.i 43),.int .i64 (p.i 44),.int .i64 (p.i 45),.int .i64 (p.i 46),.int .i64 (p.i 47),.int .i64 (p.i 48),.int .i64 (p.i 49),.int .i64 (p.i 50),.int .i64 (p.i 51),.int .i64 (p.i 52),.int .i64 (p.i 53),.int .i64 (p.i 54),.int .i64 (p.i 55),.int .i64 t.aS,.int .i64 t.au,.int .i64 t.offer,.int .i64 t.oa.n,.int .i64 t.oa.most,.int .i64 t.la.n,.int .i64 t.la.most,.bool t.bad,.pointer (aa ⟨bq,0,ag⟩),.int .i64 (D 0).many,.bool (D 0).jG,.int .u8 ((D 0).aR 0),.int .u8 ((D 0).aR 1),.int .u8 ((D 0).aR 2),.int .u8 ((D 0).aR 3),.int .u8 ((D 0).aR 4),.int .u8 ((D 0).aR 5),.int .u8 ((D 0).aR 6),.int .u8 ((D 0).aR 7),.int .i64 (D 1).many,.bool (D 1).jG,.int .u8 ((D 1).aR 0),.int .u8 ((D 1).aR 1),.int .u8 ((D 1).aR 2),.int .u8 ((D 1).aR 3),.int .u8 ((D 1).aR 4),.int .u8 ((D 1).aR 5),.int .u8 ((D 1).aR 6),.int .u8 ((D 1).aR 7),.int .i64 (D 2).many,.bool (D 2).jG,.int .u8 ((D 2).aR 0),.int .u8 ((D 2).aR 1),.int .u8 ((D 2).aR 2),.int .u8 ((D 2).aR 3),.int .u8 ((D 2).aR 4),.int .u8 ((D 2).aR 5),.int .u8 ((D 2).aR 6),.int .u8 ((D 2).aR 7),.pointer (aa ⟨bt,0,ag⟩),.int .i64 sa,.int .i64 be,.int .i64 mo,.int .i64 mb.na,.int .i64 mb.source,.int .i64 mb.seq,.int .i64 pt.cls,.int .i64 pt.bC.a,.int .i64 pt.bC.b,.int .i64 pt.bC.c,.int .i64 pt.bC.d,.int .i64 pt.now.a,.int .i64 pt.now.b,.int .i64 pt.now.c,.int .i64 pt.now.d,.int .i64 pt.ct.na,.int .i64 pt.ct.source,.int .i64 pt.ct.seq,.int .u8 (hd 0),.int .u8 (hd 1),.int .u8 (hd 2),.int .u8 (hd 3),.int .u8 (hd 4),.int .u8 (hd 5),.int .u8 (hd 6),.int .u8 (hd 7),.int .u8 (hd 8),.int .u8 (hd 9),.int .u8 (hd 10),.int .u8 (hd 11),.int .u8 (hd 12),.int .u8 (hd 13),.int .u8 (hd 14),.int .u8 (hd 15),.int .u8 (hd 16),.int .u8 (hd 17),.int .u8 (hd 18),.int .u8 (hd 19),.int .u8 (hd 20),.int .u8 (hd 21),.int .u8 (hd 22),.int .u8 (hd 23),.int .u8 (hd 24),.int .u8 (hd 25),.int .u8 (hd 26),.int .u8 (hd 27),.int .u8 (hd 28),.int .u8 (hd 29),.int .u8 (hd 30),.int .u8 (hd 31)]
def kI(st:Bool×Sd.Timer)(aE:Nat->gL)(b m:Int):Array aj:=#[.bool st.1,.int .i64 st.2.n,.int .i64 st.2.most,.bool (aE 0).on,.int .i64 (aE 0).eo.n,.int .i64 (aE 0).eo.most,.int .i64 (aE 0).role,.int .u8 ((aE 0).key 0),.int .u8 ((aE 0).key 1),.int .u8 ((aE 0).key 2),.int .u8 ((aE 0).key 3),.int .u8 ((aE 0).key 4),.int .u8 ((aE 0).key 5),.int .u8 ((aE 0).key 6),.int .u8 ((aE 0).key 7),.int .u8 ((aE 0).key 8),.int .u8 ((aE 0).key 9),.int .u8 ((aE 0).key 10),.int .u8 ((aE 0).key 11),.int .u8 ((aE 0).key 12),.int .u8 ((aE 0).key 13),.int .u8 ((aE 0).key 14),.int .u8 ((aE 0).key 15),.int .u8 ((aE 0).key 16),.int .u8 ((aE 0).key 17),.int .u8 ((aE 0).key 18),.int .u8 ((aE 0).key 19),.int .u8 ((aE 0).key 20),.int .u8 ((aE 0).key 21),.int .u8 ((aE 0).key 22),.int .u8 ((aE 0).key 23),.int .u8 ((aE 0).key 24),.int .u8 ((aE 0).key 25),.int .u8 ((aE 0).key 26),.int .u8 ((aE 0).key 27),.int .u8 ((aE 0).key 28),.int .u8 ((aE 0).key 29),.int .u8 ((aE 0).key 30),.int .u8 ((aE 0).key 31),.bool (aE 0).seen.any,.int .i64 (aE 0).seen.high,.int .u64 (aE 0).seen.seen,.bool (aE 1).on,.int .i64 (aE 1).eo.n,.int .i64 (aE 1).eo.most,.int .i64 (aE 1).role,.int .u8 ((aE 1).key 0),.int .u8 ((aE 1).key 1),.int .u8 ((aE 1).key 2),.int .u8 ((aE 1).key 3),.int .u8 ((aE 1).key 4),.int .u8 ((aE 1).key 5),.int .u8 ((aE 1).key 6),.int .u8 ((aE 1).key 7),.int .u8 ((aE 1).key 8),.int .u8 ((aE 1).key 9),.int .u8 ((aE 1).key 10),.int .u8 ((aE 1).key 11),.int .u8 ((aE 1).key 12),.int .u8 ((aE 1).key 13),.int .u8 ((aE 1).key 14),.int .u8 ((aE 1).key 15),.int .u8 ((aE 1).key 16),.int .u8 ((aE 1).key 17),.int .u8 ((aE 1).key 18),.int .u8 ((aE 1).key 19),.int .u8 ((aE 1).key 20),.int .u8 ((aE 1).key 21),.int .u8 ((aE 1).key 22),.int .u8 ((aE 1).key 23),.int .u8 ((aE 1).key 24),.int .u8 ((aE 1).key 25),.int .u8 ((aE 1).key 26),.int .u8 ((aE 1).key 27),.int .u8 ((aE 1).key 28),.int .u8 ((aE 1).key 29),.int .u8 ((aE 1).key 30),.int .u8 ((aE 1).key 31),.bool (aE 1).seen.any,.int .i64 (aE 1).seen.high,.int .u64 (aE 1).seen.seen,.bool (aE 2).on,.int .i64 (aE 2).eo.n,.int .i64 (aE 2).eo.most,.int .i64 (aE 2).role,.int .u8 ((aE 2).key 0),.int .u8 ((aE 2).key 1),.int .u8 ((aE 2).key 2),.int .u8 ((aE 2).key 3),.int .u8 ((aE 2).key 4),.int .u8 ((aE 2).key 5),.int .u8 ((aE 2).key 6),.int .u8 ((aE 2).key 7),.int .u8 ((aE 2).key 8),.int .u8 ((aE 2).key 9),.int .u8 ((aE 2).key 10),.int .u8 ((aE 2).key 11),.int .u8 ((aE 2).key 12),.int .u8 ((aE 2).key 13),.int .u8 ((aE 2).key 14),.int .u8 ((aE 2).key 15),.int .u8 ((aE 2).key 16),.int .u8 ((aE 2).key 17),.int .u8 ((aE 2).key 18),.int .u8 ((aE 2).key 19),.int .u8 ((aE 2).key 20),.int .u8 ((aE 2).key 21),.int .u8 ((aE 2).key 22),.int .u8 ((aE 2).key 23),.int .u8 ((aE 2).key 24),.int .u8 ((aE 2).key 25),.int .u8 ((aE 2).key 26),.int .u8 ((aE 2).key 27),.int .u8 ((aE 2).key 28),.int .u8 ((aE 2).key 29),.int .u8 ((aE 2).key 30),.int .u8 ((aE 2).key 31),.bool (aE 2).seen.any,.int .i64 (aE 2).seen.high,.int .u64 (aE 2).seen.seen,.int .i64 b,.int .i64 m]
def aox(p:aX)(ka:Nat->Option aF)(kn kc:Nat->Nat)(w:an):ba du 46 #[.agg (ma p ka kn kc)] w λv w1=>v=.int .i64 (og p.i kn)/\Ch [] w w1:=aow p.i ka kn kc w
def aoy{q:Nat->Int}{kn:Nat->Nat}(h:og q kn=0):1<=q 48/\q 48<=3:=by
 have:allI 1 3 [q 48,q 49]=af:=by
  cases e:allI 1 3 [q 48,q 49]with
  |true=>rfl
  |false=>
   exfalso;unfold og at h
   repeat' split at h
   all_goals first|omega|(rename_i U8;simp[e]at U8)
 simp only[allI,kV,bJ,decide_eq_true_eq]at this;exact this.1
def aoz(w:an):
 ba du 51 #[] w λv w1=>v=.agg #[.int .i64 2,.int .i64 4,.int .i64 0]/\Ch [] w w1:=by
 have S0:=St.nil [] w;refine jT Tryz.func51 rfl ?_;refine aW (bu ?_);refine fQ S0 (λb=>.pointer (aa ⟨b,0,ag⟩)) (.cells #[.int .i64 0,.int .i64 0,.int .i64 0] 41) ?_;intro dh jY fl;refine bh (aZ (aW (bu ?_)));refine aG (.agg #[.int .i64 2,.int .i64 4,.int .i64 0]) ?_;refine store_ fl 0 (.agg #[.int .i64 2,.int .i64 4,.int .i64 0]) dh 0 ?_;intro HY Nt;refine bh (aZ (jC ?_));refine jD rfl (iI [.cell 0 41] [.agg #[.int .i64 2,.int .i64 4,.int .i64 0]] (.agg #[.int .i64 2,.int .i64 4,.int .i64 0]) ⟨tn Nt 0 3 dh 0,trivial⟩) ?_;exact⟨rfl,Nt.ch⟩
def aoA(w:an):
 ba du 27 #[.slice ag 0 0] w λv w1=>v=.agg (aH .u8 32 (λ_=>0))/\Ch [] w w1:=by
 have S0:=St.nil [] w;refine jT Tryz.func27 rfl ?_;refine aW (bu ?_);refine fQ S0 (λb=>.pointer (aa ⟨b,0,ag⟩)) (.cells (aH .u8 32 (λ_=>0)) 46) ?_;intro dh jY fl;refine bh (aZ (aW (bu ?_)));refine fQ fl (λb=>.pointer (aa ⟨b,0,ag⟩)) (.cells (aH .u8 32 (λ_=>0)) 46) ?_;intro fm pW eQ;refine bh (aZ (aW (aW (bu ?_))));refine aG (.slice ag 0 0) ?_;refine aG (.int .i64 0) ?_;refine aG (.int .i64 0) ?_;refine bh (aZ (kZ (GI 24 (aW (bu ?_)))));refine aG (.bool ah) ?_;refine bh (aZ (aW (tp ?_)));refine wp_exit (mX (mX (xu (aZ (aW (bu ?_))))));refine nL eQ 0 32 (aH .u8 32 (λ_=>0)) fm 0 ?_;refine store_ eQ 1 (.agg (aH .u8 32 (λ_=>0))) dh 0 ?_;intro EV Cv;refine bh (aZ (jC ?_));refine jD rfl (iI [.cell 2 46] [.agg (aH .u8 32 (λ_=>0))] (.agg (aH .u8 32 (λ_=>0))) ⟨tn Cv 1 32 dh 0,trivial⟩) ?_;exact⟨rfl,Cv.ch⟩
def gz:List Rec->List aj
 |[]=>[]
 |r::l=>(recC r).toList++gz l
def aoB(l:List Rec)(r:Rec):gz l++(recC r).toList=gz (l++[r]):=by
 induction l with
 |nil=>simp[gz]
 |cons a l ih=>simp[gz,ih]
def aoC(p:aX)(ka:Nat->Option aF)(kn kc:Nat->Nat)(t:Sd.Tok)(bq:Nat)(D:Nat->fg)(bt:Nat)(sa be mo:Int)(mb:Label)(pt:fC)(hd:Nat->Int)(xs:Option aF)(ns cs:Nat)(ez bc:Nat)(x:Option aF)(n c:Nat)(bl:List av)(rl:List Rec)(kd so sq co ho:Int){tG:aP}(w:an){ms:List Nat}{w0:an}{bs:List av}(S0:St ms w0 ([⟨0,ah,.cells (aH .u32 64 c9) tG (0,0)⟩,⟨ez,af,.cells #[.pointer (aa ⟨bc,0,ag⟩),.slice xs ns cs,.slice x n c] 135 (0,0)⟩,⟨bc,af,.cells (tY p ka kn kc t bq D bt sa be mo mb pt hd) 131 (0,0)⟩]++(bl++bs)) w)(hR:dk 6 64 (gz rl) x n c bl)(hn:n<=1000):
 ba du 107 #[.pointer (aa ⟨ez,0,ag⟩),.int .i64 kd,.int .i64 so,.int .i64 sq,.int .i64 co,.int .i64 ho] w λv w1=>∃x1 c1 jX,v=.tuple #[]/\dk 6 64 (gz (rl++[⟨kd,so,sq,t.au,co,ho⟩])) x1 (n+1) c1 jX/\St ms w0 ([⟨0,ah,.cells (aH .u32 64 c9) tG (0,0)⟩,⟨ez,af,.cells #[.pointer (aa ⟨bc,0,ag⟩),.slice xs ns cs,.slice x1 (n+1) c1] 135 (0,0)⟩,⟨bc,af,.cells (tY p ka kn kc t bq D bt sa be mo mb pt (mf hd (⟨kd,so,sq,t.au,co,ho⟩:Rec))) 131 (0,0)⟩]++(jX++bs)) w1:=by
 refine jT Tryz.func107 rfl ?_;refine aW (bu ?_);refine aG (.int .i64 kd) ?_;refine aG (.int .i64 so) ?_;refine aG (.int .i64 sq) ?_;refine dI ?_;refine aG (.pointer (aa ⟨ez,0,ag⟩)) ?_;refine aG (.pointer (aa ⟨ez,0,ag⟩)) ?_;refine rH S0 1 (.pointer (aa ⟨bc,0,ag⟩)) ez 0 ?_;refine aG (.pointer (aa ⟨bc,0,ag⟩)) ?_;refine aG (.pointer (aa ⟨bc,56,ag⟩)) ?_;refine aG (.pointer (aa ⟨bc,57,ag⟩)) ?_;refine rH S0 2 (.int .i64 t.au) bc 57 ?_;refine aG (.int .i64 co) ?_;refine aG (.int .i64 ho) ?_;refine aG (.agg #[.int .i64 kd,.int .i64 so,.int .i64 sq,.int .i64 t.au,.int .i64 co,.int .i64 ho]) ?_;refine fQ S0 (λb=>.pointer (aa ⟨b,0,ag⟩)) (.cells #[.int .i64 0,.int .i64 0,.int .i64 0,.int .i64 0,.int .i64 0,.int .i64 0] 64) ?_;intro dh jY fl;refine store_ fl 0 (.agg #[.int .i64 kd,.int .i64 so,.int .i64 sq,.int .i64 t.au,.int .i64 co,.int .i64 ho]) dh 0 ?_;intro HY Nt;refine bh (aZ (aW ?_));have eQ:St ms w0 ([⟨dh,af,.cells #[.int .i64 kd,.int .i64 so,.int .i64 sq,.int .i64 t.au,.int .i64 co,.int .i64 ho] 64 (0,0)⟩,⟨0,ah,.cells (aH .u32 64 c9) tG (0,0)⟩,⟨ez,af,.cells #[.pointer (aa ⟨bc,0,ag⟩),.slice xs ns cs,.slice x n c] 135 (0,0)⟩,⟨bc,af,.cells (tY p ka kn kc t bq D bt sa be mo mb pt hd) 131 (0,0)⟩]++(bl++bs)) HY:=Nt.re (R:=bs) [[⟨dh,af,.cells #[.int .i64 kd,.int .i64 so,.int .i64 sq,.int .i64 t.au,.int .i64 co,.int .i64 ho] 64 (0,0)⟩],[⟨0,ah,.cells (aH .u32 64 c9) tG (0,0)⟩],[⟨ez,af,.cells #[.pointer (aa ⟨bc,0,ag⟩),.slice xs ns cs,.slice x n c] 135 (0,0)⟩],[⟨bc,af,.cells (tY p ka kn kc t bq D bt sa be mo mb pt hd) 131 (0,0)⟩],bl] [0,1,2,3,4];have zD7:∀w',Ch ((bl).map av.id) HY w'->St ms w0 ([⟨dh,af,.cells #[.int .i64 kd,.int .i64 so,.int .i64 sq,.int .i64 t.au,.int .i64 co,.int .i64 ho] 64 (0,0)⟩,⟨0,ah,.cells (aH .u32 64 c9) tG (0,0)⟩,⟨ez,af,.cells #[.pointer (aa ⟨bc,0,ag⟩),.slice xs ns cs,.slice x n c] 135 (0,0)⟩,⟨bc,af,.cells (tY p ka kn kc t bq D bt sa be mo mb pt hd) 131 (0,0)⟩]++bs) w':=λ_ hc=>eQ.less (dk.wr hR) hc;refine ahE (T':=64) eQ hR 8 7 6 1 [.int .i64 kd,.int .i64 so,.int .i64 sq,.int .i64 t.au,.int .i64 co,.int .i64 ho] [] [.pointer (aa ⟨ez,0,ag⟩),.pointer (aa ⟨ez,0,ag⟩),.pointer (aa ⟨ez,0,ag⟩),.pointer (aa ⟨ez,2,ag⟩),.slice x n c,.agg #[.int .i64 kd,.int .i64 so,.int .i64 sq,.int .i64 t.au,.int .i64 co,.int .i64 ho],undef,undef] [[8,0],[8,1],[8,2],[8,3],[8,4],[8,5],[8,6],[8,7],[9,0],[9,1],[9,2],[9,3],[9,4],[9,5],[9,6],[9,7],[9,8],[10,0],[10,1],[10,2],[10,3],[10,4],[10,5],[10,6],[10,7],[10,9,8],[10,9]] (m9 D_ (m9 D_ (m9 D_ (m9 D_ (m9 (ZL zD7 2 ez 2) (m9 (GZ zD7 0 dh 0 6 #[.int .i64 kd,.int .i64 so,.int .i64 sq,.int .i64 t.au,.int .i64 co,.int .i64 ho]) (m9 (eB_ 1 [.int .i64 kd,.int .i64 so,.int .i64 sq,.int .i64 t.au,.int .i64 co,.int .i64 ho] 64) (m9 (eA_ eQ hR 31 33 6 1 [.int .i64 kd,.int .i64 so,.int .i64 sq,.int .i64 t.au,.int .i64 co,.int .i64 ho] 48 oM (by unfold maxLen;omega) (e':=64)) (QE))))))))) ?_;intro U9 U_ adb aAc S_ qQ qS;refine aG (.pointer (aa ⟨ez,0,ag⟩)) ?_;refine aG (.pointer (aa ⟨ez,2,ag⟩)) ?_;refine store_ qS 2 (.slice U9 (n+1) U_) ez 2 ?_;intro ES uZ;refine bh (aZ ?_);refine GU 13 [⟨0,λ_=>.pointer (aa ⟨ez,0,ag⟩),λ_=>[]⟩,⟨0,λ_=>.pointer (aa ⟨ez,0,ag⟩),λ_=>[]⟩,⟨0,λ_=>.pointer (aa ⟨ez,0,ag⟩),λ_=>[]⟩,⟨0,λ_=>.pointer (aa ⟨bc,0,ag⟩),λ_=>[]⟩,⟨0,λ_=>.pointer (aa ⟨ez,0,ag⟩),λ_=>[]⟩,⟨0,λ_=>.pointer (aa ⟨ez,0,ag⟩),λ_=>[]⟩,⟨0,λ_=>.pointer (aa ⟨ez,0,ag⟩),λ_=>[]⟩,⟨0,λ_=>.pointer (aa ⟨bc,0,ag⟩),λ_=>[]⟩,⟨0,λ_=>.pointer (aa ⟨bc,0,ag⟩),λ_=>[]⟩,⟨0,λ_=>.pointer (aa ⟨bc,114,ag⟩),λ_=>[]⟩,⟨0,λ_=>.agg (aH .u8 32 hd),λ_=>[]⟩,⟨0,λ_=>.agg #[.int .i64 kd,.int .i64 so,.int .i64 sq,.int .i64 t.au,.int .i64 co,.int .i64 ho],λ_=>[]⟩,⟨0,λ_=>.agg (aH .u8 32 (mf hd (⟨kd,so,sq,t.au,co,ho⟩:Rec))),λ_=>[]⟩] [[13,0],[13,1],[13,2],[13,3],[13,4],[13,5],[13,6],[13,7],[13,8],[13,9],[13,10],[13,11],[13,12],[14,0],[14,1],[14,2],[14,3],[14,4],[14,5],[14,6],[14,7],[14,8],[14,9],[14,10],[14,11],[14,12],[14,13],[15,0],[15,1],[15,2],[15,3],[15,4],[15,5],[15,6],[15,7],[15,8],[15,9],[15,10],[15,11],[15,12],[15,14,13],[15,14]] ?_ ?_
 ·refine step_cons m8 ?_;refine step_cons m8 ?_;refine step_cons m8 ?_;refine step_cons (ZJ uZ 2 ez 0) ?_;refine step_cons m8 ?_;refine step_cons m8 ?_;refine step_cons m8 ?_;refine step_cons (ZJ uZ 2 ez 0) ?_;refine step_cons m8 ?_;refine step_cons m8 ?_;refine step_cons (QB uZ 3 bc 114 32 (aH .u8 32 hd)) ?_;refine step_cons (QB uZ 0 dh 0 6 #[.int .i64 kd,.int .i64 so,.int .i64 sq,.int .i64 t.au,.int .i64 co,.int .i64 ho]) ?_;refine step_cons ?_ ?_
  ·intro ade ET aoD aAd adf;have SG:ade 47=.agg (aH .u8 32 hd):=(Sp.iy (adf 10 47 kR kR)).1;have AB:ade 48=.agg #[.int .i64 kd,.int .i64 so,.int .i64 sq,.int .i64 t.au,.int .i64 co,.int .i64 ho]:=(Sp.iy (adf 11 48 kR kR)).1;have yw:=uZ.quiet aoD;refine uF ?_;refine pE [(47,.agg (aH .u8 32 hd)),(48,.agg #[.int .i64 kd,.int .i64 so,.int .i64 sq,.int .i64 t.au,.int .i64 co,.int .i64 ho])] (rK SG (rK AB (uD))) ?_;have pZ:=yw.loc;refine Y.gH 28 #[.agg (aH .u8 32 hd),.agg #[.int .i64 kd,.int .i64 so,.int .i64 sq,.int .i64 t.au,.int .i64 co,.int .i64 ho]] ?_;refine(Ud hd (⟨kd,so,sq,t.au,co,ho⟩:Rec) _ (pZ.at_ 1 _ rfl)).mono ?_;rintro _ abw ⟨rfl,mM⟩;have HW:=pZ.quiet mM;exact⟨HW.ch,Sp.uE [] (all_nil)⟩
  exact GS
 intro sw MK MV sD;have MY:sw 0=.pointer (aa ⟨ez,0,ag⟩):=(Sp.iy (sD 0 kR)).1;have Tq:sw 1=.pointer (aa ⟨ez,0,ag⟩):=(Sp.iy (sD 1 kR)).1;have aoE:sw 2=.pointer (aa ⟨ez,0,ag⟩):=(Sp.iy (sD 2 kR)).1;have aoF:sw 3=.pointer (aa ⟨bc,0,ag⟩):=(Sp.iy (sD 3 kR)).1;have TD:sw 4=.pointer (aa ⟨ez,0,ag⟩):=(Sp.iy (sD 4 kR)).1;have Ts:sw 5=.pointer (aa ⟨ez,0,ag⟩):=(Sp.iy (sD 5 kR)).1;have SJ:sw 6=.pointer (aa ⟨ez,0,ag⟩):=(Sp.iy (sD 6 kR)).1;have aoG:sw 7=.pointer (aa ⟨bc,0,ag⟩):=(Sp.iy (sD 7 kR)).1;have Ia:sw 8=.pointer (aa ⟨bc,0,ag⟩):=(Sp.iy (sD 8 kR)).1;have Tr:sw 9=.pointer (aa ⟨bc,114,ag⟩):=(Sp.iy (sD 9 kR)).1;have SN:sw 10=.agg (aH .u8 32 hd):=(Sp.iy (sD 10 kR)).1;have aoH:sw 11=.agg #[.int .i64 kd,.int .i64 so,.int .i64 sq,.int .i64 t.au,.int .i64 co,.int .i64 ho]:=(Sp.iy (sD 11 kR)).1;have aoI:sw 12=.agg (aH .u8 32 (mf hd (⟨kd,so,sq,t.au,co,ho⟩:Rec))):=(Sp.iy (sD 12 kR)).1;have E5:=uZ.quiet MV;refine⟨[.pointer (aa ⟨ez,0,ag⟩),.pointer (aa ⟨ez,0,ag⟩),.pointer (aa ⟨ez,0,ag⟩),.pointer (aa ⟨bc,0,ag⟩),.pointer (aa ⟨ez,0,ag⟩),.pointer (aa ⟨ez,0,ag⟩),.pointer (aa ⟨ez,0,ag⟩),.pointer (aa ⟨bc,0,ag⟩),.pointer (aa ⟨bc,0,ag⟩),.pointer (aa ⟨bc,114,ag⟩),.agg (aH .u8 32 hd),.agg #[.int .i64 kd,.int .i64 so,.int .i64 sq,.int .i64 t.au,.int .i64 co,.int .i64 ho],.agg (aH .u8 32 (mf hd (⟨kd,so,sq,t.au,co,ho⟩:Rec)))],kR,iz MY (iz Tq (iz aoE (iz aoF (iz TD (iz Ts (iz SJ (iz aoG (iz Ia (iz Tr (iz SN (iz aoH (iz aoI (Lo))))))))))))),?_⟩;refine aG (.pointer (aa ⟨bc,0,ag⟩)) ?_;refine aG (.pointer (aa ⟨bc,114,ag⟩)) ?_;refine store_ E5 3 (.agg (aH .u8 32 (mf hd (⟨kd,so,sq,t.au,co,ho⟩:Rec)))) bc 114 ?_;intro aAe aoJ;refine bh ?_;refine end_ rfl (iI [] [] (.tuple #[]) trivial) ?_;exact⟨U9,U_,adb,rfl,aoB rl _▸qQ,aoJ.re (R:=bs) [[⟨dh,af,.cells #[.int .i64 kd,.int .i64 so,.int .i64 sq,.int .i64 t.au,.int .i64 co,.int .i64 ho] 64 (0,0)⟩],[⟨0,ah,.cells (aH .u32 64 c9) tG (0,0)⟩],[⟨ez,af,.cells #[.pointer (aa ⟨bc,0,ag⟩),.slice xs ns cs,.slice U9 (n+1) U_] 135 (0,0)⟩],[⟨bc,af,.cells (tY p ka kn kc t bq D bt sa be mo mb pt (mf hd (⟨kd,so,sq,t.au,co,ho⟩:Rec))) 131 (0,0)⟩],adb] [1,2,3,4]⟩
end
section
structure One where
 a:Sd.Ask
 came:Int
def gd:List One->Prop
 |[]=>True
 |[_]=>True
 |[x,y]=>x.a.cd<y.a.cd/\¬x.a.source=y.a.source
 |[x,y,z]=>(x.a.cd<y.a.cd/\x.a.cd<z.a.cd/\¬y.a.cd=z.a.cd)/\¬x.a.source=y.a.source/\¬x.a.source=z.a.source/\¬y.a.source=z.a.source
 |_=>False
def cI:List One->List Sd.Ask
 |[]=>[]
 |[x]=>[x.a]
 |[x,y]=>[x.a,y.a]
 |[x,y,z]=>if y.a.cd<z.a.cd then[x.a,y.a,z.a]else[x.a,z.a,y.a]
 |_=>[]
def aoK(t:One):Array aj:=#[.int .i64 t.a.source,.int .i64 t.a.cd,.int .i64 t.a.dJ.n,.int .i64 t.a.dJ.most,.int .u64 t.came]
def iT:List One->List aj
 |[]=>[]
 |e::es=>(aoK e).toList++iT es
def sE:List Sd.Ask->List aj
 |[]=>[]
 |e::es=>(M1 e).toList++sE es
def QS(bq:Nat)(most:Int)(L:List Sd.Ask)(bl:List av):Prop:=∃es x c came rows,bl=⟨bq,af,.cells #[.slice x es.length c,.int .i64 most,.int .u64 came] 170 (0,0)⟩::rows/\dk 5 190 (iT es) x es.length c rows/\gd es/\cI es=L
def va(e:One):List V:=[.int .i64 e.a.source,.int .i64 e.a.cd,.int .i64 e.a.dJ.n,.int .i64 e.a.dJ.most,.int .u64 e.came]
def qW(a:Sd.Ask):List V:=[.int .i64 a.source,.int .i64 a.cd,.int .i64 a.dJ.n,.int .i64 a.dJ.most]
def gA:List One->List V
 |[]=>[]
 |e::l=>va e++gA l
def eh(l:List One)(t:List aj):VB:=⟨af,⟨190,(0,0)⟩,gA l++[.rest t]⟩
def cL(v:V)(most came:Int):VB:=⟨af,⟨170,(0,0)⟩,[v,.int .i64 most,.int .u64 came]⟩
def yK(ae:List Nat):∀l:List One,ao ae (gA l)=iT l
 |[]=>rfl
 |a::l=>by rw[gA,kg,yK ae l];rfl
def Va:∀l:List One,(iT l).length=l.length*5
 |[]=>rfl
 |a::l=>by simp only[iT,fH,Va l,jv,oD];show 5+_=_;omega
def jd(n:Nat)(f:fG)(ak:List V)(bl:List VB)(K:VK Empty):Prop:=bz (gM du (λ_=>ag) ([]:List (bT Empty)) (HP du) MC) n f ak bl [] K
def Fl{n f n0:Nat}{ak:List V}{bl:List VB}{K:VK Empty}(h:jd n f ak bl (bG n0 K)){ae:List Nat}(hl:ae.length=bl.length)(hn:n0<=ae.length){bs:List av}{ms:List Nat}{w0 w:an}(S:St ms w0 (lits ae ae bl++bs) w):
 ba du f (aJ ae ak).toArray w λv w1=>∃x aq b,v=den (ae.take n0++aq) x/\(ae.take n0++aq).length=b.length/\St ms w0 (lits (ae.take n0++aq) (ae.take n0++aq) b++bs) w1/\K x b []:=by
 refine(eO (aK.nil (G:=Empty) (P:=du) (gl:=λ_=>ag)).T (aK.nil (G:=Empty) (P:=du) (gl:=λ_=>ag)).Q n (C:=gM du (λ_=>ag) ([]:List (bT Empty)) (HP du) MC) (ae:=ae) (bl:=bl) (ch:=[]) (R:=bs) Gl.no hl S h).mono ?_;rintro v w' ⟨y,aq,b9,ce,rfl,h1,S',hK⟩
 match ce,S',hK with
 |[],S',hK=>
  obtain⟨v2,cj,ci,e,cK,S2,hK⟩:=ig (n0:=n0) h1 (by simp;omega) S' hK;rw[List.take_append_of_le_length hn]at e cK S2;exact⟨v2,cj,ci,e,cK,S2,hK⟩
 |e::_,_,_=>nomatch e
def KP(most:Int)(y:V)(M:List Sd.Ask):VK Empty:=λx b _=>x=y/\∃es cm,gd es/\cI es=M/\((es=[]/\b=[cL (.raw (.slice ag 0 0)) most cm])\/∃c t,b=[cL (.sl 1 0 es.length c) most cm,⟨af,⟨190,(0,0)⟩,gA es++t⟩]/\bF 0 t=af/\es.length<=c/\cM (gA es++t)=c*5)
def adg{f:Nat}{ar:List V}{most came:Int}{y:V}{M:List Sd.Ask}{es:List One}{x:Option aF}{c bq:Nat}{rows bs:List av}{ms:List Nat}{w0 w:an}(hy:dg 0 y=af)(hr:dk 5 190 (iT es) x es.length c rows)
 (hz:es=[]->jd 90 f (.ptr 0 0::ar) [cL (.raw (.slice ag 0 0)) most came] (bG 1 (KP most y M)))
 (h:∀t,es.length<=c->cM (gA es++[.rest t])=c*5->jd 90 f (.ptr 0 0::ar) [cL (.sl 1 0 es.length c) most came,eh es t] (bG 1 (KP most y M)))
 (has:∀ae,aJ ae ar=aJ [] ar) (S:St ms w0 (⟨bq,af,.cells #[.slice x es.length c,.int .i64 most,.int .u64 came] 170 (0,0)⟩::(rows++bs)) w):
 ba du f (#[.pointer (aa ⟨bq,0,ag⟩)]++(aJ [] ar).toArray) w λv w1=>∃b9,v=den [] y/\QS bq most M b9/\St ms w0 (b9++bs) w1:=by
 have fin:∀ae:List Nat,(∃r,ae=bq::r)->ba du f (aJ ae (.ptr 0 0::ar)).toArray w (λv w1=>∃x aq b,v=den (ae.take 1++aq) x/\(ae.take 1++aq).length=b.length/\St ms w0 (lits (ae.take 1++aq) (ae.take 1++aq) b++bs) w1/\KP most y M x b [])->
  ba du f (#[.pointer (aa ⟨bq,0,ag⟩)]++(aJ [] ar).toArray) w λv w1=>∃b9,v=den [] y/\QS bq most M b9/\St ms w0 (b9++bs) w1:=by
  rintro ae ⟨r,rfl⟩ hg;have e0:(aJ (bq::r) (.ptr 0 0::ar)).toArray=#[.pointer (aa ⟨bq,0,ag⟩)]++(aJ [] ar).toArray:=by
   apply fP;simp only[aJ,den,has,GB];rfl
  rw[e0]at hg;refine hg.mono ?_;rintro v w1 ⟨v2,aq,b,rfl,hl,S1,rfl,dN,cm,hH,hA,hb⟩;simp only[List.take_succ_cons,Qe,xi]at hl S1⊢;have ey:den (bq::aq) v2=den [] v2:=gX (ae:=[]) (aq:=bq::aq) v2 hy;rcases hb with⟨rfl,rfl⟩|⟨c',t,rfl,ht,hc,hs⟩
  ·obtain rfl:aq=[]:=by simpa using hl
   exact⟨_,ey,⟨[],ag,0,cm,[],rfl,pF _ _,hH,hA⟩,S1⟩
  ·match aq,hl with
   |[b2],_=>
    have e1:ao [bq,b2] (gA dN++t)=iT dN++ao [] t:=by
     rw[kg,yK];exact congrArg _ (jI (ae:=[]) (aq:=[bq,b2]) t ht)
    have e2:lits [bq,b2] [bq,b2] [cL (.sl 1 0 dN.length c') most cm,⟨af,⟨190,(0,0)⟩,gA dN++t⟩]=⟨bq,af,.cells #[.slice (aa ⟨b2,0,ag⟩) dN.length c',.int .i64 most,.int .u64 cm] 170 (0,0)⟩::[⟨b2,af,.cells (iT dN++ao [] t).toArray 190 (0,0)⟩]:=by
     rw[<-e1];rfl
    rw[e2]at S1;refine⟨_,ey,⟨dN,aa ⟨b2,0,ag⟩,c',cm,_,rfl,⟨Va dN,hc,.inr ⟨b2,ao [] t,rfl,rfl,?_⟩⟩,hH,hA⟩,S1⟩;rw[<-e1,lW,hs]
 obtain⟨_,hle,ji⟩:=hr;rcases ji with⟨rfl,h0,rfl,rfl⟩|⟨b,t,rfl,rfl,dl⟩
 ·obtain rfl:es=[]:=kX h0;exact fin [bq] ⟨[],rfl⟩ (Fl (hz rfl) rfl sP S)
 ·have e3:lits [bq,b] [bq,b] [cL (.sl 1 0 es.length c) most came,eh es t]=⟨bq,af,.cells #[.slice (aa ⟨b,0,ag⟩) es.length c,.int .i64 most,.int .u64 came] 170 (0,0)⟩::[⟨b,af,.cells (iT es++t).toArray 190 (0,0)⟩]:=by
   simp only[lits,aI,eh,kg,yK,ao,cl,cy];rfl
  refine fin [bq,b] ⟨[b],rfl⟩ (Fl (h t hle ?_) rfl sP (by rw[e3];exact S));rw[<-lW (ae:=[]),kg,yK];simpa[ao,cl]using dl
def Fm(a b:One)(X Y:Prop):Prop:=cond (a.a.cd !=b.a.cd) (cond (decide (a.a.cd<b.a.cd)) X Y) (cond (decide (a.came<b.came)) X Y)
def AU(a b:One)(X Y:Prop):Prop:=cond (a.a.cd !=b.a.cd) (cond (!decide (a.a.cd<b.a.cd)) Y X) (cond (!decide (a.came<b.came)) Y X)
def CQ(s:Int)(qf:Nat->Prop)(IX:Prop):List One->Nat->Prop
 |[],_=>IX
 |e::l,i=>cond (e.a.source==s) (qf i) (CQ s qf IX l (i+1))
def Nu(k:List One->Prop):List One->Nat->Prop
 |[a,b],0=>k [b,a]
 |[a,b,c],0=>AU b c (k [b,c,a]) (k [c,b,a])
 |[a,b,c],1=>AU c a (k [c,a,b]) (k [a,c,b])
 |l,_=>k l
def IY(es:List One)(s:Int)(k:Bool->List One->Nat->Prop):Prop:=CQ s (λi=>Nu (λl=>k af l (es.length-1)) es i) (k ah es es.length) es 0
def Nv{a b:One}{X Y:Prop}(hr:¬a.a.cd=b.a.cd)(h1:a.a.cd<b.a.cd->X)(h2:b.a.cd<a.a.cd->Y):Fm a b X Y:=by
 unfold Fm;have e:(a.a.cd !=b.a.cd)=af:=by simpa using hr
 rw[e,cond_true];exact aN (λh=>h1 (of_decide_eq_true h)) λh=>h2 (by have:=of_decide_eq_false h;omega)
def Nw{a b:One}{X Y:Prop}(hr:¬a.a.cd=b.a.cd)(h1:a.a.cd<b.a.cd->X)(h2:b.a.cd<a.a.cd->Y):AU a b X Y:=by
 unfold AU;have e:(a.a.cd !=b.a.cd)=af:=by simpa using hr
 rw[e,cond_true];exact aN (λh=>h2 (by have:¬a.a.cd<b.a.cd:=by simpa using h
                                      omega)) λh=>h1 (by simpa using h)
def aoL(s:Int){k:Bool->List One->Nat->Prop}:∀{es:List One},gd es->(∀b l m,b=Sd.Q.waits (cI es) s->l.length=es.length->gd (l.take m)->cI (l.take m)=Sd.Q.drop (cI es) s->m<=es.length->k b l m)->IY es s k
 |[],hH,h=>h _ [] 0 rfl rfl trivial rfl sP
 |[a],hH,h=>by
  simp only[IY,CQ,Nu];refine aN (λh1=>h _ _ _ ?_ rfl ?_ ?_ ?_) (λh1=>h _ _ _ ?_ rfl ?_ ?_ ?_)<;>simp at h1<;>simp[cI,gd,Sd.Q.drop,Sd.Q.waits,h1]
 |[a,b],hH,h=>by
  simp only[IY,CQ,Nu];obtain⟨hr,hs⟩:=hH;have iJ:¬b.a.source=a.a.source:=λh=>hs h.symm;refine aN (λh1=>?_) (λh1=>aN (λh2=>?_) (λh2=>?_));all_goals
   refine h _ _ _ ?_ rfl ?_ ?_ ?_<;>clear h;all_goals (simp only[beq_iff_eq,beq_eq_false_iff_ne,ne_eq]at*;subst_vars;simp[cI,gd,Sd.Q.drop,Sd.Q.waits, *])
 |[a,b,c],hH,h=>by
  simp only[IY,CQ,Nu];obtain⟨⟨r1,r2,r3⟩,s1,s2,s3⟩:=hH;have s1':¬b.a.source=a.a.source:=λh=>s1 h.symm;have s2':¬c.a.source=a.a.source:=λh=>s2 h.symm;have s3':¬c.a.source=b.a.source:=λh=>s3 h.symm;have r4:b.a.cd<c.a.cd\/c.a.cd<b.a.cd:=oM;refine aN (λh1=>Nw r3 (λh4=>?_) (λh4=>?_)) (λh1=>aN (λh2=>Nw oM (λh4=>absurd h4 oM) (λh4=>?_)) (λh2=>aN (λh3=>?_) (λh3=>?_)));all_goals
   refine h _ _ _ ?_ rfl ?_ ?_ ?_<;>clear h;all_goals (rcases r4 with r4|r4<;>have r5:=Ld r4<;>simp only[beq_iff_eq,beq_eq_false_iff_ne,ne_eq]at*<;>subst_vars<;>simp[cI,gd,Sd.Q.drop,Sd.Q.waits, *]<;>omega)
 |_::_::_::_::_,hH,_=>absurd hH (by simp[gd])
def adh(x:One)(k:List One->Prop):List One->Prop
 |[]=>k [x]
 |[a]=>AU x a (k [x,a]) (k [a,x])
 |[a,b]=>AU x a (k [x,b,a]) (k [a,b,x])
 |[a,b,c]=>AU x b (AU x a (k [x,a,c,b]) (k [a,x,c,b])) (k [a,b,c,x])
 |_=>False
def aoM(x:One){k:List One->Prop}:∀{es:List One},gd es->es.length<3->(∀e∈cI es,¬e.source=x.a.source/\¬e.cd=x.a.cd)->(∀l,l.length=es.length+1->gd l->cI l=Sd.Q.insert (cI es) x.a->k l)->adh x k es
 |[],hH,_,_,h=>h _ rfl trivial rfl
 |[a],hH,_,hr,h=>by
  obtain⟨h1,h2⟩:=hr a.a (by simp[cI]);have Vb:¬x.a.source=a.a.source:=λh=>h1 h.symm;refine Nw oM (λh4=>h _ rfl ?_ ?_) (λh4=>h _ rfl ?_ ?_)<;>clear h<;>have h5:=Ld h4<;>have h6:=Int.le_of_lt h4<;>have h7:=Int.not_le.2 h4<;>simp[cI,gd,Sd.Q.insert,List.takeWhile,List.dropWhile, *]
 |[a,b],hH,_,hr,h=>by
  obtain⟨r1,s1⟩:=hH;obtain⟨h1,h2⟩:=hr a.a (by simp[cI]);obtain⟨g1,g2⟩:=hr b.a (by simp[cI]);have Vb:¬x.a.source=a.a.source:=λh=>h1 h.symm;have Nk:¬x.a.source=b.a.source:=λh=>g1 h.symm;have s1':¬b.a.source=a.a.source:=λh=>s1 h.symm;have r4:b.a.cd<x.a.cd\/x.a.cd<b.a.cd:=oM;refine Nw oM (λh4=>h _ rfl ?_ ?_) (λh4=>h _ rfl ?_ ?_)<;>clear h hr<;>rcases r4 with r4|r4<;>have r5:=Ld r4<;>have r6:=Int.le_of_lt r4<;>have r7:=Int.not_le.2 r4<;>have h5:=Ld h4<;>have h6:=Int.le_of_lt h4<;>have h7:=Int.not_le.2 h4<;>have r8:=Ld r1<;>
   simp[cI,gd,Sd.Q.insert,List.takeWhile,List.dropWhile, *]<;>omega
 |_::_::_::_,_,hl,_,_=>absurd hl sP
def adi(k:List One->Prop):List One->Prop
 |[a,b]=>Fm b a (k [b,a]) (k [a,b])
 |[a,b,c]=>Fm b a (S b a c) (S a b c)
 |l=>k l
where S (p q c:One):Prop:=Fm c q (Fm c p (k [c,p,q]) (k [p,c,q])) (k [p,q,c])
def aoN{k:List One->Prop}:∀{es:List One},gd es->(∀l,l.map (·.a)=cI es->l.length=es.length->k l)->adi k es
 |[],hH,h=>h _ rfl rfl
 |[a],hH,h=>h _ rfl rfl
 |[a,b],hH,h=>Nv (by obtain⟨r,_⟩:=hH;omega) (λh4=>absurd h4 (by obtain⟨r,_⟩:=hH;omega)) λ_=>h _ rfl rfl
 |[a,b,c],hH,h=>by
  obtain⟨⟨r1,r2,r3⟩,_⟩:=hH;refine Nv oM (λh4=>absurd h4 oM) λ_=>Nv oM (λh4=>Nv oM (λh5=>absurd h5 oM) λ_=>h _ ?_ rfl) λh4=>h _ ?_ rfl
  ·simp[cI,Ld h4]
  ·simp[cI,h4]
 |_::_::_::_::_,hH,_=>absurd hH (by simp[gd])
def IZ{most cm:Int}{y:V}{M:List Sd.Ask}{l:List One}{m c:Nat}{t:List aj}(hm:m<=l.length)(hc:l.length<=c)(hs:cM (gA l++[.rest t])=c*5)(hH:gd (l.take m))(hA:cI (l.take m)=M):KP most y M y [cL (.sl 1 0 m c) most cm,eh l t] []:=by
 have e1:(l.take m).length=m:=by rw[w9];omega
 have e2:∀a b:List One,gA (a++b)=gA a++gA b:=λa b=>by
  induction a with
  |nil=>rfl
  |cons x a ih=>simp only[fe,gA,ih,bZ]
 have e3:gA l++[.rest t]=gA (l.take m)++(gA (l.drop m)++[.rest t]):=by
  rw[<-bZ,<-e2,jR]
 have e4:∀l:List One,bF 0 (gA l++[.rest t])=af:=λl=>by
  induction l with
  |nil=>rfl
  |cons x l ih=>simp only[gA,va,fe,fu,bF,ih];rfl
 refine⟨rfl,l.take m,cm,hH,hA,.inr ⟨c,gA (l.drop m)++[.rest t],?_,e4 _,oM,by rw[<-e3];exact hs⟩⟩;rw[e1,<-e3];rfl
def yL(t:List aj):∀l:List One,cM (gA l++[.rest t])=l.length*5+t.length
 |[]=>by simp[gA,cM,LJ]
 |e::l=>by
  have:=yL t l;simp only[gA,va,fe,fu,cM,LJ,this,jv];omega
section
variable(e0 e1 e2:One)(n c:Nat)(t:List aj)(most came s:Int)(K:VK Empty)
def dK(l:List One):Prop:=IY l s λr l m=>K (.bool r) [cL (.sl 1 0 m c) most came,eh l t] []
def aoO:jd 90 103 [.ptr 0 0,.int .i64 s] [cL (.raw (.slice ag 0 0)) most came] (bG 1 K)=K (.bool ah) [cL (.raw (.slice ag 0 0)) most came] []:=kR
def aoP:jd 90 103 [.ptr 0 0,.int .i64 s] [cL (.sl 1 0 0 c) most came,eh [] t] (bG 1 K)=dK c t most came s K []:=kR
def aoQ:jd 90 103 [.ptr 0 0,.int .i64 s] [cL (.sl 1 0 [e0].length (c+[e0].length)) most came,eh [e0] t] (bG 1 K)=dK (c+[e0].length) t most came s K [e0]:=kR
def aoR:jd 90 103 [.ptr 0 0,.int .i64 s] [cL (.sl 1 0 [e0,e1].length (c+[e0,e1].length)) most came,eh [e0,e1] t] (bG 1 K)=dK (c+[e0,e1].length) t most came s K [e0,e1]:=kR
def aoS:jd 90 103 [.ptr 0 0,.int .i64 s] [cL (.sl 1 0 [e0,e1,e2].length (c+[e0,e1,e2].length)) most came,eh [e0,e1,e2] t] (bG 1 K)=dK (c+[e0,e1,e2].length) t most came s K [e0,e1,e2]:=kR
end
def aoT{c:Nat}{t:List aj}{most came s:Int}{K:VK Empty}:∀{es:List One},gd es->dK (c+es.length) t most came s K es->Hd (jd 90 103 [.ptr 0 0,.int .i64 s] [cL (.sl 1 0 es.length (c+es.length)) most came,eh es t] (bG 1 K))
 |[],_,h=>⟨by rw[K6,aoP];exact h⟩
 |[e0],_,h=>⟨by rw[aoQ];exact h⟩
 |[e0,e1],_,h=>⟨by rw[aoR];exact h⟩
 |[e0,e1,e2],_,h=>⟨by rw[aoS];exact h⟩
 |_::_::_::_::_,hH,_=>absurd hH (by simp[gd])
def aoU{es:List One}(hH:gd es){most came s:Int}{c:Nat}{t:List aj}(hc:es.length<=c)(hs:cM (gA es++[.rest t])=c*5):dK c t most came s (KP most (.bool (Sd.Q.waits (cI es) s)) (Sd.Q.drop (cI es) s)) es:=
 aoL s hH λb l m hb hl h1 h2 hm=>by
  subst hb;exact IZ oM oM (by rw[<-hs,yL,yL,hl]) h1 h2
def aoV{bq:Nat}{most:Int}{L:List Sd.Ask}{bl bs:List av}{ms:List Nat}{w0 w:an}(s:Int)(hQ:QS bq most L bl)(S0:St ms w0 (bl++bs) w):
 ba du 103 #[.pointer (aa ⟨bq,0,ag⟩),.int .i64 s] w λv w1=>∃b9,v=.bool (Sd.Q.waits L s)/\QS bq most (Sd.Q.drop L s) b9/\St ms w0 (b9++bs) w1:=by
 obtain⟨es,x,c,came,rows,rfl,hr,hH,rfl⟩:=hQ;refine adg (f:=103) (ar:=[.int .i64 s]) (y:=.bool (Sd.Q.waits (cI es) s)) rfl hr (λh0=>?_) (λt hc hs=>?_) (λ_=>rfl) S0
 ·subst h0;rw[aoO];exact⟨rfl,[],came,trivial,rfl,.inl ⟨rfl,rfl⟩⟩
 ·have h:=aoU hH (most:=most) (came:=came) (s:=s) hc hs;obtain⟨d,hd⟩:∃d,c=d+es.length:=⟨c-es.length,oM⟩;rw[hd]at h⊢;exact(aoT hH h).h
section
variable(e0 e1 e2:One)(a:Sd.Ask)(c:Nat)(t:List aj)(most came:Int)(K:VK Empty)
def pK(es:List One)(n c':Nat)(u:List aj):Prop:=adh ⟨a,came⟩ (λl=>K (.int .i64 0) [cL (.sl 1 0 n c') most (u64.wrap (came+1)),eh l u] []) es
def pX(es:List One):Prop:=CQ a.source (λ_=>K (.int .i64 27) [cL (.sl 1 0 es.length c) most came,eh es t] []) (cond (decide ((es.length:Int)>=most)) (K (.int .i64 3) [cL (.sl 1 0 es.length c) most came,eh es t] [])
 ((es.length<=c/\cM (gA es++[.rest t])=c*5)/\(∀(c':Nat)(u:List aj),es.length+1<=c'->cM (gA (es++[⟨a,came⟩])++[.rest u])=c'*5->pK a most came K es (es.length+1) c' u)/\
   (∀(c':Nat)(u:List aj),es.length+1<=c'->cM (gA (es++[⟨a,came⟩])++[.rest u])=c'*5->pK a most came K es (es.length+1) c' u))) es 0
def aoW:jd 90 217 [.ptr 0 0,.agg (qW a)] [cL (.raw (.slice ag 0 0)) most came] (bG 1 K)=cond (decide ((0:Int)>=most)) (K (.int .i64 3) [cL (.raw (.slice ag 0 0)) most came] [])
 (∀(c':Nat)(u:List aj),1<=c'->cM (gA [⟨a,came⟩]++[.rest u])=c'*5->pK a most came K [] 1 c' u):=kR
def aoX:jd 90 217 [.ptr 0 0,.agg (qW a)] [cL (.sl 1 0 0 0) most came,eh [] t] (bG 1 K)=cond (decide ((0:Int)>=most)) (K (.int .i64 3) [cL (.sl 1 0 0 0) most came,eh [] t] [])
 (∀(c':Nat)(u:List aj),1<=c'->cM (gA [⟨a,came⟩]++[.rest u])=c'*5->pK a most came K [] 1 c' u):=kR
def aoY:jd 90 217 [.ptr 0 0,.agg (qW a)] [cL (.sl 1 0 0 (c+1)) most came,eh [] t] (bG 1 K)=pX a (c+1) t most came K []:=kR
def aoZ:jd 90 217 [.ptr 0 0,.agg (qW a)] [cL (.sl 1 0 [e0].length c) most came,eh [e0] t] (bG 1 K)=pX a c t most came K [e0]:=kR
def ao0:jd 90 217 [.ptr 0 0,.agg (qW a)] [cL (.sl 1 0 [e0,e1].length c) most came,eh [e0,e1] t] (bG 1 K)=pX a c t most came K [e0,e1]:=kR
def ao1:jd 90 217 [.ptr 0 0,.agg (qW a)] [cL (.sl 1 0 [e0,e1,e2].length c) most came,eh [e0,e1,e2] t] (bG 1 K)=pX a c t most came K [e0,e1,e2]:=kR
end
def KS(n:Nat)(B:List VB)(M:List Sd.Ask):VK Empty:=λx b _=>∃l c u,x=.sl 2 0 n c/\b=B++[eh l u]/\l.map (·.a)=M/\l.length=n/\n<=c/\cM (gA l++[.rest u])=c*5
section
variable(e0 e1 e2:One)(c:Nat)(t:List aj)(most came:Int)(K:VK Empty)
def sX(es:List One):Prop:=∀(c':Nat)(u:List aj),es.length<=c'->cM (gA es++[.rest u])=c'*5->adi (λl=>K (.sl 2 0 es.length c') [cL (.sl 1 0 es.length c) most came,eh es t,eh l u] []) es
def ao2:jd 90 81 [.ptr 0 0] [cL (.raw (.slice ag 0 0)) most came] (bG 1 K)=K (.raw (.slice ag 0 0)) [cL (.raw (.slice ag 0 0)) most came] []:=kR
def ao3:jd 90 81 [.ptr 0 0] [cL (.sl 1 0 0 c) most came,eh [] t] (bG 2 K)=K (.sl 2 0 0 0) [cL (.sl 1 0 0 c) most came,eh [] t,⟨af,⟨190,(0,0)⟩,[]⟩] []:=kR
def ao4:jd 90 81 [.ptr 0 0] [cL (.sl 1 0 [e0].length (c+[e0].length)) most came,eh [e0] t] (bG 2 K)=sX (c+[e0].length) t most came K [e0]:=kR
def ao5:jd 90 81 [.ptr 0 0] [cL (.sl 1 0 [e0,e1].length (c+[e0,e1].length)) most came,eh [e0,e1] t] (bG 2 K)=sX (c+[e0,e1].length) t most came K [e0,e1]:=kR
def ao6:jd 90 81 [.ptr 0 0] [cL (.sl 1 0 [e0,e1,e2].length (c+[e0,e1,e2].length)) most came,eh [e0,e1,e2] t] (bG 2 K)=sX (c+[e0,e1,e2].length) t most came K [e0,e1,e2]:=kR
def mP(b:VB):VB:=⟨ah,b.ty,b.c⟩
def lb:List Sd.Ask->Sd.Ask×Int
 |[]=>(⟨0,0,⟨0,0⟩⟩,2)
 |a::_=>(a,0)
def hV(l:List Sd.Ask):V:=.aD [.agg (qW (lb l).1),.int .i64 (lb l).2]
def ao7:jd 30 227 [.ptr 0 0] [mP (cL (.raw (.slice ag 0 0)) most came)] (bG 0 K)=K (hV []) [] []:=kR
def ao8:jd 30 227 [.ptr 0 0] [mP (cL (.sl 1 0 0 c) most came),mP (eh [] t)] (bG 0 K)=K (hV []) [] []:=kR
def ao9:jd 30 227 [.ptr 0 0] [mP (cL (.sl 1 0 [e0].length c) most came),mP (eh [e0] t)] (bG 0 K)=K (hV [e0.a]) [] []:=kR
def ao_:jd 30 227 [.ptr 0 0] [mP (cL (.sl 1 0 [e0,e1].length c) most came),mP (eh [e0,e1] t)] (bG 0 K)=K (hV [e0.a]) [] []:=kR
def apa:jd 30 227 [.ptr 0 0] [mP (cL (.sl 1 0 [e0,e1,e2].length c) most came),mP (eh [e0,e1,e2] t)] (bG 0 K)=K (hV [e0.a]) [] []:=kR
end
def I0(n:Nat)(es:List One)(k0:Option aF->Nat->Prop)(k:Nat->List One->List aj->Prop):Prop:=match n with
 |0=>∀(x:Option aF)(c:Nat),k0 x c
 |1=>∀(a:One)(c:Nat)(t:List aj),[a.a]=cI es->k c [a] t
 |2=>∀(a b:One)(c:Nat)(t:List aj),[a.a,b.a]=cI es->k c [a,b] t
 |3=>∀(a b d:One)(c:Nat)(t:List aj),[a.a,b.a,d.a]=cI es->k c [a,b,d] t
 |_=>False
def Nx(n:Nat)(es:List One)(most came:Int):dm bD:=λak bl ch K=>match ak,bl,ch with
 |[.ptr 0 0],[b],[g1,g2,g]=>(b=cL g.v most came/\g.T=190/\g.z=5/\g.os=iT es/\g.n=es.length/\es.length=n/\gd es)/\I0 n es (λx c=>K (.raw (.slice x 0 c)) bl ch) (λc l t=>K (.sl 1 0 n c) (bl++[eh l t]) ch)
 |_,_,_=>False
def apps(r:bD)(dt:List aj)(k:bD->Prop):Prop:=(r.v=r.v/\r.n+1<=1000000)/\∀(xa:Option aF)(c:Nat)(bk:List av)(h:dk r.z r.T (r.os++dt) xa (r.n+1) c bk),k ⟨r.T,r.z,r.os++dt,xa,r.n+1,c,bk,h⟩
def yM(g:bD)(T z:Nat)(os:List aj)(n:Nat):Prop:=g.T=T/\g.z=z/\g.os=os/\g.n=n
def Vc:∀a b:List Sd.Ask,sE (a++b)=sE a++sE b
 |[],b=>rfl
 |x::a,b=>by simp only[fe,sE,Vc a b,bZ]
def Vd{r:bD}{dt:List aj}{k:bD->Prop}{T z n:Nat}{os:List aj}(h:yM r T z os n)(hn:n<100)(hk:∀r',yM r' T z (os++dt) (n+1)->k r'):apps r dt k:=by
 obtain⟨rfl,rfl,rfl,rfl⟩:=h;exact⟨⟨rfl,oM⟩,λxa c bk hh=>hk _ ⟨rfl,rfl,rfl,rfl⟩⟩
def Ve{es:List One}(h:gd es):(cI es).length=es.length/\es.length<=3:=by
 match es,h with
 |[],_=>simp[cI]
 |[x],_=>simp[cI]
 |[x,y],h=>simp[cI]
 |[x,y,z],h=>simp only[cI];split<;>simp
 |_::_::_::_::_,h=>exact absurd h (by simp[gd])
def apb{n:Nat}{es l:List One}{k0:Option aF->Nat->Prop}{k:Nat->List One->List aj->Prop}(h:I0 n es k0 k)(hl:l.length=n)(hm:l.map (·.a)=cI es):(n=0->∀x c,k0 x c)/\(0<n->∀c t,k c l t):=by
 match l,n,hl with
 |[],0,_=>exact⟨λ_=>h,λh=>oM⟩
 |[a],1,_=>exact⟨λh=>oM,λ_ c t=>h a c t hm⟩
 |[a,b],2,_=>exact⟨λh=>oM,λ_ c t=>h a b c t hm⟩
 |[a,b,d],3,_=>exact⟨λh=>oM,λ_ c t=>h a b d c t hm⟩
 |_::_::_::_::_,n+4,_=>exact h.elim
def adj{n:Nat}{es:List One}{k0:Option aF->Nat->Prop}{k:Nat->List One->List aj->Prop}(hn:n<=3)(h0:n=0->∀x c,k0 x c)(h:∀l c t,l.map (·.a)=cI es->l.length=n->k c l t):I0 n es k0 k:=by
 match n,hn with
 |0,_=>exact h0 rfl
 |1,_=>exact λa c t hm=>h [a] c t hm rfl
 |2,_=>exact λa b c t hm=>h [a,b] c t hm rfl
 |3,_=>exact λa b d c t hm=>h [a,b,d] c t hm rfl
def apc{c:Nat}{t:List aj}{most came:Int}{K:VK Empty}:∀{es:List One},gd es->0<es.length->sX (c+es.length) t most came K es->Hd (jd 90 81 [.ptr 0 0] [cL (.sl 1 0 es.length (c+es.length)) most came,eh es t] (bG 2 K))
 |[],_,h0,_=>absurd h0 sP
 |[e0],_,_,h=>⟨by rw[ao4];exact h⟩
 |[e0,e1],_,_,h=>⟨by rw[ao5];exact h⟩
 |[e0,e1,e2],_,_,h=>⟨by rw[ao6];exact h⟩
 |_::_::_::_::_,hH,_,_=>absurd hH (by simp[gd])
def apd{es:List One}{x:Option aF}{c bq:Nat}{most came:Int}{rows bs:List av}{ms:List Nat}{w0 w:an}(ji:dk 5 190 (iT es) x es.length c rows)(hH:gd es)
 (S0:St ms w0 (⟨bq,af,.cells #[.slice x es.length c,.int .i64 most,.int .u64 came] 170 (0,0)⟩::(rows++bs)) w):
 ba du 81 #[.pointer (aa ⟨bq,0,ag⟩)] w λv w1=>∃l xr cr rw,v=.slice xr es.length cr/\l.map (·.a)=cI es/\l.length=es.length/\(es.length=0\/dk 5 190 (iT l) xr es.length cr rw)/\St ms w0 (rw++(⟨bq,af,.cells #[.slice x es.length c,.int .i64 most,.int .u64 came] 170 (0,0)⟩::(rows++bs))) w1:=by
 obtain⟨_,hle,ji⟩:=ji;rcases ji with⟨rfl,h0,rfl,rfl⟩|⟨b,t,rfl,rfl,dl⟩
 ·obtain rfl:es=[]:=kX h0;refine(Fl (f:=81) (n:=90) (ak:=[.ptr 0 0]) (n0:=1) (K:=λx b _=>x=.raw (.slice ag 0 0)/\b=[cL (.raw (.slice ag 0 0)) most came]) (ae:=[bq]) (bl:=[cL (.raw (.slice ag 0 0)) most came]) (by rw[ao2];exact⟨rfl,rfl⟩) rfl sP S0).mono ?_;rintro v w1 ⟨x,aq,b,rfl,hl,S1,rfl,rfl⟩;obtain rfl:aq=[]:=by simpa using hl
  exact⟨[],ag,0,[],rfl,rfl,rfl,.inl rfl,S1⟩
 ·have e3:lits [bq,b] [bq,b] [cL (.sl 1 0 es.length c) most came,eh es t]=⟨bq,af,.cells #[.slice (aa ⟨b,0,ag⟩) es.length c,.int .i64 most,.int .u64 came] 170 (0,0)⟩::[⟨b,af,.cells (iT es++t).toArray 190 (0,0)⟩]:=by
   simp only[lits,aI,eh,kg,yK,ao,cl,cy];rfl
  have S1:St ms w0 (lits [bq,b] [bq,b] [cL (.sl 1 0 es.length c) most came,eh es t]++bs) w:=by rw[e3];exact S0
  rcases uu es.length with h0|h0
  ·obtain rfl:es=[]:=kX h0;refine(Fl (f:=81) (n:=90) (ak:=[.ptr 0 0]) (n0:=2) (K:=λx b _=>x=.sl 2 0 0 0/\b=[cL (.sl 1 0 0 c) most came,eh [] t,⟨af,⟨190,(0,0)⟩,[]⟩]) (ae:=[bq,b]) (by rw[show([]:List One).length=0 from rfl,ao3];exact⟨rfl,rfl⟩) rfl sP S1).mono ?_;rintro v w1 ⟨x,aq,b9,rfl,hl,S2,rfl,rfl⟩
   match aq,hl with
   |[b2],_=>
    refine⟨[],aa ⟨b2,0,ag⟩,0,[],rfl,rfl,rfl,.inl rfl,?_⟩;have e5:lits [bq,b,b2] [bq,b,b2] [cL (.sl 1 0 0 c) most came,eh [] t,⟨af,⟨190,(0,0)⟩,[]⟩]=[⟨bq,af,.cells #[.slice (aa ⟨b,0,ag⟩) 0 c,.int .i64 most,.int .u64 came] 170 (0,0)⟩,⟨b,af,.cells (iT []++t).toArray 190 (0,0)⟩]++[⟨b2,af,.cells #[] 190 (0,0)⟩]:=by
     simp only[fe,fu,lits,aI,eh,gA,iT,ao,cl,cy];rfl
    have e4:([bq,b].take 2++[b2]:List Nat)=[bq,b,b2]:=rfl;rw[e4,e5]at S2;have:=S2.sub (Zd (List.sublist_append_left [_,_] _) bs);exact this
  ·have cT:jd 90 81 [.ptr 0 0] [cL (.sl 1 0 es.length c) most came,eh es t] (bG 2 (KS es.length [cL (.sl 1 0 es.length c) most came,eh es t] (cI es))):=by
    have h:sX c t most came (KS es.length [cL (.sl 1 0 es.length c) most came,eh es t] (cI es)) es:=λc' u h1 h2=>aoN hH λl hm hl=>⟨l,c',u,rfl,rfl,hm,hl,h1,by rw[<-h2,yL,yL,hl]⟩;clear dl e3 S0 S1;obtain⟨d,hd⟩:∃d,c=d+es.length:=⟨c-es.length,oM⟩;rw[hd]at h⊢;exact(apc hH h0 h).h
   refine(Fl cT (ae:=[bq,b]) rfl sP S1).mono ?_;rintro v w1 ⟨x,aq,b9,rfl,hl,S2,l,c',u,rfl,rfl,hm,Ny,Ad,dr⟩
   match aq,hl with
   |[b2],_=>
    have e4:([bq,b].take 2++[b2]:List Nat)=[bq,b,b2]:=rfl;have e5:lits [bq,b,b2] [bq,b,b2] ([cL (.sl 1 0 es.length c) most came,eh es t]++[eh l u])=⟨bq,af,.cells #[.slice (aa ⟨b,0,ag⟩) es.length c,.int .i64 most,.int .u64 came] 170 (0,0)⟩::⟨b,af,.cells (iT es++t).toArray 190 (0,0)⟩::[⟨b2,af,.cells (iT l++u).toArray 190 (0,0)⟩]:=by
     simp only[fe,fu,lits,aI,eh,kg,yK,ao,cl,cy];rfl
    rw[e4,e5]at S2;refine⟨l,aa ⟨b2,0,ag⟩,c',[⟨b2,af,.cells (iT l++u).toArray 190 (0,0)⟩],rfl,hm,Ny,.inr ⟨by rw[Va,Ny],Ad,.inr ⟨b2,u,rfl,rfl,?_⟩⟩,?_⟩
    ·rw[<-dr,<-lW (ae:=[]),kg,yK];simp[ao,cl]
    ·exact S2.perm ((BA bs (List.perm_append_comm (l₁:=[_,_]) (l₂:=[_]))))
def adk(n:Nat)(es:List One)(most came:Int):Sound du (λ_=>ag) 81 (Nx n es most came):=by
 intro ak ae bl ch R ms w0 w K hg hl S hc;unfold Nx at hc;split at hc
 ·rename_i b g1 g2 g;obtain⟨⟨rfl,hT,hz,yN,hn,rfl,hH⟩,hK⟩:=hc
  match ae,hl with
  |[i],_=>
   have e1:lits [i] [i] [cL g.v most came]=[⟨i,af,.cells #[.slice g.x g.n g.c,.int .i64 most,.int .u64 came] 170 (0,0)⟩]:=rfl;have p1:∀(q:av)(A B D:List av),(([q]:List av)++(A++(B++(D++R)))).Perm (q::(D++(A++(B++R)))):=by
    intro q A B D;refine vJ q ?_;have:=rG (A++B) D R;simpa[bZ]using this
   rw[e1]at S;have S1:=S.perm (p1 _ g1.bl g2.bl g.bl);have hr:=g.h;rw[hT,hz,yN,hn]at hr;rw[hn]at S1;refine(apd hr hH S1).mono ?_;rintro v w1 ⟨l,xr,cr,rw_,rfl,hm,Ny,ji,S2⟩;obtain⟨k0,k1⟩:=apb hK Ny hm;rcases uu es.length with h0|h0
   ·refine⟨_,[],_,_,?_,rfl,?_,k0 h0 xr cr⟩
    ·simp only[den];rw[h0]
    ·have S3:=S2.sub (kM rw_ _);rw[<-hn]at S3;have S4:=S3.perm (p1 _ g1.bl g2.bl g.bl).symm;exact S4
   ·rcases ji with h|h
    ·omega
    ·obtain⟨_,_,h3⟩:=h;rcases h3 with⟨_,hz,_⟩|⟨b,t,hx,Vf,_⟩
     ·omega
     ·refine⟨_,[b],_,_,?_,rfl,?_,k1 h0 cr t⟩
      ·simp only[den];rw[hx];rfl
      ·rw[Vf,<-hn]at S2;have e2:lits ([i]++[b]) ([i]++[b]) ([cL g.v most came]++[eh l t])=[⟨i,af,.cells #[.slice g.x g.n g.c,.int .i64 most,.int .u64 came] 170 (0,0)⟩]++[⟨b,af,.cells (iT l++t).toArray 190 (0,0)⟩]:=by
        simp only[xi,lits,aI,eh,kg,yK,ao,cl,cy];rfl
       rw[e2];refine S2.perm ?_;refine(j8 _ (p1 _ g1.bl g2.bl g.bl).symm).trans ?_;rw[bZ];exact rG _ _ _
 ·exact hc.elim
def Vg{es:List One}(h:gd es)(x:Sd.Ask):x∈cI es↔∃e∈es,e.a=x:=by
 match es,h with
 |[],_=>simp[cI]
 |[a],_=>simp[cI,eq_comm]
 |[a,b],_=>simp[cI,eq_comm]
 |[a,b,d],_=>
  simp only[cI];split<;>simp[eq_comm];exact or_congr_right or_comm
 |_::_::_::_::_,h=>exact absurd h (by simp[gd])
def adl{s:Int}{qf:Nat->Prop}{IX:Prop}:∀{es:List One}{i:Nat},((∃e∈es,e.a.source=s)->∀i,qf i)->((∀e∈es,¬e.a.source=s)->IX)->CQ s qf IX es i
 |[],_,_,h2=>h2 sP
 |e::l,i,h1,h2=>aN (λh=>h1 ⟨e,sP,by simpa using h⟩ i) λh=>adl (λ⟨x,hx,hs⟩=>h1 ⟨x,by simp[hx],hs⟩) λhl=>h2 λx hx=>by
  rcases cG.1 hx with rfl|hx
  ·simpa using h
  ·exact hl x hx
def ape{es:List One}(hH:gd es){a:Sd.Ask}{most came:Int}{c:Nat}{t:List aj}(hm:most<=3)(hr:∀e∈cI es,e.source=a.source\/¬e.cd=a.cd)(hc:es.length<=c)(hs:cM (gA es++[.rest t])=c*5):
 pX a c t most came (KP most (.int .i64 (Sd.Q.push most (cI es) a).2) (Sd.Q.push most (cI es) a).1) es:=by
 obtain⟨Nz,oQ⟩:=Ve hH;have same:∀k:Int,Sd.Q.push most (cI es) a=(cI es,k)->KP most (.int .i64 (Sd.Q.push most (cI es) a).2) (Sd.Q.push most (cI es) a).1 (.int .i64 k) [cL (.sl 1 0 es.length c) most came,eh es t] []:=λk hk=>by
  rw[hk];exact IZ (cW _) hc hs (by rw[Le];exact hH) (by rw[Le])
 refine adl (λ⟨e,he,hse⟩ _=>same 27 ?_) λiL=>aN (λh=>same 3 ?_) λh=>?_
 ·have:Sd.Q.waits (cI es) a.source=af:=Bu.2 ⟨e.a,(Vg hH _).2 ⟨e,he,rfl⟩,by simpa using hse⟩;simp[Sd.Q.push,this]
 all_goals
  have hw:Sd.Q.waits (cI es) a.source=ah:=List.any_eq_false.2 λx hx=>by
   obtain⟨e,he,rfl⟩:=(Vg hH _).1 hx;simpa using iL e he
 ·have h':most<=((cI es).length:Int):=by rw[Nz];exact of_decide_eq_true h
  simp[Sd.Q.push,hw,h']
 ·have h':¬most<=(es.length:Int):=of_decide_eq_false h;have e1:Sd.Q.push most (cI es) a=(Sd.Q.insert (cI es) a,0):=by simp[Sd.Q.push,hw,Nz,h']
  rw[e1];have X:∀(c':Nat)(u:List aj),es.length+1<=c'->cM (gA (es++[⟨a,came⟩])++[.rest u])=c'*5->pK a most came (KP most (.int .i64 0) (Sd.Q.insert (cI es) a)) es (es.length+1) c' u:=λc' u h1 h2=>by
   refine aoM ⟨a,came⟩ hH oM (λe he=>?_) λl hl Vh hA'=>?_
   ·obtain⟨x,hx,rfl⟩:=(Vg hH _).1 he;exact⟨iL x hx,(hr _ he).resolve_left (iL x hx)⟩
   ·exact IZ oM oM (by rw[<-h2,yL,yL,hl,fH];rfl) (by rw[<-hl,Le];exact Vh) (by rw[<-hl,Le];exact hA')
  exact⟨⟨hc,hs⟩,X,X⟩
def adm{a:Sd.Ask}{most came:Int}(t:List aj){B:List VB}(hB:B=[cL (.raw (.slice ag 0 0)) most came]\/B=[cL (.sl 1 0 0 0) most came,eh [] t]/\t.length=0):
 cond (decide ((0:Int)>=most)) (KP most (.int .i64 (Sd.Q.push most (cI []) a).2) (Sd.Q.push most (cI []) a).1 (.int .i64 3) B [])
  (∀(c':Nat)(u:List aj),1<=c'->cM (gA [⟨a,came⟩]++[.rest u])=c'*5->pK a most came (KP most (.int .i64 (Sd.Q.push most (cI []) a).2) (Sd.Q.push most (cI []) a).1) [] 1 c' u):=by
 refine aN (λh=>?_) λh c' u h1 h2=>?_
 ·have h':most<=0:=of_decide_eq_true h;have e1:Sd.Q.push most (cI []) a=([],3):=by simp[Sd.Q.push,Sd.Q.waits,cI,h']
  rw[e1];rcases hB with rfl|⟨rfl,ht⟩
  ·exact⟨rfl,[],came,trivial,rfl,.inl ⟨rfl,rfl⟩⟩
  ·exact IZ (l:=[]) (cW _) (cW _) (by rw[yL,ht];rfl) trivial rfl
 ·have h':¬most<=0:=of_decide_eq_false h;have e1:Sd.Q.push most (cI []) a=([a],0):=by simp[Sd.Q.push,Sd.Q.waits,Sd.Q.insert,cI,h']
  rw[e1];exact IZ (l:=[⟨a,came⟩]) (m:=1) (cW _) h1 h2 trivial rfl
def apf{a:Sd.Ask}{t:List aj}{most came:Int}{K:VK Empty}:∀{es:List One}{c:Nat},gd es->0<es.length+c->pX a c t most came K es->Hd (jd 90 217 [.ptr 0 0,.agg (qW a)] [cL (.sl 1 0 es.length c) most came,eh es t] (bG 1 K))
 |[],0,_,h0,_=>absurd h0 sP
 |[],c+1,_,_,h=>⟨by rw[K6,aoY];exact h⟩
 |[e0],_,_,_,h=>⟨by rw[aoZ];exact h⟩
 |[e0,e1],_,_,_,h=>⟨by rw[ao0];exact h⟩
 |[e0,e1,e2],_,_,_,h=>⟨by rw[ao1];exact h⟩
 |_::_::_::_::_,_,hH,_,_=>absurd hH (by simp[gd])
def apg{bq:Nat}{most:Int}{L:List Sd.Ask}{bl bs:List av}{ms:List Nat}{w0 w:an}(a:Sd.Ask)(hQ:QS bq most L bl)(hm:most<=3)(hr:∀e∈L,e.source=a.source\/¬e.cd=a.cd)(S0:St ms w0 (bl++bs) w):
 ba du 217 #[.pointer (aa ⟨bq,0,ag⟩),.agg (M1 a)] w λv w1=>∃b9,v=.int .i64 (Sd.Q.push most L a).2/\QS bq most (Sd.Q.push most L a).1 b9/\St ms w0 (b9++bs) w1:=by
 obtain⟨es,x,c,came,rows,rfl,gi,hH,rfl⟩:=hQ;refine adg (f:=217) (ar:=[.agg (qW a)]) (y:=.int .i64 (Sd.Q.push most (cI es) a).2) rfl gi (λh0=>?_) (λt hc hs=>?_) (λ_=>rfl) S0
 ·subst h0;rw[aoW];exact adm [] (.inl rfl)
 ·rcases uu (es.length+c)with h0|h0
  ·obtain rfl:es=[]:=kX oM;obtain rfl:c=0:=by simpa using h0
   rw[K6,aoX];exact adm t (.inr ⟨rfl,by rw[yL]at hs;simpa using hs⟩)
  ·exact(apf hH h0 (ape hH (came:=came) hm hr hc hs)).h
def aph{c:Nat}{t:List aj}{most came:Int}{K:VK Empty}:∀{es:List One},gd es->K (hV (cI es)) [] []->Hd (jd 30 227 [.ptr 0 0] [mP (cL (.sl 1 0 es.length c) most came),mP (eh es t)] (bG 0 K))
 |[],_,h=>⟨by rw[K6,ao8];exact h⟩
 |[e0],_,h=>⟨by rw[ao9];exact h⟩
 |[e0,e1],_,h=>⟨by rw[ao_];exact h⟩
 |[e0,e1,e2],_,h=>⟨by
  have e:hV (cI [e0,e1,e2])=hV [e0.a]:=by simp only[cI];split<;>rfl
  rw[e]at h;rw[apa];exact h⟩
 |_::_::_::_::_,hH,_=>absurd hH (by simp[gd])
def api{bq:Nat}{most:Int}{L:List Sd.Ask}{bl bs:List av}{ms:List Nat}{w0 w:an}(hQ:QS bq most L bl)(S0:St ms w0 (bl++bs) w):
 ba du 227 #[.pointer (aa ⟨bq,0,ag⟩)] w λv w1=>v=.tuple #[.agg (M1 (lb L).1),.int .i64 (lb L).2]/\Ch [] w w1:=by
 obtain⟨es,x,c,came,rows,rfl,⟨_,hle,ji⟩,hH,rfl⟩:=hQ;have hq:=S0.at' (x:=⟨bq,af,.cells #[.slice x es.length c,.int .i64 most,.int .u64 came] 170 (0,0)⟩) sP;have fin:∀{ae:List Nat}{bl:List VB},(∃r,ae=bq::r)->ae.length=bl.length->jd 30 227 [.ptr 0 0] bl (bG 0 λv b _=>v=hV (cI es))->St [] w (lits ae ae bl++[]) w->ba du 227 #[.pointer (aa ⟨bq,0,ag⟩)] w λv w1=>v=.tuple #[.agg (M1 (lb (cI es)).1),.int .i64 (lb (cI es)).2]/\Ch [] w w1:=by
  rintro ae bl ⟨r,rfl⟩ hl h S;refine(Fl h hl sP S).mono ?_;rintro v w1 ⟨v2,aq,b,rfl,_,S1,rfl⟩;exact⟨rfl,S1.ch⟩
 rcases ji with⟨rfl,h0,rfl,rfl⟩|⟨b,t,rfl,rfl,dl⟩
 ·obtain rfl:es=[]:=kX h0;exact fin (ae:=[bq]) (bl:=[mP (cL (.raw (.slice ag 0 0)) most came)]) ⟨[],rfl⟩ rfl (by rw[ao7];rfl) (St.given [(bq,_)] (by intro p hp;simp only[jS]at hp;subst hp;exact hq))
 ·have hb:=S0.at' (x:=⟨b,af,.cells (iT es++t).toArray 190 (0,0)⟩) sP;have e3:ao [bq,b] (gA es++[.rest t])=iT es++t:=by rw[kg,yK];simp[ao,cl]
  have S:St [] w (lits [bq,b] [bq,b] [mP (cL (.sl 1 0 es.length c) most came),mP (eh es t)]++[]) w:=
   St.given [(bq,.cells (ao [bq,b] [.sl 1 0 es.length c,.int .i64 most,.int .u64 came]).toArray 170 (0,0)),(b,.cells (ao [bq,b] (gA es++[.rest t])).toArray 190 (0,0))] (by
    intro p hp;simp only[cG,py,or_false]at hp;rcases hp with rfl|rfl
    ·exact hq
    ·rw[e3];exact hb)
  exact fin ⟨[b],rfl⟩ rfl (aph hH rfl).h S
def NA(most came:Int)(gq g2:bD)(K:VK bD):List One->List VB->bD->Prop
 |[],j,g1=>K g1.v (cL gq.v most came::j) [g1,g2,gq]
 |e::l,j,g1=>apps g1 (ao [] (qW e.a)) λg1=>NA most came gq g2 K l (j++[⟨af,⟨190,(0,0)⟩,va e⟩,⟨af,⟨147,(0,0)⟩,qW e.a⟩]) g1
def I1(n:Nat)(most came:Int)(gq:bD)(es:List One)(K:VK bD):Prop:=
 (cL gq.v most came=cL gq.v most came/\gq.T=190/\gq.z=5/\gq.os=iT es/\gq.n=es.length/\es.length=n/\gd es)/\I0 n es (λx c=>NA most came gq (.nil 190 5) K [] [] (.nil 147 4)) (λc l t=>NA most came gq (.nil 190 5) K l [eh l t] (.nil 147 4))
section
variable(most came:Int)(gq:bD)(es:List One)(K:VK bD)
abbrev LL(n:Nat)(es:List One)(most came:Int):List (bT bD):=[⟨81,ah,Nx n es most came⟩]
def apj:bz (nh du (λ_=>ag) (LL 0 es most came)) 60 60 [.ptr 0 0] [cL gq.v most came] [.nil 147 4,.nil 190 5,gq] K=I1 0 most came gq es K:=kR
def apk:bz (nh du (λ_=>ag) (LL 1 es most came)) 60 60 [.ptr 0 0] [cL gq.v most came] [.nil 147 4,.nil 190 5,gq] K=I1 1 most came gq es K:=kR
def apl:bz (nh du (λ_=>ag) (LL 2 es most came)) 60 60 [.ptr 0 0] [cL gq.v most came] [.nil 147 4,.nil 190 5,gq] K=I1 2 most came gq es K:=kR
def apm:bz (nh du (λ_=>ag) (LL 3 es most came)) 60 60 [.ptr 0 0] [cL gq.v most came] [.nil 147 4,.nil 190 5,gq] K=I1 3 most came gq es K:=kR
end
def KL(most came:Int)(gq g2:bD)(M:List Sd.Ask):VK bD:=λv bl ch=>∃(j:List VB)(g1:bD),v=g1.v/\bl=cL gq.v most came::j/\ch=[g1,g2,gq]/\yM g1 147 4 (sE M) M.length
def Vi(most came:Int)(gq g2:bD){M:List Sd.Ask}:∀(l:List One)(j:List VB)(g1:bD)(G:List Sd.Ask),yM g1 147 4 (sE G) G.length->G.length+l.length<100->G++l.map (·.a)=M->NA most came gq g2 (KL most came gq g2 M) l j g1
 |[],j,g1,G,h1,_,hM=>⟨j,g1,rfl,rfl,rfl,by rw[<-hM];simpa using h1⟩
 |e::l,j,g1,G,h1,l1,hM=>by
  simp only[jv]at l1;exact Vd h1 oM λr' hr=>Vi most came gq g2 l _ r' (G++[e.a]) (by rw[Vc,fH];exact hr) (by simp;omega) (by rw[<-hM];simp)
def apn{bq:Nat}{most:Int}{L:List Sd.Ask}{bl bs:List av}{ms:List Nat}{w0 w:an}(hQ:QS bq most L bl)(S0:St ms w0 (bl++bs) w):
 ba du 60 #[.pointer (aa ⟨bq,0,ag⟩)] w λv w1=>∃x c1 rows,v=.slice x L.length c1/\dk 4 147 (sE L) x L.length c1 rows/\St ms w0 (rows++(bl++bs)) w1:=by
 obtain⟨es,x,c,came,rows,rfl,hr,hH,rfl⟩:=hQ;obtain⟨Nz,oQ⟩:=Ve hH
 let gq:bD:=⟨190,5,iT es,x,es.length,c,rows,hr⟩
 have S1:St ms w0 (lits [bq] [bq] [cL gq.v most came]++ax [bD.nil 147 4,.nil 190 5,gq] bs) w:=by simpa[lits,ax,Bl.B,bD.nil,gq,aI,cL,bD.v,ao,cl,den]using S0
 have hA:I1 es.length most came gq es (KL most came gq (.nil 190 5) (cI es)):=
  ⟨⟨rfl,rfl,rfl,rfl,rfl,rfl,hH⟩,adj oQ (λh0 x c=>Vi most came gq _ [] [] _ [] ⟨rfl,rfl,rfl,rfl⟩ sP (by rw[kX h0];rfl)) (λl c t hm hl=>Vi most came gq _ l _ _ [] ⟨rfl,rfl,rfl,rfl⟩ (by simp;omega) (by simpa using hm))⟩
 have cT:bz (nh du (λ_=>ag) (LL es.length es most came)) 60 60 [.ptr 0 0] [cL gq.v most came] [.nil 147 4,.nil 190 5,gq] (KL most came gq (.nil 190 5) (cI es)):=by
  rcases(by omega:es.length=0\/es.length=1\/es.length=2\/es.length=3)with h|h|h|h<;>rw[h]at hA⊢
  ·rw[apj];exact hA
  ·rw[apk];exact hA
  ·rw[apl];exact hA
  ·rw[apm];exact hA
 have eg:aK du (λ_=>ag) (LL es.length es most came):=aK.cons ⟨adk _ es most came,λe=>by cases e⟩ aK.nil;refine(eO eg.TR eg.QR 60 (C:=nh du (λ_=>ag) (LL es.length es most came)) (ak:=[.ptr 0 0]) (λg i h=>by cases h) rfl S1 cT).mono ?_;rintro _ w' ⟨xx,aq,b9,ce,rfl,qg,S3,j,g1,rfl,rfl,rfl,t1,t2,t3,t4⟩;have kq:=g1.h;rw[t1,t2,t3,t4]at kq;refine⟨g1.x,g1.c,g1.bl,by simp only[bD.v,den];rw[t4],kq,?_⟩;have e1:lits ([bq]++aq) ([bq]++aq) (cL gq.v most came::j)=⟨bq,af,.cells #[.slice x es.length c,.int .i64 most,.int .u64 came] 170 (0,0)⟩::lits ([bq]++aq) aq j:=rfl;rw[e1]at S3;have S4:=S3.sub (bs':=⟨bq,af,.cells #[.slice x es.length c,.int .i64 most,.int .u64 came] 170 (0,0)⟩::(g1.bl++(rows++bs))) (by
  rw[fe];exact xn _ (kM _ _))
 exact S4.perm kY.symm
structure LK where
 ka:Nat->Option aF
 kn:Nat->Nat
 kc:Nat->Nat
 kf:Nat->Nat->Int
 bq:Nat
 tg:aP
 tc:aP
 most:Int
 px:Option aF
 pn:Nat
 pc:Nat
 pf:az
structure FD where
 k:LK
 q:List Sd.Ask
 bE:List (Int×aQ)
 aY:List Rec
inductive CR(fr:aQ->Nat×az):List (Int×aQ)->List aj->List av->Prop
 |nil:CR fr [] [] []
 |snoc {l bw bl} (h:CR fr l bw bl) (k:Int) (r:aQ) (x:Option aF) (c:Nat) (b:List av) (hb:ff 5 (fr r).1 (fr r).2 x c b):CR fr (l++[(k,r)]) (bw++[.int .i64 k,.slice x (fr r).1 c]) (bl++b)
structure bx(fr:aQ->Nat×az)(d:FD) where
 xs:Option aF
 cs:Nat
 xr:Option aF
 cr:Nat
 Bq:List av
 Br:List av
 Bs:List av
 Bf:List av
 Bk:List av
 so:List aj
 hq:QS d.k.bq d.k.most d.q Bq
 hr:dk 6 64 (gz d.aY) xr d.aY.length cr Br
 hs:dk 2 61 so xs d.bE.length cs Bs
 hf:CR fr d.bE so Bf
 hk:∃b0 b1 b2 b3 b4,Bk=b0++(b1++(b2++(b3++b4)))/\ff 5 (d.k.kn 0) (d.k.kf 0) (d.k.ka 0) (d.k.kc 0) b0/\ff 5 (d.k.kn 1) (d.k.kf 1) (d.k.ka 1) (d.k.kc 1) b1/\ff 5 (d.k.kn 2) (d.k.kf 2) (d.k.ka 2) (d.k.kc 2) b2/\ff 5 (d.k.kn 3) (d.k.kf 3) (d.k.ka 3) (d.k.kc 3) b3/\ff 5 d.k.pn d.k.pf d.k.px d.k.pc b4
variable{fr:aQ->Nat×az}
def bx.B{d:FD}(F:bx fr d):List av:=F.Br++(F.Bs++(F.Bf++(F.Bq++F.Bk)))
def bx.vs{d:FD}(F:bx fr d):aj:=.slice F.xs d.bE.length F.cs
def bx.vr{d:FD}(F:bx fr d):aj:=.slice F.xr d.aY.length F.cr
structure Gh(fr:aQ->Nat×az) where
 d:FD
 dx:Nat->fg
 sx:Nat->gL
 F:bx fr d
instance:Bl (Gh fr):=⟨λg=>g.F.B⟩
def r3{α:Type}(a b c:α)(f:Nat->α):Nat->α:=λj=>match j with|0=>a|1=>b|2=>c|j+3=>f (j+3)
def NB{α:Type}(f:Nat->α):r3 (f 0) (f 1) (f 2) f=f:=by funext j;match j with|0=>rfl|1=>rfl|2=>rfl|j+3=>rfl
structure CC where
 p:aX
 ka:Nat->Option aF
 kn:Nat->Nat
 kc:Nat->Nat
 t:Sd.Tok
 vq:aj
 d0:fg
 d1:fg
 d2:fg
 it:Nat
 sa:Int
 be:Int
 mo:Int
 mb:Label
 pt:fC
 hd:Nat->Int
def CS(x:CC):List V:=[.fi x.p x.ka x.kn x.kc,.int .i64 x.t.aS,.int .i64 x.t.au,.int .i64 x.t.offer,.int .i64 x.t.oa.n,.int .i64 x.t.oa.most,.int .i64 x.t.la.n,.int .i64 x.t.la.most,.bool x.t.bad,.raw x.vq,
 .int .i64 x.d0.many,.bool x.d0.jG,.cu .u8 8 x.d0.aR,.int .i64 x.d1.many,.bool x.d1.jG,.cu .u8 8 x.d1.aR,.int .i64 x.d2.many,.bool x.d2.jG,.cu .u8 8 x.d2.aR,.ptr x.it 0,.int .i64 x.sa,.int .i64 x.be,.int .i64 x.mo,
 .int .i64 x.mb.na,.int .i64 x.mb.source,.int .i64 x.mb.seq,.int .i64 x.pt.cls,.int .i64 x.pt.bC.a,.int .i64 x.pt.bC.b,.int .i64 x.pt.bC.c,.int .i64 x.pt.bC.d,.int .i64 x.pt.now.a,.int .i64 x.pt.now.b,.int .i64 x.pt.now.c,.int .i64 x.pt.now.d,
 .int .i64 x.pt.ct.na,.int .i64 x.pt.ct.source,.int .i64 x.pt.ct.seq,.cu .u8 32 x.hd]
def CT:List V->Option CC
 |.fi p ka kn kc::.int .i64 t1::.int .i64 t2::.int .i64 t3::.int .i64 t4::.int .i64 t5::.int .i64 t6::.int .i64 t7::.bool t8::.raw vq::.int .i64 a1::.bool a2::.cu .u8 8 a3::.int .i64 b1::.bool b2::.cu .u8 8 b3::.int .i64 c1::.bool c2::.cu .u8 8 c3::.ptr it 0::.int .i64 sa::.int .i64 be::.int .i64 mo::.int .i64 l1::.int .i64 l2::.int .i64 l3::.int .i64 p1::.int .i64 p2::.int .i64 p3::.int .i64 p4::.int .i64 p5::.int .i64 p6::.int .i64 p7::.int .i64 p8::.int .i64 p9::.int .i64 q1::.int .i64 q2::.int .i64 q3::.cu .u8 32 hd::[]=>aa ⟨p,ka,kn,kc,⟨t1,t2,t3,⟨t4,t5⟩,⟨t6,t7⟩,t8⟩,vq,⟨a1,a2,a3⟩,⟨b1,b2,b3⟩,⟨c1,c2,c3⟩,it,sa,be,mo,⟨l1,l2,l3⟩,⟨p1,⟨p2,p3,p4,p5⟩,⟨p6,p7,p8,p9⟩,⟨q1,q2,q3⟩⟩,hd⟩
 |_=>ag
def I2{l:List V}{x:CC}(h:CT l=aa x):l=CS x:=by
 unfold CT at h;split at h
 ·obtain rfl:=cP h;rfl
 ·cases h
structure TC where
 s1:Bool
 sn:Int
 sm:Int
 s0:gL
 sa:gL
 sb:gL
 b:Int
 m:Int
def sG(x:gL):List V:=[.bool x.on,.int .i64 x.eo.n,.int .i64 x.eo.most,.int .i64 x.role,.cu .u8 32 x.key,.bool x.seen.any,.int .i64 x.seen.high,.int .u64 x.seen.seen]
def db(x:TC):List V:=.bool x.s1::.int .i64 x.sn::.int .i64 x.sm::(sG x.s0++(sG x.sa++(sG x.sb++[.int .i64 x.b,.int .i64 x.m])))
def tZ:List V->Option TC
 |[.bool s1,.int .i64 sn,.int .i64 sm,.bool a1,.int .i64 a2,.int .i64 a3,.int .i64 a4,.cu .u8 32 a5,.bool a6,.int .i64 a7,.int .u64 a8,.bool b1,.int .i64 b2,.int .i64 b3,.int .i64 b4,.cu .u8 32 b5,.bool b6,.int .i64 b7,.int .u64 b8,
  .bool c1,.int .i64 c2,.int .i64 c3,.int .i64 c4,.cu .u8 32 c5,.bool c6,.int .i64 c7,.int .u64 c8,.int .i64 b,.int .i64 m]=>aa ⟨s1,sn,sm,⟨a1,⟨a2,a3⟩,a4,a5,⟨a6,a7,a8⟩⟩,⟨b1,⟨b2,b3⟩,b4,b5,⟨b6,b7,b8⟩⟩,⟨c1,⟨c2,c3⟩,c4,c5,⟨c6,c7,c8⟩⟩,b,m⟩
 |_=>ag
def yO{l:List V}{x:TC}(h:tZ l=aa x):l=db x:=by
 unfold tZ at h;split at h
 ·obtain rfl:=cP h;rfl
 ·cases h
def gG(x:CC)(y:TC)(d:FD)(dx:Nat->fg)(sx:Nat->gL):ai:=
 ⟨⟨x.p,x.t,d.q,r3 x.d0 x.d1 x.d2 dx,⟨(y.s1,⟨y.sn,y.sm⟩),r3 y.s0 y.sa y.sb sx⟩,x.sa,x.be,x.mo,x.mb,x.pt,x.hd⟩,d.bE,d.aY⟩
def nr(k:LK)(it:Nat)(s:ai):CC:=⟨s.c.p,k.ka,k.kn,k.kc,s.c.t,.pointer (aa ⟨k.bq,0,ag⟩),s.c.doors 0,s.c.doors 1,s.c.doors 2,it,s.c.samples,s.c.beyond,s.c.mode,s.c.gW,s.c.pt,s.c.head⟩
def wA(s:ai):TC:=⟨s.c.ay.dv.1,s.c.ay.dv.2.n,s.c.ay.dv.2.most,s.c.ay.aE 0,s.c.ay.aE 1,s.c.ay.aE 2,s.c.p.da,s.c.p.jk⟩
def bd(k:LK)(s:ai):FD:=⟨k,s.c.q,s.bE,s.aY⟩
def cx(k:LK):VB:=⟨ah,k.tg,[.cu .u32 64 c9]⟩
def g_(k:LK):VB:=⟨ah,k.tc,[.bool ah,.bool ah,.bool ah,.bool ah,.bool ah,.bool ah,.bool ah,.bool ah,.bool ah,.bool ah,.bool af,.bool af]⟩
def vb(ic:Nat){d:FD}(F:bx fr d):VB:=⟨af,⟨135,(0,0)⟩,[.ptr ic 0,.raw F.vs,.raw F.vr]⟩
def fM(k:LK)(it:Nat)(s:ai):VB:=⟨af,⟨131,(0,0)⟩,CS (nr k it s)⟩
def fA(s:ai):VB:=⟨af,⟨181,(0,0)⟩,db (wA s)⟩
def bP(k:LK)(s:ai)(F:bx fr (bd k s)):List VB:=[cx k,g_ k,vb 3 F,fM k 4 s,fA s]
def bj(k:LK)(s:ai)(F:bx fr (bd k s)):Gh fr:=⟨bd k s,s.c.doors,s.c.ay.aE,F⟩
def gS:Nat->Option Nat
 |0=>aa 0
 |1=>aa 1
 |_=>ag
abbrev SK(fr:aQ->Nat×az)(k:LK):=V->(s:ai)->bx fr (bd k s)->Prop
abbrev SM(fr:aQ->Nat×az):=List V->(k:LK)->(s:ai)->bx fr (bd k s)->SK fr k->Prop
def yP(bl:List VB)(is ic it:Nat)(k:LK)(s:ai)(F:bx fr (bd k s)):List VB:=((bl.set is (vb ic F)).set ic (fM k it s)).set it (fA s)
def gO(M:SM fr):dm (Gh fr):=λak bl ch K=>match ak,ch with
 |.ptr is 0::ar,g::rest=>(match bl[is]?with
  |some ⟨af,⟨135,(0,0)⟩,[.ptr ic 0,.raw vs,.raw vr]⟩=>(match bl[ic]?with
   |some ⟨af,⟨131,(0,0)⟩,cc⟩=>(match CT cc with
    |some x=>(match bl[x.it]?with
     |some ⟨af,⟨181,(0,0)⟩,tc⟩=>(match tZ tc with
      |some y=>cond (bF 0 ar&&(dq 1 is&&(dq 1 ic&&(dq 1 x.it&&(!(aC is ic)&&(!(aC is x.it)&&!(aC ic x.it)))))))
       ((vs=g.F.vs/\vr=g.F.vr/\bl[0]?=aa (cx g.d.k)/\bl[1]?=aa (g_ g.d.k)/\x=nr g.d.k x.it (gG x y g.d g.dx g.sx)/\y.b=x.p.da/\y.m=x.p.jk/\x.p.queue=g.d.k.most)/\
         M ar g.d.k (gG x y g.d g.dx g.sx) g.F λv s' F'=>K v (yP bl is ic x.it g.d.k s' F') (bj g.d.k s' F'::rest)) False
      |none=>False)
     |_=>False)
    |none=>False)
   |_=>False)
  |_=>False)
 |_,_=>False
end
section
variable{fr:aQ->Nat×az}
def fp:VB:=⟨ah,⟨0,(0,0)⟩,[]⟩
def apo{ae:List Nat}:∀(is:List Nat)(bl:List VB),is.length=bl.length->lits ae is bl=(bg bl.length).map λj=>aI ae (is.getD j 0) (bl.getD j fp):=by
 intro is bl h;apply zN;intro j;by_cases hj:j<bl.length
 ·have hb:bl[j]?=aa bl[j]:=jh hj;rw[Rq is bl h hb,kA,pr hj];simp[gh,hb]
 ·rw[jA (by rw[Ac is bl h];omega),jA (by simp;omega)]
def Fo{bl:List VB}{ae:List Nat}(h:ae.length=bl.length){is:List Nat}(hn:is.Nodup)(dy:∀i∈is,i<bl.length):
 ∃r:List Nat,(∀j∈r,j∉is)/\∀b9:List VB,b9.length=bl.length->(lits ae ae b9).Perm (is.map (λj=>aI ae (ae.getD j 0) (b9.getD j fp))++r.map λj=>aI ae (ae.getD j 0) (b9.getD j fp)):=by
 obtain⟨r,hr⟩:=G2 is (bg bl.length) hn (λx hx=>List.mem_range.2 (dy x hx));refine⟨r,?_,?_⟩
 ·intro j hj hji;have wa:(is++r).Nodup:=hr.nodup_iff.1 List.nodup_range;rw[List.nodup_append]at wa;exact wa.2.2 j hji j hj rfl
 ·intro b9 hl;rw[apo ae b9 oM,hl,<-uw];exact hr.map _
def apq{bl:List VB}{ae r:List Nat}{a b c:Nat}{x y z:VB}(hr:∀j∈r,j≠a/\j≠b/\j≠c):
 (r.map λj=>aI ae (ae.getD j 0) ((((bl.set a x).set b y).set c z).getD j fp))=r.map λj=>aI ae (ae.getD j 0) (bl.getD j fp):=by
 apply mB;intro j hj;obtain⟨h1,h2,h3⟩:=hr j hj;simp only[gh,List.getElem?_set];rw[if_neg (Ne.symm h3),if_neg (Ne.symm h2),if_neg (Ne.symm h1)]
def lF{bl:List VB}{i:Nat}{b:VB}(h:bl[i]?=aa b):bl.getD i fp=b:=by simp[gh,h]
def jL{ae ids':List Nat}{n:Nat}{b:VB}(h:bF 0 b.c=af):aI ae n b=aI ids' n b:=by
 have e1:ao ae b.c=ao [] b.c:=by have:=jI (ae:=[]) (aq:=ae) b.c h;simpa using this
 have e2:ao ids' b.c=ao [] b.c:=by have:=jI (ae:=[]) (aq:=ids') b.c h;simpa using this
 unfold aI;rw[e1,e2]
abbrev cv(a b c:Nat):List Nat:=[0,1,a,b,c]
def apr{ae:List Nat}{ic a b c:Nat}(n:Nat){d:FD}(F:bx fr d)(h:ae.getD ic 0=b):aI ae n (vb ic F)=aI (cv a b c) n (vb 3 F):=by
 have e:(cv a b c).getD 3 0=b:=rfl;simp only[aI,vb,ao,cl,den,h,e]
def aps{ae:List Nat}{it a b c:Nat}(n:Nat){k:LK}{s:ai}(h:ae.getD it 0=c):aI ae n (fM k it s)=aI (cv a b c) n (fM k 4 s):=by
 have e:(cv a b c).getD 4 0=c:=rfl;simp only[aI,fM,CS,nr,ao,cl,den,h,e]
def Body(f:fG)(M:SM fr):Prop:=∀(ar:List V)(k:LK)(s:ai)(F:bx fr (bd k s))(Kb:SK fr k)(a b c:Nat)(R:List av)(ms:List Nat)(w0 w:an),bF 0 ar=af->s.c.p.queue=k.most->M ar k s F Kb->
 St ms w0 (lits (cv a b c) (cv a b c) (bP k s F)++(F.B++R)) w->
 ba du f (aJ (cv a b c) (.ptr 2 0::ar)).toArray w λv w'=>∃x s' F',v=den [] x/\dg 0 x=af/\s'.c.p=s.c.p/\Kb x s' F'/\St ms w0 (lits (cv a b c) (cv a b c) (bP k s' F')++(F'.B++R)) w'
def yQ(s:ai):bF 0 (fA s).c=af:=rfl
def CU(k:LK):bF 0 (cx k).c=af:=rfl
def Vj(k:LK):bF 0 (g_ k).c=af:=rfl
structure NC(ae:List Nat)(bl:List VB)(is ic it:Nat)(k:LK)(s:ai)(F:bx fr (bd k s)):Prop where
 h0:bl[0]?=aa (cx k)
 h1:bl[1]?=aa (g_ k)
 hs:bl[is]?=aa (vb ic F)
 hc:bl[ic]?=aa (fM k it s)
 ht:bl[it]?=aa (fA s)
def adn{ae:List Nat}{bl:List VB}{is ic it:Nat}{k:LK}{s:ai}{F:bx fr (bd k s)}(H:NC ae bl is ic it k s F)(hg:Gl gS ae):
 ([0,1,is,ic,it].map λj=>aI ae (ae.getD j 0) (bl.getD j fp))=lits (cv (ae.getD is 0) (ae.getD ic 0) (ae.getD it 0)) (cv (ae.getD is 0) (ae.getD ic 0) (ae.getD it 0)) (bP k s F):=by
 have g0:=(hg 0 0 rfl).2;have g1:=(hg 1 1 rfl).2;simp only[gx,List.map_nil,lF H.h0,lF H.h1,lF H.hs,lF H.hc,lF H.ht,g0,g1,bP,lits];rw[jL (ids':=cv (ae.getD is 0) (ae.getD ic 0) (ae.getD it 0)) (CU k),jL (ids':=cv (ae.getD is 0) (ae.getD ic 0) (ae.getD it 0)) (Vj k),jL (ids':=cv (ae.getD is 0) (ae.getD ic 0) (ae.getD it 0)) (yQ s),
  apr (a:=ae.getD is 0) (c:=ae.getD it 0) _ F rfl,aps (a:=ae.getD is 0) (b:=ae.getD ic 0) _ rfl]
def AV{bl:List VB}{i:Nat}{b:VB}(h:i<bl.length):(bl.set i b)[i]?=aa b:=by simp[h]
def oh{bl:List VB}{i j:Nat}{b:VB}(h:i≠j):(bl.set i b)[j]?=bl[j]?:=by rw[List.getElem?_set];simp[h]
def mj{bl:List VB}{i:Nat}{b:VB}(h:bl[i]?=aa b):i<bl.length:=by
 rcases di i bl.length with h'|h'
 ·exact h'
 ·simp[h']at h
def apt{ae:List Nat}{bl:List VB}{is ic it:Nat}{k:LK}{s:ai}{F:bx fr (bd k s)}(H:NC ae bl is ic it k s F)(h1:1<is)(h2:1<ic)(h3:1<it)(n1:is≠ic)(n2:is≠it)(n3:ic≠it){s':ai}(F':bx fr (bd k s')):
 NC ae (yP bl is ic it k s' F') is ic it k s' F':=by
 have l1:=mj H.hs;have l2:=mj H.hc;have l3:=mj H.ht;unfold yP;refine⟨?_,?_,?_,?_,?_⟩
 ·rw[oh oM,oh oM,oh oM];exact H.h0
 ·rw[oh oM,oh oM,oh oM];exact H.h1
 ·rw[oh oM,oh oM,AV l1]
 ·rw[oh oM,AV (by simpa using l2)]
 ·rw[AV (by simpa using l3)]
def apu{f:Nat}{M:SM fr}(h:Body f M):Sound du gS f (gO M):=by
 intro ak ae bl ch R ms w0 w K hg hl S hc;unfold gO at hc;split at hc
 ·rename_i is ar g rest;split at hc
  ·rename_i ic vs vr hs;split at hc
   ·rename_i cc vY;split at hc
    ·rename_i x hx;split at hc
     ·rename_i tc t_;split at hc
      ·rename_i y hy;cases hq:bF 0 ar&&(dq 1 is&&(dq 1 ic&&(dq 1 x.it&&(!(aC is ic)&&(!(aC is x.it)&&!(aC ic x.it))))))with
       |false=>rw[hq]at hc;exact hc.elim
       |true=>
        rw[hq]at hc;simp only[bJ,pj,jQ]at hq;obtain⟨q0,q1,q2,q3,q4,q5,q6⟩:=hq;have n1:is≠ic:=λe=>by rw[e,uv]at q4;cases q4
        have n2:is≠x.it:=λe=>by rw[e,uv]at q5;cases q5
        have n3:ic≠x.it:=λe=>by rw[e,uv]at q6;cases q6
        obtain⟨⟨e1,e2,e3,e4,e5,e6,e7,e8⟩,hM⟩:=hc;obtain rfl:=I2 hx;obtain rfl:=yO hy;subst e1 e2;have H:NC ae bl is ic x.it g.d.k (gG x y g.d g.dx g.sx) (show bx fr (bd g.d.k (gG x y g.d g.dx g.sx))from g.F):=by
         refine⟨e3,e4,hs,?_,?_⟩
         ·rw[vY];congr 1;unfold fM;rw[<-e5]
         ·rw[t_];congr 1;unfold fA;have:y=wA (gG x y g.d g.dx g.sx):=by
           obtain⟨y1,y2,y3,y4,y5,y6,y7,y8⟩:=y;simp only at e6 e7;subst e6 e7;rfl
          rw[<-this]
        have l1:=mj H.hs;have l2:=mj H.hc;have l3:=mj H.ht;obtain⟨r,hr,hp⟩:=Fo (bl:=bl) (ae:=ae) hl (is:=[0,1,is,ic,x.it]) (by simp;omega) (by
         intro i hi;simp only[cG,py,or_false]at hi;rcases hi with rfl|rfl|rfl|rfl|rfl<;>omega)
        have kJ:=hp bl rfl;rw[adn H hg]at kJ;have S1:=S.perm (bs':=lits (cv (ae.getD is 0) (ae.getD ic 0) (ae.getD x.it 0)) (cv (ae.getD is 0) (ae.getD ic 0) (ae.getD x.it 0)) (bP g.d.k (gG x y g.d g.dx g.sx) g.F)++(g.F.B++((r.map λj=>aI ae (ae.getD j 0) (bl.getD j fp))++ax rest R))) (by
         refine(kJ.append_right _).trans ?_;rw[bZ];refine j8 _ ?_;simp only[ax,<-bZ];exact BA _ List.perm_append_comm)
        have ve:=h ar g.d.k (gG x y g.d g.dx g.sx) g.F _ _ _ _ _ ms w0 w q0 e8 hM S1;have cN:aJ ae (.ptr is 0::ar)=aJ (cv (ae.getD is 0) (ae.getD ic 0) (ae.getD x.it 0)) (.ptr 2 0::ar):=by
         have a1:aJ ae ar=aJ [] ar:=by have:=pL (ae:=[]) (aq:=ae) ar q0;simpa using this
         have a2:aJ (cv (ae.getD is 0) (ae.getD ic 0) (ae.getD x.it 0)) ar=aJ [] ar:=by have:=pL (ae:=[]) (aq:=cv (ae.getD is 0) (ae.getD ic 0) (ae.getD x.it 0)) ar q0;simpa using this
         simp only[aJ,den,a1,a2];rfl
        rw[cN];refine ve.mono ?_;rintro v w' ⟨xv,s',F',rfl,hv,hpp,hK,S2⟩;refine⟨xv,[],yP bl is ic x.it g.d.k s' F',bj g.d.k s' F'::rest,?_,?_,?_,hK⟩
        ·have:=gX (ae:=[]) (aq:=ae++[]) xv hv;simpa using this.symm
        ·simp[yP,hl]
        ·have H':=apt H q1 q2 q3 n1 n2 n3 F';have vf:=hp (yP bl is ic x.it g.d.k s' F') (by simp[yP]);rw[adn H' hg]at vf;have I3:(r.map λj=>aI ae (ae.getD j 0) ((yP bl is ic x.it g.d.k s' F').getD j fp))=r.map λj=>aI ae (ae.getD j 0) (bl.getD j fp):=by
          unfold yP;refine apq ?_;intro j hj;have:=hr j hj;simp only[cG,py,or_false,not_or]at this;omega
         rw[I3]at vf;simp only[cy];refine S2.perm ?_;refine xm ?_ (vf.symm.append_right _);rw[bZ];refine j8 _ ?_;simp only[ax,<-bZ];exact BA _ List.perm_append_comm
      ·exact hc.elim
     ·exact hc.elim
    ·exact hc.elim
   ·exact hc.elim
  ·exact hc.elim
 ·exact hc.elim
def aO(tk:Nat->az->Option ca):aM:=⟨tk,λk s n=>kH k.1 k.2 s n,λk s r nc pf=>AJ k.1 k.2 s r nc pf,λk s r nc=>l_ k.1 k.2 s r nc,λk s n f=>n_ k s (n-8) f,mf,fU⟩
def cX(k:LK)(s:ai)(Kb:SK fr k):V->List VB->List (Gh fr)->Prop:=λv bl ch=>∃s' F',dg 0 v=af/\s'.c.p=s.c.p/\Kb v s' F'/\bl.take 5=bP k s' F'/\ch=[bj k s' F']
def mQ{f n:Nat}{M:SM fr}{L:List (bT (Gh fr))}(hL:aK du gS L)
 (h:∀(ar:List V)(k:LK)(s:ai)(F:bx fr (bd k s))(Kb:SK fr k),bF 0 ar=af->s.c.p.queue=k.most->M ar k s F Kb->bz (bU du gS L) n f (.ptr 2 0::ar) (bP k s F) [bj k s F] (cX k s Kb)):Body f M:=by
 intro ar k s F Kb a b c R ms w0 w h0 hq hM S;have hg:Gl gS (cv a b c):=by
  intro g i dz;unfold gS at dz;split at dz
  ·obtain rfl:=cP dz;exact⟨sP,rfl⟩
  ·obtain rfl:=cP dz;exact⟨sP,rfl⟩
  ·cases dz
 refine(eO hL.T hL.Q n (C:=bU du gS L) (ae:=cv a b c) (bl:=bP k s F) (ch:=[bj k s F]) (R:=R) (ms:=ms) (w0:=w0) (w:=w) hg rfl (by
  have e:ax [bj k s F] R=F.B++R:=rfl;rw[e];exact S) (h ar k s F Kb h0 hq hM)).mono ?_
 rintro v w' ⟨x,aq,b9,ce,rfl,h1,S',s',F',hv,hp,hK,hb,rfl⟩;have ev:den (cv a b c++aq) x=den [] x:=by have:=gX (ae:=[]) (aq:=cv a b c++aq) x hv;simpa using this
 refine⟨x,s',F',ev,hv,hp,hK,?_⟩;have hl5:(bP k s' F').length=5:=rfl;have qh:b9=bP k s' F'++b9.drop 5:=by rw[<-hb,jR]
 rw[qh]at S';have e2:lits (cv a b c++aq) (cv a b c++aq) (bP k s' F'++b9.drop 5)=lits (cv a b c) (cv a b c) (bP k s' F')++lits (cv a b c++aq) aq (b9.drop 5):=by
  rw[fw _ _ _ _ (by rw[hl5];rfl)];rw[fy (ae:=cv a b c) (aq:=aq) (cv a b c) (bP k s' F') rfl]
 rw[e2]at S';refine S'.sub ?_;have e3:ax [bj k s' F'] R=F'.B++R:=rfl;rw[e3,bZ];exact mV (kM _ _) _
def iH{f:Nat}{M:SM fr}(h:Body f M):wb du gS ⟨f,ah,gO M⟩:=⟨apu h,λe=>by cases e⟩
def bV(s:ai):ai:={s with c:={s.c with doors:=r3 (s.c.doors 0) (s.c.doors 1) (s.c.doors 2) s.c.doors,ay:=⟨s.c.ay.dv,r3 (s.c.ay.aE 0) (s.c.ay.aE 1) (s.c.ay.aE 2) s.c.ay.aE⟩}}
def nu(s:ai):bV s=s:=by
 unfold bV;rw[NB,NB]
def yR{k:LK}{s s':ai}{M:(s:ai)->bx fr (bd k s)->Prop}(e:s'=s)(F:bx fr (bd k s))(h:M s F)(hx:bd k s=bd k s':=by rfl):M s' (hx▸F):=by
 subst e;exact h
def nv{ar:List V}{k:LK}{s:ai}{M:SM fr}{F:bx fr (bd k s)}{K:SK fr k}(h:M ar k s F K):M ar k (bV s) F K:=yR (M:=λs F=>M ar k s F K) (nu s) F h
def jm(C:aM):SM fr:=λar k s F K=>match ar with
 |[.int .i64 kd,.int .i64 so,.int .i64 sq,.int .i64 co,.int .i64 ho]=>s.aY.length<=1000/\∀F',K (.aD []) (s.record C kd so sq co ho) F'
 |_=>False
def ado(r c s k t:av)(B X R:List av):([r,c,s,k,t]++((B++X)++R)).Perm ([r,s,k]++(B++(c::t::(X++R)))):=by
 refine vJ r ?_;have h1:(c::s::k::t::((B++X)++R)).Perm (s::k::c::t::((B++X)++R)):=
  (Bz s c _).trans (vJ s (Bz k c _))
 refine h1.trans (vJ s (vJ k ?_));have h2:([c,t]++(B++(X++R))).Perm (B++([c,t]++(X++R))):=by
  rw[<-bZ,<-bZ B];exact BA _ List.perm_append_comm
 simpa[bZ]using h2
def Vk{k:LK}{s:ai}(F:bx fr (bd k s)):F.B=F.Br++(F.Bs++(F.Bf++(F.Bq++F.Bk))):=rfl
def apv(tk:Nat->az->Option ca):Body (fr:=fr) 107 (jm (aO tk)):=by
 intro ar k s F Kb a b c R ms w0 w h0 hq hM S;unfold jm at hM;split at hM
 ·rename_i kd so sq co ho;obtain⟨hn,hK⟩:=hM;have e1:lits (cv a b c) (cv a b c) (bP k s F)=[⟨0,ah,.cells (aH .u32 64 c9) k.tg (0,0)⟩,aI (cv a b c) 1 (g_ k),⟨a,af,.cells #[.pointer (aa ⟨b,0,ag⟩),F.vs,F.vr] 135 (0,0)⟩,⟨b,af,.cells (tY s.c.p k.ka k.kn k.kc s.c.t k.bq s.c.doors c s.c.samples s.c.beyond s.c.mode s.c.gW s.c.pt s.c.head) 131 (0,0)⟩,aI (cv a b c) c (fA s)]:=kR;rw[e1,Vk]at S;have S1:=S.perm (ado _ _ _ _ _ _ _ _);have e2:(aJ (cv a b c) (.ptr 2 0::[.int .i64 kd,.int .i64 so,.int .i64 sq,.int .i64 co,.int .i64 ho])).toArray=#[.pointer (aa ⟨a,0,ag⟩),.int .i64 kd,.int .i64 so,.int .i64 sq,.int .i64 co,.int .i64 ho]:=kR;rw[e2];refine(aoC _ _ _ _ _ _ _ _ _ _ _ _ _ _ _ _ _ _ _ _ _ _ _ _ kd so sq co ho w S1 F.hr hn).mono ?_;rintro v w1 ⟨x1,c1,jX,rfl,kq,S2⟩;have hl:(s.record (aO tk) kd so sq co ho).aY.length=s.aY.length+1:=by simp[ai.record]
  have gi:dk 6 64 (gz (s.record (aO tk) kd so sq co ho).aY) x1 (s.record (aO tk) kd so sq co ho).aY.length c1 jX:=by rw[hl];exact kq
  let F':bx fr (bd k (s.record (aO tk) kd so sq co ho)):={F with xr:=x1,cr:=c1,Br:=jX,hr:=gi}
  refine⟨.aD [],_,F',rfl,rfl,rfl,hK F',?_⟩;have e3:lits (cv a b c) (cv a b c) (bP k (s.record (aO tk) kd so sq co ho) F')=[⟨0,ah,.cells (aH .u32 64 c9) k.tg (0,0)⟩,aI (cv a b c) 1 (g_ k),⟨a,af,.cells #[.pointer (aa ⟨b,0,ag⟩),F.vs,.slice x1 (s.record (aO tk) kd so sq co ho).aY.length c1] 135 (0,0)⟩,⟨b,af,.cells (tY s.c.p k.ka k.kn k.kc s.c.t k.bq s.c.doors c s.c.samples s.c.beyond s.c.mode s.c.gW s.c.pt (mf s.c.head ⟨kd,so,sq,s.c.t.au,co,ho⟩)) 131 (0,0)⟩,aI (cv a b c) c (fA s)]:=kR;rw[e3,Vk,hl];exact S2.perm (ado _ _ _ _ _ _ _ _).symm
 ·exact hM.elim
def cF(k:LK)(s:ai)(F:bx fr (bd k s)):Prop:=F.vs=F.vs/\F.vr=F.vr/\aa (cx k)=aa (cx k)/\aa (g_ k)=aa (g_ k)/\nr k 4 s=nr k 4 (bV s)/\s.c.p.da=s.c.p.da/\s.c.p.jk=s.c.p.jk/\s.c.p.queue=k.most
def cV{k:LK}{s:ai}{F:bx fr (bd k s)}(h:s.c.p.queue=k.most):cF k s F:=⟨rfl,rfl,rfl,rfl,rfl,rfl,rfl,h⟩
def L0(fr:aQ->Nat×az)(C:aM):List (bT (Gh fr)):=⟨107,ah,gO (jm C)⟩::qL (Gh fr) QV
def adp(tk:Nat->az->Option ca):aK du gS (L0 fr (aO tk)):=aK.cons (iH (apv tk)) (kG (AQ gS))
def sH(C:aM):SM fr:=λar k s F K=>match ar with
 |[.int .i64 l,.int .i64 co]=>s.aY.length<=1000/\∀F',K (.aD []) (s.jW C l co) F'
 |_=>False
def apw(C:aM)(k:LK)(s:ai)(F:bx fr (bd k s))(Kb:SK fr k)(l co:Int):bz (bU du gS (L0 fr C)) 40 89 [.ptr 2 0,.int .i64 l,.int .i64 co] (bP k s F) [bj k s F] (cX k s Kb)
 =(cF k s F/\jm C [.int .i64 1,.int .i64 l,.int .i64 0,.int .i64 co,.int .i64 0] k (bV s) F (λv s' F'=>cX k s Kb (.aD []) (bP k s' F') [bj k s' F'])):=kR
def apx(tk:Nat->az->Option ca):Body (fr:=fr) 89 (sH (aO tk)):=by
 refine mQ (n:=40) (adp tk) ?_;intro ar k s F Kb h0 hq hM;unfold sH at hM;split at hM
 ·rename_i l co;rw[apw];refine⟨cV hq,nv ⟨hM.1,λF'=>?_⟩⟩;exact⟨_,F',rfl,rfl,hM.2 F',rfl,rfl⟩
 ·exact hM.elim
end
section
def kK(L:List QF)(n:Nat)(f:fG)(ak:List V)(bl:List VB)(K:VK Empty):Prop:=bz (bU du (λ_=>ag) (qL Empty L)) n f ak bl [] K
def CV{L:List QF}(hL:bW du (λ_=>ag) L){n f:Nat}{ak:List V}{v:V}{c:List V}{T:BT}{bt:Nat}{w:an}(h:kK L n f ak [⟨ah,T,c⟩] λx _ _=>x=v)
 (hT:w.heap[bt]?=aa (.cells (ao [] c).toArray T.t T.fz)) (hc:bF 0 c=af) (hv:dg 1 v=af):ba du f (aJ [bt] ak).toArray w λx w1=>x=den [bt] v/\Ch [] w w1:=by
 have e1:ao [bt] c=ao [] c:=jI (ae:=[]) (aq:=[bt]) c hc;have S:=St.given (w:=w) [(bt,.cells (ao [bt] c).toArray T.t T.fz)] (by intro p hp;simp only[jS]at hp;subst hp;rw[e1];exact hT);refine(eO (kG hL).T (kG hL).Q n (C:=bU du (λ_=>ag) (qL Empty L)) (ae:=[bt]) (bl:=[⟨ah,T,c⟩]) (ch:=[]) (R:=[]) Gl.no rfl S h).mono ?_;rintro x w' ⟨y,aq,b9,ce,rfl,h1,S',rfl⟩;exact⟨gX (ae:=[bt]) _ hv,S'.ch⟩
def ND{L:List QF}(hL:bW du (λ_=>ag) L){n f:Nat}{ak:List V}{v:V}{B0:VB}{wr:Bool}{o:Obj}{bt:Nat}{bs:List av}{ms:List Nat}{w0 w:an}
 (h:kK L n f ak [B0] (bG 1 λx b _=>x=v/\∃B,b=[B]/\aI [0] 0 B=⟨0,wr,o⟩/\bF 0 B.c=af)) (hv:dg 0 v=af) (S:St ms w0 ([aI [bt] bt B0]++bs) w):
 ba du f (aJ [bt] ak).toArray w λy w1=>y=den [] v/\St ms w0 ([⟨bt,wr,o⟩]++bs) w1:=by
 refine(eO (kG hL).T (kG hL).Q n (C:=bU du (λ_=>ag) (qL Empty L)) (ae:=[bt]) (bl:=[B0]) (ch:=[]) (R:=bs) Gl.no rfl S h).mono ?_;rintro x w' ⟨y,aq,b9,ce,rfl,h1,S',hK⟩;obtain⟨v2,cj,ci,e,cK,S2,rfl,B,rfl,hB,hw⟩:=ig (n0:=1) h1 sP S' hK;have hm:cj=[]:=by simpa using cK
 subst hm;refine⟨by rw[e];exact gX (ae:=[]) _ hv,?_⟩;have q:aI [bt] bt B=aI [0] bt B:=jL hw;have q2:aI [0] bt B=⟨bt,wr,o⟩:=by
  unfold aI at hB⊢;simp only[av.mk.injEq]at hB⊢;exact⟨trivial,hB.2⟩
 have S3:St ms w0 ([aI [bt] bt B]++bs) w':=match ce,S2 with
  |[],S2=>S2
  |e::_,_=>nomatch e
 rw[q,q2]at S3;exact S3
def eA(t:aT):aT:=⟨t.dv,r3 (t.aE 0) (t.aE 1) (t.aE 2) λ_=>.zero⟩
def bQ(y:TC):aT:=⟨(y.s1,⟨y.sn,y.sm⟩),r3 y.s0 y.sa y.sb λ_=>.zero⟩
def CW(bl:List VB)(it:Nat):Option TC:=match bl[it]?with
 |some ⟨_,⟨181,(0,0)⟩,tc⟩=>tZ tc
 |_=>ag
def apy{ae:List Nat}{bl:List VB}{w:an}(hm:Mem ae bl w){it:Nat}{y:TC}(h:CW bl it=aa y):w.heap[ae.getD it 0]?=aa (.cells (kI (bQ y).dv (bQ y).aE y.b y.m) 181 (0,0)):=by
 unfold CW at h;split at h
 ·rename_i wr tc hb;obtain rfl:=yO h;have h1:=hm.2 it _ hb;have e:(ao ae (db y)).toArray=kI (bQ y).dv (bQ y).aE y.b y.m:=kR;rw[<-e];exact h1
 ·cases h
def wC(y:TC):Nat->gL
 |0=>y.s0
 |1=>y.sa
 |_=>y.sb
def CX:Int->Option Nat
 |.ofNat 1=>aa 0
 |.ofNat 2=>aa 1
 |.ofNat 3=>aa 2
 |_=>ag
def NF{s:Int}{i:Nat}(h:CX s=aa i):s=.ofNat (i+1)/\i<3:=by
 unfold CX at h;split at h<;>first|cases h;exact⟨rfl,oM⟩|cases h
def tE(b:Bool)(y:TC):List VB:=[⟨b,⟨181,(0,0)⟩,db y⟩]
def Vl{s:Int}(h:CX s=ag):s<1\/3<s:=by
 rcases(by omega:s=1\/s=2\/s=3\/s<1\/3<s)with rfl|rfl|rfl|h|h
 ·cases h
 ·cases h
 ·cases h
 ·exact .inl h
 ·exact .inr h
def Fp:QF:=⟨82,λak bl=>match ak with
 |[.ptr it 0,.int .i64 s]=>(match CW bl it with
  |some y=>(match CX s with
   |some i=>(match(wC y i).on with
    |true=>aa (True,.ptr it (3+39*i))
    |false=>aa (True,.raw (.pointer ag)))
   |none=>ag)
  |none=>ag)
 |_=>ag⟩
def yS:QF:=⟨82,λak bl=>match ak with
 |[.ptr it 0,.int .i64 s]=>aa (s<1\/3<s,.raw (.pointer ag))
 |_=>ag⟩
def adq(y:TC)(K:VK Empty):∀i:Nat,i<3->kK [] 30 82 [.ptr 0 0,.int .i64 (.ofNat (i+1))] (tE ah y) K=cond (!(wC y i).on) (K (.raw (.pointer ag)) (tE ah y) []) (K (.ptr 0 (3+39*i)) (tE ah y) [])
 |0,_=>kR
 |1,_=>kR
 |2,_=>kR
 |n+3,h=>absurd h oM
def apz(b:Nat)(s:Int)(X:V->Prop):eJ du [] 30 82 [.raw (.pointer (aa ⟨b,0,ag⟩)),.int .i64 s] X=cond (decide (s<1)) (X (.raw (.pointer ag))) (cond (decide (s>3)) (X (.raw (.pointer ag))) False):=kR
def NG{ae:List Nat}{bl:List VB}{w:an}(hm:Mem ae bl w){it:Nat}{y:TC}(h:CW bl it=aa y):w.heap[ae.getD it 0]?=aa (.cells (ao [] (db y)).toArray 181 (0,0)):=by
 rw[apy hm h];have e:(ao [] (db y)).toArray=kI (bQ y).dv (bQ y).aE y.b y.m:=kR;rw[e]
def apA(gl:Nat->Option Nat):Fp.Ok du gl:=by
 intro ak bl p_ v_ h hp ae w _ hm;unfold Fp at h;dsimp only at h;split at h
 ·rename_i it s;split at h
  ·rename_i y hy;have hT:=NG hm hy;split at h
   ·rename_i i hi;obtain⟨rfl,h3⟩:=NF hi;split at h
    ·rename_i ho;simp only[a_,bI]at h;obtain⟨rfl,rfl⟩:=h;refine told (CV bW.nil (n:=30) (ak:=[.ptr 0 0,.int .i64 (.ofNat (i+1))]) (v:=.ptr 0 (3+39*i)) (T:=⟨181,(0,0)⟩) ?_ hT rfl rfl);show kK [] 30 82 [.ptr 0 0,.int .i64 (.ofNat (i+1))] (tE ah y) _;rw[adq y _ i h3,ho];rfl
    ·rename_i ho;simp only[a_,bI]at h;obtain⟨rfl,rfl⟩:=h;refine told (CV bW.nil (n:=30) (ak:=[.ptr 0 0,.int .i64 (.ofNat (i+1))]) (v:=.raw (.pointer ag)) (T:=⟨181,(0,0)⟩) ?_ hT rfl rfl);show kK [] 30 82 [.ptr 0 0,.int .i64 (.ofNat (i+1))] (tE ah y) _;rw[adq y _ i h3,ho];rfl
   ·cases h
  ·cases h
 ·cases h
def apB(gl:Nat->Option Nat):yS.Ok du gl:=by
 intro ak bl p_ v_ h hp ae w _ hm;unfold yS at h;dsimp only at h;split at h
 ·rename_i it s;simp only[a_,bI]at h;obtain⟨rfl,rfl⟩:=h;refine told (Cn bW.nil 30 (ak:=[.raw (.pointer (aa ⟨ae.getD it 0,0,ag⟩)),.int .i64 s]) (v:=.raw (.pointer ag)) ?_ rfl rfl [] w);show eJ du [] 30 82 _ _;rw[apz];refine aN (λh=>rfl) (λh=>aN (λh=>rfl) λh'=>?_);simp only[decide_eq_false_iff_not]at h h';omega
 ·cases h
def Vm:bW du (λ_=>ag) [yS]:=bW.cons (apB _) bW.nil
def apC(y:TC)(K:VK Empty):∀i:Nat,i<3->kK [] 30 61 [.ptr 0 0,.int .i64 (.ofNat (i+1))] (tE ah y) K=cond (!(wC y i).on) (K (.bool ah) (tE ah y) []) (K (.bool af) (tE ah y) [])
 |0,_=>kR
 |1,_=>kR
 |2,_=>kR
 |n+3,h=>absurd h oM
def apD(y:TC)(s:Int)(K:VK Empty):kK [yS] 30 61 [.ptr 0 0,.int .i64 s] (tE ah y) K=cond (s==4) (K (.bool af) (tE ah y) []) (cond (s==0) (K (.bool y.s1) (tE ah y) []) ((s<1\/3<s)/\K (.bool ah) (tE ah y) [])):=kR
def apE(y:TC)(K:VK Empty):∀i:Nat,i<3->kK [] 30 62 [.ptr 0 0,.int .i64 (.ofNat (i+1))] (tE ah y) K=cond (!(wC y i).on) (K (.int .i64 0) (tE ah y) []) (K (.int .i64 (wC y i).role) (tE ah y) [])
 |0,_=>kR
 |1,_=>kR
 |2,_=>kR
 |n+3,h=>absurd h oM
def apF(y:TC)(s:Int)(K:VK Empty):kK [yS] 30 62 [.ptr 0 0,.int .i64 s] (tE ah y) K=((s<1\/3<s)/\K (.int .i64 0) (tE ah y) []):=kR
def NH(y:TC):∀i:Nat,i<3->(bQ y).iZ (.ofNat (i+1))=(wC y i).on
 |0,_=>rfl
 |1,_=>rfl
 |2,_=>rfl
 |n+3,h=>absurd h oM
def Vn(t:aT){s:Int}(h:s<1\/3<s):t.iZ s=ah:=by
 unfold aT.iZ;have:(decide (1<=s)&&decide (s<=3))=ah:=by simp;omega
 rw[this];rfl
def apG(y:TC):∀i:Nat,i<3->(bQ y).aE ((dS (i+1)).toNat-1)=wC y i
 |0,_=>rfl
 |1,_=>rfl
 |2,_=>rfl
 |n+3,h=>absurd h oM
def apH(y:TC):∀i:Nat,i<3->(bQ y).on (.ofNat (i+1))=(wC y i).on
 |0,_=>rfl
 |1,_=>rfl
 |2,_=>rfl
 |n+3,h=>absurd h oM
def apI(y:TC)(s:Int){bt:Nat}{w:an}(hT:w.heap[bt]?=aa (.cells (ao [] (db y)).toArray 181 (0,0))):ba du 61 (aJ [bt] [.ptr 0 0,.int .i64 s]).toArray w λx w1=>x=den [bt] (.bool ((bQ y).on s))/\Ch [] w w1:=by
 cases h:CX s with
 |some i=>
  obtain⟨rfl,h3⟩:=NF h;refine CV bW.nil (n:=30) (T:=⟨181,(0,0)⟩) ?_ hT rfl rfl;show kK [] 30 61 [.ptr 0 0,.int .i64 (.ofNat (i+1))] (tE ah y) _;rw[apC y _ i h3,apH y i h3];exact aN (λh=>by simp at h;rw[h]) (λh=>by simp at h;rw[h])
 |none=>
  have hs:=Vl h;refine CV Vm (n:=30) (T:=⟨181,(0,0)⟩) ?_ hT rfl rfl;show kK [yS] 30 61 [.ptr 0 0,.int .i64 s] (tE ah y) _;rw[apD];unfold aT.on;rw[Vn _ hs];refine aN (λh=>?_) (λh=>aN (λh'=>?_) λh'=>⟨hs,?_⟩)
  ·rw[if_pos (by simpa using h)]
  ·rw[if_neg (by simpa using h),if_pos (by simpa using h')];rfl
  ·rw[if_neg (by simpa using h),if_neg (by simpa using h')]
def apJ(y:TC)(s:Int){bt:Nat}{w:an}(hT:w.heap[bt]?=aa (.cells (ao [] (db y)).toArray 181 (0,0))):ba du 62 (aJ [bt] [.ptr 0 0,.int .i64 s]).toArray w λx w1=>x=den [bt] (.int .i64 ((bQ y).role s))/\Ch [] w w1:=by
 unfold aT.role;cases h:CX s with
 |some i=>
  obtain⟨rfl,h3⟩:=NF h;refine CV bW.nil (n:=30) (T:=⟨181,(0,0)⟩) ?_ hT rfl rfl;show kK [] 30 62 [.ptr 0 0,.int .i64 (.ofNat (i+1))] (tE ah y) _;rw[apE y _ i h3,NH y i h3,apG y i h3];exact aN (λh=>by simp at h;rw[h];rfl) (λh=>by simp at h;rw[h];rfl)
 |none=>
  have hs:=Vl h;refine CV Vm (n:=30) (T:=⟨181,(0,0)⟩) ?_ hT rfl rfl;show kK [yS] 30 62 [.ptr 0 0,.int .i64 s] (tE ah y) _;rw[apF,Vn _ hs];exact⟨hs,rfl⟩
def Vo:QF:=⟨61,λak bl=>match ak with
 |[.ptr it 0,.int .i64 s]=>(match CW bl it with|some y=>aa (True,.bool ((bQ y).on s))|none=>ag)
 |_=>ag⟩
def apL(gl:Nat->Option Nat):Vo.Ok du gl:=by
 intro ak bl p_ v_ h hp ae w _ hm;unfold Vo at h;dsimp only at h;split at h
 ·rename_i it s;split at h
  ·rename_i y hy;simp only[a_,bI]at h;obtain⟨rfl,rfl⟩:=h;exact told (apI y s (NG hm hy))
  ·cases h
 ·cases h
def Vp:QF:=⟨62,λak bl=>match ak with
 |[.ptr it 0,.int .i64 s]=>(match CW bl it with|some y=>aa (True,.int .i64 ((bQ y).role s))|none=>ag)
 |_=>ag⟩
def apM(gl:Nat->Option Nat):Vp.Ok du gl:=by
 intro ak bl p_ v_ h hp ae w _ hm;unfold Vp at h;dsimp only at h;split at h
 ·rename_i it s;split at h
  ·rename_i y hy;simp only[a_,bI]at h;obtain⟨rfl,rfl⟩:=h;exact told (apJ y s (NG hm hy))
  ·cases h
 ·cases h
def zS:List V:=.bool ah::.int .i64 0::.int .i64 0::.int .i64 0::(mI [.int .u8 0] 32++[.bool ah,.int .i64 0,.int .u64 0])
def AW(y:TC)(i:Nat)(x:List V):List V:=.bool y.s1::.int .i64 y.sn::.int .i64 y.sm::((bif aC i 0 then x else sG y.s0)++((bif aC i 1 then x else sG y.sa)++((bif aC i 2 then x else sG y.sb)++[.int .i64 y.b,.int .i64 y.m])))
def wE(l:List V):List VB:=[⟨af,⟨181,(0,0)⟩,l⟩]
def apN(y:TC)(K:VK Empty):∀i:Nat,i<3->kK [] 30 176 [.ptr 0 0,.int .i64 (.ofNat (i+1))] (tE af y) (bG 1 K)=cond (!(wC y i).on) (K (.bool ah) (tE af y) []) (K (.bool af) (wE (AW y i zS)) [])
 |0,_=>kR
 |1,_=>kR
 |2,_=>kR
 |n+3,h=>absurd h oM
def apO(y:TC)(s:Int)(K:VK Empty):kK [yS] 30 176 [.ptr 0 0,.int .i64 s] (tE af y) (bG 1 K)=((s<1\/3<s)/\K (.bool ah) (tE af y) []):=kR
def exE(y:TC):∀i:Nat,i<3->aI [0] 0 ⟨af,⟨181,(0,0)⟩,AW y i zS⟩=⟨0,af,.cells (kI ((bQ y).ia ((dS (i+1)).toNat-1) .zero).dv ((bQ y).ia ((dS (i+1)).toNat-1) .zero).aE y.b y.m) 181 (0,0)⟩
 |0,_=>kR
 |1,_=>kR
 |2,_=>kR
 |n+3,h=>absurd h oM
def NI(y:TC):aI [0] 0 ⟨af,⟨181,(0,0)⟩,db y⟩=⟨0,af,.cells (kI (bQ y).dv (bQ y).aE y.b y.m) 181 (0,0)⟩:=kR
def Vq(y:TC)(bt:Nat):aI [bt] bt ⟨af,⟨181,(0,0)⟩,db y⟩=⟨bt,af,.cells (kI (bQ y).dv (bQ y).aE y.b y.m) 181 (0,0)⟩:=kR
def apP(y:TC):∀i:Nat,bF 0 (AW y i zS)=af
 |0=>kR
 |1=>kR
 |2=>kR
 |n+3=>kR
def apQ(y:TC)(s:Int){bt:Nat}{bs:List av}{ms:List Nat}{w0 w:an}(S:St ms w0 ([⟨bt,af,.cells (kI (bQ y).dv (bQ y).aE y.b y.m) 181 (0,0)⟩]++bs) w):
 ba du 176 (aJ [bt] [.ptr 0 0,.int .i64 s]).toArray w λu w1=>u=den [] (.bool ((bQ y).iZ s))/\St ms w0 ([⟨bt,af,.cells (kI ((bQ y).end_ s).dv ((bQ y).end_ s).aE y.b y.m) 181 (0,0)⟩]++bs) w1:=by
 rw[<-Vq]at S;unfold aT.end_;cases h:CX s with
 |some i=>
  obtain⟨rfl,h3⟩:=NF h;refine ND bW.nil (n:=30) (B0:=⟨af,⟨181,(0,0)⟩,db y⟩) ?_ rfl S;show kK [] 30 176 [.ptr 0 0,.int .i64 (.ofNat (i+1))] (tE af y) _;rw[apN y _ i h3,NH y i h3];refine aN (λh=>?_) (λh=>?_)
  ·simp only[pj]at h;rw[h];exact⟨rfl,_,rfl,NI y,rfl⟩
  ·simp only[Bool.not_eq_false']at h;rw[h];exact⟨rfl,_,rfl,exE y i h3,apP y i⟩
 |none=>
  have hs:=Vl h;refine ND Vm (n:=30) (B0:=⟨af,⟨181,(0,0)⟩,db y⟩) ?_ rfl S;show kK [yS] 30 176 [.ptr 0 0,.int .i64 s] (tE af y) _;rw[apO,Vn _ hs];exact⟨hs,rfl,_,rfl,NI y,rfl⟩
def smL(y:TC):List V:=.bool af::.int .i64 0::.int .i64 (if 0>y.b then 0 else y.b)::(sG y.s0++(sG y.sa++(sG y.sb++[.int .i64 y.b,.int .i64 y.m])))
def apR(y:TC)(K:VK Empty):kK [] 30 96 [.ptr 0 0] (tE af y) (bG 1 K)=K (.aD []) (wE (smL y)) []:=kR
def apS(y:TC)(hb:0<=y.b/\y.b<=1000){bt:Nat}{bs:List av}{ms:List Nat}{w0 w:an}(S:St ms w0 ([⟨bt,af,.cells (kI (bQ y).dv (bQ y).aE y.b y.m) 181 (0,0)⟩]++bs) w):
 ba du 96 (aJ [bt] [.ptr 0 0]).toArray w λu w1=>u=den [] (.aD [])/\St ms w0 ([⟨bt,af,.cells (kI (af,.start y.b) (bQ y).aE y.b y.m) 181 (0,0)⟩]++bs) w1:=by
 rw[<-Vq]at S;refine ND bW.nil (n:=30) (B0:=⟨af,⟨181,(0,0)⟩,db y⟩) ?_ rfl S;show kK [] 30 96 [.ptr 0 0] (tE af y) _;rw[apR];refine⟨rfl,_,rfl,?_,rfl⟩;have q:aI [0] 0 ⟨af,⟨181,(0,0)⟩,smL y⟩=⟨0,af,.cells (kI (af,⟨0,if 0>y.b then 0 else y.b⟩) (bQ y).aE y.b y.m) 181 (0,0)⟩:=kR;rw[q,Io]
def Fq:QF:=⟨170,λak bl=>match ak with
 |[.ptr it 0]=>(match CW bl it with
  |some y=>aa (True,.int .i64 ((bQ y).many))
  |none=>ag)
 |_=>ag⟩
def apT(y:TC)(K:VK Empty):kK [] 30 170 [.ptr 0 0] (tE ah y) K=
 let k:Int->Prop:=λn=>K (.int .i64 n) (tE ah y) []
 cond y.s0.on (cond y.sa.on (cond y.sb.on (k 3) (k 2)) (cond y.sb.on (k 2) (k 1))) (cond y.sa.on (cond y.sb.on (k 2) (k 1)) (cond y.sb.on (k 1) (k 0))):=kR
def apU(gl:Nat->Option Nat):Fq.Ok du gl:=by
 intro ak bl p_ v_ h hp ae w _ hm;unfold Fq at h;dsimp only at h;split at h
 ·rename_i it;split at h
  ·rename_i y hy;simp only[a_,bI]at h;obtain⟨rfl,rfl⟩:=h;refine told (CV bW.nil (n:=30) (ak:=[.ptr 0 0]) (v:=.int .i64 ((bQ y).many)) (T:=⟨181,(0,0)⟩) ?_ (NG hm hy) rfl rfl);show kK [] 30 170 [.ptr 0 0] (tE ah y) _;rw[apT];have e:(bQ y).many=(if y.s0.on then 1 else 0)+(if y.sa.on then 1 else 0)+(if y.sb.on then 1 else 0):=rfl;rw[e];cases y.s0.on<;>cases y.sa.on<;>cases y.sb.on<;>rfl
  ·cases h
 ·cases h
def apV:bW du (λ_=>ag) [Fp,Fq]:=bW.cons (apA _) (bW.cons (apU _) bW.nil)
def Vr(k:gL)(o:Bool):gL:=⟨o,k.eo,k.role,k.key,k.seen⟩
def CY(y:TC)(i:Nat)(o:Bool):TC:=match i with
 |0=>{y with s0:=Vr y.s0 o}
 |1=>{y with sa:=Vr y.sa o}
 |_=>{y with sb:=Vr y.sb o}
def nS(b r:Int)(key:Nat->Int):List V:=[.bool af,.int .i64 0,.int .i64 (if 0>b then 0 else b),.int .i64 r,.cu .u8 32 key,.bool ah,.int .i64 0,.int .u64 0]
def NJ(y:TC)(r:Int)(K:VK Empty)(X:Prop):Prop:=cond (decide (r<0)) (K (.int .i64 1) (tE af y) []) (cond (decide (r>=4)) (K (.int .i64 1) (tE af y) []) X)
def apW(y:TC)(r:Int)(key:Nat->Int)(K:VK Empty):∀i:Nat,i<3->
 kK [Fp,Fq] 60 126 [.ptr 0 0,.int .i64 (.ofNat (i+1)),.int .i64 r,.agg [.cu .u8 32 key]] (tE af (CY y i af)) (bG 1 K)=NJ (CY y i af) r K (True/\K (.int .i64 0) (wE (AW y i (nS y.b r key))) [])/\
 kK [Fp,Fq] 60 126 [.ptr 0 0,.int .i64 (.ofNat (i+1)),.int .i64 r,.agg [.cu .u8 32 key]] (tE af (CY y i ah)) (bG 1 K)=NJ (CY y i ah) r K (True/\True/\cond (decide ((bQ (CY y i ah)).many>=y.m)) (K (.int .i64 19) (tE af (CY y i ah)) []) (K (.int .i64 0) (wE (AW y i (nS y.b r key))) []))
 |0,_=>⟨kR,kR⟩
 |1,_=>⟨kR,kR⟩
 |2,_=>⟨kR,kR⟩
 |n+3,h=>absurd h oM
def exN(y:TC)(r:Int)(key:Nat->Int):∀i:Nat,i<3->aI [0] 0 ⟨af,⟨181,(0,0)⟩,AW y i (nS y.b r key)⟩=⟨0,af,.cells (kI ((bQ y).ia ((dS (i+1)).toNat-1) ⟨af,⟨0,if 0>y.b then 0 else y.b⟩,r,key,⟨ah,0,0⟩⟩).dv ((bQ y).ia ((dS (i+1)).toNat-1) ⟨af,⟨0,if 0>y.b then 0 else y.b⟩,r,key,⟨ah,0,0⟩⟩).aE y.b y.m) 181 (0,0)⟩/\bF 0 (AW y i (nS y.b r key))=af
 |0,_=>⟨kR,kR⟩
 |1,_=>⟨kR,kR⟩
 |2,_=>⟨kR,kR⟩
 |n+3,h=>absurd h oM
def apX(y:TC):∀i:Nat,i<3->∃o,(wC y i).on=o/\y=CY y i o
 |0,_=>⟨_,rfl,rfl⟩
 |1,_=>⟨_,rfl,rfl⟩
 |2,_=>⟨_,rfl,rfl⟩
 |n+3,h=>absurd h oM
def Vs(y:TC)(i:Nat)(h3:i<3)(r:Int)(key:Nat->Int)(p:aX)(e1:p.da=y.b)(e2:p.jk=y.m){bt:Nat}{bs:List av}{ms:List Nat}{w0 w:an}(S:St ms w0 ([⟨bt,af,.cells (kI (bQ y).dv (bQ y).aE y.b y.m) 181 (0,0)⟩]++bs) w):
 ba du 126 (aJ [bt] [.ptr 0 0,.int .i64 (.ofNat (i+1)),.int .i64 r,.agg [.cu .u8 32 key]]).toArray w λu w1=>u=den [] (.int .i64 (aT.fD p (bQ y) (.ofNat (i+1)) r key).2)/\
  St ms w0 ([⟨bt,af,.cells (kI (aT.fD p (bQ y) (.ofNat (i+1)) r key).1.dv (aT.fD p (bQ y) (.ofNat (i+1)) r key).1.aE y.b y.m) 181 (0,0)⟩]++bs) w1:=by
 obtain⟨o,ho,hy⟩:=apX y i h3;rw[<-Vq]at S;refine ND (ak:=[.ptr 0 0,.int .i64 (.ofNat (i+1)),.int .i64 r,.agg [.cu .u8 32 key]]) (v:=.int .i64 (aT.fD p (bQ y) (.ofNat (i+1)) r key).2) (wr:=af) (o:=.cells (kI (aT.fD p (bQ y) (.ofNat (i+1)) r key).1.dv (aT.fD p (bQ y) (.ofNat (i+1)) r key).1.aE y.b y.m) 181 (0,0)) apV (n:=60) (B0:=⟨af,⟨181,(0,0)⟩,db y⟩) ?_ rfl S;generalize hK:(λ(x:V)(b:List VB)(_:List Empty)=>x=V.int i64 (aT.fD p (bQ y) (dS (i+1)) r key).2/\∃B,b=[B]/\aI [0] 0 B=⟨0,af,.cells (kI (aT.fD p (bQ y) (dS (i+1)) r key).1.dv (aT.fD p (bQ y) (dS (i+1)) r key).1.aE y.b y.m) 181 (0,0)⟩/\bF 0 B.c=af)=K;show kK [Fp,Fq] 60 126 [.ptr 0 0,.int .i64 (.ofNat (i+1)),.int .i64 r,.agg [.cu .u8 32 key]] (tE af y) (bG 1 K);have hN:=exN y r key i h3;have hi:(dS (i+1))=(i:Int)+1:=rfl;have k1:r<0\/4<=r->K (.int .i64 1) (tE af y) []:=λh=>by
  rw[<-hK];have e:aT.fD p (bQ y) (dS (i+1)) r key=(bQ y,1):=by unfold aT.fD;rw[if_pos oM]
  rw[e];exact⟨rfl,_,rfl,NI y,rfl⟩
 have k0:0<=r->r<4->o=af\/¬y.m<=(bQ y).many->K (.int .i64 0) (wE (AW y i (nS y.b r key))) []:=λh h' h4=>by
  rw[<-hK];have e:aT.fD p (bQ y) (dS (i+1)) r key=((bQ y).ia ((dS (i+1)).toNat-1) ⟨af,⟨0,if 0>y.b then 0 else y.b⟩,r,key,⟨ah,0,0⟩⟩,0):=by
   unfold aT.fD;rw[if_neg oM,if_neg,e1,Io];rw[NH y i h3,ho,e2];rintro⟨rfl,h5⟩;exact h4.elim (λh=>nomatch h) λh=>h h5
  rw[e];exact⟨rfl,_,rfl,hN.1,hN.2⟩
 have k2:0<=r->r<4->o=ah->y.m<=(bQ y).many->K (.int .i64 19) (tE af y) []:=λh h' h4 h5=>by
  rw[<-hK];have e:aT.fD p (bQ y) (dS (i+1)) r key=(bQ y,19):=by
   unfold aT.fD;rw[if_neg oM,if_pos];rw[NH y i h3,ho,e2];exact⟨h4,h5⟩
  rw[e];exact⟨rfl,_,rfl,NI y,rfl⟩
 have fR:=apW y r key K i h3;cases o with
 |true=>
  have hv:=fR.1;rw[<-hy]at hv;rw[hv];unfold NJ;refine aN (λh=>k1 (.inl (by simpa using h))) (λh=>aN (λh'=>k1 (.inr (by simpa using h'))) λh'=>⟨trivial,?_⟩);exact k0 (by simpa using h) (by simpa using h') (.inl rfl)
 |false=>
  have hv:=fR.2;rw[<-hy]at hv;rw[hv];unfold NJ;refine aN (λh=>k1 (.inl (by simpa using h))) (λh=>aN (λh'=>k1 (.inr (by simpa using h'))) λh'=>⟨trivial,trivial,aN (λh5=>?_) λh5=>?_⟩)
  ·exact k2 (by simpa using h) (by simpa using h') rfl (by simpa using h5)
  ·exact k0 (by simpa using h) (by simpa using h') (.inr (by simpa using h5))
variable{fr:aQ->Nat×az}
def Vt:QF:=⟨76,λak _=>match ak with
 |[.int .i64 l]=>aa (True,.bool (Sd.linked l))
 |_=>ag⟩
def apY(l:Int)(X:V->Prop):eJ du [] 20 76 [.int .i64 l] X=(cond (decide (l>=1)) (X (.bool (decide (l<=3)))) (X (.bool ah))):=kR
def apZ(gl:Nat->Option Nat):Vt.Ok du gl:=by
 intro ak bl p_ v_ h hp ae w _ _;unfold Vt at h;dsimp only at h;split at h
 ·rename_i l;simp only[a_,bI]at h;obtain⟨rfl,rfl⟩:=h;refine Cn bW.nil 20 ?_ rfl rfl ae w;show eJ du [] 20 76 _ _;rw[apY];have e:Sd.linked l=(decide (l>=1)&&decide (l<=3)):=rfl;refine aN (λh=>?_) (λh=>?_)
  ·rw[e,h];rfl
  ·rw[e,h];rfl
 ·cases h
def I4(t:aT)(s:Int):(eA t).iZ s=t.iZ s:=by
 unfold aT.iZ;by_cases h1:1<=s
 ·by_cases h2:s<=3
  ·have:s=1\/s=2\/s=3:=oM;rcases this with rfl|rfl|rfl<;>rfl
  ·simp[h2]
 ·simp[h1]
def Vu(t:aT)(s:Int):(eA t).on s=t.on s:=by
 unfold aT.on;rw[I4];rfl
def ap0(t:aT)(s:Int):(eA t).role s=t.role s:=by
 unfold aT.role;rw[I4];by_cases h:t.iZ s=af
 ·rw[if_pos h,if_pos h];unfold aT.iZ at h;simp only[bJ,decide_eq_true_eq]at h;have:s=1\/s=2\/s=3:=oM;rcases this with rfl|rfl|rfl<;>rfl
 ·rw[if_neg h,if_neg h]
def bx.cO{d:FD}(F:bx fr d)(q:List Sd.Ask)(B:List av)(h:QS d.k.bq d.k.most q B):bx fr {d with q:=q}:={F with Bq:=B,hq:=h}
def vq(k:LK):aj:=.pointer (aa ⟨k.bq,0,ag⟩)
structure QG where
 f:Nat
 pos:Nat
 m:List V->Int->List Sd.Ask->Option (Prop×V×List Sd.Ask)
def CZ(x:QG):dm (Gh fr):=λak bl ch K=>match ch with
 |g::rest=>(match ak[x.pos]?with
  |some (.raw vp)=>(match x.m (ak.eraseIdx x.pos) g.d.k.most g.d.q with
   |some (p,v,q')=>cond (bF 0 ak&&dg 0 v) ((vp=vq g.d.k/\p)/\∀B(h:QS g.d.k.bq g.d.k.most q' B),K v bl (⟨{g.d with q:=q'},g.dx,g.sx,g.F.cO q' B h⟩::rest)) False
   |none=>False)
  |_=>False)
 |[]=>False
def QG.Ok(x:QG):Prop:=∀(ak:List V)(k:LK)(q:List Sd.Ask)(p:Prop)(v:V)(q':List Sd.Ask),ak[x.pos]?=aa (.raw (vq k))->x.m (ak.eraseIdx x.pos) k.most q=aa (p,v,q')->p->∀(B:List av),QS k.bq k.most q B->∀(bs:List av)(ms:List Nat)(w0 w:an),St ms w0 (B++bs) w->
 ba du x.f (aJ [] ak).toArray w λy w1=>∃B',y=den [] v/\QS k.bq k.most q' B'/\St ms w0 (B'++bs) w1
def ua{d:FD}(F:bx fr d):F.B=F.Br++(F.Bs++(F.Bf++(F.Bq++F.Bk))):=rfl
def C0(A a b c q e R:List av):(A++((a++(b++(c++(q++e))))++R)).Perm (q++(A++(a++(b++(c++(e++R)))))):=by
 have h:(A++((a++(b++(c++(q++e))))++R))=(A++(a++(b++c)))++(q++(e++R)):=by simp[bZ]
 have h2:(q++(A++(a++(b++(c++(e++R))))))=q++((A++(a++(b++c)))++(e++R)):=by simp[bZ]
 rw[h,h2,<-bZ,<-bZ q];exact BA _ List.perm_append_comm
def ap1{x:QG}(h:x.Ok)(gl:Nat->Option Nat):Sound du gl x.f (CZ (fr:=fr) x):=by
 intro ak ae bl ch R ms w0 w K hg hl S hc;unfold CZ at hc;split at hc
 ·rename_i g rest;split at hc
  ·rename_i vp Vv;split at hc
   ·rename_i p v q' hm;cases hq:bF 0 ak&&dg 0 v with
    |false=>rw[hq]at hc;exact hc.elim
    |true=>
     rw[hq]at hc;simp only[bJ]at hq;obtain⟨⟨rfl,hp⟩,hK⟩:=hc;have a1:aJ ae ak=aJ [] ak:=by have:=pL (ae:=[]) (aq:=ae) ak hq.1;simpa using this
     have e0:ax (g::rest) R=g.F.B++ax rest R:=rfl;rw[e0,ua]at S;rw[a1];refine(h ak g.d.k g.d.q p v q' Vv hm hp _ g.F.hq _ ms w0 w (S.perm (C0 _ _ _ _ _ _ _))).mono ?_;rintro y w1 ⟨B',rfl,hB,S1⟩;refine⟨v,[],bl,_,?_,by simpa using hl,?_,hK B' hB⟩
     ·have:=gX (ae:=[]) (aq:=ae++[]) v hq.2;simpa using this.symm
     ·have e1:ax (⟨{g.d with q:=q'},g.dx,g.sx,g.F.cO q' B' hB⟩::rest:List (Gh fr)) R=(g.F.Br++(g.F.Bs++(g.F.Bf++(B'++g.F.Bk))))++ax rest R:=rfl;rw[e1,cy];exact S1.perm (C0 _ _ _ _ _ _ _).symm
   ·exact hc.elim
  ·exact hc.elim
 ·exact hc.elim
def NK{x:QG}(h:x.Ok):wb (G:=Gh fr) du gS ⟨x.f,ah,CZ x⟩:=⟨ap1 h gS,λe=>by cases e⟩
def NL:QG:=⟨103,0,λak _ q=>match ak with
 |[.int .i64 s]=>aa (True,.bool (Sd.Q.waits q s),Sd.Q.drop q s)
 |_=>ag⟩
def adr:NL.Ok:=by
 intro ak k q p v q' hv hm hp B hB bs ms w0 w S
 match ak,hv,hm with
 |a::l,hv,hm=>
  have ha:a=.raw (vq k):=by simpa[NL]using hv
  subst ha;replace hm:(match(generalizing:=false) l with
   |[.int .i64 s]=>aa (True,V.bool (Sd.Q.waits q s),Sd.Q.drop q s)
   |_=>ag)=aa (p,v,q'):=hm
  split at hm
  ·simp only[a_,bI]at hm;obtain⟨rfl,rfl,rfl⟩:=hm;exact aoV _ hB S
  ·cases hm
def ny(a b c d e f:Int):List V:=[.int .i64 a,.int .i64 b,.int .i64 c,.int .i64 d,.int .i64 e,.int .i64 f,.int .u8 0,.int .u8 0,.int .u8 0,.int .u8 0,.int .u8 0,.int .u8 0,.int .u8 0,.int .u8 0]
def Vw:List V->Option aQ
 |.int .i64 a::.int .i64 b::.int .i64 c::.int .i64 d::.int .i64 e::.int .i64 f::l=>(match l with
  |[.cu .u8 8 n]=>aa ⟨a,b,c,d,e,f,n⟩
  |[.int .u8 (.ofNat 0),.int .u8 (.ofNat 0),.int .u8 (.ofNat 0),.int .u8 (.ofNat 0),.int .u8 (.ofNat 0),.int .u8 (.ofNat 0),.int .u8 (.ofNat 0),.int .u8 (.ofNat 0)]=>aa ⟨a,b,c,d,e,f,λ_=>0⟩
  |_=>ag)
 |_=>ag
def Vy:List V->Option aQ
 |[.int .i64 a,.int .i64 b,.int .i64 c,.int .i64 d,.int .i64 e,.int .i64 f,.int .u8 (.ofNat 0),.int .u8 (.ofNat 0),.int .u8 (.ofNat 0),.int .u8 (.ofNat 0),.int .u8 (.ofNat 0),.int .u8 (.ofNat 0),.int .u8 (.ofNat 0),.int .u8 (.ofNat 0)]=>aa ⟨a,b,c,d,e,f,λ_=>0⟩
 |_=>ag
def ap2{l:List V}{r:aQ}(h:Vy l=aa r):∃a b c d e f,l=ny a b c d e f/\r=⟨a,b,c,d,e,f,λ_=>0⟩:=by
 unfold Vy at h;split at h
 ·obtain rfl:=cP h;exact⟨_,_,_,_,_,_,rfl,rfl⟩
 ·cases h
def Rm(s:ai)(n:Nat):Prop:=s.bE.length+n<=1000/\s.aY.length+n<=1000
def N8(n:Int):Prop:=0<=n/\n<=255
def N4(n:Int):Prop:=0<=n/\n<=4
def wD(n:Int):Prop:=0<=n/\n<=65535
def wF(n:Int):Prop:=0<=n/\n<=4294967295
structure RB(r:aQ):Prop where
 kind:129<=r.kind/\r.kind<=136
 seq:wF r.seq/\((r.kind=131\/r.kind=132)\/r.seq=0)
 role:(0<=r.role/\r.role<=3)/\(r.kind=130\/r.role=0)
 fa:N4 r.fa/\((r.kind=130\/r.kind=134\/r.kind=135\/r.kind=136)\/r.fa=0)
 au:wD r.au/\((r.kind=130\/r.kind=133\/r.kind=134\/r.kind=135)\/r.au=0)
 code:N8 r.code/\((r.kind=132\/r.kind=136)\/r.code=0)
 aR:By r.aR/\(r.kind=129\/r.aR=λ_=>0)
def dE:SM fr:=λar k s F K=>match ar with
 |[.int .i64 l,.agg rl]=>(match Vw rl with
  |some r=>(Rm s 1/\RB r)/\∀F',K (.aD []) (s.tell l r) F'
  |none=>False)
 |_=>False
def wG:SM fr:=λar k s F K=>match ar with
 |[.int .i64 l,.agg rl]=>(match Vy rl with
  |some r=>(Rm s 1/\RB r)/\∀F',K (.aD []) (s.eK l r) F'
  |none=>False)
 |_=>False
def nz(C:aM):SM fr:=λar k s F K=>match ar with
 |[.int .i64 l,.int .i64 n,.int .i64 c]=>(Rm s 1/\wF n/\N8 c)/\∀F',K (.aD []) (s.refuse C l n c) F'
 |_=>False
def oX:SM fr:=λar k s F K=>match ar with
 |[.int .i64 l,.int .i64 n]=>(Rm s 1/\wF n)/\∀F',K (.aD []) (s.done l n) F'
 |_=>False
def vg:SM fr:=λar k s F K=>match ar with
 |[.int .i64 l,.int .i64 w,.int .i64 c]=>(Rm s 1/\N4 w/\N8 c)/\∀F',K (.aD []) (s.gone l w c) F'
 |_=>False
def L1(fr:aQ->Nat×az)(C:aM):List (bT (Gh fr)):=⟨124,ah,gO dE⟩::⟨89,ah,gO (sH C)⟩::⟨103,ah,CZ NL⟩::qE (Gh fr) Vt::qE (Gh fr) Vo::qE (Gh fr) Vp::L0 fr C
def NM{q:QF}(h:∀gl,q.Ok du gl):wb (G:=Gh fr) du gS (qE (Gh fr) q):=⟨Mr (h gS),λ_=>Mq q.F⟩
def NN(tk:Nat->az->Option ca)(ht:Body (fr:=fr) 124 dE):aK du gS (L1 fr (aO tk)):=
 aK.cons (iH ht) (aK.cons (iH (apx tk)) (aK.cons (NK adr) (aK.cons (NM apZ) (aK.cons (NM apL) (aK.cons (NM apM) (adp tk))))))
def ap3(C:aM)(k:LK)(s:ai)(F:bx fr (bd k s))(Kb:SK fr k)(l n c:Int):bz (bU du gS (L1 fr C)) 40 122 [.ptr 2 0,.int .i64 l,.int .i64 n,.int .i64 c] (bP k s F) [bj k s F] (cX k s Kb)
 =(cF k s F/\dE [.int .i64 l,.agg (ny 132 n 0 0 0 c)] k (bV s) F λv s1 F1=>cF k s1 F1/\jm C [.int .i64 7,.int .i64 l,.int .i64 n,.int .i64 c,.int .i64 0] k (bV s1) F1 (λv s' F'=>cX k s Kb (.aD []) (bP k s' F') [bj k s' F'])):=kR
def ap4(C:aM)(k:LK)(s:ai)(F:bx fr (bd k s))(Kb:SK fr k)(l n:Int):bz (bU du gS (L1 fr C)) 40 175 [.ptr 2 0,.int .i64 l,.int .i64 n] (bP k s F) [bj k s F] (cX k s Kb)
 =(cF k s F/\dE [.int .i64 l,.agg (ny 131 n 0 0 0 0)] k (bV s) F λv s' F'=>cX k s Kb (.aD []) (bP k s' F') [bj k s' F']):=kR
def ap5(C:aM)(k:LK)(s:ai)(F:bx fr (bd k s))(Kb:SK fr k)(l a b c d e f:Int):bz (bU du gS (L1 fr C)) 40 143 [.ptr 2 0,.int .i64 l,.agg (ny a b c d e f)] (bP k s F) [bj k s F] (cX k s Kb)
 =(True/\cond (Sd.linked l) (True/\cond ((eA s.c.ay).on l) (cF k s F/\dE [.int .i64 l,.agg (ny a b c d e f)] k (bV s) F λv s' F'=>cX k s Kb (.aD []) (bP k s' F'++[⟨af,⟨232,(0,0)⟩,ny a b c d e f⟩]) [bj k s' F']) (cX k s Kb (.aD []) (bP k s F++[⟨af,⟨232,(0,0)⟩,ny a b c d e f⟩]) [bj k s F]))
  (cX k s Kb (.aD []) (bP k s F++[⟨af,⟨232,(0,0)⟩,ny a b c d e f⟩]) [bj k s F])):=kR
def by0:By (λ_=>0):=λj=>⟨uy 0,by show(0:Int)<=255;decide⟩
def rb{a b d e f:Int}(h1:129<=a/\a<=136)(h2:wF b)(h4:N4 d)(h5:wD e)(h6:N8 f)(k2:(a=131\/a=132)\/b=0:=by simp)(k4:(a=130\/a=134\/a=135\/a=136)\/d=0:=by simp)
 (k5:(a=130\/a=133\/a=134\/a=135)\/e=0:=by simp) (k6:(a=132\/a=136)\/f=0:=by simp):RB ⟨a,b,0,d,e,f,λ_=>0⟩:=⟨h1,⟨h2,k2⟩,⟨show(0:Int)<=0/\(0:Int)<=3 by decide,.inr rfl⟩,⟨h4,k4⟩,⟨h5,k5⟩,⟨h6,k6⟩,⟨by0,.inr rfl⟩⟩
def z4:N4 0:=⟨dC,dC⟩
def z8:N8 0:=⟨dC,dC⟩
def NO:wD 0:=⟨dC,dC⟩
def yT:wF 0:=⟨dC,dC⟩
def eW{k:LK}{s0:ai}{Kb:SK fr k}{v:V}{s s':ai}(e:s'=s){bl:List VB}(hK:∀F,Kb v s F)(F':bx fr (bd k s'))(hv:dg 0 v=af:=by rfl)(hp:s'.c.p=s0.c.p:=by rfl)(hb:bl.take 5=bP k s' F':=by kernel_rfl):cX k s0 Kb v bl [bj k s' F']:=by
 subst e;exact⟨s',F',hv,hp,hK F',hb,rfl⟩
section
variable{k:LK}{s:ai}{F:bx fr (bd k s)}{K:SK fr k}
def Vz{l a b c d e f:Int}(h:Rm s 1/\RB ⟨a,b,c,d,e,f,λ_=>0⟩)(hK:∀F',K (.aD []) (s.tell l ⟨a,b,c,d,e,f,λ_=>0⟩) F'):dE [.int .i64 l,.agg (ny a b c d e f)] k (bV s) F K:=by
 have e:dE [.int .i64 l,.agg (ny a b c d e f)] k s F K=((Rm s 1/\RB ⟨a,b,c,d,e,f,λ_=>0⟩)/\∀F',K (.aD []) (s.tell l ⟨a,b,c,d,e,f,λ_=>0⟩) F'):=kR;exact nv (M:=dE) (e▸⟨h,hK⟩)
def NP{l a b c d e f:Int}(h:Rm s 1/\RB ⟨a,b,c,d,e,f,λ_=>0⟩)(hK:∀F',K (.aD []) (s.eK l ⟨a,b,c,d,e,f,λ_=>0⟩) F'):wG [.int .i64 l,.agg (ny a b c d e f)] k (bV s) F K:=by
 have e:wG [.int .i64 l,.agg (ny a b c d e f)] k s F K=((Rm s 1/\RB ⟨a,b,c,d,e,f,λ_=>0⟩)/\∀F',K (.aD []) (s.eK l ⟨a,b,c,d,e,f,λ_=>0⟩) F'):=kR;exact nv (M:=wG) (e▸⟨h,hK⟩)
def nA{C:aM}{a b c d e:Int}(h:s.aY.length<=1000)(hK:∀F',K (.aD []) (s.record C a b c d e) F'):jm C [.int .i64 a,.int .i64 b,.int .i64 c,.int .i64 d,.int .i64 e] k (bV s) F K:=by
 have e:jm C [.int .i64 a,.int .i64 b,.int .i64 c,.int .i64 d,.int .i64 e] k s F K=(s.aY.length<=1000/\∀F',K (.aD []) (s.record C a b c d e) F'):=kR;exact nv (M:=jm C) (e▸⟨h,hK⟩)
end
def ap6(tk:Nat->az->Option ca)(ht:Body (fr:=fr) 124 dE):Body (fr:=fr) 122 (nz (aO tk)):=by
 refine mQ (n:=40) (NN tk ht) ?_;intro ar k s F Kb h0 hq hM;unfold nz at hM;split at hM
 ·rename_i l n c;have h1:=hM.1.1;have h2:=hM.1.2.1;have h3:=hM.1.2.2;have hK:=hM.2;rw[ap3];refine⟨cV hq,Vz ⟨h1,rb dC h2 z4 NO h3⟩ λF1=>⟨cV hq,nA ?_ λF2=>eW rfl hK F2⟩⟩;have:=h1.2;simp only[ai.tell];omega
 ·exact hM.elim
def ap7(tk:Nat->az->Option ca)(ht:Body (fr:=fr) 124 dE):Body (fr:=fr) 175 oX:=by
 refine mQ (n:=40) (NN tk ht) ?_;intro ar k s F Kb h0 hq hM;unfold oX at hM;split at hM
 ·rename_i l n;have h1:=hM.1.1;have h2:=hM.1.2;have hK:=hM.2;rw[ap4];exact⟨cV hq,Vz ⟨h1,rb dC h2 z4 NO z8⟩ λF1=>eW rfl hK F1⟩
 ·exact hM.elim
def ap_(tk:Nat->az->Option ca)(ht:Body (fr:=fr) 124 dE):Body (fr:=fr) 143 wG:=by
 refine mQ (n:=40) (NN tk ht) ?_;intro ar k s F Kb h0 hq hM;unfold wG at hM;split at hM
 ·rename_i l rl;split at hM
  ·rename_i r hr;obtain⟨a,b,c,d,e,f,rfl,rfl⟩:=ap2 hr;have h1:=hM.1.1;have h2:=hM.1.2;have hK:=hM.2;rw[ap5,Vu];refine⟨trivial,aN (λe1=>⟨trivial,aN (λe2=>?_) (λe2=>?_)⟩) (λe1=>?_)⟩
   ·refine⟨cV hq,Vz ⟨h1,h2⟩ λF1=>eW ?_ hK F1⟩;simp only[ai.eK,e1,e2,Bool.and_self,if_true]
   ·refine eW ?_ hK F;simp[ai.eK,e1,e2]
   ·refine eW ?_ hK F;simp[ai.eK,e1]
  ·exact hM.elim
 ·exact hM.elim
def L2(fr:aQ->Nat×az)(C:aM):List (bT (Gh fr)):=⟨122,ah,gO (nz C)⟩::⟨175,ah,gO oX⟩::⟨143,ah,gO wG⟩::L1 fr C
def NQ(tk:Nat->az->Option ca)(ht:Body (fr:=fr) 124 dE):aK du gS (L2 fr (aO tk)):=
 aK.cons (iH (ap6 tk ht)) (aK.cons (iH (ap7 tk ht)) (aK.cons (iH (ap_ tk ht)) (NN tk ht)))
section
variable(C:aM)(k:LK)(s:ai)(F:bx fr (bd k s))(Kb:SK fr k)
def aqa(l n c:Int):bz (bU du gS (L2 fr C)) 40 104 [.ptr 2 0,.int .i64 l,.int .i64 n,.int .i64 c] (bP k s F) [bj k s F] (cX k s Kb)
 =(cF k s F/\wG [.int .i64 l,.agg (ny 136 0 0 n 0 c)] k (bV s) F λv s' F'=>cX k s Kb (.aD []) (bP k s' F') [bj k s' F']):=kR
def aqb(m:Int)(b:Label):bz (bU du gS (L2 fr C)) 40 105 [.ptr 2 0,.int .i64 m,.agg (oe b)] (bP k s F) [bj k s F] (cX k s Kb)
 =(True/\cX k s Kb (.aD []) (bP k (s.eL m b) F++[⟨af,⟨41,(0,0)⟩,oe b⟩]) [bj k s F]):=kR
def VA(s:ai)(t:Sd.Tok):ai:={s with c:={s.c with t:=t,q:=Sd.Q.drop s.c.q t.aS}}
def aqc(t:Sd.Tok)(h n:Int):bz (bU du gS (L2 fr C)) 60 102 [.ptr 2 0,.agg (dA t),.int .i64 h,.int .i64 n] (bP k s F) [bj k s F] (cX k s Kb)
 =((vq k=vq k/\True)/\∀B(hB:QS k.bq k.most (Sd.Q.drop s.c.q t.aS) B),
  cF k (VA s t) (F.cO _ B hB)/\wG [.int .i64 s.c.t.aS,.agg (ny 134 0 0 t.aS t.au 0)] k (bV (VA s t)) (F.cO _ B hB) λv s2 F2=>
  cF k s2 F2/\wG [.int .i64 t.aS,.agg (ny 133 0 0 0 t.au 0)] k (bV s2) F2 λv s3 F3=>
  cF k s3 F3/\jm C [.int .i64 8,.int .i64 t.aS,.int .i64 n,.int .i64 0,.int .i64 h] k (bV s3) F3 λv s' F'=>cX k s Kb (.aD []) (bP k s' F'++[⟨af,⟨121,(0,0)⟩,dA t⟩]) [bj k s' F']):=kR
def qd(s:ai)(l:Int):ai:={s with c:={s.c with q:=Sd.Q.drop s.c.q l}}
def gP(s:ai)(t:Sd.Tok):ai:={s with c:={s.c with t:=t}}
end
def kU(s:ai)(l:Int)(r:aQ):(s.eK l r).c=s.c:=by unfold ai.eK;split<;>rfl
def Nb(s:ai)(l:Int)(r:aQ):(s.eK l r).aY=s.aY:=by unfold ai.eK;split<;>rfl
def aqd(s:ai)(l:Int)(r:aQ):(s.eK l r).bE.length<=s.bE.length+1:=by unfold ai.eK ai.tell;split<;>simp
def Rm.eK{s:ai}{l:Int}{r:aQ}{n:Nat}(h:Rm s (n+1)):Rm (s.eK l r) n:=by
 have h1:=aqd s l r;have h2:=Nb s l r;have:=h.1;have:=h.2
 exact⟨oM,by rw[h2];omega⟩
def Rm.rec{s:ai}{C:aM}{a b c d e:Int}{n:Nat}(h:Rm s (n+1)):Rm (s.record C a b c d e) n:=by
 have:=h.1;have:=h.2
 exact⟨by simp only[ai.record];omega,by simp only[ai.record,fH,Zb];omega⟩
def Rm.le{s:ai}{n m:Nat}(h:Rm s n)(hm:m<=n):Rm s m:=⟨by have:=h.1;omega,by have:=h.2;omega⟩
def Rm.r1{s:ai}{n:Nat}(h:Rm s n):s.aY.length<=1000:=by have:=h.2;omega
section
variable(tk:Nat->az->Option ca)
include tk
def aqe(ht:Body (fr:=fr) 124 dE):Body (fr:=fr) 104 vg:=by
 refine mQ (n:=40) (NQ tk ht) ?_;intro ar k s F Kb h0 hq hM;unfold vg at hM;split at hM
 ·rename_i l n c;have h1:=hM.1.1;have h2:=hM.1.2.1;have h3:=hM.1.2.2;have hK:=hM.2;rw[aqa];exact⟨cV hq,NP ⟨h1,rb dC yT h2 NO h3⟩ λF1=>eW rfl hK F1 (hp:=by unfold ai.gone;rw[kU])⟩
 ·exact hM.elim
def yU:SM fr:=λar k s F K=>match ar with
 |[.int .i64 m,.agg bl]=>(match IL bl with
  |some b=>∀F',K (.aD []) (s.eL m b) F'
  |none=>False)
 |_=>False
def aqf(ht:Body (fr:=fr) 124 dE):Body (fr:=fr) 105 yU:=by
 refine mQ (n:=40) (NQ tk ht) ?_;intro ar k s F Kb h0 hq hM;unfold yU at hM;split at hM
 ·rename_i m bl;split at hM
  ·rename_i b hb;obtain rfl:=Ur hb;rw[aqb (aO tk)];exact⟨trivial,eW (s':=s.eL m b) rfl hM F⟩
  ·exact hM.elim
 ·exact hM.elim
def sJ(C:aM):SM fr:=λar k s F K=>match ar with
 |[.agg tl,.int .i64 h,.int .i64 n]=>(match lD tl with
  |some t=>(Rm s 4/\N4 t.aS/\wD t.au)/\∀F',K (.aD []) (s.goes C t h n) F'
  |none=>False)
 |_=>False
def aqg(ht:Body (fr:=fr) 124 dE):Body (fr:=fr) 102 (sJ (aO tk)):=by
 refine mQ (n:=60) (NQ tk ht) ?_;intro ar k s F Kb h0 hq hM;unfold sJ at hM;split at hM
 ·rename_i tl h n;split at hM
  ·rename_i t hb;obtain rfl:=qc hb;have h1:Rm (VA s t) 4:=hM.1.1;have h2:=hM.1.2.1;have h3:=hM.1.2.2;have hK:=hM.2;rw[aqc];refine⟨⟨rfl,trivial⟩,λB hB=>⟨cV hq,NP ⟨h1.le dC,rb dC yT h2 h3 z8⟩ λF2=>⟨cV ?_,NP ⟨h1.eK.le dC,rb dC yT z4 h3 z8⟩ λF3=>⟨cV ?_,nA h1.eK.eK.r1 λF4=>eW rfl hK F4 (hp:=?_)⟩⟩⟩⟩
   ·rw[kU];exact hq
   ·rw[kU,kU];exact hq
   ·show(ai.eK _ _ _).c.p=_;rw[kU,kU]
  ·exact hM.elim
 ·exact hM.elim
end
def L3(fr:aQ->Nat×az)(C:aM):List (bT (Gh fr)):=⟨104,ah,gO vg⟩::⟨105,ah,gO yU⟩::⟨102,ah,gO (sJ C)⟩::L2 fr C
def ads(tk:Nat->az->Option ca)(ht:Body (fr:=fr) 124 dE):aK du gS (L3 fr (aO tk)):=
 aK.cons (iH (aqe tk ht)) (aK.cons (iH (aqf tk ht)) (aK.cons (iH (aqg tk ht)) (NQ tk ht)))
def aqh(C:aM)(k:LK)(s:ai)(F:bx fr (bd k s))(Kb:SK fr k)(l:Int):bz (bU du gS (L3 fr C)) 60 108 [.ptr 2 0,.int .i64 l] (bP k s F) [bj k s F] (cX k s Kb)
 =((vq k=vq k/\True)/\∀B(hB:QS k.bq k.most (Sd.Q.drop s.c.q l) B),True/\cond (!(s.c.t.drop l).2) (cX k s Kb (.aD []) (bP k (qd s l) (F.cO _ B hB)++[⟨af,⟨121,(0,0)⟩,dA (s.c.t.drop l).1⟩]) [bj k (qd s l) (F.cO _ B hB)])
  (cF k (gP (qd s l) (s.c.t.drop l).1) (F.cO _ B hB)/\vg [.int .i64 (s.c.t.drop l).1.aS,.int .i64 l,.int .i64 16] k (bV (gP (qd s l) (s.c.t.drop l).1)) (F.cO _ B hB) λv s2 F2=>
   cF k s2 F2/\jm C [.int .i64 12,.int .i64 l,.int .i64 0,.int .i64 16,.int .i64 0] k (bV s2) F2 λv s' F'=>cX k s Kb (.aD []) (bP k s' F'++[⟨af,⟨121,(0,0)⟩,dA (s.c.t.drop l).1⟩]) [bj k s' F'])):=kR
def mg(s:ai)(l w c:Int):(s.gone l w c).c=s.c:=kU _ _ _
def ane(s:ai)(l w c:Int):(s.gone l w c).aY=s.aY:=Nb _ _ _
def Rm.gone{s:ai}{l w c:Int}{n:Nat}(h:Rm s (n+1)):Rm (s.gone l w c) n:=h.eK
section
variable{k:LK}{s:ai}{F:bx fr (bd k s)}{K:SK fr k}
def I5{l w c:Int}(h:Rm s 1/\N4 w/\N8 c)(hK:∀F',K (.aD []) (s.gone l w c) F'):vg [.int .i64 l,.int .i64 w,.int .i64 c] k (bV s) F K:=by
 have e:vg [.int .i64 l,.int .i64 w,.int .i64 c] k s F K=((Rm s 1/\N4 w/\N8 c)/\∀F',K (.aD []) (s.gone l w c) F'):=kR;exact nv (M:=vg) (e▸⟨h,hK⟩)
def wH{l n:Int}(h:Rm s 1/\wF n)(hK:∀F',K (.aD []) (s.done l n) F'):oX [.int .i64 l,.int .i64 n] k (bV s) F K:=by
 have e:oX [.int .i64 l,.int .i64 n] k s F K=((Rm s 1/\wF n)/\∀F',K (.aD []) (s.done l n) F'):=kR;exact nv (M:=oX) (e▸⟨h,hK⟩)
def AX{C:aM}{l n c:Int}(h:Rm s 1/\wF n/\N8 c)(hK:∀F',K (.aD []) (s.refuse C l n c) F'):nz C [.int .i64 l,.int .i64 n,.int .i64 c] k (bV s) F K:=by
 have e:nz C [.int .i64 l,.int .i64 n,.int .i64 c] k s F K=((Rm s 1/\wF n/\N8 c)/\∀F',K (.aD []) (s.refuse C l n c) F'):=kR;exact nv (M:=nz C) (e▸⟨h,hK⟩)
def I6{C:aM}{l c:Int}(h:s.aY.length<=1000)(hK:∀F',K (.aD []) (s.jW C l c) F'):sH C [.int .i64 l,.int .i64 c] k (bV s) F K:=by
 have e:sH C [.int .i64 l,.int .i64 c] k s F K=(s.aY.length<=1000/\∀F',K (.aD []) (s.jW C l c) F'):=kR;exact nv (M:=sH C) (e▸⟨h,hK⟩)
def C1{C:aM}{t:Sd.Tok}{h n:Int}(hh:Rm s 4/\N4 t.aS/\wD t.au)(hK:∀F',K (.aD []) (s.goes C t h n) F'):sJ C [.agg (dA t),.int .i64 h,.int .i64 n] k (bV s) F K:=by
 have e:sJ C [.agg (dA t),.int .i64 h,.int .i64 n] k s F K=((Rm s 4/\N4 t.aS/\wD t.au)/\∀F',K (.aD []) (s.goes C t h n) F'):=kR;exact nv (M:=sJ C) (e▸⟨hh,hK⟩)
def VC{m:Int}{b:Label}(hK:∀F',K (.aD []) (s.eL m b) F'):yU [.int .i64 m,.agg (oe b)] k (bV s) F K:=by
 have e:yU [.int .i64 m,.agg (oe b)] k s F K=(∀F',K (.aD []) (s.eL m b) F'):=kR;exact nv (M:=yU) (e▸hK)
end
def vh(C:aM):SM fr:=λar k s F K=>match ar with
 |[.int .i64 l]=>(Rm s 2/\N4 l)/\∀F',K (.aD []) (s.leave C l) F'
 |_=>False
def aqi(tk:Nat->az->Option ca)(ht:Body (fr:=fr) 124 dE):Body (fr:=fr) 108 (vh (aO tk)):=by
 refine mQ (n:=60) (ads tk ht) ?_;intro ar k s F Kb h0 hq hM;unfold vh at hM;split at hM
 ·rename_i l;have h1:Rm (gP (qd s l) (s.c.t.drop l).1) 2:=hM.1.1;have h2:=hM.1.2;have hK:=hM.2;rw[aqh];refine⟨⟨rfl,trivial⟩,λB hB=>⟨trivial,aN (λe=>?_) (λe=>?_)⟩⟩
  ·refine eW (s':=qd s l) ?_ hK (F.cO (Sd.Q.drop s.c.q l) B hB);simp only[pj]at e;exact(if_pos e).symm
  ·refine⟨cV hq,I5 ⟨h1.le dC,h2,⟨dC,dC⟩⟩ λF2=>⟨cV ?_,nA h1.gone.r1 λF3=>eW ?_ hK F3 (hp:=?_)⟩⟩
   ·rw[mg];exact hq
   ·simp only[Bool.not_eq_false']at e;have c_:¬(s.c.t.drop l).2=ah:=by rw[e];decide
    exact(if_neg c_).symm
   ·show(ai.gone _ _ _ _).c.p=_;rw[mg];rfl
 ·exact hM.elim
end
section
def cq(n:Int):Prop:=-9223372036854775808<=n/\n<=9223372036854775807
def dW{a b:List av}(h:∀f:av->Bool,a.countP f=b.countP f):a.Perm b:=by
 classical
 refine List.perm_iff_count.2 λx=>?_;exact h _
structure QH where
 k:LK
 q:List Sd.Ask
 B:List av
 h:QS k.bq k.most q B
instance:Bl QH:=⟨λg=>g.B⟩
def VD(x:QG):dm QH:=λak bl ch K=>match ch with
 |[g]=>(match ak[x.pos]?with
  |some (.raw vp)=>(match x.m (ak.eraseIdx x.pos) g.k.most g.q with
   |some (p,v,q')=>cond (bF 0 ak&&dg 0 v) ((vp=vq g.k/\p)/\∀B(h:QS g.k.bq g.k.most q' B),K v bl [⟨g.k,q',B,h⟩]) False
   |none=>False)
  |_=>False)
 |_=>False
def aqj{x:QG}(h:x.Ok)(gl:Nat->Option Nat):Sound du gl x.f (VD x):=by
 intro ak ae bl ch R ms w0 w K hg hl S hc;unfold VD at hc;split at hc
 ·rename_i g;split at hc
  ·rename_i vp Vv;split at hc
   ·rename_i p v q' hm;cases hq:bF 0 ak&&dg 0 v with
    |false=>rw[hq]at hc;exact hc.elim
    |true=>
     rw[hq]at hc;simp only[bJ]at hq;obtain⟨⟨rfl,hp⟩,hK⟩:=hc;have a1:aJ ae ak=aJ [] ak:=by have:=pL (ae:=[]) (aq:=ae) ak hq.1;simpa using this
     have e0:∀(B:List av)(h:QS g.k.bq g.k.most q' B),ax ([⟨g.k,q',B,h⟩]:List QH) R=B++R:=λ_ _=>rfl;have S1:St ms w0 (g.B++(lits ae ae bl++R)) w:=S.perm (by show lO (lits ae ae bl++(g.B++R)) _;exact dW λf=>by simp only[ee];omega);rw[a1];refine(h ak g.k g.q p v q' Vv hm hp _ g.h _ ms w0 w S1).mono ?_;rintro y w1 ⟨B',rfl,hB,S2⟩;refine⟨v,[],bl,_,?_,by simpa using hl,?_,hK B' hB⟩
     ·have:=gX (ae:=[]) (aq:=ae++[]) v hq.2;simpa using this.symm
     ·rw[e0,cy];exact S2.perm (dW λf=>by simp only[ee];omega)
   ·exact hc.elim
  ·exact hc.elim
 ·exact hc.elim
def I7(x:QG):bT QH:=⟨x.f,ah,VD x⟩
def NR{x:QG}(h:x.Ok){gl:Nat->Option Nat}:wb (G:=QH) du gl (I7 x):=⟨aqj h gl,λe=>by cases e⟩
def adt{L:List (bT QH)}(hL:aK du (λ_=>ag) L)(n:Nat){f:Nat}{ak:List V}{v:V}{k:LK}{q q':List Sd.Ask}{B:List av}(hB:QS k.bq k.most q B)(h:bz (bU du (λ_=>ag) L) n f ak [] [⟨k,q,B,hB⟩] (bG 0 λx b c=>x=v/\b=[]/\∃B h,c=[⟨k,q',B,h⟩]))(hv:dg 0 v=af)
 {bs:List av} {ms:List Nat} {w0 w:an} (S:St ms w0 (B++bs) w):ba du f (aJ [] ak).toArray w λy w1=>∃B',y=den [] v/\QS k.bq k.most q' B'/\St ms w0 (B'++bs) w1:=by
 refine(eO hL.T hL.Q n (C:=bU du (λ_=>ag) L) (ae:=[]) (bl:=[]) (ch:=[⟨k,q,B,hB⟩]) (R:=bs) Gl.no rfl S h).mono ?_;rintro x w' ⟨y,aq,b9,ce,rfl,h1,S',hK⟩;obtain⟨v2,cj,ci,e,cK,S2,rfl,rfl,B1,yf,rfl⟩:=ig (n0:=0) h1 sP S' hK;have hm:cj=[]:=by simpa using cK
 subst hm;exact⟨B1,e,yf,S2⟩
def VE:QG:=⟨227,0,λak _ q=>match ak with
 |[]=>aa (True,.aD [.agg (IN (lb q).1),.int .i64 (lb q).2],q)
 |_=>ag⟩
def aqk:VE.Ok:=by
 intro ak k q p v q' hv hm hp B hB bs ms w0 w S
 match ak,hv,hm with
 |[a],hv,hm=>
  have ha:a=.raw (vq k):=by simpa[VE]using hv
  subst ha;replace hm:aa (True,V.aD [.agg (IN (lb q).1),.int .i64 (lb q).2],q)=aa (p,v,q'):=hm;simp only[a_,bI]at hm;obtain⟨rfl,rfl,rfl⟩:=hm;exact(api hB S).mono (by rintro y w1 ⟨rfl,h⟩;exact⟨B,rfl,hB,S.quiet h⟩)
 |_::_::_,_,hm=>cases hm
def VF:QG:=⟨217,0,λak most q=>match ak with
 |[.agg al]=>(match Np al with|some a=>aa (most<=3/\(∀e∈q,e.source=a.source\/¬e.cd=a.cd),.int .i64 (Sd.Q.push most q a).2,(Sd.Q.push most q a).1)|none=>ag)
 |_=>ag⟩
def aql:VF.Ok:=by
 intro ak k q p v q' hv hm hp B hB bs ms w0 w S
 match ak,hv,hm with
 |a::l,hv,hm=>
  have ha:a=.raw (vq k):=by simpa[VF]using hv
  subst ha;replace hm:(match(generalizing:=false) l with
   |[.agg al]=>(match Np al with|some a=>aa (k.most<=3/\(∀e∈q,e.source=a.source\/¬e.cd=a.cd),V.int .i64 (Sd.Q.push k.most q a).2,(Sd.Q.push k.most q a).1)|none=>ag)
   |_=>ag)=aa (p,v,q'):=hm
  split at hm
  ·split at hm
   ·rename_i a ha;obtain rfl:=anU ha;simp only[a_,bI]at hm;obtain⟨rfl,rfl,rfl⟩:=hm;exact apg a hB hp.1 hp.2 S
   ·cases hm
  ·cases hm
def aqm(t:Sd.Tok)(q:List Sd.Ask):gk t q=if(lb q).2≠0 then(t,(lb q).2,q)else if(t.dT (lb q).1.source).2≠0 then(t,(t.dT (lb q).1.source).2,q)else((t.dT (lb q).1.source).1,0,Sd.Q.drop q (lb q).1.source):=by
 cases q with
 |nil=>rfl
 |cons a q=>rfl
def LA:List (bT QH):=I7 NL::I7 VE::qL QH QV
def adu:aK du (λ_=>ag) LA:=aK.cons (NR adr) (aK.cons (NR aqk) (kG (AQ _)))
def one(g:QH)(q:List Sd.Ask)(X:List QH->Prop):Prop:=∀B(h:QS g.k.bq g.k.most q B),X [⟨g.k,q,B,h⟩]
def om(t:Sd.Tok)(n:Int):V:=.aD [.agg (dA t),.int .i64 n]
def aqn(g:QH)(t:Sd.Tok)(K:VK QH):bz (bU du (λ_=>ag) LA) 60 181 [.agg (dA t),.raw (vq g.k)] [] [g] (bG 0 K)=
 ((vq g.k=vq g.k/\True)/\one g g.q λc=>cond ((lb g.q).2!=0) (K (om t (lb g.q).2) [] c) (cq t.au/\cond ((t.dT (lb g.q).1.source).2!=0) (K (om t (t.dT (lb g.q).1.source).2) [] c)
   ((vq g.k=vq g.k/\True)/\one g (Sd.Q.drop g.q (lb g.q).1.source) λc=>K (om (t.dT (lb g.q).1.source).1 0) [] c))):=kR
def NS:QG:=⟨181,1,λak _ q=>match ak with
 |[.agg tl]=>(match lD tl with|some t=>aa (cq t.au,om (gk t q).1 (gk t q).2.1,(gk t q).2.2)|none=>ag)
 |_=>ag⟩
def aqo:NS.Ok:=by
 intro ak k q p v q' hv hm hp B hB bs ms w0 w S
 match ak,hv,hm with
 |a::b::l,hv,hm=>
  have ha:b=.raw (vq k):=by simpa[NS]using hv
  subst ha;replace hm:(match(generalizing:=false) a::l with
   |[.agg tl]=>(match lD tl with|some t=>aa (cq t.au,om (gk t q).1 (gk t q).2.1,(gk t q).2.2)|none=>ag)
   |_=>ag)=aa (p,v,q'):=hm
  split at hm
  ·rename_i tl heq;obtain⟨rfl,rfl⟩:=xf heq;split at hm
   ·rename_i t ht;obtain rfl:=qc ht;simp only[a_,bI]at hm;obtain⟨rfl,rfl,rfl⟩:=hm;refine adt adu 60 hB ?_ rfl S;rw[show bz (bU du (λ_=>ag) LA) 60 NS.f=bz (bU du (λ_=>ag) LA) 60 181 from rfl,aqn ⟨k,q,B,hB⟩,aqm];refine⟨⟨rfl,trivial⟩,λB h=>aN (λh1=>?_) (λh1=>⟨hp,aN (λh2=>?_) λh2=>⟨⟨rfl,trivial⟩,λB h=>?_⟩⟩)⟩
    ·rw[if_pos (by simpa using h1)];exact⟨rfl,rfl,B,h,rfl⟩
    ·rw[if_neg (by simpa using h1),if_pos (by simpa using h2)];exact⟨rfl,rfl,B,h,rfl⟩
    ·rw[if_neg (by simpa using h1),if_neg (by simpa using h2)];exact⟨rfl,rfl,B,h,rfl⟩
   ·cases hm
  ·cases hm
def LB:List (bT QH):=I7 NS::I7 VF::LA
def aqp:aK du (λ_=>ag) LB:=aK.cons (NR aqo) (aK.cons (NR aql) adu)
def NT(f:fG)(ak:List V)(g:QH)(K:VK QH):Prop:=bz (bU du (λ_=>ag) LB) 60 f ak [] [g] (bG 0 K)
def VG{f:Nat}{ak:List V}{v:V}{k:LK}{q q':List Sd.Ask}{B:List av}(hB:QS k.bq k.most q B)(h:NT f ak ⟨k,q,B,hB⟩ λx b c=>x=v/\b=[]/\∃B h,c=[⟨k,q',B,h⟩])(hv:dg 0 v=af)
 {bs:List av} {ms:List Nat} {w0 w:an} (S:St ms w0 (B++bs) w):ba du f (aJ [] ak).toArray w λy w1=>∃B',y=den [] v/\QS k.bq k.most q' B'/\St ms w0 (B'++bs) w1:=adt aqp 60 hB h hv S
def aqq(g:QH)(t:Sd.Tok)(f:Int)(K:VK QH):NT 139 [.agg (dA t),.raw (vq g.k),.int .i64 f] g K=
 cond (f !=t.aS) (K (om t 20) [] [g]) (cond (decide (t.au>=65535)) (K (om t 24) [] [g]) ((vq g.k=vq g.k/\cq t.au)/\one g (gk t g.q).2.2 λc=>K (om (gk t g.q).1 (gk t g.q).2.1) [] c)):=kR
def aqr{k:LK}{q:List Sd.Ask}{B:List av}(hB:QS k.bq k.most q B){t:Sd.Tok}(he:cq t.au)(f:Int){bs:List av}{ms:List Nat}{w0 w:an}(S:St ms w0 (B++bs) w):
 ba du 139 (aJ [] [.agg (dA t),.raw (vq k),.int .i64 f]).toArray w λy w1=>∃B',y=den [] (om (dM t q f).1 (dM t q f).2.1)/\QS k.bq k.most (dM t q f).2.2 B'/\St ms w0 (B'++bs) w1:=by
 refine VG hB ?_ rfl S;rw[aqq ⟨k,q,B,hB⟩];unfold dM;refine aN (λh=>?_) (λh=>aN (λh2=>?_) λh2=>⟨⟨rfl,he⟩,λB h3=>?_⟩)
 ·rw[if_pos (by simpa using h)];exact⟨rfl,rfl,B,hB,rfl⟩
 ·rw[if_neg (by simpa using h),if_pos (by simpa using h2)];exact⟨rfl,rfl,B,hB,rfl⟩
 ·rw[if_neg (by simpa using h),if_neg (by simpa using h2)];exact⟨rfl,rfl,B,h3,rfl⟩
def NU(g:QH)(t:Sd.Tok)(la:Sd.Timer)(K:VK QH):Prop:=
 let t1:Sd.Tok:={t with la:=la.step}
 (cq la.n/\cq la.most)/\True/\cond (!la.step.due) (K (om t1 0) [] [g]) (cond (decide (t.au>=65535)) (cq t.au/\K (om t1.iB 6) [] [g]) ((vq g.k=vq g.k/\cq t.au)/\one g (gk t1 g.q).2.2 λc=>
  cond ((gk t1 g.q).2.1!=0) (cq t.au/\K (om (t1.dT 4).1 5) [] c) (K (om (gk t1 g.q).1 5) [] c)))
def aqs(g:QH)(p:aX)(ka:Nat->Option aF)(kn kc:Nat->Nat)(t:Sd.Tok)(th:Bool)(K:VK QH):NT 153 [.agg [.fi p ka kn kc],.agg (dA t),.raw (vq g.k),.bool th] g K=
 cond (t.aS==4) (K (om {t with la:=.zero} 0) [] [g]) (cond th (K (om {t with la:=.zero} 0) [] [g]) (cond (t.la.most==0) (cq (p.i 43)/\NU g t (.start (p.i 43)) K) (NU g t t.la K))):=kR
def vi(t:Sd.Tok)(a n:Int):V:=.aD [.agg (dA t),.int .i64 a,.int .i64 n]
def NV(g:QH)(t:Sd.Tok)(f:Int)(K:VK QH):Prop:=cq t.au/\cond ((t.dT f).2!=0) (K (vi t 0 (t.dT f).2) [] [g]) ((vq g.k=vq g.k/\True)/\one g (Sd.Q.drop g.q f) λc=>K (vi (t.dT f).1 3 0) [] c)
def VH(g:QH)(p:aX)(t:Sd.Tok)(f:Int)(K:VK QH):Prop:=
 let a:Sd.Ask:=⟨f,placeOf p f,.start (p.i 45)⟩
 True/\cq (p.i 45)/\(vq g.k=vq g.k/\g.k.most<=3/\∀e∈g.q,e.source=f\/¬e.cd=placeOf p f)/\one g (Sd.Q.push g.k.most g.q a).1 λc=>K (vi t 0 (Sd.Q.push g.k.most g.q a).2) [] c
def aqt(g:QH)(p:aX)(ka:Nat->Option aF)(kn kc:Nat->Nat)(t:Sd.Tok)(f:Int)(nw:Bool)(K:VK QH):NT 177 [.agg [.fi p ka kn kc],.agg (dA t),.raw (vq g.k),.int .i64 f,.bool nw] g K=
 cond t.bad (K (vi t 0 29) [] [g]) (cond (f==t.aS) (K (vi t 0 25) [] [g]) (cond (decide (t.au>=65535)) (K (vi t 0 24) [] [g]) (cond (t.aS==4) (NV g t f K)
  (cond nw (True/\cond (Sd.qH p f t.aS) (NV g t f K) (cond nw (K (vi t 0 26) [] [g]) (VH g p t f K))) (cond nw (K (vi t 0 26) [] [g]) (VH g p t f K)))))):=kR
def I8(t:Sd.Tok)(la:Sd.Timer)(q:List Sd.Ask):Sd.Tok×Int×List Sd.Ask:=
 let t1:Sd.Tok:={t with la:=la.step}
 if la.step.due=ah then(t1,0,q)else if 65535<=t.au then(t1.iB,6,q)else if(gk t1 q).2.1≠0 then((t1.dT 4).1,5,(gk t1 q).2.2)else((gk t1 q).1,5,(gk t1 q).2.2)
def adv{k:LK}{q:List Sd.Ask}{B:List av}(hB:QS k.bq k.most q B){t:Sd.Tok}(he:cq t.au){la:Sd.Timer}(uK:cq la.n/\cq la.most):
 NU ⟨k,q,B,hB⟩ t la λx b c=>x=om (I8 t la q).1 (I8 t la q).2.1/\b=[]/\∃B h,c=[⟨k,(I8 t la q).2.2,B,h⟩]:=by
 unfold NU I8;refine⟨uK,trivial,aN (λh=>?_) (λh=>aN (λh2=>⟨he,?_⟩) λh2=>⟨⟨rfl,he⟩,λB1 h1=>aN (λh3=>⟨he,?_⟩) λh3=>?_⟩)⟩
 ·rw[if_pos (by simpa using h)];exact⟨rfl,rfl,B,hB,rfl⟩
 ·rw[if_neg (by simpa using h),if_pos (by simpa using h2)];exact⟨rfl,rfl,B,hB,rfl⟩
 ·rw[if_neg (by simpa using h),if_neg (by simpa using h2),if_pos (by simpa using h3)];exact⟨rfl,rfl,B1,h1,rfl⟩
 ·rw[if_neg (by simpa using h),if_neg (by simpa using h2),if_neg (by simpa using h3)];exact⟨rfl,rfl,B1,h1,rfl⟩
def aqu{k:LK}{q:List Sd.Ask}{B:List av}(hB:QS k.bq k.most q B)(p:aX)(ka:Nat->Option aF)(kn kc:Nat->Nat){t:Sd.Tok}(th:Bool)(he:cq t.au)(uK:cq t.la.n/\cq t.la.most)(hp:1<=p.i 43/\p.i 43<=1000){bs:List av}{ms:List Nat}{w0 w:an}(S:St ms w0 (B++bs) w):
 ba du 153 (aJ [] [.agg [.fi p ka kn kc],.agg (dA t),.raw (vq k),.bool th]).toArray w λy w1=>∃B',y=den [] (om (iD p t q th).1 (iD p t q th).2.1)/\QS k.bq k.most (iD p t q th).2.2 B'/\St ms w0 (B'++bs) w1:=by
 refine VG hB ?_ rfl S;rw[aqs ⟨k,q,B,hB⟩];have e:iD p t q th=if t.aS=4\/th=af then({t with la:=.zero},0,q)else I8 t (if t.la.most=0 then .start (p.i 43)else t.la) q:=rfl
 rw[e];refine aN (λh=>?_) (λh=>aN (λh2=>?_) λh2=>?_)
 ·rw[if_pos (.inl (by simpa using h))];exact⟨rfl,rfl,B,hB,rfl⟩
 ·rw[if_pos (.inr h2)];exact⟨rfl,rfl,B,hB,rfl⟩
 ·rw[if_neg (by simp at h;simp[h,h2])];refine aN (λh3=>⟨by unfold cq;omega,?_⟩) (λh3=>?_)
  ·rw[if_pos (by simpa using h3)];refine adv hB he ?_;rw[Io,if_neg oM];exact⟨⟨by show(-9223372036854775808:Int)<=0;omega,by show(0:Int)<=9223372036854775807;omega⟩,by unfold cq;show _<=p.i 43/\p.i 43<=_;omega⟩
  ·rw[if_neg (by simpa using h3)];exact adv hB he uK
def adw{k:LK}{q:List Sd.Ask}{B:List av}(hB:QS k.bq k.most q B){t:Sd.Tok}(he:cq t.au){f:Int}{R:Sd.Tok×Int×Int×List Sd.Ask}(e:R=if(t.dT f).2≠0 then(t,0,(t.dT f).2,q)else((t.dT f).1,3,0,Sd.Q.drop q f)):
 NV ⟨k,q,B,hB⟩ t f λx b c=>x=vi R.1 R.2.1 R.2.2.1/\b=[]/\∃B h,c=[⟨k,R.2.2.2,B,h⟩]:=by
 unfold NV;subst e;refine⟨he,aN (λh=>?_) (λh=>⟨⟨rfl,trivial⟩,λB1 h1=>?_⟩)⟩
 ·rw[if_pos (by simpa using h)];exact⟨rfl,rfl,B,hB,rfl⟩
 ·rw[if_neg (by simpa using h)];exact⟨rfl,rfl,B1,h1,rfl⟩
def aqv{k:LK}{q:List Sd.Ask}{B:List av}(hB:QS k.bq k.most q B)(p:aX)(ka:Nat->Option aF)(kn kc:Nat->Nat){t:Sd.Tok}(f:Int)(nw:Bool)(he:cq t.au)(hm:k.most<=3)(hr:∀e∈q,e.source=f\/¬e.cd=placeOf p f)(hp:1<=p.i 45/\p.i 45<=1000){bs:List av}{ms:List Nat}{w0 w:an}(S:St ms w0 (B++bs) w):
 ba du 177 (aJ [] [.agg [.fi p ka kn kc],.agg (dA t),.raw (vq k),.int .i64 f,.bool nw]).toArray w λy w1=>∃B',y=den [] (vi (iC p t k.most q f nw).1 (iC p t k.most q f nw).2.1 (iC p t k.most q f nw).2.2.1)/\QS k.bq k.most (iC p t k.most q f nw).2.2.2 B'/\St ms w0 (B'++bs) w1:=by
 refine VG hB ?_ rfl S;rw[aqt ⟨k,q,B,hB⟩];have hP:∀R:Sd.Tok×Int×Int×List Sd.Ask,R=(t,0,(Sd.Q.push k.most q ⟨f,cd p f,.start p.ask⟩).2,(Sd.Q.push k.most q ⟨f,cd p f,.start p.ask⟩).1)->VH ⟨k,q,B,hB⟩ p t f λx b c=>x=vi R.1 R.2.1 R.2.2.1/\b=[]/\∃B h,c=[⟨k,R.2.2.2,B,h⟩]:=by
  rintro R rfl;exact⟨trivial,by unfold cq;omega,⟨rfl,hm,hr⟩,λB1 h1=>⟨rfl,rfl,B1,h1,rfl⟩⟩
 unfold iC;refine aN (λh=>?_) (λh=>?_)
 ·rw[if_pos h];exact⟨rfl,rfl,B,hB,rfl⟩
 rw[if_neg (by simp[h])];refine aN (λh=>?_) (λh=>?_)
 ·rw[if_pos (by simpa using h)];exact⟨rfl,rfl,B,hB,rfl⟩
 rw[if_neg (by simpa using h)];refine aN (λh=>?_) (λh=>?_)
 ·rw[if_pos (by simpa using h)];exact⟨rfl,rfl,B,hB,rfl⟩
 rw[if_neg (by simpa using h)];refine aN (λh=>?_) (λh4=>aN (λh5=>⟨trivial,aN (λh6=>?_) λh6=>aN (λh7=>?_) λh7=>?_⟩) λh5=>aN (λh7=>?_) λh7=>?_)
 ·rw[if_pos (.inl (by simpa using h))];exact adw hB he rfl
 ·rw[if_pos (.inr ⟨h5,h6⟩)];exact adw hB he rfl
 ·rw[if_neg (by simp at h4;simp[h4,h6]),if_pos h7];exact⟨rfl,rfl,B,hB,rfl⟩
 ·rw[h5]at h7;cases h7
 ·rw[h5]at h7;cases h7
 ·rw[if_neg (by simp at h4;simp[h4,h5]),if_neg (by simp[h5])];exact hP _ rfl
variable{fr:aQ->Nat×az}
def VI:QG:=⟨139,1,λak _ q=>match ak with
 |[.agg tl,.int .i64 f]=>(match lD tl with|some t=>aa (cq t.au,.aD [.agg (dA (dM t q f).1),.int .i64 (dM t q f).2.1],(dM t q f).2.2)|none=>ag)
 |_=>ag⟩
def aqw:VI.Ok:=by
 intro ak k q p v q' hv hm hp B hB bs ms w0 w S
 match ak,hv,hm with
 |a::b::l,hv,hm=>
  have ha:b=.raw (vq k):=by simpa[VI]using hv
  subst ha;replace hm:(match(generalizing:=false) a::l with
   |[.agg tl,.int .i64 f]=>(match lD tl with|some t=>aa (cq t.au,V.aD [.agg (dA (dM t q f).1),.int .i64 (dM t q f).2.1],(dM t q f).2.2)|none=>ag)
   |_=>ag)=aa (p,v,q'):=hm
  split at hm
  ·rename_i tl f heq;obtain⟨rfl,rfl⟩:=xf heq;split at hm
   ·rename_i t ht;obtain rfl:=qc ht;simp only[a_,bI]at hm;obtain⟨rfl,rfl,rfl⟩:=hm;exact aqr hB hp f S
   ·cases hm
  ·cases hm
def VJ:QG:=⟨177,2,λak most q=>match ak with
 |[.agg [.fi p ka kn kc],.agg tl,.int .i64 f,.bool nw]=>(match lD tl with|some t=>aa (cq t.au/\most<=3/\(∀e∈q,e.source=f\/¬e.cd=placeOf p f)/\(1<=p.i 45/\p.i 45<=1000),.aD [.agg (dA (iC p t most q f nw).1),.int .i64 (iC p t most q f nw).2.1,.int .i64 (iC p t most q f nw).2.2.1],(iC p t most q f nw).2.2.2)|none=>ag)
 |_=>ag⟩
def aqx:VJ.Ok:=by
 intro ak k q p v q' hv hm hp B hB bs ms w0 w S
 match ak,hv,hm with
 |a::b::c::l,hv,hm=>
  have ha:c=.raw (vq k):=by simpa[VJ]using hv
  subst ha;replace hm:(match(generalizing:=false) a::b::l with
   |[.agg [.fi p ka kn kc],.agg tl,.int .i64 f,.bool nw]=>(match lD tl with|some t=>aa (cq t.au/\k.most<=3/\(∀e∈q,e.source=f\/¬e.cd=placeOf p f)/\(1<=p.i 45/\p.i 45<=1000),V.aD [.agg (dA (iC p t k.most q f nw).1),.int .i64 (iC p t k.most q f nw).2.1,.int .i64 (iC p t k.most q f nw).2.2.1],(iC p t k.most q f nw).2.2.2)|none=>ag)
   |_=>ag)=aa (p,v,q'):=hm
  split at hm
  ·rename_i p' ka kn kc tl f nw heq;obtain⟨rfl,h2⟩:=xf heq;obtain⟨rfl,rfl⟩:=xf h2;split at hm
   ·rename_i t ht;obtain rfl:=qc ht;simp only[a_,bI]at hm;obtain⟨rfl,rfl,rfl⟩:=hm;exact aqv hB p' ka kn kc f nw hp.1 hp.2.1 hp.2.2.1 hp.2.2.2 S
   ·cases hm
  ·cases hm
def cO(s:ai)(q:List Sd.Ask):ai:={s with c:={s.c with q:=q}}
def L4(fr:aQ->Nat×az)(C:aM):List (bT (Gh fr)):=⟨108,ah,gO (vh C)⟩::⟨139,ah,CZ VI⟩::⟨177,ah,CZ VJ⟩::L3 fr C
def C2(tk:Nat->az->Option ca)(ht:Body (fr:=fr) 124 dE):aK du gS (L4 fr (aO tk)):=
 aK.cons (iH (aqi tk ht)) (aK.cons (NK aqw) (aK.cons (NK aqx) (ads tk ht)))
section
variable(C:aM)(k:LK)(s:ai)(F:bx fr (bd k s))(Kb:SK fr k)
def aqy(l:Int)(m:ca):bz (bU du gS (L4 fr C)) 60 130 [.ptr 2 0,.int .i64 l,.agg (dw m)] (bP k s F) [bj k s F] (cX k s Kb)
 =(cF k s F/\oX [.int .i64 l,.int .i64 m.seq] k (bV s) F λv s' F'=>cX k s Kb (.aD []) (bP k s' F'++[⟨af,⟨204,(0,0)⟩,dw m⟩]) [bj k s' F']):=kR
def aqz(l:Int)(m:ca):bz (bU du gS (L4 fr C)) 60 134 [.ptr 2 0,.int .i64 l,.agg (dw m)] (bP k s F) [bj k s F] (cX k s Kb)
 =(cq s.c.t.au/\cond ((s.c.t.accept l m.au).2!=0) (cF k s F/\nz C [.int .i64 l,.int .i64 m.seq,.int .i64 (s.c.t.accept l m.au).2] k (bV s) F λv s' F'=>cX k s Kb (.aD []) (bP k s' F'++[⟨af,⟨204,(0,0)⟩,dw m⟩,⟨af,⟨121,(0,0)⟩,dA (s.c.t.accept l m.au).1⟩]) [bj k s' F'])
  (cF k s F/\sJ C [.agg (dA (s.c.t.accept l m.au).1),.int .i64 1,.int .i64 m.seq] k (bV s) F λv s2 F2=>cF k s2 F2/\oX [.int .i64 l,.int .i64 m.seq] k (bV s2) F2 λv s' F'=>cX k s Kb (.aD []) (bP k s' F'++[⟨af,⟨204,(0,0)⟩,dw m⟩,⟨af,⟨121,(0,0)⟩,dA (s.c.t.accept l m.au).1⟩]) [bj k s' F'])):=kR
def aqA(l:Int)(m:ca):bz (bU du gS (L4 fr C)) 60 135 [.ptr 2 0,.int .i64 l,.agg (dw m)] (bP k s F) [bj k s F] (cX k s Kb)
 =(True/\cond ((s.c.t.gE l).2!=0) (cF k s F/\nz C [.int .i64 l,.int .i64 m.seq,.int .i64 (s.c.t.gE l).2] k (bV s) F λv s' F'=>cX k s Kb (.aD []) (bP k s' F'++[⟨af,⟨204,(0,0)⟩,dw m⟩,⟨af,⟨121,(0,0)⟩,dA (s.c.t.gE l).1⟩]) [bj k s' F'])
  (cF k (gP s (s.c.t.gE l).1) F/\vg [.int .i64 (s.c.t.gE l).1.aS,.int .i64 l,.int .i64 0] k (bV (gP s (s.c.t.gE l).1)) F λv s2 F2=>cF k s2 F2/\jm C [.int .i64 11,.int .i64 l,.int .i64 m.seq,.int .i64 0,.int .i64 0] k (bV s2) F2 λv s3 F3=>
   cF k s3 F3/\oX [.int .i64 l,.int .i64 m.seq] k (bV s3) F3 λv s' F'=>cX k s Kb (.aD []) (bP k s' F'++[⟨af,⟨204,(0,0)⟩,dw m⟩,⟨af,⟨121,(0,0)⟩,dA (s.c.t.gE l).1⟩]) [bj k s' F'])):=kR
def aqB(l:Int)(m:ca):bz (bU du gS (L4 fr C)) 60 133 [.ptr 2 0,.int .i64 l,.agg (dw m)] (bP k s F) [bj k s F] (cX k s Kb)
 =(True/\Sd.fL s.c.p/\cond ((Sd.Tok.make s.c.p s.c.t l m.bC ((eA s.c.ay).on m.bC)).2!=0) (cF k s F/\nz C [.int .i64 l,.int .i64 m.seq,.int .i64 (Sd.Tok.make s.c.p s.c.t l m.bC ((eA s.c.ay).on m.bC)).2] k (bV s) F λv s' F'=>cX k s Kb (.aD []) (bP k s' F'++[⟨af,⟨204,(0,0)⟩,dw m⟩,⟨af,⟨121,(0,0)⟩,dA (Sd.Tok.make s.c.p s.c.t l m.bC ((eA s.c.ay).on m.bC)).1⟩]) [bj k s' F'])
  (cF k (gP s (Sd.Tok.make s.c.p s.c.t l m.bC ((eA s.c.ay).on m.bC)).1) F/\wG [.int .i64 m.bC,.agg (ny 135 0 0 l (Sd.Tok.make s.c.p s.c.t l m.bC ((eA s.c.ay).on m.bC)).1.au 0)] k (bV (gP s (Sd.Tok.make s.c.p s.c.t l m.bC ((eA s.c.ay).on m.bC)).1)) F λv s2 F2=>
   cF k s2 F2/\jm C [.int .i64 9,.int .i64 l,.int .i64 m.seq,.int .i64 0,.int .i64 m.bC] k (bV s2) F2 λv s3 F3=>
   cF k s3 F3/\oX [.int .i64 l,.int .i64 m.seq] k (bV s3) F3 λv s' F'=>cX k s Kb (.aD []) (bP k s' F'++[⟨af,⟨204,(0,0)⟩,dw m⟩,⟨af,⟨121,(0,0)⟩,dA (Sd.Tok.make s.c.p s.c.t l m.bC ((eA s.c.ay).on m.bC)).1⟩]) [bj k s' F'])):=kR
def aqC(l:Int)(m:ca):bz (bU du gS (L4 fr C)) 60 136 [.ptr 2 0,.int .i64 l,.agg (dw m)] (bP k s F) [bj k s F] (cX k s Kb)
 =((vq k=vq k/\cq s.c.t.au)/\∀B(hB:QS k.bq k.most (dM s.c.t s.c.q l).2.2 B),
  cond ((dM s.c.t s.c.q l).2.1!=0) (cF k (cO s (dM s.c.t s.c.q l).2.2) (F.cO (dM s.c.t s.c.q l).2.2 B hB)/\nz C [.int .i64 l,.int .i64 m.seq,.int .i64 (dM s.c.t s.c.q l).2.1] k (bV (cO s (dM s.c.t s.c.q l).2.2)) (F.cO (dM s.c.t s.c.q l).2.2 B hB) λv s' F'=>cX k s Kb (.aD []) (bP k s' F'++[⟨af,⟨204,(0,0)⟩,dw m⟩,⟨af,⟨121,(0,0)⟩,dA (dM s.c.t s.c.q l).1⟩]) [bj k s' F'])
  (cF k (cO s (dM s.c.t s.c.q l).2.2) (F.cO (dM s.c.t s.c.q l).2.2 B hB)/\sJ C [.agg (dA (dM s.c.t s.c.q l).1),.int .i64 2,.int .i64 m.seq] k (bV (cO s (dM s.c.t s.c.q l).2.2)) (F.cO (dM s.c.t s.c.q l).2.2 B hB) λv s2 F2=>cF k s2 F2/\oX [.int .i64 l,.int .i64 m.seq] k (bV s2) F2 λv s' F'=>cX k s Kb (.aD []) (bP k s' F'++[⟨af,⟨204,(0,0)⟩,dw m⟩,⟨af,⟨121,(0,0)⟩,dA (dM s.c.t s.c.q l).1⟩]) [bj k s' F'])):=kR
abbrev je(s:ai)(k:LK)(l:Int)(m:ca):Sd.Tok×Int×Int×List Sd.Ask:=iC s.c.p s.c.t k.most s.c.q l m.now
def aqD(l:Int)(m:ca):bz (bU du gS (L4 fr C)) 60 132 [.ptr 2 0,.int .i64 l,.agg (dw m)] (bP k s F) [bj k s F] (cX k s Kb)
 =((vq k=vq k/\(cq s.c.t.au/\k.most<=3/\(∀e∈s.c.q,e.source=l\/¬e.cd=placeOf s.c.p l)/\(1<=s.c.p.i 45/\s.c.p.i 45<=1000)))/\∀B(hB:QS k.bq k.most (je s k l m).2.2.2 B),
  cond ((je s k l m).2.2.1!=0) (cF k (cO s (je s k l m).2.2.2) (F.cO (je s k l m).2.2.2 B hB)/\nz C [.int .i64 l,.int .i64 m.seq,.int .i64 (je s k l m).2.2.1] k (bV (cO s (je s k l m).2.2.2)) (F.cO (je s k l m).2.2.2 B hB) λv s' F'=>cX k s Kb (.aD []) (bP k s' F'++[⟨af,⟨204,(0,0)⟩,dw m⟩,⟨af,⟨121,(0,0)⟩,dA (je s k l m).1⟩]) [bj k s' F'])
  (cond (decide ((je s k l m).2.1>0)) (cF k (cO s (je s k l m).2.2.2) (F.cO (je s k l m).2.2.2 B hB)/\sJ C [.agg (dA (je s k l m).1),.int .i64 (je s k l m).2.1,.int .i64 m.seq] k (bV (cO s (je s k l m).2.2.2)) (F.cO (je s k l m).2.2.2 B hB) λv s2 F2=>cF k s2 F2/\oX [.int .i64 l,.int .i64 m.seq] k (bV s2) F2 λv s' F'=>cX k s Kb (.aD []) (bP k s' F'++[⟨af,⟨204,(0,0)⟩,dw m⟩,⟨af,⟨121,(0,0)⟩,dA (je s k l m).1⟩]) [bj k s' F'])
  (cF k (gP (cO s (je s k l m).2.2.2) (je s k l m).1) (F.cO (je s k l m).2.2.2 B hB)/\jm C [.int .i64 10,.int .i64 l,.int .i64 m.seq,.int .i64 0,.int .i64 0] k (bV (gP (cO s (je s k l m).2.2.2) (je s k l m).1)) (F.cO (je s k l m).2.2.2 B hB) λv s2 F2=>cF k s2 F2/\oX [.int .i64 l,.int .i64 m.seq] k (bV s2) F2 λv s' F'=>cX k s Kb (.aD []) (bP k s' F'++[⟨af,⟨204,(0,0)⟩,dw m⟩,⟨af,⟨121,(0,0)⟩,dA (je s k l m).1⟩]) [bj k s' F']))):=kR
end
structure TB(t:Sd.Tok):Prop where
 h:N4 t.aS
 e:wD t.au
def C3{t:Sd.Tok}(h:TB t)(o:Int):TB (t.dT o).1/\N8 (t.dT o).2:=by
 obtain⟨⟨h1,h2⟩,h3,h4⟩:=h;unfold Sd.Tok.dT;split
 ·exact⟨⟨⟨h1,h2⟩,h3,h4⟩,by simp[N8]⟩
 ·split
  ·exact⟨⟨⟨h1,h2⟩,h3,h4⟩,by simp[N8]⟩
  ·split
   ·exact⟨⟨⟨h1,h2⟩,h3,h4⟩,by simp[N8]⟩
   ·exact⟨⟨⟨by simp only[Sd.Tok.pass];omega,by simp only[Sd.Tok.pass];omega⟩,by simp only[Sd.Tok.pass];omega,by simp only[Sd.Tok.pass];omega⟩,by simp[N8]⟩
def aqE{t:Sd.Tok}(h:TB t)(l e:Int):TB (t.accept l e).1/\N8 (t.accept l e).2:=by
 unfold Sd.Tok.accept;split
 ·exact⟨h,by simp[N8]⟩
 ·split
  ·exact⟨h,by simp[N8]⟩
  ·exact C3 h l
def aqF{t:Sd.Tok}(h:TB t)(l:Int):TB (t.gE l).1/\N8 (t.gE l).2:=by
 unfold Sd.Tok.gE;split
 ·exact⟨h,by simp[N8]⟩
 ·exact⟨⟨h.h,h.e⟩,by simp[N8]⟩
def aqG{t:Sd.Tok}(h:TB t)(p:aX)(l o:Int)(b:Bool):TB (Sd.Tok.make p t l o b).1/\N8 (Sd.Tok.make p t l o b).2:=by
 unfold Sd.Tok.make
 repeat' split
 all_goals first|exact⟨h,by simp[N8]⟩|exact⟨⟨h.h,h.e⟩,by simp[N8]⟩
def adx{t:Sd.Tok}(h:TB t)(q:List Sd.Ask):TB (gk t q).1/\N8 (gk t q).2.1:=by
 unfold gk;split
 ·exact⟨h,by simp[N8]⟩
 ·split
  ·exact⟨h,(C3 h _).2⟩
  ·exact⟨(C3 h _).1,by simp[N8]⟩
def ady{t:Sd.Tok}(h:TB t)(q:List Sd.Ask)(l:Int):TB (dM t q l).1/\N8 (dM t q l).2.1:=by
 unfold dM;split
 ·exact⟨h,by simp[N8]⟩
 ·split
  ·exact⟨h,by simp[N8]⟩
  ·exact adx h q
def adz{t:Sd.Tok}{q:List Sd.Ask}{l:Int}(h:(dM t q l).2.1≠0):(dM t q l).2.2=q:=by
 unfold dM at h⊢;split
 ·rfl
 ·split
  ·rfl
  ·rename_i h1 h2;rw[if_neg h1,if_neg h2]at h;unfold gk at h⊢;split
   ·rfl
   ·split
    ·rfl
    ·rename_i a q' h3;simp only[if_neg h3,ne_eq,not_true_eq_false]at h
def aqH(most:Int)(q:List Sd.Ask)(a:Sd.Ask):N8 (Sd.Q.push most q a).2:=by
 unfold Sd.Q.push
 repeat' split
 all_goals simp[N8]
def aqI{most:Int}{q:List Sd.Ask}{a:Sd.Ask}(h:(Sd.Q.push most q a).2≠0):(Sd.Q.push most q a).1=q:=by
 unfold Sd.Q.push at h⊢;split
 ·rfl
 ·split
  ·rfl
  ·rename_i h1 h2;simp[if_neg h1,if_neg h2]at h
def aqJ{p:aX}{t:Sd.Tok}(h:TB t)(most:Int)(q:List Sd.Ask)(f:Int)(nw:Bool):TB (iC p t most q f nw).1/\N8 (iC p t most q f nw).2.2.1:=by
 unfold iC
 repeat' split
 all_goals first|exact⟨h,(C3 h _).2⟩|exact⟨h,aqH _ _ _⟩|exact⟨(C3 h _).1,show N8 0 from z8⟩|exact⟨h,show 0<=_/\_<=255 by simp⟩
def aqK{p:aX}{t:Sd.Tok}{most:Int}{q:List Sd.Ask}{f:Int}{nw:Bool}(h:(iC p t most q f nw).2.2.1≠0):(iC p t most q f nw).2.2.2=q:=by
 unfold iC at h⊢
 repeat' split
 all_goals first|rfl|skip
 ·rename_i h1 h2 h3 h4 h5;simp only[if_neg h1,if_neg h2,if_neg h3,if_pos h4,if_neg h5,ne_eq,not_true_eq_false]at h
 ·rename_i h1 h2 h3 h4 h5;simp only[if_neg h1,if_neg h2,if_neg h3,if_neg h4,if_neg h5]at h;exact aqI h
def tb{c:Sd.Core}(h:Sd.Inv c):TB c.t:=⟨⟨h.tok.aS.1,by have:=h.tok.aS.2;omega⟩,by have:=h.tok.au.1;have:=h.p.au.1;omega,h.tok.au.2⟩
def TB.b{t:Sd.Tok}(h:TB t):cq t.au:=⟨by have:=h.e.1;omega,by have:=h.e.2;omega⟩
def qi(C:aM)(s:ai)(t:Sd.Tok)(h n:Int):(s.goes C t h n).c.p=s.c.p:=by
 show(ai.eK _ _ _).c.p=_;rw[kU,kU]
def Rm.goes{C:aM}{s:ai}{t:Sd.Tok}{h n:Int}{m:Nat}(hh:Rm s (m+3)):Rm (s.goes C t h n) m:=by
 have h1:Rm ({s with c:={s.c with t:=t,q:=Sd.Q.drop s.c.q t.aS}}:ai) (m+3):=hh;exact(Rm.eK (Rm.eK h1)).rec
def sL{n:Int}(h:(n !=0)=af):n≠0:=by simpa using h
def vj{n:Int}(h:(n !=0)=ah):¬n≠0:=by simpa using h
structure Sy(s:ai)(l:Int)(m:ca):Prop where
 r:Rm s 8
 i:Sd.Inv s.c
 n:wF m.seq
 l1:1<=l
 l3:l<=3
def kr(act:ai->Int->ca->ai):SM fr:=λar k s F K=>match ar with
 |[.int .i64 l,.agg ml]=>(match Fc ml with
  |some m=>Sy s l m/\∀F',K (.aD []) (act s l m) F'
  |none=>False)
 |_=>False
def C4{tk:Nat->az->Option ca}{act:ai->Int->ca->ai}{f n:Nat}{L:List (bT (Gh fr))}(hL:aK du gS L)
 (h:∀(l:Int)(m:ca)(k:LK)(s:ai)(F:bx fr (bd k s))(Kb:SK fr k),s.c.p.queue=k.most->Sy s l m->(∀F',Kb (.aD []) (act s l m) F')->bz (bU du gS L) n f [.ptr 2 0,.int .i64 l,.agg (dw m)] (bP k s F) [bj k s F] (cX k s Kb)):Body f (kr (fr:=fr) act):=by
 refine mQ (n:=n) hL ?_;intro ar k s F Kb h0 hq hM;unfold kr at hM;split at hM
 ·rename_i l ml;split at hM
  ·rename_i m hm;obtain rfl:=Nn hm;exact h l m k s F Kb hq hM.1 hM.2
  ·exact hM.elim
 ·exact hM.elim
def NW{s:ai}{q:List Sd.Ask}(h:q=s.c.q):cO s q=s:=by subst h;rfl
def VL(C:aM)(s:ai)(l:Int)(m:ca)(R:Sd.Tok×Int×Int×List Sd.Ask)(h:R=iC s.c.p s.c.t s.c.p.queue s.c.q l m.now):
 s.ask C l m=if R.2.2.1≠0 then s.refuse C l m.seq R.2.2.1 else(if 0<R.2.1 then(cO s R.2.2.2).goes C R.1 R.2.1 m.seq else(gP (cO s R.2.2.2) R.1).record C 10 l m.seq 0 0).done l m.seq:=by subst h;rfl
section
variable(tk:Nat->az->Option ca)(ht:Body (fr:=fr) 124 dE)
include tk ht
def aqL:Body (fr:=fr) 130 (kr λs l m=>s.done l m.seq):=by
 refine C4 (tk:=tk) (n:=60) (C2 tk ht) ?_;intro l m k s F Kb hq hS hK;rw[aqy];exact⟨cV hq,wH ⟨hS.r.le dC,hS.n⟩ λF1=>eW rfl hK F1⟩
def aqM:Body (fr:=fr) 134 (kr λs l m=>s.accept (aO tk) l m):=by
 refine C4 (tk:=tk) (n:=60) (C2 tk ht) ?_;intro l m k s F Kb hq hS hK;have hb:=aqE (tb hS.i) l m.au;rw[aqz];refine⟨(tb hS.i).b,aN (λe=>⟨cV hq,AX ⟨hS.r.le dC,hS.n,hb.2⟩ λF1=>eW (if_pos (sL e)).symm hK F1⟩) (λe=>⟨cV hq,C1 ⟨hS.r.le dC,hb.1.h,hb.1.e⟩ λF2=>⟨cV ?_,wH ⟨hS.r.goes.le dC,hS.n⟩ λF3=>eW (if_neg (vj e)).symm hK F3 (hp:=qi _ _ _ _ _)⟩⟩)⟩;rw[qi];exact hq
def aqN:Body (fr:=fr) 135 (kr λs l m=>s.gE (aO tk) l m):=by
 refine C4 (tk:=tk) (n:=60) (C2 tk ht) ?_;intro l m k s F Kb hq hS hK;have hb:=aqF (tb hS.i) l;have h1:Rm (gP s (s.c.t.gE l).1) 8:=hS.r;rw[aqA];refine⟨trivial,aN (λe=>⟨cV hq,AX ⟨hS.r.le dC,hS.n,hb.2⟩ λF1=>eW (if_pos (sL e)).symm hK F1⟩) (λe=>⟨cV hq,I5 ⟨h1.le dC,⟨by have:=hS.l1;omega,by have:=hS.l3;omega⟩,z8⟩ λF2=>⟨cV ?_,nA h1.gone.r1 λF3=>⟨cV ?_,wH ⟨(h1.gone.rec).le dC,hS.n⟩ λF4=>eW (if_neg (vj e)).symm hK F4 (hp:=?_)⟩⟩⟩)⟩
 ·rw[mg];exact hq
 ·show(ai.gone _ _ _ _).c.p.queue=_;rw[mg];exact hq
 ·show(ai.gone _ _ _ _).c.p=_;rw[mg];rfl
def aqO:Body (fr:=fr) 133 (kr λs l m=>s.offer (aO tk) l m):=by
 refine C4 (tk:=tk) (n:=60) (C2 tk ht) ?_;intro l m k s F Kb hq hS hK;have hb:=aqG (tb hS.i) s.c.p l m.bC (s.c.ay.on m.bC);have h1:Rm (gP s (Sd.Tok.make s.c.p s.c.t l m.bC (s.c.ay.on m.bC)).1) 8:=hS.r;rw[aqB,Vu];refine⟨trivial,hS.i.p,aN (λe=>⟨cV hq,AX ⟨hS.r.le dC,hS.n,hb.2⟩ λF1=>eW (if_pos (sL e)).symm hK F1⟩) (λe=>⟨cV hq,NP ⟨h1.le dC,rb dC yT ⟨by have:=hS.l1;omega,by have:=hS.l3;omega⟩ hb.1.e z8⟩ λF2=>⟨cV ?_,nA h1.eK.r1 λF3=>⟨cV ?_,wH ⟨(h1.eK.rec).le dC,hS.n⟩ λF4=>eW (if_neg (vj e)).symm hK F4 (hp:=?_)⟩⟩⟩)⟩
 ·rw[kU];exact hq
 ·show(ai.eK _ _ _).c.p.queue=_;rw[kU];exact hq
 ·show(ai.eK _ _ _).c.p=_;rw[kU];rfl
def aqP:Body (fr:=fr) 136 (kr λs l m=>s.release (aO tk) l m):=by
 refine C4 (tk:=tk) (n:=60) (C2 tk ht) ?_;intro l m k s F Kb hq hS hK;have hb:=ady (tb hS.i) s.c.q l;have h1:Rm (cO s (dM s.c.t s.c.q l).2.2) 8:=hS.r;rw[aqC];refine⟨⟨rfl,(tb hS.i).b⟩,λB hB=>aN (λe=>⟨cV hq,AX ⟨h1.le dC,hS.n,hb.2⟩ λF1=>eW ?_ hK F1⟩) (λe=>⟨cV hq,C1 ⟨h1.le dC,hb.1.h,hb.1.e⟩ λF2=>⟨cV ?_,wH ⟨h1.goes.le dC,hS.n⟩ λF3=>eW (if_neg (vj e)).symm hK F3 (hp:=qi _ _ _ _ _)⟩⟩)⟩
 ·rw[NW (adz (sL e))];exact(if_pos (sL e)).symm
 ·rw[qi];exact hq
def aqQ:Body (fr:=fr) 132 (kr λs l m=>s.ask (aO tk) l m):=by
 refine C4 (tk:=tk) (n:=60) (C2 tk ht) ?_;intro l m k s F Kb hq hS hK;have hb:=aqJ (p:=s.c.p) (tb hS.i) k.most s.c.q l m.now;have h1:Rm (cO s (je s k l m).2.2.2) 8:=hS.r;have h2:Rm (gP (cO s (je s k l m).2.2.2) (je s k l m).1) 8:=hS.r;have VM:je s k l m=iC s.c.p s.c.t s.c.p.queue s.c.q l m.now:=by rw[je,hq]
 rw[aqD];refine⟨⟨rfl,(tb hS.i).b,by rw[<-hq];exact hS.i.p.queue.2,?_,hS.i.p.ask⟩,λB hB=>aN (λe=>⟨cV hq,AX ⟨h1.le dC,hS.n,hb.2⟩ λF1=>eW ?_ hK F1⟩) (λe=>aN (λe2=>⟨cV hq,C1 ⟨h1.le dC,hb.1.h,hb.1.e⟩ λF2=>⟨cV ?_,wH ⟨h1.goes.le dC,hS.n⟩ λF3=>eW ?_ hK F3 (hp:=qi _ _ _ _ _)⟩⟩)
  (λe2=>⟨cV hq,nA h2.r1 λF2=>⟨cV hq,wH ⟨h2.rec.le dC,hS.n⟩ λF3=>eW ?_ hK F3⟩⟩))⟩
 ·intro a ha;by_cases hs:a.source=l
  ·exact .inl hs
  ·refine .inr λhr=>hs ?_;have h:=hS.i.q.each a ha;have h1:=hS.l1;have h3:=hS.l3;exact Sd.Z6 hS.i.p ⟨oM,oM⟩ ⟨oM,oM⟩ (by rw[<-hr,h.1];rfl)
 ·rw[NW (aqK (sL e)),VL _ _ _ _ _ VM];exact(if_pos (sL e)).symm
 ·rw[qi];exact hq
 ·have e3:0<(je s k l m).2.1:=by simpa using e2
  rw[VL _ _ _ _ _ VM,if_neg (vj e),if_pos e3]
 ·have e3:¬0<(je s k l m).2.1:=by simpa using e2
  rw[VL _ _ _ _ _ VM,if_neg (vj e),if_neg e3]
end
structure QT where
 f:Nat
 m:List V->TC->Option (Prop×V×aT)
def oY(t:aT)(b m:Int):TC:=⟨t.dv.1,t.dv.2.n,t.dv.2.most,t.aE 0,t.aE 1,t.aE 2,b,m⟩
def Fs(x:QT):dm (Gh fr):=λak bl ch K=>match ak with
 |.ptr it 0::ar=>(match bl[it]?with
  |some ⟨af,⟨181,(0,0)⟩,tc⟩=>(match tZ tc with
   |some y=>(match x.m ar y with
    |some (p,v,t)=>cond (bF 0 ar&&dg 0 v) (p/\K v (bl.set it ⟨af,⟨181,(0,0)⟩,db (oY t y.b y.m)⟩) ch) False
    |none=>False)
   |none=>False)
  |_=>False)
 |_=>False
def QT.Ok(x:QT):Prop:=∀(ar:List V)(y:TC)(p:Prop)(v:V)(t:aT),x.m ar y=aa (p,v,t)->p->∀(bt:Nat)(bs:List av)(ms:List Nat)(w0 w:an),St ms w0 ([⟨bt,af,.cells (kI (bQ y).dv (bQ y).aE y.b y.m) 181 (0,0)⟩]++bs) w->
 ba du x.f (aJ [bt] (.ptr 0 0::ar)).toArray w λu w1=>u=den [] v/\St ms w0 ([⟨bt,af,.cells (kI t.dv t.aE y.b y.m) 181 (0,0)⟩]++bs) w1
def VN{bl:List VB}{ae:List Nat}(h:ae.length=bl.length){i:Nat}(hi:i<bl.length):
 ∃r:List Nat,(∀j∈r,j≠i)/\∀b9:List VB,b9.length=bl.length->(lits ae ae b9).Perm (aI ae (ae.getD i 0) (b9.getD i fp)::r.map λj=>aI ae (ae.getD j 0) (b9.getD j fp)):=by
 obtain⟨r,h1,h2⟩:=Fo h (is:=[i]) sP (by simp[hi]);exact⟨r,λj hj=>by simpa using h1 j hj,λb9 hl=>by simpa using h2 b9 hl⟩
def aqR{x:QT}(h:x.Ok)(gl:Nat->Option Nat):Sound du gl x.f (Fs (fr:=fr) x):=by
 intro ak ae bl ch R ms w0 w K hg hl S hc;unfold Fs at hc;split at hc
 ·rename_i it ar;split at hc
  ·rename_i tc hb;split at hc
   ·rename_i y hy;split at hc
    ·rename_i p v t hm;cases hq:bF 0 ar&&dg 0 v with
     |false=>rw[hq]at hc;exact hc.elim
     |true=>
      rw[hq]at hc;simp only[bJ]at hq;obtain⟨hp,hK⟩:=hc;obtain rfl:=yO hy;have hi:=mj hb;obtain⟨r,hr,kJ⟩:=VN hl hi;have a1:aJ ae (.ptr it 0::ar)=aJ [ae.getD it 0] (.ptr 0 0::ar):=by
       have b1:aJ ae ar=aJ [] ar:=by have:=pL (ae:=[]) (aq:=ae) ar hq.1;simpa using this
       have b2:aJ [ae.getD it 0] ar=aJ [] ar:=by have:=pL (ae:=[]) (aq:=[ae.getD it 0]) ar hq.1;simpa using this
       simp only[aJ,den,b1,b2];rfl
      have e1:aI ae (ae.getD it 0) (bl.getD it fp)=⟨ae.getD it 0,af,.cells (kI (bQ y).dv (bQ y).aE y.b y.m) 181 (0,0)⟩:=by rw[lF hb];kernel_rfl
      have p1:=kJ bl rfl;rw[e1]at p1;have S1:=S.perm (p1.append_right _);rw[a1];refine(h ar y p v t hm hp _ _ ms w0 w S1).mono ?_;rintro u w1 ⟨rfl,S2⟩;refine⟨v,[],_,ch,?_,by simp[hl],?_,hK⟩
      ·have:=gX (ae:=[]) (aq:=ae++[]) v hq.2;simpa using this.symm
      ·simp only[cy];refine S2.perm ?_;have p2:=kJ (bl.set it ⟨af,⟨181,(0,0)⟩,db (oY t y.b y.m)⟩) sP;have e2:aI ae (ae.getD it 0) ((bl.set it ⟨af,⟨181,(0,0)⟩,db (oY t y.b y.m)⟩).getD it fp)=⟨ae.getD it 0,af,.cells (kI t.dv t.aE y.b y.m) 181 (0,0)⟩:=by rw[lF (AV hi)];kernel_rfl
       have e3:(r.map λj=>aI ae (ae.getD j 0) ((bl.set it ⟨af,⟨181,(0,0)⟩,db (oY t y.b y.m)⟩).getD j fp))=r.map λj=>aI ae (ae.getD j 0) (bl.getD j fp):=by
        apply mB;intro j hj;simp only[gh];rw[oh (Ne.symm (hr j hj))]
       rw[e2,e3]at p2;exact p2.symm.append_right _
    ·exact hc.elim
   ·exact hc.elim
  ·exact hc.elim
 ·exact hc.elim
def VO{x:QT}(h:x.Ok):wb (G:=Gh fr) du gS ⟨x.f,ah,Fs x⟩:=⟨aqR h gS,λe=>by cases e⟩
def adA:QT:=⟨176,λar y=>match ar with
 |[.int .i64 s]=>aa (True,.bool ((bQ y).iZ s),(bQ y).end_ s)
 |_=>ag⟩
def aqS:adA.Ok:=by
 intro ar y p v t hm hp bt bs ms w0 w S;replace hm:(match(generalizing:=false) ar with
  |[.int .i64 s]=>aa (True,V.bool ((bQ y).iZ s),(bQ y).end_ s)
  |_=>ag)=aa (p,v,t):=hm
 split at hm
 ·simp only[a_,bI]at hm;obtain⟨rfl,rfl,rfl⟩:=hm;exact apQ y _ S
 ·cases hm
def adB:QT:=⟨96,λar y=>match ar with
 |[]=>aa (0<=y.b/\y.b<=1000,.aD [],{bQ y with dv:=(af,.start y.b)})
 |_=>ag⟩
def aqT:adB.Ok:=by
 intro ar y p v t hm hp bt bs ms w0 w S;replace hm:(match(generalizing:=false) ar with
  |[]=>aa (0<=y.b/\y.b<=1000,V.aD [],{bQ y with dv:=(af,.start y.b)})
  |_=>ag)=aa (p,v,t):=hm
 split at hm
 ·simp only[a_,bI]at hm;obtain⟨rfl,rfl,rfl⟩:=hm;exact apS y hp S
 ·cases hm
def Ft(g:Nat):Option Nat:=bif aC g 1 then aa 0 else ag
def I9:List V:=[.bool ah,.bool ah,.bool ah,.bool ah,.bool ah,.bool ah,.bool ah,.bool ah,.bool ah,.bool ah,.bool af,.bool af]
def VP(ka:Nat->Option aF)(kn kc:Nat->Nat)(T:aP)(p:aX)(t:Sd.Tok)(s r mo:Int)(m:ca)(K:VK Empty):Prop:=bz (bU du Ft (qL Empty QV)) 60 140 [.agg [.fi p ka kn kc],.agg (dA t),.int .i64 s,.int .i64 r,.int .i64 mo,.agg (dw m)] [⟨ah,⟨T,(0,0)⟩,I9⟩] [] K
def adC(ka:Nat->Option aF)(kn kc:Nat->Nat)(T:aP)(p:aX)(t:Sd.Tok)(s r mo:Int)(m:ca)(K:VK Empty):
 VP ka kn kc T p t s r mo {m with kind:=10} (bG 0 K)=cond (s !=t.aS) (K (.int .i64 20) [] []) (cond (m.au !=t.au) (K (.int .i64 21) [] []) (True/\cond (!Sd.may p mo r 0) (K (.int .i64 22) [] []) (True/\cond (!Sd.goes p mo m.mode) (K (.int .i64 23) [] []) (K (.int .i64 0) [] []))))/\
 VP ka kn kc T p t s r mo {m with kind:=11} (bG 0 K)=cond (s !=t.aS) (K (.int .i64 20) [] []) (cond (m.au !=t.au) (K (.int .i64 21) [] []) (True/\cond (!Sd.may p mo r m.cls) (K (.int .i64 22) [] []) (K (.int .i64 0) [] []))):=⟨kR,kR⟩
def adD(ka:Nat->Option aF)(kn kc:Nat->Nat){T:aP}(p:aX)(t:Sd.Tok)(s r mo:Int)(m:ca){v:V}(hv:VP ka kn kc T p t s r mo m (bG 0 λx _ _=>x=v))(hw:dg 0 v=af){w:an}(hC:w.heap[1]?=aa (.cells (ao [] I9).toArray T (0,0))):
 ba du 140 (aJ [1] [.agg [.fi p ka kn kc],.agg (dA t),.int .i64 s,.int .i64 r,.int .i64 mo,.agg (dw m)]).toArray w λx w1=>x=den [] v/\Ch [] w w1:=by
 have S:=St.given (w:=w) [(1,.cells (ao [1] I9).toArray T (0,0))] (by intro p hp;simp only[jS]at hp;subst hp;exact hC);refine(eO (kG (AQ Ft)).T (kG (AQ Ft)).Q 60 (C:=bU du Ft (qL Empty QV)) (ae:=[1]) (bl:=[⟨ah,⟨T,(0,0)⟩,I9⟩]) (ch:=[]) (R:=[]) (λg i h=>?_) rfl S hv).mono ?_
 ·replace h:Ft g=aa i:=h;unfold Ft at h;cases hg:aC g 1 with
  |false=>rw[hg]at h;cases h
  |true=>rw[hg]at h;cases h;exact⟨sP,(cw hg).symm⟩
 ·rintro x w' ⟨y,aq,b9,ce,rfl,h1,S',hK⟩;obtain⟨v2,cj,ci,e,cK,S2,rfl⟩:=ig (n0:=0) h1 sP S' hK;exact⟨e.trans (gX (ae:=[]) _ hw),S'.ch⟩
def aqU(p:aX)(ka:Nat->Option aF)(kn kc:Nat->Nat)(t:Sd.Tok)(s r mo:Int)(m:ca)(hk:m.kind=10\/m.kind=11){T:aP}{w:an}(hC:w.heap[1]?=aa (.cells (ao [] I9).toArray T (0,0))):
 ba du 140 (aJ [1] [.agg [.fi p ka kn kc],.agg (dA t),.int .i64 s,.int .i64 r,.int .i64 mo,.agg (dw m)]).toArray w λx w1=>x=den [] (.int .i64 (oK p t s r mo m))/\Ch [] w w1:=by
 rcases hk with hk|hk
 ·have e:m={m with kind:=10}:=by cases m;simp only at hk;subst hk;rfl
  rw[e];refine adD ka kn kc p t s r mo _ ?_ rfl hC;rw[(adC ka kn kc T p t s r mo m _).1];unfold oK;rw[if_neg sP];refine aN (λh=>by rw[if_pos (by simpa using h)]) (λh=>?_);rw[if_neg (by simpa using h)];refine aN (λh=>by rw[if_pos (by simpa using h)]) (λh=>⟨trivial,?_⟩);rw[if_neg (by simpa using h)];refine aN (λh=>by rw[if_pos (by simpa using h)]) (λh=>⟨trivial,?_⟩);rw[if_neg (by simpa using h)];exact aN (λh=>by rw[if_pos (by simpa using h)]) (λh=>by rw[if_neg (by simpa using h)])
 ·have e:m={m with kind:=11}:=by cases m;simp only at hk;subst hk;rfl
  rw[e];refine adD ka kn kc p t s r mo _ ?_ rfl hC;rw[(adC ka kn kc T p t s r mo m _).2];unfold oK;rw[if_neg sP];refine aN (λh=>by rw[if_pos (by simpa using h)]) (λh=>?_);rw[if_neg (by simpa using h)];refine aN (λh=>by rw[if_pos (by simpa using h)]) (λh=>⟨trivial,?_⟩);rw[if_neg (by simpa using h)];refine aN (λh=>by rw[if_pos (by simpa using h)]) (λh=>?_);rw[if_neg (by simpa using h),if_neg sP]
def NX:QF:=⟨140,λak bl=>match ak with
 |[.agg [.fi p ka kn kc],.agg tl,.int .i64 s,.int .i64 r,.int .i64 mo,.agg ml]=>(match lD tl,Fc ml,bl[1]?with
  |some t,aa m,aa (VB.mk _ (BT.mk _ (0,0)) bc)=>aa ((m.kind=10\/m.kind=11)/\bc=[.bool ah,.bool ah,.bool ah,.bool ah,.bool ah,.bool ah,.bool ah,.bool ah,.bool ah,.bool ah,.bool af,.bool af],.int .i64 (oK p t s r mo m))
  |_,_,_=>ag)
 |_=>ag⟩
def aqV:NX.Ok du gS:=by
 intro ak bl p_ v_ h hp ae w hg hm;unfold NX at h;dsimp only at h;split at h
 ·rename_i p ka kn kc tl s r mo ml;split at h
  ·rename_i t m _ _ bc ht tD hb;simp only[a_,bI]at h;obtain⟨rfl,rfl⟩:=h;obtain rfl:=qc ht;obtain rfl:=Nn tD;obtain⟨hk,hc⟩:=hp;have h2:=hm.2 1 _ hb;rw[(hg 1 1 rfl).2,hc]at h2;exact told (aqU p ka kn kc t s r mo m hk h2)
  ·cases h
 ·cases h
def L5(fr:aQ->Nat×az)(C:aM):List (bT (Gh fr)):=⟨176,ah,Fs adA⟩::⟨96,ah,Fs adB⟩::qE (Gh fr) NX::L4 fr C
def Fu(tk:Nat->az->Option ca)(ht:Body (fr:=fr) 124 dE):aK du gS (L5 fr (aO tk)):=
 aK.cons (VO aqS) (aK.cons (VO aqT) (aK.cons ⟨Mr aqV,λ_=>Mq NX.F⟩ (C2 tk ht)))
end
section
def NY(d:Fd)(k:Nat):List V:=[.int .i64 d.sz,.int .i64 d.low,.int .i64 d.high,.fn (bif d.b then 233 else 235) [] [.ptr k 0],.fn (bif d.b then 234 else 236) [] [.ptr k 0]]
def I_:List Fd->Nat->List V
 |[],_=>[]
 |d::l,k=>NY d k++I_ l (k+1)
def C5(i:Nat):List Fd->List VB
 |[]=>[]
 |d::l=>⟨af,bif d.b then 309 else 307,[.ptr i d.at_]⟩::C5 i l
def NZ:Option (List aj)->List V
 |none=>[]
 |some t=>[.rest t]
def sO(l:List Fd)(u:Option (List aj))(i b:Nat):List VB:=⟨af,⟨305,(0,0)⟩,I_ l (b+1)++NZ u⟩::C5 i l
def N0(kd:Int)(T11:(Nat->Option (List aj)->Prop)->Prop)(k:List Fd->Nat->Option (List aj)->Prop)(k0:Prop):Prop:=
 cond (kd==1) (k [CM] 1 ag) (cond (kd==2) (k [CM] 1 ag) (cond (kd==3) (k [kp] 1 ag) (cond (kd==4) (k [kp] 1 ag) (cond (kd==8) (k [kp] 1 ag) (cond (kd==9) (k [kp] 1 ag) (cond (kd==5) (k [kp,Fi] 2 ag) (cond (kd==6) (k [kp,Fg] 2 ag) (cond (kd==7) (k [kp,sj] 2 ag)
  (cond (kd==10) (k [kp,sj,Fh] 3 ag) (cond (kd==11) (T11 λc u=>k [kp,sj,wz,fX 0,fX 1,fX 2,fX 3] c u) k0))))))))))
def wI(n c:Nat)(a:List V)(k:Nat->List aj->Prop):Prop:=(n<=c/\cM a=c*5)/\(∀(c':Nat)(u:List aj),n+1<=c'->cM (AR (n+1)++[.rest u])=c'*5->k c' u)/\(∀(c':Nat)(u:List aj),n+1<=c'->cM (AR (n+1)++[.rest u])=c'*5->k c' u)
def yV(n:Nat)(u:List aj):List V:=AR n++[.rest u]
def adE(k:Nat->Option (List aj)->Prop):Prop:=wI 3 3 (AR 3) λc u=>wI 4 c (yV 4 u) λc u=>wI 5 c (yV 5 u) λc u=>wI 6 c (yV 6 u) λc u=>k c (aa u)
def vm(m:ca):VB:=⟨af,⟨204,(0,0)⟩,dw m⟩
def aqW(X:VK Empty)(m:ca)(l:List Fd)(c:Nat)(u:Option (List aj)):Prop:=X (.aD [.sl 1 0 l.length c,.bool af]) (vm m::sO l u 0 1) []
def aqX(m:ca)(X:VK Empty):bz (tQ du nk (qL Empty [])) 60 160 [.ptr 0 0] [vm m] [] (bG 1 X)=N0 m.kind adE (aqW X m) (X (.aD [.raw (.slice ag 0 0),.bool ah]) [vm m] []):=kR
def adF(k:Nat->Option (List aj)->Prop):Prop:=∀(c:Nat)(u:List aj),7<=c->k c (aa u)
def VQ{G:Type}:dm G:=λak bl ch K=>match ak with
 |[.ptr i 0]=>(match bl[i]?with
  |some b=>(match Fc b.c with
   |some m=>cond (Ab b.ty 204&&(b.wr&&bY bl.length bl)) (N0 m.kind adF (λl c u=>K (.aD [.sl bl.length 0 l.length c,.bool af]) (bl++sO l u i bl.length) ch) (K (.aD [.raw (.slice ag 0 0),.bool ah]) bl ch)) False
   |none=>False)
  |none=>False)
 |_=>False
def aqY{kd:Int}{A B:(Nat->Option (List aj)->Prop)->Prop}{k k':List Fd->Nat->Option (List aj)->Prop}{k0 k0':Prop}(hA:∀q q':Nat->Option (List aj)->Prop,(∀c u,q c u->q' c u)->A q->B q')(hk:∀l c u,k l c u->k' l c u)(h0:k0->k0')(h:N0 kd A k k0):N0 kd B k' k0':=by
 have cm:∀{b:Bool}{X X' Y Y':Prop},(X->X')->(Y->Y')->cond b X Y->cond b X' Y':=by
  intro b X X' Y Y' h1 h2;cases b
  ·exact h2
  ·exact h1
 exact cm (hk _ _ _) (cm (hk _ _ _) (cm (hk _ _ _) (cm (hk _ _ _) (cm (hk _ _ _) (cm (hk _ _ _) (cm (hk _ _ _) (cm (hk _ _ _) (cm (hk _ _ _) (cm (hk _ _ _) (cm (hA _ _ λc u=>hk _ c u) h0)))))))))) h
def aqZ{q q':Nat->Option (List aj)->Prop}(hq:∀c u,q c u->q' c u)(h:adF q):adE q':=by
 refine⟨⟨dC,rfl⟩,?_⟩;have a4:∀(c':Nat)(u:List aj),3+1<=c'->cM (AR (3+1)++[.rest u])=c'*5->wI 4 c' (yV 4 u) λc u=>wI 5 c (yV 5 u) λc u=>wI 6 c (yV 6 u) λc u=>q' c (aa u):=by
  intro c1 u1 h1 s1;have a5:∀(c':Nat)(u:List aj),4+1<=c'->cM (AR (4+1)++[.rest u])=c'*5->wI 5 c' (yV 5 u) λc u=>wI 6 c (yV 6 u) λc u=>q' c (aa u):=by
   intro c2 u2 h2 s2;have a6:∀(c':Nat)(u:List aj),5+1<=c'->cM (AR (5+1)++[.rest u])=c'*5->wI 6 c' (yV 6 u) λc u=>q' c (aa u):=by
    intro c3 u3 h3 s3;exact⟨⟨h3,s3⟩,λc4 u4 h4 _=>hq _ _ (h c4 u4 h4),λc4 u4 h4 _=>hq _ _ (h c4 u4 h4)⟩
   exact⟨⟨h2,s2⟩,a6,a6⟩
  exact⟨⟨h1,s1⟩,a5,a5⟩
 exact⟨a4,a4⟩
def aq0{is js:List Nat}(d:Fd)(k k':Nat)(h:is.getD k 0=js.getD k' 0):ao is (NY d k)=ao js (NY d k'):=by
 simp only[NY,ao,cl,den,aJ,h]
def adG{is js:List Nat}:∀(l:List Fd)(k k':Nat),(∀j,is.getD (k+j) 0=js.getD (k'+j) 0)->ao is (I_ l k)=ao js (I_ l k')
 |[],_,_,_=>rfl
 |d::l,k,k',h=>by
  simp only[I_,kg];rw[aq0 d k k' (by simpa using h 0),adG l (k+1) (k'+1) (λj=>by have:=h (1+j);rwa [<-ux,<-ux]at this)]
def adH{is js:List Nat}{i i':Nat}(h:is.getD i 0=js.getD i' 0):∀(l:List Fd)(aq:List Nat),lits is aq (C5 i l)=lits js aq (C5 i' l)
 |[],aq=>by cases aq<;>rfl
 |d::l,[]=>rfl
 |d::l,x::aq=>by
  simp only[C5,lits,aI,ao,cl,den,h,adH h l aq]
def aq1{is js:List Nat}{i i' b b':Nat}(h:is.getD i 0=js.getD i' 0)(hb:∀j,is.getD (b+j) 0=js.getD (b'+j) 0)(l:List Fd)(u:Option (List aj))(aq:List Nat):lits is aq (sO l u i b)=lits js aq (sO l u i' b'):=by
 cases aq with
 |nil=>rfl
 |cons x aq=>
  have hu:ao is (NZ u)=ao js (NZ u):=by cases u<;>simp[NZ,ao,cl]
  simp only[sO,lits,aI,kg,hu,adH h l aq];rw[adG l (b+1) (b'+1) (λj=>by have:=hb (1+j);rwa [<-ux,<-ux]at this)]
def adI(l:List Fd)(u:Option (List aj))(i b:Nat):(sO l u i b).length=l.length+1:=by
 have:∀l:List Fd,(C5 i l).length=l.length:=by
  intro l;induction l with
  |nil=>rfl
  |cons d l ih=>simp[C5,ih]
 simp[sO,this]
def KF(m:ca)(P:List Fd->Nat->Option (List aj)->Prop)(P0:Prop):VK Empty:=λv bl ch=>ch=[]/\((∃l c u,P l c u/\v=.aD [.sl 1 0 l.length c,.bool af]/\bl=vm m::sO l u 0 1)\/(P0/\v=.aD [.raw (.slice ag 0 0),.bool ah]/\bl=[vm m]))
def aq2{G:Type}[Bl G](gl:Nat->Option Nat):Sound (G:=G) du gl 160 VQ:=by
 intro ak ae bl ch R ms w0 w K hg hl S hc;unfold VQ at hc;split at hc
 ·rename_i i;split at hc
  ·rename_i b hb;split at hc
   ·rename_i m hm;cases hq:Ab b.ty 204&&(b.wr&&bY bl.length bl)with
    |false=>rw[hq]at hc;exact hc.elim
    |true=>
     rw[hq]at hc;simp only[cond_true]at hc;simp only[bJ]at hq;obtain⟨q1,q2,q3⟩:=hq;have q1:=Ro q1;obtain⟨wr,ty,bc⟩:=b;simp only at q1 q2 hm;subst q1 q2;obtain rfl:=Nn hm;have hi:=mj hb;have hbb:=hb;obtain⟨r,hr,kJ⟩:=VN hl hi;have p1:=kJ bl rfl;have S1:=S.perm (p1.append_right _);rw[lF hb]at S1;have em:∀is:List Nat,ao is (dw m)=ao [] (dw m):=λis=>by have:=jI (ae:=[]) (aq:=is) (dw m) rfl;simpa using this
     have S2:St ms w0 (lits [ae.getD i 0] [ae.getD i 0] [vm m]++ax ([]:List Empty) ((r.map λj=>aI ae (ae.getD j 0) (bl.getD j fp))++ax ch R)) w:=by
      have e:lits [ae.getD i 0] [ae.getD i 0] [vm m]=[aI ae (ae.getD i 0) ⟨af,⟨204,(0,0)⟩,dw m⟩]:=by
       simp only[lits,aI,vm,em]
      rw[e];simpa[ax]using S1
     have hv:bz (tQ du nk (qL Empty [])) 60 160 [.ptr 0 0] [vm m] [] (bG 1 (KF m (λl c u=>K (.aD [.sl bl.length 0 l.length c,.bool af]) (bl++sO l u i bl.length) ch) (K (.aD [.raw (.slice ag 0 0),.bool ah]) bl ch))):=by
      rw[aqX];exact aqY (λq q' h=>aqZ h) (λl c u hP=>⟨rfl,.inl ⟨l,c,u,hP,rfl,rfl⟩⟩) (λhP=>⟨rfl,.inr ⟨hP,rfl,rfl⟩⟩) hc
     have main:=eO (G:=Empty) (aK.nil (P:=du) (gl:=nk)).TS (aK.nil).QS 60 (C:=tQ du nk (qL Empty [])) (ak:=[.ptr 0 0]) (λg i h=>by cases h) rfl S2 hv;have a1:(aJ ae [.ptr i 0]).toArray=(aJ [ae.getD i 0] [.ptr 0 0]).toArray:=rfl;rw[a1];refine main.mono ?_;rintro v w' ⟨x,aq,b9,ce,rfl,qg,S3,hgc⟩;obtain⟨v',cj,ci,ev,cK,S4,rfl,hk⟩:=ig (n0:=1) qg sP S3 hgc;rw[ev];have et:List.take 1 ([ae.getD i 0]++aq)=[ae.getD i 0]:=rfl;rw[et]at cK S4⊢;simp only[ax]at S4;have back:∀(M:List VB),lits ([ae.getD i 0]++cj) ([ae.getD i 0]++cj) (vm m::M)=aI ae (ae.getD i 0) ⟨af,⟨204,(0,0)⟩,dw m⟩::lits ([ae.getD i 0]++cj) cj M:=by
      intro M;simp only[xi,lits,aI,vm,em]
     rcases hk with⟨l,c,u,hP,rfl,rfl⟩|⟨hP,rfl,rfl⟩
     ·have dl:cj.length=(sO l u i bl.length).length:=by
       rw[adI];rw[jv,adI]at cK;simpa using cK
      have hb:∀j,([ae.getD i 0]++cj).getD (1+j) 0=(ae++cj).getD (bl.length+j) 0:=by
       intro j;rw[<-hl];simp[gh,vI,Nat.add_comm 1 j]
      have h0:([ae.getD i 0]++cj).getD 0 0=(ae++cj).getD i 0:=by
       exact(Eh (ae:=ae) (aq:=cj) (by rw[jQ,hl];exact hi)).symm
      refine⟨_,cj,_,ch,?_,by rw[fH,fH,hl,dl],?_,hP⟩
      ·have:=hb 0;simp only[lM]at this;simp only[den,aJ,this]
      ·rw[back]at S4;have e2:lits (ae++cj) (ae++cj) (bl++sO l u i bl.length)=lits ae ae bl++lits ([ae.getD i 0]++cj) cj (sO l u 0 1):=by
        rw[fw _ _ _ _ hl,fy _ _ (by rw[hl];exact q3),aq1 (i:=0) (i':=i) (b:=1) (b':=bl.length) h0 hb l u]
       rw[e2];refine S4.perm ?_;have p3:=(p1.symm.append_right (lits ([ae.getD i 0]++cj) cj (sO l u 0 1))).append_right (ax ch R);rw[lF hbb]at p3;refine xm ?_ p3;simp only[fe,bZ];refine vJ _ ?_;exact rG _ _ _
     ·refine⟨_,[],bl,ch,?_,by simpa using hl,?_,hP⟩
      ·simp[den,aJ]
      ·rw[cy];rw[back]at S4;have kE:cj=[]:=by cases cj with
        |nil=>rfl
        |cons=>simp at cK
       subst kE;refine S4.perm ?_;have p3:=p1.symm.append_right (ax ch R);rw[lF hb]at p3;exact p3
   ·exact hc.elim
  ·exact hc.elim
 ·exact hc.elim
end
end Go.Proofs.YtddcipamdggcnaaGreatDoor
