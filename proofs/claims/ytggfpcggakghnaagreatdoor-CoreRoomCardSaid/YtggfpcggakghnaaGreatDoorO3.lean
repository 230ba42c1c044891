/- Part 3 of the proof. -/
import Derived.Test.YtggfpcggakghnaaGreatDoorRows
import Derived.Test.YtggfpcggakghnaaGreatDoorProg
import Derived.Test.YtggfpcggakghnaaGreatDoorO2
set_option linter.all false
set_option maxRecDepth 100000
set_option maxHeartbeats 4000000
noncomputable section
open Go.Proofs.Tryz
open Go.IntKind (u8 u16 u32 u64 i64)
open Array renaming ext'->fe
open BitVec renaming ofInt->n8
open Bool renaming and_eq_true->bg,not_eq_true'->lN
open Go renaming TypeId->aG,Addr->aO,Value->ab,World->ae,FuncId->fc,wp_ret->gv,wp_block->jc
open Go.IntKind renaming wrap_i64->ad6,bits->tI,signed->tJ,wrap->xw
open Go.Value renaming slice->EB,int->eg
open Int renaming lt_asymm->IQ,tmod_eq_emod_of_nonneg->V8,ofNat->cJ
open List renaming singleton_append->Ex,length_nil->IL,length_singleton->V4,take_zero->V9,take_length->V_,append_assoc->bR,range->bd,append_nil->cQ,mem_cons->ca,map_cons->eH,nil_append->fl,length_append->fq,cons_append->ft,getElem?_append_left->gV,getElem?_eq_none->iK,getElem?_map->iZ,mem_singleton->ig,getD->ij,countP_append->ik,perm_middle->jH,getElem?_eq_getElem->jb,getElem?_toArray->jt,take_append_drop->jv,length_cons->kN,getElem?_range->m9,eq_nil_of_length_eq_zero->mZ,sublist_append_right->oT,not_mem_nil->oV,map_append->qB,map_congr_left->qD,perm_append_comm_assoc->rW,length_take->u9,ext_getElem?->u_,map_nil->vf,any_eq_true->zK,getElem?_append_right->zL
open List.Perm renaming trans->EA,append_right->Et,swap->ND,append_left->qG,cons->u7
open List.Sublist renaming cons_cons->IS,append_right->ad3,append_left->zO
open List.cons renaming inj->vb
open Nat renaming and_two_pow_sub_one_eq_mod->adW,beq->aq,lt_or_ge->cN,eq_of_beq_eq_true->ck,blt->cu,le_refl->dE,zero_add->eD,blt_eq->ie,add_mul->mq,add_zero->oR,beq_refl->rV,eq_zero_or_pos->u6,add_assoc->zP
open Option.some renaming injEq->aV,inj->cA
open Prod.mk renaming injEq->bw
namespace Go.Proofs.YtggfpcggakghnaaGreatDoor
section
open Go Go.RowKit Go.BigFrame Sx
def A8 (q:Nat->Int) (ka:Nat->Option aO) (kn kc:Nat->Nat):Array ab:=#[.int .i64 (q 0),.int .i64 (q 1),.int .i64 (q 2),.int .i64 (q 3),.int .i64 (q 4),.slice (ka 0) (kn 0) (kc 0),.slice (ka 1) (kn 1) (kc 1),.slice (ka 2) (kn 2) (kc 2),.slice (ka 3) (kn 3) (kc 3),.int .i64 (q 9),.int .i64 (q 10),.int .i64 (q 11),.int .i64 (q 12),.int .i64 (q 13),.int .i64 (q 14),.int .i64 (q 15),.int .i64 (q 16),.int .i64 (q 17),.int .i64 (q 18),.int .i64 (q 19),.int .i64 (q 20),.int .i64 (q 21),.int .i64 (q 22),.int .i64 (q 23),.int .i64 (q 24),.int .i64 (q 25),.int .i64 (q 26),.int .i64 (q 27),.int .i64 (q 28),.int .i64 (q 29),.int .i64 (q 30),.int .i64 (q 31),.int .i64 (q 32),.int .i64 (q 33),.int .i64 (q 34),.int .i64 (q 35),.int .i64 (q 36),.int .i64 (q 37),.int .i64 (q 38),.int .i64 (q 39),.int .i64 (q 40),.int .i64 (q 41),.int .i64 (q 42),.int .i64 (q 43),.int .i64 (q 44),.int .i64 (q 45),.int .i64 (q 46),.int .i64 (q 47),.int .i64 (q 48),.int .i64 (q 49),.int .i64 (q 50),.int .i64 (q 51),.int .i64 (q 52),.int .i64 (q 53),.int .i64 (q 54),.int .i64 (q 55)]
end
section
open Go Go.RowKit Go.BigFrame Sx Vx
def jE (lo hi n:Int):Bool:=decide (lo<=n)&&decide (n<=hi)
def pZ (a b c k:Int):Bool:=k==a||(k==b||k==c)
def GN (q:Nat->Int):Bool:=q 0==0&&(q 4==4&&(pZ (q 1) (q 2) (q 3) 1&&(pZ (q 1) (q 2) (q 3) 2&&pZ (q 1) (q 2) (q 3) 3)))
def sW (n:Nat):Bool:=decide (1<=(n:Int))&&decide ((n:Int)<=64)
def nE (n:Int):Bool:=jE 0 15 n&&n%2==0
def allI (lo hi:Int):List Int->Bool
 |[]=>true
 |x::xs=>jE lo hi x&&allI lo hi xs
def yR (kn:Nat->Nat):Bool:=sW (kn 0)&&(sW (kn 1)&&sW (kn 2))
def A9 (q:Nat->Int):Bool:=nE (q 10)&&(nE (q 11)&&nE (q 12))
def GO (q:Nat->Int):Bool:=allI 0 15 [q 14,q 15,q 16,q 17]&&(allI 0 15 [q 18,q 19,q 20,q 21]&&(allI 0 15 [q 22,q 23,q 24,q 25]&&(allI 0 15 [q 26,q 27,q 28,q 29]&&allI 0 15 [q 30,q 31,q 32,q 33])))
def lD (q:Nat->Int) (kn:Nat->Nat):Int:=
 if GN q=false then 40 else if(yR kn&&sW (kn 3))=false then 41 else if(q 9==1&&(q 13==0&&A9 q))=false then 42
 else if GO q=false then 43
 else if allI 0 31 [q 34,q 35,q 36,q 37,q 38]=false then 44
 else if allI 0 4 [q 39,q 40,q 41]=false then 45 else if allI 1 1000 [q 42,q 43,q 44,q 45]=false then 46 else if(jE 1 1000 (q 46)&&jE 0 1000 (q 47))=false then 47 else if allI 1 3 [q 48,q 49]=false then 48
 else if(q 50==0&&(allI 0 1000 [q 51,q 52,q 53]&&jE 1 1000 (q 54)))=false then 49 else if jE 0 65535 (q 55)=false then 50 else 0
def Dy (lo hi n:Int) (X Y:Prop):Prop:=cond (decide (lo<=n)) (cond (!decide (n<=hi)) Y X) Y
def KM (n:Int) (X Y:Prop):Prop:=cond (decide (0<=n)) (cond (decide (n<=15)) (cond (!(Int.tmod n 2==0)) Y X) Y) Y
def wI (lo hi:Int) (Y:Prop):List Int->Prop->Prop
 |[],X=>X
 |n::l,X=>Dy lo hi n (wI lo hi Y l X) Y
theorem GP {lo hi n:Int} {X Y:Prop} (h:jE lo hi n=true->X) (k:jE lo hi n=false->Y):Dy lo hi n X Y:=
 aI (λa=>aI (λb=>k (by rw[jE,a];simpa using b)) λb=>h (by rw[jE,a];simpa using b)) λa=>k (by rw[jE,a];rfl)
theorem RZ {n:Int} {X Y:Prop} (h:nE n=true->X) (k:nE n=false->Y):KM n X Y:=by
 refine aI (λa=>aI (λb=>?_) λb=>k (by simp only[nE,jE,a,b];rfl)) λa=>k (by simp only[nE,jE,a];rfl);have e:Int.tmod n 2=n%2:=V8 (of_decide_eq_true a);exact aI (λc=>k (by simp only[nE,jE,a,b];rw[e]at c;simpa using c)) λc=>h (by simp only[nE,jE,a,b];rw[e]at c;simpa using c)
theorem yS {lo hi:Int} {X Y:Prop}:∀{l:List Int},(allI lo hi l=true->X)->(allI lo hi l=false->Y)->wI lo hi Y l X
 |[],h,_=>h rfl
 |n::l,h,k=>GP (λa=>yS (λb=>h (by rw[allI,a,b];rfl)) λb=>k (by rw[allI,a,b];rfl)) λa=>k (by rw[allI,a];rfl)
def dup (X:Prop):Prop:=X/\X
theorem R4 {X:Prop} (h:X):dup X:=⟨h,h⟩
def lE (a b c d e:Int):Bool:=a==0&&(e==4&&(pZ b c d 1&&(pZ b c d 2&&pZ b c d 3)))
def R5:QF:=⟨57,λargs _=>match args with
 |[.agg [.int .i64 a,.int .i64 b,.int .i64 c,.int .i64 d,.int .i64 e]]=>some (True,.bool (lE a b c d e))
 |_=>none⟩
def A_ (b c d k:Int) (X Y:Prop):Prop:=cond (k==b) X (cond (k==c) X (cond (k==d) X Y))
theorem R6 {b c d k:Int} {X Y:Prop} (h:pZ b c d k=true->X) (n:pZ b c d k=false->Y):A_ b c d k X Y:=
 aI (λa=>h (by rw[pZ,a];rfl)) λa=>aI (λe=>h (by rw[pZ,a,e];rfl)) λe=>aI (λf=>h (by rw[pZ,a,e,f];rfl)) λf=>n (by rw[pZ,a,e,f];rfl)
theorem ak5 (a b c d e:Int) (K:V->Prop):eb prog [] 60 57 [.agg [.int .i64 a,.int .i64 b,.int .i64 c,.int .i64 d,.int .i64 e]] K
 =cond (a !=0) (K (.bool false)) (cond (e !=4) (K (.bool false)) (A_ b c d 1 (A_ b c d 2 (A_ b c d 3 (K (.bool true)) (K (.bool false))) (K (.bool false))) (K (.bool false)))):=by kernel_rfl
theorem ak6 (a b c d e:Int) (w:ae):aS prog 57 #[.agg #[.int .i64 a,.int .i64 b,.int .i64 c,.int .i64 d,.int .i64 e]] w λv w1=>v=.bool (lE a b c d e)/\Ch [] w w1:=by
 have h:cond (a !=0) ((V.bool false)=.bool (lE a b c d e)) (cond (e !=4) ((V.bool false)=.bool (lE a b c d e)) (A_ b c d 1 (A_ b c d 2 (A_ b c d 3 ((V.bool true)=.bool (lE a b c d e)) ((V.bool false)=.bool (lE a b c d e))) ((V.bool false)=.bool (lE a b c d e))) ((V.bool false)=.bool (lE a b c d e)))):=by
  refine aI (λh=>?_) λh=>aI (λg=>?_) λg=>R6 (λx=>R6 (λy=>R6 (λz=>?_) λz=>?_) λy=>?_) λx=>?_
  ·have h':(a==0)=false:=by simpa using h
   rw[lE,h'];rfl
  all_goals have h':(a==0)=true:=by simpa using h
  ·have g':(e==4)=false:=by simpa using g
   rw[lE,h',g'];rfl
  all_goals have g':(e==4)=true:=by simpa using g
  ·rw[lE,h',g',x,y,z];rfl
  ·rw[lE,h',g',x,y,z];rfl
  ·rw[lE,h',g',x,y];rfl
  ·rw[lE,h',g',x];rfl
 refine gK (L:=[]) bH.nil (n:=60) (xs:=[.agg [.int .i64 a,.int .i64 b,.int .i64 c,.int .i64 d,.int .i64 e]]) (v:=.bool (lE a b c d e)) (Hd.h (Hd.mk ?_));rw[ak5];exact h
theorem ak7 (gl:Nat->Option Nat):R5.Ok prog gl:=by
 intro args bl p_ v_ h hp ids w _ _;unfold R5 at h;dsimp only at h;split at h
 ·rename_i a b c d e;simp only[aV,bw]at h;obtain⟨rfl,rfl⟩:=h;exact told (ak6 a b c d e w)
 ·cases h
def R7 (q:Nat->Int) (kn:Nat->Nat) (K:V->Prop):Prop:=
 let E:=λn:Int=>K (.int .i64 n)
 cond (!(lE (q 0) (q 1) (q 2) (q 3) (q 4))) (E 40)<|wI 1 64 (E 41) [(kn 0:Int),(kn 1:Int),(kn 2:Int),(kn 3:Int)]<|cond (q 9!=1) (E 42)<|cond (q 13!=0) (E 42)<|(λX=>KM (q 10) (KM (q 11) (KM (q 12) X (E 42)) (E 42)) (E 42))<|
 wI 0 15 (E 43) [q 14,q 15,q 16,q 17,q 18,q 19,q 20,q 21,q 22,q 23,q 24,q 25,q 26,q 27,q 28,q 29,q 30,q 31,q 32,q 33]<|wI 0 31 (E 44) [q 34,q 35,q 36,q 37,q 38]<|dup<|wI 0 4 (E 45) [q 39,q 40,q 41]<|dup<|wI 1 1000 (E 46) [q 42,q 43,q 44,q 45]<|
 (λX=>Dy 1 1000 (q 46) (Dy 0 1000 (q 47) X (E 47)) (E 47))<|dup<|wI 1 3 (E 48) [q 48,q 49]<|cond (q 50!=0) (E 49)<|wI 0 1000 (E 49) [q 51,q 52,q 53]<|Dy 1 1000 (q 54) (Dy 0 65535 (q 55) (E 0) (E 50)) (E 49)
def Dz (n:Int):VB:=⟨true,⟨3,(0,0)⟩,[.int .i64 n]⟩
def GQ:c_ Empty:=λargs bl ch K=>match args with
 |[.int .i64 lo,.int .i64 hi]=>cond (bM bl.length bl) (K (.fn 104 [] [.ptr bl.length 0,.ptr (bl.length+1) 0]) (bl++[Dz lo,Dz hi]) ch) False
 |_=>False
theorem ak8 (lo hi:Int) (K:VK Empty):bo (bP prog (λ_=>none) ([]:List (bK Empty))) 20 64 [.int .i64 lo,.int .i64 hi] [] [] K=K (.fn 104 [] [.ptr 0 0,.ptr 1 0]) [Dz lo,Dz hi] []:=by kernel_rfl
theorem ak9:Sound prog (λ_=>none) 64 GQ:=by
 intro args ids bl ch R ms w0 w K hg hl S hc;unfold GQ at hc;split at hc
 ·rename_i lo hi;cases hq:bM bl.length bl with
  |false=>rw[hq]at hc;exact hc.elim
  |true=>
   rw[hq]at hc;have hv:bo (bP prog (λ_=>none) ([]:List (bK Empty))) 20 64 [.int .i64 lo,.int .i64 hi] [] [] (λv b c=>v=.fn 104 [] [.ptr 0 0,.ptr 1 0]/\b=[Dz lo,Dz hi]/\c=[]):=by rw[ak8];exact⟨rfl,rfl,rfl⟩
   refine(eG (aC.nil (P:=prog) (gl:=λ_=>none)).T aC.nil.Q 20 (C:=bP prog (λ_=>none) ([]:List (bK Empty))) (ids:=[]) (bl:=[]) (ch:=[]) (R:=[]) (ms:=[]) (w0:=w) (w:=w) Gl.none rfl (St.nil [] w) hv).mono ?_;rintro x w' ⟨y,more,bl',ch',rfl,h1,S',rfl,rfl,rfl⟩
   match more,h1 with
   |[b1,b2],_=>
    have S2:=S.beside S' (bl:=[⟨b1,true,.cells #[.int .i64 lo] 3 (0,0)⟩,⟨b2,true,.cells #[.int .i64 hi] 3 (0,0)⟩]) (Wr.cons rfl (Wr.cons rfl Wr.nil));refine⟨_,[b1,b2],_,ch,?_,by simp[hl],?_,hc⟩
    ·simp only[den,aD,<-hl];simp[ij]
    ·rw[eZ _ _ _ _ hl,e_ _ _ (by rw[hl];exact hq),bR];refine S2.perm ?_;exact(rW [_,_] (lits ids ids bl) (ax ch R))
 ·exact hc.elim
theorem ak_:ud prog (λ_=>none) ⟨64,true,GQ⟩:=⟨ak9,λ_ args bl ch K h=>by
 simp only at h⊢;unfold GQ at h⊢;split at h
 ·cases hq:bM bl.length bl with
  |false=>rw[hq]at h;exact h.elim
  |true=>rw[hq]at h;exact⟨h,_,rfl⟩
 ·exact h.elim⟩
def R9:List (bK Empty):=⟨64,true,GQ⟩::qL Empty [R5]
theorem aat:aC prog (λ_=>none) R9:=aC.cons ak_ (kU (bH.cons (ak7 _) bH.nil))
def vcP (n:Nat) (f:fc) (args:List V) (X:V->Prop):Prop:=bo (bP prog (λ_=>none) R9) n f args [] [] λv _ _=>X v
theorem ala (p:Sd.aN) (ka:Nat->Option aO) (kn kc:Nat->Nat) (K:V->Prop):vcP 60 27 [.agg (fa p ka kn kc)] K=(True/\R7 p.i kn K):=by kernel_rfl
theorem alb (q:Nat->Int) (kn:Nat->Nat):R7 q kn (·=.int .i64 (lD q kn)):=by
 have k4:allI 1 64 [(kn 0:Int),(kn 1:Int),(kn 2:Int),(kn 3:Int)]=(yR kn&&sW (kn 3)):=by simp only[allI,jE,yR,sW,Bool.and_assoc,Bool.and_true]
 have t5:allI 0 15 [q 14,q 15,q 16,q 17,q 18,q 19,q 20,q 21,q 22,q 23,q 24,q 25,q 26,q 27,q 28,q 29,q 30,q 31,q 32,q 33]=GO q:=by simp only[allI,GO,Bool.and_assoc,Bool.and_true]
 unfold R7 lD;refine aI (λh=>?_) λh=>?_
 ·have h0:GN q=false:=(by simpa using h:lE (q 0) (q 1) (q 2) (q 3) (q 4)=false);rw[if_pos h0]
 have h0:GN q=true:=(by simpa using h:lE (q 0) (q 1) (q 2) (q 3) (q 4)=true);clear h;refine yS (λh1=>?_) λh1=>?_<;>rw[k4]at h1
 ·refine aI (λa=>?_) λa=>aI (λb=>?_) λb=>RZ (λc=>RZ (λd=>RZ (λe=>?_) λe=>?_) λd=>?_) λc=>?_
  ·have a':(q 9==1)=false:=by simpa using a
   simp[h0,h1,a']
  all_goals have a':(q 9==1)=true:=by simpa using a
  ·have b':(q 13==0)=false:=by simpa using b
   simp[h0,h1,a',b']
  all_goals have b':(q 13==0)=true:=by simpa using b
  ·have r:A9 q=true:=by simp[A9,c,d,e]
   have h2:(q 9==1&&(q 13==0&&A9 q))=true:=by rw[a',b',r];rfl
   refine yS (λh3=>?_) λh3=>?_<;>rw[t5]at h3
   ·refine yS (λh4=>R4 (yS (λh5=>R4 (yS (λh6=>GP (λh7=>GP (λh8=>R4 (yS (λh9=>aI (λu=>?_) λu=>yS (λv=>GP (λx=>GP (λy=>?_) λy=>?_) λx=>?_) λv=>?_) λh9=>?_)) λh8=>?_) λh7=>?_) λh6=>?_)) λh5=>?_)) λh4=>?_
    ·have u':(q 50==0)=false:=by simpa using u
     simp[h0,h1,h2,h3,h4,h5,h6,h7,h8,h9,u']
    iterate 4
     ·have u':(q 50==0)=true:=by simpa using u
      simp[h0,h1,h2,h3, *]
    all_goals simp[h0,h1,h2,h3, *]
   ·simp[h0,h1,h2,h3]
  all_goals simp[h0,h1,a',b',A9, *]
 ·simp[h0,h1]
theorem alc (q:Nat->Int) (ka:Nat->Option aO) (kn kc:Nat->Nat) (w:ae):aS prog 27 #[.agg (A8 q ka kn kc)] w λv w1=>v=.int .i64 (lD q kn)/\Ch [] w w1:=by
 have h:vcP 60 27 [.agg (fa ⟨q,λ_=>(0,λ_=>0)⟩ ka kn kc)] (·=.int .i64 (lD q kn)):=by rw[ala];exact⟨trivial,alb q kn⟩
 refine(eG aat.T aat.Q 60 (C:=bP prog (λ_=>none) R9) (ids:=[]) (bl:=[]) (ch:=[]) (R:=[]) (ms:=[]) (w0:=w) (w:=w) Gl.none rfl (St.nil [] w) h).mono ?_;rintro x w' ⟨y,more,bl',ch',rfl,h1,S,rfl⟩;exact⟨rfl,S.ch⟩
end
section
open Go Go.RowKit Go.BigFrame Sx
def f3 {α:Type} (a b c:α):Nat->α:=λj=>match j with|0=>a|1=>b|_=>c
def rK (p:Sd.aN) (ka:Nat->Option aO) (kn kc:Nat->Nat) (t:Sd.Tok) (bq:Nat) (D:Nat->Sd.dT) (bt:Nat) (sa be mo:Int) (mb:Sd.Label) (pt:Sd.eF) (hd:Nat->Int):Array ab:=#[.int .i64 (p.i 0),.int .i64 (p.i 1),.int .i64 (p.i 2),.int .i64 (p.i 3),.int .i64 (p.i 4),.slice (ka 0) (kn 0) (kc 0),.slice (ka 1) (kn 1) (kc 1),.slice (ka 2) (kn 2) (kc 2),.slice (ka 3) (kn 3) (kc 3),.int .i64 (p.i 9),.int .i64 (p.i 10),.int .i64 (p.i 11),.int .i64 (p.i 12),.int .i64 (p.i 13),.int .i64 (p.i 14),.int .i64 (p.i 15),.int .i64 (p.i 16),.int .i64 (p.i 17),.int .i64 (p.i 18),.int .i64 (p.i 19),.int .i64 (p.i 20),.int .i64 (p.i 21),.int .i64 (p.i 22),.int .i64 (p.i 23),.int .i64 (p.i 24),.int .i64 (p.i 25),.int .i64 (p.i 26),.int .i64 (p.i 27),.int .i64 (p.i 28),.int .i64 (p.i 29),.int .i64 (p.i 30),.int .i64 (p.i 31),.int .i64 (p.i 32),.int .i64 (p.i 33),.int .i64 (p.i 34),.int .i64 (p.i 35),.int .i64 (p.i 36),.int .i64 (p.i 37),.int .i64 (p.i 38),.int .i64 (p.i 39),.int .i64 (p.i 40),.int .i64 (p.i 41),.int .i64 (p.i 42),.int .i64 (p.i 43),.int .i64 (p.i 44),.int .i64 (p.i 45),.int .i64 (p.i 46),.int .i64 (p.i 47),.int .i64 (p.i 48),.int .i64 (p.i 49),.int .i64 (p.i 50),.int .i64 (p.i 51),.int .i64 (p.i 52),.int .i64 (p.i 53),.int .i64 (p.i 54),.int .i64 (p.i 55),.int .i64 t.ay,.int .i64 t.af,.int .i64 t.offer,.int .i64 t.oa.n,.int .i64 t.oa.most,.int .i64 t.la.n,.int .i64 t.la.most,.bool t.bad,.pointer (some ⟨bq,0,none⟩),.int .i64 (D 0).many,.bool (D 0).g_,.int .u8 ((D 0).aw 0),.int .u8 ((D 0).aw 1),.int .u8 ((D 0).aw 2),.int .u8 ((D 0).aw 3),.int .u8 ((D 0).aw 4),.int .u8 ((D 0).aw 5),.int .u8 ((D 0).aw 6),.int .u8 ((D 0).aw 7),.int .i64 (D 1).many,.bool (D 1).g_,.int .u8 ((D 1).aw 0),.int .u8 ((D 1).aw 1),.int .u8 ((D 1).aw 2),.int .u8 ((D 1).aw 3),.int .u8 ((D 1).aw 4),.int .u8 ((D 1).aw 5),.int .u8 ((D 1).aw 6),.int .u8 ((D 1).aw 7),.int .i64 (D 2).many,.bool (D 2).g_,.int .u8 ((D 2).aw 0),.int .u8 ((D 2).aw 1),.int .u8 ((D 2).aw 2),.int .u8 ((D 2).aw 3),.int .u8 ((D 2).aw 4),.int .u8 ((D 2).aw 5),.int .u8 ((D 2).aw 6),.int .u8 ((D 2).aw 7),.pointer (some ⟨bt,0,none⟩),.int .i64 sa,.int .i64 be,.int .i64 mo,.int .i64 mb.mz,.int .i64 mb.source,.int .i64 mb.seq,.int .i64 pt.cls,.int .i64 pt.aU.a,.int .i64 pt.aU.b,.int .i64 pt.aU.c,.int .i64 pt.aU.d,.int .i64 pt.now.a,.int .i64 pt.now.b,.int .i64 pt.now.c,.int .i64 pt.now.d,.int .i64 pt.bI.mz,.int .i64 pt.bI.source,.int .i64 pt.bI.seq,.int .u8 (hd 0),.int .u8 (hd 1),.int .u8 (hd 2),.int .u8 (hd 3),.int .u8 (hd 4),.int .u8 (hd 5),.int .u8 (hd 6),.int .u8 (hd 7),.int .u8 (hd 8),.int .u8 (hd 9),.int .u8 (hd 10),.int .u8 (hd 11),.int .u8 (hd 12),.int .u8 (hd 13),.int .u8 (hd 14),.int .u8 (hd 15),.int .u8 (hd 16),.int .u8 (hd 17),.int .u8 (hd 18),.int .u8 (hd 19),.int .u8 (hd 20),.int .u8 (hd 21),.int .u8 (hd 22),.int .u8 (hd 23),.int .u8 (hd 24),.int .u8 (hd 25),.int .u8 (hd 26),.int .u8 (hd 27),.int .u8 (hd 28),.int .u8 (hd 29),.int .u8 (hd 30),.int .u8 (hd 31)]
def jl (st:Bool×Sd.Timer) (aj:Nat->Sd.gy) (b m:Int):Array ab:=#[.bool st.1,.int .i64 st.2.n,.int .i64 st.2.most,.bool (aj 0).on,.int .i64 (aj 0).eL.n,.int .i64 (aj 0).eL.most,.int .i64 (aj 0).role,.int .u8 ((aj 0).key 0),.int .u8 ((aj 0).key 1),.int .u8 ((aj 0).key 2),.int .u8 ((aj 0).key 3),.int .u8 ((aj 0).key 4),.int .u8 ((aj 0).key 5),.int .u8 ((aj 0).key 6),.int .u8 ((aj 0).key 7),.int .u8 ((aj 0).key 8),.int .u8 ((aj 0).key 9),.int .u8 ((aj 0).key 10),.int .u8 ((aj 0).key 11),.int .u8 ((aj 0).key 12),.int .u8 ((aj 0).key 13),.int .u8 ((aj 0).key 14),.int .u8 ((aj 0).key 15),.int .u8 ((aj 0).key 16),.int .u8 ((aj 0).key 17),.int .u8 ((aj 0).key 18),.int .u8 ((aj 0).key 19),.int .u8 ((aj 0).key 20),.int .u8 ((aj 0).key 21),.int .u8 ((aj 0).key 22),.int .u8 ((aj 0).key 23),.int .u8 ((aj 0).key 24),.int .u8 ((aj 0).key 25),.int .u8 ((aj 0).key 26),.int .u8 ((aj 0).key 27),.int .u8 ((aj 0).key 28),.int .u8 ((aj 0).key 29),.int .u8 ((aj 0).key 30),.int .u8 ((aj 0).key 31),.bool (aj 0).seen.any,.int .i64 (aj 0).seen.high,.int .u64 (aj 0).seen.seen,.bool (aj 1).on,.int .i64 (aj 1).eL.n,.int .i64 (aj 1).eL.most,.int .i64 (aj 1).role,.int .u8 ((aj 1).key 0),.int .u8 ((aj 1).key 1),.int .u8 ((aj 1).key 2),.int .u8 ((aj 1).key 3),.int .u8 ((aj 1).key 4),.int .u8 ((aj 1).key 5),.int .u8 ((aj 1).key 6),.int .u8 ((aj 1).key 7),.int .u8 ((aj 1).key 8),.int .u8 ((aj 1).key 9),.int .u8 ((aj 1).key 10),.int .u8 ((aj 1).key 11),.int .u8 ((aj 1).key 12),.int .u8 ((aj 1).key 13),.int .u8 ((aj 1).key 14),.int .u8 ((aj 1).key 15),.int .u8 ((aj 1).key 16),.int .u8 ((aj 1).key 17),.int .u8 ((aj 1).key 18),.int .u8 ((aj 1).key 19),.int .u8 ((aj 1).key 20),.int .u8 ((aj 1).key 21),.int .u8 ((aj 1).key 22),.int .u8 ((aj 1).key 23),.int .u8 ((aj 1).key 24),.int .u8 ((aj 1).key 25),.int .u8 ((aj 1).key 26),.int .u8 ((aj 1).key 27),.int .u8 ((aj 1).key 28),.int .u8 ((aj 1).key 29),.int .u8 ((aj 1).key 30),.int .u8 ((aj 1).key 31),.bool (aj 1).seen.any,.int .i64 (aj 1).seen.high,.int .u64 (aj 1).seen.seen,.bool (aj 2).on,.int .i64 (aj 2).eL.n,.int .i64 (aj 2).eL.most,.int .i64 (aj 2).role,.int .u8 ((aj 2).key 0),.int .u8 ((aj 2).key 1),.int .u8 ((aj 2).key 2),.int .u8 ((aj 2).key 3),.int .u8 ((aj 2).key 4),.int .u8 ((aj 2).key 5),.int .u8 ((aj 2).key 6),.int .u8 ((aj 2).key 7),.int .u8 ((aj 2).key 8),.int .u8 ((aj 2).key 9),.int .u8 ((aj 2).key 10),.int .u8 ((aj 2).key 11),.int .u8 ((aj 2).key 12),.int .u8 ((aj 2).key 13),.int .u8 ((aj 2).key 14),.int .u8 ((aj 2).key 15),.int .u8 ((aj 2).key 16),.int .u8 ((aj 2).key 17),.int .u8 ((aj 2).key 18),.int .u8 ((aj 2).key 19),.int .u8 ((aj 2).key 20),.int .u8 ((aj 2).key 21),.int .u8 ((aj 2).key 22),.int .u8 ((aj 2).key 23),.int .u8 ((aj 2).key 24),.int .u8 ((aj 2).key 25),.int .u8 ((aj 2).key 26),.int .u8 ((aj 2).key 27),.int .u8 ((aj 2).key 28),.int .u8 ((aj 2).key 29),.int .u8 ((aj 2).key 30),.int .u8 ((aj 2).key 31),.bool (aj 2).seen.any,.int .i64 (aj 2).seen.high,.int .u64 (aj 2).seen.seen,.int .i64 b,.int .i64 m]
theorem ald (p:Sd.aN) (ka:Nat->Option aO) (kn kc:Nat->Nat) (w:ae):aS prog 27 #[.agg (j_ p ka kn kc)] w λv w1=>v=.int .i64 (lD p.i kn)/\Ch [] w w1:=alc p.i ka kn kc w
theorem ale {q:Nat->Int} {kn:Nat->Nat} (h:lD q kn=0):1<=q 48/\q 48<=3:=by
 have:allI 1 3 [q 48,q 49]=true:=by
  cases e:allI 1 3 [q 48,q 49]with
  |true=>rfl
  |false=>
   exfalso;unfold lD at h
   repeat' split at h
   all_goals first|omega|(rename_i DA;simp[e]at DA)
 simp only[allI,jE,bg,decide_eq_true_eq]at this;exact this.1
theorem alf (w:ae):
 aS prog 32 #[] w λv w1=>v=.agg #[.int .i64 2,.int .i64 4,.int .i64 0]/\Ch [] w w1:=by
 have S0:=St.nil [] w;refine iL Tryz.func32 rfl ?_;refine aQ (aX ?_);refine eE S0 (λb=>.pointer (some ⟨b,0,none⟩)) (.cells #[.int .i64 0,.int .i64 0,.int .i64 0] 44) ?_;intro bE hY dB;refine aT (aP (aQ (aX ?_)));refine ak (.agg #[.int .i64 2,.int .i64 4,.int .i64 0]) ?_;refine store_ dB 0 (.agg #[.int .i64 2,.int .i64 4,.int .i64 0]) bE 0 ?_;intro FV KO;refine aT (aP (gv ?_));refine gf rfl (fF [.cell 0 44] [.agg #[.int .i64 2,.int .i64 4,.int .i64 0]] (.agg #[.int .i64 2,.int .i64 4,.int .i64 0]) ⟨mu KO 0 3 bE 0,trivial⟩) ?_;exact⟨rfl,KO.ch⟩
theorem alg (w:ae):
 aS prog 33 #[.slice none 0 0] w λv w1=>v=.agg (au .u8 32 (λ_=>0))/\Ch [] w w1:=by
 have S0:=St.nil [] w;refine iL Tryz.func33 rfl ?_;refine aQ (aX ?_);refine eE S0 (λb=>.pointer (some ⟨b,0,none⟩)) (.cells (au .u8 32 (λ_=>0)) 37) ?_;intro bE hY dB;refine aT (aP (aQ (aX ?_)));refine eE dB (λb=>.pointer (some ⟨b,0,none⟩)) (.cells (au .u8 32 (λ_=>0)) 37) ?_;intro dq l7 cV;refine aT (aP (aQ (aQ (aX ?_))));refine ak (.slice none 0 0) ?_;refine ak (.int .i64 0) ?_;refine ak (.int .i64 0) ?_;refine aT (aP (jc (EE 24 (aQ (aX ?_)))));refine ak (.bool false) ?_;refine aT (aP (aQ (oY ?_)));refine wp_exit (ln (ln (vj (aP (aQ (aX ?_))))));refine jY cV 0 32 (au .u8 32 (λ_=>0)) dq 0 ?_;refine store_ cV 1 (.agg (au .u8 32 (λ_=>0))) bE 0 ?_;intro C_ AM;refine aT (aP (gv ?_));refine gf rfl (fF [.cell 2 37] [.agg (au .u8 32 (λ_=>0))] (.agg (au .u8 32 (λ_=>0))) ⟨mu AM 1 32 bE 0,trivial⟩) ?_;exact⟨rfl,AM.ch⟩
def ux:List Sd.Rec->List ab
 |[]=>[]
 |r::l=>(recC r).toList++ux l
theorem alh (l:List Sd.Rec) (r:Sd.Rec):ux l++(recC r).toList=ux (l++[r]):=by
 induction l with
 |nil=>simp[ux]
 |cons a l ih=>simp[ux,ih]
theorem ali (p:Sd.aN) (ka:Nat->Option aO) (kn kc:Nat->Nat) (t:Sd.Tok) (bq:Nat) (D:Nat->Sd.dT) (bt:Nat) (sa be mo:Int) (mb:Sd.Label) (pt:Sd.eF) (hd:Nat->Int) (xs:Option aO) (ns cs:Nat) (dD bc:Nat) (x:Option aO) (n c:Nat) (bl:List ai) (rl:List Sd.Rec) (kd so sq co ho:Int) {tG:aG} (w:ae) {ms:List Nat} {w0:ae} {bs:List ai} (S0:St ms w0 ([⟨1,false,.cells (au .u32 64 cH) tG (0,0)⟩,⟨dD,true,.cells #[.pointer (some ⟨bc,0,none⟩),.slice xs ns cs,.slice x n c] 128 (0,0)⟩,⟨bc,true,.cells (rK p ka kn kc t bq D bt sa be mo mb pt hd) 105 (0,0)⟩]++(bl++bs)) w) (hR:eW 6 75 (ux rl) x n c bl) (hn:n<=1000):
 aS prog 90 #[.pointer (some ⟨dD,0,none⟩),.int .i64 kd,.int .i64 so,.int .i64 sq,.int .i64 co,.int .i64 ho] w λv w1=>∃x1 c1 jQ,v=.tuple #[]/\eW 6 75 (ux (rl++[⟨kd,so,sq,t.af,co,ho⟩])) x1 (n+1) c1 jQ/\St ms w0 ([⟨1,false,.cells (au .u32 64 cH) tG (0,0)⟩,⟨dD,true,.cells #[.pointer (some ⟨bc,0,none⟩),.slice xs ns cs,.slice x1 (n+1) c1] 128 (0,0)⟩,⟨bc,true,.cells (rK p ka kn kc t bq D bt sa be mo mb pt (wz hd (⟨kd,so,sq,t.af,co,ho⟩:Sd.Rec))) 105 (0,0)⟩]++(jQ++bs)) w1:=by
 refine iL Tryz.func90 rfl ?_;refine aQ (aX ?_);refine ak (.int .i64 kd) ?_;refine ak (.int .i64 so) ?_;refine ak (.int .i64 sq) ?_;refine dJ ?_;refine ak (.pointer (some ⟨dD,0,none⟩)) ?_;refine ak (.pointer (some ⟨dD,0,none⟩)) ?_;refine oX S0 1 (.pointer (some ⟨bc,0,none⟩)) dD 0 ?_;refine ak (.pointer (some ⟨bc,0,none⟩)) ?_;refine ak (.pointer (some ⟨bc,56,none⟩)) ?_;refine ak (.pointer (some ⟨bc,57,none⟩)) ?_;refine oX S0 2 (.int .i64 t.af) bc 57 ?_;refine ak (.int .i64 co) ?_;refine ak (.int .i64 ho) ?_;refine ak (.agg #[.int .i64 kd,.int .i64 so,.int .i64 sq,.int .i64 t.af,.int .i64 co,.int .i64 ho]) ?_;refine eE S0 (λb=>.pointer (some ⟨b,0,none⟩)) (.cells #[.int .i64 0,.int .i64 0,.int .i64 0,.int .i64 0,.int .i64 0,.int .i64 0] 75) ?_;intro bE hY dB;refine store_ dB 0 (.agg #[.int .i64 kd,.int .i64 so,.int .i64 sq,.int .i64 t.af,.int .i64 co,.int .i64 ho]) bE 0 ?_;intro FV KO;refine aT (aP (aQ ?_));have cV:St ms w0 ([⟨bE,true,.cells #[.int .i64 kd,.int .i64 so,.int .i64 sq,.int .i64 t.af,.int .i64 co,.int .i64 ho] 75 (0,0)⟩,⟨1,false,.cells (au .u32 64 cH) tG (0,0)⟩,⟨dD,true,.cells #[.pointer (some ⟨bc,0,none⟩),.slice xs ns cs,.slice x n c] 128 (0,0)⟩,⟨bc,true,.cells (rK p ka kn kc t bq D bt sa be mo mb pt hd) 105 (0,0)⟩]++(bl++bs)) FV:=KO.re (R:=bs) [[⟨bE,true,.cells #[.int .i64 kd,.int .i64 so,.int .i64 sq,.int .i64 t.af,.int .i64 co,.int .i64 ho] 75 (0,0)⟩],[⟨1,false,.cells (au .u32 64 cH) tG (0,0)⟩],[⟨dD,true,.cells #[.pointer (some ⟨bc,0,none⟩),.slice xs ns cs,.slice x n c] 128 (0,0)⟩],[⟨bc,true,.cells (rK p ka kn kc t bq D bt sa be mo mb pt hd) 105 (0,0)⟩],bl] [0,1,2,3,4];have zD7:∀w',Ch ((bl).map ai.id) FV w'->St ms w0 ([⟨bE,true,.cells #[.int .i64 kd,.int .i64 so,.int .i64 sq,.int .i64 t.af,.int .i64 co,.int .i64 ho] 75 (0,0)⟩,⟨1,false,.cells (au .u32 64 cH) tG (0,0)⟩,⟨dD,true,.cells #[.pointer (some ⟨bc,0,none⟩),.slice xs ns cs,.slice x n c] 128 (0,0)⟩,⟨bc,true,.cells (rK p ka kn kc t bq D bt sa be mo mb pt hd) 105 (0,0)⟩]++bs) w':=λ_ hc=>cV.less (eW.wr hR) hc;refine aeq (T':=75) cV hR 8 7 6 1 [.int .i64 kd,.int .i64 so,.int .i64 sq,.int .i64 t.af,.int .i64 co,.int .i64 ho] [] [.pointer (some ⟨dD,0,none⟩),.pointer (some ⟨dD,0,none⟩),.pointer (some ⟨dD,0,none⟩),.pointer (some ⟨dD,2,none⟩),.slice x n c,.agg #[.int .i64 kd,.int .i64 so,.int .i64 sq,.int .i64 t.af,.int .i64 co,.int .i64 ho],undef,undef] [[8,0],[8,1],[8,2],[8,3],[8,4],[8,5],[8,6],[8,7],[9,0],[9,1],[9,2],[9,3],[9,4],[9,5],[9,6],[9,7],[9,8],[10,0],[10,1],[10,2],[10,3],[10,4],[10,5],[10,6],[10,7],[10,9,8],[10,9]] (ly Cw (ly Cw (ly Cw (ly Cw (ly (WC zD7 2 dD 2) (ly (ES zD7 0 bE 0 6 #[.int .i64 kd,.int .i64 so,.int .i64 sq,.int .i64 t.af,.int .i64 co,.int .i64 ho]) (ly (eB_ 1 [.int .i64 kd,.int .i64 so,.int .i64 sq,.int .i64 t.af,.int .i64 co,.int .i64 ho] 75) (ly (eA_ cV hR 31 33 6 1 [.int .i64 kd,.int .i64 so,.int .i64 sq,.int .i64 t.af,.int .i64 co,.int .i64 ho] 48 (by omega) (by unfold maxLen;omega) (e':=75)) (N_))))))))) ?_;intro R_ Sa aau awu P9 mG ow;refine ak (.pointer (some ⟨dD,0,none⟩)) ?_;refine ak (.pointer (some ⟨dD,2,none⟩)) ?_;refine store_ ow 2 (.slice R_ (n+1) Sa) dD 2 ?_;intro C8 pN;refine aT (aP ?_);refine Ad 13 [⟨0,λ_=>.pointer (some ⟨dD,0,none⟩),λ_=>[]⟩,⟨0,λ_=>.pointer (some ⟨dD,0,none⟩),λ_=>[]⟩,⟨0,λ_=>.pointer (some ⟨dD,0,none⟩),λ_=>[]⟩,⟨0,λ_=>.pointer (some ⟨bc,0,none⟩),λ_=>[]⟩,⟨0,λ_=>.pointer (some ⟨dD,0,none⟩),λ_=>[]⟩,⟨0,λ_=>.pointer (some ⟨dD,0,none⟩),λ_=>[]⟩,⟨0,λ_=>.pointer (some ⟨dD,0,none⟩),λ_=>[]⟩,⟨0,λ_=>.pointer (some ⟨bc,0,none⟩),λ_=>[]⟩,⟨0,λ_=>.pointer (some ⟨bc,0,none⟩),λ_=>[]⟩,⟨0,λ_=>.pointer (some ⟨bc,114,none⟩),λ_=>[]⟩,⟨0,λ_=>.agg (au .u8 32 hd),λ_=>[]⟩,⟨0,λ_=>.agg #[.int .i64 kd,.int .i64 so,.int .i64 sq,.int .i64 t.af,.int .i64 co,.int .i64 ho],λ_=>[]⟩,⟨0,λ_=>.agg (au .u8 32 (wz hd (⟨kd,so,sq,t.af,co,ho⟩:Sd.Rec))),λ_=>[]⟩] [[13,0],[13,1],[13,2],[13,3],[13,4],[13,5],[13,6],[13,7],[13,8],[13,9],[13,10],[13,11],[13,12],[14,0],[14,1],[14,2],[14,3],[14,4],[14,5],[14,6],[14,7],[14,8],[14,9],[14,10],[14,11],[14,12],[14,13],[15,0],[15,1],[15,2],[15,3],[15,4],[15,5],[15,6],[15,7],[15,8],[15,9],[15,10],[15,11],[15,12],[15,14,13],[15,14]] ?_ ?_
 ·refine step_cons gX ?_;refine step_cons gX ?_;refine step_cons gX ?_;refine step_cons (I3 pN 2 dD 0) ?_;refine step_cons gX ?_;refine step_cons gX ?_;refine step_cons gX ?_;refine step_cons (I3 pN 2 dD 0) ?_;refine step_cons gX ?_;refine step_cons gX ?_;refine step_cons (EP pN 3 bc 114 32 (au .u8 32 hd)) ?_;refine step_cons (EP pN 0 bE 0 6 #[.int .i64 kd,.int .i64 so,.int .i64 sq,.int .i64 t.af,.int .i64 co,.int .i64 ho]) ?_;refine step_cons ?_ ?_
  ·intro aav AN QQ awv aaw;have FQ:aav 47=.agg (au .u8 32 hd):=(Sp.dA (aaw 10 47 (by kernel_rfl) (by kernel_rfl))).1;have rv:aav 48=.agg #[.int .i64 kd,.int .i64 so,.int .i64 sq,.int .i64 t.af,.int .i64 co,.int .i64 ho]:=(Sp.dA (aaw 11 48 (by kernel_rfl) (by kernel_rfl))).1;have wg:=pN.quiet QQ;refine o_ ?_;refine lR [(47,.agg (au .u8 32 hd)),(48,.agg #[.int .i64 kd,.int .i64 so,.int .i64 sq,.int .i64 t.af,.int .i64 co,.int .i64 ho])] (lS FQ (lS rv (o8))) ?_;have ny:=wg.loc;refine Y.fu 66 #[.agg (au .u8 32 hd),.agg #[.int .i64 kd,.int .i64 so,.int .i64 sq,.int .i64 t.af,.int .i64 co,.int .i64 ho]] ?_;refine(ajv hd (⟨kd,so,sq,t.af,co,ho⟩:Sd.Rec) _ (ny.at_ 1 _ rfl)).mono ?_;rintro _ YC ⟨rfl,j8⟩;have FT:=ny.quiet j8;exact⟨FT.ch,Sp.o9 [] (all_nil)⟩
  exact Ac
 intro qa J6 Kh qb;have Kk:qa 0=.pointer (some ⟨dD,0,none⟩):=(Sp.dA (qb 0 (by kernel_rfl))).1;have kY:qa 1=.pointer (some ⟨dD,0,none⟩):=(Sp.dA (qb 1 (by kernel_rfl))).1;have rG:qa 2=.pointer (some ⟨dD,0,none⟩):=(Sp.dA (qb 2 (by kernel_rfl))).1;have uq:qa 3=.pointer (some ⟨bc,0,none⟩):=(Sp.dA (qb 3 (by kernel_rfl))).1;have wk:qa 4=.pointer (some ⟨dD,0,none⟩):=(Sp.dA (qb 4 (by kernel_rfl))).1;have rC:qa 5=.pointer (some ⟨dD,0,none⟩):=(Sp.dA (qb 5 (by kernel_rfl))).1;have sQ:qa 6=.pointer (some ⟨dD,0,none⟩):=(Sp.dA (qb 6 (by kernel_rfl))).1;have rH:qa 7=.pointer (some ⟨bc,0,none⟩):=(Sp.dA (qb 7 (by kernel_rfl))).1;have pS:qa 8=.pointer (some ⟨bc,0,none⟩):=(Sp.dA (qb 8 (by kernel_rfl))).1;have F_:qa 9=.pointer (some ⟨bc,114,none⟩):=(Sp.dA (qb 9 (by kernel_rfl))).1;have FU:qa 10=.agg (au .u8 32 hd):=(Sp.dA (qb 10 (by kernel_rfl))).1;have Ra:qa 11=.agg #[.int .i64 kd,.int .i64 so,.int .i64 sq,.int .i64 t.af,.int .i64 co,.int .i64 ho]:=(Sp.dA (qb 11 (by kernel_rfl))).1;have Rb:qa 12=.agg (au .u8 32 (wz hd (⟨kd,so,sq,t.af,co,ho⟩:Sd.Rec))):=(Sp.dA (qb 12 (by kernel_rfl))).1;have yC:=pN.quiet Kh;refine⟨[.pointer (some ⟨dD,0,none⟩),.pointer (some ⟨dD,0,none⟩),.pointer (some ⟨dD,0,none⟩),.pointer (some ⟨bc,0,none⟩),.pointer (some ⟨dD,0,none⟩),.pointer (some ⟨dD,0,none⟩),.pointer (some ⟨dD,0,none⟩),.pointer (some ⟨bc,0,none⟩),.pointer (some ⟨bc,0,none⟩),.pointer (some ⟨bc,114,none⟩),.agg (au .u8 32 hd),.agg #[.int .i64 kd,.int .i64 so,.int .i64 sq,.int .i64 t.af,.int .i64 co,.int .i64 ho],.agg (au .u8 32 (wz hd (⟨kd,so,sq,t.af,co,ho⟩:Sd.Rec)))],by kernel_rfl,dS Kk (dS kY (dS rG (dS uq (dS wk (dS rC (dS sQ (dS rH (dS pS (dS F_ (dS FU (dS Ra (dS Rb (Cr))))))))))))),?_⟩;refine ak (.pointer (some ⟨bc,0,none⟩)) ?_;refine ak (.pointer (some ⟨bc,114,none⟩)) ?_;refine store_ yC 3 (.agg (au .u8 32 (wz hd (⟨kd,so,sq,t.af,co,ho⟩:Sd.Rec)))) bc 114 ?_;intro ajM Ku;refine aT ?_;refine end_ rfl (fF [] [] (.tuple #[]) trivial) ?_;exact⟨R_,Sa,aau,rfl,alh rl _▸mG,Ku.re (R:=bs) [[⟨bE,true,.cells #[.int .i64 kd,.int .i64 so,.int .i64 sq,.int .i64 t.af,.int .i64 co,.int .i64 ho] 75 (0,0)⟩],[⟨1,false,.cells (au .u32 64 cH) tG (0,0)⟩],[⟨dD,true,.cells #[.pointer (some ⟨bc,0,none⟩),.slice xs ns cs,.slice R_ (n+1) Sa] 128 (0,0)⟩],[⟨bc,true,.cells (rK p ka kn kc t bq D bt sa be mo mb pt (wz hd (⟨kd,so,sq,t.af,co,ho⟩:Sd.Rec))) 105 (0,0)⟩],aau] [1,2,3,4]⟩
end
section
open Go Go.RowKit Go.BigFrame Sx Vx
structure One where
 a:Sd.Ask
 came:Int
def fQ:List One->Prop
 |[]=>True
 |[_]=>True
 |[x,y]=>x.a.bC<y.a.bC/\¬x.a.source=y.a.source
 |[x,y,z]=>(x.a.bC<y.a.bC/\x.a.bC<z.a.bC/\¬y.a.bC=z.a.bC)/\¬x.a.source=y.a.source/\¬x.a.source=z.a.source/\¬y.a.source=z.a.source
 |_=>False
def cD:List One->List Sd.Ask
 |[]=>[]
 |[x]=>[x.a]
 |[x,y]=>[x.a,y.a]
 |[x,y,z]=>if y.a.bC<z.a.bC then[x.a,y.a,z.a]else[x.a,z.a,y.a]
 |_=>[]
def alj (t:One):Array ab:=#[.int .i64 t.a.source,.int .i64 t.a.bC,.int .i64 t.a.gj.n,.int .i64 t.a.gj.most,.int .u64 t.came]
def jF:List One->List ab
 |[]=>[]
 |e::es=>(alj e).toList++jF es
def uy:List Sd.Ask->List ab
 |[]=>[]
 |e::es=>(nz e).toList++uy es
def QS (bq:Nat) (most:Int) (L:List Sd.Ask) (bl:List ai):Prop:=∃es x c came rows,bl=⟨bq,true,.cells #[.slice x es.length c,.int .i64 most,.int .u64 came] 146 (0,0)⟩::rows/\eW 5 162 (jF es) x es.length c rows/\fQ es/\cD es=L
def KQ (e:One):List V:=[.int .i64 e.a.source,.int .i64 e.a.bC,.int .i64 e.a.gj.n,.int .i64 e.a.gj.most,.int .u64 e.came]
def sY (a:Sd.Ask):List V:=[.int .i64 a.source,.int .i64 a.bC,.int .i64 a.gj.n,.int .i64 a.gj.most]
def fp:List One->List V
 |[]=>[]
 |e::l=>KQ e++fp l
def dy (l:List One) (t:List ab):VB:=⟨true,⟨162,(0,0)⟩,fp l++[.rest t]⟩
def cL (v:V) (most came:Int):VB:=⟨true,⟨146,(0,0)⟩,[v,.int .i64 most,.int .u64 came]⟩
theorem wJ (ids:List Nat):∀l:List One,ah ids (fp l)=jF l
 |[]=>rfl
 |a::l=>by rw[fp,iG,wJ ids l];rfl
theorem Sb:∀l:List One,(jF l).length=l.length*5
 |[]=>rfl
 |a::l=>by simp only[jF,fq,Sb l,kN,mq];show 5+_=_;omega
def gD (n:Nat) (f:fc) (args:List V) (bl:List VB) (K:VK Empty):Prop:=bo (fA prog (λ_=>none) ([]:List (bK Empty)) (FI prog) JX) n f args bl [] K
theorem DB {n f n0:Nat} {args:List V} {bl:List VB} {K:VK Empty} (h:gD n f args bl (br n0 K)) {ids:List Nat} (hl:ids.length=bl.length) (hn:n0<=ids.length) {bs:List ai} {ms:List Nat} {w0 w:ae} (S:St ms w0 (lits ids ids bl++bs) w):
 aS prog f (aD ids args).toArray w λv w1=>∃x more b,v=den (ids.take n0++more) x/\(ids.take n0++more).length=b.length/\St ms w0 (lits (ids.take n0++more) (ids.take n0++more) b++bs) w1/\K x b []:=by
 refine(eG (aC.nil (G:=Empty) (P:=prog) (gl:=λ_=>none)).T (aC.nil (G:=Empty) (P:=prog) (gl:=λ_=>none)).Q n (C:=fA prog (λ_=>none) ([]:List (bK Empty)) (FI prog) JX) (ids:=ids) (bl:=bl) (ch:=[]) (R:=bs) Gl.none hl S h).mono ?_;rintro v w' ⟨y,more,bl',ch',rfl,h1,S',hK⟩
 match ch',S',hK with
 |[],S',hK=>
  obtain⟨v2,cB,bl2,e,cW,S2,hK⟩:=hU (n0:=n0) h1 (by simp;omega) S' hK;rw[List.take_append_of_le_length hn]at e cW S2;exact⟨v2,cB,bl2,e,cW,S2,hK⟩
 |e::_,_,_=>nomatch e
def KP (most:Int) (y:V) (M:List Sd.Ask):VK Empty:=λx b _=>x=y/\∃es cm,fQ es/\cD es=M/\((es=[]/\b=[cL (.raw (.slice none 0 0)) most cm])\/∃c t,b=[cL (.sl 1 0 es.length c) most cm,⟨true,⟨162,(0,0)⟩,fp es++t⟩]/\bj 0 t=true/\es.length<=c/\bY (fp es++t)=c*5)
theorem aax {f:Nat} {ar:List V} {most came:Int} {y:V} {M:List Sd.Ask} {es:List One} {x:Option aO} {c bq:Nat} {rows bs:List ai} {ms:List Nat} {w0 w:ae} (hy:cK 0 y=true) (hr:eW 5 162 (jF es) x es.length c rows)
 (hz:es=[]->gD 90 f (.ptr 0 0::ar) [cL (.raw (.slice none 0 0)) most came] (br 1 (KP most y M)))
 (h:∀t,es.length<=c->bY (fp es++[.rest t])=c*5->gD 90 f (.ptr 0 0::ar) [cL (.sl 1 0 es.length c) most came,dy es t] (br 1 (KP most y M)))
 (has:∀ids,aD ids ar=aD [] ar) (S:St ms w0 (⟨bq,true,.cells #[.slice x es.length c,.int .i64 most,.int .u64 came] 146 (0,0)⟩::(rows++bs)) w):
 aS prog f (#[.pointer (some ⟨bq,0,none⟩)]++(aD [] ar).toArray) w λv w1=>∃bl',v=den [] y/\QS bq most M bl'/\St ms w0 (bl'++bs) w1:=by
 have fin:∀ids:List Nat,(∃r,ids=bq::r)->aS prog f (aD ids (.ptr 0 0::ar)).toArray w (λv w1=>∃x more b,v=den (ids.take 1++more) x/\(ids.take 1++more).length=b.length/\St ms w0 (lits (ids.take 1++more) (ids.take 1++more) b++bs) w1/\KP most y M x b [])->
  aS prog f (#[.pointer (some ⟨bq,0,none⟩)]++(aD [] ar).toArray) w λv w1=>∃bl',v=den [] y/\QS bq most M bl'/\St ms w0 (bl'++bs) w1:=by
  rintro ids ⟨r,rfl⟩ hg;have e0:(aD (bq::r) (.ptr 0 0::ar)).toArray=#[.pointer (some ⟨bq,0,none⟩)]++(aD [] ar).toArray:=by
   apply fe;simp only[aD,den,has,Array.toList_append];rfl
  rw[e0]at hg;refine hg.mono ?_;rintro v w1 ⟨v2,more,b,rfl,hl,S1,rfl,sh,cm,hH,hA,hb⟩;simp only[List.take_succ_cons,V9,Ex]at hl S1⊢;have ey:den (bq::more) v2=den [] v2:=fI (ids:=[]) (more:=bq::more) v2 hy;rcases hb with⟨rfl,rfl⟩|⟨c',t,rfl,ht,hc,hs⟩
  ·obtain rfl:more=[]:=by simpa using hl
   exact⟨_,ey,⟨[],none,0,cm,[],rfl,xN _ _,hH,hA⟩,S1⟩
  ·match more,hl with
   |[b2],_=>
    have e1:ah [bq,b2] (fp sh++t)=jF sh++ah [] t:=by
     rw[iG,wJ];exact congrArg _ (j4 (ids:=[]) (more:=[bq,b2]) t ht)
    have e2:lits [bq,b2] [bq,b2] [cL (.sl 1 0 sh.length c') most cm,⟨true,⟨162,(0,0)⟩,fp sh++t⟩]=⟨bq,true,.cells #[.slice (some ⟨b2,0,none⟩) sh.length c',.int .i64 most,.int .u64 cm] 146 (0,0)⟩::[⟨b2,true,.cells (jF sh++ah [] t).toArray 162 (0,0)⟩]:=by
     rw[<-e1];rfl
    rw[e2]at S1;refine⟨_,ey,⟨sh,some ⟨b2,0,none⟩,c',cm,_,rfl,⟨Sb sh,hc,.inr ⟨b2,ah [] t,rfl,rfl,?_⟩⟩,hH,hA⟩,S1⟩;rw[<-e1,kr,hs]
 obtain⟨_,hle,jK⟩:=hr;rcases jK with⟨rfl,h0,rfl,rfl⟩|⟨b,t,rfl,rfl,hlen⟩
 ·obtain rfl:es=[]:=mZ h0;exact fin [bq] ⟨[],rfl⟩ (DB (hz rfl) rfl (by simp) S)
 ·have e3:lits [bq,b] [bq,b] [cL (.sl 1 0 es.length c) most came,dy es t]=⟨bq,true,.cells #[.slice (some ⟨b,0,none⟩) es.length c,.int .i64 most,.int .u64 came] 146 (0,0)⟩::[⟨b,true,.cells (jF es++t).toArray 162 (0,0)⟩]:=by
   simp only[lits,az,dy,iG,wJ,ah,cl,cQ];rfl
  refine fin [bq,b] ⟨[b],rfl⟩ (DB (h t hle ?_) rfl (by simp) (by rw[e3];exact S));rw[<-kr (ids:=[]),iG,wJ];simpa[ah,cl]using hlen
def DC (a b:One) (X Y:Prop):Prop:=cond (a.a.bC !=b.a.bC) (cond (decide (a.a.bC<b.a.bC)) X Y) (cond (decide (a.came<b.came)) X Y)
def yT (a b:One) (X Y:Prop):Prop:=cond (a.a.bC !=b.a.bC) (cond (!decide (a.a.bC<b.a.bC)) Y X) (cond (!decide (a.came<b.came)) Y X)
def Ba (s:Int) (sZ:Nat->Prop) (GR:Prop):List One->Nat->Prop
 |[],_=>GR
 |e::l,i=>cond (e.a.source==s) (sZ i) (Ba s sZ GR l (i+1))
def KR (k:List One->Prop):List One->Nat->Prop
 |[a,b],0=>k [b,a]
 |[a,b,c],0=>yT b c (k [b,c,a]) (k [c,b,a])
 |[a,b,c],1=>yT c a (k [c,a,b]) (k [a,c,b])
 |l,_=>k l
def GS (es:List One) (s:Int) (k:Bool->List One->Nat->Prop):Prop:=Ba s (λi=>KR (λl=>k true l (es.length-1)) es i) (k false es es.length) es 0
theorem KT {a b:One} {X Y:Prop} (hr:¬a.a.bC=b.a.bC) (h1:a.a.bC<b.a.bC->X) (h2:b.a.bC<a.a.bC->Y):DC a b X Y:=by
 unfold DC;have e:(a.a.bC !=b.a.bC)=true:=by simpa using hr
 rw[e,cond_true];exact aI (λh=>h1 (of_decide_eq_true h)) λh=>h2 (by have:=of_decide_eq_false h;omega)
theorem KU {a b:One} {X Y:Prop} (hr:¬a.a.bC=b.a.bC) (h1:a.a.bC<b.a.bC->X) (h2:b.a.bC<a.a.bC->Y):yT a b X Y:=by
 unfold yT;have e:(a.a.bC !=b.a.bC)=true:=by simpa using hr
 rw[e,cond_true];exact aI (λh=>h2 (by have:¬a.a.bC<b.a.bC:=by simpa using h
                                      omega)) λh=>h1 (by simpa using h)
theorem alk (s:Int) {k:Bool->List One->Nat->Prop}:∀{es:List One},fQ es->(∀b l m,b=Sd.Q.waits (cD es) s->l.length=es.length->fQ (l.take m)->cD (l.take m)=Sd.Q.drop (cD es) s->m<=es.length->k b l m)->GS es s k
 |[],hH,h=>h _ [] 0 rfl rfl trivial rfl (by simp)
 |[a],hH,h=>by
  simp only[GS,Ba,KR];refine aI (λh1=>h _ _ _ ?_ rfl ?_ ?_ ?_) (λh1=>h _ _ _ ?_ rfl ?_ ?_ ?_)<;>simp at h1<;>simp[cD,fQ,Sd.Q.drop,Sd.Q.waits,h1]
 |[a,b],hH,h=>by
  simp only[GS,Ba,KR];obtain⟨hr,hs⟩:=hH;have jg:¬b.a.source=a.a.source:=λh=>hs h.symm;refine aI (λh1=>?_) (λh1=>aI (λh2=>?_) (λh2=>?_));all_goals
   refine h _ _ _ ?_ rfl ?_ ?_ ?_<;>clear h;all_goals (simp only[beq_iff_eq,beq_eq_false_iff_ne,ne_eq]at*;subst_vars;simp[cD,fQ,Sd.Q.drop,Sd.Q.waits, *])
 |[a,b,c],hH,h=>by
  simp only[GS,Ba,KR];obtain⟨⟨r1,r2,r3⟩,s1,s2,s3⟩:=hH;have s1':¬b.a.source=a.a.source:=λh=>s1 h.symm;have s2':¬c.a.source=a.a.source:=λh=>s2 h.symm;have s3':¬c.a.source=b.a.source:=λh=>s3 h.symm;have r4:b.a.bC<c.a.bC\/c.a.bC<b.a.bC:=by omega
  refine aI (λh1=>KU r3 (λh4=>?_) (λh4=>?_)) (λh1=>aI (λh2=>KU (by omega) (λh4=>absurd h4 (by omega)) (λh4=>?_)) (λh2=>aI (λh3=>?_) (λh3=>?_)));all_goals
   refine h _ _ _ ?_ rfl ?_ ?_ ?_<;>clear h;all_goals (rcases r4 with r4|r4<;>have r5:=IQ r4<;>simp only[beq_iff_eq,beq_eq_false_iff_ne,ne_eq]at*<;>subst_vars<;>simp[cD,fQ,Sd.Q.drop,Sd.Q.waits, *]<;>omega)
 |_::_::_::_::_,hH,_=>absurd hH (by simp[fQ])
def aay (x:One) (k:List One->Prop):List One->Prop
 |[]=>k [x]
 |[a]=>yT x a (k [x,a]) (k [a,x])
 |[a,b]=>yT x a (k [x,b,a]) (k [a,b,x])
 |[a,b,c]=>yT x b (yT x a (k [x,a,c,b]) (k [a,x,c,b])) (k [a,b,c,x])
 |_=>False
theorem alm (x:One) {k:List One->Prop}:∀{es:List One},fQ es->es.length<3->(∀e∈cD es,¬e.source=x.a.source/\¬e.bC=x.a.bC)->(∀l,l.length=es.length+1->fQ l->cD l=Sd.Q.insert (cD es) x.a->k l)->aay x k es
 |[],hH,_,_,h=>h _ rfl trivial rfl
 |[a],hH,_,hr,h=>by
  obtain⟨h1,h2⟩:=hr a.a (by simp[cD]);have Sc:¬x.a.source=a.a.source:=λh=>h1 h.symm;refine KU (by omega) (λh4=>h _ rfl ?_ ?_) (λh4=>h _ rfl ?_ ?_)<;>clear h<;>have h5:=IQ h4<;>have h6:=Int.le_of_lt h4<;>have h7:=Int.not_le.2 h4<;>simp[cD,fQ,Sd.Q.insert,List.takeWhile,List.dropWhile, *]
 |[a,b],hH,_,hr,h=>by
  obtain⟨r1,s1⟩:=hH;obtain⟨h1,h2⟩:=hr a.a (by simp[cD]);obtain⟨g1,g2⟩:=hr b.a (by simp[cD]);have Sc:¬x.a.source=a.a.source:=λh=>h1 h.symm;have KC:¬x.a.source=b.a.source:=λh=>g1 h.symm;have s1':¬b.a.source=a.a.source:=λh=>s1 h.symm;have r4:b.a.bC<x.a.bC\/x.a.bC<b.a.bC:=by omega
  refine KU (by omega) (λh4=>h _ rfl ?_ ?_) (λh4=>h _ rfl ?_ ?_)<;>clear h hr<;>rcases r4 with r4|r4<;>have r5:=IQ r4<;>have r6:=Int.le_of_lt r4<;>have r7:=Int.not_le.2 r4<;>have h5:=IQ h4<;>have h6:=Int.le_of_lt h4<;>have h7:=Int.not_le.2 h4<;>have r8:=IQ r1<;>
   simp[cD,fQ,Sd.Q.insert,List.takeWhile,List.dropWhile, *]<;>omega
 |_::_::_::_,_,hl,_,_=>absurd hl (by simp)
def aaz (k:List One->Prop):List One->Prop
 |[a,b]=>DC b a (k [b,a]) (k [a,b])
 |[a,b,c]=>DC b a (S b a c) (S a b c)
 |l=>k l
where S (p q c:One):Prop:=DC c q (DC c p (k [c,p,q]) (k [p,c,q])) (k [p,q,c])
theorem aln {k:List One->Prop}:∀{es:List One},fQ es->(∀l,l.map (·.a)=cD es->l.length=es.length->k l)->aaz k es
 |[],hH,h=>h _ rfl rfl
 |[a],hH,h=>h _ rfl rfl
 |[a,b],hH,h=>KT (by obtain⟨r,_⟩:=hH;omega) (λh4=>absurd h4 (by obtain⟨r,_⟩:=hH;omega)) λ_=>h _ rfl rfl
 |[a,b,c],hH,h=>by
  obtain⟨⟨r1,r2,r3⟩,_⟩:=hH;refine KT (by omega) (λh4=>absurd h4 (by omega)) λ_=>KT (by omega) (λh4=>KT (by omega) (λh5=>absurd h5 (by omega)) λ_=>h _ ?_ rfl) λh4=>h _ ?_ rfl
  ·simp[cD,IQ h4]
  ·simp[cD,h4]
 |_::_::_::_::_,hH,_=>absurd hH (by simp[fQ])
theorem GU {most cm:Int} {y:V} {M:List Sd.Ask} {l:List One} {m c:Nat} {t:List ab} (hm:m<=l.length) (hc:l.length<=c) (hs:bY (fp l++[.rest t])=c*5) (hH:fQ (l.take m)) (hA:cD (l.take m)=M):KP most y M y [cL (.sl 1 0 m c) most cm,dy l t] []:=by
 have e1:(l.take m).length=m:=by rw[u9];omega
 have e2:∀a b:List One,fp (a++b)=fp a++fp b:=λa b=>by
  induction a with
  |nil=>rfl
  |cons x a ih=>simp only[ft,fp,ih,bR]
 have e3:fp l++[.rest t]=fp (l.take m)++(fp (l.drop m)++[.rest t]):=by
  rw[<-bR,<-e2,jv]
 have e4:∀l:List One,bj 0 (fp l++[.rest t])=true:=λl=>by
  induction l with
  |nil=>rfl
  |cons x l ih=>simp only[fp,KQ,ft,fl,bj,ih];rfl
 refine⟨rfl,l.take m,cm,hH,hA,.inr ⟨c,fp (l.drop m)++[.rest t],?_,e4 _,by omega,by rw[<-e3];exact hs⟩⟩;rw[e1,<-e3];rfl
theorem wK (t:List ab):∀l:List One,bY (fp l++[.rest t])=l.length*5+t.length
 |[]=>by simp[fp,bY,Jg]
 |e::l=>by
  have:=wK t l;simp only[fp,KQ,ft,fl,bY,Jg,this,kN];omega
section
variable(e0 e1 e2:One) (n c:Nat) (t:List ab) (most came s:Int) (K:VK Empty)
def dK (l:List One):Prop:=GS l s λr l m=>K (.bool r) [cL (.sl 1 0 m c) most came,dy l t] []
theorem alo:gD 90 86 [.ptr 0 0,.int .i64 s] [cL (.raw (.slice none 0 0)) most came] (br 1 K)=K (.bool false) [cL (.raw (.slice none 0 0)) most came] []:=by kernel_rfl
theorem alp:gD 90 86 [.ptr 0 0,.int .i64 s] [cL (.sl 1 0 0 c) most came,dy [] t] (br 1 K)=dK c t most came s K []:=by kernel_rfl
theorem alq:gD 90 86 [.ptr 0 0,.int .i64 s] [cL (.sl 1 0 [e0].length (c+[e0].length)) most came,dy [e0] t] (br 1 K)=dK (c+[e0].length) t most came s K [e0]:=by kernel_rfl
theorem alr:gD 90 86 [.ptr 0 0,.int .i64 s] [cL (.sl 1 0 [e0,e1].length (c+[e0,e1].length)) most came,dy [e0,e1] t] (br 1 K)=dK (c+[e0,e1].length) t most came s K [e0,e1]:=by kernel_rfl
theorem als:gD 90 86 [.ptr 0 0,.int .i64 s] [cL (.sl 1 0 [e0,e1,e2].length (c+[e0,e1,e2].length)) most came,dy [e0,e1,e2] t] (br 1 K)=dK (c+[e0,e1,e2].length) t most came s K [e0,e1,e2]:=by kernel_rfl
end
theorem alu {c:Nat} {t:List ab} {most came s:Int} {K:VK Empty}:∀{es:List One},fQ es->dK (c+es.length) t most came s K es->Hd (gD 90 86 [.ptr 0 0,.int .i64 s] [cL (.sl 1 0 es.length (c+es.length)) most came,dy es t] (br 1 K))
 |[],_,h=>⟨by rw[IL,alp];exact h⟩
 |[e0],_,h=>⟨by rw[alq];exact h⟩
 |[e0,e1],_,h=>⟨by rw[alr];exact h⟩
 |[e0,e1,e2],_,h=>⟨by rw[als];exact h⟩
 |_::_::_::_::_,hH,_=>absurd hH (by simp[fQ])
theorem alv {es:List One} (hH:fQ es) {most came s:Int} {c:Nat} {t:List ab} (hc:es.length<=c) (hs:bY (fp es++[.rest t])=c*5):dK c t most came s (KP most (.bool (Sd.Q.waits (cD es) s)) (Sd.Q.drop (cD es) s)) es:=
 alk s hH λb l m hb hl h1 h2 hm=>by
  subst hb;exact GU (by omega) (by omega) (by rw[<-hs,wK,wK,hl]) h1 h2
theorem alw {bq:Nat} {most:Int} {L:List Sd.Ask} {bl bs:List ai} {ms:List Nat} {w0 w:ae} (s:Int) (hQ:QS bq most L bl) (S0:St ms w0 (bl++bs) w):
 aS prog 86 #[.pointer (some ⟨bq,0,none⟩),.int .i64 s] w λv w1=>∃bl',v=.bool (Sd.Q.waits L s)/\QS bq most (Sd.Q.drop L s) bl'/\St ms w0 (bl'++bs) w1:=by
 obtain⟨es,x,c,came,rows,rfl,hr,hH,rfl⟩:=hQ;refine aax (f:=86) (ar:=[.int .i64 s]) (y:=.bool (Sd.Q.waits (cD es) s)) rfl hr (λh0=>?_) (λt hc hs=>?_) (λ_=>rfl) S0
 ·subst h0;rw[alo];exact⟨rfl,[],came,trivial,rfl,.inl ⟨rfl,rfl⟩⟩
 ·have h:=alv hH (most:=most) (came:=came) (s:=s) hc hs;obtain⟨d,hd⟩:∃d,c=d+es.length:=⟨c-es.length,by omega⟩;rw[hd]at h⊢;exact(alu hH h).h
section
variable(e0 e1 e2:One) (a:Sd.Ask) (c:Nat) (t:List ab) (most came:Int) (K:VK Empty)
def pK (es:List One) (n c':Nat) (u:List ab):Prop:=aay ⟨a,came⟩ (λl=>K (.int .i64 0) [cL (.sl 1 0 n c') most (u64.wrap (came+1)),dy l u] []) es
def pX (es:List One):Prop:=Ba a.source (λ_=>K (.int .i64 27) [cL (.sl 1 0 es.length c) most came,dy es t] []) (cond (decide ((es.length:Int)>=most)) (K (.int .i64 3) [cL (.sl 1 0 es.length c) most came,dy es t] [])
 ((es.length<=c/\bY (fp es++[.rest t])=c*5)/\(∀(c':Nat) (u:List ab),es.length+1<=c'->bY (fp (es++[⟨a,came⟩])++[.rest u])=c'*5->pK a most came K es (es.length+1) c' u)/\
   (∀(c':Nat) (u:List ab),es.length+1<=c'->bY (fp (es++[⟨a,came⟩])++[.rest u])=c'*5->pK a most came K es (es.length+1) c' u))) es 0
theorem alx:gD 90 216 [.ptr 0 0,.agg (sY a)] [cL (.raw (.slice none 0 0)) most came] (br 1 K)=cond (decide ((0:Int)>=most)) (K (.int .i64 3) [cL (.raw (.slice none 0 0)) most came] [])
 (∀(c':Nat) (u:List ab),1<=c'->bY (fp [⟨a,came⟩]++[.rest u])=c'*5->pK a most came K [] 1 c' u):=by kernel_rfl
theorem aly:gD 90 216 [.ptr 0 0,.agg (sY a)] [cL (.sl 1 0 0 0) most came,dy [] t] (br 1 K)=cond (decide ((0:Int)>=most)) (K (.int .i64 3) [cL (.sl 1 0 0 0) most came,dy [] t] [])
 (∀(c':Nat) (u:List ab),1<=c'->bY (fp [⟨a,came⟩]++[.rest u])=c'*5->pK a most came K [] 1 c' u):=by kernel_rfl
theorem alz:gD 90 216 [.ptr 0 0,.agg (sY a)] [cL (.sl 1 0 0 (c+1)) most came,dy [] t] (br 1 K)=pX a (c+1) t most came K []:=by kernel_rfl
theorem alA:gD 90 216 [.ptr 0 0,.agg (sY a)] [cL (.sl 1 0 [e0].length c) most came,dy [e0] t] (br 1 K)=pX a c t most came K [e0]:=by kernel_rfl
theorem alB:gD 90 216 [.ptr 0 0,.agg (sY a)] [cL (.sl 1 0 [e0,e1].length c) most came,dy [e0,e1] t] (br 1 K)=pX a c t most came K [e0,e1]:=by kernel_rfl
theorem alC:gD 90 216 [.ptr 0 0,.agg (sY a)] [cL (.sl 1 0 [e0,e1,e2].length c) most came,dy [e0,e1,e2] t] (br 1 K)=pX a c t most came K [e0,e1,e2]:=by kernel_rfl
end
def KS (n:Nat) (B:List VB) (M:List Sd.Ask):VK Empty:=λx b _=>∃l c u,x=.sl 2 0 n c/\b=B++[dy l u]/\l.map (·.a)=M/\l.length=n/\n<=c/\bY (fp l++[.rest u])=c*5
section
variable(e0 e1 e2:One) (c:Nat) (t:List ab) (most came:Int) (K:VK Empty)
def sX (es:List One):Prop:=∀(c':Nat) (u:List ab),es.length<=c'->bY (fp es++[.rest u])=c'*5->aaz (λl=>K (.sl 2 0 es.length c') [cL (.sl 1 0 es.length c) most came,dy es t,dy l u] []) es
theorem alD:gD 90 68 [.ptr 0 0] [cL (.raw (.slice none 0 0)) most came] (br 1 K)=K (.raw (.slice none 0 0)) [cL (.raw (.slice none 0 0)) most came] []:=by kernel_rfl
theorem alE:gD 90 68 [.ptr 0 0] [cL (.sl 1 0 0 c) most came,dy [] t] (br 2 K)=K (.sl 2 0 0 0) [cL (.sl 1 0 0 c) most came,dy [] t,⟨true,⟨162,(0,0)⟩,[]⟩] []:=by kernel_rfl
theorem alF:gD 90 68 [.ptr 0 0] [cL (.sl 1 0 [e0].length (c+[e0].length)) most came,dy [e0] t] (br 2 K)=sX (c+[e0].length) t most came K [e0]:=by kernel_rfl
theorem alG:gD 90 68 [.ptr 0 0] [cL (.sl 1 0 [e0,e1].length (c+[e0,e1].length)) most came,dy [e0,e1] t] (br 2 K)=sX (c+[e0,e1].length) t most came K [e0,e1]:=by kernel_rfl
theorem alH:gD 90 68 [.ptr 0 0] [cL (.sl 1 0 [e0,e1,e2].length (c+[e0,e1,e2].length)) most came,dy [e0,e1,e2] t] (br 2 K)=sX (c+[e0,e1,e2].length) t most came K [e0,e1,e2]:=by kernel_rfl
def lF (b:VB):VB:=⟨false,b.ty,b.c⟩
def jU:List Sd.Ask->Sd.Ask×Int
 |[]=>(⟨0,0,⟨0,0⟩⟩,2)
 |a::_=>(a,0)
def hV (l:List Sd.Ask):V:=.an [.agg (sY (jU l).1),.int .i64 (jU l).2]
theorem alI:gD 30 213 [.ptr 0 0] [lF (cL (.raw (.slice none 0 0)) most came)] (br 0 K)=K (hV []) [] []:=by kernel_rfl
theorem alJ:gD 30 213 [.ptr 0 0] [lF (cL (.sl 1 0 0 c) most came),lF (dy [] t)] (br 0 K)=K (hV []) [] []:=by kernel_rfl
theorem alK:gD 30 213 [.ptr 0 0] [lF (cL (.sl 1 0 [e0].length c) most came),lF (dy [e0] t)] (br 0 K)=K (hV [e0.a]) [] []:=by kernel_rfl
theorem alL:gD 30 213 [.ptr 0 0] [lF (cL (.sl 1 0 [e0,e1].length c) most came),lF (dy [e0,e1] t)] (br 0 K)=K (hV [e0.a]) [] []:=by kernel_rfl
theorem alM:gD 30 213 [.ptr 0 0] [lF (cL (.sl 1 0 [e0,e1,e2].length c) most came),lF (dy [e0,e1,e2] t)] (br 0 K)=K (hV [e0.a]) [] []:=by kernel_rfl
end
def KV (n:Nat) (es:List One) (k0:Option aO->Nat->Prop) (k:Nat->List One->List ab->Prop):Prop:=match n with
 |0=>∀(x:Option aO) (c:Nat),k0 x c
 |1=>∀(a:One) (c:Nat) (t:List ab),[a.a]=cD es->k c [a] t
 |2=>∀(a b:One) (c:Nat) (t:List ab),[a.a,b.a]=cD es->k c [a,b] t
 |3=>∀(a b d:One) (c:Nat) (t:List ab),[a.a,b.a,d.a]=cD es->k c [a,b,d] t
 |_=>False
def Se (n:Nat) (es:List One) (most came:Int):c_ bU:=λargs bl ch K=>match args,bl,ch with
 |[.ptr 0 0],[b],[g1,g2,g]=>(b=cL g.v most came/\g.T=162/\g.z=5/\g.os=jF es/\g.n=es.length/\es.length=n/\fQ es)/\KV n es (λx c=>K (.raw (.slice x 0 c)) bl ch) (λc l t=>K (.sl 1 0 n c) (bl++[dy l t]) ch)
 |_,_,_=>False
def apps (r:bU) (news:List ab) (k:bU->Prop):Prop:=(r.v=r.v/\r.n+1<=1000000)/\∀(xa:Option aO) (c:Nat) (bk:List ai) (h:eW r.z r.T (r.os++news) xa (r.n+1) c bk),k ⟨r.T,r.z,r.os++news,xa,r.n+1,c,bk,h⟩
def KW (g:bU) (T z:Nat) (os:List ab) (n:Nat):Prop:=g.T=T/\g.z=z/\g.os=os/\g.n=n
theorem aaA:∀a b:List Sd.Ask,uy (a++b)=uy a++uy b
 |[],b=>rfl
 |x::a,b=>by simp only[ft,uy,aaA a b,bR]
theorem alN {r:bU} {news:List ab} {k:bU->Prop} {T z n:Nat} {os:List ab} (h:KW r T z os n) (hn:n<100) (hk:∀r',KW r' T z (os++news) (n+1)->k r'):apps r news k:=by
 obtain⟨rfl,rfl,rfl,rfl⟩:=h;exact⟨⟨rfl,by omega⟩,λxa c bk hh=>hk _ ⟨rfl,rfl,rfl,rfl⟩⟩
theorem aaB {es:List One} (h:fQ es):(cD es).length=es.length/\es.length<=3:=by
 match es,h with
 |[],_=>simp[cD]
 |[x],_=>simp[cD]
 |[x,y],h=>simp[cD]
 |[x,y,z],h=>simp only[cD];split<;>simp
 |_::_::_::_::_,h=>exact absurd h (by simp[fQ])
theorem alO {n:Nat} {es l:List One} {k0:Option aO->Nat->Prop} {k:Nat->List One->List ab->Prop} (h:KV n es k0 k) (hl:l.length=n) (hm:l.map (·.a)=cD es):(n=0->∀x c,k0 x c)/\(0<n->∀c t,k c l t):=by
 match l,n,hl with
 |[],0,_=>exact⟨λ_=>h,λh=>by omega⟩
 |[a],1,_=>exact⟨λh=>by omega,λ_ c t=>h a c t hm⟩
 |[a,b],2,_=>exact⟨λh=>by omega,λ_ c t=>h a b c t hm⟩
 |[a,b,d],3,_=>exact⟨λh=>by omega,λ_ c t=>h a b d c t hm⟩
 |_::_::_::_::_,n+4,_=>exact h.elim
theorem alP {n:Nat} {es:List One} {k0:Option aO->Nat->Prop} {k:Nat->List One->List ab->Prop} (hn:n<=3) (h0:n=0->∀x c,k0 x c) (h:∀l c t,l.map (·.a)=cD es->l.length=n->k c l t):KV n es k0 k:=by
 match n,hn with
 |0,_=>exact h0 rfl
 |1,_=>exact λa c t hm=>h [a] c t hm rfl
 |2,_=>exact λa b c t hm=>h [a,b] c t hm rfl
 |3,_=>exact λa b d c t hm=>h [a,b,d] c t hm rfl
theorem alQ {c:Nat} {t:List ab} {most came:Int} {K:VK Empty}:∀{es:List One},fQ es->0<es.length->sX (c+es.length) t most came K es->Hd (gD 90 68 [.ptr 0 0] [cL (.sl 1 0 es.length (c+es.length)) most came,dy es t] (br 2 K))
 |[],_,h0,_=>absurd h0 (by simp)
 |[e0],_,_,h=>⟨by rw[alF];exact h⟩
 |[e0,e1],_,_,h=>⟨by rw[alG];exact h⟩
 |[e0,e1,e2],_,_,h=>⟨by rw[alH];exact h⟩
 |_::_::_::_::_,hH,_,_=>absurd hH (by simp[fQ])
theorem alR {es:List One} {x:Option aO} {c bq:Nat} {most came:Int} {rows bs:List ai} {ms:List Nat} {w0 w:ae} (jK:eW 5 162 (jF es) x es.length c rows) (hH:fQ es)
 (S0:St ms w0 (⟨bq,true,.cells #[.slice x es.length c,.int .i64 most,.int .u64 came] 146 (0,0)⟩::(rows++bs)) w):
 aS prog 68 #[.pointer (some ⟨bq,0,none⟩)] w λv w1=>∃l xr cr rw,v=.slice xr es.length cr/\l.map (·.a)=cD es/\l.length=es.length/\(es.length=0\/eW 5 162 (jF l) xr es.length cr rw)/\St ms w0 (rw++(⟨bq,true,.cells #[.slice x es.length c,.int .i64 most,.int .u64 came] 146 (0,0)⟩::(rows++bs))) w1:=by
 obtain⟨_,hle,jK⟩:=jK;rcases jK with⟨rfl,h0,rfl,rfl⟩|⟨b,t,rfl,rfl,hlen⟩
 ·obtain rfl:es=[]:=mZ h0;refine(DB (f:=68) (n:=90) (args:=[.ptr 0 0]) (n0:=1) (K:=λx b _=>x=.raw (.slice none 0 0)/\b=[cL (.raw (.slice none 0 0)) most came]) (ids:=[bq]) (bl:=[cL (.raw (.slice none 0 0)) most came]) (by rw[alD];exact⟨rfl,rfl⟩) rfl (by simp) S0).mono ?_;rintro v w1 ⟨x,more,b,rfl,hl,S1,rfl,rfl⟩;obtain rfl:more=[]:=by simpa using hl
  exact⟨[],none,0,[],rfl,rfl,rfl,.inl rfl,S1⟩
 ·have e3:lits [bq,b] [bq,b] [cL (.sl 1 0 es.length c) most came,dy es t]=⟨bq,true,.cells #[.slice (some ⟨b,0,none⟩) es.length c,.int .i64 most,.int .u64 came] 146 (0,0)⟩::[⟨b,true,.cells (jF es++t).toArray 162 (0,0)⟩]:=by
   simp only[lits,az,dy,iG,wJ,ah,cl,cQ];rfl
  have S1:St ms w0 (lits [bq,b] [bq,b] [cL (.sl 1 0 es.length c) most came,dy es t]++bs) w:=by rw[e3];exact S0
  rcases u6 es.length with h0|h0
  ·obtain rfl:es=[]:=mZ h0;refine(DB (f:=68) (n:=90) (args:=[.ptr 0 0]) (n0:=2) (K:=λx b _=>x=.sl 2 0 0 0/\b=[cL (.sl 1 0 0 c) most came,dy [] t,⟨true,⟨162,(0,0)⟩,[]⟩]) (ids:=[bq,b]) (by rw[show([]:List One).length=0 from rfl,alE];exact⟨rfl,rfl⟩) rfl (by simp) S1).mono ?_;rintro v w1 ⟨x,more,bl',rfl,hl,S2,rfl,rfl⟩
   match more,hl with
   |[b2],_=>
    refine⟨[],some ⟨b2,0,none⟩,0,[],rfl,rfl,rfl,.inl rfl,?_⟩;have e5:lits [bq,b,b2] [bq,b,b2] [cL (.sl 1 0 0 c) most came,dy [] t,⟨true,⟨162,(0,0)⟩,[]⟩]=[⟨bq,true,.cells #[.slice (some ⟨b,0,none⟩) 0 c,.int .i64 most,.int .u64 came] 146 (0,0)⟩,⟨b,true,.cells (jF []++t).toArray 162 (0,0)⟩]++[⟨b2,true,.cells #[] 162 (0,0)⟩]:=by
     simp only[ft,fl,lits,az,dy,fp,jF,ah,cl,cQ];rfl
    have e4:([bq,b].take 2++[b2]:List Nat)=[bq,b,b2]:=rfl;rw[e4,e5]at S2;have:=S2.sub (ad3 (List.sublist_append_left [_,_] _) bs);exact this
  ·have cS:gD 90 68 [.ptr 0 0] [cL (.sl 1 0 es.length c) most came,dy es t] (br 2 (KS es.length [cL (.sl 1 0 es.length c) most came,dy es t] (cD es))):=by
    have h:sX c t most came (KS es.length [cL (.sl 1 0 es.length c) most came,dy es t] (cD es)) es:=λc' u h1 h2=>aln hH λl hm hl=>⟨l,c',u,rfl,rfl,hm,hl,h1,by rw[<-h2,wK,wK,hl]⟩;clear hlen e3 S0 S1;obtain⟨d,hd⟩:∃d,c=d+es.length:=⟨c-es.length,by omega⟩;rw[hd]at h⊢;exact(alQ hH h0 h).h
   refine(DB cS (ids:=[bq,b]) rfl (by simp) S1).mono ?_;rintro v w1 ⟨x,more,bl',rfl,hl,S2,l,c',u,rfl,rfl,hm,KX,yb,dw⟩
   match more,hl with
   |[b2],_=>
    have e4:([bq,b].take 2++[b2]:List Nat)=[bq,b,b2]:=rfl;have e5:lits [bq,b,b2] [bq,b,b2] ([cL (.sl 1 0 es.length c) most came,dy es t]++[dy l u])=⟨bq,true,.cells #[.slice (some ⟨b,0,none⟩) es.length c,.int .i64 most,.int .u64 came] 146 (0,0)⟩::⟨b,true,.cells (jF es++t).toArray 162 (0,0)⟩::[⟨b2,true,.cells (jF l++u).toArray 162 (0,0)⟩]:=by
     simp only[ft,fl,lits,az,dy,iG,wJ,ah,cl,cQ];rfl
    rw[e4,e5]at S2;refine⟨l,some ⟨b2,0,none⟩,c',[⟨b2,true,.cells (jF l++u).toArray 162 (0,0)⟩],rfl,hm,KX,.inr ⟨by rw[Sb,KX],yb,.inr ⟨b2,u,rfl,rfl,?_⟩⟩,?_⟩
    ·rw[<-dw,<-kr (ids:=[]),iG,wJ];simp[ah,cl]
    ·exact S2.perm ((Et bs (List.perm_append_comm (l₁:=[_,_]) (l₂:=[_]))))
theorem alS (n:Nat) (es:List One) (most came:Int):Sound prog (λ_=>none) 68 (Se n es most came):=by
 intro args ids bl ch R ms w0 w K hg hl S hc;unfold Se at hc;split at hc
 ·rename_i b g1 g2 g;obtain⟨⟨rfl,hT,hz,yU,hn,rfl,hH⟩,hK⟩:=hc
  match ids,hl with
  |[i],_=>
   have e1:lits [i] [i] [cL g.v most came]=[⟨i,true,.cells #[.slice g.x g.n g.c,.int .i64 most,.int .u64 came] 146 (0,0)⟩]:=rfl;have p1:∀(q:ai) (A B D:List ai),(([q]:List ai)++(A++(B++(D++R)))).Perm (q::(D++(A++(B++R)))):=by
    intro q A B D;refine u7 q ?_;have:=rW (A++B) D R;simpa[bR]using this
   rw[e1]at S;have S1:=S.perm (p1 _ g1.bl g2.bl g.bl);have hr:=g.h;rw[hT,hz,yU,hn]at hr;rw[hn]at S1;refine(alR hr hH S1).mono ?_;rintro v w1 ⟨l,xr,cr,rw_,rfl,hm,KX,jK,S2⟩;obtain⟨k0,k1⟩:=alO hK KX hm;rcases u6 es.length with h0|h0
   ·refine⟨_,[],_,_,?_,rfl,?_,k0 h0 xr cr⟩
    ·simp only[den];rw[h0]
    ·have S3:=S2.sub (oT rw_ _);rw[<-hn]at S3;have S4:=S3.perm (p1 _ g1.bl g2.bl g.bl).symm;exact S4
   ·rcases jK with h|h
    ·omega
    ·obtain⟨_,_,h3⟩:=h;rcases h3 with⟨_,hz,_⟩|⟨b,t,hx,hbl,_⟩
     ·omega
     ·refine⟨_,[b],_,_,?_,rfl,?_,k1 h0 cr t⟩
      ·simp only[den];rw[hx];rfl
      ·rw[hbl,<-hn]at S2;have e2:lits ([i]++[b]) ([i]++[b]) ([cL g.v most came]++[dy l t])=[⟨i,true,.cells #[.slice g.x g.n g.c,.int .i64 most,.int .u64 came] 146 (0,0)⟩]++[⟨b,true,.cells (jF l++t).toArray 162 (0,0)⟩]:=by
        simp only[Ex,lits,az,dy,iG,wJ,ah,cl,cQ];rfl
       rw[e2];refine S2.perm ?_;refine(qG _ (p1 _ g1.bl g2.bl g.bl).symm).trans ?_;rw[bR];exact rW _ _ _
 ·exact hc.elim
theorem Sf {es:List One} (h:fQ es) (x:Sd.Ask):x∈cD es↔∃e∈es,e.a=x:=by
 match es,h with
 |[],_=>simp[cD]
 |[a],_=>simp[cD,eq_comm]
 |[a,b],_=>simp[cD,eq_comm]
 |[a,b,d],_=>
  simp only[cD];split<;>simp[eq_comm];exact or_congr_right or_comm
 |_::_::_::_::_,h=>exact absurd h (by simp[fQ])
theorem aaC {s:Int} {sZ:Nat->Prop} {GR:Prop}:∀{es:List One} {i:Nat},((∃e∈es,e.a.source=s)->∀i,sZ i)->((∀e∈es,¬e.a.source=s)->GR)->Ba s sZ GR es i
 |[],_,_,h2=>h2 (by simp)
 |e::l,i,h1,h2=>aI (λh=>h1 ⟨e,by simp,by simpa using h⟩ i) λh=>aaC (λ⟨x,hx,hs⟩=>h1 ⟨x,by simp[hx],hs⟩) λhl=>h2 λx hx=>by
  rcases ca.1 hx with rfl|hx
  ·simpa using h
  ·exact hl x hx
theorem alT {es:List One} (hH:fQ es) {a:Sd.Ask} {most came:Int} {c:Nat} {t:List ab} (hm:most<=3) (hr:∀e∈cD es,e.source=a.source\/¬e.bC=a.bC) (hc:es.length<=c) (hs:bY (fp es++[.rest t])=c*5):
 pX a c t most came (KP most (.int .i64 (Sd.Q.push most (cD es) a).2) (Sd.Q.push most (cD es) a).1) es:=by
 obtain⟨Sg,om⟩:=aaB hH;have same:∀k:Int,Sd.Q.push most (cD es) a=(cD es,k)->KP most (.int .i64 (Sd.Q.push most (cD es) a).2) (Sd.Q.push most (cD es) a).1 (.int .i64 k) [cL (.sl 1 0 es.length c) most came,dy es t] []:=λk hk=>by
  rw[hk];exact GU (dE _) hc hs (by rw[V_];exact hH) (by rw[V_])
 refine aaC (λ⟨e,he,hse⟩ _=>same 27 ?_) λri=>aI (λh=>same 3 ?_) λh=>?_
 ·have:Sd.Q.waits (cD es) a.source=true:=zK.2 ⟨e.a,(Sf hH _).2 ⟨e,he,rfl⟩,by simpa using hse⟩;simp[Sd.Q.push,this]
 all_goals
  have hw:Sd.Q.waits (cD es) a.source=false:=List.any_eq_false.2 λx hx=>by
   obtain⟨e,he,rfl⟩:=(Sf hH _).1 hx;simpa using ri e he
 ·have h':most<=((cD es).length:Int):=by rw[Sg];exact of_decide_eq_true h
  simp[Sd.Q.push,hw,h']
 ·have h':¬most<=(es.length:Int):=of_decide_eq_false h;have e1:Sd.Q.push most (cD es) a=(Sd.Q.insert (cD es) a,0):=by simp[Sd.Q.push,hw,Sg,h']
  rw[e1];have X:∀(c':Nat) (u:List ab),es.length+1<=c'->bY (fp (es++[⟨a,came⟩])++[.rest u])=c'*5->pK a most came (KP most (.int .i64 0) (Sd.Q.insert (cD es) a)) es (es.length+1) c' u:=λc' u h1 h2=>by
   refine alm ⟨a,came⟩ hH (by omega) (λe he=>?_) λl hl hH' hA'=>?_
   ·obtain⟨x,hx,rfl⟩:=(Sf hH _).1 he;exact⟨ri x hx,(hr _ he).resolve_left (ri x hx)⟩
   ·exact GU (by omega) (by omega) (by rw[<-h2,wK,wK,hl,fq];rfl) (by rw[<-hl,V_];exact hH') (by rw[<-hl,V_];exact hA')
  exact⟨⟨hc,hs⟩,X,X⟩
theorem aaD {a:Sd.Ask} {most came:Int} (t:List ab) {B:List VB} (hB:B=[cL (.raw (.slice none 0 0)) most came]\/B=[cL (.sl 1 0 0 0) most came,dy [] t]/\t.length=0):
 cond (decide ((0:Int)>=most)) (KP most (.int .i64 (Sd.Q.push most (cD []) a).2) (Sd.Q.push most (cD []) a).1 (.int .i64 3) B [])
  (∀(c':Nat) (u:List ab),1<=c'->bY (fp [⟨a,came⟩]++[.rest u])=c'*5->pK a most came (KP most (.int .i64 (Sd.Q.push most (cD []) a).2) (Sd.Q.push most (cD []) a).1) [] 1 c' u):=by
 refine aI (λh=>?_) λh c' u h1 h2=>?_
 ·have h':most<=0:=of_decide_eq_true h;have e1:Sd.Q.push most (cD []) a=([],3):=by simp[Sd.Q.push,Sd.Q.waits,cD,h']
  rw[e1];rcases hB with rfl|⟨rfl,ht⟩
  ·exact⟨rfl,[],came,trivial,rfl,.inl ⟨rfl,rfl⟩⟩
  ·exact GU (l:=[]) (dE _) (dE _) (by rw[wK,ht];rfl) trivial rfl
 ·have h':¬most<=0:=of_decide_eq_false h;have e1:Sd.Q.push most (cD []) a=([a],0):=by simp[Sd.Q.push,Sd.Q.waits,Sd.Q.insert,cD,h']
  rw[e1];exact GU (l:=[⟨a,came⟩]) (m:=1) (dE _) h1 h2 trivial rfl
theorem alU {a:Sd.Ask} {t:List ab} {most came:Int} {K:VK Empty}:∀{es:List One} {c:Nat},fQ es->0<es.length+c->pX a c t most came K es->Hd (gD 90 216 [.ptr 0 0,.agg (sY a)] [cL (.sl 1 0 es.length c) most came,dy es t] (br 1 K))
 |[],0,_,h0,_=>absurd h0 (by simp)
 |[],c+1,_,_,h=>⟨by rw[IL,alz];exact h⟩
 |[e0],_,_,_,h=>⟨by rw[alA];exact h⟩
 |[e0,e1],_,_,_,h=>⟨by rw[alB];exact h⟩
 |[e0,e1,e2],_,_,_,h=>⟨by rw[alC];exact h⟩
 |_::_::_::_::_,_,hH,_,_=>absurd hH (by simp[fQ])
theorem alV {bq:Nat} {most:Int} {L:List Sd.Ask} {bl bs:List ai} {ms:List Nat} {w0 w:ae} (a:Sd.Ask) (hQ:QS bq most L bl) (hm:most<=3) (hr:∀e∈L,e.source=a.source\/¬e.bC=a.bC) (S0:St ms w0 (bl++bs) w):
 aS prog 216 #[.pointer (some ⟨bq,0,none⟩),.agg (nz a)] w λv w1=>∃bl',v=.int .i64 (Sd.Q.push most L a).2/\QS bq most (Sd.Q.push most L a).1 bl'/\St ms w0 (bl'++bs) w1:=by
 obtain⟨es,x,c,came,rows,rfl,fD,hH,rfl⟩:=hQ;refine aax (f:=216) (ar:=[.agg (sY a)]) (y:=.int .i64 (Sd.Q.push most (cD es) a).2) rfl fD (λh0=>?_) (λt hc hs=>?_) (λ_=>rfl) S0
 ·subst h0;rw[alx];exact aaD [] (.inl rfl)
 ·rcases u6 (es.length+c)with h0|h0
  ·obtain rfl:es=[]:=mZ (by omega);obtain rfl:c=0:=by simpa using h0
   rw[IL,aly];exact aaD t (.inr ⟨rfl,by rw[wK]at hs;simpa using hs⟩)
  ·exact(alU hH h0 (alT hH (came:=came) hm hr hc hs)).h
theorem alW {c:Nat} {t:List ab} {most came:Int} {K:VK Empty}:∀{es:List One},fQ es->K (hV (cD es)) [] []->Hd (gD 30 213 [.ptr 0 0] [lF (cL (.sl 1 0 es.length c) most came),lF (dy es t)] (br 0 K))
 |[],_,h=>⟨by rw[IL,alJ];exact h⟩
 |[e0],_,h=>⟨by rw[alK];exact h⟩
 |[e0,e1],_,h=>⟨by rw[alL];exact h⟩
 |[e0,e1,e2],_,h=>⟨by
  have e:hV (cD [e0,e1,e2])=hV [e0.a]:=by simp only[cD];split<;>rfl
  rw[e]at h;rw[alM];exact h⟩
 |_::_::_::_::_,hH,_=>absurd hH (by simp[fQ])
theorem alX {bq:Nat} {most:Int} {L:List Sd.Ask} {bl bs:List ai} {ms:List Nat} {w0 w:ae} (hQ:QS bq most L bl) (S0:St ms w0 (bl++bs) w):
 aS prog 213 #[.pointer (some ⟨bq,0,none⟩)] w λv w1=>v=.tuple #[.agg (nz (jU L).1),.int .i64 (jU L).2]/\Ch [] w w1:=by
 obtain⟨es,x,c,came,rows,rfl,⟨_,hle,jK⟩,hH,rfl⟩:=hQ;have hq:=S0.at' (x:=⟨bq,true,.cells #[.slice x es.length c,.int .i64 most,.int .u64 came] 146 (0,0)⟩) (by simp);have fin:∀{ids:List Nat} {bl:List VB},(∃r,ids=bq::r)->ids.length=bl.length->gD 30 213 [.ptr 0 0] bl (br 0 λv b _=>v=hV (cD es))->St [] w (lits ids ids bl++[]) w->aS prog 213 #[.pointer (some ⟨bq,0,none⟩)] w λv w1=>v=.tuple #[.agg (nz (jU (cD es)).1),.int .i64 (jU (cD es)).2]/\Ch [] w w1:=by
  rintro ids bl ⟨r,rfl⟩ hl h S;refine(DB h hl (by simp) S).mono ?_;rintro v w1 ⟨v2,more,b,rfl,_,S1,rfl⟩;exact⟨rfl,S1.ch⟩
 rcases jK with⟨rfl,h0,rfl,rfl⟩|⟨b,t,rfl,rfl,hlen⟩
 ·obtain rfl:es=[]:=mZ h0;exact fin (ids:=[bq]) (bl:=[lF (cL (.raw (.slice none 0 0)) most came)]) ⟨[],rfl⟩ rfl (by rw[alI];rfl) (St.given [(bq,_)] (by intro p hp;simp only[ig]at hp;subst hp;exact hq))
 ·have hb:=S0.at' (x:=⟨b,true,.cells (jF es++t).toArray 162 (0,0)⟩) (by simp);have e3:ah [bq,b] (fp es++[.rest t])=jF es++t:=by rw[iG,wJ];simp[ah,cl]
  have S:St [] w (lits [bq,b] [bq,b] [lF (cL (.sl 1 0 es.length c) most came),lF (dy es t)]++[]) w:=
   St.given [(bq,.cells (ah [bq,b] [.sl 1 0 es.length c,.int .i64 most,.int .u64 came]).toArray 146 (0,0)),(b,.cells (ah [bq,b] (fp es++[.rest t])).toArray 162 (0,0))] (by
    intro p hp;simp only[ca,oV,or_false]at hp;rcases hp with rfl|rfl
    ·exact hq
    ·rw[e3];exact hb)
  exact fin ⟨[b],rfl⟩ rfl (alW hH rfl).h S
def KY (most came:Int) (gq g2:bU) (K:VK bU):List One->List VB->bU->Prop
 |[],j,g1=>K g1.v (cL gq.v most came::j) [g1,g2,gq]
 |e::l,j,g1=>apps g1 (ah [] (sY e.a)) λg1=>KY most came gq g2 K l (j++[⟨true,⟨162,(0,0)⟩,KQ e⟩,⟨true,⟨112,(0,0)⟩,sY e.a⟩]) g1
def GV (n:Nat) (most came:Int) (gq:bU) (es:List One) (K:VK bU):Prop:=
 (cL gq.v most came=cL gq.v most came/\gq.T=162/\gq.z=5/\gq.os=jF es/\gq.n=es.length/\es.length=n/\fQ es)/\KV n es (λx c=>KY most came gq (.nil 162 5) K [] [] (.nil 112 4)) (λc l t=>KY most came gq (.nil 162 5) K l [dy l t] (.nil 112 4))
section
variable(most came:Int) (gq:bU) (es:List One) (K:VK bU)
abbrev LL (n:Nat) (es:List One) (most came:Int):List (bK bU):=[⟨68,false,Se n es most came⟩]
theorem alY:bo (ue prog (λ_=>none) (LL 0 es most came)) 60 39 [.ptr 0 0] [cL gq.v most came] [.nil 112 4,.nil 162 5,gq] K=GV 0 most came gq es K:=by kernel_rfl
theorem alZ:bo (ue prog (λ_=>none) (LL 1 es most came)) 60 39 [.ptr 0 0] [cL gq.v most came] [.nil 112 4,.nil 162 5,gq] K=GV 1 most came gq es K:=by kernel_rfl
theorem al0:bo (ue prog (λ_=>none) (LL 2 es most came)) 60 39 [.ptr 0 0] [cL gq.v most came] [.nil 112 4,.nil 162 5,gq] K=GV 2 most came gq es K:=by kernel_rfl
theorem al1:bo (ue prog (λ_=>none) (LL 3 es most came)) 60 39 [.ptr 0 0] [cL gq.v most came] [.nil 112 4,.nil 162 5,gq] K=GV 3 most came gq es K:=by kernel_rfl
end
def KL (most came:Int) (gq g2:bU) (M:List Sd.Ask):VK bU:=λv bl ch=>∃(j:List VB) (g1:bU),v=g1.v/\bl=cL gq.v most came::j/\ch=[g1,g2,gq]/\KW g1 112 4 (uy M) M.length
theorem Sh (most came:Int) (gq g2:bU) {M:List Sd.Ask}:∀(l:List One) (j:List VB) (g1:bU) (G:List Sd.Ask),KW g1 112 4 (uy G) G.length->G.length+l.length<100->G++l.map (·.a)=M->KY most came gq g2 (KL most came gq g2 M) l j g1
 |[],j,g1,G,h1,_,hM=>⟨j,g1,rfl,rfl,rfl,by rw[<-hM];simpa using h1⟩
 |e::l,j,g1,G,h1,l1,hM=>by
  simp only[kN]at l1;exact alN h1 (by omega) λr' hr=>Sh most came gq g2 l _ r' (G++[e.a]) (by rw[aaA,fq];exact hr) (by simp;omega) (by rw[<-hM];simp)
theorem al2 {bq:Nat} {most:Int} {L:List Sd.Ask} {bl bs:List ai} {ms:List Nat} {w0 w:ae} (hQ:QS bq most L bl) (S0:St ms w0 (bl++bs) w):
 aS prog 39 #[.pointer (some ⟨bq,0,none⟩)] w λv w1=>∃x c1 rows,v=.slice x L.length c1/\eW 4 112 (uy L) x L.length c1 rows/\St ms w0 (rows++(bl++bs)) w1:=by
 obtain⟨es,x,c,came,rows,rfl,hr,hH,rfl⟩:=hQ;obtain⟨Sg,om⟩:=aaB hH
 let gq:bU:=⟨162,5,jF es,x,es.length,c,rows,hr⟩
 have S1:St ms w0 (lits [bq] [bq] [cL gq.v most came]++ax [bU.nil 112 4,.nil 162 5,gq] bs) w:=by simpa[lits,ax,Bl.B,bU.nil,gq,az,cL,bU.v,ah,cl,den]using S0
 have hA:GV es.length most came gq es (KL most came gq (.nil 162 5) (cD es)):=
  ⟨⟨rfl,rfl,rfl,rfl,rfl,rfl,hH⟩,alP om (λh0 x c=>Sh most came gq _ [] [] _ [] ⟨rfl,rfl,rfl,rfl⟩ (by simp) (by rw[mZ h0];rfl)) (λl c t hm hl=>Sh most came gq _ l _ _ [] ⟨rfl,rfl,rfl,rfl⟩ (by simp;omega) (by simpa using hm))⟩
 have cS:bo (ue prog (λ_=>none) (LL es.length es most came)) 60 39 [.ptr 0 0] [cL gq.v most came] [.nil 112 4,.nil 162 5,gq] (KL most came gq (.nil 162 5) (cD es)):=by
  rcases(by omega:es.length=0\/es.length=1\/es.length=2\/es.length=3)with h|h|h|h<;>rw[h]at hA⊢
  ·rw[alY];exact hA
  ·rw[alZ];exact hA
  ·rw[al0];exact hA
  ·rw[al1];exact hA
 have dF:aC prog (λ_=>none) (LL es.length es most came):=aC.cons ⟨alS _ es most came,λe=>by cases e⟩ aC.nil;refine(eG dF.TR dF.QR 60 (C:=ue prog (λ_=>none) (LL es.length es most came)) (args:=[.ptr 0 0]) (λg i h=>by cases h) rfl S1 cS).mono ?_;rintro _ w' ⟨xx,more,bl',ch',rfl,nF,S3,j,g1,rfl,rfl,rfl,t1,t2,t3,t4⟩;have KZ:=g1.h;rw[t1,t2,t3,t4]at KZ;refine⟨g1.x,g1.c,g1.bl,by simp only[bU.v,den];rw[t4],KZ,?_⟩;have e1:lits ([bq]++more) ([bq]++more) (cL gq.v most came::j)=⟨bq,true,.cells #[.slice x es.length c,.int .i64 most,.int .u64 came] 146 (0,0)⟩::lits ([bq]++more) more j:=rfl;rw[e1]at S3;have S4:=S3.sub (bs':=⟨bq,true,.cells #[.slice x es.length c,.int .i64 most,.int .u64 came] 146 (0,0)⟩::(g1.bl++(rows++bs))) (by
  rw[ft];exact IS _ (oT _ _))
 exact S4.perm jH.symm
structure LK where
 ka:Nat->Option aO
 kn:Nat->Nat
 kc:Nat->Nat
 kf:Nat->Nat->Int
 bq:Nat
 tg:aG
 tc:aG
 most:Int
 px:Option aO
 pn:Nat
 pc:Nat
 pf:Sd.av
structure FD where
 k:LK
 q:List Sd.Ask
 bh:List (Int×Sd.aE)
 bA:List Sd.Rec
inductive Bb (fr:Sd.aE->Nat×Sd.av):List (Int×Sd.aE)->List ab->List ai->Prop
 |nil:Bb fr [] [] []
 |snoc {l olds bl} (h:Bb fr l olds bl) (k:Int) (r:Sd.aE) (x:Option aO) (c:Nat) (b:List ai) (hb:eK 5 (fr r).1 (fr r).2 x c b):Bb fr (l++[(k,r)]) (olds++[.int .i64 k,.slice x (fr r).1 c]) (bl++b)
structure aW (fr:Sd.aE->Nat×Sd.av) (d:FD) where
 xs:Option aO
 cs:Nat
 xr:Option aO
 cr:Nat
 Bq:List ai
 Br:List ai
 Bs:List ai
 Bf:List ai
 Bk:List ai
 so:List ab
 hq:QS d.k.bq d.k.most d.q Bq
 hr:eW 6 75 (ux d.bA) xr d.bA.length cr Br
 hs:eW 2 85 so xs d.bh.length cs Bs
 hf:Bb fr d.bh so Bf
 hk:∃b0 b1 b2 b3 b4,Bk=b0++(b1++(b2++(b3++b4)))/\eK 5 (d.k.kn 0) (d.k.kf 0) (d.k.ka 0) (d.k.kc 0) b0/\eK 5 (d.k.kn 1) (d.k.kf 1) (d.k.ka 1) (d.k.kc 1) b1/\eK 5 (d.k.kn 2) (d.k.kf 2) (d.k.ka 2) (d.k.kc 2) b2/\eK 5 (d.k.kn 3) (d.k.kf 3) (d.k.ka 3) (d.k.kc 3) b3/\eK 5 d.k.pn d.k.pf d.k.px d.k.pc b4
variable{fr:Sd.aE->Nat×Sd.av}
def aW.B {d:FD} (F:aW fr d):List ai:=F.Br++(F.Bs++(F.Bf++(F.Bq++F.Bk)))
def aW.vs {d:FD} (F:aW fr d):ab:=.slice F.xs d.bh.length F.cs
def aW.vr {d:FD} (F:aW fr d):ab:=.slice F.xr d.bA.length F.cr
structure Gh (fr:Sd.aE->Nat×Sd.av) where
 d:FD
 dx:Nat->Sd.dT
 sx:Nat->Sd.gy
 F:aW fr d
instance:Bl (Gh fr):=⟨λg=>g.F.B⟩
def r3 {α:Type} (a b c:α) (f:Nat->α):Nat->α:=λj=>match j with|0=>a|1=>b|2=>c|j+3=>f (j+3)
theorem K1 {α:Type} (f:Nat->α):r3 (f 0) (f 1) (f 2) f=f:=by funext j;match j with|0=>rfl|1=>rfl|2=>rfl|j+3=>rfl
structure CC where
 p:Sd.aN
 ka:Nat->Option aO
 kn:Nat->Nat
 kc:Nat->Nat
 t:Sd.Tok
 vq:ab
 d0:Sd.dT
 d1:Sd.dT
 d2:Sd.dT
 it:Nat
 sa:Int
 be:Int
 mo:Int
 mb:Sd.Label
 pt:Sd.eF
 hd:Nat->Int
def DD (x:CC):List V:=[.eo x.p x.ka x.kn x.kc,.int .i64 x.t.ay,.int .i64 x.t.af,.int .i64 x.t.offer,.int .i64 x.t.oa.n,.int .i64 x.t.oa.most,.int .i64 x.t.la.n,.int .i64 x.t.la.most,.bool x.t.bad,.raw x.vq,
 .int .i64 x.d0.many,.bool x.d0.g_,.bJ .u8 8 x.d0.aw,.int .i64 x.d1.many,.bool x.d1.g_,.bJ .u8 8 x.d1.aw,.int .i64 x.d2.many,.bool x.d2.g_,.bJ .u8 8 x.d2.aw,.ptr x.it 0,.int .i64 x.sa,.int .i64 x.be,.int .i64 x.mo,
 .int .i64 x.mb.mz,.int .i64 x.mb.source,.int .i64 x.mb.seq,.int .i64 x.pt.cls,.int .i64 x.pt.aU.a,.int .i64 x.pt.aU.b,.int .i64 x.pt.aU.c,.int .i64 x.pt.aU.d,.int .i64 x.pt.now.a,.int .i64 x.pt.now.b,.int .i64 x.pt.now.c,.int .i64 x.pt.now.d,
 .int .i64 x.pt.bI.mz,.int .i64 x.pt.bI.source,.int .i64 x.pt.bI.seq,.bJ .u8 32 x.hd]
def Bc:List V->Option CC
 |.eo p ka kn kc::.int .i64 t1::.int .i64 t2::.int .i64 t3::.int .i64 t4::.int .i64 t5::.int .i64 t6::.int .i64 t7::.bool t8::.raw vq::.int .i64 a1::.bool a2::.bJ .u8 8 a3::.int .i64 b1::.bool b2::.bJ .u8 8 b3::.int .i64 c1::.bool c2::.bJ .u8 8 c3::.ptr it 0::.int .i64 sa::.int .i64 be::.int .i64 mo::.int .i64 l1::.int .i64 l2::.int .i64 l3::.int .i64 p1::.int .i64 p2::.int .i64 p3::.int .i64 p4::.int .i64 p5::.int .i64 p6::.int .i64 p7::.int .i64 p8::.int .i64 p9::.int .i64 q1::.int .i64 q2::.int .i64 q3::.bJ .u8 32 hd::[]=>some ⟨p,ka,kn,kc,⟨t1,t2,t3,⟨t4,t5⟩,⟨t6,t7⟩,t8⟩,vq,⟨a1,a2,a3⟩,⟨b1,b2,b3⟩,⟨c1,c2,c3⟩,it,sa,be,mo,⟨l1,l2,l3⟩,⟨p1,⟨p2,p3,p4,p5⟩,⟨p6,p7,p8,p9⟩,⟨q1,q2,q3⟩⟩,hd⟩
 |_=>none
theorem GW {l:List V} {x:CC} (h:Bc l=some x):l=DD x:=by
 unfold Bc at h;split at h
 ·obtain rfl:=cA h;rfl
 ·cases h
structure TC where
 s1:Bool
 sn:Int
 sm:Int
 s0:Sd.gy
 sa:Sd.gy
 sb:Sd.gy
 b:Int
 m:Int
def wL (x:Sd.gy):List V:=[.bool x.on,.int .i64 x.eL.n,.int .i64 x.eL.most,.int .i64 x.role,.bJ .u8 32 x.key,.bool x.seen.any,.int .i64 x.seen.high,.int .u64 x.seen.seen]
def db (x:TC):List V:=.bool x.s1::.int .i64 x.sn::.int .i64 x.sm::(wL x.s0++(wL x.sa++(wL x.sb++[.int .i64 x.b,.int .i64 x.m])))
def s7:List V->Option TC
 |[.bool s1,.int .i64 sn,.int .i64 sm,.bool a1,.int .i64 a2,.int .i64 a3,.int .i64 a4,.bJ .u8 32 a5,.bool a6,.int .i64 a7,.int .u64 a8,.bool b1,.int .i64 b2,.int .i64 b3,.int .i64 b4,.bJ .u8 32 b5,.bool b6,.int .i64 b7,.int .u64 b8,
  .bool c1,.int .i64 c2,.int .i64 c3,.int .i64 c4,.bJ .u8 32 c5,.bool c6,.int .i64 c7,.int .u64 c8,.int .i64 b,.int .i64 m]=>some ⟨s1,sn,sm,⟨a1,⟨a2,a3⟩,a4,a5,⟨a6,a7,a8⟩⟩,⟨b1,⟨b2,b3⟩,b4,b5,⟨b6,b7,b8⟩⟩,⟨c1,⟨c2,c3⟩,c4,c5,⟨c6,c7,c8⟩⟩,b,m⟩
 |_=>none
theorem yV {l:List V} {x:TC} (h:s7 l=some x):l=db x:=by
 unfold s7 at h;split at h
 ·obtain rfl:=cA h;rfl
 ·cases h
def fi (x:CC) (y:TC) (d:FD) (dx:Nat->Sd.dT) (sx:Nat->Sd.gy):Sd.aa:=
 ⟨⟨x.p,x.t,d.q,r3 x.d0 x.d1 x.d2 dx,⟨(y.s1,⟨y.sn,y.sm⟩),r3 y.s0 y.sa y.sb sx⟩,x.sa,x.be,x.mo,x.mb,x.pt,x.hd⟩,d.bh,d.bA⟩
def lG (k:LK) (it:Nat) (s:Sd.aa):CC:=⟨s.c.p,k.ka,k.kn,k.kc,s.c.t,.pointer (some ⟨k.bq,0,none⟩),s.c.doors 0,s.c.doors 1,s.c.doors 2,it,s.c.samples,s.c.beyond,s.c.mode,s.c.ff,s.c.pt,s.c.head⟩
def uz (s:Sd.aa):TC:=⟨s.c.ag.c9.1,s.c.ag.c9.2.n,s.c.ag.c9.2.most,s.c.ag.aj 0,s.c.ag.aj 1,s.c.ag.aj 2,s.c.p.bW,s.c.p.d_⟩
def aR (k:LK) (s:Sd.aa):FD:=⟨k,s.c.q,s.bh,s.bA⟩
def b9 (k:LK):VB:=⟨false,k.tg,[.bJ .u32 64 cH]⟩
def iB (k:LK):VB:=⟨false,k.tc,[.bool false,.bool false,.bool false,.bool false,.bool false,.bool false,.bool false,.bool false,.bool false,.bool false,.bool true,.bool true]⟩
def s8 (ic:Nat) {d:FD} (F:aW fr d):VB:=⟨true,⟨128,(0,0)⟩,[.ptr ic 0,.raw F.vs,.raw F.vr]⟩
def gL (k:LK) (it:Nat) (s:Sd.aa):VB:=⟨true,⟨105,(0,0)⟩,DD (lG k it s)⟩
def gE (s:Sd.aa):VB:=⟨true,⟨157,(0,0)⟩,db (uz s)⟩
def bz (k:LK) (s:Sd.aa) (F:aW fr (aR k s)):List VB:=[b9 k,iB k,s8 3 F,gL k 4 s,gE s]
def a_ (k:LK) (s:Sd.aa) (F:aW fr (aR k s)):Gh fr:=⟨aR k s,s.c.doors,s.c.ag.aj,F⟩
def gS:Nat->Option Nat
 |1=>some 0
 |0=>some 1
 |_=>none
abbrev SK (fr:Sd.aE->Nat×Sd.av) (k:LK):=V->(s:Sd.aa)->aW fr (aR k s)->Prop
abbrev SM (fr:Sd.aE->Nat×Sd.av):=List V->(k:LK)->(s:Sd.aa)->aW fr (aR k s)->SK fr k->Prop
def wM (bl:List VB) (is ic it:Nat) (k:LK) (s:Sd.aa) (F:aW fr (aR k s)):List VB:=((bl.set is (s8 ic F)).set ic (gL k it s)).set it (gE s)
def gF (M:SM fr):c_ (Gh fr):=λargs bl ch K=>match args,ch with
 |.ptr is 0::ar,g::rest=>(match bl[is]?with
  |some ⟨true,⟨128,(0,0)⟩,[.ptr ic 0,.raw vs,.raw vr]⟩=>(match bl[ic]?with
   |some ⟨true,⟨105,(0,0)⟩,cc⟩=>(match Bc cc with
    |some x=>(match bl[x.it]?with
     |some ⟨true,⟨157,(0,0)⟩,tc⟩=>(match s7 tc with
      |some y=>cond (bj 0 ar&&(cu 1 is&&(cu 1 ic&&(cu 1 x.it&&(!(aq is ic)&&(!(aq is x.it)&&!(aq ic x.it)))))))
       ((vs=g.F.vs/\vr=g.F.vr/\bl[0]?=some (b9 g.d.k)/\bl[1]?=some (iB g.d.k)/\x=lG g.d.k x.it (fi x y g.d g.dx g.sx)/\y.b=x.p.bW/\y.m=x.p.d_/\x.p.queue=g.d.k.most)/\
         M ar g.d.k (fi x y g.d g.dx g.sx) g.F λv s' F'=>K v (wM bl is ic x.it g.d.k s' F') (a_ g.d.k s' F'::rest)) False
      |none=>False)
     |_=>False)
    |none=>False)
   |_=>False)
  |_=>False)
 |_,_=>False
end
section
open Go Go.RowKit Go.BigFrame Sx Vx
variable{fr:Sd.aE->Nat×Sd.av}
def di:VB:=⟨false,⟨0,(0,0)⟩,[]⟩
theorem al3 {ids:List Nat}:∀(is:List Nat) (bl:List VB),is.length=bl.length->lits ids is bl=(bd bl.length).map λj=>az ids (is.getD j 0) (bl.getD j di):=by
 intro is bl h;apply u_;intro j;by_cases hj:j<bl.length
 ·have hb:bl[j]?=some bl[j]:=jb hj;rw[Jp is bl h hb,iZ,m9 hj];simp[ij,hb]
 ·rw[iK (by rw[xZ is bl h];omega),iK (by simp;omega)]
theorem yW {bl:List VB} {ids:List Nat} (h:ids.length=bl.length) {is:List Nat} (hn:is.Nodup) (dv:∀i∈is,i<bl.length):
 ∃r:List Nat,(∀j∈r,j∉is)/\∀bl':List VB,bl'.length=bl.length->(lits ids ids bl').Perm (is.map (λj=>az ids (ids.getD j 0) (bl'.getD j di))++r.map λj=>az ids (ids.getD j 0) (bl'.getD j di)):=by
 obtain⟨r,hr⟩:=EU is (bd bl.length) hn (λx hx=>List.mem_range.2 (dv x hx));refine⟨r,?_,?_⟩
 ·intro j hj hji;have ub:(is++r).Nodup:=hr.nodup_iff.1 List.nodup_range;rw[List.nodup_append]at ub;exact ub.2.2 j hji j hj rfl
 ·intro bl' hl;rw[al3 ids bl' (by omega),hl,<-qB];exact hr.map _
theorem al4 {bl:List VB} {ids r:List Nat} {a b c:Nat} {x y z:VB} (hr:∀j∈r,j≠a/\j≠b/\j≠c):
 (r.map λj=>az ids (ids.getD j 0) ((((bl.set a x).set b y).set c z).getD j di))=r.map λj=>az ids (ids.getD j 0) (bl.getD j di):=by
 apply qD;intro j hj;obtain⟨h1,h2,h3⟩:=hr j hj;simp only[ij,List.getElem?_set];rw[if_neg (Ne.symm h3),if_neg (Ne.symm h2),if_neg (Ne.symm h1)]
theorem jm {bl:List VB} {i:Nat} {b:VB} (h:bl[i]?=some b):bl.getD i di=b:=by simp[ij,h]
theorem mL {ids ids':List Nat} {n:Nat} {b:VB} (h:bj 0 b.c=true):az ids n b=az ids' n b:=by
 have e1:ah ids b.c=ah [] b.c:=by have:=j4 (ids:=[]) (more:=ids) b.c h;simpa using this
 have e2:ah ids' b.c=ah [] b.c:=by have:=j4 (ids:=[]) (more:=ids') b.c h;simpa using this
 unfold az;rw[e1,e2]
abbrev bN (a b c:Nat):List Nat:=[1,0,a,b,c]
theorem al5 {ids:List Nat} {ic a b c:Nat} (n:Nat) {d:FD} (F:aW fr d) (h:ids.getD ic 0=b):az ids n (s8 ic F)=az (bN a b c) n (s8 3 F):=by
 have e:(bN a b c).getD 3 0=b:=rfl;simp only[az,s8,ah,cl,den,h,e]
theorem al6 {ids:List Nat} {it a b c:Nat} (n:Nat) {k:LK} {s:Sd.aa} (h:ids.getD it 0=c):az ids n (gL k it s)=az (bN a b c) n (gL k 4 s):=by
 have e:(bN a b c).getD 4 0=c:=rfl;simp only[az,gL,DD,lG,ah,cl,den,h,e]
def Body (f:fc) (M:SM fr):Prop:=∀(ar:List V) (k:LK) (s:Sd.aa) (F:aW fr (aR k s)) (Kb:SK fr k) (a b c:Nat) (R:List ai) (ms:List Nat) (w0 w:ae),bj 0 ar=true->s.c.p.queue=k.most->M ar k s F Kb->
 St ms w0 (lits (bN a b c) (bN a b c) (bz k s F)++(F.B++R)) w->
 aS prog f (aD (bN a b c) (.ptr 2 0::ar)).toArray w λv w'=>∃x s' F',v=den [] x/\cK 0 x=true/\s'.c.p=s.c.p/\Kb x s' F'/\St ms w0 (lits (bN a b c) (bN a b c) (bz k s' F')++(F'.B++R)) w'
theorem GY (s:Sd.aa):bj 0 (gE s).c=true:=rfl
theorem GZ (k:LK):bj 0 (b9 k).c=true:=rfl
theorem aaE (k:LK):bj 0 (iB k).c=true:=rfl
structure K2 (ids:List Nat) (bl:List VB) (is ic it:Nat) (k:LK) (s:Sd.aa) (F:aW fr (aR k s)):Prop where
 h0:bl[0]?=some (b9 k)
 h1:bl[1]?=some (iB k)
 hs:bl[is]?=some (s8 ic F)
 hc:bl[ic]?=some (gL k it s)
 ht:bl[it]?=some (gE s)
theorem aaF {ids:List Nat} {bl:List VB} {is ic it:Nat} {k:LK} {s:Sd.aa} {F:aW fr (aR k s)} (H:K2 ids bl is ic it k s F) (hg:Gl gS ids):
 ([0,1,is,ic,it].map λj=>az ids (ids.getD j 0) (bl.getD j di))=lits (bN (ids.getD is 0) (ids.getD ic 0) (ids.getD it 0)) (bN (ids.getD is 0) (ids.getD ic 0) (ids.getD it 0)) (bz k s F):=by
 have g0:=(hg 1 0 rfl).2;have g1:=(hg 0 1 rfl).2;simp only[eH,vf,jm H.h0,jm H.h1,jm H.hs,jm H.hc,jm H.ht,g0,g1,bz,lits];rw[mL (ids':=bN (ids.getD is 0) (ids.getD ic 0) (ids.getD it 0)) (GZ k),mL (ids':=bN (ids.getD is 0) (ids.getD ic 0) (ids.getD it 0)) (aaE k),mL (ids':=bN (ids.getD is 0) (ids.getD ic 0) (ids.getD it 0)) (GY s),
  al5 (a:=ids.getD is 0) (c:=ids.getD it 0) _ F rfl,al6 (a:=ids.getD is 0) (b:=ids.getD ic 0) _ rfl]
theorem Be {bl:List VB} {i:Nat} {b:VB} (h:i<bl.length):(bl.set i b)[i]?=some b:=by simp[h]
theorem kH {bl:List VB} {i j:Nat} {b:VB} (h:i≠j):(bl.set i b)[j]?=bl[j]?:=by rw[List.getElem?_set];simp[h]
theorem iU {bl:List VB} {i:Nat} {b:VB} (h:bl[i]?=some b):i<bl.length:=by
 rcases cN i bl.length with h'|h'
 ·exact h'
 ·simp[h']at h
theorem al7 {ids:List Nat} {bl:List VB} {is ic it:Nat} {k:LK} {s:Sd.aa} {F:aW fr (aR k s)} (H:K2 ids bl is ic it k s F) (h1:1<is) (h2:1<ic) (h3:1<it) (n1:is≠ic) (n2:is≠it) (n3:ic≠it) {s':Sd.aa} (F':aW fr (aR k s')):
 K2 ids (wM bl is ic it k s' F') is ic it k s' F':=by
 have l1:=iU H.hs;have l2:=iU H.hc;have l3:=iU H.ht;unfold wM;refine⟨?_,?_,?_,?_,?_⟩
 ·rw[kH (by omega),kH (by omega),kH (by omega)];exact H.h0
 ·rw[kH (by omega),kH (by omega),kH (by omega)];exact H.h1
 ·rw[kH (by omega),kH (by omega),Be l1]
 ·rw[kH (by omega),Be (by simpa using l2)]
 ·rw[Be (by simpa using l3)]
theorem al8 {f:Nat} {M:SM fr} (h:Body f M):Sound prog gS f (gF M):=by
 intro args ids bl ch R ms w0 w K hg hl S hc;unfold gF at hc;split at hc
 ·rename_i is ar g rest;split at hc
  ·rename_i ic vs vr hs;split at hc
   ·rename_i cc qY;split at hc
    ·rename_i x hx;split at hc
     ·rename_i tc uA;split at hc
      ·rename_i y hy;cases hq:bj 0 ar&&(cu 1 is&&(cu 1 ic&&(cu 1 x.it&&(!(aq is ic)&&(!(aq is x.it)&&!(aq ic x.it))))))with
       |false=>rw[hq]at hc;exact hc.elim
       |true=>
        rw[hq]at hc;simp only[bg,lN,ie]at hq;obtain⟨q0,q1,q2,q3,q4,q5,q6⟩:=hq;have n1:is≠ic:=λe=>by rw[e,rV]at q4;cases q4
        have n2:is≠x.it:=λe=>by rw[e,rV]at q5;cases q5
        have n3:ic≠x.it:=λe=>by rw[e,rV]at q6;cases q6
        obtain⟨⟨e1,e2,e3,e4,e5,e6,e7,e8⟩,hM⟩:=hc;obtain rfl:=GW hx;obtain rfl:=yV hy;subst e1 e2;have H:K2 ids bl is ic x.it g.d.k (fi x y g.d g.dx g.sx) (show aW fr (aR g.d.k (fi x y g.d g.dx g.sx))from g.F):=by
         refine⟨e3,e4,hs,?_,?_⟩
         ·rw[qY];congr 1;unfold gL;rw[<-e5]
         ·rw[uA];congr 1;unfold gE;have:y=uz (fi x y g.d g.dx g.sx):=by
           obtain⟨y1,y2,y3,y4,y5,y6,y7,y8⟩:=y;simp only at e6 e7;subst e6 e7;rfl
          rw[<-this]
        have l1:=iU H.hs;have l2:=iU H.hc;have l3:=iU H.ht;obtain⟨r,hr,hp⟩:=yW (bl:=bl) (ids:=ids) hl (is:=[0,1,is,ic,x.it]) (by simp;omega) (by
         intro i hi;simp only[ca,oV,or_false]at hi;rcases hi with rfl|rfl|rfl|rfl|rfl<;>omega)
        have gM:=hp bl rfl;rw[aaF H hg]at gM;have S1:=S.perm (bs':=lits (bN (ids.getD is 0) (ids.getD ic 0) (ids.getD x.it 0)) (bN (ids.getD is 0) (ids.getD ic 0) (ids.getD x.it 0)) (bz g.d.k (fi x y g.d g.dx g.sx) g.F)++(g.F.B++((r.map λj=>az ids (ids.getD j 0) (bl.getD j di))++ax rest R))) (by
         refine(gM.append_right _).trans ?_;rw[bR];refine qG _ ?_;simp only[ax,<-bR];exact Et _ List.perm_append_comm)
        have G0:=h ar g.d.k (fi x y g.d g.dx g.sx) g.F _ _ _ _ _ ms w0 w q0 e8 hM S1;have cR:aD ids (.ptr is 0::ar)=aD (bN (ids.getD is 0) (ids.getD ic 0) (ids.getD x.it 0)) (.ptr 2 0::ar):=by
         have a1:aD ids ar=aD [] ar:=by have:=nk (ids:=[]) (more:=ids) ar q0;simpa using this
         have a2:aD (bN (ids.getD is 0) (ids.getD ic 0) (ids.getD x.it 0)) ar=aD [] ar:=by have:=nk (ids:=[]) (more:=bN (ids.getD is 0) (ids.getD ic 0) (ids.getD x.it 0)) ar q0;simpa using this
         simp only[aD,den,a1,a2];rfl
        rw[cR];refine G0.mono ?_;rintro v w' ⟨xv,s',F',rfl,hv,CV,hK,S2⟩;refine⟨xv,[],wM bl is ic x.it g.d.k s' F',a_ g.d.k s' F'::rest,?_,?_,?_,hK⟩
        ·have:=fI (ids:=[]) (more:=ids++[]) xv hv;simpa using this.symm
        ·simp[wM,hl]
        ·have H':=al7 H q1 q2 q3 n1 n2 n3 F';have nG:=hp (wM bl is ic x.it g.d.k s' F') (by simp[wM]);rw[aaF H' hg]at nG;have Bg:(r.map λj=>az ids (ids.getD j 0) ((wM bl is ic x.it g.d.k s' F').getD j di))=r.map λj=>az ids (ids.getD j 0) (bl.getD j di):=by
          unfold wM;refine al4 ?_;intro j hj;have:=hr j hj;simp only[ca,oV,or_false,not_or]at this;omega
         rw[Bg]at nG;simp only[cQ];refine S2.perm ?_;refine EA ?_ (nG.symm.append_right _);rw[bR];refine qG _ ?_;simp only[ax,<-bR];exact Et _ List.perm_append_comm
      ·exact hc.elim
     ·exact hc.elim
    ·exact hc.elim
   ·exact hc.elim
  ·exact hc.elim
 ·exact hc.elim
def aJ (tk:Nat->Sd.av->Option Sd.aY):Sd.aL:=⟨tk,λk s n=>jk k.1 k.2 s n,λk s r nc pf=>wA k.1 k.2 s r nc pf,λk s r nc=>iz k.1 k.2 s r nc,λk s n f=>kD k s (n-8) f,wz,dM⟩
def cx (k:LK) (s:Sd.aa) (Kb:SK fr k):V->List VB->List (Gh fr)->Prop:=λv bl ch=>∃s' F',cK 0 v=true/\s'.c.p=s.c.p/\Kb v s' F'/\bl.take 5=bz k s' F'/\ch=[a_ k s' F']
theorem lH {f n:Nat} {M:SM fr} {L:List (bK (Gh fr))} (hL:aC prog gS L)
 (h:∀(ar:List V) (k:LK) (s:Sd.aa) (F:aW fr (aR k s)) (Kb:SK fr k),bj 0 ar=true->s.c.p.queue=k.most->M ar k s F Kb->bo (bP prog gS L) n f (.ptr 2 0::ar) (bz k s F) [a_ k s F] (cx k s Kb)):Body f M:=by
 intro ar k s F Kb a b c R ms w0 w h0 hq hM S;have hg:Gl gS (bN a b c):=by
  intro g i dz;unfold gS at dz;split at dz
  ·obtain rfl:=cA dz;exact⟨by simp,rfl⟩
  ·obtain rfl:=cA dz;exact⟨by simp,rfl⟩
  ·cases dz
 refine(eG hL.T hL.Q n (C:=bP prog gS L) (ids:=bN a b c) (bl:=bz k s F) (ch:=[a_ k s F]) (R:=R) (ms:=ms) (w0:=w0) (w:=w) hg rfl (by
  have e:ax [a_ k s F] R=F.B++R:=rfl;rw[e];exact S) (h ar k s F Kb h0 hq hM)).mono ?_
 rintro v w' ⟨x,more,bl',ch',rfl,h1,S',s',F',hv,hp,hK,hb,rfl⟩;have ev:den (bN a b c++more) x=den [] x:=by have:=fI (ids:=[]) (more:=bN a b c++more) x hv;simpa using this
 refine⟨x,s',F',ev,hv,hp,hK,?_⟩;have hl5:(bz k s' F').length=5:=rfl;have nH:bl'=bz k s' F'++bl'.drop 5:=by rw[<-hb,jv]
 rw[nH]at S';have e2:lits (bN a b c++more) (bN a b c++more) (bz k s' F'++bl'.drop 5)=lits (bN a b c) (bN a b c) (bz k s' F')++lits (bN a b c++more) more (bl'.drop 5):=by
  rw[eZ _ _ _ _ (by rw[hl5];rfl)];rw[e_ (ids:=bN a b c) (more:=more) (bN a b c) (bz k s' F') rfl]
 rw[e2]at S';refine S'.sub ?_;have e3:ax [a_ k s' F'] R=F'.B++R:=rfl;rw[e3,bR];exact zO (oT _ _) _
theorem iC {f:Nat} {M:SM fr} (h:Body f M):ud prog gS ⟨f,false,gF M⟩:=⟨al8 h,λe=>by cases e⟩
def bQ (s:Sd.aa):Sd.aa:={s with c:={s.c with doors:=r3 (s.c.doors 0) (s.c.doors 1) (s.c.doors 2) s.c.doors,ag:=⟨s.c.ag.c9,r3 (s.c.ag.aj 0) (s.c.ag.aj 1) (s.c.ag.aj 2) s.c.ag.aj⟩}}
theorem qc (s:Sd.aa):bQ s=s:=by
 unfold bQ;rw[K1,K1]
theorem Bh {k:LK} {s s':Sd.aa} {M:(s:Sd.aa)->aW fr (aR k s)->Prop} (e:s'=s) (F:aW fr (aR k s)) (h:M s F) (hx:aR k s=aR k s':=by rfl):M s' (hx▸F):=by
 subst e;exact h
theorem nI {ar:List V} {k:LK} {s:Sd.aa} {M:SM fr} {F:aW fr (aR k s)} {K:SK fr k} (h:M ar k s F K):M ar k (bQ s) F K:=Bh (M:=λs F=>M ar k s F K) (qc s) F h
def jn (C:Sd.aL):SM fr:=λar k s F K=>match ar with
 |[.int .i64 kd,.int .i64 so,.int .i64 sq,.int .i64 co,.int .i64 ho]=>s.bA.length<=1000/\∀F',K (.an []) (s.record C kd so sq co ho) F'
 |_=>False
theorem aaG (r c s k t:ai) (B X R:List ai):([r,c,s,k,t]++((B++X)++R)).Perm ([r,s,k]++(B++(c::t::(X++R)))):=by
 refine u7 r ?_;have h1:(c::s::k::t::((B++X)++R)).Perm (s::k::c::t::((B++X)++R)):=
  (ND s c _).trans (u7 s (ND k c _))
 refine h1.trans (u7 s (u7 k ?_));have h2:([c,t]++(B++(X++R))).Perm (B++([c,t]++(X++R))):=by
  rw[<-bR,<-bR B];exact Et _ List.perm_append_comm
 simpa[bR]using h2
theorem Si {k:LK} {s:Sd.aa} (F:aW fr (aR k s)):F.B=F.Br++(F.Bs++(F.Bf++(F.Bq++F.Bk))):=rfl
theorem al9 (tk:Nat->Sd.av->Option Sd.aY):Body (fr:=fr) 90 (jn (aJ tk)):=by
 intro ar k s F Kb a b c R ms w0 w h0 hq hM S;unfold jn at hM;split at hM
 ·rename_i kd so sq co ho;obtain⟨hn,hK⟩:=hM;have e1:lits (bN a b c) (bN a b c) (bz k s F)=[⟨1,false,.cells (au .u32 64 cH) k.tg (0,0)⟩,az (bN a b c) 0 (iB k),⟨a,true,.cells #[.pointer (some ⟨b,0,none⟩),F.vs,F.vr] 128 (0,0)⟩,⟨b,true,.cells (rK s.c.p k.ka k.kn k.kc s.c.t k.bq s.c.doors c s.c.samples s.c.beyond s.c.mode s.c.ff s.c.pt s.c.head) 105 (0,0)⟩,az (bN a b c) c (gE s)]:=by kernel_rfl
  rw[e1,Si]at S;have S1:=S.perm (aaG _ _ _ _ _ _ _ _);have e2:(aD (bN a b c) (.ptr 2 0::[.int .i64 kd,.int .i64 so,.int .i64 sq,.int .i64 co,.int .i64 ho])).toArray=#[.pointer (some ⟨a,0,none⟩),.int .i64 kd,.int .i64 so,.int .i64 sq,.int .i64 co,.int .i64 ho]:=by kernel_rfl
  rw[e2];refine(ali _ _ _ _ _ _ _ _ _ _ _ _ _ _ _ _ _ _ _ _ _ _ _ _ kd so sq co ho w S1 F.hr hn).mono ?_;rintro v w1 ⟨x1,c1,jQ,rfl,KZ,S2⟩;have hl:(s.record (aJ tk) kd so sq co ho).bA.length=s.bA.length+1:=by simp[Sd.aa.record]
  have fD:eW 6 75 (ux (s.record (aJ tk) kd so sq co ho).bA) x1 (s.record (aJ tk) kd so sq co ho).bA.length c1 jQ:=by rw[hl];exact KZ
  let F':aW fr (aR k (s.record (aJ tk) kd so sq co ho)):={F with xr:=x1,cr:=c1,Br:=jQ,hr:=fD}
  refine⟨.an [],_,F',rfl,rfl,rfl,hK F',?_⟩;have e3:lits (bN a b c) (bN a b c) (bz k (s.record (aJ tk) kd so sq co ho) F')=[⟨1,false,.cells (au .u32 64 cH) k.tg (0,0)⟩,az (bN a b c) 0 (iB k),⟨a,true,.cells #[.pointer (some ⟨b,0,none⟩),F.vs,.slice x1 (s.record (aJ tk) kd so sq co ho).bA.length c1] 128 (0,0)⟩,⟨b,true,.cells (rK s.c.p k.ka k.kn k.kc s.c.t k.bq s.c.doors c s.c.samples s.c.beyond s.c.mode s.c.ff s.c.pt (wz s.c.head ⟨kd,so,sq,s.c.t.af,co,ho⟩)) 105 (0,0)⟩,az (bN a b c) c (gE s)]:=by kernel_rfl
  rw[e3,Si,hl];exact S2.perm (aaG _ _ _ _ _ _ _ _).symm
 ·exact hM.elim
def cv (k:LK) (s:Sd.aa) (F:aW fr (aR k s)):Prop:=F.vs=F.vs/\F.vr=F.vr/\some (b9 k)=some (b9 k)/\some (iB k)=some (iB k)/\lG k 4 s=lG k 4 (bQ s)/\s.c.p.bW=s.c.p.bW/\s.c.p.d_=s.c.p.d_/\s.c.p.queue=k.most
theorem cy {k:LK} {s:Sd.aa} {F:aW fr (aR k s)} (h:s.c.p.queue=k.most):cv k s F:=⟨rfl,rfl,rfl,rfl,rfl,rfl,rfl,h⟩
def L0 (fr:Sd.aE->Nat×Sd.av) (C:Sd.aL):List (bK (Gh fr)):=⟨90,false,gF (jn C)⟩::qL (Gh fr) QV
theorem aaH (tk:Nat->Sd.av->Option Sd.aY):aC prog gS (L0 fr (aJ tk)):=aC.cons (iC (al9 tk)) (kU (GM gS))
def qe (C:Sd.aL):SM fr:=λar k s F K=>match ar with
 |[.int .i64 l,.int .i64 co]=>s.bA.length<=1000/\∀F',K (.an []) (s.iF C l co) F'
 |_=>False
theorem al_ (C:Sd.aL) (k:LK) (s:Sd.aa) (F:aW fr (aR k s)) (Kb:SK fr k) (l co:Int):bo (bP prog gS (L0 fr C)) 40 96 [.ptr 2 0,.int .i64 l,.int .i64 co] (bz k s F) [a_ k s F] (cx k s Kb)
 =(cv k s F/\jn C [.int .i64 1,.int .i64 l,.int .i64 0,.int .i64 co,.int .i64 0] k (bQ s) F (λv s' F'=>cx k s Kb (.an []) (bz k s' F') [a_ k s' F'])):=by kernel_rfl
theorem ama (tk:Nat->Sd.av->Option Sd.aY):Body (fr:=fr) 96 (qe (aJ tk)):=by
 refine lH (n:=40) (aaH tk) ?_;intro ar k s F Kb h0 hq hM;unfold qe at hM;split at hM
 ·rename_i l co;rw[al_];refine⟨cy hq,nI ⟨hM.1,λF'=>?_⟩⟩;exact⟨_,F',rfl,rfl,hM.2 F',rfl,rfl⟩
 ·exact hM.elim
end
section
open Go Go.RowKit Go.BigFrame Sx Vx
def jo (L:List QF) (n:Nat) (f:fc) (args:List V) (bl:List VB) (K:VK Empty):Prop:=bo (bP prog (λ_=>none) (qL Empty L)) n f args bl [] K
theorem Bi {L:List QF} (hL:bH prog (λ_=>none) L) {n f:Nat} {args:List V} {v:V} {c:List V} {T:BT} {bt:Nat} {w:ae} (h:jo L n f args [⟨false,T,c⟩] λx _ _=>x=v)
 (hT:w.heap[bt]?=some (.cells (ah [] c).toArray T.t T.fz)) (hc:bj 0 c=true) (hv:cK 1 v=true):aS prog f (aD [bt] args).toArray w λx w1=>x=den [bt] v/\Ch [] w w1:=by
 have e1:ah [bt] c=ah [] c:=j4 (ids:=[]) (more:=[bt]) c hc;have S:=St.given (w:=w) [(bt,.cells (ah [bt] c).toArray T.t T.fz)] (by intro p hp;simp only[ig]at hp;subst hp;rw[e1];exact hT);refine(eG (kU hL).T (kU hL).Q n (C:=bP prog (λ_=>none) (qL Empty L)) (ids:=[bt]) (bl:=[⟨false,T,c⟩]) (ch:=[]) (R:=[]) Gl.none rfl S h).mono ?_;rintro x w' ⟨y,more,bl',ch',rfl,h1,S',rfl⟩;exact⟨fI (ids:=[bt]) _ hv,S'.ch⟩
theorem K3 {L:List QF} (hL:bH prog (λ_=>none) L) {n f:Nat} {args:List V} {v:V} {B0:VB} {wr:Bool} {o:Obj} {bt:Nat} {bs:List ai} {ms:List Nat} {w0 w:ae}
 (h:jo L n f args [B0] (br 1 λx b _=>x=v/\∃B,b=[B]/\az [0] 0 B=⟨0,wr,o⟩/\bj 0 B.c=true)) (hv:cK 0 v=true) (S:St ms w0 ([az [bt] bt B0]++bs) w):
 aS prog f (aD [bt] args).toArray w λy w1=>y=den [] v/\St ms w0 ([⟨bt,wr,o⟩]++bs) w1:=by
 refine(eG (kU hL).T (kU hL).Q n (C:=bP prog (λ_=>none) (qL Empty L)) (ids:=[bt]) (bl:=[B0]) (ch:=[]) (R:=bs) Gl.none rfl S h).mono ?_;rintro x w' ⟨y,more,bl',ch',rfl,h1,S',hK⟩;obtain⟨v2,cB,bl2,e,cW,S2,rfl,B,rfl,hB,hw⟩:=hU (n0:=1) h1 (by simp) S' hK;have hm:cB=[]:=by simpa using cW
 subst hm;refine⟨by rw[e];exact fI (ids:=[]) _ hv,?_⟩;have q:az [bt] bt B=az [0] bt B:=mL hw;have q2:az [0] bt B=⟨bt,wr,o⟩:=by
  unfold az at hB⊢;simp only[ai.mk.injEq]at hB⊢;exact⟨trivial,hB.2⟩
 have S3:St ms w0 ([az [bt] bt B]++bs) w':=match ch',S2 with
  |[],S2=>S2
  |e::_,_=>nomatch e
 rw[q,q2]at S3;exact S3
def eB (t:Sd.aA):Sd.aA:=⟨t.c9,r3 (t.aj 0) (t.aj 1) (t.aj 2) λ_=>.zero⟩
def bS (y:TC):Sd.aA:=⟨(y.s1,⟨y.sn,y.sm⟩),r3 y.s0 y.sa y.sb λ_=>.zero⟩
def Bj (bl:List VB) (it:Nat):Option TC:=match bl[it]?with
 |some ⟨_,⟨157,(0,0)⟩,tc⟩=>s7 tc
 |_=>none
theorem amb {ids:List Nat} {bl:List VB} {w:ae} (hm:Mem ids bl w) {it:Nat} {y:TC} (h:Bj bl it=some y):w.heap[ids.getD it 0]?=some (.cells (jl (bS y).c9 (bS y).aj y.b y.m) 157 (0,0)):=by
 unfold Bj at h;split at h
 ·rename_i wr tc hb;obtain rfl:=yV h;have h1:=hm.2 it _ hb;have e:(ah ids (db y)).toArray=jl (bS y).c9 (bS y).aj y.b y.m:=by kernel_rfl
  rw[<-e];exact h1
 ·cases h
def uB (y:TC):Nat->Sd.gy
 |0=>y.s0
 |1=>y.sa
 |_=>y.sb
def Bm:Int->Option Nat
 |.ofNat 1=>some 0
 |.ofNat 2=>some 1
 |.ofNat 3=>some 2
 |_=>none
theorem K4 {s:Int} {i:Nat} (h:Bm s=some i):s=.ofNat (i+1)/\i<3:=by
 unfold Bm at h;split at h<;>first|cases h;exact⟨rfl,by omega⟩|cases h
def tE (b:Bool) (y:TC):List VB:=[⟨b,⟨157,(0,0)⟩,db y⟩]
theorem Sj {s:Int} (h:Bm s=none):s<1\/3<s:=by
 rcases(by omega:s=1\/s=2\/s=3\/s<1\/3<s)with rfl|rfl|rfl|h|h
 ·cases h
 ·cases h
 ·cases h
 ·exact .inl h
 ·exact .inr h
def DE:QF:=⟨69,λargs bl=>match args with
 |[.ptr it 0,.int .i64 s]=>(match Bj bl it with
  |some y=>(match Bm s with
   |some i=>(match(uB y i).on with
    |true=>some (True,.ptr it (3+39*i))
    |false=>some (True,.raw (.pointer none)))
   |none=>none)
  |none=>none)
 |_=>none⟩
def wN:QF:=⟨69,λargs bl=>match args with
 |[.ptr it 0,.int .i64 s]=>some (s<1\/3<s,.raw (.pointer none))
 |_=>none⟩
theorem aaI (y:TC) (K:VK Empty):∀i:Nat,i<3->jo [] 30 69 [.ptr 0 0,.int .i64 (.ofNat (i+1))] (tE false y) K=cond (!(uB y i).on) (K (.raw (.pointer none)) (tE false y) []) (K (.ptr 0 (3+39*i)) (tE false y) [])
 |0,_=>by kernel_rfl
 |1,_=>by kernel_rfl
 |2,_=>by kernel_rfl
 |n+3,h=>absurd h (by omega)
theorem amc (b:Nat) (s:Int) (X:V->Prop):eb prog [] 30 69 [.raw (.pointer (some ⟨b,0,none⟩)),.int .i64 s] X=cond (decide (s<1)) (X (.raw (.pointer none))) (cond (decide (s>3)) (X (.raw (.pointer none))) False):=by kernel_rfl
theorem K5 {ids:List Nat} {bl:List VB} {w:ae} (hm:Mem ids bl w) {it:Nat} {y:TC} (h:Bj bl it=some y):w.heap[ids.getD it 0]?=some (.cells (ah [] (db y)).toArray 157 (0,0)):=by
 rw[amb hm h];have e:(ah [] (db y)).toArray=jl (bS y).c9 (bS y).aj y.b y.m:=by kernel_rfl
 rw[e]
theorem amd (gl:Nat->Option Nat):DE.Ok prog gl:=by
 intro args bl p_ v_ h hp ids w _ hm;unfold DE at h;dsimp only at h;split at h
 ·rename_i it s;split at h
  ·rename_i y hy;have hT:=K5 hm hy;split at h
   ·rename_i i hi;obtain⟨rfl,h3⟩:=K4 hi;split at h
    ·rename_i ho;simp only[aV,bw]at h;obtain⟨rfl,rfl⟩:=h;refine told (Bi bH.nil (n:=30) (args:=[.ptr 0 0,.int .i64 (.ofNat (i+1))]) (v:=.ptr 0 (3+39*i)) (T:=⟨157,(0,0)⟩) ?_ hT rfl rfl);show jo [] 30 69 [.ptr 0 0,.int .i64 (.ofNat (i+1))] (tE false y) _;rw[aaI y _ i h3,ho];rfl
    ·rename_i ho;simp only[aV,bw]at h;obtain⟨rfl,rfl⟩:=h;refine told (Bi bH.nil (n:=30) (args:=[.ptr 0 0,.int .i64 (.ofNat (i+1))]) (v:=.raw (.pointer none)) (T:=⟨157,(0,0)⟩) ?_ hT rfl rfl);show jo [] 30 69 [.ptr 0 0,.int .i64 (.ofNat (i+1))] (tE false y) _;rw[aaI y _ i h3,ho];rfl
   ·cases h
  ·cases h
 ·cases h
theorem ame (gl:Nat->Option Nat):wN.Ok prog gl:=by
 intro args bl p_ v_ h hp ids w _ hm;unfold wN at h;dsimp only at h;split at h
 ·rename_i it s;simp only[aV,bw]at h;obtain⟨rfl,rfl⟩:=h;refine told (C2 bH.nil 30 (args:=[.raw (.pointer (some ⟨ids.getD it 0,0,none⟩)),.int .i64 s]) (v:=.raw (.pointer none)) ?_ rfl rfl [] w);show eb prog [] 30 69 _ _;rw[amc];refine aI (λh=>rfl) (λh=>aI (λh=>rfl) λh'=>?_);simp only[decide_eq_false_iff_not]at h h';omega
 ·cases h
theorem Sk:bH prog (λ_=>none) [wN]:=bH.cons (ame _) bH.nil
theorem amf (y:TC) (K:VK Empty):∀i:Nat,i<3->jo [] 30 40 [.ptr 0 0,.int .i64 (.ofNat (i+1))] (tE false y) K=cond (!(uB y i).on) (K (.bool false) (tE false y) []) (K (.bool true) (tE false y) [])
 |0,_=>by kernel_rfl
 |1,_=>by kernel_rfl
 |2,_=>by kernel_rfl
 |n+3,h=>absurd h (by omega)
theorem amg (y:TC) (s:Int) (K:VK Empty):jo [wN] 30 40 [.ptr 0 0,.int .i64 s] (tE false y) K=cond (s==4) (K (.bool true) (tE false y) []) (cond (s==0) (K (.bool y.s1) (tE false y) []) ((s<1\/3<s)/\K (.bool false) (tE false y) [])):=by kernel_rfl
theorem amh (y:TC) (K:VK Empty):∀i:Nat,i<3->jo [] 30 41 [.ptr 0 0,.int .i64 (.ofNat (i+1))] (tE false y) K=cond (!(uB y i).on) (K (.int .i64 0) (tE false y) []) (K (.int .i64 (uB y i).role) (tE false y) [])
 |0,_=>by kernel_rfl
 |1,_=>by kernel_rfl
 |2,_=>by kernel_rfl
 |n+3,h=>absurd h (by omega)
theorem ami (y:TC) (s:Int) (K:VK Empty):jo [wN] 30 41 [.ptr 0 0,.int .i64 s] (tE false y) K=((s<1\/3<s)/\K (.int .i64 0) (tE false y) []):=by kernel_rfl
theorem K6 (y:TC):∀i:Nat,i<3->(bS y).de (.ofNat (i+1))=(uB y i).on
 |0,_=>rfl
 |1,_=>rfl
 |2,_=>rfl
 |n+3,h=>absurd h (by omega)
theorem Sl (t:Sd.aA) {s:Int} (h:s<1\/3<s):t.de s=false:=by
 unfold Sd.aA.de;have:(decide (1<=s)&&decide (s<=3))=false:=by simp;omega
 rw[this];rfl
theorem amj (y:TC):∀i:Nat,i<3->(bS y).aj ((cJ (i+1)).toNat-1)=uB y i
 |0,_=>rfl
 |1,_=>rfl
 |2,_=>rfl
 |n+3,h=>absurd h (by omega)
theorem amk (y:TC):∀i:Nat,i<3->(bS y).on (.ofNat (i+1))=(uB y i).on
 |0,_=>rfl
 |1,_=>rfl
 |2,_=>rfl
 |n+3,h=>absurd h (by omega)
theorem aml (y:TC) (s:Int) {bt:Nat} {w:ae} (hT:w.heap[bt]?=some (.cells (ah [] (db y)).toArray 157 (0,0))):aS prog 40 (aD [bt] [.ptr 0 0,.int .i64 s]).toArray w λx w1=>x=den [bt] (.bool ((bS y).on s))/\Ch [] w w1:=by
 cases h:Bm s with
 |some i=>
  obtain⟨rfl,h3⟩:=K4 h;refine Bi bH.nil (n:=30) (T:=⟨157,(0,0)⟩) ?_ hT rfl rfl;show jo [] 30 40 [.ptr 0 0,.int .i64 (.ofNat (i+1))] (tE false y) _;rw[amf y _ i h3,amk y i h3];exact aI (λh=>by simp at h;rw[h]) (λh=>by simp at h;rw[h])
 |none=>
  have hs:=Sj h;refine Bi Sk (n:=30) (T:=⟨157,(0,0)⟩) ?_ hT rfl rfl;show jo [wN] 30 40 [.ptr 0 0,.int .i64 s] (tE false y) _;rw[amg];unfold Sd.aA.on;rw[Sl _ hs];refine aI (λh=>?_) (λh=>aI (λh'=>?_) λh'=>⟨hs,?_⟩)
  ·rw[if_pos (by simpa using h)]
  ·rw[if_neg (by simpa using h),if_pos (by simpa using h')];rfl
  ·rw[if_neg (by simpa using h),if_neg (by simpa using h')]
theorem amm (y:TC) (s:Int) {bt:Nat} {w:ae} (hT:w.heap[bt]?=some (.cells (ah [] (db y)).toArray 157 (0,0))):aS prog 41 (aD [bt] [.ptr 0 0,.int .i64 s]).toArray w λx w1=>x=den [bt] (.int .i64 ((bS y).role s))/\Ch [] w w1:=by
 unfold Sd.aA.role;cases h:Bm s with
 |some i=>
  obtain⟨rfl,h3⟩:=K4 h;refine Bi bH.nil (n:=30) (T:=⟨157,(0,0)⟩) ?_ hT rfl rfl;show jo [] 30 41 [.ptr 0 0,.int .i64 (.ofNat (i+1))] (tE false y) _;rw[amh y _ i h3,K6 y i h3,amj y i h3];exact aI (λh=>by simp at h;rw[h];rfl) (λh=>by simp at h;rw[h];rfl)
 |none=>
  have hs:=Sj h;refine Bi Sk (n:=30) (T:=⟨157,(0,0)⟩) ?_ hT rfl rfl;show jo [wN] 30 41 [.ptr 0 0,.int .i64 s] (tE false y) _;rw[ami,Sl _ hs];exact⟨hs,rfl⟩
def Sn:QF:=⟨40,λargs bl=>match args with
 |[.ptr it 0,.int .i64 s]=>(match Bj bl it with|some y=>some (True,.bool ((bS y).on s))|none=>none)
 |_=>none⟩
theorem amn (gl:Nat->Option Nat):Sn.Ok prog gl:=by
 intro args bl p_ v_ h hp ids w _ hm;unfold Sn at h;dsimp only at h;split at h
 ·rename_i it s;split at h
  ·rename_i y hy;simp only[aV,bw]at h;obtain⟨rfl,rfl⟩:=h;exact told (aml y s (K5 hm hy))
  ·cases h
 ·cases h
def So:QF:=⟨41,λargs bl=>match args with
 |[.ptr it 0,.int .i64 s]=>(match Bj bl it with|some y=>some (True,.int .i64 ((bS y).role s))|none=>none)
 |_=>none⟩
theorem amo (gl:Nat->Option Nat):So.Ok prog gl:=by
 intro args bl p_ v_ h hp ids w _ hm;unfold So at h;dsimp only at h;split at h
 ·rename_i it s;split at h
  ·rename_i y hy;simp only[aV,bw]at h;obtain⟨rfl,rfl⟩:=h;exact told (amm y s (K5 hm hy))
  ·cases h
 ·cases h
def zS:List V:=.bool false::.int .i64 0::.int .i64 0::.int .i64 0::(kR [.int .u8 0] 32++[.bool false,.int .i64 0,.int .u64 0])
def yX (y:TC) (i:Nat) (x:List V):List V:=.bool y.s1::.int .i64 y.sn::.int .i64 y.sm::((bif aq i 0 then x else wL y.s0)++((bif aq i 1 then x else wL y.sa)++((bif aq i 2 then x else wL y.sb)++[.int .i64 y.b,.int .i64 y.m])))
def wE (l:List V):List VB:=[⟨true,⟨157,(0,0)⟩,l⟩]
theorem amp (y:TC) (K:VK Empty):∀i:Nat,i<3->jo [] 30 196 [.ptr 0 0,.int .i64 (.ofNat (i+1))] (tE true y) (br 1 K)=cond (!(uB y i).on) (K (.bool false) (tE true y) []) (K (.bool true) (wE (yX y i zS)) [])
 |0,_=>by kernel_rfl
 |1,_=>by kernel_rfl
 |2,_=>by kernel_rfl
 |n+3,h=>absurd h (by omega)
theorem amq (y:TC) (s:Int) (K:VK Empty):jo [wN] 30 196 [.ptr 0 0,.int .i64 s] (tE true y) (br 1 K)=((s<1\/3<s)/\K (.bool false) (tE true y) []):=by kernel_rfl
theorem exE (y:TC):∀i:Nat,i<3->az [0] 0 ⟨true,⟨157,(0,0)⟩,yX y i zS⟩=⟨0,true,.cells (jl ((bS y).ei ((cJ (i+1)).toNat-1) .zero).c9 ((bS y).ei ((cJ (i+1)).toNat-1) .zero).aj y.b y.m) 157 (0,0)⟩
 |0,_=>by kernel_rfl
 |1,_=>by kernel_rfl
 |2,_=>by kernel_rfl
 |n+3,h=>absurd h (by omega)
theorem K7 (y:TC):az [0] 0 ⟨true,⟨157,(0,0)⟩,db y⟩=⟨0,true,.cells (jl (bS y).c9 (bS y).aj y.b y.m) 157 (0,0)⟩:=by kernel_rfl
theorem Sr (y:TC) (bt:Nat):az [bt] bt ⟨true,⟨157,(0,0)⟩,db y⟩=⟨bt,true,.cells (jl (bS y).c9 (bS y).aj y.b y.m) 157 (0,0)⟩:=by kernel_rfl
theorem amr (y:TC):∀i:Nat,bj 0 (yX y i zS)=true
 |0=>by kernel_rfl
 |1=>by kernel_rfl
 |2=>by kernel_rfl
 |n+3=>by kernel_rfl
theorem ams (y:TC) (s:Int) {bt:Nat} {bs:List ai} {ms:List Nat} {w0 w:ae} (S:St ms w0 ([⟨bt,true,.cells (jl (bS y).c9 (bS y).aj y.b y.m) 157 (0,0)⟩]++bs) w):
 aS prog 196 (aD [bt] [.ptr 0 0,.int .i64 s]).toArray w λu w1=>u=den [] (.bool ((bS y).de s))/\St ms w0 ([⟨bt,true,.cells (jl ((bS y).end_ s).c9 ((bS y).end_ s).aj y.b y.m) 157 (0,0)⟩]++bs) w1:=by
 rw[<-Sr]at S;unfold Sd.aA.end_;cases h:Bm s with
 |some i=>
  obtain⟨rfl,h3⟩:=K4 h;refine K3 bH.nil (n:=30) (B0:=⟨true,⟨157,(0,0)⟩,db y⟩) ?_ rfl S;show jo [] 30 196 [.ptr 0 0,.int .i64 (.ofNat (i+1))] (tE true y) _;rw[amp y _ i h3,K6 y i h3];refine aI (λh=>?_) (λh=>?_)
  ·simp only[lN]at h;rw[h];exact⟨rfl,_,rfl,K7 y,rfl⟩
  ·simp only[Bool.not_eq_false']at h;rw[h];exact⟨rfl,_,rfl,exE y i h3,amr y i⟩
 |none=>
  have hs:=Sj h;refine K3 Sk (n:=30) (B0:=⟨true,⟨157,(0,0)⟩,db y⟩) ?_ rfl S;show jo [wN] 30 196 [.ptr 0 0,.int .i64 s] (tE true y) _;rw[amq,Sl _ hs];exact⟨hs,rfl,_,rfl,K7 y,rfl⟩
def smL (y:TC):List V:=.bool true::.int .i64 0::.int .i64 (if 0>y.b then 0 else y.b)::(wL y.s0++(wL y.sa++(wL y.sb++[.int .i64 y.b,.int .i64 y.m])))
theorem amt (y:TC) (K:VK Empty):jo [] 30 79 [.ptr 0 0] (tE true y) (br 1 K)=K (.an []) (wE (smL y)) []:=by kernel_rfl
theorem amu (y:TC) (hb:0<=y.b/\y.b<=1000) {bt:Nat} {bs:List ai} {ms:List Nat} {w0 w:ae} (S:St ms w0 ([⟨bt,true,.cells (jl (bS y).c9 (bS y).aj y.b y.m) 157 (0,0)⟩]++bs) w):
 aS prog 79 (aD [bt] [.ptr 0 0]).toArray w λu w1=>u=den [] (.an [])/\St ms w0 ([⟨bt,true,.cells (jl (true,.start y.b) (bS y).aj y.b y.m) 157 (0,0)⟩]++bs) w1:=by
 rw[<-Sr]at S;refine K3 bH.nil (n:=30) (B0:=⟨true,⟨157,(0,0)⟩,db y⟩) ?_ rfl S;show jo [] 30 79 [.ptr 0 0] (tE true y) _;rw[amt];refine⟨rfl,_,rfl,?_,rfl⟩;have q:az [0] 0 ⟨true,⟨157,(0,0)⟩,smL y⟩=⟨0,true,.cells (jl (true,⟨0,if 0>y.b then 0 else y.b⟩) (bS y).aj y.b y.m) 157 (0,0)⟩:=by kernel_rfl
 rw[q,Gm]
def DF:QF:=⟨193,λargs bl=>match args with
 |[.ptr it 0]=>(match Bj bl it with
  |some y=>some (True,.int .i64 ((bS y).many))
  |none=>none)
 |_=>none⟩
theorem amv (y:TC) (K:VK Empty):jo [] 30 193 [.ptr 0 0] (tE false y) K=
 let k:Int->Prop:=λn=>K (.int .i64 n) (tE false y) []
 cond y.s0.on (cond y.sa.on (cond y.sb.on (k 3) (k 2)) (cond y.sb.on (k 2) (k 1))) (cond y.sa.on (cond y.sb.on (k 2) (k 1)) (cond y.sb.on (k 1) (k 0))):=by kernel_rfl
theorem amw (gl:Nat->Option Nat):DF.Ok prog gl:=by
 intro args bl p_ v_ h hp ids w _ hm;unfold DF at h;dsimp only at h;split at h
 ·rename_i it;split at h
  ·rename_i y hy;simp only[aV,bw]at h;obtain⟨rfl,rfl⟩:=h;refine told (Bi bH.nil (n:=30) (args:=[.ptr 0 0]) (v:=.int .i64 ((bS y).many)) (T:=⟨157,(0,0)⟩) ?_ (K5 hm hy) rfl rfl);show jo [] 30 193 [.ptr 0 0] (tE false y) _;rw[amv];have e:(bS y).many=(if y.s0.on then 1 else 0)+(if y.sa.on then 1 else 0)+(if y.sb.on then 1 else 0):=rfl;rw[e];cases y.s0.on<;>cases y.sa.on<;>cases y.sb.on<;>rfl
  ·cases h
 ·cases h
theorem amx:bH prog (λ_=>none) [DE,DF]:=bH.cons (amd _) (bH.cons (amw _) bH.nil)
def Ss (k:Sd.gy) (o:Bool):Sd.gy:=⟨o,k.eL,k.role,k.key,k.seen⟩
def Bn (y:TC) (i:Nat) (o:Bool):TC:=match i with
 |0=>{y with s0:=Ss y.s0 o}
 |1=>{y with sa:=Ss y.sa o}
 |_=>{y with sb:=Ss y.sb o}
def nS (b r:Int) (key:Nat->Int):List V:=[.bool true,.int .i64 0,.int .i64 (if 0>b then 0 else b),.int .i64 r,.bJ .u8 32 key,.bool false,.int .i64 0,.int .u64 0]
def K8 (y:TC) (r:Int) (K:VK Empty) (X:Prop):Prop:=cond (decide (r<0)) (K (.int .i64 1) (tE true y) []) (cond (decide (r>=4)) (K (.int .i64 1) (tE true y) []) X)
theorem amy (y:TC) (r:Int) (key:Nat->Int) (K:VK Empty):∀i:Nat,i<3->
 jo [DE,DF] 60 149 [.ptr 0 0,.int .i64 (.ofNat (i+1)),.int .i64 r,.agg [.bJ .u8 32 key]] (tE true (Bn y i true)) (br 1 K)=K8 (Bn y i true) r K (True/\K (.int .i64 0) (wE (yX y i (nS y.b r key))) [])/\
 jo [DE,DF] 60 149 [.ptr 0 0,.int .i64 (.ofNat (i+1)),.int .i64 r,.agg [.bJ .u8 32 key]] (tE true (Bn y i false)) (br 1 K)=K8 (Bn y i false) r K (True/\True/\cond (decide ((bS (Bn y i false)).many>=y.m)) (K (.int .i64 19) (tE true (Bn y i false)) []) (K (.int .i64 0) (wE (yX y i (nS y.b r key))) []))
 |0,_=>⟨by kernel_rfl,by kernel_rfl⟩
 |1,_=>⟨by kernel_rfl,by kernel_rfl⟩
 |2,_=>⟨by kernel_rfl,by kernel_rfl⟩
 |n+3,h=>absurd h (by omega)
theorem exN (y:TC) (r:Int) (key:Nat->Int):∀i:Nat,i<3->az [0] 0 ⟨true,⟨157,(0,0)⟩,yX y i (nS y.b r key)⟩=⟨0,true,.cells (jl ((bS y).ei ((cJ (i+1)).toNat-1) ⟨true,⟨0,if 0>y.b then 0 else y.b⟩,r,key,⟨false,0,0⟩⟩).c9 ((bS y).ei ((cJ (i+1)).toNat-1) ⟨true,⟨0,if 0>y.b then 0 else y.b⟩,r,key,⟨false,0,0⟩⟩).aj y.b y.m) 157 (0,0)⟩/\bj 0 (yX y i (nS y.b r key))=true
 |0,_=>⟨by kernel_rfl,by kernel_rfl⟩
 |1,_=>⟨by kernel_rfl,by kernel_rfl⟩
 |2,_=>⟨by kernel_rfl,by kernel_rfl⟩
 |n+3,h=>absurd h (by omega)
theorem amz (y:TC):∀i:Nat,i<3->∃o,(uB y i).on=o/\y=Bn y i o
 |0,_=>⟨_,rfl,rfl⟩
 |1,_=>⟨_,rfl,rfl⟩
 |2,_=>⟨_,rfl,rfl⟩
 |n+3,h=>absurd h (by omega)
theorem Su (y:TC) (i:Nat) (h3:i<3) (r:Int) (key:Nat->Int) (p:Sd.aN) (e1:p.bW=y.b) (e2:p.d_=y.m) {bt:Nat} {bs:List ai} {ms:List Nat} {w0 w:ae} (S:St ms w0 ([⟨bt,true,.cells (jl (bS y).c9 (bS y).aj y.b y.m) 157 (0,0)⟩]++bs) w):
 aS prog 149 (aD [bt] [.ptr 0 0,.int .i64 (.ofNat (i+1)),.int .i64 r,.agg [.bJ .u8 32 key]]).toArray w λu w1=>u=den [] (.int .i64 (Sd.aA.dV p (bS y) (.ofNat (i+1)) r key).2)/\
  St ms w0 ([⟨bt,true,.cells (jl (Sd.aA.dV p (bS y) (.ofNat (i+1)) r key).1.c9 (Sd.aA.dV p (bS y) (.ofNat (i+1)) r key).1.aj y.b y.m) 157 (0,0)⟩]++bs) w1:=by
 obtain⟨o,ho,hy⟩:=amz y i h3;rw[<-Sr]at S;refine K3 (args:=[.ptr 0 0,.int .i64 (.ofNat (i+1)),.int .i64 r,.agg [.bJ .u8 32 key]]) (v:=.int .i64 (Sd.aA.dV p (bS y) (.ofNat (i+1)) r key).2) (wr:=true) (o:=.cells (jl (Sd.aA.dV p (bS y) (.ofNat (i+1)) r key).1.c9 (Sd.aA.dV p (bS y) (.ofNat (i+1)) r key).1.aj y.b y.m) 157 (0,0)) amx (n:=60) (B0:=⟨true,⟨157,(0,0)⟩,db y⟩) ?_ rfl S;generalize hK:(λ(x:V) (b:List VB) (_:List Empty)=>x=V.int i64 (Sd.aA.dV p (bS y) (cJ (i+1)) r key).2/\∃B,b=[B]/\az [0] 0 B=⟨0,true,.cells (jl (Sd.aA.dV p (bS y) (cJ (i+1)) r key).1.c9 (Sd.aA.dV p (bS y) (cJ (i+1)) r key).1.aj y.b y.m) 157 (0,0)⟩/\bj 0 B.c=true)=K;show jo [DE,DF] 60 149 [.ptr 0 0,.int .i64 (.ofNat (i+1)),.int .i64 r,.agg [.bJ .u8 32 key]] (tE true y) (br 1 K);have hN:=exN y r key i h3;have hi:(cJ (i+1))=(i:Int)+1:=rfl;have k1:r<0\/4<=r->K (.int .i64 1) (tE true y) []:=λh=>by
  rw[<-hK];have e:Sd.aA.dV p (bS y) (cJ (i+1)) r key=(bS y,1):=by unfold Sd.aA.dV;rw[if_pos (by omega)]
  rw[e];exact⟨rfl,_,rfl,K7 y,rfl⟩
 have k0:0<=r->r<4->o=true\/¬y.m<=(bS y).many->K (.int .i64 0) (wE (yX y i (nS y.b r key))) []:=λh h' h4=>by
  rw[<-hK];have e:Sd.aA.dV p (bS y) (cJ (i+1)) r key=((bS y).ei ((cJ (i+1)).toNat-1) ⟨true,⟨0,if 0>y.b then 0 else y.b⟩,r,key,⟨false,0,0⟩⟩,0):=by
   unfold Sd.aA.dV;rw[if_neg (by omega),if_neg,e1,Gm];rw[K6 y i h3,ho,e2];rintro⟨rfl,h5⟩;exact h4.elim (λh=>nomatch h) λh=>h h5
  rw[e];exact⟨rfl,_,rfl,hN.1,hN.2⟩
 have k2:0<=r->r<4->o=false->y.m<=(bS y).many->K (.int .i64 19) (tE true y) []:=λh h' h4 h5=>by
  rw[<-hK];have e:Sd.aA.dV p (bS y) (cJ (i+1)) r key=(bS y,19):=by
   unfold Sd.aA.dV;rw[if_neg (by omega),if_pos];rw[K6 y i h3,ho,e2];exact⟨h4,h5⟩
  rw[e];exact⟨rfl,_,rfl,K7 y,rfl⟩
 have fG:=amy y r key K i h3;cases o with
 |true=>
  have hv:=fG.1;rw[<-hy]at hv;rw[hv];unfold K8;refine aI (λh=>k1 (.inl (by simpa using h))) (λh=>aI (λh'=>k1 (.inr (by simpa using h'))) λh'=>⟨trivial,?_⟩);exact k0 (by simpa using h) (by simpa using h') (.inl rfl)
 |false=>
  have hv:=fG.2;rw[<-hy]at hv;rw[hv];unfold K8;refine aI (λh=>k1 (.inl (by simpa using h))) (λh=>aI (λh'=>k1 (.inr (by simpa using h'))) λh'=>⟨trivial,trivial,aI (λh5=>?_) λh5=>?_⟩)
  ·exact k2 (by simpa using h) (by simpa using h') rfl (by simpa using h5)
  ·exact k0 (by simpa using h) (by simpa using h') (.inr (by simpa using h5))
variable{fr:Sd.aE->Nat×Sd.av}
def Sv:QF:=⟨55,λargs _=>match args with
 |[.int .i64 l]=>some (True,.bool (Sd.linked l))
 |_=>none⟩
theorem amA (l:Int) (X:V->Prop):eb prog [] 20 55 [.int .i64 l] X=(cond (decide (l>=1)) (X (.bool (decide (l<=3)))) (X (.bool false))):=by kernel_rfl
theorem amB (gl:Nat->Option Nat):Sv.Ok prog gl:=by
 intro args bl p_ v_ h hp ids w _ _;unfold Sv at h;dsimp only at h;split at h
 ·rename_i l;simp only[aV,bw]at h;obtain⟨rfl,rfl⟩:=h;refine C2 bH.nil 20 ?_ rfl rfl ids w;show eb prog [] 20 55 _ _;rw[amA];have e:Sd.linked l=(decide (l>=1)&&decide (l<=3)):=rfl;refine aI (λh=>?_) (λh=>?_)
  ·rw[e,h];rfl
  ·rw[e,h];rfl
 ·cases h
theorem G1 (t:Sd.aA) (s:Int):(eB t).de s=t.de s:=by
 unfold Sd.aA.de;by_cases h1:1<=s
 ·by_cases h2:s<=3
  ·have:s=1\/s=2\/s=3:=by omega
   rcases this with rfl|rfl|rfl<;>rfl
  ·simp[h2]
 ·simp[h1]
theorem G2 (t:Sd.aA) (s:Int):(eB t).on s=t.on s:=by
 unfold Sd.aA.on;rw[G1];rfl
theorem amC (t:Sd.aA) (s:Int):(eB t).role s=t.role s:=by
 unfold Sd.aA.role;rw[G1];by_cases h:t.de s=true
 ·rw[if_pos h,if_pos h];unfold Sd.aA.de at h;simp only[bg,decide_eq_true_eq]at h;have:s=1\/s=2\/s=3:=by omega
  rcases this with rfl|rfl|rfl<;>rfl
 ·rw[if_neg h,if_neg h]
def aW.cT {d:FD} (F:aW fr d) (q:List Sd.Ask) (B:List ai) (h:QS d.k.bq d.k.most q B):aW fr {d with q:=q}:={F with Bq:=B,hq:=h}
def vq (k:LK):ab:=.pointer (some ⟨k.bq,0,none⟩)
structure QG where
 f:Nat
 pos:Nat
 m:List V->Int->List Sd.Ask->Option (Prop×V×List Sd.Ask)
def Bo (x:QG):c_ (Gh fr):=λargs bl ch K=>match ch with
 |g::rest=>(match args[x.pos]?with
  |some (.raw vp)=>(match x.m (args.eraseIdx x.pos) g.d.k.most g.d.q with
   |some (p,v,q')=>cond (bj 0 args&&cK 0 v) ((vp=vq g.d.k/\p)/\∀B (h:QS g.d.k.bq g.d.k.most q' B),K v bl (⟨{g.d with q:=q'},g.dx,g.sx,g.F.cT q' B h⟩::rest)) False
   |none=>False)
  |_=>False)
 |[]=>False
def QG.Ok (x:QG):Prop:=∀(args:List V) (k:LK) (q:List Sd.Ask) (p:Prop) (v:V) (q':List Sd.Ask),args[x.pos]?=some (.raw (vq k))->x.m (args.eraseIdx x.pos) k.most q=some (p,v,q')->p->∀(B:List ai),QS k.bq k.most q B->∀(bs:List ai) (ms:List Nat) (w0 w:ae),St ms w0 (B++bs) w->
 aS prog x.f (aD [] args).toArray w λy w1=>∃B',y=den [] v/\QS k.bq k.most q' B'/\St ms w0 (B'++bs) w1
theorem s9 {d:FD} (F:aW fr d):F.B=F.Br++(F.Bs++(F.Bf++(F.Bq++F.Bk))):=rfl
theorem G3 (A a b c q e R:List ai):(A++((a++(b++(c++(q++e))))++R)).Perm (q++(A++(a++(b++(c++(e++R)))))):=by
 have h:(A++((a++(b++(c++(q++e))))++R))=(A++(a++(b++c)))++(q++(e++R)):=by simp[bR]
 have h2:(q++(A++(a++(b++(c++(e++R))))))=q++((A++(a++(b++c)))++(e++R)):=by simp[bR]
 rw[h,h2,<-bR,<-bR q];exact Et _ List.perm_append_comm
theorem amD {x:QG} (h:x.Ok) (gl:Nat->Option Nat):Sound prog gl x.f (Bo (fr:=fr) x):=by
 intro args ids bl ch R ms w0 w K hg hl S hc;unfold Bo at hc;split at hc
 ·rename_i g rest;split at hc
  ·rename_i vp Sw;split at hc
   ·rename_i p v q' hm;cases hq:bj 0 args&&cK 0 v with
    |false=>rw[hq]at hc;exact hc.elim
    |true=>
     rw[hq]at hc;simp only[bg]at hq;obtain⟨⟨rfl,hp⟩,hK⟩:=hc;have a1:aD ids args=aD [] args:=by have:=nk (ids:=[]) (more:=ids) args hq.1;simpa using this
     have e0:ax (g::rest) R=g.F.B++ax rest R:=rfl;rw[e0,s9]at S;rw[a1];refine(h args g.d.k g.d.q p v q' Sw hm hp _ g.F.hq _ ms w0 w (S.perm (G3 _ _ _ _ _ _ _))).mono ?_;rintro y w1 ⟨B',rfl,hB,S1⟩;refine⟨v,[],bl,_,?_,by simpa using hl,?_,hK B' hB⟩
     ·have:=fI (ids:=[]) (more:=ids++[]) v hq.2;simpa using this.symm
     ·have e1:ax (⟨{g.d with q:=q'},g.dx,g.sx,g.F.cT q' B' hB⟩::rest:List (Gh fr)) R=(g.F.Br++(g.F.Bs++(g.F.Bf++(B'++g.F.Bk))))++ax rest R:=rfl;rw[e1,cQ];exact S1.perm (G3 _ _ _ _ _ _ _).symm
   ·exact hc.elim
  ·exact hc.elim
 ·exact hc.elim
theorem K9 {x:QG} (h:x.Ok):ud (G:=Gh fr) prog gS ⟨x.f,false,Bo x⟩:=⟨amD h gS,λe=>by cases e⟩
def K_:QG:=⟨86,0,λargs _ q=>match args with
 |[.int .i64 s]=>some (True,.bool (Sd.Q.waits q s),Sd.Q.drop q s)
 |_=>none⟩
theorem aaJ:K_.Ok:=by
 intro args k q p v q' hv hm hp B hB bs ms w0 w S
 match args,hv,hm with
 |a::l,hv,hm=>
  have ha:a=.raw (vq k):=by simpa[K_]using hv
  subst ha;replace hm:(match(generalizing:=false) l with
   |[.int .i64 s]=>some (True,V.bool (Sd.Q.waits q s),Sd.Q.drop q s)
   |_=>none)=some (p,v,q'):=hm
  split at hm
  ·simp only[aV,bw]at hm;obtain⟨rfl,rfl,rfl⟩:=hm;exact alw _ hB S
  ·cases hm
def lI (a b c d e f:Int):List V:=[.int .i64 a,.int .i64 b,.int .i64 c,.int .i64 d,.int .i64 e,.int .i64 f,.int .u8 0,.int .u8 0,.int .u8 0,.int .u8 0,.int .u8 0,.int .u8 0,.int .u8 0,.int .u8 0]
def Sz:List V->Option Sd.aE
 |.int .i64 a::.int .i64 b::.int .i64 c::.int .i64 d::.int .i64 e::.int .i64 f::l=>(match l with
  |[.bJ .u8 8 n]=>some ⟨a,b,c,d,e,f,n⟩
  |[.int .u8 (.ofNat 0),.int .u8 (.ofNat 0),.int .u8 (.ofNat 0),.int .u8 (.ofNat 0),.int .u8 (.ofNat 0),.int .u8 (.ofNat 0),.int .u8 (.ofNat 0),.int .u8 (.ofNat 0)]=>some ⟨a,b,c,d,e,f,λ_=>0⟩
  |_=>none)
 |_=>none
def SA:List V->Option Sd.aE
 |[.int .i64 a,.int .i64 b,.int .i64 c,.int .i64 d,.int .i64 e,.int .i64 f,.int .u8 (.ofNat 0),.int .u8 (.ofNat 0),.int .u8 (.ofNat 0),.int .u8 (.ofNat 0),.int .u8 (.ofNat 0),.int .u8 (.ofNat 0),.int .u8 (.ofNat 0),.int .u8 (.ofNat 0)]=>some ⟨a,b,c,d,e,f,λ_=>0⟩
 |_=>none
theorem amE {l:List V} {r:Sd.aE} (h:SA l=some r):∃a b c d e f,l=lI a b c d e f/\r=⟨a,b,c,d,e,f,λ_=>0⟩:=by
 unfold SA at h;split at h
 ·obtain rfl:=cA h;exact⟨_,_,_,_,_,_,rfl,rfl⟩
 ·cases h
def Rm (s:Sd.aa) (n:Nat):Prop:=s.bh.length+n<=1000/\s.bA.length+n<=1000
def N8 (n:Int):Prop:=0<=n/\n<=255
def N4 (n:Int):Prop:=0<=n/\n<=4
def uC (n:Int):Prop:=0<=n/\n<=65535
def uD (n:Int):Prop:=0<=n/\n<=4294967295
structure RB (r:Sd.aE):Prop where
 kind:129<=r.kind/\r.kind<=136
 seq:uD r.seq/\((r.kind=131\/r.kind=132)\/r.seq=0)
 role:(0<=r.role/\r.role<=3)/\(r.kind=130\/r.role=0)
 dh:N4 r.dh/\((r.kind=130\/r.kind=134\/r.kind=135\/r.kind=136)\/r.dh=0)
 af:uC r.af/\((r.kind=130\/r.kind=133\/r.kind=134\/r.kind=135)\/r.af=0)
 code:N8 r.code/\((r.kind=132\/r.kind=136)\/r.code=0)
 aw:By r.aw/\(r.kind=129\/r.aw=λ_=>0)
def dI:SM fr:=λar k s F K=>match ar with
 |[.int .i64 l,.agg rl]=>(match Sz rl with
  |some r=>(Rm s 1/\RB r)/\∀F',K (.an []) (s.tell l r) F'
  |none=>False)
 |_=>False
def uE:SM fr:=λar k s F K=>match ar with
 |[.int .i64 l,.agg rl]=>(match SA rl with
  |some r=>(Rm s 1/\RB r)/\∀F',K (.an []) (s.dH l r) F'
  |none=>False)
 |_=>False
def lJ (C:Sd.aL):SM fr:=λar k s F K=>match ar with
 |[.int .i64 l,.int .i64 n,.int .i64 c]=>(Rm s 1/\uD n/\N8 c)/\∀F',K (.an []) (s.refuse C l n c) F'
 |_=>False
def mM:SM fr:=λar k s F K=>match ar with
 |[.int .i64 l,.int .i64 n]=>(Rm s 1/\uD n)/\∀F',K (.an []) (s.done l n) F'
 |_=>False
def wO:SM fr:=λar k s F K=>match ar with
 |[.int .i64 l,.int .i64 w,.int .i64 c]=>(Rm s 1/\N4 w/\N8 c)/\∀F',K (.an []) (s.gone l w c) F'
 |_=>False
def L1 (fr:Sd.aE->Nat×Sd.av) (C:Sd.aL):List (bK (Gh fr)):=⟨147,false,gF dI⟩::⟨96,false,gF (qe C)⟩::⟨86,false,Bo K_⟩::qE (Gh fr) Sv::qE (Gh fr) Sn::qE (Gh fr) So::L0 fr C
theorem La {q:QF} (h:∀gl,q.Ok prog gl):ud (G:=Gh fr) prog gS (qE (Gh fr) q):=⟨JM (h gS),λ_=>JL q.F⟩
theorem Lb (tk:Nat->Sd.av->Option Sd.aY) (ht:Body (fr:=fr) 147 dI):aC prog gS (L1 fr (aJ tk)):=
 aC.cons (iC ht) (aC.cons (iC (ama tk)) (aC.cons (K9 aaJ) (aC.cons (La amB) (aC.cons (La amn) (aC.cons (La amo) (aaH tk))))))
theorem amF (C:Sd.aL) (k:LK) (s:Sd.aa) (F:aW fr (aR k s)) (Kb:SK fr k) (l n c:Int):bo (bP prog gS (L1 fr C)) 40 145 [.ptr 2 0,.int .i64 l,.int .i64 n,.int .i64 c] (bz k s F) [a_ k s F] (cx k s Kb)
 =(cv k s F/\dI [.int .i64 l,.agg (lI 132 n 0 0 0 c)] k (bQ s) F λv s1 F1=>cv k s1 F1/\jn C [.int .i64 7,.int .i64 l,.int .i64 n,.int .i64 c,.int .i64 0] k (bQ s1) F1 (λv s' F'=>cx k s Kb (.an []) (bz k s' F') [a_ k s' F'])):=by kernel_rfl
theorem amG (C:Sd.aL) (k:LK) (s:Sd.aa) (F:aW fr (aR k s)) (Kb:SK fr k) (l n:Int):bo (bP prog gS (L1 fr C)) 40 195 [.ptr 2 0,.int .i64 l,.int .i64 n] (bz k s F) [a_ k s F] (cx k s Kb)
 =(cv k s F/\dI [.int .i64 l,.agg (lI 131 n 0 0 0 0)] k (bQ s) F λv s' F'=>cx k s Kb (.an []) (bz k s' F') [a_ k s' F']):=by kernel_rfl
theorem amH (C:Sd.aL) (k:LK) (s:Sd.aa) (F:aW fr (aR k s)) (Kb:SK fr k) (l a b c d e f:Int):bo (bP prog gS (L1 fr C)) 40 131 [.ptr 2 0,.int .i64 l,.agg (lI a b c d e f)] (bz k s F) [a_ k s F] (cx k s Kb)
 =(True/\cond (Sd.linked l) (True/\cond ((eB s.c.ag).on l) (cv k s F/\dI [.int .i64 l,.agg (lI a b c d e f)] k (bQ s) F λv s' F'=>cx k s Kb (.an []) (bz k s' F'++[⟨true,⟨40,(0,0)⟩,lI a b c d e f⟩]) [a_ k s' F']) (cx k s Kb (.an []) (bz k s F++[⟨true,⟨40,(0,0)⟩,lI a b c d e f⟩]) [a_ k s F]))
  (cx k s Kb (.an []) (bz k s F++[⟨true,⟨40,(0,0)⟩,lI a b c d e f⟩]) [a_ k s F])):=by kernel_rfl
theorem by0:By (λ_=>0):=λj=>⟨Int.le_refl 0,by show(0:Int)<=255;decide⟩
theorem rb {a b d e f:Int} (h1:129<=a/\a<=136) (h2:uD b) (h4:N4 d) (h5:uC e) (h6:N8 f) (k2:(a=131\/a=132)\/b=0:=by simp) (k4:(a=130\/a=134\/a=135\/a=136)\/d=0:=by simp)
 (k5:(a=130\/a=133\/a=134\/a=135)\/e=0:=by simp) (k6:(a=132\/a=136)\/f=0:=by simp):RB ⟨a,b,0,d,e,f,λ_=>0⟩:=⟨h1,⟨h2,k2⟩,⟨show(0:Int)<=0/\(0:Int)<=3 by decide,.inr rfl⟩,⟨h4,k4⟩,⟨h5,k5⟩,⟨h6,k6⟩,⟨by0,.inr rfl⟩⟩
theorem z4:N4 0:=⟨by decide,by decide⟩
theorem z8:N8 0:=⟨by decide,by decide⟩
theorem Lc:uC 0:=⟨by decide,by decide⟩
theorem wP:uD 0:=⟨by decide,by decide⟩
theorem ee {k:LK} {s0:Sd.aa} {Kb:SK fr k} {v:V} {s s':Sd.aa} (e:s'=s) {bl:List VB} (hK:∀F,Kb v s F) (F':aW fr (aR k s')) (hv:cK 0 v=true:=by rfl) (hp:s'.c.p=s0.c.p:=by rfl) (hb:bl.take 5=bz k s' F':=by kernel_rfl):cx k s0 Kb v bl [a_ k s' F']:=by
 subst e;exact⟨s',F',hv,hp,hK F',hb,rfl⟩
section
variable{k:LK} {s:Sd.aa} {F:aW fr (aR k s)} {K:SK fr k}
theorem SB {l a b c d e f:Int} (h:Rm s 1/\RB ⟨a,b,c,d,e,f,λ_=>0⟩) (hK:∀F',K (.an []) (s.tell l ⟨a,b,c,d,e,f,λ_=>0⟩) F'):dI [.int .i64 l,.agg (lI a b c d e f)] k (bQ s) F K:=by
 have e:dI [.int .i64 l,.agg (lI a b c d e f)] k s F K=((Rm s 1/\RB ⟨a,b,c,d,e,f,λ_=>0⟩)/\∀F',K (.an []) (s.tell l ⟨a,b,c,d,e,f,λ_=>0⟩) F'):=by kernel_rfl
 exact nI (M:=dI) (e▸⟨h,hK⟩)
theorem Ld {l a b c d e f:Int} (h:Rm s 1/\RB ⟨a,b,c,d,e,f,λ_=>0⟩) (hK:∀F',K (.an []) (s.dH l ⟨a,b,c,d,e,f,λ_=>0⟩) F'):uE [.int .i64 l,.agg (lI a b c d e f)] k (bQ s) F K:=by
 have e:uE [.int .i64 l,.agg (lI a b c d e f)] k s F K=((Rm s 1/\RB ⟨a,b,c,d,e,f,λ_=>0⟩)/\∀F',K (.an []) (s.dH l ⟨a,b,c,d,e,f,λ_=>0⟩) F'):=by kernel_rfl
 exact nI (M:=uE) (e▸⟨h,hK⟩)
theorem nJ {C:Sd.aL} {a b c d e:Int} (h:s.bA.length<=1000) (hK:∀F',K (.an []) (s.record C a b c d e) F'):jn C [.int .i64 a,.int .i64 b,.int .i64 c,.int .i64 d,.int .i64 e] k (bQ s) F K:=by
 have e:jn C [.int .i64 a,.int .i64 b,.int .i64 c,.int .i64 d,.int .i64 e] k s F K=(s.bA.length<=1000/\∀F',K (.an []) (s.record C a b c d e) F'):=by kernel_rfl
 exact nI (M:=jn C) (e▸⟨h,hK⟩)
end
theorem amI (tk:Nat->Sd.av->Option Sd.aY) (ht:Body (fr:=fr) 147 dI):Body (fr:=fr) 145 (lJ (aJ tk)):=by
 refine lH (n:=40) (Lb tk ht) ?_;intro ar k s F Kb h0 hq hM;unfold lJ at hM;split at hM
 ·rename_i l n c;have h1:=hM.1.1;have h2:=hM.1.2.1;have h3:=hM.1.2.2;have hK:=hM.2;rw[amF];refine⟨cy hq,SB ⟨h1,rb (by decide) h2 z4 Lc h3⟩ λF1=>⟨cy hq,nJ ?_ λF2=>ee rfl hK F2⟩⟩;have:=h1.2;simp only[Sd.aa.tell];omega
 ·exact hM.elim
theorem amJ (tk:Nat->Sd.av->Option Sd.aY) (ht:Body (fr:=fr) 147 dI):Body (fr:=fr) 195 mM:=by
 refine lH (n:=40) (Lb tk ht) ?_;intro ar k s F Kb h0 hq hM;unfold mM at hM;split at hM
 ·rename_i l n;have h1:=hM.1.1;have h2:=hM.1.2;have hK:=hM.2;rw[amG];exact⟨cy hq,SB ⟨h1,rb (by decide) h2 z4 Lc z8⟩ λF1=>ee rfl hK F1⟩
 ·exact hM.elim
theorem amK (tk:Nat->Sd.av->Option Sd.aY) (ht:Body (fr:=fr) 147 dI):Body (fr:=fr) 131 uE:=by
 refine lH (n:=40) (Lb tk ht) ?_;intro ar k s F Kb h0 hq hM;unfold uE at hM;split at hM
 ·rename_i l rl;split at hM
  ·rename_i r hr;obtain⟨a,b,c,d,e,f,rfl,rfl⟩:=amE hr;have h1:=hM.1.1;have h2:=hM.1.2;have hK:=hM.2;rw[amH,G2];refine⟨trivial,aI (λe1=>⟨trivial,aI (λe2=>?_) (λe2=>?_)⟩) (λe1=>?_)⟩
   ·refine⟨cy hq,SB ⟨h1,h2⟩ λF1=>ee ?_ hK F1⟩;simp only[Sd.aa.dH,e1,e2,Bool.and_self,if_true]
   ·refine ee ?_ hK F;simp[Sd.aa.dH,e1,e2]
   ·refine ee ?_ hK F;simp[Sd.aa.dH,e1]
  ·exact hM.elim
 ·exact hM.elim
def L2 (fr:Sd.aE->Nat×Sd.av) (C:Sd.aL):List (bK (Gh fr)):=⟨145,false,gF (lJ C)⟩::⟨195,false,gF mM⟩::⟨131,false,gF uE⟩::L1 fr C
theorem Le (tk:Nat->Sd.av->Option Sd.aY) (ht:Body (fr:=fr) 147 dI):aC prog gS (L2 fr (aJ tk)):=
 aC.cons (iC (amI tk ht)) (aC.cons (iC (amJ tk ht)) (aC.cons (iC (amK tk ht)) (Lb tk ht)))
section
variable(C:Sd.aL) (k:LK) (s:Sd.aa) (F:aW fr (aR k s)) (Kb:SK fr k)
theorem amL (l n c:Int):bo (bP prog gS (L2 fr C)) 40 87 [.ptr 2 0,.int .i64 l,.int .i64 n,.int .i64 c] (bz k s F) [a_ k s F] (cx k s Kb)
 =(cv k s F/\uE [.int .i64 l,.agg (lI 136 0 0 n 0 c)] k (bQ s) F λv s' F'=>cx k s Kb (.an []) (bz k s' F') [a_ k s' F']):=by kernel_rfl
theorem amM (m:Int) (b:Sd.Label):bo (bP prog gS (L2 fr C)) 40 88 [.ptr 2 0,.int .i64 m,.agg (mI b)] (bz k s F) [a_ k s F] (cx k s Kb)
 =(True/\cx k s Kb (.an []) (bz k (s.dW m b) F++[⟨true,⟨44,(0,0)⟩,mI b⟩]) [a_ k s F]):=by kernel_rfl
def SC (s:Sd.aa) (t:Sd.Tok):Sd.aa:={s with c:={s.c with t:=t,q:=Sd.Q.drop s.c.q t.ay}}
theorem amN (t:Sd.Tok) (h n:Int):bo (bP prog gS (L2 fr C)) 60 85 [.ptr 2 0,.agg (cX t),.int .i64 h,.int .i64 n] (bz k s F) [a_ k s F] (cx k s Kb)
 =((vq k=vq k/\True)/\∀B (hB:QS k.bq k.most (Sd.Q.drop s.c.q t.ay) B),
  cv k (SC s t) (F.cT _ B hB)/\uE [.int .i64 s.c.t.ay,.agg (lI 134 0 0 t.ay t.af 0)] k (bQ (SC s t)) (F.cT _ B hB) λv s2 F2=>
  cv k s2 F2/\uE [.int .i64 t.ay,.agg (lI 133 0 0 0 t.af 0)] k (bQ s2) F2 λv s3 F3=>
  cv k s3 F3/\jn C [.int .i64 8,.int .i64 t.ay,.int .i64 n,.int .i64 0,.int .i64 h] k (bQ s3) F3 λv s' F'=>cx k s Kb (.an []) (bz k s' F'++[⟨true,⟨95,(0,0)⟩,cX t⟩]) [a_ k s' F']):=by kernel_rfl
def qd (s:Sd.aa) (l:Int):Sd.aa:={s with c:={s.c with q:=Sd.Q.drop s.c.q l}}
def iD (s:Sd.aa) (t:Sd.Tok):Sd.aa:={s with c:={s.c with t:=t}}
end
theorem k8 (s:Sd.aa) (l:Int) (r:Sd.aE):(s.dH l r).c=s.c:=by unfold Sd.aa.dH;split<;>rfl
theorem Kv (s:Sd.aa) (l:Int) (r:Sd.aE):(s.dH l r).bA=s.bA:=by unfold Sd.aa.dH;split<;>rfl
theorem amO (s:Sd.aa) (l:Int) (r:Sd.aE):(s.dH l r).bh.length<=s.bh.length+1:=by unfold Sd.aa.dH Sd.aa.tell;split<;>simp
theorem Rm.dH {s:Sd.aa} {l:Int} {r:Sd.aE} {n:Nat} (h:Rm s (n+1)):Rm (s.dH l r) n:=by
 have h1:=amO s l r;have h2:=Kv s l r;have:=h.1;have:=h.2
 exact⟨by omega,by rw[h2];omega⟩
theorem Rm.rec {s:Sd.aa} {C:Sd.aL} {a b c d e:Int} {n:Nat} (h:Rm s (n+1)):Rm (s.record C a b c d e) n:=by
 have:=h.1;have:=h.2
 exact⟨by simp only[Sd.aa.record];omega,by simp only[Sd.aa.record,fq,V4];omega⟩
theorem Rm.le {s:Sd.aa} {n m:Nat} (h:Rm s n) (hm:m<=n):Rm s m:=⟨by have:=h.1;omega,by have:=h.2;omega⟩
theorem Rm.r1 {s:Sd.aa} {n:Nat} (h:Rm s n):s.bA.length<=1000:=by have:=h.2;omega
section
variable(tk:Nat->Sd.av->Option Sd.aY)
include tk
theorem amP (ht:Body (fr:=fr) 147 dI):Body (fr:=fr) 87 wO:=by
 refine lH (n:=40) (Le tk ht) ?_;intro ar k s F Kb h0 hq hM;unfold wO at hM;split at hM
 ·rename_i l n c;have h1:=hM.1.1;have h2:=hM.1.2.1;have h3:=hM.1.2.2;have hK:=hM.2;rw[amL];exact⟨cy hq,Ld ⟨h1,rb (by decide) wP h2 Lc h3⟩ λF1=>ee rfl hK F1 (hp:=by unfold Sd.aa.gone;rw[k8])⟩
 ·exact hM.elim
def wQ:SM fr:=λar k s F K=>match ar with
 |[.int .i64 m,.agg bl]=>(match GH bl with
  |some b=>∀F',K (.an []) (s.dW m b) F'
  |none=>False)
 |_=>False
theorem amQ (ht:Body (fr:=fr) 147 dI):Body (fr:=fr) 88 wQ:=by
 refine lH (n:=40) (Le tk ht) ?_;intro ar k s F Kb h0 hq hM;unfold wQ at hM;split at hM
 ·rename_i m bl;split at hM
  ·rename_i b hb;obtain rfl:=Rn hb;rw[amM (aJ tk)];exact⟨trivial,ee (s':=s.dW m b) rfl hM F⟩
  ·exact hM.elim
 ·exact hM.elim
def qf (C:Sd.aL):SM fr:=λar k s F K=>match ar with
 |[.agg tl,.int .i64 h,.int .i64 n]=>(match kg tl with
  |some t=>(Rm s 4/\N4 t.ay/\uC t.af)/\∀F',K (.an []) (s.goes C t h n) F'
  |none=>False)
 |_=>False
theorem amR (ht:Body (fr:=fr) 147 dI):Body (fr:=fr) 85 (qf (aJ tk)):=by
 refine lH (n:=60) (Le tk ht) ?_;intro ar k s F Kb h0 hq hM;unfold qf at hM;split at hM
 ·rename_i tl h n;split at hM
  ·rename_i t hb;obtain rfl:=nC hb;have h1:Rm (SC s t) 4:=hM.1.1;have h2:=hM.1.2.1;have h3:=hM.1.2.2;have hK:=hM.2;rw[amN];refine⟨⟨rfl,trivial⟩,λB hB=>⟨cy hq,Ld ⟨h1.le (by decide),rb (by decide) wP h2 h3 z8⟩ λF2=>⟨cy ?_,Ld ⟨h1.dH.le (by decide),rb (by decide) wP z4 h3 z8⟩ λF3=>⟨cy ?_,nJ h1.dH.dH.r1 λF4=>ee rfl hK F4 (hp:=?_)⟩⟩⟩⟩
   ·rw[k8];exact hq
   ·rw[k8,k8];exact hq
   ·show(Sd.aa.dH _ _ _).c.p=_;rw[k8,k8]
  ·exact hM.elim
 ·exact hM.elim
end
def L3 (fr:Sd.aE->Nat×Sd.av) (C:Sd.aL):List (bK (Gh fr)):=⟨87,false,gF wO⟩::⟨88,false,gF wQ⟩::⟨85,false,gF (qf C)⟩::L2 fr C
theorem aaK (tk:Nat->Sd.av->Option Sd.aY) (ht:Body (fr:=fr) 147 dI):aC prog gS (L3 fr (aJ tk)):=
 aC.cons (iC (amP tk ht)) (aC.cons (iC (amQ tk ht)) (aC.cons (iC (amR tk ht)) (Le tk ht)))
theorem amS (C:Sd.aL) (k:LK) (s:Sd.aa) (F:aW fr (aR k s)) (Kb:SK fr k) (l:Int):bo (bP prog gS (L3 fr C)) 60 91 [.ptr 2 0,.int .i64 l] (bz k s F) [a_ k s F] (cx k s Kb)
 =((vq k=vq k/\True)/\∀B (hB:QS k.bq k.most (Sd.Q.drop s.c.q l) B),True/\cond (!(s.c.t.drop l).2) (cx k s Kb (.an []) (bz k (qd s l) (F.cT _ B hB)++[⟨true,⟨95,(0,0)⟩,cX (s.c.t.drop l).1⟩]) [a_ k (qd s l) (F.cT _ B hB)])
  (cv k (iD (qd s l) (s.c.t.drop l).1) (F.cT _ B hB)/\wO [.int .i64 (s.c.t.drop l).1.ay,.int .i64 l,.int .i64 16] k (bQ (iD (qd s l) (s.c.t.drop l).1)) (F.cT _ B hB) λv s2 F2=>
   cv k s2 F2/\jn C [.int .i64 12,.int .i64 l,.int .i64 0,.int .i64 16,.int .i64 0] k (bQ s2) F2 λv s' F'=>cx k s Kb (.an []) (bz k s' F'++[⟨true,⟨95,(0,0)⟩,cX (s.c.t.drop l).1⟩]) [a_ k s' F'])):=by kernel_rfl
theorem pV (s:Sd.aa) (l w c:Int):(s.gone l w c).c=s.c:=k8 _ _ _
theorem ajV (s:Sd.aa) (l w c:Int):(s.gone l w c).bA=s.bA:=Kv _ _ _
theorem Rm.gone {s:Sd.aa} {l w c:Int} {n:Nat} (h:Rm s (n+1)):Rm (s.gone l w c) n:=h.dH
section
variable{k:LK} {s:Sd.aa} {F:aW fr (aR k s)} {K:SK fr k}
theorem SD {l w c:Int} (h:Rm s 1/\N4 w/\N8 c) (hK:∀F',K (.an []) (s.gone l w c) F'):wO [.int .i64 l,.int .i64 w,.int .i64 c] k (bQ s) F K:=by
 have e:wO [.int .i64 l,.int .i64 w,.int .i64 c] k s F K=((Rm s 1/\N4 w/\N8 c)/\∀F',K (.an []) (s.gone l w c) F'):=by kernel_rfl
 exact nI (M:=wO) (e▸⟨h,hK⟩)
theorem uF {l n:Int} (h:Rm s 1/\uD n) (hK:∀F',K (.an []) (s.done l n) F'):mM [.int .i64 l,.int .i64 n] k (bQ s) F K:=by
 have e:mM [.int .i64 l,.int .i64 n] k s F K=((Rm s 1/\uD n)/\∀F',K (.an []) (s.done l n) F'):=by kernel_rfl
 exact nI (M:=mM) (e▸⟨h,hK⟩)
theorem yY {C:Sd.aL} {l n c:Int} (h:Rm s 1/\uD n/\N8 c) (hK:∀F',K (.an []) (s.refuse C l n c) F'):lJ C [.int .i64 l,.int .i64 n,.int .i64 c] k (bQ s) F K:=by
 have e:lJ C [.int .i64 l,.int .i64 n,.int .i64 c] k s F K=((Rm s 1/\uD n/\N8 c)/\∀F',K (.an []) (s.refuse C l n c) F'):=by kernel_rfl
 exact nI (M:=lJ C) (e▸⟨h,hK⟩)
theorem G4 {C:Sd.aL} {l c:Int} (h:s.bA.length<=1000) (hK:∀F',K (.an []) (s.iF C l c) F'):qe C [.int .i64 l,.int .i64 c] k (bQ s) F K:=by
 have e:qe C [.int .i64 l,.int .i64 c] k s F K=(s.bA.length<=1000/\∀F',K (.an []) (s.iF C l c) F'):=by kernel_rfl
 exact nI (M:=qe C) (e▸⟨h,hK⟩)
theorem Bp {C:Sd.aL} {t:Sd.Tok} {h n:Int} (hh:Rm s 4/\N4 t.ay/\uC t.af) (hK:∀F',K (.an []) (s.goes C t h n) F'):qf C [.agg (cX t),.int .i64 h,.int .i64 n] k (bQ s) F K:=by
 have e:qf C [.agg (cX t),.int .i64 h,.int .i64 n] k s F K=((Rm s 4/\N4 t.ay/\uC t.af)/\∀F',K (.an []) (s.goes C t h n) F'):=by kernel_rfl
 exact nI (M:=qf C) (e▸⟨hh,hK⟩)
theorem SE {m:Int} {b:Sd.Label} (hK:∀F',K (.an []) (s.dW m b) F'):wQ [.int .i64 m,.agg (mI b)] k (bQ s) F K:=by
 have e:wQ [.int .i64 m,.agg (mI b)] k s F K=(∀F',K (.an []) (s.dW m b) F'):=by kernel_rfl
 exact nI (M:=wQ) (e▸hK)
end
def G5 (C:Sd.aL):SM fr:=λar k s F K=>match ar with
 |[.int .i64 l]=>(Rm s 2/\N4 l)/\∀F',K (.an []) (s.leave C l) F'
 |_=>False
theorem amT (tk:Nat->Sd.av->Option Sd.aY) (ht:Body (fr:=fr) 147 dI):Body (fr:=fr) 91 (G5 (aJ tk)):=by
 refine lH (n:=60) (aaK tk ht) ?_;intro ar k s F Kb h0 hq hM;unfold G5 at hM;split at hM
 ·rename_i l;have h1:Rm (iD (qd s l) (s.c.t.drop l).1) 2:=hM.1.1;have h2:=hM.1.2;have hK:=hM.2;rw[amS];refine⟨⟨rfl,trivial⟩,λB hB=>⟨trivial,aI (λe=>?_) (λe=>?_)⟩⟩
  ·refine ee (s':=qd s l) ?_ hK (F.cT (Sd.Q.drop s.c.q l) B hB);simp only[lN]at e;exact(if_pos e).symm
  ·refine⟨cy hq,SD ⟨h1.le (by decide),h2,⟨by decide,by decide⟩⟩ λF2=>⟨cy ?_,nJ h1.gone.r1 λF3=>ee ?_ hK F3 (hp:=?_)⟩⟩
   ·rw[pV];exact hq
   ·simp only[Bool.not_eq_false']at e;have cw:¬(s.c.t.drop l).2=false:=by rw[e];decide
    exact(if_neg cw).symm
   ·show(Sd.aa.gone _ _ _ _).c.p=_;rw[pV];rfl
 ·exact hM.elim
end
section
open Go Go.RowKit Go.BigFrame Sx Vx
def b_ (n:Int):Prop:=-9223372036854775808<=n/\n<=9223372036854775807
theorem gO {a b:List ai} (h:∀f:ai->Bool,a.countP f=b.countP f):a.Perm b:=by
 classical
 refine List.perm_iff_count.2 λx=>?_;exact h _
structure QH where
 k:LK
 q:List Sd.Ask
 B:List ai
 h:QS k.bq k.most q B
instance:Bl QH:=⟨λg=>g.B⟩
def SF (x:QG):c_ QH:=λargs bl ch K=>match ch with
 |[g]=>(match args[x.pos]?with
  |some (.raw vp)=>(match x.m (args.eraseIdx x.pos) g.k.most g.q with
   |some (p,v,q')=>cond (bj 0 args&&cK 0 v) ((vp=vq g.k/\p)/\∀B (h:QS g.k.bq g.k.most q' B),K v bl [⟨g.k,q',B,h⟩]) False
   |none=>False)
  |_=>False)
 |_=>False
theorem amU {x:QG} (h:x.Ok) (gl:Nat->Option Nat):Sound prog gl x.f (SF x):=by
 intro args ids bl ch R ms w0 w K hg hl S hc;unfold SF at hc;split at hc
 ·rename_i g;split at hc
  ·rename_i vp Sw;split at hc
   ·rename_i p v q' hm;cases hq:bj 0 args&&cK 0 v with
    |false=>rw[hq]at hc;exact hc.elim
    |true=>
     rw[hq]at hc;simp only[bg]at hq;obtain⟨⟨rfl,hp⟩,hK⟩:=hc;have a1:aD ids args=aD [] args:=by have:=nk (ids:=[]) (more:=ids) args hq.1;simpa using this
     have e0:∀(B:List ai) (h:QS g.k.bq g.k.most q' B),ax ([⟨g.k,q',B,h⟩]:List QH) R=B++R:=λ_ _=>rfl;have S1:St ms w0 (g.B++(lits ids ids bl++R)) w:=S.perm (by show List.Perm (lits ids ids bl++(g.B++R)) _;exact gO λf=>by simp only[ik];omega);rw[a1];refine(h args g.k g.q p v q' Sw hm hp _ g.h _ ms w0 w S1).mono ?_;rintro y w1 ⟨B',rfl,hB,S2⟩;refine⟨v,[],bl,_,?_,by simpa using hl,?_,hK B' hB⟩
     ·have:=fI (ids:=[]) (more:=ids++[]) v hq.2;simpa using this.symm
     ·rw[e0,cQ];exact S2.perm (gO λf=>by simp only[ik];omega)
   ·exact hc.elim
  ·exact hc.elim
 ·exact hc.elim
def G6 (x:QG):bK QH:=⟨x.f,false,SF x⟩
theorem Lf {x:QG} (h:x.Ok) {gl:Nat->Option Nat}:ud (G:=QH) prog gl (G6 x):=⟨amU h gl,λe=>by cases e⟩
theorem aaL {L:List (bK QH)} (hL:aC prog (λ_=>none) L) (n:Nat) {f:Nat} {args:List V} {v:V} {k:LK} {q q':List Sd.Ask} {B:List ai} (hB:QS k.bq k.most q B) (h:bo (bP prog (λ_=>none) L) n f args [] [⟨k,q,B,hB⟩] (br 0 λx b c=>x=v/\b=[]/\∃B h,c=[⟨k,q',B,h⟩])) (hv:cK 0 v=true)
 {bs:List ai} {ms:List Nat} {w0 w:ae} (S:St ms w0 (B++bs) w):aS prog f (aD [] args).toArray w λy w1=>∃B',y=den [] v/\QS k.bq k.most q' B'/\St ms w0 (B'++bs) w1:=by
 refine(eG hL.T hL.Q n (C:=bP prog (λ_=>none) L) (ids:=[]) (bl:=[]) (ch:=[⟨k,q,B,hB⟩]) (R:=bs) Gl.none rfl S h).mono ?_;rintro x w' ⟨y,more,bl',ch',rfl,h1,S',hK⟩;obtain⟨v2,cB,bl2,e,cW,S2,rfl,rfl,B1,vV,rfl⟩:=hU (n0:=0) h1 (by simp) S' hK;have hm:cB=[]:=by simpa using cW
 subst hm;exact⟨B1,e,vV,S2⟩
def SG:QG:=⟨213,0,λargs _ q=>match args with
 |[]=>some (True,.an [.agg (KH (jU q).1),.int .i64 (jU q).2],q)
 |_=>none⟩
theorem amV:SG.Ok:=by
 intro args k q p v q' hv hm hp B hB bs ms w0 w S
 match args,hv,hm with
 |[a],hv,hm=>
  have ha:a=.raw (vq k):=by simpa[SG]using hv
  subst ha;replace hm:some (True,V.an [.agg (KH (jU q).1),.int .i64 (jU q).2],q)=some (p,v,q'):=hm;simp only[aV,bw]at hm;obtain⟨rfl,rfl,rfl⟩:=hm;exact(alX hB S).mono (by rintro y w1 ⟨rfl,h⟩;exact⟨B,rfl,hB,S.quiet h⟩)
 |_::_::_,_,hm=>cases hm
def SH:QG:=⟨216,0,λargs most q=>match args with
 |[.agg al]=>(match KI al with|some a=>some (most<=3/\(∀e∈q,e.source=a.source\/¬e.bC=a.bC),.int .i64 (Sd.Q.push most q a).2,(Sd.Q.push most q a).1)|none=>none)
 |_=>none⟩
theorem amW:SH.Ok:=by
 intro args k q p v q' hv hm hp B hB bs ms w0 w S
 match args,hv,hm with
 |a::l,hv,hm=>
  have ha:a=.raw (vq k):=by simpa[SH]using hv
  subst ha;replace hm:(match(generalizing:=false) l with
   |[.agg al]=>(match KI al with|some a=>some (k.most<=3/\(∀e∈q,e.source=a.source\/¬e.bC=a.bC),V.int .i64 (Sd.Q.push k.most q a).2,(Sd.Q.push k.most q a).1)|none=>none)
   |_=>none)=some (p,v,q'):=hm
  split at hm
  ·split at hm
   ·rename_i a ha;obtain rfl:=aky ha;simp only[aV,bw]at hm;obtain⟨rfl,rfl,rfl⟩:=hm;exact alV a hB hp.1 hp.2 S
   ·cases hm
  ·cases hm
theorem amX (t:Sd.Tok) (q:List Sd.Ask):Sd.fg t q=if(jU q).2≠0 then(t,(jU q).2,q)else if(t.cY (jU q).1.source).2≠0 then(t,(t.cY (jU q).1.source).2,q)else((t.cY (jU q).1.source).1,0,Sd.Q.drop q (jU q).1.source):=by
 cases q with
 |nil=>rfl
 |cons a q=>rfl
def LA:List (bK QH):=G6 K_::G6 SG::qL QH QV
theorem aaM:aC prog (λ_=>none) LA:=aC.cons (Lf aaJ) (aC.cons (Lf amV) (kU (GM _)))
def one (g:QH) (q:List Sd.Ask) (X:List QH->Prop):Prop:=∀B (h:QS g.k.bq g.k.most q B),X [⟨g.k,q,B,h⟩]
def me (t:Sd.Tok) (n:Int):V:=.an [.agg (cX t),.int .i64 n]
theorem amY (g:QH) (t:Sd.Tok) (K:VK QH):bo (bP prog (λ_=>none) LA) 60 180 [.agg (cX t),.raw (vq g.k)] [] [g] (br 0 K)=
 ((vq g.k=vq g.k/\True)/\one g g.q λc=>cond ((jU g.q).2!=0) (K (me t (jU g.q).2) [] c) (b_ t.af/\cond ((t.cY (jU g.q).1.source).2!=0) (K (me t (t.cY (jU g.q).1.source).2) [] c)
   ((vq g.k=vq g.k/\True)/\one g (Sd.Q.drop g.q (jU g.q).1.source) λc=>K (me (t.cY (jU g.q).1.source).1 0) [] c))):=by kernel_rfl
def Lg:QG:=⟨180,1,λargs _ q=>match args with
 |[.agg tl]=>(match kg tl with|some t=>some (b_ t.af,me (Sd.fg t q).1 (Sd.fg t q).2.1,(Sd.fg t q).2.2)|none=>none)
 |_=>none⟩
theorem amZ:Lg.Ok:=by
 intro args k q p v q' hv hm hp B hB bs ms w0 w S
 match args,hv,hm with
 |a::b::l,hv,hm=>
  have ha:b=.raw (vq k):=by simpa[Lg]using hv
  subst ha;replace hm:(match(generalizing:=false) a::l with
   |[.agg tl]=>(match kg tl with|some t=>some (b_ t.af,me (Sd.fg t q).1 (Sd.fg t q).2.1,(Sd.fg t q).2.2)|none=>none)
   |_=>none)=some (p,v,q'):=hm
  split at hm
  ·rename_i tl heq;obtain⟨rfl,rfl⟩:=vb heq;split at hm
   ·rename_i t ht;obtain rfl:=nC ht;simp only[aV,bw]at hm;obtain⟨rfl,rfl,rfl⟩:=hm;refine aaL aaM 60 hB ?_ rfl S;rw[show bo (bP prog (λ_=>none) LA) 60 Lg.f=bo (bP prog (λ_=>none) LA) 60 180 from rfl,amY ⟨k,q,B,hB⟩,amX];refine⟨⟨rfl,trivial⟩,λB h=>aI (λh1=>?_) (λh1=>⟨hp,aI (λh2=>?_) λh2=>⟨⟨rfl,trivial⟩,λB h=>?_⟩⟩)⟩
    ·rw[if_pos (by simpa using h1)];exact⟨rfl,rfl,B,h,rfl⟩
    ·rw[if_neg (by simpa using h1),if_pos (by simpa using h2)];exact⟨rfl,rfl,B,h,rfl⟩
    ·rw[if_neg (by simpa using h1),if_neg (by simpa using h2)];exact⟨rfl,rfl,B,h,rfl⟩
   ·cases hm
  ·cases hm
def LB:List (bK QH):=G6 Lg::G6 SH::LA
theorem am0:aC prog (λ_=>none) LB:=aC.cons (Lf amZ) (aC.cons (Lf amW) aaM)
def Lh (f:fc) (args:List V) (g:QH) (K:VK QH):Prop:=bo (bP prog (λ_=>none) LB) 60 f args [] [g] (br 0 K)
theorem SI {f:Nat} {args:List V} {v:V} {k:LK} {q q':List Sd.Ask} {B:List ai} (hB:QS k.bq k.most q B) (h:Lh f args ⟨k,q,B,hB⟩ λx b c=>x=v/\b=[]/\∃B h,c=[⟨k,q',B,h⟩]) (hv:cK 0 v=true)
 {bs:List ai} {ms:List Nat} {w0 w:ae} (S:St ms w0 (B++bs) w):aS prog f (aD [] args).toArray w λy w1=>∃B',y=den [] v/\QS k.bq k.most q' B'/\St ms w0 (B'++bs) w1:=aaL am0 60 hB h hv S
theorem am1 (g:QH) (t:Sd.Tok) (f:Int) (K:VK QH):Lh 127 [.agg (cX t),.raw (vq g.k),.int .i64 f] g K=
 cond (f !=t.ay) (K (me t 20) [] [g]) (cond (decide (t.af>=65535)) (K (me t 24) [] [g]) ((vq g.k=vq g.k/\b_ t.af)/\one g (Sd.fg t g.q).2.2 λc=>K (me (Sd.fg t g.q).1 (Sd.fg t g.q).2.1) [] c)):=by kernel_rfl
theorem am2 {k:LK} {q:List Sd.Ask} {B:List ai} (hB:QS k.bq k.most q B) {t:Sd.Tok} (he:b_ t.af) (f:Int) {bs:List ai} {ms:List Nat} {w0 w:ae} (S:St ms w0 (B++bs) w):
 aS prog 127 (aD [] [.agg (cX t),.raw (vq k),.int .i64 f]).toArray w λy w1=>∃B',y=den [] (me (Sd.cZ t q f).1 (Sd.cZ t q f).2.1)/\QS k.bq k.most (Sd.cZ t q f).2.2 B'/\St ms w0 (B'++bs) w1:=by
 refine SI hB ?_ rfl S;rw[am1 ⟨k,q,B,hB⟩];unfold Sd.cZ;refine aI (λh=>?_) (λh=>aI (λh2=>?_) λh2=>⟨⟨rfl,he⟩,λB h3=>?_⟩)
 ·rw[if_pos (by simpa using h)];exact⟨rfl,rfl,B,hB,rfl⟩
 ·rw[if_neg (by simpa using h),if_pos (by simpa using h2)];exact⟨rfl,rfl,B,hB,rfl⟩
 ·rw[if_neg (by simpa using h),if_neg (by simpa using h2)];exact⟨rfl,rfl,B,h3,rfl⟩
def Li (g:QH) (t:Sd.Tok) (la:Sd.Timer) (K:VK QH):Prop:=
 let t1:Sd.Tok:={t with la:=la.step}
 (b_ la.n/\b_ la.most)/\True/\cond (!la.step.due) (K (me t1 0) [] [g]) (cond (decide (t.af>=65535)) (b_ t.af/\K (me t1.fY 6) [] [g]) ((vq g.k=vq g.k/\b_ t.af)/\one g (Sd.fg t1 g.q).2.2 λc=>
  cond ((Sd.fg t1 g.q).2.1!=0) (b_ t.af/\K (me (t1.cY 4).1 5) [] c) (K (me (Sd.fg t1 g.q).1 5) [] c)))
theorem am3 (g:QH) (p:Sd.aN) (ka:Nat->Option aO) (kn kc:Nat->Nat) (t:Sd.Tok) (th:Bool) (K:VK QH):Lh 141 [.agg [.eo p ka kn kc],.agg (cX t),.raw (vq g.k),.bool th] g K=
 cond (t.ay==4) (K (me {t with la:=.zero} 0) [] [g]) (cond th (K (me {t with la:=.zero} 0) [] [g]) (cond (t.la.most==0) (b_ (p.i 43)/\Li g t (.start (p.i 43)) K) (Li g t t.la K))):=by kernel_rfl
def s_ (t:Sd.Tok) (a n:Int):V:=.an [.agg (cX t),.int .i64 a,.int .i64 n]
def Lj (g:QH) (t:Sd.Tok) (f:Int) (K:VK QH):Prop:=b_ t.af/\cond ((t.cY f).2!=0) (K (s_ t 0 (t.cY f).2) [] [g]) ((vq g.k=vq g.k/\True)/\one g (Sd.Q.drop g.q f) λc=>K (s_ (t.cY f).1 3 0) [] c)
def SJ (g:QH) (p:Sd.aN) (t:Sd.Tok) (f:Int) (K:VK QH):Prop:=
 let a:Sd.Ask:=⟨f,Sd.placeOf p f,.start (p.i 45)⟩
 True/\b_ (p.i 45)/\(vq g.k=vq g.k/\g.k.most<=3/\∀e∈g.q,e.source=f\/¬e.bC=Sd.placeOf p f)/\one g (Sd.Q.push g.k.most g.q a).1 λc=>K (s_ t 0 (Sd.Q.push g.k.most g.q a).2) [] c
theorem am4 (g:QH) (p:Sd.aN) (ka:Nat->Option aO) (kn kc:Nat->Nat) (t:Sd.Tok) (f:Int) (nw:Bool) (K:VK QH):Lh 197 [.agg [.eo p ka kn kc],.agg (cX t),.raw (vq g.k),.int .i64 f,.bool nw] g K=
 cond t.bad (K (s_ t 0 29) [] [g]) (cond (f==t.ay) (K (s_ t 0 25) [] [g]) (cond (decide (t.af>=65535)) (K (s_ t 0 24) [] [g]) (cond (t.ay==4) (Lj g t f K)
  (cond nw (True/\cond (Sd.fw p f t.ay) (Lj g t f K) (cond nw (K (s_ t 0 26) [] [g]) (SJ g p t f K))) (cond nw (K (s_ t 0 26) [] [g]) (SJ g p t f K)))))):=by kernel_rfl
def G7 (t:Sd.Tok) (la:Sd.Timer) (q:List Sd.Ask):Sd.Tok×Int×List Sd.Ask:=
 let t1:Sd.Tok:={t with la:=la.step}
 if la.step.due=false then(t1,0,q)else if 65535<=t.af then(t1.fY,6,q)else if(Sd.fg t1 q).2.1≠0 then((t1.cY 4).1,5,(Sd.fg t1 q).2.2)else((Sd.fg t1 q).1,5,(Sd.fg t1 q).2.2)
theorem aaN {k:LK} {q:List Sd.Ask} {B:List ai} (hB:QS k.bq k.most q B) {t:Sd.Tok} (he:b_ t.af) {la:Sd.Timer} (su:b_ la.n/\b_ la.most):
 Li ⟨k,q,B,hB⟩ t la λx b c=>x=me (G7 t la q).1 (G7 t la q).2.1/\b=[]/\∃B h,c=[⟨k,(G7 t la q).2.2,B,h⟩]:=by
 unfold Li G7;refine⟨su,trivial,aI (λh=>?_) (λh=>aI (λh2=>⟨he,?_⟩) λh2=>⟨⟨rfl,he⟩,λB1 h1=>aI (λh3=>⟨he,?_⟩) λh3=>?_⟩)⟩
 ·rw[if_pos (by simpa using h)];exact⟨rfl,rfl,B,hB,rfl⟩
 ·rw[if_neg (by simpa using h),if_pos (by simpa using h2)];exact⟨rfl,rfl,B,hB,rfl⟩
 ·rw[if_neg (by simpa using h),if_neg (by simpa using h2),if_pos (by simpa using h3)];exact⟨rfl,rfl,B1,h1,rfl⟩
 ·rw[if_neg (by simpa using h),if_neg (by simpa using h2),if_neg (by simpa using h3)];exact⟨rfl,rfl,B1,h1,rfl⟩
theorem am5 {k:LK} {q:List Sd.Ask} {B:List ai} (hB:QS k.bq k.most q B) (p:Sd.aN) (ka:Nat->Option aO) (kn kc:Nat->Nat) {t:Sd.Tok} (th:Bool) (he:b_ t.af) (su:b_ t.la.n/\b_ t.la.most) (hp:1<=p.i 43/\p.i 43<=1000) {bs:List ai} {ms:List Nat} {w0 w:ae} (S:St ms w0 (B++bs) w):
 aS prog 141 (aD [] [.agg [.eo p ka kn kc],.agg (cX t),.raw (vq k),.bool th]).toArray w λy w1=>∃B',y=den [] (me (Sd.fZ p t q th).1 (Sd.fZ p t q th).2.1)/\QS k.bq k.most (Sd.fZ p t q th).2.2 B'/\St ms w0 (B'++bs) w1:=by
 refine SI hB ?_ rfl S;rw[am3 ⟨k,q,B,hB⟩];have e:Sd.fZ p t q th=if t.ay=4\/th=true then({t with la:=.zero},0,q)else G7 t (if t.la.most=0 then .start (p.i 43)else t.la) q:=rfl
 rw[e];refine aI (λh=>?_) (λh=>aI (λh2=>?_) λh2=>?_)
 ·rw[if_pos (.inl (by simpa using h))];exact⟨rfl,rfl,B,hB,rfl⟩
 ·rw[if_pos (.inr h2)];exact⟨rfl,rfl,B,hB,rfl⟩
 ·rw[if_neg (by simp at h;simp[h,h2])];refine aI (λh3=>⟨by unfold b_;omega,?_⟩) (λh3=>?_)
  ·rw[if_pos (by simpa using h3)];refine aaN hB he ?_;rw[Gm,if_neg (by omega)];exact⟨⟨by show(-9223372036854775808:Int)<=0;omega,by show(0:Int)<=9223372036854775807;omega⟩,by unfold b_;show _<=p.i 43/\p.i 43<=_;omega⟩
  ·rw[if_neg (by simpa using h3)];exact aaN hB he su
theorem aaO {k:LK} {q:List Sd.Ask} {B:List ai} (hB:QS k.bq k.most q B) {t:Sd.Tok} (he:b_ t.af) {f:Int} {R:Sd.Tok×Int×Int×List Sd.Ask} (e:R=if(t.cY f).2≠0 then(t,0,(t.cY f).2,q)else((t.cY f).1,3,0,Sd.Q.drop q f)):
 Lj ⟨k,q,B,hB⟩ t f λx b c=>x=s_ R.1 R.2.1 R.2.2.1/\b=[]/\∃B h,c=[⟨k,R.2.2.2,B,h⟩]:=by
 unfold Lj;subst e;refine⟨he,aI (λh=>?_) (λh=>⟨⟨rfl,trivial⟩,λB1 h1=>?_⟩)⟩
 ·rw[if_pos (by simpa using h)];exact⟨rfl,rfl,B,hB,rfl⟩
 ·rw[if_neg (by simpa using h)];exact⟨rfl,rfl,B1,h1,rfl⟩
theorem am6 {k:LK} {q:List Sd.Ask} {B:List ai} (hB:QS k.bq k.most q B) (p:Sd.aN) (ka:Nat->Option aO) (kn kc:Nat->Nat) {t:Sd.Tok} (f:Int) (nw:Bool) (he:b_ t.af) (hm:k.most<=3) (hr:∀e∈q,e.source=f\/¬e.bC=Sd.placeOf p f) (hp:1<=p.i 45/\p.i 45<=1000) {bs:List ai} {ms:List Nat} {w0 w:ae} (S:St ms w0 (B++bs) w):
 aS prog 197 (aD [] [.agg [.eo p ka kn kc],.agg (cX t),.raw (vq k),.int .i64 f,.bool nw]).toArray w λy w1=>∃B',y=den [] (s_ (Sd.eY p t k.most q f nw).1 (Sd.eY p t k.most q f nw).2.1 (Sd.eY p t k.most q f nw).2.2.1)/\QS k.bq k.most (Sd.eY p t k.most q f nw).2.2.2 B'/\St ms w0 (B'++bs) w1:=by
 refine SI hB ?_ rfl S;rw[am4 ⟨k,q,B,hB⟩];have hP:∀R:Sd.Tok×Int×Int×List Sd.Ask,R=(t,0,(Sd.Q.push k.most q ⟨f,Sd.bC p f,.start p.ask⟩).2,(Sd.Q.push k.most q ⟨f,Sd.bC p f,.start p.ask⟩).1)->SJ ⟨k,q,B,hB⟩ p t f λx b c=>x=s_ R.1 R.2.1 R.2.2.1/\b=[]/\∃B h,c=[⟨k,R.2.2.2,B,h⟩]:=by
  rintro R rfl;exact⟨trivial,by unfold b_;omega,⟨rfl,hm,hr⟩,λB1 h1=>⟨rfl,rfl,B1,h1,rfl⟩⟩
 unfold Sd.eY;refine aI (λh=>?_) (λh=>?_)
 ·rw[if_pos h];exact⟨rfl,rfl,B,hB,rfl⟩
 rw[if_neg (by simp[h])];refine aI (λh=>?_) (λh=>?_)
 ·rw[if_pos (by simpa using h)];exact⟨rfl,rfl,B,hB,rfl⟩
 rw[if_neg (by simpa using h)];refine aI (λh=>?_) (λh=>?_)
 ·rw[if_pos (by simpa using h)];exact⟨rfl,rfl,B,hB,rfl⟩
 rw[if_neg (by simpa using h)];refine aI (λh=>?_) (λh4=>aI (λh5=>⟨trivial,aI (λh6=>?_) λh6=>aI (λh7=>?_) λh7=>?_⟩) λh5=>aI (λh7=>?_) λh7=>?_)
 ·rw[if_pos (.inl (by simpa using h))];exact aaO hB he rfl
 ·rw[if_pos (.inr ⟨h5,h6⟩)];exact aaO hB he rfl
 ·rw[if_neg (by simp at h4;simp[h4,h6]),if_pos h7];exact⟨rfl,rfl,B,hB,rfl⟩
 ·rw[h5]at h7;cases h7
 ·rw[h5]at h7;cases h7
 ·rw[if_neg (by simp at h4;simp[h4,h5]),if_neg (by simp[h5])];exact hP _ rfl
variable{fr:Sd.aE->Nat×Sd.av}
def SL:QG:=⟨127,1,λargs _ q=>match args with
 |[.agg tl,.int .i64 f]=>(match kg tl with|some t=>some (b_ t.af,.an [.agg (cX (Sd.cZ t q f).1),.int .i64 (Sd.cZ t q f).2.1],(Sd.cZ t q f).2.2)|none=>none)
 |_=>none⟩
theorem am7:SL.Ok:=by
 intro args k q p v q' hv hm hp B hB bs ms w0 w S
 match args,hv,hm with
 |a::b::l,hv,hm=>
  have ha:b=.raw (vq k):=by simpa[SL]using hv
  subst ha;replace hm:(match(generalizing:=false) a::l with
   |[.agg tl,.int .i64 f]=>(match kg tl with|some t=>some (b_ t.af,V.an [.agg (cX (Sd.cZ t q f).1),.int .i64 (Sd.cZ t q f).2.1],(Sd.cZ t q f).2.2)|none=>none)
   |_=>none)=some (p,v,q'):=hm
  split at hm
  ·rename_i tl f heq;obtain⟨rfl,rfl⟩:=vb heq;split at hm
   ·rename_i t ht;obtain rfl:=nC ht;simp only[aV,bw]at hm;obtain⟨rfl,rfl,rfl⟩:=hm;exact am2 hB hp f S
   ·cases hm
  ·cases hm
def SN:QG:=⟨197,2,λargs most q=>match args with
 |[.agg [.eo p ka kn kc],.agg tl,.int .i64 f,.bool nw]=>(match kg tl with|some t=>some (b_ t.af/\most<=3/\(∀e∈q,e.source=f\/¬e.bC=Sd.placeOf p f)/\(1<=p.i 45/\p.i 45<=1000),.an [.agg (cX (Sd.eY p t most q f nw).1),.int .i64 (Sd.eY p t most q f nw).2.1,.int .i64 (Sd.eY p t most q f nw).2.2.1],(Sd.eY p t most q f nw).2.2.2)|none=>none)
 |_=>none⟩
theorem am8:SN.Ok:=by
 intro args k q p v q' hv hm hp B hB bs ms w0 w S
 match args,hv,hm with
 |a::b::c::l,hv,hm=>
  have ha:c=.raw (vq k):=by simpa[SN]using hv
  subst ha;replace hm:(match(generalizing:=false) a::b::l with
   |[.agg [.eo p ka kn kc],.agg tl,.int .i64 f,.bool nw]=>(match kg tl with|some t=>some (b_ t.af/\k.most<=3/\(∀e∈q,e.source=f\/¬e.bC=Sd.placeOf p f)/\(1<=p.i 45/\p.i 45<=1000),V.an [.agg (cX (Sd.eY p t k.most q f nw).1),.int .i64 (Sd.eY p t k.most q f nw).2.1,.int .i64 (Sd.eY p t k.most q f nw).2.2.1],(Sd.eY p t k.most q f nw).2.2.2)|none=>none)
   |_=>none)=some (p,v,q'):=hm
  split at hm
  ·rename_i p' ka kn kc tl f nw heq;obtain⟨rfl,h2⟩:=vb heq;obtain⟨rfl,rfl⟩:=vb h2;split at hm
   ·rename_i t ht;obtain rfl:=nC ht;simp only[aV,bw]at hm;obtain⟨rfl,rfl,rfl⟩:=hm;exact am6 hB p' ka kn kc f nw hp.1 hp.2.1 hp.2.2.1 hp.2.2.2 S
   ·cases hm
  ·cases hm
def cT (s:Sd.aa) (q:List Sd.Ask):Sd.aa:={s with c:={s.c with q:=q}}
def L4 (fr:Sd.aE->Nat×Sd.av) (C:Sd.aL):List (bK (Gh fr)):=⟨91,false,gF (G5 C)⟩::⟨127,false,Bo SL⟩::⟨197,false,Bo SN⟩::L3 fr C
theorem Bt (tk:Nat->Sd.av->Option Sd.aY) (ht:Body (fr:=fr) 147 dI):aC prog gS (L4 fr (aJ tk)):=
 aC.cons (iC (amT tk ht)) (aC.cons (K9 am7) (aC.cons (K9 am8) (aaK tk ht)))
section
variable(C:Sd.aL) (k:LK) (s:Sd.aa) (F:aW fr (aR k s)) (Kb:SK fr k)
theorem am9 (l:Int) (m:Sd.aY):bo (bP prog gS (L4 fr C)) 60 152 [.ptr 2 0,.int .i64 l,.agg (cI m)] (bz k s F) [a_ k s F] (cx k s Kb)
 =(cv k s F/\mM [.int .i64 l,.int .i64 m.seq] k (bQ s) F λv s' F'=>cx k s Kb (.an []) (bz k s' F'++[⟨true,⟨66,(0,0)⟩,cI m⟩]) [a_ k s' F']):=by kernel_rfl
theorem am_ (l:Int) (m:Sd.aY):bo (bP prog gS (L4 fr C)) 60 156 [.ptr 2 0,.int .i64 l,.agg (cI m)] (bz k s F) [a_ k s F] (cx k s Kb)
 =(b_ s.c.t.af/\cond ((s.c.t.accept l m.af).2!=0) (cv k s F/\lJ C [.int .i64 l,.int .i64 m.seq,.int .i64 (s.c.t.accept l m.af).2] k (bQ s) F λv s' F'=>cx k s Kb (.an []) (bz k s' F'++[⟨true,⟨66,(0,0)⟩,cI m⟩,⟨true,⟨95,(0,0)⟩,cX (s.c.t.accept l m.af).1⟩]) [a_ k s' F'])
  (cv k s F/\qf C [.agg (cX (s.c.t.accept l m.af).1),.int .i64 1,.int .i64 m.seq] k (bQ s) F λv s2 F2=>cv k s2 F2/\mM [.int .i64 l,.int .i64 m.seq] k (bQ s2) F2 λv s' F'=>cx k s Kb (.an []) (bz k s' F'++[⟨true,⟨66,(0,0)⟩,cI m⟩,⟨true,⟨95,(0,0)⟩,cX (s.c.t.accept l m.af).1⟩]) [a_ k s' F'])):=by kernel_rfl
theorem ana (l:Int) (m:Sd.aY):bo (bP prog gS (L4 fr C)) 60 157 [.ptr 2 0,.int .i64 l,.agg (cI m)] (bz k s F) [a_ k s F] (cx k s Kb)
 =(True/\cond ((s.c.t.fy l).2!=0) (cv k s F/\lJ C [.int .i64 l,.int .i64 m.seq,.int .i64 (s.c.t.fy l).2] k (bQ s) F λv s' F'=>cx k s Kb (.an []) (bz k s' F'++[⟨true,⟨66,(0,0)⟩,cI m⟩,⟨true,⟨95,(0,0)⟩,cX (s.c.t.fy l).1⟩]) [a_ k s' F'])
  (cv k (iD s (s.c.t.fy l).1) F/\wO [.int .i64 (s.c.t.fy l).1.ay,.int .i64 l,.int .i64 0] k (bQ (iD s (s.c.t.fy l).1)) F λv s2 F2=>cv k s2 F2/\jn C [.int .i64 11,.int .i64 l,.int .i64 m.seq,.int .i64 0,.int .i64 0] k (bQ s2) F2 λv s3 F3=>
   cv k s3 F3/\mM [.int .i64 l,.int .i64 m.seq] k (bQ s3) F3 λv s' F'=>cx k s Kb (.an []) (bz k s' F'++[⟨true,⟨66,(0,0)⟩,cI m⟩,⟨true,⟨95,(0,0)⟩,cX (s.c.t.fy l).1⟩]) [a_ k s' F'])):=by kernel_rfl
theorem anb (l:Int) (m:Sd.aY):bo (bP prog gS (L4 fr C)) 60 155 [.ptr 2 0,.int .i64 l,.agg (cI m)] (bz k s F) [a_ k s F] (cx k s Kb)
 =(True/\Sd.eO s.c.p/\cond ((Sd.Tok.make s.c.p s.c.t l m.aU ((eB s.c.ag).on m.aU)).2!=0) (cv k s F/\lJ C [.int .i64 l,.int .i64 m.seq,.int .i64 (Sd.Tok.make s.c.p s.c.t l m.aU ((eB s.c.ag).on m.aU)).2] k (bQ s) F λv s' F'=>cx k s Kb (.an []) (bz k s' F'++[⟨true,⟨66,(0,0)⟩,cI m⟩,⟨true,⟨95,(0,0)⟩,cX (Sd.Tok.make s.c.p s.c.t l m.aU ((eB s.c.ag).on m.aU)).1⟩]) [a_ k s' F'])
  (cv k (iD s (Sd.Tok.make s.c.p s.c.t l m.aU ((eB s.c.ag).on m.aU)).1) F/\uE [.int .i64 m.aU,.agg (lI 135 0 0 l (Sd.Tok.make s.c.p s.c.t l m.aU ((eB s.c.ag).on m.aU)).1.af 0)] k (bQ (iD s (Sd.Tok.make s.c.p s.c.t l m.aU ((eB s.c.ag).on m.aU)).1)) F λv s2 F2=>
   cv k s2 F2/\jn C [.int .i64 9,.int .i64 l,.int .i64 m.seq,.int .i64 0,.int .i64 m.aU] k (bQ s2) F2 λv s3 F3=>
   cv k s3 F3/\mM [.int .i64 l,.int .i64 m.seq] k (bQ s3) F3 λv s' F'=>cx k s Kb (.an []) (bz k s' F'++[⟨true,⟨66,(0,0)⟩,cI m⟩,⟨true,⟨95,(0,0)⟩,cX (Sd.Tok.make s.c.p s.c.t l m.aU ((eB s.c.ag).on m.aU)).1⟩]) [a_ k s' F'])):=by kernel_rfl
theorem anc (l:Int) (m:Sd.aY):bo (bP prog gS (L4 fr C)) 60 158 [.ptr 2 0,.int .i64 l,.agg (cI m)] (bz k s F) [a_ k s F] (cx k s Kb)
 =((vq k=vq k/\b_ s.c.t.af)/\∀B (hB:QS k.bq k.most (Sd.cZ s.c.t s.c.q l).2.2 B),
  cond ((Sd.cZ s.c.t s.c.q l).2.1!=0) (cv k (cT s (Sd.cZ s.c.t s.c.q l).2.2) (F.cT (Sd.cZ s.c.t s.c.q l).2.2 B hB)/\lJ C [.int .i64 l,.int .i64 m.seq,.int .i64 (Sd.cZ s.c.t s.c.q l).2.1] k (bQ (cT s (Sd.cZ s.c.t s.c.q l).2.2)) (F.cT (Sd.cZ s.c.t s.c.q l).2.2 B hB) λv s' F'=>cx k s Kb (.an []) (bz k s' F'++[⟨true,⟨66,(0,0)⟩,cI m⟩,⟨true,⟨95,(0,0)⟩,cX (Sd.cZ s.c.t s.c.q l).1⟩]) [a_ k s' F'])
  (cv k (cT s (Sd.cZ s.c.t s.c.q l).2.2) (F.cT (Sd.cZ s.c.t s.c.q l).2.2 B hB)/\qf C [.agg (cX (Sd.cZ s.c.t s.c.q l).1),.int .i64 2,.int .i64 m.seq] k (bQ (cT s (Sd.cZ s.c.t s.c.q l).2.2)) (F.cT (Sd.cZ s.c.t s.c.q l).2.2 B hB) λv s2 F2=>cv k s2 F2/\mM [.int .i64 l,.int .i64 m.seq] k (bQ s2) F2 λv s' F'=>cx k s Kb (.an []) (bz k s' F'++[⟨true,⟨66,(0,0)⟩,cI m⟩,⟨true,⟨95,(0,0)⟩,cX (Sd.cZ s.c.t s.c.q l).1⟩]) [a_ k s' F'])):=by kernel_rfl
abbrev gG (s:Sd.aa) (k:LK) (l:Int) (m:Sd.aY):Sd.Tok×Int×Int×List Sd.Ask:=Sd.eY s.c.p s.c.t k.most s.c.q l m.now
theorem ane (l:Int) (m:Sd.aY):bo (bP prog gS (L4 fr C)) 60 154 [.ptr 2 0,.int .i64 l,.agg (cI m)] (bz k s F) [a_ k s F] (cx k s Kb)
 =((vq k=vq k/\(b_ s.c.t.af/\k.most<=3/\(∀e∈s.c.q,e.source=l\/¬e.bC=Sd.placeOf s.c.p l)/\(1<=s.c.p.i 45/\s.c.p.i 45<=1000)))/\∀B (hB:QS k.bq k.most (gG s k l m).2.2.2 B),
  cond ((gG s k l m).2.2.1!=0) (cv k (cT s (gG s k l m).2.2.2) (F.cT (gG s k l m).2.2.2 B hB)/\lJ C [.int .i64 l,.int .i64 m.seq,.int .i64 (gG s k l m).2.2.1] k (bQ (cT s (gG s k l m).2.2.2)) (F.cT (gG s k l m).2.2.2 B hB) λv s' F'=>cx k s Kb (.an []) (bz k s' F'++[⟨true,⟨66,(0,0)⟩,cI m⟩,⟨true,⟨95,(0,0)⟩,cX (gG s k l m).1⟩]) [a_ k s' F'])
  (cond (decide ((gG s k l m).2.1>0)) (cv k (cT s (gG s k l m).2.2.2) (F.cT (gG s k l m).2.2.2 B hB)/\qf C [.agg (cX (gG s k l m).1),.int .i64 (gG s k l m).2.1,.int .i64 m.seq] k (bQ (cT s (gG s k l m).2.2.2)) (F.cT (gG s k l m).2.2.2 B hB) λv s2 F2=>cv k s2 F2/\mM [.int .i64 l,.int .i64 m.seq] k (bQ s2) F2 λv s' F'=>cx k s Kb (.an []) (bz k s' F'++[⟨true,⟨66,(0,0)⟩,cI m⟩,⟨true,⟨95,(0,0)⟩,cX (gG s k l m).1⟩]) [a_ k s' F'])
  (cv k (iD (cT s (gG s k l m).2.2.2) (gG s k l m).1) (F.cT (gG s k l m).2.2.2 B hB)/\jn C [.int .i64 10,.int .i64 l,.int .i64 m.seq,.int .i64 0,.int .i64 0] k (bQ (iD (cT s (gG s k l m).2.2.2) (gG s k l m).1)) (F.cT (gG s k l m).2.2.2 B hB) λv s2 F2=>cv k s2 F2/\mM [.int .i64 l,.int .i64 m.seq] k (bQ s2) F2 λv s' F'=>cx k s Kb (.an []) (bz k s' F'++[⟨true,⟨66,(0,0)⟩,cI m⟩,⟨true,⟨95,(0,0)⟩,cX (gG s k l m).1⟩]) [a_ k s' F']))):=by kernel_rfl
end
structure TB (t:Sd.Tok):Prop where
 h:N4 t.ay
 e:uC t.af
theorem Bu {t:Sd.Tok} (h:TB t) (o:Int):TB (t.cY o).1/\N8 (t.cY o).2:=by
 obtain⟨⟨h1,h2⟩,h3,h4⟩:=h;unfold Sd.Tok.cY;split
 ·exact⟨⟨⟨h1,h2⟩,h3,h4⟩,by simp[N8]⟩
 ·split
  ·exact⟨⟨⟨h1,h2⟩,h3,h4⟩,by simp[N8]⟩
  ·split
   ·exact⟨⟨⟨h1,h2⟩,h3,h4⟩,by simp[N8]⟩
   ·exact⟨⟨⟨by simp only[Sd.Tok.pass];omega,by simp only[Sd.Tok.pass];omega⟩,by simp only[Sd.Tok.pass];omega,by simp only[Sd.Tok.pass];omega⟩,by simp[N8]⟩
theorem anf {t:Sd.Tok} (h:TB t) (l e:Int):TB (t.accept l e).1/\N8 (t.accept l e).2:=by
 unfold Sd.Tok.accept;split
 ·exact⟨h,by simp[N8]⟩
 ·split
  ·exact⟨h,by simp[N8]⟩
  ·exact Bu h l
theorem ang {t:Sd.Tok} (h:TB t) (l:Int):TB (t.fy l).1/\N8 (t.fy l).2:=by
 unfold Sd.Tok.fy;split
 ·exact⟨h,by simp[N8]⟩
 ·exact⟨⟨h.h,h.e⟩,by simp[N8]⟩
theorem anh {t:Sd.Tok} (h:TB t) (p:Sd.aN) (l o:Int) (b:Bool):TB (Sd.Tok.make p t l o b).1/\N8 (Sd.Tok.make p t l o b).2:=by
 unfold Sd.Tok.make
 repeat' split
 all_goals first|exact⟨h,by simp[N8]⟩|exact⟨⟨h.h,h.e⟩,by simp[N8]⟩
theorem aaP {t:Sd.Tok} (h:TB t) (q:List Sd.Ask):TB (Sd.fg t q).1/\N8 (Sd.fg t q).2.1:=by
 unfold Sd.fg;split
 ·exact⟨h,by simp[N8]⟩
 ·split
  ·exact⟨h,(Bu h _).2⟩
  ·exact⟨(Bu h _).1,by simp[N8]⟩
theorem aaQ {t:Sd.Tok} (h:TB t) (q:List Sd.Ask) (l:Int):TB (Sd.cZ t q l).1/\N8 (Sd.cZ t q l).2.1:=by
 unfold Sd.cZ;split
 ·exact⟨h,by simp[N8]⟩
 ·split
  ·exact⟨h,by simp[N8]⟩
  ·exact aaP h q
theorem aaR {t:Sd.Tok} {q:List Sd.Ask} {l:Int} (h:(Sd.cZ t q l).2.1≠0):(Sd.cZ t q l).2.2=q:=by
 unfold Sd.cZ at h⊢;split
 ·rfl
 ·split
  ·rfl
  ·rename_i h1 h2;rw[if_neg h1,if_neg h2]at h;unfold Sd.fg at h⊢;split
   ·rfl
   ·split
    ·rfl
    ·rename_i a q' h3;simp only[if_neg h3,ne_eq,not_true_eq_false]at h
theorem ani (most:Int) (q:List Sd.Ask) (a:Sd.Ask):N8 (Sd.Q.push most q a).2:=by
 unfold Sd.Q.push
 repeat' split
 all_goals simp[N8]
theorem anj {most:Int} {q:List Sd.Ask} {a:Sd.Ask} (h:(Sd.Q.push most q a).2≠0):(Sd.Q.push most q a).1=q:=by
 unfold Sd.Q.push at h⊢;split
 ·rfl
 ·split
  ·rfl
  ·rename_i h1 h2;simp[if_neg h1,if_neg h2]at h
theorem ank {p:Sd.aN} {t:Sd.Tok} (h:TB t) (most:Int) (q:List Sd.Ask) (f:Int) (nw:Bool):TB (Sd.eY p t most q f nw).1/\N8 (Sd.eY p t most q f nw).2.2.1:=by
 unfold Sd.eY
 repeat' split
 all_goals first|exact⟨h,(Bu h _).2⟩|exact⟨h,ani _ _ _⟩|exact⟨(Bu h _).1,show N8 0 from z8⟩|exact⟨h,show 0<=_/\_<=255 by simp⟩
theorem anl {p:Sd.aN} {t:Sd.Tok} {most:Int} {q:List Sd.Ask} {f:Int} {nw:Bool} (h:(Sd.eY p t most q f nw).2.2.1≠0):(Sd.eY p t most q f nw).2.2.2=q:=by
 unfold Sd.eY at h⊢
 repeat' split
 all_goals first|rfl|skip
 ·rename_i h1 h2 h3 h4 h5;simp only[if_neg h1,if_neg h2,if_neg h3,if_pos h4,if_neg h5,ne_eq,not_true_eq_false]at h
 ·rename_i h1 h2 h3 h4 h5;simp only[if_neg h1,if_neg h2,if_neg h3,if_neg h4,if_neg h5]at h;exact anj h
theorem tb {c:Sd.Core} (h:Sd.Inv c):TB c.t:=⟨⟨h.tok.ay.1,by have:=h.tok.ay.2;omega⟩,by have:=h.tok.af.1;have:=h.p.af.1;omega,h.tok.af.2⟩
theorem TB.b {t:Sd.Tok} (h:TB t):b_ t.af:=⟨by have:=h.e.1;omega,by have:=h.e.2;omega⟩
theorem nK (C:Sd.aL) (s:Sd.aa) (t:Sd.Tok) (h n:Int):(s.goes C t h n).c.p=s.c.p:=by
 show(Sd.aa.dH _ _ _).c.p=_;rw[k8,k8]
theorem Rm.goes {C:Sd.aL} {s:Sd.aa} {t:Sd.Tok} {h n:Int} {m:Nat} (hh:Rm s (m+3)):Rm (s.goes C t h n) m:=by
 have h1:Rm ({s with c:={s.c with t:=t,q:=Sd.Q.drop s.c.q t.ay}}:Sd.aa) (m+3):=hh;exact(Rm.dH (Rm.dH h1)).rec
theorem qg {n:Int} (h:(n !=0)=true):n≠0:=by simpa using h
theorem ta {n:Int} (h:(n !=0)=false):¬n≠0:=by simpa using h
structure Sy (s:Sd.aa) (l:Int) (m:Sd.aY):Prop where
 r:Rm s 8
 i:Sd.Inv s.c
 n:uD m.seq
 l1:1<=l
 l3:l<=3
def iV (act:Sd.aa->Int->Sd.aY->Sd.aa):SM fr:=λar k s F K=>match ar with
 |[.int .i64 l,.agg ml]=>(match yM ml with
  |some m=>Sy s l m/\∀F',K (.an []) (act s l m) F'
  |none=>False)
 |_=>False
theorem Bv {tk:Nat->Sd.av->Option Sd.aY} {act:Sd.aa->Int->Sd.aY->Sd.aa} {f n:Nat} {L:List (bK (Gh fr))} (hL:aC prog gS L)
 (h:∀(l:Int) (m:Sd.aY) (k:LK) (s:Sd.aa) (F:aW fr (aR k s)) (Kb:SK fr k),s.c.p.queue=k.most->Sy s l m->(∀F',Kb (.an []) (act s l m) F')->bo (bP prog gS L) n f [.ptr 2 0,.int .i64 l,.agg (cI m)] (bz k s F) [a_ k s F] (cx k s Kb)):Body f (iV (fr:=fr) act):=by
 refine lH (n:=n) hL ?_;intro ar k s F Kb h0 hq hM;unfold iV at hM;split at hM
 ·rename_i l ml;split at hM
  ·rename_i m hm;obtain rfl:=Dv hm;exact h l m k s F Kb hq hM.1 hM.2
  ·exact hM.elim
 ·exact hM.elim
theorem Lk {s:Sd.aa} {q:List Sd.Ask} (h:q=s.c.q):cT s q=s:=by subst h;rfl
theorem SO (C:Sd.aL) (s:Sd.aa) (l:Int) (m:Sd.aY) (R:Sd.Tok×Int×Int×List Sd.Ask) (h:R=Sd.eY s.c.p s.c.t s.c.p.queue s.c.q l m.now):
 s.ask C l m=if R.2.2.1≠0 then s.refuse C l m.seq R.2.2.1 else(if 0<R.2.1 then(cT s R.2.2.2).goes C R.1 R.2.1 m.seq else(iD (cT s R.2.2.2) R.1).record C 10 l m.seq 0 0).done l m.seq:=by subst h;rfl
section
variable(tk:Nat->Sd.av->Option Sd.aY) (ht:Body (fr:=fr) 147 dI)
include tk ht
theorem anm:Body (fr:=fr) 152 (iV λs l m=>s.done l m.seq):=by
 refine Bv (tk:=tk) (n:=60) (Bt tk ht) ?_;intro l m k s F Kb hq hS hK;rw[am9];exact⟨cy hq,uF ⟨hS.r.le (by decide),hS.n⟩ λF1=>ee rfl hK F1⟩
theorem ann:Body (fr:=fr) 156 (iV λs l m=>s.accept (aJ tk) l m):=by
 refine Bv (tk:=tk) (n:=60) (Bt tk ht) ?_;intro l m k s F Kb hq hS hK;have hb:=anf (tb hS.i) l m.af;rw[am_];refine⟨(tb hS.i).b,aI (λe=>⟨cy hq,yY ⟨hS.r.le (by decide),hS.n,hb.2⟩ λF1=>ee (if_pos (qg e)).symm hK F1⟩) (λe=>⟨cy hq,Bp ⟨hS.r.le (by decide),hb.1.h,hb.1.e⟩ λF2=>⟨cy ?_,uF ⟨hS.r.goes.le (by decide),hS.n⟩ λF3=>ee (if_neg (ta e)).symm hK F3 (hp:=nK _ _ _ _ _)⟩⟩)⟩;rw[nK];exact hq
theorem ano:Body (fr:=fr) 157 (iV λs l m=>s.fy (aJ tk) l m):=by
 refine Bv (tk:=tk) (n:=60) (Bt tk ht) ?_;intro l m k s F Kb hq hS hK;have hb:=ang (tb hS.i) l;have h1:Rm (iD s (s.c.t.fy l).1) 8:=hS.r;rw[ana];refine⟨trivial,aI (λe=>⟨cy hq,yY ⟨hS.r.le (by decide),hS.n,hb.2⟩ λF1=>ee (if_pos (qg e)).symm hK F1⟩) (λe=>⟨cy hq,SD ⟨h1.le (by decide),⟨by have:=hS.l1;omega,by have:=hS.l3;omega⟩,z8⟩ λF2=>⟨cy ?_,nJ h1.gone.r1 λF3=>⟨cy ?_,uF ⟨(h1.gone.rec).le (by decide),hS.n⟩ λF4=>ee (if_neg (ta e)).symm hK F4 (hp:=?_)⟩⟩⟩)⟩
 ·rw[pV];exact hq
 ·show(Sd.aa.gone _ _ _ _).c.p.queue=_;rw[pV];exact hq
 ·show(Sd.aa.gone _ _ _ _).c.p=_;rw[pV];rfl
theorem anp:Body (fr:=fr) 155 (iV λs l m=>s.offer (aJ tk) l m):=by
 refine Bv (tk:=tk) (n:=60) (Bt tk ht) ?_;intro l m k s F Kb hq hS hK;have hb:=anh (tb hS.i) s.c.p l m.aU (s.c.ag.on m.aU);have h1:Rm (iD s (Sd.Tok.make s.c.p s.c.t l m.aU (s.c.ag.on m.aU)).1) 8:=hS.r;rw[anb,G2];refine⟨trivial,hS.i.p,aI (λe=>⟨cy hq,yY ⟨hS.r.le (by decide),hS.n,hb.2⟩ λF1=>ee (if_pos (qg e)).symm hK F1⟩) (λe=>⟨cy hq,Ld ⟨h1.le (by decide),rb (by decide) wP ⟨by have:=hS.l1;omega,by have:=hS.l3;omega⟩ hb.1.e z8⟩ λF2=>⟨cy ?_,nJ h1.dH.r1 λF3=>⟨cy ?_,uF ⟨(h1.dH.rec).le (by decide),hS.n⟩ λF4=>ee (if_neg (ta e)).symm hK F4 (hp:=?_)⟩⟩⟩)⟩
 ·rw[k8];exact hq
 ·show(Sd.aa.dH _ _ _).c.p.queue=_;rw[k8];exact hq
 ·show(Sd.aa.dH _ _ _).c.p=_;rw[k8];rfl
theorem anq:Body (fr:=fr) 158 (iV λs l m=>s.release (aJ tk) l m):=by
 refine Bv (tk:=tk) (n:=60) (Bt tk ht) ?_;intro l m k s F Kb hq hS hK;have hb:=aaQ (tb hS.i) s.c.q l;have h1:Rm (cT s (Sd.cZ s.c.t s.c.q l).2.2) 8:=hS.r;rw[anc];refine⟨⟨rfl,(tb hS.i).b⟩,λB hB=>aI (λe=>⟨cy hq,yY ⟨h1.le (by decide),hS.n,hb.2⟩ λF1=>ee ?_ hK F1⟩) (λe=>⟨cy hq,Bp ⟨h1.le (by decide),hb.1.h,hb.1.e⟩ λF2=>⟨cy ?_,uF ⟨h1.goes.le (by decide),hS.n⟩ λF3=>ee (if_neg (ta e)).symm hK F3 (hp:=nK _ _ _ _ _)⟩⟩)⟩
 ·rw[Lk (aaR (qg e))];exact(if_pos (qg e)).symm
 ·rw[nK];exact hq
theorem anr:Body (fr:=fr) 154 (iV λs l m=>s.ask (aJ tk) l m):=by
 refine Bv (tk:=tk) (n:=60) (Bt tk ht) ?_;intro l m k s F Kb hq hS hK;have hb:=ank (p:=s.c.p) (tb hS.i) k.most s.c.q l m.now;have h1:Rm (cT s (gG s k l m).2.2.2) 8:=hS.r;have h2:Rm (iD (cT s (gG s k l m).2.2.2) (gG s k l m).1) 8:=hS.r;have SP:gG s k l m=Sd.eY s.c.p s.c.t s.c.p.queue s.c.q l m.now:=by rw[gG,hq]
 rw[ane];refine⟨⟨rfl,(tb hS.i).b,by rw[<-hq];exact hS.i.p.queue.2,?_,hS.i.p.ask⟩,λB hB=>aI (λe=>⟨cy hq,yY ⟨h1.le (by decide),hS.n,hb.2⟩ λF1=>ee ?_ hK F1⟩) (λe=>aI (λe2=>⟨cy hq,Bp ⟨h1.le (by decide),hb.1.h,hb.1.e⟩ λF2=>⟨cy ?_,uF ⟨h1.goes.le (by decide),hS.n⟩ λF3=>ee ?_ hK F3 (hp:=nK _ _ _ _ _)⟩⟩)
  (λe2=>⟨cy hq,nJ h2.r1 λF2=>⟨cy hq,uF ⟨h2.rec.le (by decide),hS.n⟩ λF3=>ee ?_ hK F3⟩⟩))⟩
 ·intro a ha;by_cases hs:a.source=l
  ·exact .inl hs
  ·refine .inr λhr=>hs ?_;have h:=hS.i.q.each a ha;have h1:=hS.l1;have h3:=hS.l3;exact Sd.WV hS.i.p ⟨by omega,by omega⟩ ⟨by omega,by omega⟩ (by rw[<-hr,h.1];rfl)
 ·rw[Lk (anl (qg e)),SO _ _ _ _ _ SP];exact(if_pos (qg e)).symm
 ·rw[nK];exact hq
 ·have e3:0<(gG s k l m).2.1:=by simpa using e2
  rw[SO _ _ _ _ _ SP,if_neg (ta e),if_pos e3]
 ·have e3:¬0<(gG s k l m).2.1:=by simpa using e2
  rw[SO _ _ _ _ _ SP,if_neg (ta e),if_neg e3]
end
structure QT where
 f:Nat
 m:List V->TC->Option (Prop×V×Sd.aA)
def Bw (t:Sd.aA) (b m:Int):TC:=⟨t.c9.1,t.c9.2.n,t.c9.2.most,t.aj 0,t.aj 1,t.aj 2,b,m⟩
def DG (x:QT):c_ (Gh fr):=λargs bl ch K=>match args with
 |.ptr it 0::ar=>(match bl[it]?with
  |some ⟨true,⟨157,(0,0)⟩,tc⟩=>(match s7 tc with
   |some y=>(match x.m ar y with
    |some (p,v,t)=>cond (bj 0 ar&&cK 0 v) (p/\K v (bl.set it ⟨true,⟨157,(0,0)⟩,db (Bw t y.b y.m)⟩) ch) False
    |none=>False)
   |none=>False)
  |_=>False)
 |_=>False
def QT.Ok (x:QT):Prop:=∀(ar:List V) (y:TC) (p:Prop) (v:V) (t:Sd.aA),x.m ar y=some (p,v,t)->p->∀(bt:Nat) (bs:List ai) (ms:List Nat) (w0 w:ae),St ms w0 ([⟨bt,true,.cells (jl (bS y).c9 (bS y).aj y.b y.m) 157 (0,0)⟩]++bs) w->
 aS prog x.f (aD [bt] (.ptr 0 0::ar)).toArray w λu w1=>u=den [] v/\St ms w0 ([⟨bt,true,.cells (jl t.c9 t.aj y.b y.m) 157 (0,0)⟩]++bs) w1
theorem aaS {bl:List VB} {ids:List Nat} (h:ids.length=bl.length) {i:Nat} (hi:i<bl.length):
 ∃r:List Nat,(∀j∈r,j≠i)/\∀bl':List VB,bl'.length=bl.length->(lits ids ids bl').Perm (az ids (ids.getD i 0) (bl'.getD i di)::r.map λj=>az ids (ids.getD j 0) (bl'.getD j di)):=by
 obtain⟨r,h1,h2⟩:=yW h (is:=[i]) (by simp) (by simp[hi]);exact⟨r,λj hj=>by simpa using h1 j hj,λbl' hl=>by simpa using h2 bl' hl⟩
theorem ans {x:QT} (h:x.Ok) (gl:Nat->Option Nat):Sound prog gl x.f (DG (fr:=fr) x):=by
 intro args ids bl ch R ms w0 w K hg hl S hc;unfold DG at hc;split at hc
 ·rename_i it ar;split at hc
  ·rename_i tc hb;split at hc
   ·rename_i y hy;split at hc
    ·rename_i p v t hm;cases hq:bj 0 ar&&cK 0 v with
     |false=>rw[hq]at hc;exact hc.elim
     |true=>
      rw[hq]at hc;simp only[bg]at hq;obtain⟨hp,hK⟩:=hc;obtain rfl:=yV hy;have hi:=iU hb;obtain⟨r,hr,gM⟩:=aaS hl hi;have a1:aD ids (.ptr it 0::ar)=aD [ids.getD it 0] (.ptr 0 0::ar):=by
       have b1:aD ids ar=aD [] ar:=by have:=nk (ids:=[]) (more:=ids) ar hq.1;simpa using this
       have b2:aD [ids.getD it 0] ar=aD [] ar:=by have:=nk (ids:=[]) (more:=[ids.getD it 0]) ar hq.1;simpa using this
       simp only[aD,den,b1,b2];rfl
      have e1:az ids (ids.getD it 0) (bl.getD it di)=⟨ids.getD it 0,true,.cells (jl (bS y).c9 (bS y).aj y.b y.m) 157 (0,0)⟩:=by rw[jm hb];kernel_rfl
      have p1:=gM bl rfl;rw[e1]at p1;have S1:=S.perm (p1.append_right _);rw[a1];refine(h ar y p v t hm hp _ _ ms w0 w S1).mono ?_;rintro u w1 ⟨rfl,S2⟩;refine⟨v,[],_,ch,?_,by simp[hl],?_,hK⟩
      ·have:=fI (ids:=[]) (more:=ids++[]) v hq.2;simpa using this.symm
      ·simp only[cQ];refine S2.perm ?_;have p2:=gM (bl.set it ⟨true,⟨157,(0,0)⟩,db (Bw t y.b y.m)⟩) (by simp);have e2:az ids (ids.getD it 0) ((bl.set it ⟨true,⟨157,(0,0)⟩,db (Bw t y.b y.m)⟩).getD it di)=⟨ids.getD it 0,true,.cells (jl t.c9 t.aj y.b y.m) 157 (0,0)⟩:=by rw[jm (Be hi)];kernel_rfl
       have e3:(r.map λj=>az ids (ids.getD j 0) ((bl.set it ⟨true,⟨157,(0,0)⟩,db (Bw t y.b y.m)⟩).getD j di))=r.map λj=>az ids (ids.getD j 0) (bl.getD j di):=by
        apply qD;intro j hj;simp only[ij];rw[kH (Ne.symm (hr j hj))]
       rw[e2,e3]at p2;exact p2.symm.append_right _
    ·exact hc.elim
   ·exact hc.elim
  ·exact hc.elim
 ·exact hc.elim
theorem SQ {x:QT} (h:x.Ok):ud (G:=Gh fr) prog gS ⟨x.f,false,DG x⟩:=⟨ans h gS,λe=>by cases e⟩
def aaT:QT:=⟨196,λar y=>match ar with
 |[.int .i64 s]=>some (True,.bool ((bS y).de s),(bS y).end_ s)
 |_=>none⟩
theorem ant:aaT.Ok:=by
 intro ar y p v t hm hp bt bs ms w0 w S;replace hm:(match(generalizing:=false) ar with
  |[.int .i64 s]=>some (True,V.bool ((bS y).de s),(bS y).end_ s)
  |_=>none)=some (p,v,t):=hm
 split at hm
 ·simp only[aV,bw]at hm;obtain⟨rfl,rfl,rfl⟩:=hm;exact ams y _ S
 ·cases hm
def aaU:QT:=⟨79,λar y=>match ar with
 |[]=>some (0<=y.b/\y.b<=1000,.an [],{bS y with c9:=(true,.start y.b)})
 |_=>none⟩
theorem anu:aaU.Ok:=by
 intro ar y p v t hm hp bt bs ms w0 w S;replace hm:(match(generalizing:=false) ar with
  |[]=>some (0<=y.b/\y.b<=1000,V.an [],{bS y with c9:=(true,.start y.b)})
  |_=>none)=some (p,v,t):=hm
 split at hm
 ·simp only[aV,bw]at hm;obtain⟨rfl,rfl,rfl⟩:=hm;exact amu y hp S
 ·cases hm
def DH (g:Nat):Option Nat:=bif aq g 0 then some 0 else none
def G8:List V:=[.bool false,.bool false,.bool false,.bool false,.bool false,.bool false,.bool false,.bool false,.bool false,.bool false,.bool true,.bool true]
def SR (ka:Nat->Option aO) (kn kc:Nat->Nat) (T:aG) (p:Sd.aN) (t:Sd.Tok) (s r mo:Int) (m:Sd.aY) (K:VK Empty):Prop:=bo (bP prog DH (qL Empty QV)) 60 128 [.agg [.eo p ka kn kc],.agg (cX t),.int .i64 s,.int .i64 r,.int .i64 mo,.agg (cI m)] [⟨false,⟨T,(0,0)⟩,G8⟩] [] K
theorem aaV (ka:Nat->Option aO) (kn kc:Nat->Nat) (T:aG) (p:Sd.aN) (t:Sd.Tok) (s r mo:Int) (m:Sd.aY) (K:VK Empty):
 SR ka kn kc T p t s r mo {m with kind:=10} (br 0 K)=cond (s !=t.ay) (K (.int .i64 20) [] []) (cond (m.af !=t.af) (K (.int .i64 21) [] []) (True/\cond (!Sd.may p mo r 0) (K (.int .i64 22) [] []) (True/\cond (!Sd.goes p mo m.mode) (K (.int .i64 23) [] []) (K (.int .i64 0) [] []))))/\
 SR ka kn kc T p t s r mo {m with kind:=11} (br 0 K)=cond (s !=t.ay) (K (.int .i64 20) [] []) (cond (m.af !=t.af) (K (.int .i64 21) [] []) (True/\cond (!Sd.may p mo r m.cls) (K (.int .i64 22) [] []) (K (.int .i64 0) [] []))):=⟨by kernel_rfl,by kernel_rfl⟩
theorem aaW (ka:Nat->Option aO) (kn kc:Nat->Nat) {T:aG} (p:Sd.aN) (t:Sd.Tok) (s r mo:Int) (m:Sd.aY) {v:V} (hv:SR ka kn kc T p t s r mo m (br 0 λx _ _=>x=v)) (hw:cK 0 v=true) {w:ae} (hC:w.heap[0]?=some (.cells (ah [] G8).toArray T (0,0))):
 aS prog 128 (aD [0] [.agg [.eo p ka kn kc],.agg (cX t),.int .i64 s,.int .i64 r,.int .i64 mo,.agg (cI m)]).toArray w λx w1=>x=den [] v/\Ch [] w w1:=by
 have S:=St.given (w:=w) [(0,.cells (ah [0] G8).toArray T (0,0))] (by intro p hp;simp only[ig]at hp;subst hp;exact hC);refine(eG (kU (GM DH)).T (kU (GM DH)).Q 60 (C:=bP prog DH (qL Empty QV)) (ids:=[0]) (bl:=[⟨false,⟨T,(0,0)⟩,G8⟩]) (ch:=[]) (R:=[]) (λg i h=>?_) rfl S hv).mono ?_
 ·replace h:DH g=some i:=h;unfold DH at h;cases hg:aq g 0 with
  |false=>rw[hg]at h;cases h
  |true=>rw[hg]at h;cases h;exact⟨by simp,(ck hg).symm⟩
 ·rintro x w' ⟨y,more,bl',ch',rfl,h1,S',hK⟩;obtain⟨v2,cB,bl2,e,cW,S2,rfl⟩:=hU (n0:=0) h1 (by simp) S' hK;exact⟨e.trans (fI (ids:=[]) _ hw),S'.ch⟩
theorem anv (p:Sd.aN) (ka:Nat->Option aO) (kn kc:Nat->Nat) (t:Sd.Tok) (s r mo:Int) (m:Sd.aY) (hk:m.kind=10\/m.kind=11) {T:aG} {w:ae} (hC:w.heap[0]?=some (.cells (ah [] G8).toArray T (0,0))):
 aS prog 128 (aD [0] [.agg [.eo p ka kn kc],.agg (cX t),.int .i64 s,.int .i64 r,.int .i64 mo,.agg (cI m)]).toArray w λx w1=>x=den [] (.int .i64 (Sd.lT p t s r mo m))/\Ch [] w w1:=by
 rcases hk with hk|hk
 ·have e:m={m with kind:=10}:=by cases m;simp only at hk;subst hk;rfl
  rw[e];refine aaW ka kn kc p t s r mo _ ?_ rfl hC;rw[(aaV ka kn kc T p t s r mo m _).1];unfold Sd.lT;rw[if_neg (by simp)];refine aI (λh=>by rw[if_pos (by simpa using h)]) (λh=>?_);rw[if_neg (by simpa using h)];refine aI (λh=>by rw[if_pos (by simpa using h)]) (λh=>⟨trivial,?_⟩);rw[if_neg (by simpa using h)];refine aI (λh=>by rw[if_pos (by simpa using h)]) (λh=>⟨trivial,?_⟩);rw[if_neg (by simpa using h)];exact aI (λh=>by rw[if_pos (by simpa using h)]) (λh=>by rw[if_neg (by simpa using h)])
 ·have e:m={m with kind:=11}:=by cases m;simp only at hk;subst hk;rfl
  rw[e];refine aaW ka kn kc p t s r mo _ ?_ rfl hC;rw[(aaV ka kn kc T p t s r mo m _).2];unfold Sd.lT;rw[if_neg (by simp)];refine aI (λh=>by rw[if_pos (by simpa using h)]) (λh=>?_);rw[if_neg (by simpa using h)];refine aI (λh=>by rw[if_pos (by simpa using h)]) (λh=>⟨trivial,?_⟩);rw[if_neg (by simpa using h)];refine aI (λh=>by rw[if_pos (by simpa using h)]) (λh=>?_);rw[if_neg (by simpa using h),if_neg (by simp)]
def Ll:QF:=⟨128,λargs bl=>match args with
 |[.agg [.eo p ka kn kc],.agg tl,.int .i64 s,.int .i64 r,.int .i64 mo,.agg ml]=>(match kg tl,yM ml,bl[1]?with
  |some t,some m,some (VB.mk _ (BT.mk _ (0,0)) bc)=>some ((m.kind=10\/m.kind=11)/\bc=[.bool false,.bool false,.bool false,.bool false,.bool false,.bool false,.bool false,.bool false,.bool false,.bool false,.bool true,.bool true],.int .i64 (Sd.lT p t s r mo m))
  |_,_,_=>none)
 |_=>none⟩
theorem anw:Ll.Ok prog gS:=by
 intro args bl p_ v_ h hp ids w hg hm;unfold Ll at h;dsimp only at h;split at h
 ·rename_i p ka kn kc tl s r mo ml;split at h
  ·rename_i t m _ _ bc ht qP hb;simp only[aV,bw]at h;obtain⟨rfl,rfl⟩:=h;obtain rfl:=nC ht;obtain rfl:=Dv qP;obtain⟨hk,hc⟩:=hp;have h2:=hm.2 1 _ hb;rw[(hg 0 1 rfl).2,hc]at h2;exact told (anv p ka kn kc t s r mo m hk h2)
  ·cases h
 ·cases h
def L5 (fr:Sd.aE->Nat×Sd.av) (C:Sd.aL):List (bK (Gh fr)):=⟨196,false,DG aaT⟩::⟨79,false,DG aaU⟩::qE (Gh fr) Ll::L4 fr C
theorem DJ (tk:Nat->Sd.av->Option Sd.aY) (ht:Body (fr:=fr) 147 dI):aC prog gS (L5 fr (aJ tk)):=
 aC.cons (SQ ant) (aC.cons (SQ anu) (aC.cons ⟨JM anw,λ_=>JL Ll.F⟩ (Bt tk ht)))
end
section
open Go Go.RowKit Go.BigFrame Sx Vx
def Lm (d:Fd) (k:Nat):List V:=[.int .i64 d.sz,.int .i64 d.low,.int .i64 d.high,.fn (bif d.b then 166 else 168) [] [.ptr k 0],.fn (bif d.b then 167 else 169) [] [.ptr k 0]]
def G9:List Fd->Nat->List V
 |[],_=>[]
 |d::l,k=>Lm d k++G9 l (k+1)
def Bx (i:Nat):List Fd->List VB
 |[]=>[]
 |d::l=>⟨true,bif d.b then 212 else 210,[.ptr i d.at_]⟩::Bx i l
def Ln:Option (List ab)->List V
 |none=>[]
 |some t=>[.rest t]
def qh (l:List Fd) (u:Option (List ab)) (i b:Nat):List VB:=⟨true,⟨175,(0,0)⟩,G9 l (b+1)++Ln u⟩::Bx i l
def Lo (kd:Int) (T11:(Nat->Option (List ab)->Prop)->Prop) (k:List Fd->Nat->Option (List ab)->Prop) (k0:Prop):Prop:=
 cond (kd==1) (k [uv] 1 none) (cond (kd==2) (k [uv] 1 none) (cond (kd==3) (k [h_] 1 none) (cond (kd==4) (k [h_] 1 none) (cond (kd==8) (k [h_] 1 none) (cond (kd==9) (k [h_] 1 none) (cond (kd==5) (k [h_,yP] 2 none) (cond (kd==6) (k [h_,yO] 2 none) (cond (kd==7) (k [h_,mJ] 2 none)
  (cond (kd==10) (k [h_,mJ,wH] 3 none) (cond (kd==11) (T11 λc u=>k [h_,mJ,uw,fX 0,fX 1,fX 2,fX 3] c u) k0))))))))))
def uG (n c:Nat) (a:List V) (k:Nat->List ab->Prop):Prop:=(n<=c/\bY a=c*5)/\(∀(c':Nat) (u:List ab),n+1<=c'->bY (yQ (n+1)++[.rest u])=c'*5->k c' u)/\(∀(c':Nat) (u:List ab),n+1<=c'->bY (yQ (n+1)++[.rest u])=c'*5->k c' u)
def wR (n:Nat) (u:List ab):List V:=yQ n++[.rest u]
def aaX (k:Nat->Option (List ab)->Prop):Prop:=uG 3 3 (yQ 3) λc u=>uG 4 c (wR 4 u) λc u=>uG 5 c (wR 5 u) λc u=>uG 6 c (wR 6 u) λc u=>k c (some u)
def td (m:Sd.aY):VB:=⟨true,⟨66,(0,0)⟩,cI m⟩
def anx (X:VK Empty) (m:Sd.aY) (l:List Fd) (c:Nat) (u:Option (List ab)):Prop:=X (.an [.sl 1 0 l.length c,.bool true]) (td m::qh l u 0 1) []
theorem anz (m:Sd.aY) (X:VK Empty):bo (rk prog lC (qL Empty [])) 60 71 [.ptr 0 0] [td m] [] (br 1 X)=Lo m.kind aaX (anx X m) (X (.an [.raw (.slice none 0 0),.bool false]) [td m] []):=by kernel_rfl
def aaY (k:Nat->Option (List ab)->Prop):Prop:=∀(c:Nat) (u:List ab),7<=c->k c (some u)
def SS {G:Type}:c_ G:=λargs bl ch K=>match args with
 |[.ptr i 0]=>(match bl[i]?with
  |some b=>(match yM b.c with
   |some m=>cond (xY b.ty 66&&(b.wr&&bM bl.length bl)) (Lo m.kind aaY (λl c u=>K (.an [.sl bl.length 0 l.length c,.bool true]) (bl++qh l u i bl.length) ch) (K (.an [.raw (.slice none 0 0),.bool false]) bl ch)) False
   |none=>False)
  |none=>False)
 |_=>False
theorem anA {kd:Int} {A B:(Nat->Option (List ab)->Prop)->Prop} {k k':List Fd->Nat->Option (List ab)->Prop} {k0 k0':Prop} (hA:∀q q':Nat->Option (List ab)->Prop,(∀c u,q c u->q' c u)->A q->B q') (hk:∀l c u,k l c u->k' l c u) (h0:k0->k0') (h:Lo kd A k k0):Lo kd B k' k0':=by
 have cm:∀{b:Bool} {X X' Y Y':Prop},(X->X')->(Y->Y')->cond b X Y->cond b X' Y':=by
  intro b X X' Y Y' h1 h2;cases b
  ·exact h2
  ·exact h1
 exact cm (hk _ _ _) (cm (hk _ _ _) (cm (hk _ _ _) (cm (hk _ _ _) (cm (hk _ _ _) (cm (hk _ _ _) (cm (hk _ _ _) (cm (hk _ _ _) (cm (hk _ _ _) (cm (hk _ _ _) (cm (hA _ _ λc u=>hk _ c u) h0)))))))))) h
theorem anB {q q':Nat->Option (List ab)->Prop} (hq:∀c u,q c u->q' c u) (h:aaY q):aaX q':=by
 refine⟨⟨by decide,rfl⟩,?_⟩;have a4:∀(c':Nat) (u:List ab),3+1<=c'->bY (yQ (3+1)++[.rest u])=c'*5->uG 4 c' (wR 4 u) λc u=>uG 5 c (wR 5 u) λc u=>uG 6 c (wR 6 u) λc u=>q' c (some u):=by
  intro c1 u1 h1 s1;have a5:∀(c':Nat) (u:List ab),4+1<=c'->bY (yQ (4+1)++[.rest u])=c'*5->uG 5 c' (wR 5 u) λc u=>uG 6 c (wR 6 u) λc u=>q' c (some u):=by
   intro c2 u2 h2 s2;have a6:∀(c':Nat) (u:List ab),5+1<=c'->bY (yQ (5+1)++[.rest u])=c'*5->uG 6 c' (wR 6 u) λc u=>q' c (some u):=by
    intro c3 u3 h3 s3;exact⟨⟨h3,s3⟩,λc4 u4 h4 _=>hq _ _ (h c4 u4 h4),λc4 u4 h4 _=>hq _ _ (h c4 u4 h4)⟩
   exact⟨⟨h2,s2⟩,a6,a6⟩
  exact⟨⟨h1,s1⟩,a5,a5⟩
 exact⟨a4,a4⟩
theorem anC {is js:List Nat} (d:Fd) (k k':Nat) (h:is.getD k 0=js.getD k' 0):ah is (Lm d k)=ah js (Lm d k'):=by
 simp only[Lm,ah,cl,den,aD,h]
theorem aaZ {is js:List Nat}:∀(l:List Fd) (k k':Nat),(∀j,is.getD (k+j) 0=js.getD (k'+j) 0)->ah is (G9 l k)=ah js (G9 l k')
 |[],_,_,_=>rfl
 |d::l,k,k',h=>by
  simp only[G9,iG];rw[anC d k k' (by simpa using h 0),aaZ l (k+1) (k'+1) (λj=>by have:=h (1+j);rwa [<-zP,<-zP]at this)]
theorem aa0 {is js:List Nat} {i i':Nat} (h:is.getD i 0=js.getD i' 0):∀(l:List Fd) (more:List Nat),lits is more (Bx i l)=lits js more (Bx i' l)
 |[],more=>by cases more<;>rfl
 |d::l,[]=>rfl
 |d::l,x::more=>by
  simp only[Bx,lits,az,ah,cl,den,h,aa0 h l more]
theorem anD {is js:List Nat} {i i' b b':Nat} (h:is.getD i 0=js.getD i' 0) (hb:∀j,is.getD (b+j) 0=js.getD (b'+j) 0) (l:List Fd) (u:Option (List ab)) (more:List Nat):lits is more (qh l u i b)=lits js more (qh l u i' b'):=by
 cases more with
 |nil=>rfl
 |cons x more=>
  have hu:ah is (Ln u)=ah js (Ln u):=by cases u<;>simp[Ln,ah,cl]
  simp only[qh,lits,az,iG,hu,aa0 h l more];rw[aaZ l (b+1) (b'+1) (λj=>by have:=hb (1+j);rwa [<-zP,<-zP]at this)]
theorem aa1 (l:List Fd) (u:Option (List ab)) (i b:Nat):(qh l u i b).length=l.length+1:=by
 have:∀l:List Fd,(Bx i l).length=l.length:=by
  intro l;induction l with
  |nil=>rfl
  |cons d l ih=>simp[Bx,ih]
 simp[qh,this]
def KF (m:Sd.aY) (P:List Fd->Nat->Option (List ab)->Prop) (P0:Prop):VK Empty:=λv bl ch=>ch=[]/\((∃l c u,P l c u/\v=.an [.sl 1 0 l.length c,.bool true]/\bl=td m::qh l u 0 1)\/(P0/\v=.an [.raw (.slice none 0 0),.bool false]/\bl=[td m]))
theorem anE {G:Type} [Bl G] (gl:Nat->Option Nat):Sound (G:=G) prog gl 71 SS:=by
 intro args ids bl ch R ms w0 w K hg hl S hc;unfold SS at hc;split at hc
 ·rename_i i;split at hc
  ·rename_i b hb;split at hc
   ·rename_i m hm;cases hq:xY b.ty 66&&(b.wr&&bM bl.length bl)with
    |false=>rw[hq]at hc;exact hc.elim
    |true=>
     rw[hq]at hc;simp only[cond_true]at hc;simp only[bg]at hq;obtain⟨q1,q2,q3⟩:=hq;have q1:=OM q1;obtain⟨wr,ty,bc⟩:=b;simp only at q1 q2 hm;subst q1 q2;obtain rfl:=Dv hm;have hi:=iU hb;have hbb:=hb;obtain⟨r,hr,gM⟩:=aaS hl hi;have p1:=gM bl rfl;have S1:=S.perm (p1.append_right _);rw[jm hb]at S1;have em:∀is:List Nat,ah is (cI m)=ah [] (cI m):=λis=>by have:=j4 (ids:=[]) (more:=is) (cI m) rfl;simpa using this
     have S2:St ms w0 (lits [ids.getD i 0] [ids.getD i 0] [td m]++ax ([]:List Empty) ((r.map λj=>az ids (ids.getD j 0) (bl.getD j di))++ax ch R)) w:=by
      have e:lits [ids.getD i 0] [ids.getD i 0] [td m]=[az ids (ids.getD i 0) ⟨true,⟨66,(0,0)⟩,cI m⟩]:=by
       simp only[lits,az,td,em]
      rw[e];simpa[ax]using S1
     have hv:bo (rk prog lC (qL Empty [])) 60 71 [.ptr 0 0] [td m] [] (br 1 (KF m (λl c u=>K (.an [.sl bl.length 0 l.length c,.bool true]) (bl++qh l u i bl.length) ch) (K (.an [.raw (.slice none 0 0),.bool false]) bl ch))):=by
      rw[anz];exact anA (λq q' h=>anB h) (λl c u hP=>⟨rfl,.inl ⟨l,c,u,hP,rfl,rfl⟩⟩) (λhP=>⟨rfl,.inr ⟨hP,rfl,rfl⟩⟩) hc
     have main:=eG (G:=Empty) (aC.nil (P:=prog) (gl:=lC)).TS (aC.nil).QS 60 (C:=rk prog lC (qL Empty [])) (args:=[.ptr 0 0]) (λg i h=>by cases h) rfl S2 hv;have a1:(aD ids [.ptr i 0]).toArray=(aD [ids.getD i 0] [.ptr 0 0]).toArray:=rfl;rw[a1];refine main.mono ?_;rintro v w' ⟨x,more,bl',ch',rfl,nF,S3,hgc⟩;obtain⟨v',cB,bl2,ev,cW,S4,rfl,hk⟩:=hU (n0:=1) nF (by simp) S3 hgc;rw[ev];have et:List.take 1 ([ids.getD i 0]++more)=[ids.getD i 0]:=rfl;rw[et]at cW S4⊢;simp only[ax]at S4;have back:∀(M:List VB),lits ([ids.getD i 0]++cB) ([ids.getD i 0]++cB) (td m::M)=az ids (ids.getD i 0) ⟨true,⟨66,(0,0)⟩,cI m⟩::lits ([ids.getD i 0]++cB) cB M:=by
      intro M;simp only[Ex,lits,az,td,em]
     rcases hk with⟨l,c,u,hP,rfl,rfl⟩|⟨hP,rfl,rfl⟩
     ·have hlen:cB.length=(qh l u i bl.length).length:=by
       rw[aa1];rw[kN,aa1]at cW;simpa using cW
      have hb:∀j,([ids.getD i 0]++cB).getD (1+j) 0=(ids++cB).getD (bl.length+j) 0:=by
       intro j;rw[<-hl];simp[ij,zL,Nat.add_comm 1 j]
      have h0:([ids.getD i 0]++cB).getD 0 0=(ids++cB).getD i 0:=by
       exact(CE (ids:=ids) (more:=cB) (by rw[ie,hl];exact hi)).symm
      refine⟨_,cB,_,ch,?_,by rw[fq,fq,hl,hlen],?_,hP⟩
      ·have:=hb 0;simp only[oR]at this;simp only[den,aD,this]
      ·rw[back]at S4;have e2:lits (ids++cB) (ids++cB) (bl++qh l u i bl.length)=lits ids ids bl++lits ([ids.getD i 0]++cB) cB (qh l u 0 1):=by
        rw[eZ _ _ _ _ hl,e_ _ _ (by rw[hl];exact q3),anD (i:=0) (i':=i) (b:=1) (b':=bl.length) h0 hb l u]
       rw[e2];refine S4.perm ?_;have p3:=(p1.symm.append_right (lits ([ids.getD i 0]++cB) cB (qh l u 0 1))).append_right (ax ch R);rw[jm hbb]at p3;refine EA ?_ p3;simp only[ft,bR];refine u7 _ ?_;exact rW _ _ _
     ·refine⟨_,[],bl,ch,?_,by simpa using hl,?_,hP⟩
      ·simp[den,aD]
      ·rw[cQ];rw[back]at S4;have kP:cB=[]:=by cases cB with
        |nil=>rfl
        |cons=>simp at cW
       subst kP;refine S4.perm ?_;have p3:=p1.symm.append_right (ax ch R);rw[jm hb]at p3;exact p3
   ·exact hc.elim
  ·exact hc.elim
 ·exact hc.elim
def DK:List (bK Empty):=⟨71,false,SS⟩::qL Empty LTk
def ki (n e:Nat) (f:Nat->Int) (t:List ab) (X:V->Prop):Prop:=bo (rk prog lC DK) 90 143 [.sl 0 0 n (e+n)] [⟨false,⟨5,(0,0)⟩,[.bJ .u8 n f,.rest t]⟩] [] λv _ _=>X v
section
variable(e:Nat) (f:Nat->Int) (t:List ab) (X:V->Prop)
theorem anF:ki 0 e f t X=X nD:=by kernel_rfl
theorem anG:ki 1 e f t X=kG 1 f X:=by kernel_rfl
theorem anH:ki 2 e f t X=kG 2 f X:=by kernel_rfl
theorem anI:ki 3 e f t X=kG 3 f X:=by kernel_rfl
theorem anJ:ki 4 e f t X=kG 4 f X:=by kernel_rfl
theorem anK:ki 5 e f t X=kG 5 f X:=by kernel_rfl
theorem anL:ki 6 e f t X=kG 6 f X:=by kernel_rfl
theorem anM:ki 7 e f t X=kG 7 f X:=by kernel_rfl
theorem anN:ki 8 e f t X=kG 8 f X:=by kernel_rfl
theorem anO:ki 9 e f t X=kG 9 f X:=by kernel_rfl
theorem anP:ki 10 e f t X=kG 10 f X:=by kernel_rfl
theorem anQ:ki 11 e f t X=kG 11 f X:=by kernel_rfl
theorem anR:ki 12 e f t X=kG 12 f X:=by kernel_rfl
theorem anS:ki 13 e f t X=kG 13 f X:=by kernel_rfl
theorem anT:ki 14 e f t X=kG 14 f X:=by kernel_rfl
theorem anU:ki 15 e f t X=kG 15 f X:=by kernel_rfl
theorem anV:ki 16 e f t X=kG 16 f X:=by kernel_rfl
theorem anW (m:Nat):ki (m+17) e f t X=kG (m+17) f X:=by kernel_rfl
end
def Fd.num (d:Fd) (g:Nat->Int):Int:=bif d.sg then yK (gm g)else bif aq d.sz 1 then Du g else bif aq d.sz 2 then gm g else A7 g
def Fd.set (d:Fd) (v:Int) (m:Sd.aY):Sd.aY:=match d.at_ with
 |1=>{m with seq:=v}|2=>{m with role:=v}|3=>{m with aU:=v}|4=>{m with af:=v}|5=>{m with mode:=v}|6=>{m with cls:=v}|7=>{m with now:=v==1}
 |8=>{m with x:=⟨v,m.x.b,m.x.c,m.x.d⟩}|9=>{m with x:=⟨m.x.a,v,m.x.c,m.x.d⟩}|10=>{m with x:=⟨m.x.a,m.x.b,v,m.x.d⟩}|11=>{m with x:=⟨m.x.a,m.x.b,m.x.c,v⟩}|_=>m
def oA (k:Int):Option (List Fd):=
 if k=1\/k=2 then some [uv]else if k=3\/k=4\/k=8\/k=9 then some [h_]else if k=5 then some [h_,yP]else if k=6 then some [h_,yO]else if k=7 then some [h_,mJ]else if k=10 then some [h_,mJ,wH]
 else if k=11 then some [h_,mJ,uw,fX 0,fX 1,fX 2,fX 3]else none
def runM (n:Nat) (f:Nat->Int):List Fd->Nat->Sd.aY->Option Sd.aY
 |[],off,m=>if n-off=0 then some m else none
 |d::l,off,m=>if n-off<d.sz then none else if d.num (λj=>f (off+j))<d.low\/d.high<d.num (λj=>f (off+j))then none else runM n f l (off+d.sz) (d.set (d.num (λj=>f (off+j))) m)
def aH (n:Nat) (f:Nat->Int):Option Sd.aY:=if n=0 then none else match oA (f 0)with
 |some l=>runM n f l 1 (Sd.eT (f 0))
 |none=>none
def qi (d:Fd):Prop:=(d.sg=true->d.sz=2)/\∀v m,lW (cI m) d.at_ (bif d.b then .bool (v==1)else .int .i64 v)=cI (d.set v m)
theorem te {x:Int} (h:-9223372036854775808<=x/\x<=9223372036854775807):i64.wrap x=x:=by simp[xw,tI,tJ];omega
theorem By.at {f:Nat->Int} (h:By f) (o:Nat):By λj=>f (o+j):=λj=>h (o+j)
theorem aa2 (d:Fd) {g:Nat->Int} (h:By g):d.val g=d.num g:=by
 have h1:=aks h;have h2:=aaj h;have h4:=akt h
 unfold Fd.val Fd.num;cases d.sg<;>cases aq d.sz 1<;>cases aq d.sz 2<;>simp only[cond_true,cond_false]<;>first|rfl|(apply te;omega)
theorem aa3 {n:Nat} {f:Nat->Int} (hf:By f) {X:V->Prop}:∀(l:List Fd) (off:Nat) (m:Sd.aY),(∀d∈l,qi d)->(∀r,runM n f l off m=some r->X (.an [.agg (cI r),.int .i64 0]))->(runM n f l off m=none->X nD)->Dx n f X l off (cI m)
 |[],off,m,_,h1,h2=>by
  unfold Dx;unfold runM at h1 h2;by_cases h:n-off=0
  ·rw[if_pos h]at h1;rw[h];exact h1 m rfl
  ·rw[if_neg h]at h2;have:aq (n-off) 0=false:=by
    cases hb:aq (n-off) 0 with
    |true=>exact absurd (ck hb) h
    |false=>rfl
   rw[this];exact h2 rfl
 |d::l,off,m,hd,h1,h2=>by
  unfold Dx;unfold runM at h1 h2;have hb:=hf.at off;by_cases h:n-off<d.sz
  ·rw[if_pos h]at h2;have:cu (n-off) d.sz=true:=by rw[ie];exact h
   rw[this];exact h2 rfl
  ·rw[if_neg h]at h1 h2;have:cu (n-off) d.sz=false:=by
    cases hb:cu (n-off) d.sz with
    |true=>rw[ie]at hb;exact absurd hb h
    |false=>rfl
   rw[this,aa2 d hb];refine⟨hb,aI (λe=>?_) (λe=>aI (λe2=>?_) (λe2=>?_))⟩
   ·have e:=of_decide_eq_true e;rw[if_pos (.inl e)]at h2;exact h2 rfl
   ·have e2:=of_decide_eq_true e2;rw[if_pos (.inr e2)]at h2;exact h2 rfl
   ·have e:=of_decide_eq_false e;have e2:=of_decide_eq_false e2;have hn:¬(d.num (λj=>f (off+j))<d.low\/d.high<d.num (λj=>f (off+j))):=by omega
    rw[if_neg hn]at h1 h2;have:d.up (λj=>f (off+j)) (cI m)=cI (d.set (d.num (λj=>f (off+j))) m):=by
     unfold Fd.up;rw[aa2 d hb];exact(hd d (by simp)).2 _ _
    rw[this];exact aa3 hf l (off+d.sz) _ (λx hx=>hd x (by simp[hx])) h1 h2
theorem anX {k:Int} {l:List Fd} (h:oA k=some l):∀d∈l,qi d:=by
 have a1:qi uv:=⟨by decide,λv m=>rfl⟩;have a2:qi h_:=⟨by decide,λv m=>rfl⟩;have a3:qi yP:=⟨by decide,λv m=>rfl⟩;have a4:qi yO:=⟨by decide,λv m=>rfl⟩;have a5:qi mJ:=⟨by decide,λv m=>rfl⟩;have a6:qi wH:=⟨by decide,λv m=>rfl⟩;have a7:qi uw:=⟨by decide,λv m=>rfl⟩;have b0:qi (fX 0):=⟨by decide,λv m=>rfl⟩;have b1:qi (fX 1):=⟨by decide,λv m=>rfl⟩;have b2:qi (fX 2):=⟨by decide,λv m=>rfl⟩;have b3:qi (fX 3):=⟨by decide,λv m=>rfl⟩;unfold oA at h
 repeat' split at h
 all_goals first|(cases h;done)|(obtain rfl:=cA h;intro d hd;simp at hd;rcases hd with rfl|rfl|rfl|rfl|rfl|rfl|rfl<;>assumption)|(obtain rfl:=cA h;intro d hd;simp at hd;rcases hd with rfl|rfl|rfl<;>assumption)|(obtain rfl:=cA h;intro d hd;simp at hd;rcases hd with rfl|rfl<;>assumption)|(obtain rfl:=cA h;intro d hd;simp at hd;subst hd;assumption)
theorem anY {n:Nat} {f:Nat->Int} (hf:By f) (hn:n≠0) {X:V->Prop} (h1:∀r,aH n f=some r->X (.an [.agg (cI r),.int .i64 0])) (h2:aH n f=none->X nD):kG n f X:=by
 have hk:pW f=f 0:=te (by have:=hf 0;omega);have hm:m0 f=cI (Sd.eT (f 0)):=by unfold m0;rw[hk];rfl
 unfold kG;rw[hk,hm];unfold aH at h1 h2;rw[if_neg hn]at h1 h2;have T:∀l,oA (f 0)=some l->Dx n f X l 1 (cI (Sd.eT (f 0))):=by
  intro l hl;rw[hl]at h1 h2;exact aa3 hf l 1 _ (anX hl) h1 h2
 have eq:∀{k:Int},(f 0==k)=true->f 0=k:=λh=>by simpa using h
 have ne:∀{k:Int},(f 0==k)=false->f 0≠k:=λh=>by simpa using h
 refine aI (λe=>T _ (by rw[eq e];rfl)) (λe1=>aI (λe=>T _ (by rw[eq e];rfl)) (λe2=>aI (λe=>T _ (by rw[eq e];rfl)) (λe3=>aI (λe=>T _ (by rw[eq e];rfl)) (λe4=>aI (λe=>T _ (by rw[eq e];rfl)) (λe5=>aI (λe=>T _ (by rw[eq e];rfl)) (λe6=>
  aI (λe=>T _ (by rw[eq e];rfl)) (λe7=>aI (λe=>T _ (by rw[eq e];rfl)) (λe8=>aI (λe=>T _ (by rw[eq e];rfl)) (λe9=>aI (λe=>T _ (by rw[eq e];rfl)) (λSU=>aI (λe c u hc=>T _ (by rw[eq e];rfl)) (λe11=>?_)))))))))))
 refine h2 ?_;have:=ne e1;have:=ne e2;have:=ne e3;have:=ne e4;have:=ne e5;have:=ne e6;have:=ne e7;have:=ne e8;have:=ne e9;have:=ne SU;have:=ne e11
 have:oA (f 0)=none:=by unfold oA;repeat' (rw[if_neg (by omega)])
 rw[this]
theorem anZ (P Q:Nat->Prop) (Z:Prop) (h0:P 0=Z) (h1:P 1=Q 1) (h2:P 2=Q 2) (h3:P 3=Q 3) (h4:P 4=Q 4) (h5:P 5=Q 5) (h6:P 6=Q 6) (h7:P 7=Q 7) (h8:P 8=Q 8) (h9:P 9=Q 9) (Lq:P 10=Q 10) (G_:P 11=Q 11) (h12:P 12=Q 12) (SV:P 13=Q 13) (Ha:P 14=Q 14) (DL:P 15=Q 15) (SW:P 16=Q 16) (h17:∀m,P (m+17)=Q (m+17)) (n:Nat):(n=0/\P n=Z)\/(n≠0/\P n=Q n):=by
 rcases cN n 17 with h|h
 ·have h:n=0\/n=1\/n=2\/n=3\/n=4\/n=5\/n=6\/n=7\/n=8\/n=9\/n=10\/n=11\/n=12\/n=13\/n=14\/n=15\/n=16:=by omega
  rcases h with rfl|rfl|rfl|rfl|rfl|rfl|rfl|rfl|rfl|rfl|rfl|rfl|rfl|rfl|rfl|rfl|rfl
  ·exact .inl ⟨rfl,h0⟩
  ·exact .inr ⟨by decide,h1⟩
  ·exact .inr ⟨by decide,h2⟩
  ·exact .inr ⟨by decide,h3⟩
  ·exact .inr ⟨by decide,h4⟩
  ·exact .inr ⟨by decide,h5⟩
  ·exact .inr ⟨by decide,h6⟩
  ·exact .inr ⟨by decide,h7⟩
  ·exact .inr ⟨by decide,h8⟩
  ·exact .inr ⟨by decide,h9⟩
  ·exact .inr ⟨by decide,Lq⟩
  ·exact .inr ⟨by decide,G_⟩
  ·exact .inr ⟨by decide,h12⟩
  ·exact .inr ⟨by decide,SV⟩
  ·exact .inr ⟨by decide,Ha⟩
  ·exact .inr ⟨by decide,DL⟩
  ·exact .inr ⟨by decide,SW⟩
 ·obtain⟨m,rfl⟩:∃m,n=m+17:=⟨n-17,by omega⟩;exact .inr ⟨by omega,h17 m⟩
theorem an0 (e:Nat) {f:Nat->Int} (hf:By f) (t:List ab) {X:V->Prop} (n:Nat) (h1:∀r,aH n f=some r->X (.an [.agg (cI r),.int .i64 0])) (h2:aH n f=none->X nD):ki n e f t X:=by
 rcases anZ (λn=>ki n e f t X) (λn=>kG n f X) (X nD) (anF e f t X) (anG e f t X) (anH e f t X) (anI e f t X) (anJ e f t X) (anK e f t X) (anL e f t X) (anM e f t X) (anN e f t X) (anO e f t X) (anP e f t X) (anQ e f t X) (anR e f t X) (anS e f t X) (anT e f t X) (anU e f t X) (anV e f t X) (anW e f t X) n with⟨h0,h⟩|⟨h0,h⟩
 ·exact Eq.mpr h (h2 (by rw[h0];rfl))
 ·exact Eq.mpr h (anY hf h0 h1 h2)
def nL (n:Nat) (f:Nat->Int):V:=match aH n f with
 |some r=>.an [.agg (cI r),.int .i64 0]
 |none=>nD
theorem Lr:aC prog lC DK:=aC.cons ⟨anE lC,λe=>by cases e⟩ (kU (bH.cons (ak3 lC) (bH.cons (ak4 lC) bH.nil)))
theorem an1 (b n c:Nat) (f:Nat->Int) (t:List ab) (hf:By f) (hc:n<=c) (w:ae) (hB:w.heap[b]?=some (.cells ((bd n).map (λj=>eg .u8 (f j))++t).toArray 5 (0,0))):
 aS prog 143 #[.slice (some ⟨b,0,none⟩) n c] w λv w1=>v=den [] (nL n f)/\Ch [] w w1:=by
 obtain⟨e,rfl⟩:∃e,c=e+n:=⟨c-n,by omega⟩;have cS:ki n e f t (λv=>v=nL n f):=an0 e hf t n (λr h=>by unfold nL;rw[h]) (λh=>by unfold nL;rw[h]);have S0:=St.given (w:=w) [(b,.cells ((bd n).map (λj=>eg .u8 (f j))++t).toArray 5 (0,0))] (all_cons hB all_nil);have S1:St [] w (lits [b] [b] [⟨false,⟨5,(0,0)⟩,[.bJ .u8 n f,.rest t]⟩]++ax ([]:List Empty) []) w:=by
  simpa[lits,az,ah,cl,ax]using S0
 refine(eG Lr.TS Lr.QS 90 (C:=rk prog lC DK) (args:=[.sl 0 0 n (e+n)]) (λg i h=>by cases h) rfl S1 cS).mono ?_;rintro v w' ⟨x,more,bl',ch',rfl,nF,S2,rfl⟩;refine⟨?_,S2.ch⟩;have hw:cK 0 (nL n f)=true:=by unfold nL;split<;>rfl
 have:=fI (ids:=[]) (more:=[b]++more) (nL n f) hw;simpa using this
variable{fr:Sd.aE->Nat×Sd.av}
def tf (s:Sd.aa) (E:Sd.aA):Sd.aa:={s with c:={s.c with doors:=r3 (s.c.doors 0) (s.c.doors 1) (s.c.doors 2) s.c.doors,ag:=⟨E.c9,r3 (E.aj 0) (E.aj 1) (E.aj 2) s.c.ag.aj⟩}}
def k9 (s:Sd.aa) (t:Sd.aA):Sd.aa:={s with c:={s.c with ag:=t}}
theorem Ls {s:Sd.aa} {E t:Sd.aA} (h1:E.c9=t.c9) (h2:∀j,j<3->E.aj j=t.aj j) (h3:∀j,t.aj (j+3)=s.c.ag.aj (j+3)):tf s E=k9 s t:=by
 unfold tf k9;rw[K1,h1];have e:r3 (E.aj 0) (E.aj 1) (E.aj 2) s.c.ag.aj=t.aj:=by
  funext j
  match j with
  |0=>exact h2 0 (by decide)
  |1=>exact h2 1 (by decide)
  |2=>exact h2 2 (by decide)
  |j+3=>exact(h3 j).symm
 rw[e]
theorem an2 (s:Sd.aa) (l:Int):tf s ((eB s.c.ag).end_ l)=k9 s (s.c.ag.end_ l):=by
 have key:∀l:Int,l=1\/l=2\/l=3->(s.c.ag.de l=true)->tf s ((eB s.c.ag).ei (l.toNat-1) .zero)=k9 s (s.c.ag.ei (l.toNat-1) .zero):=by
  intro l hl iT;refine Ls rfl ?_ ?_
  ·intro j hj;have:j=0\/j=1\/j=2:=by omega
   rcases hl with rfl|rfl|rfl<;>rcases this with rfl|rfl|rfl<;>rfl
  ·intro j;rcases hl with rfl|rfl|rfl<;>rfl
 unfold Sd.aA.end_;rw[G1];by_cases h:s.c.ag.de l=true
 ·rw[if_pos h,if_pos h];refine key l ?_ h;unfold Sd.aA.de at h;simp only[bg,decide_eq_true_eq]at h;omega
 ·rw[if_neg h,if_neg h];refine Ls rfl ?_ (λj=>rfl);intro j hj;have:j=0\/j=1\/j=2:=by omega
  rcases this with rfl|rfl|rfl<;>rfl
section
variable(C:Sd.aL) (k:LK) (s:Sd.aa) (F:aW fr (aR k s)) (Kb:SK fr k)
theorem an3 (l:Int) (m:Sd.aY):bo (bP prog gS (L5 fr C)) 60 153 [.ptr 2 0,.int .i64 l,.agg (cI m)] (bz k s F) [a_ k s F] (cx k s Kb)
 =(True/\cv k s F/\G5 C [.int .i64 l] k (tf s ((eB s.c.ag).end_ l)) F λv s2 F2=>cv k s2 F2/\jn C [.int .i64 4,.int .i64 l,.int .i64 m.seq,.int .i64 0,.int .i64 0] k (bQ s2) F2 λv s3 F3=>
  cv k s3 F3/\mM [.int .i64 l,.int .i64 m.seq] k (bQ s3) F3 λv s' F'=>cx k s Kb (.an []) (bz k s' F'++[⟨true,⟨66,(0,0)⟩,cI m⟩]) [a_ k s' F']):=by kernel_rfl
abbrev gJ (s:Sd.aa) (l:Int) (m:Sd.aY):Int:=Sd.lT s.c.p s.c.t l ((eB s.c.ag).role l) s.c.mode m
def SX (s:Sd.aa) (l:Int) (m:Sd.aY):Sd.aa:={s with c:={s.c with mode:=m.mode,ff:=⟨1,l,m.seq⟩}}
def Bz (s:Sd.aa) (c:Int) (x:Sd.X4) (b:Sd.Label):Sd.aa:={s with c:={s.c with pt:=s.c.pt.set s.c.p c x b}}
theorem an4 (l:Int) (m:Sd.aY):bo (bP prog gS (L5 fr C)) 60 159 [.ptr 2 0,.int .i64 l,.agg (cI m)] (bz k s F) [a_ k s F] (cx k s Kb)
 =(True/\((m.kind=10\/m.kind=11)/\(iB k).c=(iB k).c)/\cond (gJ s l m !=0)
  (cv k s F/\lJ C [.int .i64 l,.int .i64 m.seq,.int .i64 (gJ s l m)] k (bQ s) F λv s' F'=>cx k s Kb (.an []) (bz k s' F'++[⟨true,⟨66,(0,0)⟩,cI m⟩]) [a_ k s' F'])
  (cond (m.kind==10)
   (cv k (SX s l m) F/\jn C [.int .i64 6,.int .i64 l,.int .i64 m.seq,.int .i64 0,.int .i64 0] k (bQ (SX s l m)) F λv s3 F3=>cv k s3 F3/\mM [.int .i64 l,.int .i64 m.seq] k (bQ s3) F3 λv s' F'=>cx k s Kb (.an []) (bz k s' F'++[⟨true,⟨66,(0,0)⟩,cI m⟩,⟨true,⟨44,(0,0)⟩,mI ⟨1,l,m.seq⟩⟩]) [a_ k s' F'])
   (Sd.eO s.c.p/\cv k (Bz s m.cls m.x ⟨1,l,m.seq⟩) F/\jn C [.int .i64 6,.int .i64 l,.int .i64 m.seq,.int .i64 0,.int .i64 0] k (bQ (Bz s m.cls m.x ⟨1,l,m.seq⟩)) F λv s3 F3=>cv k s3 F3/\mM [.int .i64 l,.int .i64 m.seq] k (bQ s3) F3 λv s' F'=>cx k s Kb (.an []) (bz k s' F'++[⟨true,⟨66,(0,0)⟩,cI m⟩,⟨true,⟨44,(0,0)⟩,mI ⟨1,l,m.seq⟩⟩]) [a_ k s' F']))):=by kernel_rfl
theorem an5:bo (bP prog gS (L5 fr C)) 60 81 [.ptr 2 0] (bz k s F) [a_ k s F] (cx k s Kb)
 =((vq k=vq k/\b_ s.c.t.af)/\∀B (hB:QS k.bq k.most (Sd.cZ s.c.t s.c.q 0).2.2 B),
  cond ((Sd.cZ s.c.t s.c.q 0).2.1!=0) (cv k (cT s (Sd.cZ s.c.t s.c.q 0).2.2) (F.cT (Sd.cZ s.c.t s.c.q 0).2.2 B hB)/\jn C [.int .i64 7,.int .i64 0,.int .i64 s.c.samples,.int .i64 (Sd.cZ s.c.t s.c.q 0).2.1,.int .i64 0] k (bQ (cT s (Sd.cZ s.c.t s.c.q 0).2.2)) (F.cT (Sd.cZ s.c.t s.c.q 0).2.2 B hB) λv s' F'=>cx k s Kb (.an []) (bz k s' F'++[⟨true,⟨95,(0,0)⟩,cX (Sd.cZ s.c.t s.c.q 0).1⟩]) [a_ k s' F'])
  (cv k (cT s (Sd.cZ s.c.t s.c.q 0).2.2) (F.cT (Sd.cZ s.c.t s.c.q 0).2.2 B hB)/\qf C [.agg (cX (Sd.cZ s.c.t s.c.q 0).1),.int .i64 2,.int .i64 s.c.samples] k (bQ (cT s (Sd.cZ s.c.t s.c.q 0).2.2)) (F.cT (Sd.cZ s.c.t s.c.q 0).2.2 B hB) λv s' F'=>cx k s Kb (.an []) (bz k s' F'++[⟨true,⟨95,(0,0)⟩,cX (Sd.cZ s.c.t s.c.q 0).1⟩]) [a_ k s' F'])):=by kernel_rfl
theorem an6:bo (bP prog gS (L5 fr C)) 60 83 [.ptr 2 0] (bz k s F) [a_ k s F] (cx k s Kb)
 =(b_ s.c.t.af/\cond ((s.c.t.cY 0).2!=0) (cv k s F/\jn C [.int .i64 7,.int .i64 0,.int .i64 s.c.samples,.int .i64 (s.c.t.cY 0).2,.int .i64 0] k (bQ s) F λv s' F'=>cx k s Kb (.an []) (bz k s' F'++[⟨true,⟨95,(0,0)⟩,cX (s.c.t.cY 0).1⟩]) [a_ k s' F'])
  (cv k s F/\qf C [.agg (cX (s.c.t.cY 0).1),.int .i64 4,.int .i64 s.c.samples] k (bQ s) F λv s' F'=>cx k s Kb (.an []) (bz k s' F'++[⟨true,⟨95,(0,0)⟩,cX (s.c.t.cY 0).1⟩]) [a_ k s' F'])):=by kernel_rfl
def DM (s:Sd.aa):Sd.aY:=⟨11,0,0,0,s.c.t.af,0,1,false,⟨0,0,0,0⟩⟩
theorem an7 (x:Sd.g9):bo (bP prog gS (L5 fr C)) 60 82 [.ptr 2 0,.agg (oz x)] (bz k s F) [a_ k s F] (cx k s Kb)
 =((((11:Int)=10\/(11:Int)=11)/\(iB k).c=(iB k).c)/\cond (Sd.lT s.c.p s.c.t 0 0 s.c.mode (DM s)!=0)
  (cv k s F/\jn C [.int .i64 7,.int .i64 0,.int .i64 s.c.samples,.int .i64 (Sd.lT s.c.p s.c.t 0 0 s.c.mode (DM s)),.int .i64 0] k (bQ s) F λv s' F'=>cx k s Kb (.an []) (bz k s' F'++[⟨true,⟨72,(0,0)⟩,oz x⟩,⟨true,⟨66,(0,0)⟩,cI (DM s)⟩]) [a_ k s' F'])
  (Sd.eO s.c.p/\cv k (Bz s 1 x.x ⟨1,0,s.c.samples⟩) F/\jn C [.int .i64 6,.int .i64 0,.int .i64 s.c.samples,.int .i64 0,.int .i64 0] k (bQ (Bz s 1 x.x ⟨1,0,s.c.samples⟩)) F λv s' F'=>cx k s Kb (.an []) (bz k s' F'++[⟨true,⟨72,(0,0)⟩,oz x⟩,⟨true,⟨66,(0,0)⟩,cI (DM s)⟩,⟨true,⟨44,(0,0)⟩,mI ⟨1,0,s.c.samples⟩⟩]) [a_ k s' F'])):=by kernel_rfl
end
theorem SY (C:Sd.aL) (s:Sd.aa) (l:Int):s.leave C l=if(s.c.t.drop l).2=false then qd s l else((iD (qd s l) (s.c.t.drop l).1).gone (s.c.t.drop l).1.ay l 16).record C 12 l 0 16 0:=rfl
theorem SZ (C:Sd.aL) (s:Sd.aa) (l:Int):(s.leave C l).c.p=s.c.p:=by
 rw[SY];split
 ·rfl
 ·show(Sd.aa.gone _ _ _ _).c.p=_;rw[pV];rfl
theorem Rm.leave {C:Sd.aL} {s:Sd.aa} {l:Int} {m:Nat} (h:Rm s (m+2)):Rm (s.leave C l) m:=by
 rw[SY];have h1:Rm (qd s l) (m+2):=h;split
 ·exact h1.le (by omega)
 ·have h2:Rm (iD (qd s l) (s.c.t.drop l).1) (m+2):=h;exact(h2.gone).rec
theorem an8 (p:Sd.aN) (t:Sd.Tok) (a r mo:Int) (m:Sd.aY):N8 (Sd.lT p t a r mo m):=by have:=Sd.Rf p t a r mo m;exact⟨by omega,by omega⟩
def Hb (C:Sd.aL):SM fr:=λar k s F K=>match ar with
 |[.int .i64 l,.agg ml]=>(match yM ml with
  |some m=>(Sy s l m/\(m.kind=10\/m.kind=11))/\∀F',K (.an []) (s.command C l m) F'
  |none=>False)
 |_=>False
def BA (C:Sd.aL) (s:Sd.aa):Sd.aa:=if(Sd.cZ s.c.t s.c.q 0).2.1≠0 then s.record C 7 0 s.c.samples (Sd.cZ s.c.t s.c.q 0).2.1 0 else(cT s (Sd.cZ s.c.t s.c.q 0).2.2).goes C (Sd.cZ s.c.t s.c.q 0).1 2 s.c.samples
def BB (C:Sd.aL) (s:Sd.aa):Sd.aa:=if(s.c.t.cY 0).2≠0 then s.record C 7 0 s.c.samples (s.c.t.cY 0).2 0 else s.goes C (s.c.t.cY 0).1 4 s.c.samples
def BC (C:Sd.aL) (s:Sd.aa) (x:Sd.X4):Sd.aa:=if Sd.lT s.c.p s.c.t 0 0 s.c.mode (DM s)≠0 then s.record C 7 0 s.c.samples (Sd.lT s.c.p s.c.t 0 0 s.c.mode (DM s)) 0 else(Bz s 1 x ⟨1,0,s.c.samples⟩).record C 6 0 s.c.samples 0 0
structure Hc (s:Sd.aa):Prop where
 r:Rm s 8
 p:Sd.eO s.c.p
 t:TB s.c.t
def uH (act:Sd.aa->Sd.aa):SM fr:=λar k s F K=>match ar with
 |[]=>Hc s/\∀F',K (.an []) (act s) F'
 |_=>False
def He (act:Sd.aa->Sd.g9->Sd.aa):SM fr:=λar k s F K=>match ar with
 |[.agg xl]=>(match Dw xl with
  |some x=>Hc s/\∀F',K (.an []) (act s x) F'
  |none=>False)
 |_=>False
section
variable(tk:Nat->Sd.av->Option Sd.aY) (ht:Body (fr:=fr) 147 dI)
include tk ht
theorem an9:Body (fr:=fr) 153 (iV λs l m=>s.Ao (aJ tk) l m):=by
 refine Bv (tk:=tk) (n:=60) (DJ tk ht) ?_;intro l m k s F Kb hq hS hK;have h1:Rm (k9 s (s.c.ag.end_ l)) 8:=hS.r;rw[an3];refine⟨trivial,cy hq,Bh (M:=λs F=>G5 (aJ tk) [.int .i64 l] k s F _) (an2 s l) F ⟨⟨h1.le (by decide),by have:=hS.l1;omega,by have:=hS.l3;omega⟩,λF2=>⟨cy ?_,nJ (h1.leave).r1 λF3=>⟨cy ?_,uF ⟨((h1.leave).rec).le (by decide),hS.n⟩ λF4=>ee rfl hK F4 (hp:=?_)⟩⟩⟩⟩
 ·rw[SZ];exact hq
 ·show(Sd.aa.leave _ _ _).c.p.queue=_;rw[SZ];exact hq
 ·show(Sd.aa.leave _ _ _).c.p=_;rw[SZ]
theorem an_:Body (fr:=fr) 159 (Hb (aJ tk)):=by
 refine lH (n:=60) (DJ tk ht) ?_;intro ar k s F Kb h0 hq hM;unfold Hb at hM;split at hM
 ·rename_i l ml;split at hM
  ·rename_i m hm;obtain rfl:=Dv hm;have hS:=hM.1.1;have hk:=hM.1.2;have hK:=hM.2;have hj:gJ s l m=Sd.lT s.c.p s.c.t l (s.c.ag.role l) s.c.mode m:=by rw[gJ,amC]
   have hb:=an8 s.c.p s.c.t l (s.c.ag.role l) s.c.mode m;have h1:Rm (SX s l m) 8:=hS.r;have h2:Rm (Bz s m.cls m.x ⟨1,l,m.seq⟩) 8:=hS.r;rw[an4,hj];refine⟨trivial,⟨hk,rfl⟩,aI (λe=>⟨cy hq,yY ⟨hS.r.le (by decide),hS.n,hb⟩ λF1=>ee (if_pos (qg e)).symm hK F1⟩) (λe=>aI (λe2=>?_) (λe2=>?_))⟩
   ·refine⟨cy hq,nJ h1.r1 λF2=>⟨cy hq,uF ⟨h1.rec.le (by decide),hS.n⟩ λF3=>ee ?_ hK F3⟩⟩;have e3:m.kind=10:=by simpa using e2
    refine Eq.trans ?_ (if_neg (ta e)).symm;rw[if_pos e3];rfl
   ·refine⟨hS.i.p,cy hq,nJ h2.r1 λF2=>⟨cy hq,uF ⟨h2.rec.le (by decide),hS.n⟩ λF3=>ee ?_ hK F3⟩⟩;have e3:¬m.kind=10:=by simpa using e2
    refine Eq.trans ?_ (if_neg (ta e)).symm;rw[if_neg e3];rfl
  ·exact hM.elim
 ·exact hM.elim
theorem aoa:Body (fr:=fr) 81 (uH (BA (aJ tk))):=by
 refine lH (n:=60) (DJ tk ht) ?_;intro ar k s F Kb h0 hq hM;unfold uH at hM;split at hM
 ·have hS:=hM.1;have hK:=hM.2;have hb:=aaQ hS.t s.c.q 0;have h1:Rm (cT s (Sd.cZ s.c.t s.c.q 0).2.2) 8:=hS.r;rw[an5];refine⟨⟨rfl,hS.t.b⟩,λB hB=>aI (λe=>⟨cy hq,nJ h1.r1 λF1=>ee ?_ hK F1⟩) (λe=>⟨cy hq,Bp ⟨h1.le (by decide),hb.1.h,hb.1.e⟩ λF2=>ee (if_neg (ta e)).symm hK F2 (hp:=nK _ _ _ _ _)⟩)⟩;rw[Lk (aaR (qg e))];exact(if_pos (qg e)).symm
 ·exact hM.elim
theorem aob:Body (fr:=fr) 83 (uH (BB (aJ tk))):=by
 refine lH (n:=60) (DJ tk ht) ?_;intro ar k s F Kb h0 hq hM;unfold uH at hM;split at hM
 ·have hS:=hM.1;have hK:=hM.2;have hb:=Bu hS.t 0;rw[an6];exact⟨hS.t.b,aI (λe=>⟨cy hq,nJ hS.r.r1 λF1=>ee (if_pos (qg e)).symm hK F1⟩) (λe=>⟨cy hq,Bp ⟨hS.r.le (by decide),hb.1.h,hb.1.e⟩ λF2=>ee (if_neg (ta e)).symm hK F2 (hp:=nK _ _ _ _ _)⟩)⟩
 ·exact hM.elim
theorem aoc:Body (fr:=fr) 82 (He λs x=>BC (aJ tk) s x.x):=by
 refine lH (n:=60) (DJ tk ht) ?_;intro ar k s F Kb h0 hq hM;unfold He at hM;split at hM
 ·rename_i xl;split at hM
  ·rename_i x hx;obtain rfl:=KG hx;have hS:=hM.1;have hK:=hM.2;have h2:Rm (Bz s 1 x.x ⟨1,0,s.c.samples⟩) 8:=hS.r;rw[an7];exact⟨⟨.inr rfl,rfl⟩,aI (λe=>⟨cy hq,nJ hS.r.r1 λF1=>ee (if_pos (qg e)).symm hK F1⟩) (λe=>⟨hS.p,cy hq,nJ h2.r1 λF2=>ee (if_neg (ta e)).symm hK F2⟩)⟩
  ·exact hM.elim
 ·exact hM.elim
end
def L6 (fr:Sd.aE->Nat×Sd.av) (C:Sd.aL):List (bK (Gh fr)):=⟨81,false,gF (uH (BA C))⟩::⟨83,false,gF (uH (BB C))⟩::⟨82,false,gF (He λs x=>BC C s x.x)⟩::L5 fr C
theorem aa4 (tk:Nat->Sd.av->Option Sd.aY) (ht:Body (fr:=fr) 147 dI):aC prog gS (L6 fr (aJ tk)):=
 aC.cons (iC (aoa tk ht)) (aC.cons (iC (aob tk ht)) (aC.cons (iC (aoc tk ht)) (DJ tk ht)))
def Lt (s:Sd.aa) (n:Int):Sd.aa:={s with c:={s.c with beyond:=n}}
def yZ (s:Sd.aa) (x:Sd.g9):Sd.aa:={s with c:={s.c with samples:=Sd.sat s.c.samples 4294967295,beyond:=(Sd.eh s.c.p s.c.beyond x).1}}
def Lu (s:Sd.aa):Sd.aA:={eB s.c.ag with c9:=(true,.start s.c.p.bW)}
def wS (s:Sd.aa) (x:Sd.g9):Sd.aa:=k9 (yZ s x) (s.c.ag.fO s.c.p)
section
variable(C:Sd.aL) (k:LK) (s:Sd.aa) (F:aW fr (aR k s)) (Kb:SK fr k)
def Lv (x:Sd.g9):Prop:=cond (s.c.t.ay==0)
 (cv k (yZ s x) F/\He (λs x=>BC C s x.x) [.agg (oz x)] k (tf (yZ s x) (Lu s)) F λv s' F'=>cx k s Kb (.an []) (bz k s' F'++[⟨true,⟨72,(0,0)⟩,oz x⟩]) [a_ k s' F'])
 (cond (Sd.eh s.c.p s.c.beyond x).2 (cv k (yZ s x) F/\uH (BB C) [] k (tf (yZ s x) (Lu s)) F λv s' F'=>cx k s Kb (.an []) (bz k s' F'++[⟨true,⟨72,(0,0)⟩,oz x⟩]) [a_ k s' F'])
  (cx k s Kb (.an []) (bz k (wS s x) F++[⟨true,⟨72,(0,0)⟩,oz x⟩]) [a_ k (wS s x) F]))
theorem aod (x:Sd.g9):bo (bP prog gS (L6 fr C)) 60 50 [.ptr 2 0,.agg (oz x)] (bz k s F) [a_ k s F] (cx k s Kb)
 =cond (!x.valid) (cx k s Kb (.an []) (bz k (Lt s 0) F++[⟨true,⟨72,(0,0)⟩,oz x⟩]) [a_ k (Lt s 0) F])
  ((b_ s.c.samples/\b_ 4294967295)/\(0<=s.c.p.bW/\s.c.p.bW<=1000)/\(Sd.eO s.c.p/\b_ s.c.beyond)/\
    cond (s.c.t.ay==0) (cond x.Al (cv k (yZ s x) F/\uH (BA C) [] k (tf (yZ s x) (Lu s)) F λv s' F'=>cx k s Kb (.an []) (bz k s' F'++[⟨true,⟨72,(0,0)⟩,oz x⟩]) [a_ k s' F']) (Lv C k s F Kb x)) (Lv C k s F Kb x)):=by kernel_rfl
end
theorem S7 (s:Sd.aa) (x:Sd.g9):tf (yZ s x) (Lu s)=wS s x:=by
 refine Ls rfl ?_ (λj=>rfl);intro j hj;have:j=0\/j=1\/j=2:=by omega
 rcases this with rfl|rfl|rfl<;>rfl
def Hf (C:Sd.aL):SM fr:=λar k s F K=>match ar with
 |[.agg xl]=>(match Dw xl with
  |some x=>(Hc s/\b_ s.c.samples/\b_ s.c.beyond)/\∀F',K (.an []) (s.fO C x) F'
  |none=>False)
 |_=>False
section
variable{k:LK} {s:Sd.aa} {K:SK fr k}
end
theorem aoe (C:Sd.aL) (s:Sd.aa) (x:Sd.g9) (h:x.valid=false):s.fO C x=Lt s 0:=if_pos h
theorem Lw (C:Sd.aL) (s:Sd.aa) (x:Sd.g9) (h:¬x.valid=false):s.fO C x=if s.c.t.ay=0/\x.Al=true then BA C (wS s x)else if s.c.t.ay=0 then BC C (wS s x) x.x else if(Sd.eh s.c.p s.c.beyond x).2=true then BB C (wS s x)else wS s x:=if_neg h
section
variable(tk:Nat->Sd.av->Option Sd.aY) (ht:Body (fr:=fr) 147 dI)
theorem aof (C:Sd.aL) (s:Sd.aa):(BA C s).c.p=s.c.p:=by
 unfold BA;split
 ·rfl
 ·rw[nK];rfl
theorem aog (C:Sd.aL) (s:Sd.aa):(BB C s).c.p=s.c.p:=by
 unfold BB;split
 ·rfl
 ·rw[nK]
theorem aoh (C:Sd.aL) (s:Sd.aa) (x:Sd.X4):(BC C s x).c.p=s.c.p:=by
 unfold BC;split<;>rfl
include tk ht
theorem aoi:Body (fr:=fr) 50 (Hf (aJ tk)):=by
 refine lH (n:=60) (aa4 tk ht) ?_;intro ar k s F Kb h0 hq hM;unfold Hf at hM;split at hM
 ·rename_i xl;split at hM
  ·rename_i x hx;obtain rfl:=KG hx;have hS:=hM.1.1;have hK:=hM.2;have hT:Hc (wS s x):=⟨hS.r,hS.p,hS.t⟩;have hX:(x.valid≠false)->¬(s.c.t.ay=0/\x.Al=true)->Lv (aJ tk) k s F Kb x:=by
    intro hv hg;unfold Lv;refine aI (λe=>⟨cy hq,?_⟩) (λe=>aI (λe2=>⟨cy hq,?_⟩) (λe2=>?_))
    ·have e1:s.c.t.ay=0:=by simpa using e
     refine Bh (M:=λs F=>He (λs x=>BC (aJ tk) s x.x) [.agg (oz x)] k s F _) (S7 s x) F ⟨hT,λF1=>ee ?_ hK F1 (hp:=aoh _ _ _)⟩;rw[Lw _ _ _ hv,if_neg hg,if_pos e1]
    ·have e1:¬s.c.t.ay=0:=by simpa using e
     refine Bh (M:=λs F=>uH (BB (aJ tk)) [] k s F _) (S7 s x) F ⟨hT,λF1=>ee ?_ hK F1 (hp:=aog _ _)⟩;rw[Lw _ _ _ hv,if_neg hg,if_neg e1,if_pos e2]
    ·have e1:¬s.c.t.ay=0:=by simpa using e
     refine ee ?_ hK (show aW fr (aR k (wS s x))from F);rw[Lw _ _ _ hv,if_neg hg,if_neg e1,if_neg (by rw[e2];decide)]
   rw[aod];refine aI (λe=>ee ?_ hK (show aW fr (aR k (Lt s 0))from F)) (λe=>⟨⟨hM.1.2.1,by decide,by decide⟩,⟨by have:=hS.p.bW.1;omega,hS.p.bW.2⟩,⟨hS.p,hM.1.2.2⟩,?_⟩)
   ·rw[aoe _ _ _ (by simpa using e)]
   ·have hv:x.valid≠false:=by simpa using e
    refine aI (λe1=>aI (λe2=>⟨cy hq,?_⟩) (λe2=>hX hv (by rw[e2];simp))) (λe1=>hX hv ?_)
    ·refine Bh (M:=λs F=>uH (BA (aJ tk)) [] k s F _) (S7 s x) F ⟨hT,λF1=>ee ?_ hK F1 (hp:=aof _ _)⟩;rw[Lw _ _ _ hv,if_pos ⟨by simpa using e1,e2⟩]
    ·have e3:¬s.c.t.ay=0:=by simpa using e1
     exact λh=>e3 h.1
  ·exact hM.elim
 ·exact hM.elim
end
def S8:QG:=⟨141,2,λargs most q=>match args with
 |[.agg [.eo p ka kn kc],.agg tl,.bool th]=>(match kg tl with|some t=>some (b_ t.af/\(b_ t.la.n/\b_ t.la.most)/\(1<=p.i 43/\p.i 43<=1000),.an [.agg (cX (Sd.fZ p t q th).1),.int .i64 (Sd.fZ p t q th).2.1],(Sd.fZ p t q th).2.2)|none=>none)
 |_=>none⟩
theorem aoj:S8.Ok:=by
 intro args k q p v q' hv hm hp B hB bs ms w0 w S
 match args,hv,hm with
 |a::b::c::l,hv,hm=>
  have ha:c=.raw (vq k):=by simpa[S8]using hv
  subst ha;replace hm:(match(generalizing:=false) a::b::l with
   |[.agg [.eo p ka kn kc],.agg tl,.bool th]=>(match kg tl with|some t=>some (b_ t.af/\(b_ t.la.n/\b_ t.la.most)/\(1<=p.i 43/\p.i 43<=1000),V.an [.agg (cX (Sd.fZ p t q th).1),.int .i64 (Sd.fZ p t q th).2.1],(Sd.fZ p t q th).2.2)|none=>none)
   |_=>none)=some (p,v,q'):=hm
  split at hm
  ·rename_i p' ka kn kc tl th heq;obtain⟨rfl,h2⟩:=vb heq;obtain⟨rfl,rfl⟩:=vb h2;split at hm
   ·rename_i t ht;obtain rfl:=nC ht;simp only[aV,bw]at hm;obtain⟨rfl,rfl,rfl⟩:=hm;exact am5 hB p' ka kn kc th hp.1 hp.2.1 hp.2.2 S
   ·cases hm
  ·cases hm
def Lx:QF:=⟨32,λargs _=>match args with
 |[]=>some (True,.agg (mI Sd.nj))
 |_=>none⟩
theorem aa5 (gl:Nat->Option Nat):Lx.Ok prog gl:=by
 intro args bl p_ v_ h hp ids w _ _;unfold Lx at h;dsimp only at h;split at h
 ·simp only[aV,bw]at h;obtain⟨rfl,rfl⟩:=h;exact told (alf w)
 ·cases h
def L7 (fr:Sd.aE->Nat×Sd.av) (C:Sd.aL):List (bK (Gh fr)):=⟨141,false,Bo S8⟩::qE (Gh fr) Lx::L6 fr C
theorem aa6 (tk:Nat->Sd.av->Option Sd.aY) (ht:Body (fr:=fr) 147 dI):aC prog gS (L7 fr (aJ tk)):=
 aC.cons (K9 aoj) (aC.cons (La aa5) (aa4 tk ht))
abbrev gP (s:Sd.aa):Sd.Tok×Int×List Sd.Ask:=Sd.fZ s.c.p s.c.t s.c.q ((eB s.c.ag).on s.c.t.ay)
theorem aol (C:Sd.aL) (k:LK) (s:Sd.aa) (F:aW fr (aR k s)) (Kb:SK fr k):bo (bP prog gS (L7 fr C)) 60 94 [.ptr 2 0] (bz k s F) [a_ k s F] (cx k s Kb)
 =(True/\(vq k=vq k/\(b_ s.c.t.af/\(b_ s.c.t.la.n/\b_ s.c.t.la.most)/\(1<=s.c.p.i 43/\s.c.p.i 43<=1000)))/\∀B (hB:QS k.bq k.most (gP s).2.2 B),
  cond (decide ((gP s).2.1<=0)) (cx k s Kb (.an []) (bz k (iD (cT s (gP s).2.2) (gP s).1) (F.cT (gP s).2.2 B hB)++[⟨true,⟨95,(0,0)⟩,cX (gP s).1⟩]) [a_ k (iD (cT s (gP s).2.2) (gP s).1) (F.cT (gP s).2.2 B hB)])
  (cv k (cT s (gP s).2.2) (F.cT (gP s).2.2 B hB)/\qf C [.agg (cX (gP s).1),.int .i64 (gP s).2.1,.int .i64 0] k (bQ (cT s (gP s).2.2)) (F.cT (gP s).2.2 B hB) λv s2 F2=>
   cond ((gP s).2.1==5) (cv k s2 F2/\wQ [.int .i64 s2.c.p.lost,.agg (mI ⟨3,4,0⟩)] k (bQ s2) F2 λv s' F'=>cx k s Kb (.an []) (bz k s' F'++[⟨true,⟨95,(0,0)⟩,cX (gP s).1⟩]) [a_ k s' F'])
   (True/\cv k s2 F2/\wQ [.int .i64 s2.c.p.safe,.agg (mI Sd.nj)] k (bQ s2) F2 λv s' F'=>cx k s Kb (.an []) (bz k s' F'++[⟨true,⟨95,(0,0)⟩,cX (gP s).1⟩]) [a_ k s' F']))):=by kernel_rfl
theorem aom {p:Sd.aN} {t:Sd.Tok} (h:TB t) (q:List Sd.Ask) (b:Bool):TB (Sd.fZ p t q b).1:=by
 have h1:∀la,TB ({t with la:=la}:Sd.Tok):=λla=>⟨h.h,h.e⟩;unfold Sd.fZ;split
 ·exact h1 _
 ·dsimp only;generalize (if t.la.most=0 then Sd.Timer.start p.dU else t.la).step=la;split
  ·exact h1 _
  ·split
   ·rename_i hs;refine⟨by simp[Sd.Tok.fY,Sd.Tok.pass,N4],?_⟩;have e1:=h.e.1;have e2:=h.e.2;simp only[Sd.Tok.fY,Sd.Tok.pass,uC,Sd.sat];split
    ·split<;>omega
    ·omega
   ·split
    ·exact(Bu (h1 _) 4).1
    ·exact(aaP (h1 _) q).1
theorem aon {p:Sd.aN} {t:Sd.Tok} {q:List Sd.Ask} {b:Bool} (h:(Sd.fZ p t q b).2.1<=0):(Sd.fZ p t q b).2.2=q:=by
 unfold Sd.fZ at h⊢;split
 ·rfl
 ·rename_i h0;rw[if_neg h0]at h;dsimp only at h⊢;revert h;generalize (if t.la.most=0 then Sd.Timer.start p.dU else t.la).step=la;intro h;split
  ·rfl
  ·rename_i h1;rw[if_neg h1]at h;split
   ·rfl
   ·rename_i h2;rw[if_neg h2]at h;split
    ·rename_i h3;rw[if_pos h3]at h;simp at h
    ·rename_i h3;rw[if_neg h3]at h;simp at h
structure StL (s:Sd.aa):Prop where
 r:Rm s 8
 p:Sd.eO s.c.p
 t:TB s.c.t
 l1:b_ s.c.t.la.n
 l2:b_ s.c.t.la.most
def S9 (C:Sd.aL):SM fr:=λar k s F K=>match ar with
 |[]=>StL s/\∀F',K (.an []) (s.dU C) F'
 |_=>False
theorem S_ (C:Sd.aL) (s:Sd.aa) (R:Sd.Tok×Int×List Sd.Ask) (h:R=Sd.fZ s.c.p s.c.t s.c.q (s.c.ag.on s.c.t.ay)):s.dU C=if R.2.1<=0 then iD s R.1 else if R.2.1=5 then((cT s R.2.2).goes C R.1 R.2.1 0).dW ((cT s R.2.2).goes C R.1 R.2.1 0).c.p.lost ⟨3,4,0⟩else((cT s R.2.2).goes C R.1 R.2.1 0).dW ((cT s R.2.2).goes C R.1 R.2.1 0).c.p.safe Sd.nj:=by subst h;rfl
theorem aa7 (C:Sd.aL) (s:Sd.aa) (t:Sd.Tok) (h n m:Int) (b:Sd.Label):((s.goes C t h n).dW m b).c.p=s.c.p:=nK C s t h n
theorem aoo (tk:Nat->Sd.av->Option Sd.aY) (ht:Body (fr:=fr) 147 dI):Body (fr:=fr) 94 (S9 (aJ tk)):=by
 refine lH (n:=60) (aa6 tk ht) ?_;intro ar k s F Kb h0 hq hM;unfold S9 at hM;split at hM
 ·have hS:=hM.1;have hK:=hM.2;have hr:gP s=Sd.fZ s.c.p s.c.t s.c.q (s.c.ag.on s.c.t.ay):=by rw[gP,G2]
  have hb:=aom (p:=s.c.p) hS.t s.c.q ((eB s.c.ag).on s.c.t.ay);have h1:Rm (cT s (gP s).2.2) 8:=hS.r;rw[aol];refine⟨trivial,⟨rfl,hS.t.b,⟨hS.l1,hS.l2⟩,hS.p.dU⟩,λB hB=>aI (λe=>?_) (λe=>⟨cy hq,Bp ⟨h1.le (by decide),hb.h,hb.e⟩ λF2=>aI (λe2=>⟨cy ?_,SE λF3=>ee ?_ hK F3 (hp:=aa7 _ _ _ _ _ _ _)⟩) (λe2=>⟨trivial,cy ?_,SE λF3=>ee ?_ hK F3 (hp:=aa7 _ _ _ _ _ _ _)⟩)⟩)⟩
  ·have e1:(gP s).2.1<=0:=by simpa using e
   refine ee (s':=iD (cT s (gP s).2.2) (gP s).1) ?_ hK (F.cT (gP s).2.2 B hB);rw[S_ _ _ _ hr,if_pos e1,Lk (aon e1)]
  ·rw[nK];exact hq
  ·have e1:¬(gP s).2.1<=0:=by simpa using e
   have e3:(gP s).2.1=5:=by simpa using e2
   rw[S_ _ _ _ hr,if_neg e1,if_pos e3]
  ·rw[nK];exact hq
  ·have e1:¬(gP s).2.1<=0:=by simpa using e
   have e3:¬(gP s).2.1=5:=by simpa using e2
   rw[S_ _ _ _ hr,if_neg e1,if_neg e3]
 ·exact hM.elim
def Hg:List Sd.Ask->List V
 |[]=>[]
 |a::l=>.int .i64 a.source::.int .i64 a.bC::.int .i64 a.gj.n::.int .i64 a.gj.most::Hg l
def uI (l:List Sd.Ask) (t:List ab):VB:=⟨true,⟨112,(0,0)⟩,Hg l++[.rest t]⟩
theorem aa8 (ids:List Nat):∀l:List Sd.Ask,ah ids (Hg l)=uy l
 |[]=>rfl
 |a::l=>by
  have h:=aa8 ids l;simp only[Hg,ah,cl,den,h];rfl
def Tb:c_ (Gh fr):=λargs bl ch K=>match args,ch with
 |[.raw vp],g::rest=>cond (bM bl.length bl) (vp=vq g.d.k/\(g.d.q=[]->∀x c,K (.raw (.slice x 0 c)) bl (g::rest))/\(∀a,g.d.q=[a]->∀c t,K (.sl bl.length 0 1 c) (bl++[uI [a] t]) (g::rest))/\
  (∀a b,g.d.q=[a,b]->∀c t,K (.sl bl.length 0 2 c) (bl++[uI [a,b] t]) (g::rest))/\(∀a b d,g.d.q=[a,b,d]->∀c t,K (.sl bl.length 0 3 c) (bl++[uI [a,b,d] t]) (g::rest))) False
 |_,_=>False
theorem aop {bq:Nat} {most:Int} {L:List Sd.Ask} {B:List ai} (h:QS bq most L B):L.length<=3:=by
 obtain⟨es,_,_,_,_,_,_,hH,rfl⟩:=h
 match es,hH with
 |[],_=>simp[cD]
 |[e0],_=>simp[cD]
 |[e0,e1],_=>simp only[cD];repeat' split
             all_goals simp
 |[e0,e1,e2],_=>simp only[cD];repeat' split
                all_goals simp
 |_::_::_::_::_,hH=>exact absurd hH (by simp[fQ])
theorem aoq (gl:Nat->Option Nat):Sound prog gl 39 (Tb (fr:=fr)):=by
 intro args ids bl ch R ms w0 w K hg hl S hc;unfold Tb at hc;split at hc
 ·rename_i vp g rest;cases hq:bM bl.length bl with
  |false=>rw[hq]at hc;exact hc.elim
  |true=>
   rw[hq]at hc;rw[<-hl]at hq;obtain⟨rfl,k0,k1,k2,k3⟩:=hc;have e0:ax (g::rest) R=g.F.B++ax rest R:=rfl;have S':=S;rw[e0,s9]at S;have hL:=al2 g.F.hq (S.perm (G3 _ _ _ _ _ _ _));have ea:(aD ids [.raw (vq g.d.k)]).toArray=#[.pointer (some ⟨g.d.k.bq,0,none⟩)]:=rfl;rw[ea];refine hL.mono ?_;rintro v w1 ⟨x,c1,rows,rfl,hr,S1⟩;have aor:=(S1.sub (oT rows _)).perm (G3 _ _ _ _ _ _ _).symm;have wT:∀(n:Nat),g.d.q.length=n+1->∃(b:Nat) (t:List ab),x=some ⟨b,0,none⟩/\((∀c t,K (.sl bl.length 0 (n+1) c) (bl++[uI g.d.q t]) (g::rest))->
    ∃(x':V) (more:List Nat) (bl':List VB) (ch':List (Gh fr)),EB x g.d.q.length c1=den (ids++more) x'/\(ids++more).length=bl'.length/\St ms w0 (lits (ids++more) (ids++more) bl'++ax ch' R) w1/\K x' bl' ch'):=by
    intro n hn;rcases hr.2.2 with⟨_,h0,_⟩|⟨b,t,hx,aos,_⟩
    ·omega
    ·refine⟨b,t,hx,λh=>?_⟩;refine⟨.sl bl.length 0 (n+1) c1,[b],bl++[uI g.d.q t],g::rest,?_,by simp[hl],?_,h c1 t⟩
     ·rw[hx,hn,<-hl];simp only[den,kS]
     ·have e1:lits (ids++[b]) (ids++[b]) (bl++[uI g.d.q t])=lits ids ids bl++rows:=by
       rw[eZ _ _ _ _ hl,e_ _ _ hq];have ed:(ah (ids++[b]) (Hg g.d.q++[.rest t])).toArray=(uy g.d.q++t).toArray:=by
        rw[iG,aa8];simp[ah,cl]
       simp only[lits,az,uI,ed];rw[aos]
      rw[e1,e0,s9,bR];refine S1.perm ?_;refine(qG rows (G3 (lits ids ids bl) _ _ _ _ _ _).symm).trans ?_;exact rW _ _ _
   have hlen:=aop g.F.hq;revert k0 k1 k2 k3 wT hlen
   match g.d.q with
   |[]=>
    intro k0 k1 k2 k3 wT hlen;refine⟨.raw (.slice x 0 c1),[],bl,g::rest,?_,by simpa using hl,?_,k0 rfl x c1⟩
    ·simp[den]
    ·simp only[cQ];rw[e0,s9];exact aor
   |[a]=>intro k0 k1 k2 k3 wT hlen;obtain⟨b,t,_,h⟩:=wT 0 rfl;exact h (k1 a rfl)
   |[a,b']=>intro k0 k1 k2 k3 wT hlen;obtain⟨b,t,_,h⟩:=wT 1 rfl;exact h (k2 a b' rfl)
   |[a,b',d]=>intro k0 k1 k2 k3 wT hlen;obtain⟨b,t,_,h⟩:=wT 2 rfl;exact h (k3 a b' d rfl)
   |a::b'::d::e::l=>intro k0 k1 k2 k3 wT hlen;simp at hlen
 ·exact hc.elim
def L8 (fr:Sd.aE->Nat×Sd.av) (C:Sd.aL):List (bK (Gh fr)):=⟨94,false,gF (S9 C)⟩::⟨39,false,Tb⟩::L7 fr C
theorem DN (tk:Nat->Sd.av->Option Sd.aY) (ht:Body (fr:=fr) 147 dI):aC prog gS (L8 fr (aJ tk)):=
 aC.cons (iC (aoo tk ht)) (aC.cons ⟨aoq gS,λe=>by cases e⟩ (aa6 tk ht))
section
variable(C:Sd.aL) (k:LK) (s0:Sd.aa) (Kb:SK fr k)
def DO:List Sd.Ask->(s:Sd.aa)->aW fr (aR k s)->List VB->Prop
 |[],s,F,j=>True/\cv k s F/\wQ [.int .i64 s.c.p.safe,.agg (mI Sd.nj)] k (bQ s) F λv s' F'=>cx k s0 Kb (.an []) (bz k s' F'++j) [a_ k s' F']
 |a::l,s,F,j=>(vq k=vq k/\True)/\∀B (hB:QS k.bq k.most (Sd.Q.drop s.c.q a.source) B),cv k (qd s a.source) (F.cT (Sd.Q.drop s.c.q a.source) B hB)/\wO [.int .i64 a.source,.int .i64 4,.int .i64 29] k (bQ (qd s a.source)) (F.cT (Sd.Q.drop s.c.q a.source) B hB) λv s2 F2=>DO l s2 F2 (j++[⟨true,⟨112,(0,0)⟩,KH a⟩])
def Tc (s:Sd.aa) (F:aW fr (aR k s)) (j:List VB):Prop:=vq k=vq k/\(s.c.q=[]->∀(x:Option aO) (c:Nat),DO k s0 Kb [] s F j)/\(∀a,s.c.q=[a]->∀(c:Nat) (t:List ab),DO k s0 Kb [a] s F (j++[uI [a] t]))/\
 (∀a b,s.c.q=[a,b]->∀(c:Nat) (t:List ab),DO k s0 Kb [a,b] s F (j++[uI [a,b] t]))/\(∀a b d,s.c.q=[a,b,d]->∀(c:Nat) (t:List ab),DO k s0 Kb [a,b,d] s F (j++[uI [a,b,d] t]))
def oB (s:Sd.aa) (b:Bool):Sd.aa:=iD s {s.c.t with bad:=b}
theorem aot (s:Sd.aa) (F:aW fr (aR k s)) (b:Bool):bo (bP prog gS (L8 fr C)) 80 52 [.ptr 2 0,.bool b] (bz k s F) [a_ k s F] (cx k s Kb)
 =cond (!b) (cx k s Kb (.an []) (bz k (oB s b) F) [a_ k (oB s b) F])
  (b_ s.c.t.af/\cond (s.c.t.ay !=4)
   (cv k (oB s b) F/\qf C [.agg (cX ({s.c.t with bad:=b}:Sd.Tok).fY),.int .i64 6,.int .i64 0] k (bQ (oB s b)) F λv s2 F2=>Tc k s Kb s2 F2 [⟨true,⟨95,(0,0)⟩,cX ({s.c.t with bad:=b}:Sd.Tok).fY⟩])
   (Tc k s Kb (iD s ({s.c.t with bad:=b}:Sd.Tok).fY) F [⟨true,⟨95,(0,0)⟩,cX ({s.c.t with bad:=b}:Sd.Tok).fY⟩])):=by kernel_rfl
end
def rL (s:Sd.aa) (a:Sd.Ask):Sd.aa:=(qd s a.source).gone a.source 4 29
theorem aa9 (s:Sd.aa) (a:Sd.Ask):(rL s a).c.p=s.c.p:=by unfold rL;rw[pV];rfl
theorem Rm.rL {s:Sd.aa} {a:Sd.Ask} {n:Nat} (h:Rm s (n+1)):Rm (rL s a) n:=by
 have h1:Rm (qd s a.source) (n+1):=h;exact h1.gone
theorem Hh {k:LK} {s0:Sd.aa} {Kb:SK fr k}:∀(l:List Sd.Ask) (s:Sd.aa) (F:aW fr (aR k s)) (j:List VB),s.c.p=s0.c.p->s.c.p.queue=k.most->Rm s l.length->
 (∀F',Kb (.an []) ((l.foldl rL s).dW (l.foldl rL s).c.p.safe Sd.nj) F')->DO k s0 Kb l s F j
 |[],s,F,j,hp,hq,hr,hK=>⟨trivial,cy hq,SE λF1=>ee (s':=s.dW s.c.p.safe Sd.nj) rfl hK F1 (hp:=hp) (hb:=by kernel_rfl)⟩
 |a::l,s,F,j,hp,hq,hr,hK=>⟨⟨rfl,trivial⟩,λB hB=>⟨cy hq,SD ⟨(show Rm (qd s a.source) (l.length+1)from hr).le (by omega),⟨by decide,by decide⟩,⟨by decide,by decide⟩⟩ λF2=>Hh l (rL s a) F2 _ (by rw[aa9];exact hp) (by rw[aa9];exact hq) hr.rL hK⟩⟩
theorem aa_ {k:LK} {s0:Sd.aa} {Kb:SK fr k} (s:Sd.aa) (F:aW fr (aR k s)) (j:List VB) (hp:s.c.p=s0.c.p) (hq:s.c.p.queue=k.most) (hr:Rm s 3)
 (hK:∀F',Kb (.an []) ((s.c.q.foldl rL s).dW (s.c.q.foldl rL s).c.p.safe Sd.nj) F'):Tc k s0 Kb s F j:=by
 refine⟨rfl,λe x c=>?_,λa e c t=>?_,λa b e c t=>?_,λa b d e c t=>?_⟩
 ·rw[e]at hK;exact Hh [] s F _ hp hq (hr.le (by simp)) hK
 ·rw[e]at hK;exact Hh [a] s F _ hp hq (hr.le (by simp)) hK
 ·rw[e]at hK;exact Hh [a,b] s F _ hp hq (hr.le (by simp)) hK
 ·rw[e]at hK;exact Hh [a,b,d] s F _ hp hq (hr.le (by simp)) hK
theorem aou {t:Sd.Tok} (h:TB t):TB t.fY:=by
 have e1:=h.e.1;have e2:=h.e.2;refine⟨show(0:Int)<=4/\(4:Int)<=4 by decide,?_⟩;simp only[Sd.Tok.fY,Sd.Tok.pass,uC,Sd.sat];split
 ·split<;>omega
 ·omega
def Hj (C:Sd.aL):SM fr:=λar k s F K=>match ar with
 |[.bool b]=>(Rm s 8/\TB s.c.t)/\∀F',K (.an []) (s.qV C b) F'
 |_=>False
def cW (C:Sd.aL) (s:Sd.aa):Sd.aa:=if s.c.t.ay≠4 then s.goes C s.c.t.fY 6 0 else iD s s.c.t.fY
theorem aov (C:Sd.aL) (s:Sd.aa) (b:Bool) (h:b=false):s.qV C b=oB s b:=if_pos h
theorem aow (C:Sd.aL) (s:Sd.aa) (b:Bool) (h:¬b=false):s.qV C b=(((cW C (oB s b)).c.q.foldl rL (cW C (oB s b))).dW ((cW C (oB s b)).c.q.foldl rL (cW C (oB s b))).c.p.safe Sd.nj):=if_neg h
theorem aox (tk:Nat->Sd.av->Option Sd.aY) (ht:Body (fr:=fr) 147 dI):Body (fr:=fr) 52 (Hj (aJ tk)):=by
 refine lH (n:=80) (DN tk ht) ?_;intro ar k s F Kb h0 hq hM;unfold Hj at hM;split at hM
 ·rename_i b;have hr:=hM.1.1;have hT:=hM.1.2;have hK:=hM.2;have h1:Rm (oB s b) 8:=hr;have hb:TB ({s.c.t with bad:=b}:Sd.Tok).fY:=aou ⟨hT.h,hT.e⟩;rw[aot];refine aI (λe=>ee ?_ hK (show aW fr (aR k (oB s b))from F)) (λe=>⟨hT.b,?_⟩)
  ·rw[aov _ _ _ (by simpa using e)]
  ·have kV:¬b=false:=by simpa using e
   rw[aow _ _ _ kV]at hK;refine aI (λe1=>⟨cy hq,Bp ⟨h1.le (by decide),hb.h,hb.e⟩ λF2=>?_⟩) (λe1=>?_)
   ·have e2:cW (aJ tk) (oB s b)=(oB s b).goes (aJ tk) ({s.c.t with bad:=b}:Sd.Tok).fY 6 0:=if_pos (show s.c.t.ay≠4 by simpa using e1);rw[e2]at hK;exact aa_ _ F2 _ (nK _ _ _ _ _) (by rw[nK];exact hq) (h1.goes.le (by decide)) hK
   ·have e2:cW (aJ tk) (oB s b)=iD s ({s.c.t with bad:=b}:Sd.Tok).fY:=if_neg (show¬s.c.t.ay≠4 by simpa using e1);rw[e2]at hK;exact aa_ (iD s ({s.c.t with bad:=b}:Sd.Tok).fY) F _ rfl hq (hr.le (by decide)) hK
 ·exact hM.elim
theorem aoy {w:ae} {n c b:Nat} {f:Nat->Int} {T:aG} (h:w.heap[b]?=some (.cells (bD n f c) T (0,0))):cd w b 0 n f:=by
 intro j hj;rw[cell_of h];simp only[bD,eD];rw[jt,gV (by rw[gi];exact hj)];simp[bV,hj]
theorem Ly {w:ae} {n c:Nat} {f:Nat->Int} {x:Option aO} {b:List ai} (h:eK 5 n f x c b) (aM:∀y∈b,w.heap[y.id]?=some y.obj) (h0:0<n) (hn:n<=1000000):dL w x n c f:=by
 obtain⟨b',h1,rfl,rfl⟩:=E2 h h0;exact dL.Oi (aoy (aM _ (ig.2 rfl))) hn h1
theorem aba {ms:List Nat} {w0 w:ae} {A R:List ai} {d:FD} (F:aW fr d) (S:St ms w0 (A++(F.B++R)) w) (i:Nat) (hi:i<4) (h0:0<d.k.kn i) (hn:d.k.kn i<=1000000):dL w (d.k.ka i) (d.k.kn i) (d.k.kc i) (d.k.kf i):=by
 obtain⟨b0,b1,b2,b3,b4,hB,k0,k1,k2,k3,k4⟩:=F.hk;have aM:∀y∈F.Bk,w.heap[y.id]?=some y.obj:=λy hy=>S.at' (by rw[s9];simp[hy]);rw[hB]at aM;have:i=0\/i=1\/i=2\/i=3:=by omega
 rcases this with rfl|rfl|rfl|rfl
 ·exact Ly k0 (λy hy=>aM y (by simp[hy])) h0 hn
 ·exact Ly k1 (λy hy=>aM y (by simp[hy])) h0 hn
 ·exact Ly k2 (λy hy=>aM y (by simp[hy])) h0 hn
 ·exact Ly k3 (λy hy=>aM y (by simp[hy])) h0 hn
theorem abb {ids:List Nat} {bl:List VB} {k:LK} {A:List ai} {ms:List Nat} {w0 w:ae} (hg:Gl gS ids) (hl:ids.length=bl.length) (S:St ms w0 (lits ids ids bl++A) w) (h:bl[0]?=some (b9 k)):w.heap[1]?=some (.cells (au .u32 64 cH) k.tg (0,0)):=by
 have h1:=(fE hl S h).2;rw[(hg 1 0 rfl).2]at h1;have e:(ah ids (b9 k).c).toArray=au .u32 64 cH:=by kernel_rfl
 rw[e]at h1;exact h1
def Hk:c_ (Gh fr):=λargs bl ch K=>match args,ch with
 |[.agg [.int .i64 m,.bool o,.bJ .u8 8 nc],.raw vk,.int .i64 s],g::rest=>
  (vk=.slice (g.d.k.ka 3) (g.d.k.kn 3) (g.d.k.kc 3)/\bl[0]?=some (b9 g.d.k)/\(0<=s/\s<4294967296)/\(0<=m/\m<=9223372036854775807)/\(1<=g.d.k.kn 3/\g.d.k.kn 3<=64))/\
  cond (decide (4294967295<=m)) (K (.an [.agg [.int .i64 m,.bool o,.bJ .u8 8 nc],.int .i64 24]) bl (g::rest)) (K (.an [.agg [.int .i64 (m+1),.bool true,.bJ .u8 8 (jk (g.d.k.kn 3) (g.d.k.kf 3) s (m+1))],.int .i64 0]) bl (g::rest))
 |_,_=>False
theorem aoz:Sound prog gS 146 (Hk (fr:=fr)):=by
 intro args ids bl ch R ms w0 w K hg hl S hc;unfold Hk at hc;split at hc
 ·rename_i m o nc vk s g rest;obtain⟨⟨rfl,hr,hs,hm,hk⟩,hK⟩:=hc;have e0:ax (g::rest) R=g.F.B++ax rest R:=rfl;have S':=S;rw[e0]at S';have y9:=aba g.F S' 3 (by decide) (by omega) (by omega);have kI:=abb hg hl S hr;by_cases h:4294967295<=m
  ·rw[show decide (4294967295<=m)=true by simp[h]]at hK;have hc:=ajB (g.d.k.ka 3) (g.d.k.kn 3) (g.d.k.kc 3) (g.d.k.kf 3) s ⟨m,o,nc⟩ h hm.2 w;have e:(aD ids [.agg [.int .i64 m,.bool o,.bJ .u8 8 nc],.raw (.slice (g.d.k.ka 3) (g.d.k.kn 3) (g.d.k.kc 3)),.int .i64 s]).toArray=#[.agg #[.int .i64 m,.bool o,.int .u8 (nc 0),.int .u8 (nc 1),.int .u8 (nc 2),.int .u8 (nc 3),.int .u8 (nc 4),.int .u8 (nc 5),.int .u8 (nc 6),.int .u8 (nc 7)],.slice (g.d.k.ka 3) (g.d.k.kn 3) (g.d.k.kc 3),.int .i64 s]:=by kernel_rfl
   rw[e];refine hc.mono ?_;rintro v w1 ⟨rfl,cn⟩;exact⟨_,[],bl,g::rest,by kernel_rfl,by simpa using hl,by simpa using S.quiet cn,hK⟩
  ·rw[show decide (4294967295<=m)=false by simp[h]]at hK;have hc:=ajC (g.d.k.ka 3) (g.d.k.kn 3) (g.d.k.kc 3) (g.d.k.kf 3) s ⟨m,o,nc⟩ hk hs ⟨hm.1,Int.not_le.1 h⟩ w kI y9;have e:(aD ids [.agg [.int .i64 m,.bool o,.bJ .u8 8 nc],.raw (.slice (g.d.k.ka 3) (g.d.k.kn 3) (g.d.k.kc 3)),.int .i64 s]).toArray=#[.agg #[.int .i64 m,.bool o,.int .u8 (nc 0),.int .u8 (nc 1),.int .u8 (nc 2),.int .u8 (nc 3),.int .u8 (nc 4),.int .u8 (nc 5),.int .u8 (nc 6),.int .u8 (nc 7)],.slice (g.d.k.ka 3) (g.d.k.kn 3) (g.d.k.kc 3),.int .i64 s]:=by kernel_rfl
   rw[e];refine hc.mono ?_;rintro v w1 ⟨rfl,cn⟩;exact⟨.an [.agg [.int .i64 (m+1),.bool true,.bJ .u8 8 (jk (g.d.k.kn 3) (g.d.k.kf 3) s (m+1))],.int .i64 0],[],bl,g::rest,by kernel_rfl,by simpa using hl,by simpa using S.quiet cn,hK⟩
 ·exact hc.elim
def eA (k:LK):ab:=.slice k.px k.pn k.pc
def BD (C:Sd.aL):c_ (Gh fr):=λargs bl ch K=>match args,ch with
 |[.raw vp],g::rest=>(vp=eA g.d.k/\g.d.k.pn<=1000/\By g.d.k.pf)/\(∀m,C.take g.d.k.pn g.d.k.pf=some m->K (.an [.agg (cI m),.int .i64 0]) bl (g::rest))/\
  (C.take g.d.k.pn g.d.k.pf=none->∀m c,c≠0->K (.an [.agg (cI m),.int .i64 c]) bl (g::rest))
 |_,_=>False
def LH (fr:Sd.aE->Nat×Sd.av) (C:Sd.aL):List (bK (Gh fr)):=⟨143,true,BD C⟩::⟨146,true,Hk⟩::L8 fr C
def y_ (s:Sd.aa) (a b c:Sd.dT):Sd.aa:={s with c:={s.c with doors:=r3 a b c s.c.doors,ag:=⟨s.c.ag.c9,r3 (s.c.ag.aj 0) (s.c.ag.aj 1) (s.c.ag.aj 2) s.c.ag.aj⟩}}
def Td (d:Sd.dT):List V:=[.int .i64 d.many,.bool d.g_,.bJ .u8 8 d.aw]
section
variable(C:Sd.aL) (k:LK) (s:Sd.aa) (F:aW fr (aR k s)) (Kb:SK fr k) (l:Int) (d:Sd.dT) (D:Sd.dT->Sd.aa)
def wU (k:LK) (l:Int) (d:Sd.dT):Sd.dT:=⟨d.many+1,true,jk (k.kn 3) (k.kf 3) l (d.many+1)⟩
def Lz (hD:∀e,aR k (D e)=aR k s) (m:Sd.aY) (c:Int):Prop:=cond (c !=0) (cv k s F/\qe C [.int .i64 l,.int .i64 13] k (bQ s) F λv s' F'=>cx k s Kb (.an []) (bz k s' F'++[⟨true,⟨66,(0,0)⟩,cI m⟩]) [a_ k s' F'])
 (True/\cond (!(Sd.iq s.c.p l m.role)) (cv k s F/\lJ C [.int .i64 l,.int .i64 0,.int .i64 18] k (bQ s) F λv s' F'=>cx k s Kb (.an []) (bz k s' F'++[⟨true,⟨66,(0,0)⟩,cI m⟩]) [a_ k s' F'])
  ((EB (k.ka 3) (k.kn 3) (k.kc 3)=.slice (k.ka 3) (k.kn 3) (k.kc 3)/\some (b9 k)=some (b9 k)/\(0<=l/\l<4294967296)/\(0<=d.many/\d.many<=9223372036854775807)/\(1<=k.kn 3/\k.kn 3<=64))/\
    cond (decide (4294967295<=d.many)) (cv k s F/\lJ C [.int .i64 l,.int .i64 0,.int .i64 24] k (bQ s) F λv s' F'=>cx k s Kb (.an []) (bz k s' F'++[⟨true,⟨66,(0,0)⟩,cI m⟩,⟨true,⟨102,(0,0)⟩,Td d⟩]) [a_ k s' F'])
    (cv k (D (wU k l d)) (hD (wU k l d)▸F)/\dI [.int .i64 l,.agg [.int .i64 129,.int .i64 0,.int .i64 0,.int .i64 0,.int .i64 0,.int .i64 0,.bJ .u8 8 (wU k l d).aw]] k (D (wU k l d)) (hD (wU k l d)▸F) λv s2 F2=>
     cv k s2 F2/\jn C [.int .i64 2,.int .i64 l,.int .i64 0,.int .i64 0,.int .i64 0] k (bQ s2) F2 λv s' F'=>cx k s Kb (.an []) (bz k s' F'++[⟨true,⟨66,(0,0)⟩,cI m⟩,⟨true,⟨102,(0,0)⟩,Td (wU k l d)⟩]) [a_ k s' F'])))
end
def Te (fr:Sd.aE->Nat×Sd.av) (C:Sd.aL) (l:Int) (i:Nat) (D:Sd.aa->Sd.dT->Sd.aa) (hD:∀k s e,aR k (D s e)=aR k s):Prop:=∀(k:LK) (s:Sd.aa) (F:aW fr (aR k s)) (Kb:SK fr k),bo (bP prog gS (LH fr C)) 90 98 [.ptr 2 0,.int .i64 l,.raw (eA k)] (bz k s F) [a_ k s F] (cx k s Kb)
 =((eA k=eA k/\k.pn<=1000/\By k.pf)/\(∀m,C.take k.pn k.pf=some m->Lz C k s F Kb l (s.c.doors i) (D s) (hD k s) m 0)/\(C.take k.pn k.pf=none->∀m c,c≠0->Lz C k s F Kb l (s.c.doors i) (D s) (hD k s) m c))
theorem aoA (fr:Sd.aE->Nat×Sd.av) (C:Sd.aL):Te fr C 1 0 (λs e=>y_ s e (s.c.doors 1) (s.c.doors 2)) (λ_ _ _=>rfl):=λk s F Kb=>by kernel_rfl
theorem aoB (fr:Sd.aE->Nat×Sd.av) (C:Sd.aL):Te fr C 2 1 (λs e=>y_ s (s.c.doors 0) e (s.c.doors 2)) (λ_ _ _=>rfl):=λk s F Kb=>by kernel_rfl
theorem aoC (fr:Sd.aE->Nat×Sd.av) (C:Sd.aL):Te fr C 3 2 (λs e=>y_ s (s.c.doors 0) (s.c.doors 1) e) (λ_ _ _=>rfl):=λk s F Kb=>by kernel_rfl
def qj (s:Sd.aa) (i:Nat) (e:Sd.dT):Sd.aa:={s with c:={s.c with doors:=λj=>if j=i then e else s.c.doors j}}
theorem wV {s:Sd.aa} {a b c:Sd.dT} {i:Nat} {e:Sd.dT} (hi:i<3) (ha:a=if 0=i then e else s.c.doors 0) (hb:b=if 1=i then e else s.c.doors 1) (hc:c=if 2=i then e else s.c.doors 2):y_ s a b c=qj s i e:=by
 unfold y_ qj;rw[K1];have h:r3 a b c s.c.doors=λj=>if j=i then e else s.c.doors j:=by
  funext j
  match j with
  |0=>exact ha
  |1=>exact hb
  |2=>exact hc
  |j+3=>exact(if_neg (by omega)).symm
 rw[h]
end
section
open Go Go.RowKit Go.BigFrame Sx
def Tf (n m:Int):Int:=(Int.tmod n m+m)%m
theorem aoD (n:Int):bits .and .i64 n 14=n%16-n%2:=by
 have DL:=qI .i64 n 15 16 4 (by decide) (by decide) (by decide);have h1:=qI .i64 n 1 2 1 (by decide) (by decide) (by decide);unfold bits at*;simp only[BitVec.toNat_and]at*;have hk:∀m:Nat,m&&&14=(m&&&15)-(m&&&1):=by
  intro m;have e1:m&&&15=m%16:=adW m 4;have e2:m&&&1=m%2:=adW m 1;have e3:m&&&14=(m%16)&&&14:=by
   rw[<-e1,Nat.and_assoc];rfl
  have e4:m%2=(m%16)%2:=by omega
  rw[e1,e2,e3,e4];have h:m%16<16:=Nat.mod_lt _ (by omega);generalize m%16=k at h
  match k,h with
  |0,_=>rfl|1,_=>rfl|2,_=>rfl|3,_=>rfl|4,_=>rfl|5,_=>rfl|6,_=>rfl|7,_=>rfl
  |8,_=>rfl|9,_=>rfl|10,_=>rfl|11,_=>rfl|12,_=>rfl|13,_=>rfl|14,_=>rfl|15,_=>rfl
  |k+16,h=>exact absurd h (by omega)
 have c14:(n8 i64.bits 14).toNat=14:=by decide
 have c15:(n8 i64.bits 15).toNat=15:=by decide
 have c1:(n8 i64.bits 1).toNat=1:=by decide
 rw[c14];rw[c15]at DL;rw[c1]at h1;rw[hk];generalize (n8 i64.bits n).toNat=m at*;have aww:m&&&15<16:=Nat.lt_of_le_of_lt Nat.and_le_right (by omega);have gY:m&&&1<2:=Nat.lt_of_le_of_lt Nat.and_le_right (by omega);have w15:i64.wrap ((m&&&15:Nat):Int)=((m&&&15:Nat):Int):=by rw[ad6];omega
 have w1:i64.wrap ((m&&&1:Nat):Int)=((m&&&1:Nat):Int):=by rw[ad6];omega
 rw[w15]at DL;rw[w1]at h1;rw[ad6];omega
def Sw1 (k a b c:Int):Prop:=(k=0/\a=1/\b=2/\c=3)\/(k=1/\a=2/\b=1/\c=3)\/(k=2/\a=3/\b=2/\c=1)
def Hl (q:Nat->Int) (o1 o2 o3:Int):Prop:=∃b c,Sw1 (Tf (q 1) 3) o1 b c/\((Tf (q 2) 2=0/\o2=b/\o3=c)\/(Tf (q 2) 2=1/\o2=c/\o3=b))
theorem Hl.perm {q:Nat->Int} {o1 o2 o3:Int} (h:Hl q o1 o2 o3):(o1=1/\o2=2/\o3=3)\/(o1=1/\o2=3/\o3=2)\/(o1=2/\o2=1/\o3=3)\/(o1=2/\o2=3/\o3=1)\/(o1=3/\o2=1/\o3=2)\/(o1=3/\o2=2/\o3=1):=by
 obtain⟨b,c,h1,h2⟩:=h;rcases h1 with⟨_,rfl,rfl,rfl⟩|⟨_,rfl,rfl,rfl⟩|⟨_,rfl,rfl,rfl⟩<;>rcases h2 with⟨_,rfl,rfl⟩|⟨_,rfl,rfl⟩<;>simp
theorem Hl.one {q:Nat->Int} {a b c a' b' c':Int} (h:Hl q a b c) (k:Hl q a' b' c'):a=a'/\b=b'/\c=c':=by
 obtain⟨_,_,h1,h2⟩:=h;obtain⟨_,_,k1,k2⟩:=k;rcases h1 with⟨e,rfl,rfl,rfl⟩|⟨e,rfl,rfl,rfl⟩|⟨e,rfl,rfl,rfl⟩<;>rcases k1 with⟨f,rfl,rfl,rfl⟩|⟨f,rfl,rfl,rfl⟩|⟨f,rfl,rfl,rfl⟩<;>first|(exfalso;rw[e]at f;revert f;decide)|(rcases h2 with⟨e2,rfl,rfl⟩|⟨e2,rfl,rfl⟩<;>rcases k2 with⟨f2,rfl,rfl⟩|⟨f2,rfl,rfl⟩<;>first|(exfalso;rw[e2]at f2;revert f2;decide)|exact⟨rfl,rfl,rfl⟩)
def Tg (ms:List Nat) (w0:ae) (a:Option aO) (n c:Nat) (kb:Nat->Int):Prop:=n<=c/\(a=none->n=0/\c=0)/\∀ad,a=some ad->ad.block∉ms/\∀j,j<n->w0.cell? (ad.add j)=some (.int .u8 (kb j))
end
end Go.Proofs.YtggfpcggakghnaaGreatDoor
