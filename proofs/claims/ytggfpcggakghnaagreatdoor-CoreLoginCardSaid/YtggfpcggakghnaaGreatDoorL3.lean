/- Part 3 of the proof. -/
import Derived.Test.YtggfpcggakghnaaGreatDoorProg
import Derived.Test.YtggfpcggakghnaaGreatDoorRows
import Derived.Test.YtggfpcggakghnaaGreatDoorL2
set_option linter.all false
set_option maxRecDepth 100000
set_option maxHeartbeats 4000000
noncomputable section
open Go.Proofs.Tryz
open Go.IntKind (u8 u16 u32 u64 i64)
open Array renaming ext'->eO
open BitVec renaming ofInt->jq
open Bool renaming and_eq_true->a_,not_eq_true'->lv
open Go renaming TypeId->aD,Addr->aI,Value->ab,World->ae,FuncId->eN,wp_ret->gh,wp_block->iL
open Go.IntKind renaming wrap_i64->acD,bits->pJ,signed->pL,wrap->sE,wrap_u8->wA
open Go.Value renaming slice->DP,int->dT
open Int renaming lt_asymm->H0,ofNat->cU
open List renaming singleton_append->DL,length_nil->HW,take_length->UA,length_singleton->Uv,take_zero->Uz,append_assoc->bN,mem_cons->bY,range->bh,append_nil->cI,map_cons->eQ,cons_append->fb,nil_append->fc,length_append->fi,getElem?_append_left->gI,getElem?_map->iI,getElem?_eq_getElem->iK,getElem?_toArray->iX,take_append_drop->iZ,mem_singleton->i_,getElem?_eq_none->ig,getD->ij,countP_append->ik,perm_middle->jH,length_cons->ly,eq_nil_of_length_eq_zero->mE,getElem?_range->mF,sublist_append_right->n8,not_mem_nil->n9,map_congr_left->pH,map_append->qT,perm_append_comm_assoc->qV,length_take->uk,ext_getElem?->um,map_nil->uw,any_eq_true->yA,getElem?_append_right->yB
open List.Perm renaming append_right->DG,trans->DO,swap->Mw,append_left->pI,cons->ui
open List.Sublist renaming cons_cons->H2,append_right->acB,append_left->yE
open List.cons renaming inj->uq
open Nat renaming and_two_pow_sub_one_eq_mod->acu,beq->ax,eq_of_beq_eq_true->b9,ble->bA,lt_or_ge->cE,blt->cj,le_refl->dE,zero_add->eh,blt_eq->gV,add_mul->lU,add_zero->nZ,beq_refl->qS,eq_zero_or_pos->uh,add_assoc->yF
open Option.some renaming injEq->aS,inj->ck
open Prod.mk renaming injEq->bd
namespace Go.Proofs.YtggfpcggakghnaaGreatDoor
section
open Go Go.RowKit Go.BigFrame Sx Vx
def ji (lo hi n:Int):Bool:=decide (lo<=n)&&decide (n<=hi)
def oW (a b c k:Int):Bool:=k==a||(k==b||k==c)
def FX (q:Nat->Int):Bool:=q 0==0&&(q 4==4&&(oW (q 1) (q 2) (q 3) 1&&(oW (q 1) (q 2) (q 3) 2&&oW (q 1) (q 2) (q 3) 3)))
def rP (n:Nat):Bool:=decide (1<=(n:Int))&&decide ((n:Int)<=64)
def na (n:Int):Bool:=ji 0 15 n&&n%2==0
def allI (lo hi:Int):List Int->Bool
 |[]=>true
 |x::xs=>ji lo hi x&&allI lo hi xs
def xO (kn:Nat->Nat):Bool:=rP (kn 0)&&(rP (kn 1)&&rP (kn 2))
def Aa (q:Nat->Int):Bool:=na (q 10)&&(na (q 11)&&na (q 12))
def FY (q:Nat->Int):Bool:=allI 0 15 [q 14,q 15,q 16,q 17]&&(allI 0 15 [q 18,q 19,q 20,q 21]&&(allI 0 15 [q 22,q 23,q 24,q 25]&&(allI 0 15 [q 26,q 27,q 28,q 29]&&allI 0 15 [q 30,q 31,q 32,q 33])))
def k_ (q:Nat->Int) (kn:Nat->Nat):Int:=
 if FX q=false then 40 else if(xO kn&&rP (kn 3))=false then 41 else if(q 9==1&&(q 13==0&&Aa q))=false then 42
 else if FY q=false then 43
 else if allI 0 31 [q 34,q 35,q 36,q 37,q 38]=false then 44
 else if allI 0 4 [q 39,q 40,q 41]=false then 45 else if allI 1 1000 [q 42,q 43,q 44,q 45]=false then 46 else if(ji 1 1000 (q 46)&&ji 0 1000 (q 47))=false then 47 else if allI 1 3 [q 48,q 49]=false then 48
 else if(q 50==0&&(allI 0 1000 [q 51,q 52,q 53]&&ji 1 1000 (q 54)))=false then 49 else if ji 0 65535 (q 55)=false then 50 else 0
def CK (lo hi n:Int) (X Y:Prop):Prop:=cond (decide (lo<=n)) (cond (!decide (n<=hi)) Y X) Y
def JZ (n:Int) (X Y:Prop):Prop:=cond (decide (0<=n)) (cond (decide (n<=15)) (cond (!(Int.tmod n 2==0)) Y X) Y) Y
def vK (lo hi:Int) (Y:Prop):List Int->Prop->Prop
 |[],X=>X
 |n::l,X=>CK lo hi n (vK lo hi Y l X) Y
theorem FZ {lo hi n:Int} {X Y:Prop} (h:ji lo hi n=true->X) (k:ji lo hi n=false->Y):CK lo hi n X Y:=
 aH (λa=>aH (λb=>k (by rw[ji,a];simpa using b)) λb=>h (by rw[ji,a];simpa using b)) λa=>k (by rw[ji,a];rfl)
theorem QO {n:Int} {X Y:Prop} (h:na n=true->X) (k:na n=false->Y):JZ n X Y:=by
 refine aH (λa=>aH (λb=>?_) λb=>k (by simp only[na,ji,a,b];rfl)) λa=>k (by simp only[na,ji,a];rfl);have e:Int.tmod n 2=n%2:=Int.tmod_eq_emod_of_nonneg (of_decide_eq_true a);exact aH (λc=>k (by simp only[na,ji,a,b];rw[e]at c;simpa using c)) λc=>h (by simp only[na,ji,a,b];rw[e]at c;simpa using c)
theorem xP {lo hi:Int} {X Y:Prop}:∀{l:List Int},(allI lo hi l=true->X)->(allI lo hi l=false->Y)->vK lo hi Y l X
 |[],h,_=>h rfl
 |n::l,h,k=>FZ (λa=>xP (λb=>h (by rw[allI,a,b];rfl)) λb=>k (by rw[allI,a,b];rfl)) λa=>k (by rw[allI,a];rfl)
def dup (X:Prop):Prop:=X/\X
theorem QP {X:Prop} (h:X):dup X:=⟨h,h⟩
def lb (a b c d e:Int):Bool:=a==0&&(e==4&&(oW b c d 1&&(oW b c d 2&&oW b c d 3)))
def QQ:QF:=⟨57,λargs _=>match args with
 |[.agg [.int .i64 a,.int .i64 b,.int .i64 c,.int .i64 d,.int .i64 e]]=>some (True,.bool (lb a b c d e))
 |_=>none⟩
def Ab (b c d k:Int) (X Y:Prop):Prop:=cond (k==b) X (cond (k==c) X (cond (k==d) X Y))
theorem QU {b c d k:Int} {X Y:Prop} (h:oW b c d k=true->X) (n:oW b c d k=false->Y):Ab b c d k X Y:=
 aH (λa=>h (by rw[oW,a];rfl)) λa=>aH (λe=>h (by rw[oW,a,e];rfl)) λe=>aH (λf=>h (by rw[oW,a,e,f];rfl)) λf=>n (by rw[oW,a,e,f];rfl)
theorem ajA (a b c d e:Int) (K:V->Prop):dL prog [] 60 57 [.agg [.int .i64 a,.int .i64 b,.int .i64 c,.int .i64 d,.int .i64 e]] K
 =cond (a !=0) (K (.bool false)) (cond (e !=4) (K (.bool false)) (Ab b c d 1 (Ab b c d 2 (Ab b c d 3 (K (.bool true)) (K (.bool false))) (K (.bool false))) (K (.bool false)))):=by kernel_rfl
theorem ajB (a b c d e:Int) (w:ae):aQ prog 57 #[.agg #[.int .i64 a,.int .i64 b,.int .i64 c,.int .i64 d,.int .i64 e]] w λv w1=>v=.bool (lb a b c d e)/\Ch [] w w1:=by
 have h:cond (a !=0) ((V.bool false)=.bool (lb a b c d e)) (cond (e !=4) ((V.bool false)=.bool (lb a b c d e)) (Ab b c d 1 (Ab b c d 2 (Ab b c d 3 ((V.bool true)=.bool (lb a b c d e)) ((V.bool false)=.bool (lb a b c d e))) ((V.bool false)=.bool (lb a b c d e))) ((V.bool false)=.bool (lb a b c d e)))):=by
  refine aH (λh=>?_) λh=>aH (λg=>?_) λg=>QU (λx=>QU (λy=>QU (λz=>?_) λz=>?_) λy=>?_) λx=>?_
  ·have h':(a==0)=false:=by simpa using h
   rw[lb,h'];rfl
  all_goals have h':(a==0)=true:=by simpa using h
  ·have g':(e==4)=false:=by simpa using g
   rw[lb,h',g'];rfl
  all_goals have g':(e==4)=true:=by simpa using g
  ·rw[lb,h',g',x,y,z];rfl
  ·rw[lb,h',g',x,y,z];rfl
  ·rw[lb,h',g',x,y];rfl
  ·rw[lb,h',g',x];rfl
 refine gB (L:=[]) bF.nil (n:=60) (xs:=[.agg [.int .i64 a,.int .i64 b,.int .i64 c,.int .i64 d,.int .i64 e]]) (v:=.bool (lb a b c d e)) (Hd.h (Hd.mk ?_));rw[ajA];exact h
theorem ajC (gl:Nat->Option Nat):QQ.Ok prog gl:=by
 intro args bl p_ v_ h hp ids w _ _;unfold QQ at h;dsimp only at h;split at h
 ·rename_i a b c d e;simp only[aS,bd]at h;obtain⟨rfl,rfl⟩:=h;exact told (ajB a b c d e w)
 ·cases h
def QW (q:Nat->Int) (kn:Nat->Nat) (K:V->Prop):Prop:=
 let E:=λn:Int=>K (.int .i64 n)
 cond (!(lb (q 0) (q 1) (q 2) (q 3) (q 4))) (E 40)<|vK 1 64 (E 41) [(kn 0:Int),(kn 1:Int),(kn 2:Int),(kn 3:Int)]<|cond (q 9!=1) (E 42)<|cond (q 13!=0) (E 42)<|(λX=>JZ (q 10) (JZ (q 11) (JZ (q 12) X (E 42)) (E 42)) (E 42))<|
 vK 0 15 (E 43) [q 14,q 15,q 16,q 17,q 18,q 19,q 20,q 21,q 22,q 23,q 24,q 25,q 26,q 27,q 28,q 29,q 30,q 31,q 32,q 33]<|vK 0 31 (E 44) [q 34,q 35,q 36,q 37,q 38]<|dup<|vK 0 4 (E 45) [q 39,q 40,q 41]<|dup<|vK 1 1000 (E 46) [q 42,q 43,q 44,q 45]<|
 (λX=>CK 1 1000 (q 46) (CK 0 1000 (q 47) X (E 47)) (E 47))<|dup<|vK 1 3 (E 48) [q 48,q 49]<|cond (q 50!=0) (E 49)<|vK 0 1000 (E 49) [q 51,q 52,q 53]<|CK 1 1000 (q 54) (CK 0 65535 (q 55) (E 0) (E 50)) (E 49)
def CL (n:Int):VB:=⟨true,⟨3,(0,0)⟩,[.int .i64 n]⟩
def F5:cP Empty:=λargs bl ch K=>match args with
 |[.int .i64 lo,.int .i64 hi]=>cond (bI bl.length bl) (K (.fn 104 [] [.ptr bl.length 0,.ptr (bl.length+1) 0]) (bl++[CL lo,CL hi]) ch) False
 |_=>False
theorem ajD (lo hi:Int) (K:VK Empty):bu (bQ prog (λ_=>none) ([]:List (bK Empty))) 20 64 [.int .i64 lo,.int .i64 hi] [] [] K=K (.fn 104 [] [.ptr 0 0,.ptr 1 0]) [CL lo,CL hi] []:=by kernel_rfl
theorem ajE:Sound prog (λ_=>none) 64 F5:=by
 intro args ids bl ch R ms w0 w K hg hl S hc;unfold F5 at hc;split at hc
 ·rename_i lo hi;cases hq:bI bl.length bl with
  |false=>rw[hq]at hc;exact hc.elim
  |true=>
   rw[hq]at hc;have hv:bu (bQ prog (λ_=>none) ([]:List (bK Empty))) 20 64 [.int .i64 lo,.int .i64 hi] [] [] (λv b c=>v=.fn 104 [] [.ptr 0 0,.ptr 1 0]/\b=[CL lo,CL hi]/\c=[]):=by rw[ajD];exact⟨rfl,rfl,rfl⟩
   refine(eD (aG.nil (P:=prog) (gl:=λ_=>none)).T aG.nil.Q 20 (C:=bQ prog (λ_=>none) ([]:List (bK Empty))) (ids:=[]) (bl:=[]) (ch:=[]) (R:=[]) (ms:=[]) (w0:=w) (w:=w) Gl.none rfl (St.nil [] w) hv).mono ?_;rintro x w' ⟨y,more,bl',ch',rfl,h1,S',rfl,rfl,rfl⟩
   match more,h1 with
   |[b1,b2],_=>
    have S2:=S.beside S' (bl:=[⟨b1,true,.cells #[.int .i64 lo] 3 (0,0)⟩,⟨b2,true,.cells #[.int .i64 hi] 3 (0,0)⟩]) (Wr.cons rfl (Wr.cons rfl Wr.nil));refine⟨_,[b1,b2],_,ch,?_,by simp[hl],?_,hc⟩
    ·simp only[den,aA,<-hl];simp[ij]
    ·rw[eZ _ _ _ _ hl,e_ _ _ (by rw[hl];exact hq),bN];refine S2.perm ?_;exact(qV [_,_] (lits ids ids bl) (av ch R))
 ·exact hc.elim
theorem ajF:tn prog (λ_=>none) ⟨64,true,F5⟩:=⟨ajE,λ_ args bl ch K h=>by
 simp only at h⊢;unfold F5 at h⊢;split at h
 ·cases hq:bI bl.length bl with
  |false=>rw[hq]at h;exact h.elim
  |true=>rw[hq]at h;exact⟨h,_,rfl⟩
 ·exact h.elim⟩
def QX:List (bK Empty):=⟨64,true,F5⟩::qL Empty [QQ]
theorem YZ:aG prog (λ_=>none) QX:=aG.cons ajF (kD (bF.cons (ajC _) bF.nil))
def Y0 (n:Nat) (f:eN) (args:List V) (X:V->Prop):Prop:=bu (bQ prog (λ_=>none) QX) n f args [] [] λv _ _=>X v
theorem ajG (p:Sd.aJ) (ka:Nat->Option aI) (kn kc:Nat->Nat) (K:V->Prop):Y0 60 27 [.agg (eK p ka kn kc)] K=(True/\QW p.i kn K):=by kernel_rfl
theorem ajH (q:Nat->Int) (kn:Nat->Nat):QW q kn (·=.int .i64 (k_ q kn)):=by
 have k4:allI 1 64 [(kn 0:Int),(kn 1:Int),(kn 2:Int),(kn 3:Int)]=(xO kn&&rP (kn 3)):=by simp only[allI,ji,xO,rP,Bool.and_assoc,Bool.and_true]
 have t5:allI 0 15 [q 14,q 15,q 16,q 17,q 18,q 19,q 20,q 21,q 22,q 23,q 24,q 25,q 26,q 27,q 28,q 29,q 30,q 31,q 32,q 33]=FY q:=by simp only[allI,FY,Bool.and_assoc,Bool.and_true]
 unfold QW k_;refine aH (λh=>?_) λh=>?_
 ·have h0:FX q=false:=(by simpa using h:lb (q 0) (q 1) (q 2) (q 3) (q 4)=false);rw[if_pos h0]
 have h0:FX q=true:=(by simpa using h:lb (q 0) (q 1) (q 2) (q 3) (q 4)=true);clear h;refine xP (λh1=>?_) λh1=>?_<;>rw[k4]at h1
 ·refine aH (λa=>?_) λa=>aH (λb=>?_) λb=>QO (λc=>QO (λd=>QO (λe=>?_) λe=>?_) λd=>?_) λc=>?_
  ·have a':(q 9==1)=false:=by simpa using a
   simp[h0,h1,a']
  all_goals have a':(q 9==1)=true:=by simpa using a
  ·have b':(q 13==0)=false:=by simpa using b
   simp[h0,h1,a',b']
  all_goals have b':(q 13==0)=true:=by simpa using b
  ·have r:Aa q=true:=by simp[Aa,c,d,e]
   have h2:(q 9==1&&(q 13==0&&Aa q))=true:=by rw[a',b',r];rfl
   refine xP (λh3=>?_) λh3=>?_<;>rw[t5]at h3
   ·refine xP (λh4=>QP (xP (λh5=>QP (xP (λh6=>FZ (λh7=>FZ (λh8=>QP (xP (λh9=>aH (λu=>?_) λu=>xP (λv=>FZ (λx=>FZ (λy=>?_) λy=>?_) λx=>?_) λv=>?_) λh9=>?_)) λh8=>?_) λh7=>?_) λh6=>?_)) λh5=>?_)) λh4=>?_
    ·have u':(q 50==0)=false:=by simpa using u
     simp[h0,h1,h2,h3,h4,h5,h6,h7,h8,h9,u']
    iterate 4
     ·have u':(q 50==0)=true:=by simpa using u
      simp[h0,h1,h2,h3, *]
    all_goals simp[h0,h1,h2,h3, *]
   ·simp[h0,h1,h2,h3]
  all_goals simp[h0,h1,a',b',Aa, *]
 ·simp[h0,h1]
theorem ajI (q:Nat->Int) (ka:Nat->Option aI) (kn kc:Nat->Nat) (w:ae):aQ prog 27 #[.agg (z_ q ka kn kc)] w λv w1=>v=.int .i64 (k_ q kn)/\Ch [] w w1:=by
 have h:Y0 60 27 [.agg (eK ⟨q,λ_=>(0,λ_=>0)⟩ ka kn kc)] (·=.int .i64 (k_ q kn)):=by rw[ajG];exact⟨trivial,ajH q kn⟩
 refine(eD YZ.T YZ.Q 60 (C:=bQ prog (λ_=>none) QX) (ids:=[]) (bl:=[]) (ch:=[]) (R:=[]) (ms:=[]) (w0:=w) (w:=w) Gl.none rfl (St.nil [] w) h).mono ?_;rintro x w' ⟨y,more,bl',ch',rfl,h1,S,rfl⟩;exact⟨rfl,S.ch⟩
end
section
open Go Go.RowKit Go.BigFrame Sx
def f3 {α:Type} (a b c:α):Nat->α:=λj=>match j with|0=>a|1=>b|_=>c
def qG (p:Sd.aJ) (ka:Nat->Option aI) (kn kc:Nat->Nat) (t:Sd.Tok) (bq:Nat) (D:Nat->Sd.dG) (bt:Nat) (sa be mo:Int) (mb:Sd.Label) (pt:Sd.eu) (hd:Nat->Int):Array ab:=#[.int .i64 (p.i 0),.int .i64 (p.i 1),.int .i64 (p.i 2),.int .i64 (p.i 3),.int .i64 (p.i 4),.slice (ka 0) (kn 0) (kc 0),.slice (ka 1) (kn 1) (kc 1),.slice (ka 2) (kn 2) (kc 2),.slice (ka 3) (kn 3) (kc 3),.int .i64 (p.i 9),.int .i64 (p.i 10),.int .i64 (p.i 11),.int .i64 (p.i 12),.int .i64 (p.i 13),.int .i64 (p.i 14),.int .i64 (p.i 15),.int .i64 (p.i 16),.int .i64 (p.i 17),.int .i64 (p.i 18),.int .i64 (p.i 19),.int .i64 (p.i 20),.int .i64 (p.i 21),.int .i64 (p.i 22),.int .i64 (p.i 23),.int .i64 (p.i 24),.int .i64 (p.i 25),.int .i64 (p.i 26),.int .i64 (p.i 27),.int .i64 (p.i 28),.int .i64 (p.i 29),.int .i64 (p.i 30),.int .i64 (p.i 31),.int .i64 (p.i 32),.int .i64 (p.i 33),.int .i64 (p.i 34),.int .i64 (p.i 35),.int .i64 (p.i 36),.int .i64 (p.i 37),.int .i64 (p.i 38),.int .i64 (p.i 39),.int .i64 (p.i 40),.int .i64 (p.i 41),.int .i64 (p.i 42),.int .i64 (p.i 43),.int .i64 (p.i 44),.int .i64 (p.i 45),.int .i64 (p.i 46),.int .i64 (p.i 47),.int .i64 (p.i 48),.int .i64 (p.i 49),.int .i64 (p.i 50),.int .i64 (p.i 51),.int .i64 (p.i 52),.int .i64 (p.i 53),.int .i64 (p.i 54),.int .i64 (p.i 55),.int .i64 t.aE,.int .i64 t.af,.int .i64 t.offer,.int .i64 t.oa.n,.int .i64 t.oa.most,.int .i64 t.la.n,.int .i64 t.la.most,.bool t.bad,.pointer (some ⟨bq,0,none⟩),.int .i64 (D 0).many,.bool (D 0).gy,.int .u8 ((D 0).au 0),.int .u8 ((D 0).au 1),.int .u8 ((D 0).au 2),.int .u8 ((D 0).au 3),.int .u8 ((D 0).au 4),.int .u8 ((D 0).au 5),.int .u8 ((D 0).au 6),.int .u8 ((D 0).au 7),.int .i64 (D 1).many,.bool (D 1).gy,.int .u8 ((D 1).au 0),.int .u8 ((D 1).au 1),.int .u8 ((D 1).au 2),.int .u8 ((D 1).au 3),.int .u8 ((D 1).au 4),.int .u8 ((D 1).au 5),.int .u8 ((D 1).au 6),.int .u8 ((D 1).au 7),.int .i64 (D 2).many,.bool (D 2).gy,.int .u8 ((D 2).au 0),.int .u8 ((D 2).au 1),.int .u8 ((D 2).au 2),.int .u8 ((D 2).au 3),.int .u8 ((D 2).au 4),.int .u8 ((D 2).au 5),.int .u8 ((D 2).au 6),.int .u8 ((D 2).au 7),.pointer (some ⟨bt,0,none⟩),.int .i64 sa,.int .i64 be,.int .i64 mo,.int .i64 mb.lY,.int .i64 mb.source,.int .i64 mb.seq,.int .i64 pt.cls,.int .i64 pt.aV.a,.int .i64 pt.aV.b,.int .i64 pt.aV.c,.int .i64 pt.aV.d,.int .i64 pt.now.a,.int .i64 pt.now.b,.int .i64 pt.now.c,.int .i64 pt.now.d,.int .i64 pt.bG.lY,.int .i64 pt.bG.source,.int .i64 pt.bG.seq,.int .u8 (hd 0),.int .u8 (hd 1),.int .u8 (hd 2),.int .u8 (hd 3),.int .u8 (hd 4),.int .u8 (hd 5),.int .u8 (hd 6),.int .u8 (hd 7),.int .u8 (hd 8),.int .u8 (hd 9),.int .u8 (hd 10),.int .u8 (hd 11),.int .u8 (hd 12),.int .u8 (hd 13),.int .u8 (hd 14),.int .u8 (hd 15),.int .u8 (hd 16),.int .u8 (hd 17),.int .u8 (hd 18),.int .u8 (hd 19),.int .u8 (hd 20),.int .u8 (hd 21),.int .u8 (hd 22),.int .u8 (hd 23),.int .u8 (hd 24),.int .u8 (hd 25),.int .u8 (hd 26),.int .u8 (hd 27),.int .u8 (hd 28),.int .u8 (hd 29),.int .u8 (hd 30),.int .u8 (hd 31)]
def iS (st:Bool×Sd.Timer) (aj:Nat->Sd.gz) (b m:Int):Array ab:=#[.bool st.1,.int .i64 st.2.n,.int .i64 st.2.most,.bool (aj 0).on,.int .i64 (aj 0).eB.n,.int .i64 (aj 0).eB.most,.int .i64 (aj 0).role,.int .u8 ((aj 0).key 0),.int .u8 ((aj 0).key 1),.int .u8 ((aj 0).key 2),.int .u8 ((aj 0).key 3),.int .u8 ((aj 0).key 4),.int .u8 ((aj 0).key 5),.int .u8 ((aj 0).key 6),.int .u8 ((aj 0).key 7),.int .u8 ((aj 0).key 8),.int .u8 ((aj 0).key 9),.int .u8 ((aj 0).key 10),.int .u8 ((aj 0).key 11),.int .u8 ((aj 0).key 12),.int .u8 ((aj 0).key 13),.int .u8 ((aj 0).key 14),.int .u8 ((aj 0).key 15),.int .u8 ((aj 0).key 16),.int .u8 ((aj 0).key 17),.int .u8 ((aj 0).key 18),.int .u8 ((aj 0).key 19),.int .u8 ((aj 0).key 20),.int .u8 ((aj 0).key 21),.int .u8 ((aj 0).key 22),.int .u8 ((aj 0).key 23),.int .u8 ((aj 0).key 24),.int .u8 ((aj 0).key 25),.int .u8 ((aj 0).key 26),.int .u8 ((aj 0).key 27),.int .u8 ((aj 0).key 28),.int .u8 ((aj 0).key 29),.int .u8 ((aj 0).key 30),.int .u8 ((aj 0).key 31),.bool (aj 0).seen.any,.int .i64 (aj 0).seen.high,.int .u64 (aj 0).seen.seen,.bool (aj 1).on,.int .i64 (aj 1).eB.n,.int .i64 (aj 1).eB.most,.int .i64 (aj 1).role,.int .u8 ((aj 1).key 0),.int .u8 ((aj 1).key 1),.int .u8 ((aj 1).key 2),.int .u8 ((aj 1).key 3),.int .u8 ((aj 1).key 4),.int .u8 ((aj 1).key 5),.int .u8 ((aj 1).key 6),.int .u8 ((aj 1).key 7),.int .u8 ((aj 1).key 8),.int .u8 ((aj 1).key 9),.int .u8 ((aj 1).key 10),.int .u8 ((aj 1).key 11),.int .u8 ((aj 1).key 12),.int .u8 ((aj 1).key 13),.int .u8 ((aj 1).key 14),.int .u8 ((aj 1).key 15),.int .u8 ((aj 1).key 16),.int .u8 ((aj 1).key 17),.int .u8 ((aj 1).key 18),.int .u8 ((aj 1).key 19),.int .u8 ((aj 1).key 20),.int .u8 ((aj 1).key 21),.int .u8 ((aj 1).key 22),.int .u8 ((aj 1).key 23),.int .u8 ((aj 1).key 24),.int .u8 ((aj 1).key 25),.int .u8 ((aj 1).key 26),.int .u8 ((aj 1).key 27),.int .u8 ((aj 1).key 28),.int .u8 ((aj 1).key 29),.int .u8 ((aj 1).key 30),.int .u8 ((aj 1).key 31),.bool (aj 1).seen.any,.int .i64 (aj 1).seen.high,.int .u64 (aj 1).seen.seen,.bool (aj 2).on,.int .i64 (aj 2).eB.n,.int .i64 (aj 2).eB.most,.int .i64 (aj 2).role,.int .u8 ((aj 2).key 0),.int .u8 ((aj 2).key 1),.int .u8 ((aj 2).key 2),.int .u8 ((aj 2).key 3),.int .u8 ((aj 2).key 4),.int .u8 ((aj 2).key 5),.int .u8 ((aj 2).key 6),.int .u8 ((aj 2).key 7),.int .u8 ((aj 2).key 8),.int .u8 ((aj 2).key 9),.int .u8 ((aj 2).key 10),.int .u8 ((aj 2).key 11),.int .u8 ((aj 2).key 12),.int .u8 ((aj 2).key 13),.int .u8 ((aj 2).key 14),.int .u8 ((aj 2).key 15),.int .u8 ((aj 2).key 16),.int .u8 ((aj 2).key 17),.int .u8 ((aj 2).key 18),.int .u8 ((aj 2).key 19),.int .u8 ((aj 2).key 20),.int .u8 ((aj 2).key 21),.int .u8 ((aj 2).key 22),.int .u8 ((aj 2).key 23),.int .u8 ((aj 2).key 24),.int .u8 ((aj 2).key 25),.int .u8 ((aj 2).key 26),.int .u8 ((aj 2).key 27),.int .u8 ((aj 2).key 28),.int .u8 ((aj 2).key 29),.int .u8 ((aj 2).key 30),.int .u8 ((aj 2).key 31),.bool (aj 2).seen.any,.int .i64 (aj 2).seen.high,.int .u64 (aj 2).seen.seen,.int .i64 b,.int .i64 m]
theorem ajJ (p:Sd.aJ) (ka:Nat->Option aI) (kn kc:Nat->Nat) (w:ae):aQ prog 27 #[.agg (jV p ka kn kc)] w λv w1=>v=.int .i64 (k_ p.i kn)/\Ch [] w w1:=ajI p.i ka kn kc w
theorem ajK {q:Nat->Int} {kn:Nat->Nat} (h:k_ q kn=0):1<=q 48/\q 48<=3:=by
 have:allI 1 3 [q 48,q 49]=true:=by
  cases e:allI 1 3 [q 48,q 49]with
  |true=>rfl
  |false=>
   exfalso;unfold k_ at h
   repeat' split at h
   all_goals first|omega|(rename_i QY;simp[e]at QY)
 simp only[allI,ji,a_,decide_eq_true_eq]at this;exact this.1
theorem ajL (w:ae):
 aQ prog 32 #[] w λv w1=>v=.agg #[.int .i64 2,.int .i64 4,.int .i64 0]/\Ch [] w w1:=by
 have S0:=St.nil [] w;refine il Tryz.func32 rfl ?_;refine aM (aT ?_);refine ei S0 (λb=>.pointer (some ⟨b,0,none⟩)) (.cells #[.int .i64 0,.int .i64 0,.int .i64 0] 44) ?_;intro bx gP du;refine aR (aL (aM (aT ?_)));refine ak (.agg #[.int .i64 2,.int .i64 4,.int .i64 0]) ?_;refine store_ du 0 (.agg #[.int .i64 2,.int .i64 4,.int .i64 0]) bx 0 ?_;intro E9 J0;refine aR (aL (gh ?_));refine fW rfl (fu [.cell 0 44] [.agg #[.int .i64 2,.int .i64 4,.int .i64 0]] (.agg #[.int .i64 2,.int .i64 4,.int .i64 0]) ⟨lV J0 0 3 bx 0,trivial⟩) ?_;exact⟨rfl,J0.ch⟩
theorem ajM (w:ae):
 aQ prog 33 #[.slice none 0 0] w λv w1=>v=.agg (aq .u8 32 (λ_=>0))/\Ch [] w w1:=by
 have S0:=St.nil [] w;refine il Tryz.func33 rfl ?_;refine aM (aT ?_);refine ei S0 (λb=>.pointer (some ⟨b,0,none⟩)) (.cells (aq .u8 32 (λ_=>0)) 37) ?_;intro bx gP du;refine aR (aL (aM (aT ?_)));refine ei du (λb=>.pointer (some ⟨b,0,none⟩)) (.cells (aq .u8 32 (λ_=>0)) 37) ?_;intro de lL cM;refine aR (aL (aM (aM (aT ?_))));refine ak (.slice none 0 0) ?_;refine ak (.int .i64 0) ?_;refine ak (.int .i64 0) ?_;refine aR (aL (iL (DU 24 (aM (aT ?_)))));refine ak (.bool false) ?_;refine aR (aL (aM (og ?_)));refine wp_exit (kP (kP (uB (aL (aM (aT ?_))))));refine jI cM 0 32 (aq .u8 32 (λ_=>0)) de 0 ?_;refine store_ cM 1 (.agg (aq .u8 32 (λ_=>0))) bx 0 ?_;intro Cf zJ;refine aR (aL (gh ?_));refine fW rfl (fu [.cell 2 37] [.agg (aq .u8 32 (λ_=>0))] (.agg (aq .u8 32 (λ_=>0))) ⟨lV zJ 1 32 bx 0,trivial⟩) ?_;exact⟨rfl,zJ.ch⟩
def tN:List Sd.Rec->List ab
 |[]=>[]
 |r::l=>(recC r).toList++tN l
theorem ajN (l:List Sd.Rec) (r:Sd.Rec):tN l++(recC r).toList=tN (l++[r]):=by
 induction l with
 |nil=>simp[tN]
 |cons a l ih=>simp[tN,ih]
theorem ajO (p:Sd.aJ) (ka:Nat->Option aI) (kn kc:Nat->Nat) (t:Sd.Tok) (bq:Nat) (D:Nat->Sd.dG) (bt:Nat) (sa be mo:Int) (mb:Sd.Label) (pt:Sd.eu) (hd:Nat->Int) (xs:Option aI) (ns cs:Nat) (dy bc:Nat) (x:Option aI) (n c:Nat) (bl:List ai) (rl:List Sd.Rec) (kd so sq co ho:Int) {tG:aD} (w:ae) {ms:List Nat} {w0:ae} {bs:List ai} (S0:St ms w0 ([⟨1,false,.cells (aq .u32 64 cx) tG (0,0)⟩,⟨dy,true,.cells #[.pointer (some ⟨bc,0,none⟩),.slice xs ns cs,.slice x n c] 128 (0,0)⟩,⟨bc,true,.cells (qG p ka kn kc t bq D bt sa be mo mb pt hd) 105 (0,0)⟩]++(bl++bs)) w) (hR:eI 6 75 (tN rl) x n c bl) (hn:n<=1000):
 aQ prog 90 #[.pointer (some ⟨dy,0,none⟩),.int .i64 kd,.int .i64 so,.int .i64 sq,.int .i64 co,.int .i64 ho] w λv w1=>∃x1 c1 jC,v=.tuple #[]/\eI 6 75 (tN (rl++[⟨kd,so,sq,t.af,co,ho⟩])) x1 (n+1) c1 jC/\St ms w0 ([⟨1,false,.cells (aq .u32 64 cx) tG (0,0)⟩,⟨dy,true,.cells #[.pointer (some ⟨bc,0,none⟩),.slice xs ns cs,.slice x1 (n+1) c1] 128 (0,0)⟩,⟨bc,true,.cells (qG p ka kn kc t bq D bt sa be mo mb pt (vG hd (⟨kd,so,sq,t.af,co,ho⟩:Sd.Rec))) 105 (0,0)⟩]++(jC++bs)) w1:=by
 refine il Tryz.func90 rfl ?_;refine aM (aT ?_);refine ak (.int .i64 kd) ?_;refine ak (.int .i64 so) ?_;refine ak (.int .i64 sq) ?_;refine dF ?_;refine ak (.pointer (some ⟨dy,0,none⟩)) ?_;refine ak (.pointer (some ⟨dy,0,none⟩)) ?_;refine oe S0 1 (.pointer (some ⟨bc,0,none⟩)) dy 0 ?_;refine ak (.pointer (some ⟨bc,0,none⟩)) ?_;refine ak (.pointer (some ⟨bc,56,none⟩)) ?_;refine ak (.pointer (some ⟨bc,57,none⟩)) ?_;refine oe S0 2 (.int .i64 t.af) bc 57 ?_;refine ak (.int .i64 co) ?_;refine ak (.int .i64 ho) ?_;refine ak (.agg #[.int .i64 kd,.int .i64 so,.int .i64 sq,.int .i64 t.af,.int .i64 co,.int .i64 ho]) ?_;refine ei S0 (λb=>.pointer (some ⟨b,0,none⟩)) (.cells #[.int .i64 0,.int .i64 0,.int .i64 0,.int .i64 0,.int .i64 0,.int .i64 0] 75) ?_;intro bx gP du;refine store_ du 0 (.agg #[.int .i64 kd,.int .i64 so,.int .i64 sq,.int .i64 t.af,.int .i64 co,.int .i64 ho]) bx 0 ?_;intro E9 J0;refine aR (aL (aM ?_));have cM:St ms w0 ([⟨bx,true,.cells #[.int .i64 kd,.int .i64 so,.int .i64 sq,.int .i64 t.af,.int .i64 co,.int .i64 ho] 75 (0,0)⟩,⟨1,false,.cells (aq .u32 64 cx) tG (0,0)⟩,⟨dy,true,.cells #[.pointer (some ⟨bc,0,none⟩),.slice xs ns cs,.slice x n c] 128 (0,0)⟩,⟨bc,true,.cells (qG p ka kn kc t bq D bt sa be mo mb pt hd) 105 (0,0)⟩]++(bl++bs)) E9:=J0.re (R:=bs) [[⟨bx,true,.cells #[.int .i64 kd,.int .i64 so,.int .i64 sq,.int .i64 t.af,.int .i64 co,.int .i64 ho] 75 (0,0)⟩],[⟨1,false,.cells (aq .u32 64 cx) tG (0,0)⟩],[⟨dy,true,.cells #[.pointer (some ⟨bc,0,none⟩),.slice xs ns cs,.slice x n c] 128 (0,0)⟩],[⟨bc,true,.cells (qG p ka kn kc t bq D bt sa be mo mb pt hd) 105 (0,0)⟩],bl] [0,1,2,3,4];have Y1:∀w',Ch ((bl).map ai.id) E9 w'->St ms w0 ([⟨bx,true,.cells #[.int .i64 kd,.int .i64 so,.int .i64 sq,.int .i64 t.af,.int .i64 co,.int .i64 ho] 75 (0,0)⟩,⟨1,false,.cells (aq .u32 64 cx) tG (0,0)⟩,⟨dy,true,.cells #[.pointer (some ⟨bc,0,none⟩),.slice xs ns cs,.slice x n c] 128 (0,0)⟩,⟨bc,true,.cells (qG p ka kn kc t bq D bt sa be mo mb pt hd) 105 (0,0)⟩]++bs) w':=λ_ hc=>cM.less (eI.wr hR) hc;refine acY (T':=75) cM hR 8 7 6 1 [.int .i64 kd,.int .i64 so,.int .i64 sq,.int .i64 t.af,.int .i64 co,.int .i64 ho] [] [.pointer (some ⟨dy,0,none⟩),.pointer (some ⟨dy,0,none⟩),.pointer (some ⟨dy,0,none⟩),.pointer (some ⟨dy,2,none⟩),.slice x n c,.agg #[.int .i64 kd,.int .i64 so,.int .i64 sq,.int .i64 t.af,.int .i64 co,.int .i64 ho],undef,undef] [[8,0],[8,1],[8,2],[8,3],[8,4],[8,5],[8,6],[8,7],[9,0],[9,1],[9,2],[9,3],[9,4],[9,5],[9,6],[9,7],[9,8],[10,0],[10,1],[10,2],[10,3],[10,4],[10,5],[10,6],[10,7],[10,9,8],[10,9]] (kW Bx (kW Bx (kW Bx (kW Bx (kW (U2 Y1 2 dy 2) (kW (D9 Y1 0 bx 0 6 #[.int .i64 kd,.int .i64 so,.int .i64 sq,.int .i64 t.af,.int .i64 co,.int .i64 ho]) (kW (eB_ 1 [.int .i64 kd,.int .i64 so,.int .i64 sq,.int .i64 t.af,.int .i64 co,.int .i64 ho] 75) (kW (eA_ cM hR 31 33 6 1 [.int .i64 kd,.int .i64 so,.int .i64 sq,.int .i64 t.af,.int .i64 co,.int .i64 ho] 48 (by omega) (by unfold maxLen;omega) (e':=75)) (M0))))))))) ?_;intro QZ Q0 Y2 aub O0 mg nI;refine ak (.pointer (some ⟨dy,0,none⟩)) ?_;refine ak (.pointer (some ⟨dy,2,none⟩)) ?_;refine store_ nI 2 (.slice QZ (n+1) Q0) dy 2 ?_;intro Cd oM;refine aR (aL ?_);refine yT 13 [⟨0,λ_=>.pointer (some ⟨dy,0,none⟩),λ_=>[]⟩,⟨0,λ_=>.pointer (some ⟨dy,0,none⟩),λ_=>[]⟩,⟨0,λ_=>.pointer (some ⟨dy,0,none⟩),λ_=>[]⟩,⟨0,λ_=>.pointer (some ⟨bc,0,none⟩),λ_=>[]⟩,⟨0,λ_=>.pointer (some ⟨dy,0,none⟩),λ_=>[]⟩,⟨0,λ_=>.pointer (some ⟨dy,0,none⟩),λ_=>[]⟩,⟨0,λ_=>.pointer (some ⟨dy,0,none⟩),λ_=>[]⟩,⟨0,λ_=>.pointer (some ⟨bc,0,none⟩),λ_=>[]⟩,⟨0,λ_=>.pointer (some ⟨bc,0,none⟩),λ_=>[]⟩,⟨0,λ_=>.pointer (some ⟨bc,114,none⟩),λ_=>[]⟩,⟨0,λ_=>.agg (aq .u8 32 hd),λ_=>[]⟩,⟨0,λ_=>.agg #[.int .i64 kd,.int .i64 so,.int .i64 sq,.int .i64 t.af,.int .i64 co,.int .i64 ho],λ_=>[]⟩,⟨0,λ_=>.agg (aq .u8 32 (vG hd (⟨kd,so,sq,t.af,co,ho⟩:Sd.Rec))),λ_=>[]⟩] [[13,0],[13,1],[13,2],[13,3],[13,4],[13,5],[13,6],[13,7],[13,8],[13,9],[13,10],[13,11],[13,12],[14,0],[14,1],[14,2],[14,3],[14,4],[14,5],[14,6],[14,7],[14,8],[14,9],[14,10],[14,11],[14,12],[14,13],[15,0],[15,1],[15,2],[15,3],[15,4],[15,5],[15,6],[15,7],[15,8],[15,9],[15,10],[15,11],[15,12],[15,14,13],[15,14]] ?_ ?_
 ·refine step_cons gL ?_;refine step_cons gL ?_;refine step_cons gL ?_;refine step_cons (Ic oM 2 dy 0) ?_;refine step_cons gL ?_;refine step_cons gL ?_;refine step_cons gL ?_;refine step_cons (Ic oM 2 dy 0) ?_;refine step_cons gL ?_;refine step_cons gL ?_;refine step_cons (D7 oM 3 bc 114 32 (aq .u8 32 hd)) ?_;refine step_cons (D7 oM 0 bx 0 6 #[.int .i64 kd,.int .i64 so,.int .i64 sq,.int .i64 t.af,.int .i64 co,.int .i64 ho]) ?_;refine step_cons ?_ ?_
  ·intro Y3 zK PE auc Y4;have E5:Y3 47=.agg (aq .u8 32 hd):=(Sp.dq (Y4 10 47 (by kernel_rfl) (by kernel_rfl))).1;have qq:Y3 48=.agg #[.int .i64 kd,.int .i64 so,.int .i64 sq,.int .i64 t.af,.int .i64 co,.int .i64 ho]:=(Sp.dq (Y4 11 48 (by kernel_rfl) (by kernel_rfl))).1;have vw:=oM.quiet PE;refine ot ?_;refine lA [(47,.agg (aq .u8 32 hd)),(48,.agg #[.int .i64 kd,.int .i64 so,.int .i64 sq,.int .i64 t.af,.int .i64 co,.int .i64 ho])] (lB E5 (lB qq (om))) ?_;have mW:=vw.loc;refine Y.fe 66 #[.agg (aq .u8 32 hd),.agg #[.int .i64 kd,.int .i64 so,.int .i64 sq,.int .i64 t.af,.int .i64 co,.int .i64 ho]] ?_;refine(ah3 hd (⟨kd,so,sq,t.af,co,ho⟩:Sd.Rec) _ (mW.at_ 1 _ rfl)).mono ?_;rintro _ W5 ⟨rfl,jU⟩;have E7:=mW.quiet jU;exact⟨E7.ch,Sp.oq [] (all_nil)⟩
  exact yS
 intro oX Jk Jv oY;have Jy:oX 0=.pointer (some ⟨dy,0,none⟩):=(Sp.dq (oY 0 (by kernel_rfl))).1;have kG:oX 1=.pointer (some ⟨dy,0,none⟩):=(Sp.dq (oY 1 (by kernel_rfl))).1;have qA:oX 2=.pointer (some ⟨dy,0,none⟩):=(Sp.dq (oY 2 (by kernel_rfl))).1;have tI:oX 3=.pointer (some ⟨bc,0,none⟩):=(Sp.dq (oY 3 (by kernel_rfl))).1;have vx:oX 4=.pointer (some ⟨dy,0,none⟩):=(Sp.dq (oY 4 (by kernel_rfl))).1;have qx:oX 5=.pointer (some ⟨dy,0,none⟩):=(Sp.dq (oY 5 (by kernel_rfl))).1;have rJ:oX 6=.pointer (some ⟨dy,0,none⟩):=(Sp.dq (oY 6 (by kernel_rfl))).1;have qB:oX 7=.pointer (some ⟨bc,0,none⟩):=(Sp.dq (oY 7 (by kernel_rfl))).1;have oQ:oX 8=.pointer (some ⟨bc,0,none⟩):=(Sp.dq (oY 8 (by kernel_rfl))).1;have Fj:oX 9=.pointer (some ⟨bc,114,none⟩):=(Sp.dq (oY 9 (by kernel_rfl))).1;have E8:oX 10=.agg (aq .u8 32 hd):=(Sp.dq (oY 10 (by kernel_rfl))).1;have PX:oX 11=.agg #[.int .i64 kd,.int .i64 so,.int .i64 sq,.int .i64 t.af,.int .i64 co,.int .i64 ho]:=(Sp.dq (oY 11 (by kernel_rfl))).1;have PY:oX 12=.agg (aq .u8 32 (vG hd (⟨kd,so,sq,t.af,co,ho⟩:Sd.Rec))):=(Sp.dq (oY 12 (by kernel_rfl))).1;have xD:=oM.quiet Jv;refine⟨[.pointer (some ⟨dy,0,none⟩),.pointer (some ⟨dy,0,none⟩),.pointer (some ⟨dy,0,none⟩),.pointer (some ⟨bc,0,none⟩),.pointer (some ⟨dy,0,none⟩),.pointer (some ⟨dy,0,none⟩),.pointer (some ⟨dy,0,none⟩),.pointer (some ⟨bc,0,none⟩),.pointer (some ⟨bc,0,none⟩),.pointer (some ⟨bc,114,none⟩),.agg (aq .u8 32 hd),.agg #[.int .i64 kd,.int .i64 so,.int .i64 sq,.int .i64 t.af,.int .i64 co,.int .i64 ho],.agg (aq .u8 32 (vG hd (⟨kd,so,sq,t.af,co,ho⟩:Sd.Rec)))],by kernel_rfl,dO Jy (dO kG (dO qA (dO tI (dO vx (dO qx (dO rJ (dO qB (dO oQ (dO Fj (dO E8 (dO PX (dO PY (Bo))))))))))))),?_⟩;refine ak (.pointer (some ⟨bc,0,none⟩)) ?_;refine ak (.pointer (some ⟨bc,114,none⟩)) ?_;refine store_ xD 3 (.agg (aq .u8 32 (vG hd (⟨kd,so,sq,t.af,co,ho⟩:Sd.Rec)))) bc 114 ?_;intro aik JH;refine aR ?_;refine end_ rfl (fu [] [] (.tuple #[]) trivial) ?_;exact⟨QZ,Q0,Y2,rfl,ajN rl _▸mg,JH.re (R:=bs) [[⟨bx,true,.cells #[.int .i64 kd,.int .i64 so,.int .i64 sq,.int .i64 t.af,.int .i64 co,.int .i64 ho] 75 (0,0)⟩],[⟨1,false,.cells (aq .u32 64 cx) tG (0,0)⟩],[⟨dy,true,.cells #[.pointer (some ⟨bc,0,none⟩),.slice xs ns cs,.slice QZ (n+1) Q0] 128 (0,0)⟩],[⟨bc,true,.cells (qG p ka kn kc t bq D bt sa be mo mb pt (vG hd (⟨kd,so,sq,t.af,co,ho⟩:Sd.Rec))) 105 (0,0)⟩],Y2] [1,2,3,4]⟩
end
section
open Go Go.RowKit Go.BigFrame Sx Vx
structure One where
 a:Sd.Ask
 came:Int
def fJ:List One->Prop
 |[]=>True
 |[_]=>True
 |[x,y]=>x.a.bD<y.a.bD/\¬x.a.source=y.a.source
 |[x,y,z]=>(x.a.bD<y.a.bD/\x.a.bD<z.a.bD/\¬y.a.bD=z.a.bD)/\¬x.a.source=y.a.source/\¬x.a.source=z.a.source/\¬y.a.source=z.a.source
 |_=>False
def cu:List One->List Sd.Ask
 |[]=>[]
 |[x]=>[x.a]
 |[x,y]=>[x.a,y.a]
 |[x,y,z]=>if y.a.bD<z.a.bD then[x.a,y.a,z.a]else[x.a,z.a,y.a]
 |_=>[]
def ajP (t:One):Array ab:=#[.int .i64 t.a.source,.int .i64 t.a.bD,.int .i64 t.a.fZ.n,.int .i64 t.a.fZ.most,.int .u64 t.came]
def jk:List One->List ab
 |[]=>[]
 |e::es=>(ajP e).toList++jk es
def tO:List Sd.Ask->List ab
 |[]=>[]
 |e::es=>(Fv e).toList++tO es
def QS (bq:Nat) (most:Int) (L:List Sd.Ask) (bl:List ai):Prop:=∃es x c came rows,bl=⟨bq,true,.cells #[.slice x es.length c,.int .i64 most,.int .u64 came] 146 (0,0)⟩::rows/\eI 5 162 (jk es) x es.length c rows/\fJ es/\cu es=L
def J1 (e:One):List V:=[.int .i64 e.a.source,.int .i64 e.a.bD,.int .i64 e.a.fZ.n,.int .i64 e.a.fZ.most,.int .u64 e.came]
def rQ (a:Sd.Ask):List V:=[.int .i64 a.source,.int .i64 a.bD,.int .i64 a.fZ.n,.int .i64 a.fZ.most]
def fa:List One->List V
 |[]=>[]
 |e::l=>J1 e++fa l
def dm (l:List One) (t:List ab):VB:=⟨true,⟨162,(0,0)⟩,fa l++[.rest t]⟩
def cA (v:V) (most came:Int):VB:=⟨true,⟨146,(0,0)⟩,[v,.int .i64 most,.int .u64 came]⟩
theorem vL (ids:List Nat):∀l:List One,ah ids (fa l)=jk l
 |[]=>rfl
 |a::l=>by rw[fa,iq,vL ids l];rfl
theorem Q1:∀l:List One,(jk l).length=l.length*5
 |[]=>rfl
 |a::l=>by simp only[jk,fi,Q1 l,ly,lU];show 5+_=_;omega
def gn (n:Nat) (f:eN) (args:List V) (bl:List VB) (K:VK Empty):Prop:=bu (fE prog (λ_=>none) ([]:List (bK Empty)) (EX prog) Jb) n f args bl [] K
theorem CM {n f n0:Nat} {args:List V} {bl:List VB} {K:VK Empty} (h:gn n f args bl (bm n0 K)) {ids:List Nat} (hl:ids.length=bl.length) (hn:n0<=ids.length) {bs:List ai} {ms:List Nat} {w0 w:ae} (S:St ms w0 (lits ids ids bl++bs) w):
 aQ prog f (aA ids args).toArray w λv w1=>∃x more b,v=den (ids.take n0++more) x/\(ids.take n0++more).length=b.length/\St ms w0 (lits (ids.take n0++more) (ids.take n0++more) b++bs) w1/\K x b []:=by
 refine(eD (aG.nil (G:=Empty) (P:=prog) (gl:=λ_=>none)).T (aG.nil (G:=Empty) (P:=prog) (gl:=λ_=>none)).Q n (C:=fE prog (λ_=>none) ([]:List (bK Empty)) (EX prog) Jb) (ids:=ids) (bl:=bl) (ch:=[]) (R:=bs) Gl.none hl S h).mono ?_;rintro v w' ⟨y,more,bl',ch',rfl,h1,S',hK⟩
 match ch',S',hK with
 |[],S',hK=>
  obtain⟨v2,cD,bl2,e,dw,S2,hK⟩:=h_ (n0:=n0) h1 (by simp;omega) S' hK;rw[List.take_append_of_le_length hn]at e dw S2;exact⟨v2,cD,bl2,e,dw,S2,hK⟩
 |e::_,_,_=>nomatch e
def KP (most:Int) (y:V) (M:List Sd.Ask):VK Empty:=λx b _=>x=y/\∃es cm,fJ es/\cu es=M/\((es=[]/\b=[cA (.raw (.slice none 0 0)) most cm])\/∃c t,b=[cA (.sl 1 0 es.length c) most cm,⟨true,⟨162,(0,0)⟩,fa es++t⟩]/\ba 0 t=true/\es.length<=c/\bW (fa es++t)=c*5)
theorem Y5 {f:Nat} {ar:List V} {most came:Int} {y:V} {M:List Sd.Ask} {es:List One} {x:Option aI} {c bq:Nat} {rows bs:List ai} {ms:List Nat} {w0 w:ae} (hy:cz 0 y=true) (hr:eI 5 162 (jk es) x es.length c rows)
 (hz:es=[]->gn 90 f (.ptr 0 0::ar) [cA (.raw (.slice none 0 0)) most came] (bm 1 (KP most y M)))
 (h:∀t,es.length<=c->bW (fa es++[.rest t])=c*5->gn 90 f (.ptr 0 0::ar) [cA (.sl 1 0 es.length c) most came,dm es t] (bm 1 (KP most y M)))
 (has:∀ids,aA ids ar=aA [] ar) (S:St ms w0 (⟨bq,true,.cells #[.slice x es.length c,.int .i64 most,.int .u64 came] 146 (0,0)⟩::(rows++bs)) w):
 aQ prog f (#[.pointer (some ⟨bq,0,none⟩)]++(aA [] ar).toArray) w λv w1=>∃bl',v=den [] y/\QS bq most M bl'/\St ms w0 (bl'++bs) w1:=by
 have fin:∀ids:List Nat,(∃r,ids=bq::r)->aQ prog f (aA ids (.ptr 0 0::ar)).toArray w (λv w1=>∃x more b,v=den (ids.take 1++more) x/\(ids.take 1++more).length=b.length/\St ms w0 (lits (ids.take 1++more) (ids.take 1++more) b++bs) w1/\KP most y M x b [])->
  aQ prog f (#[.pointer (some ⟨bq,0,none⟩)]++(aA [] ar).toArray) w λv w1=>∃bl',v=den [] y/\QS bq most M bl'/\St ms w0 (bl'++bs) w1:=by
  rintro ids ⟨r,rfl⟩ hg;have e0:(aA (bq::r) (.ptr 0 0::ar)).toArray=#[.pointer (some ⟨bq,0,none⟩)]++(aA [] ar).toArray:=by
   apply eO;simp only[aA,den,has,Array.toList_append];rfl
  rw[e0]at hg;refine hg.mono ?_;rintro v w1 ⟨v2,more,b,rfl,hl,S1,rfl,ri,cm,hH,hA,hb⟩;simp only[List.take_succ_cons,Uz,DL]at hl S1⊢;have ey:den (bq::more) v2=den [] v2:=fy (ids:=[]) (more:=bq::more) v2 hy;rcases hb with⟨rfl,rfl⟩|⟨c',t,rfl,ht,hc,hs⟩
  ·obtain rfl:more=[]:=by simpa using hl
   exact⟨_,ey,⟨[],none,0,cm,[],rfl,wN _ _,hH,hA⟩,S1⟩
  ·match more,hl with
   |[b2],_=>
    have e1:ah [bq,b2] (fa ri++t)=jk ri++ah [] t:=by
     rw[iq,vL];exact congrArg _ (jO (ids:=[]) (more:=[bq,b2]) t ht)
    have e2:lits [bq,b2] [bq,b2] [cA (.sl 1 0 ri.length c') most cm,⟨true,⟨162,(0,0)⟩,fa ri++t⟩]=⟨bq,true,.cells #[.slice (some ⟨b2,0,none⟩) ri.length c',.int .i64 most,.int .u64 cm] 146 (0,0)⟩::[⟨b2,true,.cells (jk ri++ah [] t).toArray 162 (0,0)⟩]:=by
     rw[<-e1];rfl
    rw[e2]at S1;refine⟨_,ey,⟨ri,some ⟨b2,0,none⟩,c',cm,_,rfl,⟨Q1 ri,hc,.inr ⟨b2,ah [] t,rfl,rfl,?_⟩⟩,hH,hA⟩,S1⟩;rw[<-e1,j6,hs]
 obtain⟨_,hle,ju⟩:=hr;rcases ju with⟨rfl,h0,rfl,rfl⟩|⟨b,t,rfl,rfl,hlen⟩
 ·obtain rfl:es=[]:=mE h0;exact fin [bq] ⟨[],rfl⟩ (CM (hz rfl) rfl (by simp) S)
 ·have e3:lits [bq,b] [bq,b] [cA (.sl 1 0 es.length c) most came,dm es t]=⟨bq,true,.cells #[.slice (some ⟨b,0,none⟩) es.length c,.int .i64 most,.int .u64 came] 146 (0,0)⟩::[⟨b,true,.cells (jk es++t).toArray 162 (0,0)⟩]:=by
   simp only[lits,ay,dm,iq,vL,ah,cl,cI];rfl
  refine fin [bq,b] ⟨[b],rfl⟩ (CM (h t hle ?_) rfl (by simp) (by rw[e3];exact S));rw[<-j6 (ids:=[]),iq,vL];simpa[ah,cl]using hlen
def CN (a b:One) (X Y:Prop):Prop:=cond (a.a.bD !=b.a.bD) (cond (decide (a.a.bD<b.a.bD)) X Y) (cond (decide (a.came<b.came)) X Y)
def xQ (a b:One) (X Y:Prop):Prop:=cond (a.a.bD !=b.a.bD) (cond (!decide (a.a.bD<b.a.bD)) Y X) (cond (!decide (a.came<b.came)) Y X)
def Ac (s:Int) (rR:Nat->Prop) (F6:Prop):List One->Nat->Prop
 |[],_=>F6
 |e::l,i=>cond (e.a.source==s) (rR i) (Ac s rR F6 l (i+1))
def J2 (k:List One->Prop):List One->Nat->Prop
 |[a,b],0=>k [b,a]
 |[a,b,c],0=>xQ b c (k [b,c,a]) (k [c,b,a])
 |[a,b,c],1=>xQ c a (k [c,a,b]) (k [a,c,b])
 |l,_=>k l
def F7 (es:List One) (s:Int) (k:Bool->List One->Nat->Prop):Prop:=Ac s (λi=>J2 (λl=>k true l (es.length-1)) es i) (k false es es.length) es 0
theorem J3 {a b:One} {X Y:Prop} (hr:¬a.a.bD=b.a.bD) (h1:a.a.bD<b.a.bD->X) (h2:b.a.bD<a.a.bD->Y):CN a b X Y:=by
 unfold CN;have e:(a.a.bD !=b.a.bD)=true:=by simpa using hr
 rw[e,cond_true];exact aH (λh=>h1 (of_decide_eq_true h)) λh=>h2 (by have:=of_decide_eq_false h;omega)
theorem J4 {a b:One} {X Y:Prop} (hr:¬a.a.bD=b.a.bD) (h1:a.a.bD<b.a.bD->X) (h2:b.a.bD<a.a.bD->Y):xQ a b X Y:=by
 unfold xQ;have e:(a.a.bD !=b.a.bD)=true:=by simpa using hr
 rw[e,cond_true];exact aH (λh=>h2 (by have:¬a.a.bD<b.a.bD:=by simpa using h
                                      omega)) λh=>h1 (by simpa using h)
theorem ajQ (s:Int) {k:Bool->List One->Nat->Prop}:∀{es:List One},fJ es->(∀b l m,b=Sd.Q.waits (cu es) s->l.length=es.length->fJ (l.take m)->cu (l.take m)=Sd.Q.drop (cu es) s->m<=es.length->k b l m)->F7 es s k
 |[],hH,h=>h _ [] 0 rfl rfl trivial rfl (by simp)
 |[a],hH,h=>by
  simp only[F7,Ac,J2];refine aH (λh1=>h _ _ _ ?_ rfl ?_ ?_ ?_) (λh1=>h _ _ _ ?_ rfl ?_ ?_ ?_)<;>simp at h1<;>simp[cu,fJ,Sd.Q.drop,Sd.Q.waits,h1]
 |[a,b],hH,h=>by
  simp only[F7,Ac,J2];obtain⟨hr,hs⟩:=hH;have iQ:¬b.a.source=a.a.source:=λh=>hs h.symm;refine aH (λh1=>?_) (λh1=>aH (λh2=>?_) (λh2=>?_));all_goals
   refine h _ _ _ ?_ rfl ?_ ?_ ?_<;>clear h;all_goals (simp only[beq_iff_eq,beq_eq_false_iff_ne,ne_eq]at*;subst_vars;simp[cu,fJ,Sd.Q.drop,Sd.Q.waits, *])
 |[a,b,c],hH,h=>by
  simp only[F7,Ac,J2];obtain⟨⟨r1,r2,r3⟩,s1,s2,s3⟩:=hH;have s1':¬b.a.source=a.a.source:=λh=>s1 h.symm;have s2':¬c.a.source=a.a.source:=λh=>s2 h.symm;have s3':¬c.a.source=b.a.source:=λh=>s3 h.symm;have r4:b.a.bD<c.a.bD\/c.a.bD<b.a.bD:=by omega
  refine aH (λh1=>J4 r3 (λh4=>?_) (λh4=>?_)) (λh1=>aH (λh2=>J4 (by omega) (λh4=>absurd h4 (by omega)) (λh4=>?_)) (λh2=>aH (λh3=>?_) (λh3=>?_)));all_goals
   refine h _ _ _ ?_ rfl ?_ ?_ ?_<;>clear h;all_goals (rcases r4 with r4|r4<;>have r5:=H0 r4<;>simp only[beq_iff_eq,beq_eq_false_iff_ne,ne_eq]at*<;>subst_vars<;>simp[cu,fJ,Sd.Q.drop,Sd.Q.waits, *]<;>omega)
 |_::_::_::_::_,hH,_=>absurd hH (by simp[fJ])
def Y6 (x:One) (k:List One->Prop):List One->Prop
 |[]=>k [x]
 |[a]=>xQ x a (k [x,a]) (k [a,x])
 |[a,b]=>xQ x a (k [x,b,a]) (k [a,b,x])
 |[a,b,c]=>xQ x b (xQ x a (k [x,a,c,b]) (k [a,x,c,b])) (k [a,b,c,x])
 |_=>False
theorem ajR (x:One) {k:List One->Prop}:∀{es:List One},fJ es->es.length<3->(∀e∈cu es,¬e.source=x.a.source/\¬e.bD=x.a.bD)->(∀l,l.length=es.length+1->fJ l->cu l=Sd.Q.insert (cu es) x.a->k l)->Y6 x k es
 |[],hH,_,_,h=>h _ rfl trivial rfl
 |[a],hH,_,hr,h=>by
  obtain⟨h1,h2⟩:=hr a.a (by simp[cu]);have Q2:¬x.a.source=a.a.source:=λh=>h1 h.symm;refine J4 (by omega) (λh4=>h _ rfl ?_ ?_) (λh4=>h _ rfl ?_ ?_)<;>clear h<;>have h5:=H0 h4<;>have h6:=Int.le_of_lt h4<;>have h7:=Int.not_le.2 h4<;>simp[cu,fJ,Sd.Q.insert,List.takeWhile,List.dropWhile, *]
 |[a,b],hH,_,hr,h=>by
  obtain⟨r1,s1⟩:=hH;obtain⟨h1,h2⟩:=hr a.a (by simp[cu]);obtain⟨g1,g2⟩:=hr b.a (by simp[cu]);have Q2:¬x.a.source=a.a.source:=λh=>h1 h.symm;have JQ:¬x.a.source=b.a.source:=λh=>g1 h.symm;have s1':¬b.a.source=a.a.source:=λh=>s1 h.symm;have r4:b.a.bD<x.a.bD\/x.a.bD<b.a.bD:=by omega
  refine J4 (by omega) (λh4=>h _ rfl ?_ ?_) (λh4=>h _ rfl ?_ ?_)<;>clear h hr<;>rcases r4 with r4|r4<;>have r5:=H0 r4<;>have r6:=Int.le_of_lt r4<;>have r7:=Int.not_le.2 r4<;>have h5:=H0 h4<;>have h6:=Int.le_of_lt h4<;>have h7:=Int.not_le.2 h4<;>have r8:=H0 r1<;>
   simp[cu,fJ,Sd.Q.insert,List.takeWhile,List.dropWhile, *]<;>omega
 |_::_::_::_,_,hl,_,_=>absurd hl (by simp)
def Y7 (k:List One->Prop):List One->Prop
 |[a,b]=>CN b a (k [b,a]) (k [a,b])
 |[a,b,c]=>CN b a (S b a c) (S a b c)
 |l=>k l
where S (p q c:One):Prop:=CN c q (CN c p (k [c,p,q]) (k [p,c,q])) (k [p,q,c])
theorem ajS {k:List One->Prop}:∀{es:List One},fJ es->(∀l,l.map (·.a)=cu es->l.length=es.length->k l)->Y7 k es
 |[],hH,h=>h _ rfl rfl
 |[a],hH,h=>h _ rfl rfl
 |[a,b],hH,h=>J3 (by obtain⟨r,_⟩:=hH;omega) (λh4=>absurd h4 (by obtain⟨r,_⟩:=hH;omega)) λ_=>h _ rfl rfl
 |[a,b,c],hH,h=>by
  obtain⟨⟨r1,r2,r3⟩,_⟩:=hH;refine J3 (by omega) (λh4=>absurd h4 (by omega)) λ_=>J3 (by omega) (λh4=>J3 (by omega) (λh5=>absurd h5 (by omega)) λ_=>h _ ?_ rfl) λh4=>h _ ?_ rfl
  ·simp[cu,H0 h4]
  ·simp[cu,h4]
 |_::_::_::_::_,hH,_=>absurd hH (by simp[fJ])
theorem F8 {most cm:Int} {y:V} {M:List Sd.Ask} {l:List One} {m c:Nat} {t:List ab} (hm:m<=l.length) (hc:l.length<=c) (hs:bW (fa l++[.rest t])=c*5) (hH:fJ (l.take m)) (hA:cu (l.take m)=M):KP most y M y [cA (.sl 1 0 m c) most cm,dm l t] []:=by
 have e1:(l.take m).length=m:=by rw[uk];omega
 have e2:∀a b:List One,fa (a++b)=fa a++fa b:=λa b=>by
  induction a with
  |nil=>rfl
  |cons x a ih=>simp only[fb,fa,ih,bN]
 have e3:fa l++[.rest t]=fa (l.take m)++(fa (l.drop m)++[.rest t]):=by
  rw[<-bN,<-e2,iZ]
 have e4:∀l:List One,ba 0 (fa l++[.rest t])=true:=λl=>by
  induction l with
  |nil=>rfl
  |cons x l ih=>simp only[fa,J1,fb,fc,ba,ih];rfl
 refine⟨rfl,l.take m,cm,hH,hA,.inr ⟨c,fa (l.drop m)++[.rest t],?_,e4 _,by omega,by rw[<-e3];exact hs⟩⟩;rw[e1,<-e3];rfl
theorem vM (t:List ab):∀l:List One,bW (fa l++[.rest t])=l.length*5+t.length
 |[]=>by simp[fa,bW,Iv]
 |e::l=>by
  have:=vM t l;simp only[fa,J1,fb,fc,bW,Iv,this,ly];omega
section
variable(e0 e1 e2:One) (n c:Nat) (t:List ab) (most came s:Int) (K:VK Empty)
def dK (l:List One):Prop:=F7 l s λr l m=>K (.bool r) [cA (.sl 1 0 m c) most came,dm l t] []
theorem ajT:gn 90 86 [.ptr 0 0,.int .i64 s] [cA (.raw (.slice none 0 0)) most came] (bm 1 K)=K (.bool false) [cA (.raw (.slice none 0 0)) most came] []:=by kernel_rfl
theorem ajU:gn 90 86 [.ptr 0 0,.int .i64 s] [cA (.sl 1 0 0 c) most came,dm [] t] (bm 1 K)=dK c t most came s K []:=by kernel_rfl
theorem ajV:gn 90 86 [.ptr 0 0,.int .i64 s] [cA (.sl 1 0 [e0].length (c+[e0].length)) most came,dm [e0] t] (bm 1 K)=dK (c+[e0].length) t most came s K [e0]:=by kernel_rfl
theorem ajW:gn 90 86 [.ptr 0 0,.int .i64 s] [cA (.sl 1 0 [e0,e1].length (c+[e0,e1].length)) most came,dm [e0,e1] t] (bm 1 K)=dK (c+[e0,e1].length) t most came s K [e0,e1]:=by kernel_rfl
theorem ajX:gn 90 86 [.ptr 0 0,.int .i64 s] [cA (.sl 1 0 [e0,e1,e2].length (c+[e0,e1,e2].length)) most came,dm [e0,e1,e2] t] (bm 1 K)=dK (c+[e0,e1,e2].length) t most came s K [e0,e1,e2]:=by kernel_rfl
end
theorem ajY {c:Nat} {t:List ab} {most came s:Int} {K:VK Empty}:∀{es:List One},fJ es->dK (c+es.length) t most came s K es->Hd (gn 90 86 [.ptr 0 0,.int .i64 s] [cA (.sl 1 0 es.length (c+es.length)) most came,dm es t] (bm 1 K))
 |[],_,h=>⟨by rw[HW,ajU];exact h⟩
 |[e0],_,h=>⟨by rw[ajV];exact h⟩
 |[e0,e1],_,h=>⟨by rw[ajW];exact h⟩
 |[e0,e1,e2],_,h=>⟨by rw[ajX];exact h⟩
 |_::_::_::_::_,hH,_=>absurd hH (by simp[fJ])
theorem ajZ {es:List One} (hH:fJ es) {most came s:Int} {c:Nat} {t:List ab} (hc:es.length<=c) (hs:bW (fa es++[.rest t])=c*5):dK c t most came s (KP most (.bool (Sd.Q.waits (cu es) s)) (Sd.Q.drop (cu es) s)) es:=
 ajQ s hH λb l m hb hl h1 h2 hm=>by
  subst hb;exact F8 (by omega) (by omega) (by rw[<-hs,vM,vM,hl]) h1 h2
theorem aj0 {bq:Nat} {most:Int} {L:List Sd.Ask} {bl bs:List ai} {ms:List Nat} {w0 w:ae} (s:Int) (hQ:QS bq most L bl) (S0:St ms w0 (bl++bs) w):
 aQ prog 86 #[.pointer (some ⟨bq,0,none⟩),.int .i64 s] w λv w1=>∃bl',v=.bool (Sd.Q.waits L s)/\QS bq most (Sd.Q.drop L s) bl'/\St ms w0 (bl'++bs) w1:=by
 obtain⟨es,x,c,came,rows,rfl,hr,hH,rfl⟩:=hQ;refine Y5 (f:=86) (ar:=[.int .i64 s]) (y:=.bool (Sd.Q.waits (cu es) s)) rfl hr (λh0=>?_) (λt hc hs=>?_) (λ_=>rfl) S0
 ·subst h0;rw[ajT];exact⟨rfl,[],came,trivial,rfl,.inl ⟨rfl,rfl⟩⟩
 ·have h:=ajZ hH (most:=most) (came:=came) (s:=s) hc hs;obtain⟨d,hd⟩:∃d,c=d+es.length:=⟨c-es.length,by omega⟩;rw[hd]at h⊢;exact(ajY hH h).h
section
variable(e0 e1 e2:One) (a:Sd.Ask) (c:Nat) (t:List ab) (most came:Int) (K:VK Empty)
def pK (es:List One) (n c':Nat) (u:List ab):Prop:=Y6 ⟨a,came⟩ (λl=>K (.int .i64 0) [cA (.sl 1 0 n c') most (u64.wrap (came+1)),dm l u] []) es
def pX (es:List One):Prop:=Ac a.source (λ_=>K (.int .i64 27) [cA (.sl 1 0 es.length c) most came,dm es t] []) (cond (decide ((es.length:Int)>=most)) (K (.int .i64 3) [cA (.sl 1 0 es.length c) most came,dm es t] [])
 ((es.length<=c/\bW (fa es++[.rest t])=c*5)/\(∀(c':Nat) (u:List ab),es.length+1<=c'->bW (fa (es++[⟨a,came⟩])++[.rest u])=c'*5->pK a most came K es (es.length+1) c' u)/\
   (∀(c':Nat) (u:List ab),es.length+1<=c'->bW (fa (es++[⟨a,came⟩])++[.rest u])=c'*5->pK a most came K es (es.length+1) c' u))) es 0
theorem aj1:gn 90 216 [.ptr 0 0,.agg (rQ a)] [cA (.raw (.slice none 0 0)) most came] (bm 1 K)=cond (decide ((0:Int)>=most)) (K (.int .i64 3) [cA (.raw (.slice none 0 0)) most came] [])
 (∀(c':Nat) (u:List ab),1<=c'->bW (fa [⟨a,came⟩]++[.rest u])=c'*5->pK a most came K [] 1 c' u):=by kernel_rfl
theorem aj2:gn 90 216 [.ptr 0 0,.agg (rQ a)] [cA (.sl 1 0 0 0) most came,dm [] t] (bm 1 K)=cond (decide ((0:Int)>=most)) (K (.int .i64 3) [cA (.sl 1 0 0 0) most came,dm [] t] [])
 (∀(c':Nat) (u:List ab),1<=c'->bW (fa [⟨a,came⟩]++[.rest u])=c'*5->pK a most came K [] 1 c' u):=by kernel_rfl
theorem aj3:gn 90 216 [.ptr 0 0,.agg (rQ a)] [cA (.sl 1 0 0 (c+1)) most came,dm [] t] (bm 1 K)=pX a (c+1) t most came K []:=by kernel_rfl
theorem aj4:gn 90 216 [.ptr 0 0,.agg (rQ a)] [cA (.sl 1 0 [e0].length c) most came,dm [e0] t] (bm 1 K)=pX a c t most came K [e0]:=by kernel_rfl
theorem aj5:gn 90 216 [.ptr 0 0,.agg (rQ a)] [cA (.sl 1 0 [e0,e1].length c) most came,dm [e0,e1] t] (bm 1 K)=pX a c t most came K [e0,e1]:=by kernel_rfl
theorem aj6:gn 90 216 [.ptr 0 0,.agg (rQ a)] [cA (.sl 1 0 [e0,e1,e2].length c) most came,dm [e0,e1,e2] t] (bm 1 K)=pX a c t most came K [e0,e1,e2]:=by kernel_rfl
end
def KS (n:Nat) (B:List VB) (M:List Sd.Ask):VK Empty:=λx b _=>∃l c u,x=.sl 2 0 n c/\b=B++[dm l u]/\l.map (·.a)=M/\l.length=n/\n<=c/\bW (fa l++[.rest u])=c*5
section
variable(e0 e1 e2:One) (c:Nat) (t:List ab) (most came:Int) (K:VK Empty)
def sX (es:List One):Prop:=∀(c':Nat) (u:List ab),es.length<=c'->bW (fa es++[.rest u])=c'*5->Y7 (λl=>K (.sl 2 0 es.length c') [cA (.sl 1 0 es.length c) most came,dm es t,dm l u] []) es
theorem aj7:gn 90 68 [.ptr 0 0] [cA (.raw (.slice none 0 0)) most came] (bm 1 K)=K (.raw (.slice none 0 0)) [cA (.raw (.slice none 0 0)) most came] []:=by kernel_rfl
theorem aj8:gn 90 68 [.ptr 0 0] [cA (.sl 1 0 0 c) most came,dm [] t] (bm 2 K)=K (.sl 2 0 0 0) [cA (.sl 1 0 0 c) most came,dm [] t,⟨true,⟨162,(0,0)⟩,[]⟩] []:=by kernel_rfl
theorem aj9:gn 90 68 [.ptr 0 0] [cA (.sl 1 0 [e0].length (c+[e0].length)) most came,dm [e0] t] (bm 2 K)=sX (c+[e0].length) t most came K [e0]:=by kernel_rfl
theorem aj_:gn 90 68 [.ptr 0 0] [cA (.sl 1 0 [e0,e1].length (c+[e0,e1].length)) most came,dm [e0,e1] t] (bm 2 K)=sX (c+[e0,e1].length) t most came K [e0,e1]:=by kernel_rfl
theorem aka:gn 90 68 [.ptr 0 0] [cA (.sl 1 0 [e0,e1,e2].length (c+[e0,e1,e2].length)) most came,dm [e0,e1,e2] t] (bm 2 K)=sX (c+[e0,e1,e2].length) t most came K [e0,e1,e2]:=by kernel_rfl
def kp (b:VB):VB:=⟨false,b.ty,b.c⟩
def jG:List Sd.Ask->Sd.Ask×Int
 |[]=>(⟨0,0,⟨0,0⟩⟩,2)
 |a::_=>(a,0)
def hV (l:List Sd.Ask):V:=.ao [.agg (rQ (jG l).1),.int .i64 (jG l).2]
theorem akb:gn 30 213 [.ptr 0 0] [kp (cA (.raw (.slice none 0 0)) most came)] (bm 0 K)=K (hV []) [] []:=by kernel_rfl
theorem akc:gn 30 213 [.ptr 0 0] [kp (cA (.sl 1 0 0 c) most came),kp (dm [] t)] (bm 0 K)=K (hV []) [] []:=by kernel_rfl
theorem akd:gn 30 213 [.ptr 0 0] [kp (cA (.sl 1 0 [e0].length c) most came),kp (dm [e0] t)] (bm 0 K)=K (hV [e0.a]) [] []:=by kernel_rfl
theorem ake:gn 30 213 [.ptr 0 0] [kp (cA (.sl 1 0 [e0,e1].length c) most came),kp (dm [e0,e1] t)] (bm 0 K)=K (hV [e0.a]) [] []:=by kernel_rfl
theorem akf:gn 30 213 [.ptr 0 0] [kp (cA (.sl 1 0 [e0,e1,e2].length c) most came),kp (dm [e0,e1,e2] t)] (bm 0 K)=K (hV [e0.a]) [] []:=by kernel_rfl
end
def J5 (n:Nat) (es:List One) (k0:Option aI->Nat->Prop) (k:Nat->List One->List ab->Prop):Prop:=match n with
 |0=>∀(x:Option aI) (c:Nat),k0 x c
 |1=>∀(a:One) (c:Nat) (t:List ab),[a.a]=cu es->k c [a] t
 |2=>∀(a b:One) (c:Nat) (t:List ab),[a.a,b.a]=cu es->k c [a,b] t
 |3=>∀(a b d:One) (c:Nat) (t:List ab),[a.a,b.a,d.a]=cu es->k c [a,b,d] t
 |_=>False
def Q3 (n:Nat) (es:List One) (most came:Int):cP bO:=λargs bl ch K=>match args,bl,ch with
 |[.ptr 0 0],[b],[g1,g2,g]=>(b=cA g.v most came/\g.T=162/\g.z=5/\g.os=jk es/\g.n=es.length/\es.length=n/\fJ es)/\J5 n es (λx c=>K (.raw (.slice x 0 c)) bl ch) (λc l t=>K (.sl 1 0 n c) (bl++[dm l t]) ch)
 |_,_,_=>False
def apps (r:bO) (news:List ab) (k:bO->Prop):Prop:=(r.v=r.v/\r.n+1<=1000000)/\∀(xa:Option aI) (c:Nat) (bk:List ai) (h:eI r.z r.T (r.os++news) xa (r.n+1) c bk),k ⟨r.T,r.z,r.os++news,xa,r.n+1,c,bk,h⟩
def J6 (g:bO) (T z:Nat) (os:List ab) (n:Nat):Prop:=g.T=T/\g.z=z/\g.os=os/\g.n=n
theorem Y8:∀a b:List Sd.Ask,tO (a++b)=tO a++tO b
 |[],b=>rfl
 |x::a,b=>by simp only[fb,tO,Y8 a b,bN]
theorem akg {r:bO} {news:List ab} {k:bO->Prop} {T z n:Nat} {os:List ab} (h:J6 r T z os n) (hn:n<100) (hk:∀r',J6 r' T z (os++news) (n+1)->k r'):apps r news k:=by
 obtain⟨rfl,rfl,rfl,rfl⟩:=h;exact⟨⟨rfl,by omega⟩,λxa c bk hh=>hk _ ⟨rfl,rfl,rfl,rfl⟩⟩
theorem Y9 {es:List One} (h:fJ es):(cu es).length=es.length/\es.length<=3:=by
 match es,h with
 |[],_=>simp[cu]
 |[x],_=>simp[cu]
 |[x,y],h=>simp[cu]
 |[x,y,z],h=>simp only[cu];split<;>simp
 |_::_::_::_::_,h=>exact absurd h (by simp[fJ])
theorem akh {n:Nat} {es l:List One} {k0:Option aI->Nat->Prop} {k:Nat->List One->List ab->Prop} (h:J5 n es k0 k) (hl:l.length=n) (hm:l.map (·.a)=cu es):(n=0->∀x c,k0 x c)/\(0<n->∀c t,k c l t):=by
 match l,n,hl with
 |[],0,_=>exact⟨λ_=>h,λh=>by omega⟩
 |[a],1,_=>exact⟨λh=>by omega,λ_ c t=>h a c t hm⟩
 |[a,b],2,_=>exact⟨λh=>by omega,λ_ c t=>h a b c t hm⟩
 |[a,b,d],3,_=>exact⟨λh=>by omega,λ_ c t=>h a b d c t hm⟩
 |_::_::_::_::_,n+4,_=>exact h.elim
theorem aki {n:Nat} {es:List One} {k0:Option aI->Nat->Prop} {k:Nat->List One->List ab->Prop} (hn:n<=3) (h0:n=0->∀x c,k0 x c) (h:∀l c t,l.map (·.a)=cu es->l.length=n->k c l t):J5 n es k0 k:=by
 match n,hn with
 |0,_=>exact h0 rfl
 |1,_=>exact λa c t hm=>h [a] c t hm rfl
 |2,_=>exact λa b c t hm=>h [a,b] c t hm rfl
 |3,_=>exact λa b d c t hm=>h [a,b,d] c t hm rfl
theorem akj {c:Nat} {t:List ab} {most came:Int} {K:VK Empty}:∀{es:List One},fJ es->0<es.length->sX (c+es.length) t most came K es->Hd (gn 90 68 [.ptr 0 0] [cA (.sl 1 0 es.length (c+es.length)) most came,dm es t] (bm 2 K))
 |[],_,h0,_=>absurd h0 (by simp)
 |[e0],_,_,h=>⟨by rw[aj9];exact h⟩
 |[e0,e1],_,_,h=>⟨by rw[aj_];exact h⟩
 |[e0,e1,e2],_,_,h=>⟨by rw[aka];exact h⟩
 |_::_::_::_::_,hH,_,_=>absurd hH (by simp[fJ])
theorem akk {es:List One} {x:Option aI} {c bq:Nat} {most came:Int} {rows bs:List ai} {ms:List Nat} {w0 w:ae} (ju:eI 5 162 (jk es) x es.length c rows) (hH:fJ es)
 (S0:St ms w0 (⟨bq,true,.cells #[.slice x es.length c,.int .i64 most,.int .u64 came] 146 (0,0)⟩::(rows++bs)) w):
 aQ prog 68 #[.pointer (some ⟨bq,0,none⟩)] w λv w1=>∃l xr cr rw,v=.slice xr es.length cr/\l.map (·.a)=cu es/\l.length=es.length/\(es.length=0\/eI 5 162 (jk l) xr es.length cr rw)/\St ms w0 (rw++(⟨bq,true,.cells #[.slice x es.length c,.int .i64 most,.int .u64 came] 146 (0,0)⟩::(rows++bs))) w1:=by
 obtain⟨_,hle,ju⟩:=ju;rcases ju with⟨rfl,h0,rfl,rfl⟩|⟨b,t,rfl,rfl,hlen⟩
 ·obtain rfl:es=[]:=mE h0;refine(CM (f:=68) (n:=90) (args:=[.ptr 0 0]) (n0:=1) (K:=λx b _=>x=.raw (.slice none 0 0)/\b=[cA (.raw (.slice none 0 0)) most came]) (ids:=[bq]) (bl:=[cA (.raw (.slice none 0 0)) most came]) (by rw[aj7];exact⟨rfl,rfl⟩) rfl (by simp) S0).mono ?_;rintro v w1 ⟨x,more,b,rfl,hl,S1,rfl,rfl⟩;obtain rfl:more=[]:=by simpa using hl
  exact⟨[],none,0,[],rfl,rfl,rfl,.inl rfl,S1⟩
 ·have e3:lits [bq,b] [bq,b] [cA (.sl 1 0 es.length c) most came,dm es t]=⟨bq,true,.cells #[.slice (some ⟨b,0,none⟩) es.length c,.int .i64 most,.int .u64 came] 146 (0,0)⟩::[⟨b,true,.cells (jk es++t).toArray 162 (0,0)⟩]:=by
   simp only[lits,ay,dm,iq,vL,ah,cl,cI];rfl
  have S1:St ms w0 (lits [bq,b] [bq,b] [cA (.sl 1 0 es.length c) most came,dm es t]++bs) w:=by rw[e3];exact S0
  rcases uh es.length with h0|h0
  ·obtain rfl:es=[]:=mE h0;refine(CM (f:=68) (n:=90) (args:=[.ptr 0 0]) (n0:=2) (K:=λx b _=>x=.sl 2 0 0 0/\b=[cA (.sl 1 0 0 c) most came,dm [] t,⟨true,⟨162,(0,0)⟩,[]⟩]) (ids:=[bq,b]) (by rw[show([]:List One).length=0 from rfl,aj8];exact⟨rfl,rfl⟩) rfl (by simp) S1).mono ?_;rintro v w1 ⟨x,more,bl',rfl,hl,S2,rfl,rfl⟩
   match more,hl with
   |[b2],_=>
    refine⟨[],some ⟨b2,0,none⟩,0,[],rfl,rfl,rfl,.inl rfl,?_⟩;have e5:lits [bq,b,b2] [bq,b,b2] [cA (.sl 1 0 0 c) most came,dm [] t,⟨true,⟨162,(0,0)⟩,[]⟩]=[⟨bq,true,.cells #[.slice (some ⟨b,0,none⟩) 0 c,.int .i64 most,.int .u64 came] 146 (0,0)⟩,⟨b,true,.cells (jk []++t).toArray 162 (0,0)⟩]++[⟨b2,true,.cells #[] 162 (0,0)⟩]:=by
     simp only[fb,fc,lits,ay,dm,fa,jk,ah,cl,cI];rfl
    have e4:([bq,b].take 2++[b2]:List Nat)=[bq,b,b2]:=rfl;rw[e4,e5]at S2;have:=S2.sub (acB (List.sublist_append_left [_,_] _) bs);exact this
  ·have cJ:gn 90 68 [.ptr 0 0] [cA (.sl 1 0 es.length c) most came,dm es t] (bm 2 (KS es.length [cA (.sl 1 0 es.length c) most came,dm es t] (cu es))):=by
    have h:sX c t most came (KS es.length [cA (.sl 1 0 es.length c) most came,dm es t] (cu es)) es:=λc' u h1 h2=>ajS hH λl hm hl=>⟨l,c',u,rfl,rfl,hm,hl,h1,by rw[<-h2,vM,vM,hl]⟩;clear hlen e3 S0 S1;obtain⟨d,hd⟩:∃d,c=d+es.length:=⟨c-es.length,by omega⟩;rw[hd]at h⊢;exact(akj hH h0 h).h
   refine(CM cJ (ids:=[bq,b]) rfl (by simp) S1).mono ?_;rintro v w1 ⟨x,more,bl',rfl,hl,S2,l,c',u,rfl,rfl,hm,J7,w6,di⟩
   match more,hl with
   |[b2],_=>
    have e4:([bq,b].take 2++[b2]:List Nat)=[bq,b,b2]:=rfl;have e5:lits [bq,b,b2] [bq,b,b2] ([cA (.sl 1 0 es.length c) most came,dm es t]++[dm l u])=⟨bq,true,.cells #[.slice (some ⟨b,0,none⟩) es.length c,.int .i64 most,.int .u64 came] 146 (0,0)⟩::⟨b,true,.cells (jk es++t).toArray 162 (0,0)⟩::[⟨b2,true,.cells (jk l++u).toArray 162 (0,0)⟩]:=by
     simp only[fb,fc,lits,ay,dm,iq,vL,ah,cl,cI];rfl
    rw[e4,e5]at S2;refine⟨l,some ⟨b2,0,none⟩,c',[⟨b2,true,.cells (jk l++u).toArray 162 (0,0)⟩],rfl,hm,J7,.inr ⟨by rw[Q1,J7],w6,.inr ⟨b2,u,rfl,rfl,?_⟩⟩,?_⟩
    ·rw[<-di,<-j6 (ids:=[]),iq,vL];simp[ah,cl]
    ·exact S2.perm ((DG bs (List.perm_append_comm (l₁:=[_,_]) (l₂:=[_]))))
theorem akl (n:Nat) (es:List One) (most came:Int):Sound prog (λ_=>none) 68 (Q3 n es most came):=by
 intro args ids bl ch R ms w0 w K hg hl S hc;unfold Q3 at hc;split at hc
 ·rename_i b g1 g2 g;obtain⟨⟨rfl,hT,hz,xR,hn,rfl,hH⟩,hK⟩:=hc
  match ids,hl with
  |[i],_=>
   have e1:lits [i] [i] [cA g.v most came]=[⟨i,true,.cells #[.slice g.x g.n g.c,.int .i64 most,.int .u64 came] 146 (0,0)⟩]:=rfl;have p1:∀(q:ai) (A B D:List ai),(([q]:List ai)++(A++(B++(D++R)))).Perm (q::(D++(A++(B++R)))):=by
    intro q A B D;refine ui q ?_;have:=qV (A++B) D R;simpa[bN]using this
   rw[e1]at S;have S1:=S.perm (p1 _ g1.bl g2.bl g.bl);have hr:=g.h;rw[hT,hz,xR,hn]at hr;rw[hn]at S1;refine(akk hr hH S1).mono ?_;rintro v w1 ⟨l,xr,cr,rw_,rfl,hm,J7,ju,S2⟩;obtain⟨k0,k1⟩:=akh hK J7 hm;rcases uh es.length with h0|h0
   ·refine⟨_,[],_,_,?_,rfl,?_,k0 h0 xr cr⟩
    ·simp only[den];rw[h0]
    ·have S3:=S2.sub (n8 rw_ _);rw[<-hn]at S3;have S4:=S3.perm (p1 _ g1.bl g2.bl g.bl).symm;exact S4
   ·rcases ju with h|h
    ·omega
    ·obtain⟨_,_,h3⟩:=h;rcases h3 with⟨_,hz,_⟩|⟨b,t,hx,hbl,_⟩
     ·omega
     ·refine⟨_,[b],_,_,?_,rfl,?_,k1 h0 cr t⟩
      ·simp only[den];rw[hx];rfl
      ·rw[hbl,<-hn]at S2;have e2:lits ([i]++[b]) ([i]++[b]) ([cA g.v most came]++[dm l t])=[⟨i,true,.cells #[.slice g.x g.n g.c,.int .i64 most,.int .u64 came] 146 (0,0)⟩]++[⟨b,true,.cells (jk l++t).toArray 162 (0,0)⟩]:=by
        simp only[DL,lits,ay,dm,iq,vL,ah,cl,cI];rfl
       rw[e2];refine S2.perm ?_;refine(pI _ (p1 _ g1.bl g2.bl g.bl).symm).trans ?_;rw[bN];exact qV _ _ _
 ·exact hc.elim
theorem Q4 {es:List One} (h:fJ es) (x:Sd.Ask):x∈cu es↔∃e∈es,e.a=x:=by
 match es,h with
 |[],_=>simp[cu]
 |[a],_=>simp[cu,eq_comm]
 |[a,b],_=>simp[cu,eq_comm]
 |[a,b,d],_=>
  simp only[cu];split<;>simp[eq_comm];exact or_congr_right or_comm
 |_::_::_::_::_,h=>exact absurd h (by simp[fJ])
theorem Y_ {s:Int} {rR:Nat->Prop} {F6:Prop}:∀{es:List One} {i:Nat},((∃e∈es,e.a.source=s)->∀i,rR i)->((∀e∈es,¬e.a.source=s)->F6)->Ac s rR F6 es i
 |[],_,_,h2=>h2 (by simp)
 |e::l,i,h1,h2=>aH (λh=>h1 ⟨e,by simp,by simpa using h⟩ i) λh=>Y_ (λ⟨x,hx,hs⟩=>h1 ⟨x,by simp[hx],hs⟩) λhl=>h2 λx hx=>by
  rcases bY.1 hx with rfl|hx
  ·simpa using h
  ·exact hl x hx
theorem akm {es:List One} (hH:fJ es) {a:Sd.Ask} {most came:Int} {c:Nat} {t:List ab} (hm:most<=3) (hr:∀e∈cu es,e.source=a.source\/¬e.bD=a.bD) (hc:es.length<=c) (hs:bW (fa es++[.rest t])=c*5):
 pX a c t most came (KP most (.int .i64 (Sd.Q.push most (cu es) a).2) (Sd.Q.push most (cu es) a).1) es:=by
 obtain⟨Q5,nE⟩:=Y9 hH;have same:∀k:Int,Sd.Q.push most (cu es) a=(cu es,k)->KP most (.int .i64 (Sd.Q.push most (cu es) a).2) (Sd.Q.push most (cu es) a).1 (.int .i64 k) [cA (.sl 1 0 es.length c) most came,dm es t] []:=λk hk=>by
  rw[hk];exact F8 (dE _) hc hs (by rw[UA];exact hH) (by rw[UA])
 refine Y_ (λ⟨e,he,hse⟩ _=>same 27 ?_) λqj=>aH (λh=>same 3 ?_) λh=>?_
 ·have:Sd.Q.waits (cu es) a.source=true:=yA.2 ⟨e.a,(Q4 hH _).2 ⟨e,he,rfl⟩,by simpa using hse⟩;simp[Sd.Q.push,this]
 all_goals
  have hw:Sd.Q.waits (cu es) a.source=false:=List.any_eq_false.2 λx hx=>by
   obtain⟨e,he,rfl⟩:=(Q4 hH _).1 hx;simpa using qj e he
 ·have h':most<=((cu es).length:Int):=by rw[Q5];exact of_decide_eq_true h
  simp[Sd.Q.push,hw,h']
 ·have h':¬most<=(es.length:Int):=of_decide_eq_false h;have e1:Sd.Q.push most (cu es) a=(Sd.Q.insert (cu es) a,0):=by simp[Sd.Q.push,hw,Q5,h']
  rw[e1];have X:∀(c':Nat) (u:List ab),es.length+1<=c'->bW (fa (es++[⟨a,came⟩])++[.rest u])=c'*5->pK a most came (KP most (.int .i64 0) (Sd.Q.insert (cu es) a)) es (es.length+1) c' u:=λc' u h1 h2=>by
   refine ajR ⟨a,came⟩ hH (by omega) (λe he=>?_) λl hl hH' hA'=>?_
   ·obtain⟨x,hx,rfl⟩:=(Q4 hH _).1 he;exact⟨qj x hx,(hr _ he).resolve_left (qj x hx)⟩
   ·exact F8 (by omega) (by omega) (by rw[<-h2,vM,vM,hl,fi];rfl) (by rw[<-hl,UA];exact hH') (by rw[<-hl,UA];exact hA')
  exact⟨⟨hc,hs⟩,X,X⟩
theorem Za {a:Sd.Ask} {most came:Int} (t:List ab) {B:List VB} (hB:B=[cA (.raw (.slice none 0 0)) most came]\/B=[cA (.sl 1 0 0 0) most came,dm [] t]/\t.length=0):
 cond (decide ((0:Int)>=most)) (KP most (.int .i64 (Sd.Q.push most (cu []) a).2) (Sd.Q.push most (cu []) a).1 (.int .i64 3) B [])
  (∀(c':Nat) (u:List ab),1<=c'->bW (fa [⟨a,came⟩]++[.rest u])=c'*5->pK a most came (KP most (.int .i64 (Sd.Q.push most (cu []) a).2) (Sd.Q.push most (cu []) a).1) [] 1 c' u):=by
 refine aH (λh=>?_) λh c' u h1 h2=>?_
 ·have h':most<=0:=of_decide_eq_true h;have e1:Sd.Q.push most (cu []) a=([],3):=by simp[Sd.Q.push,Sd.Q.waits,cu,h']
  rw[e1];rcases hB with rfl|⟨rfl,ht⟩
  ·exact⟨rfl,[],came,trivial,rfl,.inl ⟨rfl,rfl⟩⟩
  ·exact F8 (l:=[]) (dE _) (dE _) (by rw[vM,ht];rfl) trivial rfl
 ·have h':¬most<=0:=of_decide_eq_false h;have e1:Sd.Q.push most (cu []) a=([a],0):=by simp[Sd.Q.push,Sd.Q.waits,Sd.Q.insert,cu,h']
  rw[e1];exact F8 (l:=[⟨a,came⟩]) (m:=1) (dE _) h1 h2 trivial rfl
theorem akn {a:Sd.Ask} {t:List ab} {most came:Int} {K:VK Empty}:∀{es:List One} {c:Nat},fJ es->0<es.length+c->pX a c t most came K es->Hd (gn 90 216 [.ptr 0 0,.agg (rQ a)] [cA (.sl 1 0 es.length c) most came,dm es t] (bm 1 K))
 |[],0,_,h0,_=>absurd h0 (by simp)
 |[],c+1,_,_,h=>⟨by rw[HW,aj3];exact h⟩
 |[e0],_,_,_,h=>⟨by rw[aj4];exact h⟩
 |[e0,e1],_,_,_,h=>⟨by rw[aj5];exact h⟩
 |[e0,e1,e2],_,_,_,h=>⟨by rw[aj6];exact h⟩
 |_::_::_::_::_,_,hH,_,_=>absurd hH (by simp[fJ])
theorem ako {bq:Nat} {most:Int} {L:List Sd.Ask} {bl bs:List ai} {ms:List Nat} {w0 w:ae} (a:Sd.Ask) (hQ:QS bq most L bl) (hm:most<=3) (hr:∀e∈L,e.source=a.source\/¬e.bD=a.bD) (S0:St ms w0 (bl++bs) w):
 aQ prog 216 #[.pointer (some ⟨bq,0,none⟩),.agg (Fv a)] w λv w1=>∃bl',v=.int .i64 (Sd.Q.push most L a).2/\QS bq most (Sd.Q.push most L a).1 bl'/\St ms w0 (bl'++bs) w1:=by
 obtain⟨es,x,c,came,rows,rfl,fl,hH,rfl⟩:=hQ;refine Y5 (f:=216) (ar:=[.agg (rQ a)]) (y:=.int .i64 (Sd.Q.push most (cu es) a).2) rfl fl (λh0=>?_) (λt hc hs=>?_) (λ_=>rfl) S0
 ·subst h0;rw[aj1];exact Za [] (.inl rfl)
 ·rcases uh (es.length+c)with h0|h0
  ·obtain rfl:es=[]:=mE (by omega);obtain rfl:c=0:=by simpa using h0
   rw[HW,aj2];exact Za t (.inr ⟨rfl,by rw[vM]at hs;simpa using hs⟩)
  ·exact(akn hH h0 (akm hH (came:=came) hm hr hc hs)).h
theorem akp {c:Nat} {t:List ab} {most came:Int} {K:VK Empty}:∀{es:List One},fJ es->K (hV (cu es)) [] []->Hd (gn 30 213 [.ptr 0 0] [kp (cA (.sl 1 0 es.length c) most came),kp (dm es t)] (bm 0 K))
 |[],_,h=>⟨by rw[HW,akc];exact h⟩
 |[e0],_,h=>⟨by rw[akd];exact h⟩
 |[e0,e1],_,h=>⟨by rw[ake];exact h⟩
 |[e0,e1,e2],_,h=>⟨by
  have e:hV (cu [e0,e1,e2])=hV [e0.a]:=by simp only[cu];split<;>rfl
  rw[e]at h;rw[akf];exact h⟩
 |_::_::_::_::_,hH,_=>absurd hH (by simp[fJ])
theorem akq {bq:Nat} {most:Int} {L:List Sd.Ask} {bl bs:List ai} {ms:List Nat} {w0 w:ae} (hQ:QS bq most L bl) (S0:St ms w0 (bl++bs) w):
 aQ prog 213 #[.pointer (some ⟨bq,0,none⟩)] w λv w1=>v=.tuple #[.agg (Fv (jG L).1),.int .i64 (jG L).2]/\Ch [] w w1:=by
 obtain⟨es,x,c,came,rows,rfl,⟨_,hle,ju⟩,hH,rfl⟩:=hQ;have hq:=S0.at' (x:=⟨bq,true,.cells #[.slice x es.length c,.int .i64 most,.int .u64 came] 146 (0,0)⟩) (by simp);have fin:∀{ids:List Nat} {bl:List VB},(∃r,ids=bq::r)->ids.length=bl.length->gn 30 213 [.ptr 0 0] bl (bm 0 λv b _=>v=hV (cu es))->St [] w (lits ids ids bl++[]) w->aQ prog 213 #[.pointer (some ⟨bq,0,none⟩)] w λv w1=>v=.tuple #[.agg (Fv (jG (cu es)).1),.int .i64 (jG (cu es)).2]/\Ch [] w w1:=by
  rintro ids bl ⟨r,rfl⟩ hl h S;refine(CM h hl (by simp) S).mono ?_;rintro v w1 ⟨v2,more,b,rfl,_,S1,rfl⟩;exact⟨rfl,S1.ch⟩
 rcases ju with⟨rfl,h0,rfl,rfl⟩|⟨b,t,rfl,rfl,hlen⟩
 ·obtain rfl:es=[]:=mE h0;exact fin (ids:=[bq]) (bl:=[kp (cA (.raw (.slice none 0 0)) most came)]) ⟨[],rfl⟩ rfl (by rw[akb];rfl) (St.given [(bq,_)] (by intro p hp;simp only[i_]at hp;subst hp;exact hq))
 ·have hb:=S0.at' (x:=⟨b,true,.cells (jk es++t).toArray 162 (0,0)⟩) (by simp);have e3:ah [bq,b] (fa es++[.rest t])=jk es++t:=by rw[iq,vL];simp[ah,cl]
  have S:St [] w (lits [bq,b] [bq,b] [kp (cA (.sl 1 0 es.length c) most came),kp (dm es t)]++[]) w:=
   St.given [(bq,.cells (ah [bq,b] [.sl 1 0 es.length c,.int .i64 most,.int .u64 came]).toArray 146 (0,0)),(b,.cells (ah [bq,b] (fa es++[.rest t])).toArray 162 (0,0))] (by
    intro p hp;simp only[bY,n9,or_false]at hp;rcases hp with rfl|rfl
    ·exact hq
    ·rw[e3];exact hb)
  exact fin ⟨[b],rfl⟩ rfl (akp hH rfl).h S
def J8 (most came:Int) (gq g2:bO) (K:VK bO):List One->List VB->bO->Prop
 |[],j,g1=>K g1.v (cA gq.v most came::j) [g1,g2,gq]
 |e::l,j,g1=>apps g1 (ah [] (rQ e.a)) λg1=>J8 most came gq g2 K l (j++[⟨true,⟨162,(0,0)⟩,J1 e⟩,⟨true,⟨112,(0,0)⟩,rQ e.a⟩]) g1
def F9 (n:Nat) (most came:Int) (gq:bO) (es:List One) (K:VK bO):Prop:=
 (cA gq.v most came=cA gq.v most came/\gq.T=162/\gq.z=5/\gq.os=jk es/\gq.n=es.length/\es.length=n/\fJ es)/\J5 n es (λx c=>J8 most came gq (.nil 162 5) K [] [] (.nil 112 4)) (λc l t=>J8 most came gq (.nil 162 5) K l [dm l t] (.nil 112 4))
section
variable(most came:Int) (gq:bO) (es:List One) (K:VK bO)
abbrev LL (n:Nat) (es:List One) (most came:Int):List (bK bO):=[⟨68,false,Q3 n es most came⟩]
theorem akr:bu (tp prog (λ_=>none) (LL 0 es most came)) 60 39 [.ptr 0 0] [cA gq.v most came] [.nil 112 4,.nil 162 5,gq] K=F9 0 most came gq es K:=by kernel_rfl
theorem aks:bu (tp prog (λ_=>none) (LL 1 es most came)) 60 39 [.ptr 0 0] [cA gq.v most came] [.nil 112 4,.nil 162 5,gq] K=F9 1 most came gq es K:=by kernel_rfl
theorem akt:bu (tp prog (λ_=>none) (LL 2 es most came)) 60 39 [.ptr 0 0] [cA gq.v most came] [.nil 112 4,.nil 162 5,gq] K=F9 2 most came gq es K:=by kernel_rfl
theorem aku:bu (tp prog (λ_=>none) (LL 3 es most came)) 60 39 [.ptr 0 0] [cA gq.v most came] [.nil 112 4,.nil 162 5,gq] K=F9 3 most came gq es K:=by kernel_rfl
end
def KL (most came:Int) (gq g2:bO) (M:List Sd.Ask):VK bO:=λv bl ch=>∃(j:List VB) (g1:bO),v=g1.v/\bl=cA gq.v most came::j/\ch=[g1,g2,gq]/\J6 g1 112 4 (tO M) M.length
theorem Q6 (most came:Int) (gq g2:bO) {M:List Sd.Ask}:∀(l:List One) (j:List VB) (g1:bO) (G:List Sd.Ask),J6 g1 112 4 (tO G) G.length->G.length+l.length<100->G++l.map (·.a)=M->J8 most came gq g2 (KL most came gq g2 M) l j g1
 |[],j,g1,G,h1,_,hM=>⟨j,g1,rfl,rfl,rfl,by rw[<-hM];simpa using h1⟩
 |e::l,j,g1,G,h1,l1,hM=>by
  simp only[ly]at l1;exact akg h1 (by omega) λr' hr=>Q6 most came gq g2 l _ r' (G++[e.a]) (by rw[Y8,fi];exact hr) (by simp;omega) (by rw[<-hM];simp)
theorem akv {bq:Nat} {most:Int} {L:List Sd.Ask} {bl bs:List ai} {ms:List Nat} {w0 w:ae} (hQ:QS bq most L bl) (S0:St ms w0 (bl++bs) w):
 aQ prog 39 #[.pointer (some ⟨bq,0,none⟩)] w λv w1=>∃x c1 rows,v=.slice x L.length c1/\eI 4 112 (tO L) x L.length c1 rows/\St ms w0 (rows++(bl++bs)) w1:=by
 obtain⟨es,x,c,came,rows,rfl,hr,hH,rfl⟩:=hQ;obtain⟨Q5,nE⟩:=Y9 hH
 let gq:bO:=⟨162,5,jk es,x,es.length,c,rows,hr⟩
 have S1:St ms w0 (lits [bq] [bq] [cA gq.v most came]++av [bO.nil 112 4,.nil 162 5,gq] bs) w:=by simpa[lits,av,Bl.B,bO.nil,gq,ay,cA,bO.v,ah,cl,den]using S0
 have hA:F9 es.length most came gq es (KL most came gq (.nil 162 5) (cu es)):=
  ⟨⟨rfl,rfl,rfl,rfl,rfl,rfl,hH⟩,aki nE (λh0 x c=>Q6 most came gq _ [] [] _ [] ⟨rfl,rfl,rfl,rfl⟩ (by simp) (by rw[mE h0];rfl)) (λl c t hm hl=>Q6 most came gq _ l _ _ [] ⟨rfl,rfl,rfl,rfl⟩ (by simp;omega) (by simpa using hm))⟩
 have cJ:bu (tp prog (λ_=>none) (LL es.length es most came)) 60 39 [.ptr 0 0] [cA gq.v most came] [.nil 112 4,.nil 162 5,gq] (KL most came gq (.nil 162 5) (cu es)):=by
  rcases(by omega:es.length=0\/es.length=1\/es.length=2\/es.length=3)with h|h|h|h<;>rw[h]at hA⊢
  ·rw[akr];exact hA
  ·rw[aks];exact hA
  ·rw[akt];exact hA
  ·rw[aku];exact hA
 have dA:aG prog (λ_=>none) (LL es.length es most came):=aG.cons ⟨akl _ es most came,λe=>by cases e⟩ aG.nil;refine(eD dA.TR dA.QR 60 (C:=tp prog (λ_=>none) (LL es.length es most came)) (args:=[.ptr 0 0]) (λg i h=>by cases h) rfl S1 cJ).mono ?_;rintro _ w' ⟨xx,more,bl',ch',rfl,ng,S3,j,g1,rfl,rfl,rfl,t1,t2,t3,t4⟩;have J9:=g1.h;rw[t1,t2,t3,t4]at J9;refine⟨g1.x,g1.c,g1.bl,by simp only[bO.v,den];rw[t4],J9,?_⟩;have e1:lits ([bq]++more) ([bq]++more) (cA gq.v most came::j)=⟨bq,true,.cells #[.slice x es.length c,.int .i64 most,.int .u64 came] 146 (0,0)⟩::lits ([bq]++more) more j:=rfl;rw[e1]at S3;have S4:=S3.sub (bs':=⟨bq,true,.cells #[.slice x es.length c,.int .i64 most,.int .u64 came] 146 (0,0)⟩::(g1.bl++(rows++bs))) (by
  rw[fb];exact H2 _ (n8 _ _))
 exact S4.perm jH.symm
structure LK where
 ka:Nat->Option aI
 kn:Nat->Nat
 kc:Nat->Nat
 kf:Nat->Nat->Int
 bq:Nat
 tg:aD
 tc:aD
 most:Int
 px:Option aI
 pn:Nat
 pc:Nat
 pf:Sd.aw
structure FD where
 k:LK
 q:List Sd.Ask
 bz:List (Int×Sd.aF)
 br:List Sd.Rec
inductive Ad (fr:Sd.aF->Nat×Sd.aw):List (Int×Sd.aF)->List ab->List ai->Prop
 |nil:Ad fr [] [] []
 |snoc {l olds bl} (h:Ad fr l olds bl) (k:Int) (r:Sd.aF) (x:Option aI) (c:Nat) (b:List ai) (hb:eA 5 (fr r).1 (fr r).2 x c b):Ad fr (l++[(k,r)]) (olds++[.int .i64 k,.slice x (fr r).1 c]) (bl++b)
structure a9 (fr:Sd.aF->Nat×Sd.aw) (d:FD) where
 xs:Option aI
 cs:Nat
 xr:Option aI
 cr:Nat
 Bq:List ai
 Br:List ai
 Bs:List ai
 Bf:List ai
 Bk:List ai
 so:List ab
 hq:QS d.k.bq d.k.most d.q Bq
 hr:eI 6 75 (tN d.br) xr d.br.length cr Br
 hs:eI 2 85 so xs d.bz.length cs Bs
 hf:Ad fr d.bz so Bf
 hk:∃b0 b1 b2 b3 b4,Bk=b0++(b1++(b2++(b3++b4)))/\eA 5 (d.k.kn 0) (d.k.kf 0) (d.k.ka 0) (d.k.kc 0) b0/\eA 5 (d.k.kn 1) (d.k.kf 1) (d.k.ka 1) (d.k.kc 1) b1/\eA 5 (d.k.kn 2) (d.k.kf 2) (d.k.ka 2) (d.k.kc 2) b2/\eA 5 (d.k.kn 3) (d.k.kf 3) (d.k.ka 3) (d.k.kc 3) b3/\eA 5 d.k.pn d.k.pf d.k.px d.k.pc b4
variable{fr:Sd.aF->Nat×Sd.aw}
def a9.B {d:FD} (F:a9 fr d):List ai:=F.Br++(F.Bs++(F.Bf++(F.Bq++F.Bk)))
def a9.vs {d:FD} (F:a9 fr d):ab:=.slice F.xs d.bz.length F.cs
def a9.vr {d:FD} (F:a9 fr d):ab:=.slice F.xr d.br.length F.cr
structure Gh (fr:Sd.aF->Nat×Sd.aw) where
 d:FD
 dx:Nat->Sd.dG
 sx:Nat->Sd.gz
 F:a9 fr d
instance:Bl (Gh fr):=⟨λg=>g.F.B⟩
def r3 {α:Type} (a b c:α) (f:Nat->α):Nat->α:=λj=>match j with|0=>a|1=>b|2=>c|j+3=>f (j+3)
theorem J_ {α:Type} (f:Nat->α):r3 (f 0) (f 1) (f 2) f=f:=by funext j;match j with|0=>rfl|1=>rfl|2=>rfl|j+3=>rfl
structure CC where
 p:Sd.aJ
 ka:Nat->Option aI
 kn:Nat->Nat
 kc:Nat->Nat
 t:Sd.Tok
 vq:ab
 d0:Sd.dG
 d1:Sd.dG
 d2:Sd.dG
 it:Nat
 sa:Int
 be:Int
 mo:Int
 mb:Sd.Label
 pt:Sd.eu
 hd:Nat->Int
def CO (x:CC):List V:=[.dS x.p x.ka x.kn x.kc,.int .i64 x.t.aE,.int .i64 x.t.af,.int .i64 x.t.offer,.int .i64 x.t.oa.n,.int .i64 x.t.oa.most,.int .i64 x.t.la.n,.int .i64 x.t.la.most,.bool x.t.bad,.raw x.vq,
 .int .i64 x.d0.many,.bool x.d0.gy,.bH .u8 8 x.d0.au,.int .i64 x.d1.many,.bool x.d1.gy,.bH .u8 8 x.d1.au,.int .i64 x.d2.many,.bool x.d2.gy,.bH .u8 8 x.d2.au,.ptr x.it 0,.int .i64 x.sa,.int .i64 x.be,.int .i64 x.mo,
 .int .i64 x.mb.lY,.int .i64 x.mb.source,.int .i64 x.mb.seq,.int .i64 x.pt.cls,.int .i64 x.pt.aV.a,.int .i64 x.pt.aV.b,.int .i64 x.pt.aV.c,.int .i64 x.pt.aV.d,.int .i64 x.pt.now.a,.int .i64 x.pt.now.b,.int .i64 x.pt.now.c,.int .i64 x.pt.now.d,
 .int .i64 x.pt.bG.lY,.int .i64 x.pt.bG.source,.int .i64 x.pt.bG.seq,.bH .u8 32 x.hd]
def Ae:List V->Option CC
 |.dS p ka kn kc::.int .i64 t1::.int .i64 t2::.int .i64 t3::.int .i64 t4::.int .i64 t5::.int .i64 t6::.int .i64 t7::.bool t8::.raw vq::.int .i64 a1::.bool a2::.bH .u8 8 a3::.int .i64 b1::.bool b2::.bH .u8 8 b3::.int .i64 c1::.bool c2::.bH .u8 8 c3::.ptr it 0::.int .i64 sa::.int .i64 be::.int .i64 mo::.int .i64 l1::.int .i64 l2::.int .i64 l3::.int .i64 p1::.int .i64 p2::.int .i64 p3::.int .i64 p4::.int .i64 p5::.int .i64 p6::.int .i64 p7::.int .i64 p8::.int .i64 p9::.int .i64 q1::.int .i64 q2::.int .i64 q3::.bH .u8 32 hd::[]=>some ⟨p,ka,kn,kc,⟨t1,t2,t3,⟨t4,t5⟩,⟨t6,t7⟩,t8⟩,vq,⟨a1,a2,a3⟩,⟨b1,b2,b3⟩,⟨c1,c2,c3⟩,it,sa,be,mo,⟨l1,l2,l3⟩,⟨p1,⟨p2,p3,p4,p5⟩,⟨p6,p7,p8,p9⟩,⟨q1,q2,q3⟩⟩,hd⟩
 |_=>none
theorem F_ {l:List V} {x:CC} (h:Ae l=some x):l=CO x:=by
 unfold Ae at h;split at h
 ·obtain rfl:=ck h;rfl
 ·cases h
structure TC where
 s1:Bool
 sn:Int
 sm:Int
 s0:Sd.gz
 sa:Sd.gz
 sb:Sd.gz
 b:Int
 m:Int
def vN (x:Sd.gz):List V:=[.bool x.on,.int .i64 x.eB.n,.int .i64 x.eB.most,.int .i64 x.role,.bH .u8 32 x.key,.bool x.seen.any,.int .i64 x.seen.high,.int .u64 x.seen.seen]
def cT (x:TC):List V:=.bool x.s1::.int .i64 x.sn::.int .i64 x.sm::(vN x.s0++(vN x.sa++(vN x.sb++[.int .i64 x.b,.int .i64 x.m])))
def rS:List V->Option TC
 |[.bool s1,.int .i64 sn,.int .i64 sm,.bool a1,.int .i64 a2,.int .i64 a3,.int .i64 a4,.bH .u8 32 a5,.bool a6,.int .i64 a7,.int .u64 a8,.bool b1,.int .i64 b2,.int .i64 b3,.int .i64 b4,.bH .u8 32 b5,.bool b6,.int .i64 b7,.int .u64 b8,
  .bool c1,.int .i64 c2,.int .i64 c3,.int .i64 c4,.bH .u8 32 c5,.bool c6,.int .i64 c7,.int .u64 c8,.int .i64 b,.int .i64 m]=>some ⟨s1,sn,sm,⟨a1,⟨a2,a3⟩,a4,a5,⟨a6,a7,a8⟩⟩,⟨b1,⟨b2,b3⟩,b4,b5,⟨b6,b7,b8⟩⟩,⟨c1,⟨c2,c3⟩,c4,c5,⟨c6,c7,c8⟩⟩,b,m⟩
 |_=>none
theorem xS {l:List V} {x:TC} (h:rS l=some x):l=cT x:=by
 unfold rS at h;split at h
 ·obtain rfl:=ck h;rfl
 ·cases h
def eV (x:CC) (y:TC) (d:FD) (dx:Nat->Sd.dG) (sx:Nat->Sd.gz):Sd.aa:=
 ⟨⟨x.p,x.t,d.q,r3 x.d0 x.d1 x.d2 dx,⟨(y.s1,⟨y.sn,y.sm⟩),r3 y.s0 y.sa y.sb sx⟩,x.sa,x.be,x.mo,x.mb,x.pt,x.hd⟩,d.bz,d.br⟩
def lg (k:LK) (it:Nat) (s:Sd.aa):CC:=⟨s.c.p,k.ka,k.kn,k.kc,s.c.t,.pointer (some ⟨k.bq,0,none⟩),s.c.doors 0,s.c.doors 1,s.c.doors 2,it,s.c.samples,s.c.beyond,s.c.mode,s.c.fm,s.c.pt,s.c.head⟩
def tP (s:Sd.aa):TC:=⟨s.c.ag.cO.1,s.c.ag.cO.2.n,s.c.ag.cO.2.most,s.c.ag.aj 0,s.c.ag.aj 1,s.c.ag.aj 2,s.c.p.b_,s.c.p.eS⟩
def aY (k:LK) (s:Sd.aa):FD:=⟨k,s.c.q,s.bz,s.br⟩
def bU (k:LK):VB:=⟨false,k.tg,[.bH .u32 64 cx]⟩
def g_ (k:LK):VB:=⟨false,k.tc,[.bool false,.bool false,.bool false,.bool false,.bool false,.bool false,.bool false,.bool false,.bool false,.bool false,.bool true,.bool true]⟩
def rU (ic:Nat) {d:FD} (F:a9 fr d):VB:=⟨true,⟨128,(0,0)⟩,[.ptr ic 0,.raw F.vs,.raw F.vr]⟩
def gC (k:LK) (it:Nat) (s:Sd.aa):VB:=⟨true,⟨105,(0,0)⟩,CO (lg k it s)⟩
def gp (s:Sd.aa):VB:=⟨true,⟨157,(0,0)⟩,cT (tP s)⟩
def bC (k:LK) (s:Sd.aa) (F:a9 fr (aY k s)):List VB:=[bU k,g_ k,rU 3 F,gC k 4 s,gp s]
def bb (k:LK) (s:Sd.aa) (F:a9 fr (aY k s)):Gh fr:=⟨aY k s,s.c.doors,s.c.ag.aj,F⟩
def gS:Nat->Option Nat
 |1=>some 0
 |0=>some 1
 |_=>none
abbrev SK (fr:Sd.aF->Nat×Sd.aw) (k:LK):=V->(s:Sd.aa)->a9 fr (aY k s)->Prop
abbrev SM (fr:Sd.aF->Nat×Sd.aw):=List V->(k:LK)->(s:Sd.aa)->a9 fr (aY k s)->SK fr k->Prop
def vO (bl:List VB) (is ic it:Nat) (k:LK) (s:Sd.aa) (F:a9 fr (aY k s)):List VB:=((bl.set is (rU ic F)).set ic (gC k it s)).set it (gp s)
def gT (M:SM fr):cP (Gh fr):=λargs bl ch K=>match args,ch with
 |.ptr is 0::ar,g::rest=>(match bl[is]?with
  |some ⟨true,⟨128,(0,0)⟩,[.ptr ic 0,.raw vs,.raw vr]⟩=>(match bl[ic]?with
   |some ⟨true,⟨105,(0,0)⟩,cc⟩=>(match Ae cc with
    |some x=>(match bl[x.it]?with
     |some ⟨true,⟨157,(0,0)⟩,tc⟩=>(match rS tc with
      |some y=>cond (ba 0 ar&&(cj 1 is&&(cj 1 ic&&(cj 1 x.it&&(!(ax is ic)&&(!(ax is x.it)&&!(ax ic x.it)))))))
       ((vs=g.F.vs/\vr=g.F.vr/\bl[0]?=some (bU g.d.k)/\bl[1]?=some (g_ g.d.k)/\x=lg g.d.k x.it (eV x y g.d g.dx g.sx)/\y.b=x.p.b_/\y.m=x.p.eS/\x.p.queue=g.d.k.most)/\
         M ar g.d.k (eV x y g.d g.dx g.sx) g.F λv s' F'=>K v (vO bl is ic x.it g.d.k s' F') (bb g.d.k s' F'::rest)) False
      |none=>False)
     |_=>False)
    |none=>False)
   |_=>False)
  |_=>False)
 |_,_=>False
end
section
open Go Go.RowKit Go.BigFrame Sx Vx
variable{fr:Sd.aF->Nat×Sd.aw}
def cX:VB:=⟨false,⟨0,(0,0)⟩,[]⟩
theorem akw {ids:List Nat}:∀(is:List Nat) (bl:List VB),is.length=bl.length->lits ids is bl=(bh bl.length).map λj=>ay ids (is.getD j 0) (bl.getD j cX):=by
 intro is bl h;apply um;intro j;by_cases hj:j<bl.length
 ·have hb:bl[j]?=some bl[j]:=iK hj;rw[BK is bl h hb,iI,mF hj];simp[ij,hb]
 ·rw[ig (by rw[w5 is bl h];omega),ig (by simp;omega)]
theorem xT {bl:List VB} {ids:List Nat} (h:ids.length=bl.length) {is:List Nat} (hn:is.Nodup) (dh:∀i∈is,i<bl.length):
 ∃r:List Nat,(∀j∈r,j∉is)/\∀bl':List VB,bl'.length=bl.length->(lits ids ids bl').Perm (is.map (λj=>ay ids (ids.getD j 0) (bl'.getD j cX))++r.map λj=>ay ids (ids.getD j 0) (bl'.getD j cX)):=by
 obtain⟨r,hr⟩:=Ea is (bh bl.length) hn (λx hx=>List.mem_range.2 (dh x hx));refine⟨r,?_,?_⟩
 ·intro j hj hji;have tj:(is++r).Nodup:=hr.nodup_iff.1 List.nodup_range;rw[List.nodup_append]at tj;exact tj.2.2 j hji j hj rfl
 ·intro bl' hl;rw[akw ids bl' (by omega),hl,<-qT];exact hr.map _
theorem akx {bl:List VB} {ids r:List Nat} {a b c:Nat} {x y z:VB} (hr:∀j∈r,j≠a/\j≠b/\j≠c):
 (r.map λj=>ay ids (ids.getD j 0) ((((bl.set a x).set b y).set c z).getD j cX))=r.map λj=>ay ids (ids.getD j 0) (bl.getD j cX):=by
 apply pH;intro j hj;obtain⟨h1,h2,h3⟩:=hr j hj;simp only[ij,List.getElem?_set];rw[if_neg (Ne.symm h3),if_neg (Ne.symm h2),if_neg (Ne.symm h1)]
theorem iT {bl:List VB} {i:Nat} {b:VB} (h:bl[i]?=some b):bl.getD i cX=b:=by simp[ij,h]
theorem mn {ids ids':List Nat} {n:Nat} {b:VB} (h:ba 0 b.c=true):ay ids n b=ay ids' n b:=by
 have e1:ah ids b.c=ah [] b.c:=by have:=jO (ids:=[]) (more:=ids) b.c h;simpa using this
 have e2:ah ids' b.c=ah [] b.c:=by have:=jO (ids:=[]) (more:=ids') b.c h;simpa using this
 unfold ay;rw[e1,e2]
abbrev bJ (a b c:Nat):List Nat:=[1,0,a,b,c]
theorem aky {ids:List Nat} {ic a b c:Nat} (n:Nat) {d:FD} (F:a9 fr d) (h:ids.getD ic 0=b):ay ids n (rU ic F)=ay (bJ a b c) n (rU 3 F):=by
 have e:(bJ a b c).getD 3 0=b:=rfl;simp only[ay,rU,ah,cl,den,h,e]
theorem akz {ids:List Nat} {it a b c:Nat} (n:Nat) {k:LK} {s:Sd.aa} (h:ids.getD it 0=c):ay ids n (gC k it s)=ay (bJ a b c) n (gC k 4 s):=by
 have e:(bJ a b c).getD 4 0=c:=rfl;simp only[ay,gC,CO,lg,ah,cl,den,h,e]
def Body (f:eN) (M:SM fr):Prop:=∀(ar:List V) (k:LK) (s:Sd.aa) (F:a9 fr (aY k s)) (Kb:SK fr k) (a b c:Nat) (R:List ai) (ms:List Nat) (w0 w:ae),ba 0 ar=true->s.c.p.queue=k.most->M ar k s F Kb->
 St ms w0 (lits (bJ a b c) (bJ a b c) (bC k s F)++(F.B++R)) w->
 aQ prog f (aA (bJ a b c) (.ptr 2 0::ar)).toArray w λv w'=>∃x s' F',v=den [] x/\cz 0 x=true/\s'.c.p=s.c.p/\Kb x s' F'/\St ms w0 (lits (bJ a b c) (bJ a b c) (bC k s' F')++(F'.B++R)) w'
theorem Ga (s:Sd.aa):ba 0 (gp s).c=true:=rfl
theorem Gb (k:LK):ba 0 (bU k).c=true:=rfl
theorem Zb (k:LK):ba 0 (g_ k).c=true:=rfl
structure Ka (ids:List Nat) (bl:List VB) (is ic it:Nat) (k:LK) (s:Sd.aa) (F:a9 fr (aY k s)):Prop where
 h0:bl[0]?=some (bU k)
 h1:bl[1]?=some (g_ k)
 hs:bl[is]?=some (rU ic F)
 hc:bl[ic]?=some (gC k it s)
 ht:bl[it]?=some (gp s)
theorem Zc {ids:List Nat} {bl:List VB} {is ic it:Nat} {k:LK} {s:Sd.aa} {F:a9 fr (aY k s)} (H:Ka ids bl is ic it k s F) (hg:Gl gS ids):
 ([0,1,is,ic,it].map λj=>ay ids (ids.getD j 0) (bl.getD j cX))=lits (bJ (ids.getD is 0) (ids.getD ic 0) (ids.getD it 0)) (bJ (ids.getD is 0) (ids.getD ic 0) (ids.getD it 0)) (bC k s F):=by
 have g0:=(hg 1 0 rfl).2;have g1:=(hg 0 1 rfl).2;simp only[eQ,uw,iT H.h0,iT H.h1,iT H.hs,iT H.hc,iT H.ht,g0,g1,bC,lits];rw[mn (ids':=bJ (ids.getD is 0) (ids.getD ic 0) (ids.getD it 0)) (Gb k),mn (ids':=bJ (ids.getD is 0) (ids.getD ic 0) (ids.getD it 0)) (Zb k),mn (ids':=bJ (ids.getD is 0) (ids.getD ic 0) (ids.getD it 0)) (Ga s),
  aky (a:=ids.getD is 0) (c:=ids.getD it 0) _ F rfl,akz (a:=ids.getD is 0) (b:=ids.getD ic 0) _ rfl]
theorem Af {bl:List VB} {i:Nat} {b:VB} (h:i<bl.length):(bl.set i b)[i]?=some b:=by simp[h]
theorem kq {bl:List VB} {i j:Nat} {b:VB} (h:i≠j):(bl.set i b)[j]?=bl[j]?:=by rw[List.getElem?_set];simp[h]
theorem ia {bl:List VB} {i:Nat} {b:VB} (h:bl[i]?=some b):i<bl.length:=by
 rcases cE i bl.length with h'|h'
 ·exact h'
 ·simp[h']at h
theorem akA {ids:List Nat} {bl:List VB} {is ic it:Nat} {k:LK} {s:Sd.aa} {F:a9 fr (aY k s)} (H:Ka ids bl is ic it k s F) (h1:1<is) (h2:1<ic) (h3:1<it) (n1:is≠ic) (n2:is≠it) (n3:ic≠it) {s':Sd.aa} (F':a9 fr (aY k s')):
 Ka ids (vO bl is ic it k s' F') is ic it k s' F':=by
 have l1:=ia H.hs;have l2:=ia H.hc;have l3:=ia H.ht;unfold vO;refine⟨?_,?_,?_,?_,?_⟩
 ·rw[kq (by omega),kq (by omega),kq (by omega)];exact H.h0
 ·rw[kq (by omega),kq (by omega),kq (by omega)];exact H.h1
 ·rw[kq (by omega),kq (by omega),Af l1]
 ·rw[kq (by omega),Af (by simpa using l2)]
 ·rw[Af (by simpa using l3)]
theorem akB {f:Nat} {M:SM fr} (h:Body f M):Sound prog gS f (gT M):=by
 intro args ids bl ch R ms w0 w K hg hl S hc;unfold gT at hc;split at hc
 ·rename_i is ar g rest;split at hc
  ·rename_i ic vs vr hs;split at hc
   ·rename_i cc qf;split at hc
    ·rename_i x hx;split at hc
     ·rename_i tc tQ;split at hc
      ·rename_i y hy;cases hq:ba 0 ar&&(cj 1 is&&(cj 1 ic&&(cj 1 x.it&&(!(ax is ic)&&(!(ax is x.it)&&!(ax ic x.it))))))with
       |false=>rw[hq]at hc;exact hc.elim
       |true=>
        rw[hq]at hc;simp only[a_,lv,gV]at hq;obtain⟨q0,q1,q2,q3,q4,q5,q6⟩:=hq;have n1:is≠ic:=λe=>by rw[e,qS]at q4;cases q4
        have n2:is≠x.it:=λe=>by rw[e,qS]at q5;cases q5
        have n3:ic≠x.it:=λe=>by rw[e,qS]at q6;cases q6
        obtain⟨⟨e1,e2,e3,e4,e5,e6,e7,e8⟩,hM⟩:=hc;obtain rfl:=F_ hx;obtain rfl:=xS hy;subst e1 e2;have H:Ka ids bl is ic x.it g.d.k (eV x y g.d g.dx g.sx) (show a9 fr (aY g.d.k (eV x y g.d g.dx g.sx))from g.F):=by
         refine⟨e3,e4,hs,?_,?_⟩
         ·rw[qf];congr 1;unfold gC;rw[<-e5]
         ·rw[tQ];congr 1;unfold gp;have:y=tP (eV x y g.d g.dx g.sx):=by
           obtain⟨y1,y2,y3,y4,y5,y6,y7,y8⟩:=y;simp only at e6 e7;subst e6 e7;rfl
          rw[<-this]
        have l1:=ia H.hs;have l2:=ia H.hc;have l3:=ia H.ht;obtain⟨r,hr,hp⟩:=xT (bl:=bl) (ids:=ids) hl (is:=[0,1,is,ic,x.it]) (by simp;omega) (by
         intro i hi;simp only[bY,n9,or_false]at hi;rcases hi with rfl|rfl|rfl|rfl|rfl<;>omega)
        have gD:=hp bl rfl;rw[Zc H hg]at gD;have S1:=S.perm (bs':=lits (bJ (ids.getD is 0) (ids.getD ic 0) (ids.getD x.it 0)) (bJ (ids.getD is 0) (ids.getD ic 0) (ids.getD x.it 0)) (bC g.d.k (eV x y g.d g.dx g.sx) g.F)++(g.F.B++((r.map λj=>ay ids (ids.getD j 0) (bl.getD j cX))++av rest R))) (by
         refine(gD.append_right _).trans ?_;rw[bN];refine pI _ ?_;simp only[av,<-bN];exact DG _ List.perm_append_comm)
        have Gc:=h ar g.d.k (eV x y g.d g.dx g.sx) g.F _ _ _ _ _ ms w0 w q0 e8 hM S1;have cC:aA ids (.ptr is 0::ar)=aA (bJ (ids.getD is 0) (ids.getD ic 0) (ids.getD x.it 0)) (.ptr 2 0::ar):=by
         have a1:aA ids ar=aA [] ar:=by have:=mP (ids:=[]) (more:=ids) ar q0;simpa using this
         have a2:aA (bJ (ids.getD is 0) (ids.getD ic 0) (ids.getD x.it 0)) ar=aA [] ar:=by have:=mP (ids:=[]) (more:=bJ (ids.getD is 0) (ids.getD ic 0) (ids.getD x.it 0)) ar q0;simpa using this
         simp only[aA,den,a1,a2];rfl
        rw[cC];refine Gc.mono ?_;rintro v w' ⟨xv,s',F',rfl,hv,BY,hK,S2⟩;refine⟨xv,[],vO bl is ic x.it g.d.k s' F',bb g.d.k s' F'::rest,?_,?_,?_,hK⟩
        ·have:=fy (ids:=[]) (more:=ids++[]) xv hv;simpa using this.symm
        ·simp[vO,hl]
        ·have H':=akA H q1 q2 q3 n1 n2 n3 F';have nh:=hp (vO bl is ic x.it g.d.k s' F') (by simp[vO]);rw[Zc H' hg]at nh;have Ag:(r.map λj=>ay ids (ids.getD j 0) ((vO bl is ic x.it g.d.k s' F').getD j cX))=r.map λj=>ay ids (ids.getD j 0) (bl.getD j cX):=by
          unfold vO;refine akx ?_;intro j hj;have:=hr j hj;simp only[bY,n9,or_false,not_or]at this;omega
         rw[Ag]at nh;simp only[cI];refine S2.perm ?_;refine DO ?_ (nh.symm.append_right _);rw[bN];refine pI _ ?_;simp only[av,<-bN];exact DG _ List.perm_append_comm
      ·exact hc.elim
     ·exact hc.elim
    ·exact hc.elim
   ·exact hc.elim
  ·exact hc.elim
 ·exact hc.elim
def aO (tk:Nat->Sd.aw->Option Sd.bo):Sd.aN:=⟨tk,λk s n=>fG k.1 k.2 s n,λk s r nc pf=>oT k.1 k.2 s r nc pf,λk s r nc=>gQ k.1 k.2 s r nc,λk s n f=>lO k s (n-8) f,vG,dH⟩
def cH (k:LK) (s:Sd.aa) (Kb:SK fr k):V->List VB->List (Gh fr)->Prop:=λv bl ch=>∃s' F',cz 0 v=true/\s'.c.p=s.c.p/\Kb v s' F'/\bl.take 5=bC k s' F'/\ch=[bb k s' F']
theorem mq {f n:Nat} {M:SM fr} {L:List (bK (Gh fr))} (hL:aG prog gS L)
 (h:∀(ar:List V) (k:LK) (s:Sd.aa) (F:a9 fr (aY k s)) (Kb:SK fr k),ba 0 ar=true->s.c.p.queue=k.most->M ar k s F Kb->bu (bQ prog gS L) n f (.ptr 2 0::ar) (bC k s F) [bb k s F] (cH k s Kb)):Body f M:=by
 intro ar k s F Kb a b c R ms w0 w h0 hq hM S;have hg:Gl gS (bJ a b c):=by
  intro g i dp;unfold gS at dp;split at dp
  ·obtain rfl:=ck dp;exact⟨by simp,rfl⟩
  ·obtain rfl:=ck dp;exact⟨by simp,rfl⟩
  ·cases dp
 refine(eD hL.T hL.Q n (C:=bQ prog gS L) (ids:=bJ a b c) (bl:=bC k s F) (ch:=[bb k s F]) (R:=R) (ms:=ms) (w0:=w0) (w:=w) hg rfl (by
  have e:av [bb k s F] R=F.B++R:=rfl;rw[e];exact S) (h ar k s F Kb h0 hq hM)).mono ?_
 rintro v w' ⟨x,more,bl',ch',rfl,h1,S',s',F',hv,hp,hK,hb,rfl⟩;have ev:den (bJ a b c++more) x=den [] x:=by have:=fy (ids:=[]) (more:=bJ a b c++more) x hv;simpa using this
 refine⟨x,s',F',ev,hv,hp,hK,?_⟩;have hl5:(bC k s' F').length=5:=rfl;have ni:bl'=bC k s' F'++bl'.drop 5:=by rw[<-hb,iZ]
 rw[ni]at S';have e2:lits (bJ a b c++more) (bJ a b c++more) (bC k s' F'++bl'.drop 5)=lits (bJ a b c) (bJ a b c) (bC k s' F')++lits (bJ a b c++more) more (bl'.drop 5):=by
  rw[eZ _ _ _ _ (by rw[hl5];rfl)];rw[e_ (ids:=bJ a b c) (more:=more) (bJ a b c) (bC k s' F') rfl]
 rw[e2]at S';refine S'.sub ?_;have e3:av [bb k s' F'] R=F'.B++R:=rfl;rw[e3,bN];exact yE (n8 _ _) _
theorem iC {f:Nat} {M:SM fr} (h:Body f M):tn prog gS ⟨f,false,gT M⟩:=⟨akB h,λe=>by cases e⟩
def bR (s:Sd.aa):Sd.aa:={s with c:={s.c with doors:=r3 (s.c.doors 0) (s.c.doors 1) (s.c.doors 2) s.c.doors,ag:=⟨s.c.ag.cO,r3 (s.c.ag.aj 0) (s.c.ag.aj 1) (s.c.ag.aj 2) s.c.ag.aj⟩}}
theorem vP (s:Sd.aa):bR s=s:=by
 unfold bR;rw[J_,J_]
theorem Kc {k:LK} {s s':Sd.aa} {M:(s:Sd.aa)->a9 fr (aY k s)->Prop} (e:s'=s) (F:a9 fr (aY k s)) (h:M s F) (hx:aY k s=aY k s':=by rfl):M s' (hx▸F):=by
 subst e;exact h
theorem oZ {ar:List V} {k:LK} {s:Sd.aa} {M:SM fr} {F:a9 fr (aY k s)} {K:SK fr k} (h:M ar k s F K):M ar k (bR s) F K:=Kc (M:=λs F=>M ar k s F K) (vP s) F h
def iU (C:Sd.aN):SM fr:=λar k s F K=>match ar with
 |[.int .i64 kd,.int .i64 so,.int .i64 sq,.int .i64 co,.int .i64 ho]=>s.br.length<=1000/\∀F',K (.ao []) (s.record C kd so sq co ho) F'
 |_=>False
theorem Zd (r c s k t:ai) (B X R:List ai):([r,c,s,k,t]++((B++X)++R)).Perm ([r,s,k]++(B++(c::t::(X++R)))):=by
 refine ui r ?_;have h1:(c::s::k::t::((B++X)++R)).Perm (s::k::c::t::((B++X)++R)):=
  (Mw s c _).trans (ui s (Mw k c _))
 refine h1.trans (ui s (ui k ?_));have h2:([c,t]++(B++(X++R))).Perm (B++([c,t]++(X++R))):=by
  rw[<-bN,<-bN B];exact DG _ List.perm_append_comm
 simpa[bN]using h2
theorem Q7 {k:LK} {s:Sd.aa} (F:a9 fr (aY k s)):F.B=F.Br++(F.Bs++(F.Bf++(F.Bq++F.Bk))):=rfl
theorem akC (tk:Nat->Sd.aw->Option Sd.bo):Body (fr:=fr) 90 (iU (aO tk)):=by
 intro ar k s F Kb a b c R ms w0 w h0 hq hM S;unfold iU at hM;split at hM
 ·rename_i kd so sq co ho;obtain⟨hn,hK⟩:=hM;have e1:lits (bJ a b c) (bJ a b c) (bC k s F)=[⟨1,false,.cells (aq .u32 64 cx) k.tg (0,0)⟩,ay (bJ a b c) 0 (g_ k),⟨a,true,.cells #[.pointer (some ⟨b,0,none⟩),F.vs,F.vr] 128 (0,0)⟩,⟨b,true,.cells (qG s.c.p k.ka k.kn k.kc s.c.t k.bq s.c.doors c s.c.samples s.c.beyond s.c.mode s.c.fm s.c.pt s.c.head) 105 (0,0)⟩,ay (bJ a b c) c (gp s)]:=by kernel_rfl
  rw[e1,Q7]at S;have S1:=S.perm (Zd _ _ _ _ _ _ _ _);have e2:(aA (bJ a b c) (.ptr 2 0::[.int .i64 kd,.int .i64 so,.int .i64 sq,.int .i64 co,.int .i64 ho])).toArray=#[.pointer (some ⟨a,0,none⟩),.int .i64 kd,.int .i64 so,.int .i64 sq,.int .i64 co,.int .i64 ho]:=by kernel_rfl
  rw[e2];refine(ajO _ _ _ _ _ _ _ _ _ _ _ _ _ _ _ _ _ _ _ _ _ _ _ _ kd so sq co ho w S1 F.hr hn).mono ?_;rintro v w1 ⟨x1,c1,jC,rfl,J9,S2⟩;have hl:(s.record (aO tk) kd so sq co ho).br.length=s.br.length+1:=by simp[Sd.aa.record]
  have fl:eI 6 75 (tN (s.record (aO tk) kd so sq co ho).br) x1 (s.record (aO tk) kd so sq co ho).br.length c1 jC:=by rw[hl];exact J9
  let F':a9 fr (aY k (s.record (aO tk) kd so sq co ho)):={F with xr:=x1,cr:=c1,Br:=jC,hr:=fl}
  refine⟨.ao [],_,F',rfl,rfl,rfl,hK F',?_⟩;have e3:lits (bJ a b c) (bJ a b c) (bC k (s.record (aO tk) kd so sq co ho) F')=[⟨1,false,.cells (aq .u32 64 cx) k.tg (0,0)⟩,ay (bJ a b c) 0 (g_ k),⟨a,true,.cells #[.pointer (some ⟨b,0,none⟩),F.vs,.slice x1 (s.record (aO tk) kd so sq co ho).br.length c1] 128 (0,0)⟩,⟨b,true,.cells (qG s.c.p k.ka k.kn k.kc s.c.t k.bq s.c.doors c s.c.samples s.c.beyond s.c.mode s.c.fm s.c.pt (vG s.c.head ⟨kd,so,sq,s.c.t.af,co,ho⟩)) 105 (0,0)⟩,ay (bJ a b c) c (gp s)]:=by kernel_rfl
  rw[e3,Q7,hl];exact S2.perm (Zd _ _ _ _ _ _ _ _).symm
 ·exact hM.elim
def cy (k:LK) (s:Sd.aa) (F:a9 fr (aY k s)):Prop:=F.vs=F.vs/\F.vr=F.vr/\some (bU k)=some (bU k)/\some (g_ k)=some (g_ k)/\lg k 4 s=lg k 4 (bR s)/\s.c.p.b_=s.c.p.b_/\s.c.p.eS=s.c.p.eS/\s.c.p.queue=k.most
theorem cF {k:LK} {s:Sd.aa} {F:a9 fr (aY k s)} (h:s.c.p.queue=k.most):cy k s F:=⟨rfl,rfl,rfl,rfl,rfl,rfl,rfl,h⟩
def L0 (fr:Sd.aF->Nat×Sd.aw) (C:Sd.aN):List (bK (Gh fr)):=⟨90,false,gT (iU C)⟩::qL (Gh fr) QV
theorem Ze (tk:Nat->Sd.aw->Option Sd.bo):aG prog gS (L0 fr (aO tk)):=aG.cons (iC (akC tk)) (kD (FW gS))
def o8 (C:Sd.aN):SM fr:=λar k s F K=>match ar with
 |[.int .i64 l,.int .i64 co]=>s.br.length<=1000/\∀F',K (.ao []) (s.gY C l co) F'
 |_=>False
theorem akD (C:Sd.aN) (k:LK) (s:Sd.aa) (F:a9 fr (aY k s)) (Kb:SK fr k) (l co:Int):bu (bQ prog gS (L0 fr C)) 40 96 [.ptr 2 0,.int .i64 l,.int .i64 co] (bC k s F) [bb k s F] (cH k s Kb)
 =(cy k s F/\iU C [.int .i64 1,.int .i64 l,.int .i64 0,.int .i64 co,.int .i64 0] k (bR s) F (λv s' F'=>cH k s Kb (.ao []) (bC k s' F') [bb k s' F'])):=by kernel_rfl
theorem akE (tk:Nat->Sd.aw->Option Sd.bo):Body (fr:=fr) 96 (o8 (aO tk)):=by
 refine mq (n:=40) (Ze tk) ?_;intro ar k s F Kb h0 hq hM;unfold o8 at hM;split at hM
 ·rename_i l co;rw[akD];refine⟨cF hq,oZ ⟨hM.1,λF'=>?_⟩⟩;exact⟨_,F',rfl,rfl,hM.2 F',rfl,rfl⟩
 ·exact hM.elim
end
section
open Go Go.RowKit Go.BigFrame Sx Vx
def iV (L:List QF) (n:Nat) (f:eN) (args:List V) (bl:List VB) (K:VK Empty):Prop:=bu (bQ prog (λ_=>none) (qL Empty L)) n f args bl [] K
theorem Ah {L:List QF} (hL:bF prog (λ_=>none) L) {n f:Nat} {args:List V} {v:V} {c:List V} {T:BT} {bt:Nat} {w:ae} (h:iV L n f args [⟨false,T,c⟩] λx _ _=>x=v)
 (hT:w.heap[bt]?=some (.cells (ah [] c).toArray T.t T.fz)) (hc:ba 0 c=true) (hv:cz 1 v=true):aQ prog f (aA [bt] args).toArray w λx w1=>x=den [bt] v/\Ch [] w w1:=by
 have e1:ah [bt] c=ah [] c:=jO (ids:=[]) (more:=[bt]) c hc;have S:=St.given (w:=w) [(bt,.cells (ah [bt] c).toArray T.t T.fz)] (by intro p hp;simp only[i_]at hp;subst hp;rw[e1];exact hT);refine(eD (kD hL).T (kD hL).Q n (C:=bQ prog (λ_=>none) (qL Empty L)) (ids:=[bt]) (bl:=[⟨false,T,c⟩]) (ch:=[]) (R:=[]) Gl.none rfl S h).mono ?_;rintro x w' ⟨y,more,bl',ch',rfl,h1,S',rfl⟩;exact⟨fy (ids:=[bt]) _ hv,S'.ch⟩
theorem Kd {L:List QF} (hL:bF prog (λ_=>none) L) {n f:Nat} {args:List V} {v:V} {B0:VB} {wr:Bool} {o:Obj} {bt:Nat} {bs:List ai} {ms:List Nat} {w0 w:ae}
 (h:iV L n f args [B0] (bm 1 λx b _=>x=v/\∃B,b=[B]/\ay [0] 0 B=⟨0,wr,o⟩/\ba 0 B.c=true)) (hv:cz 0 v=true) (S:St ms w0 ([ay [bt] bt B0]++bs) w):
 aQ prog f (aA [bt] args).toArray w λy w1=>y=den [] v/\St ms w0 ([⟨bt,wr,o⟩]++bs) w1:=by
 refine(eD (kD hL).T (kD hL).Q n (C:=bQ prog (λ_=>none) (qL Empty L)) (ids:=[bt]) (bl:=[B0]) (ch:=[]) (R:=bs) Gl.none rfl S h).mono ?_;rintro x w' ⟨y,more,bl',ch',rfl,h1,S',hK⟩;obtain⟨v2,cD,bl2,e,dw,S2,rfl,B,rfl,hB,hw⟩:=h_ (n0:=1) h1 (by simp) S' hK;have hm:cD=[]:=by simpa using dw
 subst hm;refine⟨by rw[e];exact fy (ids:=[]) _ hv,?_⟩;have q:ay [bt] bt B=ay [0] bt B:=mn hw;have q2:ay [0] bt B=⟨bt,wr,o⟩:=by
  unfold ay at hB⊢;simp only[ai.mk.injEq]at hB⊢;exact⟨trivial,hB.2⟩
 have S3:St ms w0 ([ay [bt] bt B]++bs) w':=match ch',S2 with
  |[],S2=>S2
  |e::_,_=>nomatch e
 rw[q,q2]at S3;exact S3
def dV (t:Sd.az):Sd.az:=⟨t.cO,r3 (t.aj 0) (t.aj 1) (t.aj 2) λ_=>.zero⟩
def bM (y:TC):Sd.az:=⟨(y.s1,⟨y.sn,y.sm⟩),r3 y.s0 y.sa y.sb λ_=>.zero⟩
def Ai (bl:List VB) (it:Nat):Option TC:=match bl[it]?with
 |some ⟨_,⟨157,(0,0)⟩,tc⟩=>rS tc
 |_=>none
theorem akF {ids:List Nat} {bl:List VB} {w:ae} (hm:Mem ids bl w) {it:Nat} {y:TC} (h:Ai bl it=some y):w.heap[ids.getD it 0]?=some (.cells (iS (bM y).cO (bM y).aj y.b y.m) 157 (0,0)):=by
 unfold Ai at h;split at h
 ·rename_i wr tc hb;obtain rfl:=xS h;have h1:=hm.2 it _ hb;have e:(ah ids (cT y)).toArray=iS (bM y).cO (bM y).aj y.b y.m:=by kernel_rfl
  rw[<-e];exact h1
 ·cases h
def tR (y:TC):Nat->Sd.gz
 |0=>y.s0
 |1=>y.sa
 |_=>y.sb
def Aj:Int->Option Nat
 |.ofNat 1=>some 0
 |.ofNat 2=>some 1
 |.ofNat 3=>some 2
 |_=>none
theorem Ke {s:Int} {i:Nat} (h:Aj s=some i):s=.ofNat (i+1)/\i<3:=by
 unfold Aj at h;split at h<;>first|cases h;exact⟨rfl,by omega⟩|cases h
def tE (b:Bool) (y:TC):List VB:=[⟨b,⟨157,(0,0)⟩,cT y⟩]
theorem Q8 {s:Int} (h:Aj s=none):s<1\/3<s:=by
 rcases(by omega:s=1\/s=2\/s=3\/s<1\/3<s)with rfl|rfl|rfl|h|h
 ·cases h
 ·cases h
 ·cases h
 ·exact .inl h
 ·exact .inr h
def CP:QF:=⟨69,λargs bl=>match args with
 |[.ptr it 0,.int .i64 s]=>(match Ai bl it with
  |some y=>(match Aj s with
   |some i=>(match(tR y i).on with
    |true=>some (True,.ptr it (3+39*i))
    |false=>some (True,.raw (.pointer none)))
   |none=>none)
  |none=>none)
 |_=>none⟩
def vQ:QF:=⟨69,λargs bl=>match args with
 |[.ptr it 0,.int .i64 s]=>some (s<1\/3<s,.raw (.pointer none))
 |_=>none⟩
theorem Zf (y:TC) (K:VK Empty):∀i:Nat,i<3->iV [] 30 69 [.ptr 0 0,.int .i64 (.ofNat (i+1))] (tE false y) K=cond (!(tR y i).on) (K (.raw (.pointer none)) (tE false y) []) (K (.ptr 0 (3+39*i)) (tE false y) [])
 |0,_=>by kernel_rfl
 |1,_=>by kernel_rfl
 |2,_=>by kernel_rfl
 |n+3,h=>absurd h (by omega)
theorem akH (b:Nat) (s:Int) (X:V->Prop):dL prog [] 30 69 [.raw (.pointer (some ⟨b,0,none⟩)),.int .i64 s] X=cond (decide (s<1)) (X (.raw (.pointer none))) (cond (decide (s>3)) (X (.raw (.pointer none))) False):=by kernel_rfl
theorem Kf {ids:List Nat} {bl:List VB} {w:ae} (hm:Mem ids bl w) {it:Nat} {y:TC} (h:Ai bl it=some y):w.heap[ids.getD it 0]?=some (.cells (ah [] (cT y)).toArray 157 (0,0)):=by
 rw[akF hm h];have e:(ah [] (cT y)).toArray=iS (bM y).cO (bM y).aj y.b y.m:=by kernel_rfl
 rw[e]
theorem akI (gl:Nat->Option Nat):CP.Ok prog gl:=by
 intro args bl p_ v_ h hp ids w _ hm;unfold CP at h;dsimp only at h;split at h
 ·rename_i it s;split at h
  ·rename_i y hy;have hT:=Kf hm hy;split at h
   ·rename_i i hi;obtain⟨rfl,h3⟩:=Ke hi;split at h
    ·rename_i ho;simp only[aS,bd]at h;obtain⟨rfl,rfl⟩:=h;refine told (Ah bF.nil (n:=30) (args:=[.ptr 0 0,.int .i64 (.ofNat (i+1))]) (v:=.ptr 0 (3+39*i)) (T:=⟨157,(0,0)⟩) ?_ hT rfl rfl);show iV [] 30 69 [.ptr 0 0,.int .i64 (.ofNat (i+1))] (tE false y) _;rw[Zf y _ i h3,ho];rfl
    ·rename_i ho;simp only[aS,bd]at h;obtain⟨rfl,rfl⟩:=h;refine told (Ah bF.nil (n:=30) (args:=[.ptr 0 0,.int .i64 (.ofNat (i+1))]) (v:=.raw (.pointer none)) (T:=⟨157,(0,0)⟩) ?_ hT rfl rfl);show iV [] 30 69 [.ptr 0 0,.int .i64 (.ofNat (i+1))] (tE false y) _;rw[Zf y _ i h3,ho];rfl
   ·cases h
  ·cases h
 ·cases h
theorem akJ (gl:Nat->Option Nat):vQ.Ok prog gl:=by
 intro args bl p_ v_ h hp ids w _ hm;unfold vQ at h;dsimp only at h;split at h
 ·rename_i it s;simp only[aS,bd]at h;obtain⟨rfl,rfl⟩:=h;refine told (zB bF.nil 30 (args:=[.raw (.pointer (some ⟨ids.getD it 0,0,none⟩)),.int .i64 s]) (v:=.raw (.pointer none)) ?_ rfl rfl [] w);show dL prog [] 30 69 _ _;rw[akH];refine aH (λh=>rfl) (λh=>aH (λh=>rfl) λh'=>?_);simp only[decide_eq_false_iff_not]at h h';omega
 ·cases h
theorem Q9:bF prog (λ_=>none) [vQ]:=bF.cons (akJ _) bF.nil
theorem akK (y:TC) (K:VK Empty):∀i:Nat,i<3->iV [] 30 40 [.ptr 0 0,.int .i64 (.ofNat (i+1))] (tE false y) K=cond (!(tR y i).on) (K (.bool false) (tE false y) []) (K (.bool true) (tE false y) [])
 |0,_=>by kernel_rfl
 |1,_=>by kernel_rfl
 |2,_=>by kernel_rfl
 |n+3,h=>absurd h (by omega)
theorem akL (y:TC) (s:Int) (K:VK Empty):iV [vQ] 30 40 [.ptr 0 0,.int .i64 s] (tE false y) K=cond (s==4) (K (.bool true) (tE false y) []) (cond (s==0) (K (.bool y.s1) (tE false y) []) ((s<1\/3<s)/\K (.bool false) (tE false y) [])):=by kernel_rfl
theorem akM (y:TC) (K:VK Empty):∀i:Nat,i<3->iV [] 30 41 [.ptr 0 0,.int .i64 (.ofNat (i+1))] (tE false y) K=cond (!(tR y i).on) (K (.int .i64 0) (tE false y) []) (K (.int .i64 (tR y i).role) (tE false y) [])
 |0,_=>by kernel_rfl
 |1,_=>by kernel_rfl
 |2,_=>by kernel_rfl
 |n+3,h=>absurd h (by omega)
theorem akN (y:TC) (s:Int) (K:VK Empty):iV [vQ] 30 41 [.ptr 0 0,.int .i64 s] (tE false y) K=((s<1\/3<s)/\K (.int .i64 0) (tE false y) []):=by kernel_rfl
theorem Kg (y:TC):∀i:Nat,i<3->(bM y).dt (.ofNat (i+1))=(tR y i).on
 |0,_=>rfl
 |1,_=>rfl
 |2,_=>rfl
 |n+3,h=>absurd h (by omega)
theorem Q_ (t:Sd.az) {s:Int} (h:s<1\/3<s):t.dt s=false:=by
 unfold Sd.az.dt;have:(decide (1<=s)&&decide (s<=3))=false:=by simp;omega
 rw[this];rfl
theorem akO (y:TC):∀i:Nat,i<3->(bM y).aj ((cU (i+1)).toNat-1)=tR y i
 |0,_=>rfl
 |1,_=>rfl
 |2,_=>rfl
 |n+3,h=>absurd h (by omega)
theorem akQ (y:TC):∀i:Nat,i<3->(bM y).on (.ofNat (i+1))=(tR y i).on
 |0,_=>rfl
 |1,_=>rfl
 |2,_=>rfl
 |n+3,h=>absurd h (by omega)
theorem akS (y:TC) (s:Int) {bt:Nat} {w:ae} (hT:w.heap[bt]?=some (.cells (ah [] (cT y)).toArray 157 (0,0))):aQ prog 40 (aA [bt] [.ptr 0 0,.int .i64 s]).toArray w λx w1=>x=den [bt] (.bool ((bM y).on s))/\Ch [] w w1:=by
 cases h:Aj s with
 |some i=>
  obtain⟨rfl,h3⟩:=Ke h;refine Ah bF.nil (n:=30) (T:=⟨157,(0,0)⟩) ?_ hT rfl rfl;show iV [] 30 40 [.ptr 0 0,.int .i64 (.ofNat (i+1))] (tE false y) _;rw[akK y _ i h3,akQ y i h3];exact aH (λh=>by simp at h;rw[h]) (λh=>by simp at h;rw[h])
 |none=>
  have hs:=Q8 h;refine Ah Q9 (n:=30) (T:=⟨157,(0,0)⟩) ?_ hT rfl rfl;show iV [vQ] 30 40 [.ptr 0 0,.int .i64 s] (tE false y) _;rw[akL];unfold Sd.az.on;rw[Q_ _ hs];refine aH (λh=>?_) (λh=>aH (λh'=>?_) λh'=>⟨hs,?_⟩)
  ·rw[if_pos (by simpa using h)]
  ·rw[if_neg (by simpa using h),if_pos (by simpa using h')];rfl
  ·rw[if_neg (by simpa using h),if_neg (by simpa using h')]
theorem akT (y:TC) (s:Int) {bt:Nat} {w:ae} (hT:w.heap[bt]?=some (.cells (ah [] (cT y)).toArray 157 (0,0))):aQ prog 41 (aA [bt] [.ptr 0 0,.int .i64 s]).toArray w λx w1=>x=den [bt] (.int .i64 ((bM y).role s))/\Ch [] w w1:=by
 unfold Sd.az.role;cases h:Aj s with
 |some i=>
  obtain⟨rfl,h3⟩:=Ke h;refine Ah bF.nil (n:=30) (T:=⟨157,(0,0)⟩) ?_ hT rfl rfl;show iV [] 30 41 [.ptr 0 0,.int .i64 (.ofNat (i+1))] (tE false y) _;rw[akM y _ i h3,Kg y i h3,akO y i h3];exact aH (λh=>by simp at h;rw[h];rfl) (λh=>by simp at h;rw[h];rfl)
 |none=>
  have hs:=Q8 h;refine Ah Q9 (n:=30) (T:=⟨157,(0,0)⟩) ?_ hT rfl rfl;show iV [vQ] 30 41 [.ptr 0 0,.int .i64 s] (tE false y) _;rw[akN,Q_ _ hs];exact⟨hs,rfl⟩
def Ra:QF:=⟨40,λargs bl=>match args with
 |[.ptr it 0,.int .i64 s]=>(match Ai bl it with|some y=>some (True,.bool ((bM y).on s))|none=>none)
 |_=>none⟩
theorem akU (gl:Nat->Option Nat):Ra.Ok prog gl:=by
 intro args bl p_ v_ h hp ids w _ hm;unfold Ra at h;dsimp only at h;split at h
 ·rename_i it s;split at h
  ·rename_i y hy;simp only[aS,bd]at h;obtain⟨rfl,rfl⟩:=h;exact told (akS y s (Kf hm hy))
  ·cases h
 ·cases h
def Rb:QF:=⟨41,λargs bl=>match args with
 |[.ptr it 0,.int .i64 s]=>(match Ai bl it with|some y=>some (True,.int .i64 ((bM y).role s))|none=>none)
 |_=>none⟩
theorem akV (gl:Nat->Option Nat):Rb.Ok prog gl:=by
 intro args bl p_ v_ h hp ids w _ hm;unfold Rb at h;dsimp only at h;split at h
 ·rename_i it s;split at h
  ·rename_i y hy;simp only[aS,bd]at h;obtain⟨rfl,rfl⟩:=h;exact told (akT y s (Kf hm hy))
  ·cases h
 ·cases h
def zS:List V:=.bool false::.int .i64 0::.int .i64 0::.int .i64 0::(kC [.int .u8 0] 32++[.bool false,.int .i64 0,.int .u64 0])
def xU (y:TC) (i:Nat) (x:List V):List V:=.bool y.s1::.int .i64 y.sn::.int .i64 y.sm::((bif ax i 0 then x else vN y.s0)++((bif ax i 1 then x else vN y.sa)++((bif ax i 2 then x else vN y.sb)++[.int .i64 y.b,.int .i64 y.m])))
def wE (l:List V):List VB:=[⟨true,⟨157,(0,0)⟩,l⟩]
theorem akW (y:TC) (K:VK Empty):∀i:Nat,i<3->iV [] 30 196 [.ptr 0 0,.int .i64 (.ofNat (i+1))] (tE true y) (bm 1 K)=cond (!(tR y i).on) (K (.bool false) (tE true y) []) (K (.bool true) (wE (xU y i zS)) [])
 |0,_=>by kernel_rfl
 |1,_=>by kernel_rfl
 |2,_=>by kernel_rfl
 |n+3,h=>absurd h (by omega)
theorem akX (y:TC) (s:Int) (K:VK Empty):iV [vQ] 30 196 [.ptr 0 0,.int .i64 s] (tE true y) (bm 1 K)=((s<1\/3<s)/\K (.bool false) (tE true y) []):=by kernel_rfl
theorem exE (y:TC):∀i:Nat,i<3->ay [0] 0 ⟨true,⟨157,(0,0)⟩,xU y i zS⟩=⟨0,true,.cells (iS ((bM y).dW ((cU (i+1)).toNat-1) .zero).cO ((bM y).dW ((cU (i+1)).toNat-1) .zero).aj y.b y.m) 157 (0,0)⟩
 |0,_=>by kernel_rfl
 |1,_=>by kernel_rfl
 |2,_=>by kernel_rfl
 |n+3,h=>absurd h (by omega)
theorem Kh (y:TC):ay [0] 0 ⟨true,⟨157,(0,0)⟩,cT y⟩=⟨0,true,.cells (iS (bM y).cO (bM y).aj y.b y.m) 157 (0,0)⟩:=by kernel_rfl
theorem Rc (y:TC) (bt:Nat):ay [bt] bt ⟨true,⟨157,(0,0)⟩,cT y⟩=⟨bt,true,.cells (iS (bM y).cO (bM y).aj y.b y.m) 157 (0,0)⟩:=by kernel_rfl
theorem akY (y:TC):∀i:Nat,ba 0 (xU y i zS)=true
 |0=>by kernel_rfl
 |1=>by kernel_rfl
 |2=>by kernel_rfl
 |n+3=>by kernel_rfl
theorem akZ (y:TC) (s:Int) {bt:Nat} {bs:List ai} {ms:List Nat} {w0 w:ae} (S:St ms w0 ([⟨bt,true,.cells (iS (bM y).cO (bM y).aj y.b y.m) 157 (0,0)⟩]++bs) w):
 aQ prog 196 (aA [bt] [.ptr 0 0,.int .i64 s]).toArray w λu w1=>u=den [] (.bool ((bM y).dt s))/\St ms w0 ([⟨bt,true,.cells (iS ((bM y).end_ s).cO ((bM y).end_ s).aj y.b y.m) 157 (0,0)⟩]++bs) w1:=by
 rw[<-Rc]at S;unfold Sd.az.end_;cases h:Aj s with
 |some i=>
  obtain⟨rfl,h3⟩:=Ke h;refine Kd bF.nil (n:=30) (B0:=⟨true,⟨157,(0,0)⟩,cT y⟩) ?_ rfl S;show iV [] 30 196 [.ptr 0 0,.int .i64 (.ofNat (i+1))] (tE true y) _;rw[akW y _ i h3,Kg y i h3];refine aH (λh=>?_) (λh=>?_)
  ·simp only[lv]at h;rw[h];exact⟨rfl,_,rfl,Kh y,rfl⟩
  ·simp only[Bool.not_eq_false']at h;rw[h];exact⟨rfl,_,rfl,exE y i h3,akY y i⟩
 |none=>
  have hs:=Q8 h;refine Kd Q9 (n:=30) (B0:=⟨true,⟨157,(0,0)⟩,cT y⟩) ?_ rfl S;show iV [vQ] 30 196 [.ptr 0 0,.int .i64 s] (tE true y) _;rw[akX,Q_ _ hs];exact⟨hs,rfl,_,rfl,Kh y,rfl⟩
def Zg (y:TC):List V:=.bool true::.int .i64 0::.int .i64 (if 0>y.b then 0 else y.b)::(vN y.s0++(vN y.sa++(vN y.sb++[.int .i64 y.b,.int .i64 y.m])))
theorem ak0 (y:TC) (K:VK Empty):iV [] 30 79 [.ptr 0 0] (tE true y) (bm 1 K)=K (.ao []) (wE (Zg y)) []:=by kernel_rfl
theorem ak1 (y:TC) (hb:0<=y.b/\y.b<=1000) {bt:Nat} {bs:List ai} {ms:List Nat} {w0 w:ae} (S:St ms w0 ([⟨bt,true,.cells (iS (bM y).cO (bM y).aj y.b y.m) 157 (0,0)⟩]++bs) w):
 aQ prog 79 (aA [bt] [.ptr 0 0]).toArray w λu w1=>u=den [] (.ao [])/\St ms w0 ([⟨bt,true,.cells (iS (true,.start y.b) (bM y).aj y.b y.m) 157 (0,0)⟩]++bs) w1:=by
 rw[<-Rc]at S;refine Kd bF.nil (n:=30) (B0:=⟨true,⟨157,(0,0)⟩,cT y⟩) ?_ rfl S;show iV [] 30 79 [.ptr 0 0] (tE true y) _;rw[ak0];refine⟨rfl,_,rfl,?_,rfl⟩;have q:ay [0] 0 ⟨true,⟨157,(0,0)⟩,Zg y⟩=⟨0,true,.cells (iS (true,⟨0,if 0>y.b then 0 else y.b⟩) (bM y).aj y.b y.m) 157 (0,0)⟩:=by kernel_rfl
 rw[q,Fx]
def CQ:QF:=⟨193,λargs bl=>match args with
 |[.ptr it 0]=>(match Ai bl it with
  |some y=>some (True,.int .i64 ((bM y).many))
  |none=>none)
 |_=>none⟩
theorem ak2 (y:TC) (K:VK Empty):iV [] 30 193 [.ptr 0 0] (tE false y) K=
 let k:Int->Prop:=λn=>K (.int .i64 n) (tE false y) []
 cond y.s0.on (cond y.sa.on (cond y.sb.on (k 3) (k 2)) (cond y.sb.on (k 2) (k 1))) (cond y.sa.on (cond y.sb.on (k 2) (k 1)) (cond y.sb.on (k 1) (k 0))):=by kernel_rfl
theorem ak3 (gl:Nat->Option Nat):CQ.Ok prog gl:=by
 intro args bl p_ v_ h hp ids w _ hm;unfold CQ at h;dsimp only at h;split at h
 ·rename_i it;split at h
  ·rename_i y hy;simp only[aS,bd]at h;obtain⟨rfl,rfl⟩:=h;refine told (Ah bF.nil (n:=30) (args:=[.ptr 0 0]) (v:=.int .i64 ((bM y).many)) (T:=⟨157,(0,0)⟩) ?_ (Kf hm hy) rfl rfl);show iV [] 30 193 [.ptr 0 0] (tE false y) _;rw[ak2];have e:(bM y).many=(if y.s0.on then 1 else 0)+(if y.sa.on then 1 else 0)+(if y.sb.on then 1 else 0):=rfl;rw[e];cases y.s0.on<;>cases y.sa.on<;>cases y.sb.on<;>rfl
  ·cases h
 ·cases h
theorem ak4:bF prog (λ_=>none) [CP,CQ]:=bF.cons (akI _) (bF.cons (ak3 _) bF.nil)
def Re (k:Sd.gz) (o:Bool):Sd.gz:=⟨o,k.eB,k.role,k.key,k.seen⟩
def Ak (y:TC) (i:Nat) (o:Bool):TC:=match i with
 |0=>{y with s0:=Re y.s0 o}
 |1=>{y with sa:=Re y.sa o}
 |_=>{y with sb:=Re y.sb o}
def nS (b r:Int) (key:Nat->Int):List V:=[.bool true,.int .i64 0,.int .i64 (if 0>b then 0 else b),.int .i64 r,.bH .u8 32 key,.bool false,.int .i64 0,.int .u64 0]
def Ki (y:TC) (r:Int) (K:VK Empty) (X:Prop):Prop:=cond (decide (r<0)) (K (.int .i64 1) (tE true y) []) (cond (decide (r>=4)) (K (.int .i64 1) (tE true y) []) X)
theorem ak5 (y:TC) (r:Int) (key:Nat->Int) (K:VK Empty):∀i:Nat,i<3->
 iV [CP,CQ] 60 149 [.ptr 0 0,.int .i64 (.ofNat (i+1)),.int .i64 r,.agg [.bH .u8 32 key]] (tE true (Ak y i true)) (bm 1 K)=Ki (Ak y i true) r K (True/\K (.int .i64 0) (wE (xU y i (nS y.b r key))) [])/\
 iV [CP,CQ] 60 149 [.ptr 0 0,.int .i64 (.ofNat (i+1)),.int .i64 r,.agg [.bH .u8 32 key]] (tE true (Ak y i false)) (bm 1 K)=Ki (Ak y i false) r K (True/\True/\cond (decide ((bM (Ak y i false)).many>=y.m)) (K (.int .i64 19) (tE true (Ak y i false)) []) (K (.int .i64 0) (wE (xU y i (nS y.b r key))) []))
 |0,_=>⟨by kernel_rfl,by kernel_rfl⟩
 |1,_=>⟨by kernel_rfl,by kernel_rfl⟩
 |2,_=>⟨by kernel_rfl,by kernel_rfl⟩
 |n+3,h=>absurd h (by omega)
theorem exN (y:TC) (r:Int) (key:Nat->Int):∀i:Nat,i<3->ay [0] 0 ⟨true,⟨157,(0,0)⟩,xU y i (nS y.b r key)⟩=⟨0,true,.cells (iS ((bM y).dW ((cU (i+1)).toNat-1) ⟨true,⟨0,if 0>y.b then 0 else y.b⟩,r,key,⟨false,0,0⟩⟩).cO ((bM y).dW ((cU (i+1)).toNat-1) ⟨true,⟨0,if 0>y.b then 0 else y.b⟩,r,key,⟨false,0,0⟩⟩).aj y.b y.m) 157 (0,0)⟩/\ba 0 (xU y i (nS y.b r key))=true
 |0,_=>⟨by kernel_rfl,by kernel_rfl⟩
 |1,_=>⟨by kernel_rfl,by kernel_rfl⟩
 |2,_=>⟨by kernel_rfl,by kernel_rfl⟩
 |n+3,h=>absurd h (by omega)
theorem ak6 (y:TC):∀i:Nat,i<3->∃o,(tR y i).on=o/\y=Ak y i o
 |0,_=>⟨_,rfl,rfl⟩
 |1,_=>⟨_,rfl,rfl⟩
 |2,_=>⟨_,rfl,rfl⟩
 |n+3,h=>absurd h (by omega)
theorem Rf (y:TC) (i:Nat) (h3:i<3) (r:Int) (key:Nat->Int) (p:Sd.aJ) (e1:p.b_=y.b) (e2:p.eS=y.m) {bt:Nat} {bs:List ai} {ms:List Nat} {w0 w:ae} (S:St ms w0 ([⟨bt,true,.cells (iS (bM y).cO (bM y).aj y.b y.m) 157 (0,0)⟩]++bs) w):
 aQ prog 149 (aA [bt] [.ptr 0 0,.int .i64 (.ofNat (i+1)),.int .i64 r,.agg [.bH .u8 32 key]]).toArray w λu w1=>u=den [] (.int .i64 (Sd.az.dU p (bM y) (.ofNat (i+1)) r key).2)/\
  St ms w0 ([⟨bt,true,.cells (iS (Sd.az.dU p (bM y) (.ofNat (i+1)) r key).1.cO (Sd.az.dU p (bM y) (.ofNat (i+1)) r key).1.aj y.b y.m) 157 (0,0)⟩]++bs) w1:=by
 obtain⟨o,ho,hy⟩:=ak6 y i h3;rw[<-Rc]at S;refine Kd (args:=[.ptr 0 0,.int .i64 (.ofNat (i+1)),.int .i64 r,.agg [.bH .u8 32 key]]) (v:=.int .i64 (Sd.az.dU p (bM y) (.ofNat (i+1)) r key).2) (wr:=true) (o:=.cells (iS (Sd.az.dU p (bM y) (.ofNat (i+1)) r key).1.cO (Sd.az.dU p (bM y) (.ofNat (i+1)) r key).1.aj y.b y.m) 157 (0,0)) ak4 (n:=60) (B0:=⟨true,⟨157,(0,0)⟩,cT y⟩) ?_ rfl S;generalize hK:(λ(x:V) (b:List VB) (_:List Empty)=>x=V.int i64 (Sd.az.dU p (bM y) (cU (i+1)) r key).2/\∃B,b=[B]/\ay [0] 0 B=⟨0,true,.cells (iS (Sd.az.dU p (bM y) (cU (i+1)) r key).1.cO (Sd.az.dU p (bM y) (cU (i+1)) r key).1.aj y.b y.m) 157 (0,0)⟩/\ba 0 B.c=true)=K;show iV [CP,CQ] 60 149 [.ptr 0 0,.int .i64 (.ofNat (i+1)),.int .i64 r,.agg [.bH .u8 32 key]] (tE true y) (bm 1 K);have hN:=exN y r key i h3;have hi:(cU (i+1))=(i:Int)+1:=rfl;have k1:r<0\/4<=r->K (.int .i64 1) (tE true y) []:=λh=>by
  rw[<-hK];have e:Sd.az.dU p (bM y) (cU (i+1)) r key=(bM y,1):=by unfold Sd.az.dU;rw[if_pos (by omega)]
  rw[e];exact⟨rfl,_,rfl,Kh y,rfl⟩
 have k0:0<=r->r<4->o=true\/¬y.m<=(bM y).many->K (.int .i64 0) (wE (xU y i (nS y.b r key))) []:=λh h' h4=>by
  rw[<-hK];have e:Sd.az.dU p (bM y) (cU (i+1)) r key=((bM y).dW ((cU (i+1)).toNat-1) ⟨true,⟨0,if 0>y.b then 0 else y.b⟩,r,key,⟨false,0,0⟩⟩,0):=by
   unfold Sd.az.dU;rw[if_neg (by omega),if_neg,e1,Fx];rw[Kg y i h3,ho,e2];rintro⟨rfl,h5⟩;exact h4.elim (λh=>nomatch h) λh=>h h5
  rw[e];exact⟨rfl,_,rfl,hN.1,hN.2⟩
 have k2:0<=r->r<4->o=false->y.m<=(bM y).many->K (.int .i64 19) (tE true y) []:=λh h' h4 h5=>by
  rw[<-hK];have e:Sd.az.dU p (bM y) (cU (i+1)) r key=(bM y,19):=by
   unfold Sd.az.dU;rw[if_neg (by omega),if_pos];rw[Kg y i h3,ho,e2];exact⟨h4,h5⟩
  rw[e];exact⟨rfl,_,rfl,Kh y,rfl⟩
 have fw:=ak5 y r key K i h3;cases o with
 |true=>
  have hv:=fw.1;rw[<-hy]at hv;rw[hv];unfold Ki;refine aH (λh=>k1 (.inl (by simpa using h))) (λh=>aH (λh'=>k1 (.inr (by simpa using h'))) λh'=>⟨trivial,?_⟩);exact k0 (by simpa using h) (by simpa using h') (.inl rfl)
 |false=>
  have hv:=fw.2;rw[<-hy]at hv;rw[hv];unfold Ki;refine aH (λh=>k1 (.inl (by simpa using h))) (λh=>aH (λh'=>k1 (.inr (by simpa using h'))) λh'=>⟨trivial,trivial,aH (λh5=>?_) λh5=>?_⟩)
  ·exact k2 (by simpa using h) (by simpa using h') rfl (by simpa using h5)
  ·exact k0 (by simpa using h) (by simpa using h') (.inr (by simpa using h5))
variable{fr:Sd.aF->Nat×Sd.aw}
def Rg:QF:=⟨55,λargs _=>match args with
 |[.int .i64 l]=>some (True,.bool (Sd.linked l))
 |_=>none⟩
theorem ak7 (l:Int) (X:V->Prop):dL prog [] 20 55 [.int .i64 l] X=(cond (decide (l>=1)) (X (.bool (decide (l<=3)))) (X (.bool false))):=by kernel_rfl
theorem ak8 (gl:Nat->Option Nat):Rg.Ok prog gl:=by
 intro args bl p_ v_ h hp ids w _ _;unfold Rg at h;dsimp only at h;split at h
 ·rename_i l;simp only[aS,bd]at h;obtain⟨rfl,rfl⟩:=h;refine zB bF.nil 20 ?_ rfl rfl ids w;show dL prog [] 20 55 _ _;rw[ak7];have e:Sd.linked l=(decide (l>=1)&&decide (l<=3)):=rfl;refine aH (λh=>?_) (λh=>?_)
  ·rw[e,h];rfl
  ·rw[e,h];rfl
 ·cases h
theorem Gd (t:Sd.az) (s:Int):(dV t).dt s=t.dt s:=by
 unfold Sd.az.dt;by_cases h1:1<=s
 ·by_cases h2:s<=3
  ·have:s=1\/s=2\/s=3:=by omega
   rcases this with rfl|rfl|rfl<;>rfl
  ·simp[h2]
 ·simp[h1]
theorem Kj (t:Sd.az) (s:Int):(dV t).on s=t.on s:=by
 unfold Sd.az.on;rw[Gd];rfl
theorem Zh (t:Sd.az) (s:Int):(dV t).role s=t.role s:=by
 unfold Sd.az.role;rw[Gd];by_cases h:t.dt s=true
 ·rw[if_pos h,if_pos h];unfold Sd.az.dt at h;simp only[a_,decide_eq_true_eq]at h;have:s=1\/s=2\/s=3:=by omega
  rcases this with rfl|rfl|rfl<;>rfl
 ·rw[if_neg h,if_neg h]
def a9.cN {d:FD} (F:a9 fr d) (q:List Sd.Ask) (B:List ai) (h:QS d.k.bq d.k.most q B):a9 fr {d with q:=q}:={F with Bq:=B,hq:=h}
def vq (k:LK):ab:=.pointer (some ⟨k.bq,0,none⟩)
structure QG where
 f:Nat
 pos:Nat
 m:List V->Int->List Sd.Ask->Option (Prop×V×List Sd.Ask)
def Al (x:QG):cP (Gh fr):=λargs bl ch K=>match ch with
 |g::rest=>(match args[x.pos]?with
  |some (.raw vp)=>(match x.m (args.eraseIdx x.pos) g.d.k.most g.d.q with
   |some (p,v,q')=>cond (ba 0 args&&cz 0 v) ((vp=vq g.d.k/\p)/\∀B (h:QS g.d.k.bq g.d.k.most q' B),K v bl (⟨{g.d with q:=q'},g.dx,g.sx,g.F.cN q' B h⟩::rest)) False
   |none=>False)
  |_=>False)
 |[]=>False
def QG.Ok (x:QG):Prop:=∀(args:List V) (k:LK) (q:List Sd.Ask) (p:Prop) (v:V) (q':List Sd.Ask),args[x.pos]?=some (.raw (vq k))->x.m (args.eraseIdx x.pos) k.most q=some (p,v,q')->p->∀(B:List ai),QS k.bq k.most q B->∀(bs:List ai) (ms:List Nat) (w0 w:ae),St ms w0 (B++bs) w->
 aQ prog x.f (aA [] args).toArray w λy w1=>∃B',y=den [] v/\QS k.bq k.most q' B'/\St ms w0 (B'++bs) w1
theorem rV {d:FD} (F:a9 fr d):F.B=F.Br++(F.Bs++(F.Bf++(F.Bq++F.Bk))):=rfl
theorem Ge (A a b c q e R:List ai):(A++((a++(b++(c++(q++e))))++R)).Perm (q++(A++(a++(b++(c++(e++R)))))):=by
 have h:(A++((a++(b++(c++(q++e))))++R))=(A++(a++(b++c)))++(q++(e++R)):=by simp[bN]
 have h2:(q++(A++(a++(b++(c++(e++R))))))=q++((A++(a++(b++c)))++(e++R)):=by simp[bN]
 rw[h,h2,<-bN,<-bN q];exact DG _ List.perm_append_comm
theorem ak9 {x:QG} (h:x.Ok) (gl:Nat->Option Nat):Sound prog gl x.f (Al (fr:=fr) x):=by
 intro args ids bl ch R ms w0 w K hg hl S hc;unfold Al at hc;split at hc
 ·rename_i g rest;split at hc
  ·rename_i vp Rh;split at hc
   ·rename_i p v q' hm;cases hq:ba 0 args&&cz 0 v with
    |false=>rw[hq]at hc;exact hc.elim
    |true=>
     rw[hq]at hc;simp only[a_]at hq;obtain⟨⟨rfl,hp⟩,hK⟩:=hc;have a1:aA ids args=aA [] args:=by have:=mP (ids:=[]) (more:=ids) args hq.1;simpa using this
     have e0:av (g::rest) R=g.F.B++av rest R:=rfl;rw[e0,rV]at S;rw[a1];refine(h args g.d.k g.d.q p v q' Rh hm hp _ g.F.hq _ ms w0 w (S.perm (Ge _ _ _ _ _ _ _))).mono ?_;rintro y w1 ⟨B',rfl,hB,S1⟩;refine⟨v,[],bl,_,?_,by simpa using hl,?_,hK B' hB⟩
     ·have:=fy (ids:=[]) (more:=ids++[]) v hq.2;simpa using this.symm
     ·have e1:av (⟨{g.d with q:=q'},g.dx,g.sx,g.F.cN q' B' hB⟩::rest:List (Gh fr)) R=(g.F.Br++(g.F.Bs++(g.F.Bf++(B'++g.F.Bk))))++av rest R:=rfl;rw[e1,cI];exact S1.perm (Ge _ _ _ _ _ _ _).symm
   ·exact hc.elim
  ·exact hc.elim
 ·exact hc.elim
theorem Kk {x:QG} (h:x.Ok):tn (G:=Gh fr) prog gS ⟨x.f,false,Al x⟩:=⟨ak9 h gS,λe=>by cases e⟩
def Kl:QG:=⟨86,0,λargs _ q=>match args with
 |[.int .i64 s]=>some (True,.bool (Sd.Q.waits q s),Sd.Q.drop q s)
 |_=>none⟩
theorem Zi:Kl.Ok:=by
 intro args k q p v q' hv hm hp B hB bs ms w0 w S
 match args,hv,hm with
 |a::l,hv,hm=>
  have ha:a=.raw (vq k):=by simpa[Kl]using hv
  subst ha;replace hm:(match(generalizing:=false) l with
   |[.int .i64 s]=>some (True,V.bool (Sd.Q.waits q s),Sd.Q.drop q s)
   |_=>none)=some (p,v,q'):=hm
  split at hm
  ·simp only[aS,bd]at hm;obtain⟨rfl,rfl,rfl⟩:=hm;exact aj0 _ hB S
  ·cases hm
def lh (a b c d e f:Int):List V:=[.int .i64 a,.int .i64 b,.int .i64 c,.int .i64 d,.int .i64 e,.int .i64 f,.int .u8 0,.int .u8 0,.int .u8 0,.int .u8 0,.int .u8 0,.int .u8 0,.int .u8 0,.int .u8 0]
def Ri:List V->Option Sd.aF
 |.int .i64 a::.int .i64 b::.int .i64 c::.int .i64 d::.int .i64 e::.int .i64 f::l=>(match l with
  |[.bH .u8 8 n]=>some ⟨a,b,c,d,e,f,n⟩
  |[.int .u8 (.ofNat 0),.int .u8 (.ofNat 0),.int .u8 (.ofNat 0),.int .u8 (.ofNat 0),.int .u8 (.ofNat 0),.int .u8 (.ofNat 0),.int .u8 (.ofNat 0),.int .u8 (.ofNat 0)]=>some ⟨a,b,c,d,e,f,λ_=>0⟩
  |_=>none)
 |_=>none
def Rj:List V->Option Sd.aF
 |[.int .i64 a,.int .i64 b,.int .i64 c,.int .i64 d,.int .i64 e,.int .i64 f,.int .u8 (.ofNat 0),.int .u8 (.ofNat 0),.int .u8 (.ofNat 0),.int .u8 (.ofNat 0),.int .u8 (.ofNat 0),.int .u8 (.ofNat 0),.int .u8 (.ofNat 0),.int .u8 (.ofNat 0)]=>some ⟨a,b,c,d,e,f,λ_=>0⟩
 |_=>none
theorem ak_ {l:List V} {r:Sd.aF} (h:Rj l=some r):∃a b c d e f,l=lh a b c d e f/\r=⟨a,b,c,d,e,f,λ_=>0⟩:=by
 unfold Rj at h;split at h
 ·obtain rfl:=ck h;exact⟨_,_,_,_,_,_,rfl,rfl⟩
 ·cases h
def Rm (s:Sd.aa) (n:Nat):Prop:=s.bz.length+n<=1000/\s.br.length+n<=1000
def N8 (n:Int):Prop:=0<=n/\n<=255
def N4 (n:Int):Prop:=0<=n/\n<=4
def vR (n:Int):Prop:=0<=n/\n<=65535
def tS (n:Int):Prop:=0<=n/\n<=4294967295
structure RB (r:Sd.aF):Prop where
 kind:129<=r.kind/\r.kind<=136
 seq:tS r.seq/\((r.kind=131\/r.kind=132)\/r.seq=0)
 role:(0<=r.role/\r.role<=3)/\(r.kind=130\/r.role=0)
 c_:N4 r.c_/\((r.kind=130\/r.kind=134\/r.kind=135\/r.kind=136)\/r.c_=0)
 af:vR r.af/\((r.kind=130\/r.kind=133\/r.kind=134\/r.kind=135)\/r.af=0)
 code:N8 r.code/\((r.kind=132\/r.kind=136)\/r.code=0)
 au:By r.au/\(r.kind=129\/r.au=λ_=>0)
def dR:SM fr:=λar k s F K=>match ar with
 |[.int .i64 l,.agg rl]=>(match Ri rl with
  |some r=>(Rm s 1/\RB r)/\∀F',K (.ao []) (s.tell l r) F'
  |none=>False)
 |_=>False
def tT:SM fr:=λar k s F K=>match ar with
 |[.int .i64 l,.agg rl]=>(match Rj rl with
  |some r=>(Rm s 1/\RB r)/\∀F',K (.ao []) (s.dI l r) F'
  |none=>False)
 |_=>False
def lj (C:Sd.aN):SM fr:=λar k s F K=>match ar with
 |[.int .i64 l,.int .i64 n,.int .i64 c]=>(Rm s 1/\tS n/\N8 c)/\∀F',K (.ao []) (s.refuse C l n c) F'
 |_=>False
def mr:SM fr:=λar k s F K=>match ar with
 |[.int .i64 l,.int .i64 n]=>(Rm s 1/\tS n)/\∀F',K (.ao []) (s.done l n) F'
 |_=>False
def xV:SM fr:=λar k s F K=>match ar with
 |[.int .i64 l,.int .i64 w,.int .i64 c]=>(Rm s 1/\N4 w/\N8 c)/\∀F',K (.ao []) (s.gone l w c) F'
 |_=>False
def L1 (fr:Sd.aF->Nat×Sd.aw) (C:Sd.aN):List (bK (Gh fr)):=⟨147,false,gT dR⟩::⟨96,false,gT (o8 C)⟩::⟨86,false,Al Kl⟩::qE (Gh fr) Rg::qE (Gh fr) Ra::qE (Gh fr) Rb::L0 fr C
theorem Km {q:QF} (h:∀gl,q.Ok prog gl):tn (G:=Gh fr) prog gS (qE (Gh fr) q):=⟨I2 (h gS),λ_=>I1 q.F⟩
theorem Kn (tk:Nat->Sd.aw->Option Sd.bo) (ht:Body (fr:=fr) 147 dR):aG prog gS (L1 fr (aO tk)):=
 aG.cons (iC ht) (aG.cons (iC (akE tk)) (aG.cons (Kk Zi) (aG.cons (Km ak8) (aG.cons (Km akU) (aG.cons (Km akV) (Ze tk))))))
theorem ala (C:Sd.aN) (k:LK) (s:Sd.aa) (F:a9 fr (aY k s)) (Kb:SK fr k) (l n c:Int):bu (bQ prog gS (L1 fr C)) 40 145 [.ptr 2 0,.int .i64 l,.int .i64 n,.int .i64 c] (bC k s F) [bb k s F] (cH k s Kb)
 =(cy k s F/\dR [.int .i64 l,.agg (lh 132 n 0 0 0 c)] k (bR s) F λv s1 F1=>cy k s1 F1/\iU C [.int .i64 7,.int .i64 l,.int .i64 n,.int .i64 c,.int .i64 0] k (bR s1) F1 (λv s' F'=>cH k s Kb (.ao []) (bC k s' F') [bb k s' F'])):=by kernel_rfl
theorem alb (C:Sd.aN) (k:LK) (s:Sd.aa) (F:a9 fr (aY k s)) (Kb:SK fr k) (l n:Int):bu (bQ prog gS (L1 fr C)) 40 195 [.ptr 2 0,.int .i64 l,.int .i64 n] (bC k s F) [bb k s F] (cH k s Kb)
 =(cy k s F/\dR [.int .i64 l,.agg (lh 131 n 0 0 0 0)] k (bR s) F λv s' F'=>cH k s Kb (.ao []) (bC k s' F') [bb k s' F']):=by kernel_rfl
theorem alc (C:Sd.aN) (k:LK) (s:Sd.aa) (F:a9 fr (aY k s)) (Kb:SK fr k) (l a b c d e f:Int):bu (bQ prog gS (L1 fr C)) 40 131 [.ptr 2 0,.int .i64 l,.agg (lh a b c d e f)] (bC k s F) [bb k s F] (cH k s Kb)
 =(True/\cond (Sd.linked l) (True/\cond ((dV s.c.ag).on l) (cy k s F/\dR [.int .i64 l,.agg (lh a b c d e f)] k (bR s) F λv s' F'=>cH k s Kb (.ao []) (bC k s' F'++[⟨true,⟨40,(0,0)⟩,lh a b c d e f⟩]) [bb k s' F']) (cH k s Kb (.ao []) (bC k s F++[⟨true,⟨40,(0,0)⟩,lh a b c d e f⟩]) [bb k s F]))
  (cH k s Kb (.ao []) (bC k s F++[⟨true,⟨40,(0,0)⟩,lh a b c d e f⟩]) [bb k s F])):=by kernel_rfl
theorem by0:By (λ_=>0):=λj=>⟨Int.le_refl 0,by show(0:Int)<=255;decide⟩
theorem rb {a b d e f:Int} (h1:129<=a/\a<=136) (h2:tS b) (h4:N4 d) (h5:vR e) (h6:N8 f) (k2:(a=131\/a=132)\/b=0:=by simp) (k4:(a=130\/a=134\/a=135\/a=136)\/d=0:=by simp)
 (k5:(a=130\/a=133\/a=134\/a=135)\/e=0:=by simp) (k6:(a=132\/a=136)\/f=0:=by simp):RB ⟨a,b,0,d,e,f,λ_=>0⟩:=⟨h1,⟨h2,k2⟩,⟨show(0:Int)<=0/\(0:Int)<=3 by decide,.inr rfl⟩,⟨h4,k4⟩,⟨h5,k5⟩,⟨h6,k6⟩,⟨by0,.inr rfl⟩⟩
theorem z4:N4 0:=⟨by decide,by decide⟩
theorem z8:N8 0:=⟨by decide,by decide⟩
theorem Ko:vR 0:=⟨by decide,by decide⟩
theorem vS:tS 0:=⟨by decide,by decide⟩
theorem eH {k:LK} {s0:Sd.aa} {Kb:SK fr k} {v:V} {s s':Sd.aa} (e:s'=s) {bl:List VB} (hK:∀F,Kb v s F) (F':a9 fr (aY k s')) (hv:cz 0 v=true:=by rfl) (hp:s'.c.p=s0.c.p:=by rfl) (hb:bl.take 5=bC k s' F':=by kernel_rfl):cH k s0 Kb v bl [bb k s' F']:=by
 subst e;exact⟨s',F',hv,hp,hK F',hb,rfl⟩
section
variable{k:LK} {s:Sd.aa} {F:a9 fr (aY k s)} {K:SK fr k}
theorem Rk {l a b c d e f:Int} (h:Rm s 1/\RB ⟨a,b,c,d,e,f,λ_=>0⟩) (hK:∀F',K (.ao []) (s.tell l ⟨a,b,c,d,e,f,λ_=>0⟩) F'):dR [.int .i64 l,.agg (lh a b c d e f)] k (bR s) F K:=by
 have e:dR [.int .i64 l,.agg (lh a b c d e f)] k s F K=((Rm s 1/\RB ⟨a,b,c,d,e,f,λ_=>0⟩)/\∀F',K (.ao []) (s.tell l ⟨a,b,c,d,e,f,λ_=>0⟩) F'):=by kernel_rfl
 exact oZ (M:=dR) (e▸⟨h,hK⟩)
theorem Kp {l a b c d e f:Int} (h:Rm s 1/\RB ⟨a,b,c,d,e,f,λ_=>0⟩) (hK:∀F',K (.ao []) (s.dI l ⟨a,b,c,d,e,f,λ_=>0⟩) F'):tT [.int .i64 l,.agg (lh a b c d e f)] k (bR s) F K:=by
 have e:tT [.int .i64 l,.agg (lh a b c d e f)] k s F K=((Rm s 1/\RB ⟨a,b,c,d,e,f,λ_=>0⟩)/\∀F',K (.ao []) (s.dI l ⟨a,b,c,d,e,f,λ_=>0⟩) F'):=by kernel_rfl
 exact oZ (M:=tT) (e▸⟨h,hK⟩)
theorem nj {C:Sd.aN} {a b c d e:Int} (h:s.br.length<=1000) (hK:∀F',K (.ao []) (s.record C a b c d e) F'):iU C [.int .i64 a,.int .i64 b,.int .i64 c,.int .i64 d,.int .i64 e] k (bR s) F K:=by
 have e:iU C [.int .i64 a,.int .i64 b,.int .i64 c,.int .i64 d,.int .i64 e] k s F K=(s.br.length<=1000/\∀F',K (.ao []) (s.record C a b c d e) F'):=by kernel_rfl
 exact oZ (M:=iU C) (e▸⟨h,hK⟩)
end
theorem ald (tk:Nat->Sd.aw->Option Sd.bo) (ht:Body (fr:=fr) 147 dR):Body (fr:=fr) 145 (lj (aO tk)):=by
 refine mq (n:=40) (Kn tk ht) ?_;intro ar k s F Kb h0 hq hM;unfold lj at hM;split at hM
 ·rename_i l n c;have h1:=hM.1.1;have h2:=hM.1.2.1;have h3:=hM.1.2.2;have hK:=hM.2;rw[ala];refine⟨cF hq,Rk ⟨h1,rb (by decide) h2 z4 Ko h3⟩ λF1=>⟨cF hq,nj ?_ λF2=>eH rfl hK F2⟩⟩;have:=h1.2;simp only[Sd.aa.tell];omega
 ·exact hM.elim
theorem ale (tk:Nat->Sd.aw->Option Sd.bo) (ht:Body (fr:=fr) 147 dR):Body (fr:=fr) 195 mr:=by
 refine mq (n:=40) (Kn tk ht) ?_;intro ar k s F Kb h0 hq hM;unfold mr at hM;split at hM
 ·rename_i l n;have h1:=hM.1.1;have h2:=hM.1.2;have hK:=hM.2;rw[alb];exact⟨cF hq,Rk ⟨h1,rb (by decide) h2 z4 Ko z8⟩ λF1=>eH rfl hK F1⟩
 ·exact hM.elim
theorem alf (tk:Nat->Sd.aw->Option Sd.bo) (ht:Body (fr:=fr) 147 dR):Body (fr:=fr) 131 tT:=by
 refine mq (n:=40) (Kn tk ht) ?_;intro ar k s F Kb h0 hq hM;unfold tT at hM;split at hM
 ·rename_i l rl;split at hM
  ·rename_i r hr;obtain⟨a,b,c,d,e,f,rfl,rfl⟩:=ak_ hr;have h1:=hM.1.1;have h2:=hM.1.2;have hK:=hM.2;rw[alc,Kj];refine⟨trivial,aH (λe1=>⟨trivial,aH (λe2=>?_) (λe2=>?_)⟩) (λe1=>?_)⟩
   ·refine⟨cF hq,Rk ⟨h1,h2⟩ λF1=>eH ?_ hK F1⟩;simp only[Sd.aa.dI,e1,e2,Bool.and_self,if_true]
   ·refine eH ?_ hK F;simp[Sd.aa.dI,e1,e2]
   ·refine eH ?_ hK F;simp[Sd.aa.dI,e1]
  ·exact hM.elim
 ·exact hM.elim
def L2 (fr:Sd.aF->Nat×Sd.aw) (C:Sd.aN):List (bK (Gh fr)):=⟨145,false,gT (lj C)⟩::⟨195,false,gT mr⟩::⟨131,false,gT tT⟩::L1 fr C
theorem Kq (tk:Nat->Sd.aw->Option Sd.bo) (ht:Body (fr:=fr) 147 dR):aG prog gS (L2 fr (aO tk)):=
 aG.cons (iC (ald tk ht)) (aG.cons (iC (ale tk ht)) (aG.cons (iC (alf tk ht)) (Kn tk ht)))
section
variable(C:Sd.aN) (k:LK) (s:Sd.aa) (F:a9 fr (aY k s)) (Kb:SK fr k)
theorem alg (l n c:Int):bu (bQ prog gS (L2 fr C)) 40 87 [.ptr 2 0,.int .i64 l,.int .i64 n,.int .i64 c] (bC k s F) [bb k s F] (cH k s Kb)
 =(cy k s F/\tT [.int .i64 l,.agg (lh 136 0 0 n 0 c)] k (bR s) F λv s' F'=>cH k s Kb (.ao []) (bC k s' F') [bb k s' F']):=by kernel_rfl
theorem alh (m:Int) (b:Sd.Label):bu (bQ prog gS (L2 fr C)) 40 88 [.ptr 2 0,.int .i64 m,.agg (mZ b)] (bC k s F) [bb k s F] (cH k s Kb)
 =(True/\cH k s Kb (.ao []) (bC k (s.d_ m b) F++[⟨true,⟨44,(0,0)⟩,mZ b⟩]) [bb k s F]):=by kernel_rfl
def Rl (s:Sd.aa) (t:Sd.Tok):Sd.aa:={s with c:={s.c with t:=t,q:=Sd.Q.drop s.c.q t.aE}}
theorem ali (t:Sd.Tok) (h n:Int):bu (bQ prog gS (L2 fr C)) 60 85 [.ptr 2 0,.agg (cS t),.int .i64 h,.int .i64 n] (bC k s F) [bb k s F] (cH k s Kb)
 =((vq k=vq k/\True)/\∀B (hB:QS k.bq k.most (Sd.Q.drop s.c.q t.aE) B),
  cy k (Rl s t) (F.cN _ B hB)/\tT [.int .i64 s.c.t.aE,.agg (lh 134 0 0 t.aE t.af 0)] k (bR (Rl s t)) (F.cN _ B hB) λv s2 F2=>
  cy k s2 F2/\tT [.int .i64 t.aE,.agg (lh 133 0 0 0 t.af 0)] k (bR s2) F2 λv s3 F3=>
  cy k s3 F3/\iU C [.int .i64 8,.int .i64 t.aE,.int .i64 n,.int .i64 0,.int .i64 h] k (bR s3) F3 λv s' F'=>cH k s Kb (.ao []) (bC k s' F'++[⟨true,⟨95,(0,0)⟩,cS t⟩]) [bb k s' F']):=by kernel_rfl
def qd (s:Sd.aa) (l:Int):Sd.aa:={s with c:={s.c with q:=Sd.Q.drop s.c.q l}}
def jm (s:Sd.aa) (t:Sd.Tok):Sd.aa:={s with c:={s.c with t:=t}}
end
theorem kJ (s:Sd.aa) (l:Int) (r:Sd.aF):(s.dI l r).c=s.c:=by unfold Sd.aa.dI;split<;>rfl
theorem JI (s:Sd.aa) (l:Int) (r:Sd.aF):(s.dI l r).br=s.br:=by unfold Sd.aa.dI;split<;>rfl
theorem alj (s:Sd.aa) (l:Int) (r:Sd.aF):(s.dI l r).bz.length<=s.bz.length+1:=by unfold Sd.aa.dI Sd.aa.tell;split<;>simp
theorem Rm.dI {s:Sd.aa} {l:Int} {r:Sd.aF} {n:Nat} (h:Rm s (n+1)):Rm (s.dI l r) n:=by
 have h1:=alj s l r;have h2:=JI s l r;have:=h.1;have:=h.2
 exact⟨by omega,by rw[h2];omega⟩
theorem Rm.rec {s:Sd.aa} {C:Sd.aN} {a b c d e:Int} {n:Nat} (h:Rm s (n+1)):Rm (s.record C a b c d e) n:=by
 have:=h.1;have:=h.2
 exact⟨by simp only[Sd.aa.record];omega,by simp only[Sd.aa.record,fi,Uv];omega⟩
theorem Rm.le {s:Sd.aa} {n m:Nat} (h:Rm s n) (hm:m<=n):Rm s m:=⟨by have:=h.1;omega,by have:=h.2;omega⟩
theorem Rm.r1 {s:Sd.aa} {n:Nat} (h:Rm s n):s.br.length<=1000:=by have:=h.2;omega
section
variable(tk:Nat->Sd.aw->Option Sd.bo)
include tk
theorem alk (ht:Body (fr:=fr) 147 dR):Body (fr:=fr) 87 xV:=by
 refine mq (n:=40) (Kq tk ht) ?_;intro ar k s F Kb h0 hq hM;unfold xV at hM;split at hM
 ·rename_i l n c;have h1:=hM.1.1;have h2:=hM.1.2.1;have h3:=hM.1.2.2;have hK:=hM.2;rw[alg];exact⟨cF hq,Kp ⟨h1,rb (by decide) vS h2 Ko h3⟩ λF1=>eH rfl hK F1 (hp:=by unfold Sd.aa.gone;rw[kJ])⟩
 ·exact hM.elim
def xW:SM fr:=λar k s F K=>match ar with
 |[.int .i64 m,.agg bl]=>(match FQ bl with
  |some b=>∀F',K (.ao []) (s.d_ m b) F'
  |none=>False)
 |_=>False
theorem alm (ht:Body (fr:=fr) 147 dR):Body (fr:=fr) 88 xW:=by
 refine mq (n:=40) (Kq tk ht) ?_;intro ar k s F Kb h0 hq hM;unfold xW at hM;split at hM
 ·rename_i m bl;split at hM
  ·rename_i b hb;obtain rfl:=P9 hb;rw[alh (aO tk)];exact⟨trivial,eH (s':=s.d_ m b) rfl hM F⟩
  ·exact hM.elim
 ·exact hM.elim
def qH (C:Sd.aN):SM fr:=λar k s F K=>match ar with
 |[.agg tl,.int .i64 h,.int .i64 n]=>(match jW tl with
  |some t=>(Rm s 4/\N4 t.aE/\vR t.af)/\∀F',K (.ao []) (s.goes C t h n) F'
  |none=>False)
 |_=>False
theorem aln (ht:Body (fr:=fr) 147 dR):Body (fr:=fr) 85 (qH (aO tk)):=by
 refine mq (n:=60) (Kq tk ht) ?_;intro ar k s F Kb h0 hq hM;unfold qH at hM;split at hM
 ·rename_i tl h n;split at hM
  ·rename_i t hb;obtain rfl:=m9 hb;have h1:Rm (Rl s t) 4:=hM.1.1;have h2:=hM.1.2.1;have h3:=hM.1.2.2;have hK:=hM.2;rw[ali];refine⟨⟨rfl,trivial⟩,λB hB=>⟨cF hq,Kp ⟨h1.le (by decide),rb (by decide) vS h2 h3 z8⟩ λF2=>⟨cF ?_,Kp ⟨h1.dI.le (by decide),rb (by decide) vS z4 h3 z8⟩ λF3=>⟨cF ?_,nj h1.dI.dI.r1 λF4=>eH rfl hK F4 (hp:=?_)⟩⟩⟩⟩
   ·rw[kJ];exact hq
   ·rw[kJ,kJ];exact hq
   ·show(Sd.aa.dI _ _ _).c.p=_;rw[kJ,kJ]
  ·exact hM.elim
 ·exact hM.elim
end
def L3 (fr:Sd.aF->Nat×Sd.aw) (C:Sd.aN):List (bK (Gh fr)):=⟨87,false,gT xV⟩::⟨88,false,gT xW⟩::⟨85,false,gT (qH C)⟩::L2 fr C
theorem Zj (tk:Nat->Sd.aw->Option Sd.bo) (ht:Body (fr:=fr) 147 dR):aG prog gS (L3 fr (aO tk)):=
 aG.cons (iC (alk tk ht)) (aG.cons (iC (alm tk ht)) (aG.cons (iC (aln tk ht)) (Kq tk ht)))
theorem alo (C:Sd.aN) (k:LK) (s:Sd.aa) (F:a9 fr (aY k s)) (Kb:SK fr k) (l:Int):bu (bQ prog gS (L3 fr C)) 60 91 [.ptr 2 0,.int .i64 l] (bC k s F) [bb k s F] (cH k s Kb)
 =((vq k=vq k/\True)/\∀B (hB:QS k.bq k.most (Sd.Q.drop s.c.q l) B),True/\cond (!(s.c.t.drop l).2) (cH k s Kb (.ao []) (bC k (qd s l) (F.cN _ B hB)++[⟨true,⟨95,(0,0)⟩,cS (s.c.t.drop l).1⟩]) [bb k (qd s l) (F.cN _ B hB)])
  (cy k (jm (qd s l) (s.c.t.drop l).1) (F.cN _ B hB)/\xV [.int .i64 (s.c.t.drop l).1.aE,.int .i64 l,.int .i64 16] k (bR (jm (qd s l) (s.c.t.drop l).1)) (F.cN _ B hB) λv s2 F2=>
   cy k s2 F2/\iU C [.int .i64 12,.int .i64 l,.int .i64 0,.int .i64 16,.int .i64 0] k (bR s2) F2 λv s' F'=>cH k s Kb (.ao []) (bC k s' F'++[⟨true,⟨95,(0,0)⟩,cS (s.c.t.drop l).1⟩]) [bb k s' F'])):=by kernel_rfl
theorem qF (s:Sd.aa) (l w c:Int):(s.gone l w c).c=s.c:=kJ _ _ _
theorem ait (s:Sd.aa) (l w c:Int):(s.gone l w c).br=s.br:=JI _ _ _
theorem Rm.gone {s:Sd.aa} {l w c:Int} {n:Nat} (h:Rm s (n+1)):Rm (s.gone l w c) n:=h.dI
section
variable{k:LK} {s:Sd.aa} {F:a9 fr (aY k s)} {K:SK fr k}
theorem Zk {l w c:Int} (h:Rm s 1/\N4 w/\N8 c) (hK:∀F',K (.ao []) (s.gone l w c) F'):xV [.int .i64 l,.int .i64 w,.int .i64 c] k (bR s) F K:=by
 have e:xV [.int .i64 l,.int .i64 w,.int .i64 c] k s F K=((Rm s 1/\N4 w/\N8 c)/\∀F',K (.ao []) (s.gone l w c) F'):=by kernel_rfl
 exact oZ (M:=xV) (e▸⟨h,hK⟩)
theorem tU {l n:Int} (h:Rm s 1/\tS n) (hK:∀F',K (.ao []) (s.done l n) F'):mr [.int .i64 l,.int .i64 n] k (bR s) F K:=by
 have e:mr [.int .i64 l,.int .i64 n] k s F K=((Rm s 1/\tS n)/\∀F',K (.ao []) (s.done l n) F'):=by kernel_rfl
 exact oZ (M:=mr) (e▸⟨h,hK⟩)
theorem xX {C:Sd.aN} {l n c:Int} (h:Rm s 1/\tS n/\N8 c) (hK:∀F',K (.ao []) (s.refuse C l n c) F'):lj C [.int .i64 l,.int .i64 n,.int .i64 c] k (bR s) F K:=by
 have e:lj C [.int .i64 l,.int .i64 n,.int .i64 c] k s F K=((Rm s 1/\tS n/\N8 c)/\∀F',K (.ao []) (s.refuse C l n c) F'):=by kernel_rfl
 exact oZ (M:=lj C) (e▸⟨h,hK⟩)
theorem Gf {C:Sd.aN} {l c:Int} (h:s.br.length<=1000) (hK:∀F',K (.ao []) (s.gY C l c) F'):o8 C [.int .i64 l,.int .i64 c] k (bR s) F K:=by
 have e:o8 C [.int .i64 l,.int .i64 c] k s F K=(s.br.length<=1000/\∀F',K (.ao []) (s.gY C l c) F'):=by kernel_rfl
 exact oZ (M:=o8 C) (e▸⟨h,hK⟩)
theorem CR {C:Sd.aN} {t:Sd.Tok} {h n:Int} (hh:Rm s 4/\N4 t.aE/\vR t.af) (hK:∀F',K (.ao []) (s.goes C t h n) F'):qH C [.agg (cS t),.int .i64 h,.int .i64 n] k (bR s) F K:=by
 have e:qH C [.agg (cS t),.int .i64 h,.int .i64 n] k s F K=((Rm s 4/\N4 t.aE/\vR t.af)/\∀F',K (.ao []) (s.goes C t h n) F'):=by kernel_rfl
 exact oZ (M:=qH C) (e▸⟨hh,hK⟩)
theorem Zl {m:Int} {b:Sd.Label} (hK:∀F',K (.ao []) (s.d_ m b) F'):xW [.int .i64 m,.agg (mZ b)] k (bR s) F K:=by
 have e:xW [.int .i64 m,.agg (mZ b)] k s F K=(∀F',K (.ao []) (s.d_ m b) F'):=by kernel_rfl
 exact oZ (M:=xW) (e▸hK)
end
def Gg (C:Sd.aN):SM fr:=λar k s F K=>match ar with
 |[.int .i64 l]=>(Rm s 2/\N4 l)/\∀F',K (.ao []) (s.leave C l) F'
 |_=>False
theorem alp (tk:Nat->Sd.aw->Option Sd.bo) (ht:Body (fr:=fr) 147 dR):Body (fr:=fr) 91 (Gg (aO tk)):=by
 refine mq (n:=60) (Zj tk ht) ?_;intro ar k s F Kb h0 hq hM;unfold Gg at hM;split at hM
 ·rename_i l;have h1:Rm (jm (qd s l) (s.c.t.drop l).1) 2:=hM.1.1;have h2:=hM.1.2;have hK:=hM.2;rw[alo];refine⟨⟨rfl,trivial⟩,λB hB=>⟨trivial,aH (λe=>?_) (λe=>?_)⟩⟩
  ·refine eH (s':=qd s l) ?_ hK (F.cN (Sd.Q.drop s.c.q l) B hB);simp only[lv]at e;exact(if_pos e).symm
  ·refine⟨cF hq,Zk ⟨h1.le (by decide),h2,⟨by decide,by decide⟩⟩ λF2=>⟨cF ?_,nj h1.gone.r1 λF3=>eH ?_ hK F3 (hp:=?_)⟩⟩
   ·rw[qF];exact hq
   ·simp only[Bool.not_eq_false']at e;have bZ:¬(s.c.t.drop l).2=false:=by rw[e];decide
    exact(if_neg bZ).symm
   ·show(Sd.aa.gone _ _ _ _).c.p=_;rw[qF];rfl
 ·exact hM.elim
end
section
open Go Go.RowKit Go.BigFrame Sx Vx
def cv (n:Int):Prop:=-9223372036854775808<=n/\n<=9223372036854775807
theorem hJ {a b:List ai} (h:∀f:ai->Bool,a.countP f=b.countP f):a.Perm b:=by
 classical
 refine List.perm_iff_count.2 λx=>?_;exact h _
structure QH where
 k:LK
 q:List Sd.Ask
 B:List ai
 h:QS k.bq k.most q B
instance:Bl QH:=⟨λg=>g.B⟩
def Rn (x:QG):cP QH:=λargs bl ch K=>match ch with
 |[g]=>(match args[x.pos]?with
  |some (.raw vp)=>(match x.m (args.eraseIdx x.pos) g.k.most g.q with
   |some (p,v,q')=>cond (ba 0 args&&cz 0 v) ((vp=vq g.k/\p)/\∀B (h:QS g.k.bq g.k.most q' B),K v bl [⟨g.k,q',B,h⟩]) False
   |none=>False)
  |_=>False)
 |_=>False
theorem alq {x:QG} (h:x.Ok) (gl:Nat->Option Nat):Sound prog gl x.f (Rn x):=by
 intro args ids bl ch R ms w0 w K hg hl S hc;unfold Rn at hc;split at hc
 ·rename_i g;split at hc
  ·rename_i vp Rh;split at hc
   ·rename_i p v q' hm;cases hq:ba 0 args&&cz 0 v with
    |false=>rw[hq]at hc;exact hc.elim
    |true=>
     rw[hq]at hc;simp only[a_]at hq;obtain⟨⟨rfl,hp⟩,hK⟩:=hc;have a1:aA ids args=aA [] args:=by have:=mP (ids:=[]) (more:=ids) args hq.1;simpa using this
     have e0:∀(B:List ai) (h:QS g.k.bq g.k.most q' B),av ([⟨g.k,q',B,h⟩]:List QH) R=B++R:=λ_ _=>rfl;have S1:St ms w0 (g.B++(lits ids ids bl++R)) w:=S.perm (by show List.Perm (lits ids ids bl++(g.B++R)) _;exact hJ λf=>by simp only[ik];omega);rw[a1];refine(h args g.k g.q p v q' Rh hm hp _ g.h _ ms w0 w S1).mono ?_;rintro y w1 ⟨B',rfl,hB,S2⟩;refine⟨v,[],bl,_,?_,by simpa using hl,?_,hK B' hB⟩
     ·have:=fy (ids:=[]) (more:=ids++[]) v hq.2;simpa using this.symm
     ·rw[e0,cI];exact S2.perm (hJ λf=>by simp only[ik];omega)
   ·exact hc.elim
  ·exact hc.elim
 ·exact hc.elim
def Gi (x:QG):bK QH:=⟨x.f,false,Rn x⟩
theorem Kr {x:QG} (h:x.Ok) {gl:Nat->Option Nat}:tn (G:=QH) prog gl (Gi x):=⟨alq h gl,λe=>by cases e⟩
theorem Zm {L:List (bK QH)} (hL:aG prog (λ_=>none) L) (n:Nat) {f:Nat} {args:List V} {v:V} {k:LK} {q q':List Sd.Ask} {B:List ai} (hB:QS k.bq k.most q B) (h:bu (bQ prog (λ_=>none) L) n f args [] [⟨k,q,B,hB⟩] (bm 0 λx b c=>x=v/\b=[]/\∃B h,c=[⟨k,q',B,h⟩])) (hv:cz 0 v=true)
 {bs:List ai} {ms:List Nat} {w0 w:ae} (S:St ms w0 (B++bs) w):aQ prog f (aA [] args).toArray w λy w1=>∃B',y=den [] v/\QS k.bq k.most q' B'/\St ms w0 (B'++bs) w1:=by
 refine(eD hL.T hL.Q n (C:=bQ prog (λ_=>none) L) (ids:=[]) (bl:=[]) (ch:=[⟨k,q,B,hB⟩]) (R:=bs) Gl.none rfl S h).mono ?_;rintro x w' ⟨y,more,bl',ch',rfl,h1,S',hK⟩;obtain⟨v2,cD,bl2,e,dw,S2,rfl,rfl,B1,vd,rfl⟩:=h_ (n0:=0) h1 (by simp) S' hK;have hm:cD=[]:=by simpa using dw
 subst hm;exact⟨B1,e,vd,S2⟩
def Ro:QG:=⟨213,0,λargs _ q=>match args with
 |[]=>some (True,.ao [.agg (Qd (jG q).1),.int .i64 (jG q).2],q)
 |_=>none⟩
theorem alr:Ro.Ok:=by
 intro args k q p v q' hv hm hp B hB bs ms w0 w S
 match args,hv,hm with
 |[a],hv,hm=>
  have ha:a=.raw (vq k):=by simpa[Ro]using hv
  subst ha;replace hm:some (True,V.ao [.agg (Qd (jG q).1),.int .i64 (jG q).2],q)=some (p,v,q'):=hm;simp only[aS,bd]at hm;obtain⟨rfl,rfl,rfl⟩:=hm;exact(akq hB S).mono (by rintro y w1 ⟨rfl,h⟩;exact⟨B,rfl,hB,S.quiet h⟩)
 |_::_::_,_,hm=>cases hm
def Rp:QG:=⟨216,0,λargs most q=>match args with
 |[.agg al]=>(match JW al with|some a=>some (most<=3/\(∀e∈q,e.source=a.source\/¬e.bD=a.bD),.int .i64 (Sd.Q.push most q a).2,(Sd.Q.push most q a).1)|none=>none)
 |_=>none⟩
theorem als:Rp.Ok:=by
 intro args k q p v q' hv hm hp B hB bs ms w0 w S
 match args,hv,hm with
 |a::l,hv,hm=>
  have ha:a=.raw (vq k):=by simpa[Rp]using hv
  subst ha;replace hm:(match(generalizing:=false) l with
   |[.agg al]=>(match JW al with|some a=>some (k.most<=3/\(∀e∈q,e.source=a.source\/¬e.bD=a.bD),V.int .i64 (Sd.Q.push k.most q a).2,(Sd.Q.push k.most q a).1)|none=>none)
   |_=>none)=some (p,v,q'):=hm
  split at hm
  ·split at hm
   ·rename_i a ha;obtain rfl:=ai7 ha;simp only[aS,bd]at hm;obtain⟨rfl,rfl,rfl⟩:=hm;exact ako a hB hp.1 hp.2 S
   ·cases hm
  ·cases hm
theorem alu (t:Sd.Tok) (q:List Sd.Ask):Sd.eT t q=if(jG q).2≠0 then(t,(jG q).2,q)else if(t.c9 (jG q).1.source).2≠0 then(t,(t.c9 (jG q).1.source).2,q)else((t.c9 (jG q).1.source).1,0,Sd.Q.drop q (jG q).1.source):=by
 cases q with
 |nil=>rfl
 |cons a q=>rfl
def LA:List (bK QH):=Gi Kl::Gi Ro::qL QH QV
theorem Zn:aG prog (λ_=>none) LA:=aG.cons (Kr Zi) (aG.cons (Kr alr) (kD (FW _)))
def one (g:QH) (q:List Sd.Ask) (X:List QH->Prop):Prop:=∀B (h:QS g.k.bq g.k.most q B),X [⟨g.k,q,B,h⟩]
def lQ (t:Sd.Tok) (n:Int):V:=.ao [.agg (cS t),.int .i64 n]
theorem alv (g:QH) (t:Sd.Tok) (K:VK QH):bu (bQ prog (λ_=>none) LA) 60 180 [.agg (cS t),.raw (vq g.k)] [] [g] (bm 0 K)=
 ((vq g.k=vq g.k/\True)/\one g g.q λc=>cond ((jG g.q).2!=0) (K (lQ t (jG g.q).2) [] c) (cv t.af/\cond ((t.c9 (jG g.q).1.source).2!=0) (K (lQ t (t.c9 (jG g.q).1.source).2) [] c)
   ((vq g.k=vq g.k/\True)/\one g (Sd.Q.drop g.q (jG g.q).1.source) λc=>K (lQ (t.c9 (jG g.q).1.source).1 0) [] c))):=by kernel_rfl
def Ks:QG:=⟨180,1,λargs _ q=>match args with
 |[.agg tl]=>(match jW tl with|some t=>some (cv t.af,lQ (Sd.eT t q).1 (Sd.eT t q).2.1,(Sd.eT t q).2.2)|none=>none)
 |_=>none⟩
theorem alw:Ks.Ok:=by
 intro args k q p v q' hv hm hp B hB bs ms w0 w S
 match args,hv,hm with
 |a::b::l,hv,hm=>
  have ha:b=.raw (vq k):=by simpa[Ks]using hv
  subst ha;replace hm:(match(generalizing:=false) a::l with
   |[.agg tl]=>(match jW tl with|some t=>some (cv t.af,lQ (Sd.eT t q).1 (Sd.eT t q).2.1,(Sd.eT t q).2.2)|none=>none)
   |_=>none)=some (p,v,q'):=hm
  split at hm
  ·rename_i tl heq;obtain⟨rfl,rfl⟩:=uq heq;split at hm
   ·rename_i t ht;obtain rfl:=m9 ht;simp only[aS,bd]at hm;obtain⟨rfl,rfl,rfl⟩:=hm;refine Zm Zn 60 hB ?_ rfl S;rw[show bu (bQ prog (λ_=>none) LA) 60 Ks.f=bu (bQ prog (λ_=>none) LA) 60 180 from rfl,alv ⟨k,q,B,hB⟩,alu];refine⟨⟨rfl,trivial⟩,λB h=>aH (λh1=>?_) (λh1=>⟨hp,aH (λh2=>?_) λh2=>⟨⟨rfl,trivial⟩,λB h=>?_⟩⟩)⟩
    ·rw[if_pos (by simpa using h1)];exact⟨rfl,rfl,B,h,rfl⟩
    ·rw[if_neg (by simpa using h1),if_pos (by simpa using h2)];exact⟨rfl,rfl,B,h,rfl⟩
    ·rw[if_neg (by simpa using h1),if_neg (by simpa using h2)];exact⟨rfl,rfl,B,h,rfl⟩
   ·cases hm
  ·cases hm
def LB:List (bK QH):=Gi Ks::Gi Rp::LA
theorem alx:aG prog (λ_=>none) LB:=aG.cons (Kr alw) (aG.cons (Kr als) Zn)
def Kt (f:eN) (args:List V) (g:QH) (K:VK QH):Prop:=bu (bQ prog (λ_=>none) LB) 60 f args [] [g] (bm 0 K)
theorem Rq {f:Nat} {args:List V} {v:V} {k:LK} {q q':List Sd.Ask} {B:List ai} (hB:QS k.bq k.most q B) (h:Kt f args ⟨k,q,B,hB⟩ λx b c=>x=v/\b=[]/\∃B h,c=[⟨k,q',B,h⟩]) (hv:cz 0 v=true)
 {bs:List ai} {ms:List Nat} {w0 w:ae} (S:St ms w0 (B++bs) w):aQ prog f (aA [] args).toArray w λy w1=>∃B',y=den [] v/\QS k.bq k.most q' B'/\St ms w0 (B'++bs) w1:=Zm alx 60 hB h hv S
theorem aly (g:QH) (t:Sd.Tok) (f:Int) (K:VK QH):Kt 127 [.agg (cS t),.raw (vq g.k),.int .i64 f] g K=
 cond (f !=t.aE) (K (lQ t 20) [] [g]) (cond (decide (t.af>=65535)) (K (lQ t 24) [] [g]) ((vq g.k=vq g.k/\cv t.af)/\one g (Sd.eT t g.q).2.2 λc=>K (lQ (Sd.eT t g.q).1 (Sd.eT t g.q).2.1) [] c)):=by kernel_rfl
theorem alz {k:LK} {q:List Sd.Ask} {B:List ai} (hB:QS k.bq k.most q B) {t:Sd.Tok} (he:cv t.af) (f:Int) {bs:List ai} {ms:List Nat} {w0 w:ae} (S:St ms w0 (B++bs) w):
 aQ prog 127 (aA [] [.agg (cS t),.raw (vq k),.int .i64 f]).toArray w λy w1=>∃B',y=den [] (lQ (Sd.cQ t q f).1 (Sd.cQ t q f).2.1)/\QS k.bq k.most (Sd.cQ t q f).2.2 B'/\St ms w0 (B'++bs) w1:=by
 refine Rq hB ?_ rfl S;rw[aly ⟨k,q,B,hB⟩];unfold Sd.cQ;refine aH (λh=>?_) (λh=>aH (λh2=>?_) λh2=>⟨⟨rfl,he⟩,λB h3=>?_⟩)
 ·rw[if_pos (by simpa using h)];exact⟨rfl,rfl,B,hB,rfl⟩
 ·rw[if_neg (by simpa using h),if_pos (by simpa using h2)];exact⟨rfl,rfl,B,hB,rfl⟩
 ·rw[if_neg (by simpa using h),if_neg (by simpa using h2)];exact⟨rfl,rfl,B,h3,rfl⟩
def Ku (g:QH) (t:Sd.Tok) (la:Sd.Timer) (K:VK QH):Prop:=
 let t1:Sd.Tok:={t with la:=la.step}
 (cv la.n/\cv la.most)/\True/\cond (!la.step.due) (K (lQ t1 0) [] [g]) (cond (decide (t.af>=65535)) (cv t.af/\K (lQ t1.jv 6) [] [g]) ((vq g.k=vq g.k/\cv t.af)/\one g (Sd.eT t1 g.q).2.2 λc=>
  cond ((Sd.eT t1 g.q).2.1!=0) (cv t.af/\K (lQ (t1.c9 4).1 5) [] c) (K (lQ (Sd.eT t1 g.q).1 5) [] c)))
theorem alA (g:QH) (p:Sd.aJ) (ka:Nat->Option aI) (kn kc:Nat->Nat) (t:Sd.Tok) (th:Bool) (K:VK QH):Kt 141 [.agg [.dS p ka kn kc],.agg (cS t),.raw (vq g.k),.bool th] g K=
 cond (t.aE==4) (K (lQ {t with la:=.zero} 0) [] [g]) (cond th (K (lQ {t with la:=.zero} 0) [] [g]) (cond (t.la.most==0) (cv (p.i 43)/\Ku g t (.start (p.i 43)) K) (Ku g t t.la K))):=by kernel_rfl
def rW (t:Sd.Tok) (a n:Int):V:=.ao [.agg (cS t),.int .i64 a,.int .i64 n]
def Kv (g:QH) (t:Sd.Tok) (f:Int) (K:VK QH):Prop:=cv t.af/\cond ((t.c9 f).2!=0) (K (rW t 0 (t.c9 f).2) [] [g]) ((vq g.k=vq g.k/\True)/\one g (Sd.Q.drop g.q f) λc=>K (rW (t.c9 f).1 3 0) [] c)
def Rr (g:QH) (p:Sd.aJ) (t:Sd.Tok) (f:Int) (K:VK QH):Prop:=
 let a:Sd.Ask:=⟨f,Sd.placeOf p f,.start (p.i 45)⟩
 True/\cv (p.i 45)/\(vq g.k=vq g.k/\g.k.most<=3/\∀e∈g.q,e.source=f\/¬e.bD=Sd.placeOf p f)/\one g (Sd.Q.push g.k.most g.q a).1 λc=>K (rW t 0 (Sd.Q.push g.k.most g.q a).2) [] c
theorem alB (g:QH) (p:Sd.aJ) (ka:Nat->Option aI) (kn kc:Nat->Nat) (t:Sd.Tok) (f:Int) (nw:Bool) (K:VK QH):Kt 197 [.agg [.dS p ka kn kc],.agg (cS t),.raw (vq g.k),.int .i64 f,.bool nw] g K=
 cond t.bad (K (rW t 0 29) [] [g]) (cond (f==t.aE) (K (rW t 0 25) [] [g]) (cond (decide (t.af>=65535)) (K (rW t 0 24) [] [g]) (cond (t.aE==4) (Kv g t f K)
  (cond nw (True/\cond (Sd.ff p f t.aE) (Kv g t f K) (cond nw (K (rW t 0 26) [] [g]) (Rr g p t f K))) (cond nw (K (rW t 0 26) [] [g]) (Rr g p t f K)))))):=by kernel_rfl
def Gj (t:Sd.Tok) (la:Sd.Timer) (q:List Sd.Ask):Sd.Tok×Int×List Sd.Ask:=
 let t1:Sd.Tok:={t with la:=la.step}
 if la.step.due=false then(t1,0,q)else if 65535<=t.af then(t1.jv,6,q)else if(Sd.eT t1 q).2.1≠0 then((t1.c9 4).1,5,(Sd.eT t1 q).2.2)else((Sd.eT t1 q).1,5,(Sd.eT t1 q).2.2)
theorem Zo {k:LK} {q:List Sd.Ask} {B:List ai} (hB:QS k.bq k.most q B) {t:Sd.Tok} (he:cv t.af) {la:Sd.Timer} (rq:cv la.n/\cv la.most):
 Ku ⟨k,q,B,hB⟩ t la λx b c=>x=lQ (Gj t la q).1 (Gj t la q).2.1/\b=[]/\∃B h,c=[⟨k,(Gj t la q).2.2,B,h⟩]:=by
 unfold Ku Gj;refine⟨rq,trivial,aH (λh=>?_) (λh=>aH (λh2=>⟨he,?_⟩) λh2=>⟨⟨rfl,he⟩,λB1 h1=>aH (λh3=>⟨he,?_⟩) λh3=>?_⟩)⟩
 ·rw[if_pos (by simpa using h)];exact⟨rfl,rfl,B,hB,rfl⟩
 ·rw[if_neg (by simpa using h),if_pos (by simpa using h2)];exact⟨rfl,rfl,B,hB,rfl⟩
 ·rw[if_neg (by simpa using h),if_neg (by simpa using h2),if_pos (by simpa using h3)];exact⟨rfl,rfl,B1,h1,rfl⟩
 ·rw[if_neg (by simpa using h),if_neg (by simpa using h2),if_neg (by simpa using h3)];exact⟨rfl,rfl,B1,h1,rfl⟩
theorem alC {k:LK} {q:List Sd.Ask} {B:List ai} (hB:QS k.bq k.most q B) (p:Sd.aJ) (ka:Nat->Option aI) (kn kc:Nat->Nat) {t:Sd.Tok} (th:Bool) (he:cv t.af) (rq:cv t.la.n/\cv t.la.most) (hp:1<=p.i 43/\p.i 43<=1000) {bs:List ai} {ms:List Nat} {w0 w:ae} (S:St ms w0 (B++bs) w):
 aQ prog 141 (aA [] [.agg [.dS p ka kn kc],.agg (cS t),.raw (vq k),.bool th]).toArray w λy w1=>∃B',y=den [] (lQ (Sd.fR p t q th).1 (Sd.fR p t q th).2.1)/\QS k.bq k.most (Sd.fR p t q th).2.2 B'/\St ms w0 (B'++bs) w1:=by
 refine Rq hB ?_ rfl S;rw[alA ⟨k,q,B,hB⟩];have e:Sd.fR p t q th=if t.aE=4\/th=true then({t with la:=.zero},0,q)else Gj t (if t.la.most=0 then .start (p.i 43)else t.la) q:=rfl
 rw[e];refine aH (λh=>?_) (λh=>aH (λh2=>?_) λh2=>?_)
 ·rw[if_pos (.inl (by simpa using h))];exact⟨rfl,rfl,B,hB,rfl⟩
 ·rw[if_pos (.inr h2)];exact⟨rfl,rfl,B,hB,rfl⟩
 ·rw[if_neg (by simp at h;simp[h,h2])];refine aH (λh3=>⟨by unfold cv;omega,?_⟩) (λh3=>?_)
  ·rw[if_pos (by simpa using h3)];refine Zo hB he ?_;rw[Fx,if_neg (by omega)];exact⟨⟨by show(-9223372036854775808:Int)<=0;omega,by show(0:Int)<=9223372036854775807;omega⟩,by unfold cv;show _<=p.i 43/\p.i 43<=_;omega⟩
  ·rw[if_neg (by simpa using h3)];exact Zo hB he rq
theorem Zp {k:LK} {q:List Sd.Ask} {B:List ai} (hB:QS k.bq k.most q B) {t:Sd.Tok} (he:cv t.af) {f:Int} {R:Sd.Tok×Int×Int×List Sd.Ask} (e:R=if(t.c9 f).2≠0 then(t,0,(t.c9 f).2,q)else((t.c9 f).1,3,0,Sd.Q.drop q f)):
 Kv ⟨k,q,B,hB⟩ t f λx b c=>x=rW R.1 R.2.1 R.2.2.1/\b=[]/\∃B h,c=[⟨k,R.2.2.2,B,h⟩]:=by
 unfold Kv;subst e;refine⟨he,aH (λh=>?_) (λh=>⟨⟨rfl,trivial⟩,λB1 h1=>?_⟩)⟩
 ·rw[if_pos (by simpa using h)];exact⟨rfl,rfl,B,hB,rfl⟩
 ·rw[if_neg (by simpa using h)];exact⟨rfl,rfl,B1,h1,rfl⟩
theorem alD {k:LK} {q:List Sd.Ask} {B:List ai} (hB:QS k.bq k.most q B) (p:Sd.aJ) (ka:Nat->Option aI) (kn kc:Nat->Nat) {t:Sd.Tok} (f:Int) (nw:Bool) (he:cv t.af) (hm:k.most<=3) (hr:∀e∈q,e.source=f\/¬e.bD=Sd.placeOf p f) (hp:1<=p.i 45/\p.i 45<=1000) {bs:List ai} {ms:List Nat} {w0 w:ae} (S:St ms w0 (B++bs) w):
 aQ prog 197 (aA [] [.agg [.dS p ka kn kc],.agg (cS t),.raw (vq k),.int .i64 f,.bool nw]).toArray w λy w1=>∃B',y=den [] (rW (Sd.fI p t k.most q f nw).1 (Sd.fI p t k.most q f nw).2.1 (Sd.fI p t k.most q f nw).2.2.1)/\QS k.bq k.most (Sd.fI p t k.most q f nw).2.2.2 B'/\St ms w0 (B'++bs) w1:=by
 refine Rq hB ?_ rfl S;rw[alB ⟨k,q,B,hB⟩];have hP:∀R:Sd.Tok×Int×Int×List Sd.Ask,R=(t,0,(Sd.Q.push k.most q ⟨f,Sd.bD p f,.start p.ask⟩).2,(Sd.Q.push k.most q ⟨f,Sd.bD p f,.start p.ask⟩).1)->Rr ⟨k,q,B,hB⟩ p t f λx b c=>x=rW R.1 R.2.1 R.2.2.1/\b=[]/\∃B h,c=[⟨k,R.2.2.2,B,h⟩]:=by
  rintro R rfl;exact⟨trivial,by unfold cv;omega,⟨rfl,hm,hr⟩,λB1 h1=>⟨rfl,rfl,B1,h1,rfl⟩⟩
 unfold Sd.fI;refine aH (λh=>?_) (λh=>?_)
 ·rw[if_pos h];exact⟨rfl,rfl,B,hB,rfl⟩
 rw[if_neg (by simp[h])];refine aH (λh=>?_) (λh=>?_)
 ·rw[if_pos (by simpa using h)];exact⟨rfl,rfl,B,hB,rfl⟩
 rw[if_neg (by simpa using h)];refine aH (λh=>?_) (λh=>?_)
 ·rw[if_pos (by simpa using h)];exact⟨rfl,rfl,B,hB,rfl⟩
 rw[if_neg (by simpa using h)];refine aH (λh=>?_) (λh4=>aH (λh5=>⟨trivial,aH (λh6=>?_) λh6=>aH (λh7=>?_) λh7=>?_⟩) λh5=>aH (λh7=>?_) λh7=>?_)
 ·rw[if_pos (.inl (by simpa using h))];exact Zp hB he rfl
 ·rw[if_pos (.inr ⟨h5,h6⟩)];exact Zp hB he rfl
 ·rw[if_neg (by simp at h4;simp[h4,h6]),if_pos h7];exact⟨rfl,rfl,B,hB,rfl⟩
 ·rw[h5]at h7;cases h7
 ·rw[h5]at h7;cases h7
 ·rw[if_neg (by simp at h4;simp[h4,h5]),if_neg (by simp[h5])];exact hP _ rfl
variable{fr:Sd.aF->Nat×Sd.aw}
def Rs:QG:=⟨127,1,λargs _ q=>match args with
 |[.agg tl,.int .i64 f]=>(match jW tl with|some t=>some (cv t.af,.ao [.agg (cS (Sd.cQ t q f).1),.int .i64 (Sd.cQ t q f).2.1],(Sd.cQ t q f).2.2)|none=>none)
 |_=>none⟩
theorem alE:Rs.Ok:=by
 intro args k q p v q' hv hm hp B hB bs ms w0 w S
 match args,hv,hm with
 |a::b::l,hv,hm=>
  have ha:b=.raw (vq k):=by simpa[Rs]using hv
  subst ha;replace hm:(match(generalizing:=false) a::l with
   |[.agg tl,.int .i64 f]=>(match jW tl with|some t=>some (cv t.af,V.ao [.agg (cS (Sd.cQ t q f).1),.int .i64 (Sd.cQ t q f).2.1],(Sd.cQ t q f).2.2)|none=>none)
   |_=>none)=some (p,v,q'):=hm
  split at hm
  ·rename_i tl f heq;obtain⟨rfl,rfl⟩:=uq heq;split at hm
   ·rename_i t ht;obtain rfl:=m9 ht;simp only[aS,bd]at hm;obtain⟨rfl,rfl,rfl⟩:=hm;exact alz hB hp f S
   ·cases hm
  ·cases hm
def Rt:QG:=⟨197,2,λargs most q=>match args with
 |[.agg [.dS p ka kn kc],.agg tl,.int .i64 f,.bool nw]=>(match jW tl with|some t=>some (cv t.af/\most<=3/\(∀e∈q,e.source=f\/¬e.bD=Sd.placeOf p f)/\(1<=p.i 45/\p.i 45<=1000),.ao [.agg (cS (Sd.fI p t most q f nw).1),.int .i64 (Sd.fI p t most q f nw).2.1,.int .i64 (Sd.fI p t most q f nw).2.2.1],(Sd.fI p t most q f nw).2.2.2)|none=>none)
 |_=>none⟩
theorem alF:Rt.Ok:=by
 intro args k q p v q' hv hm hp B hB bs ms w0 w S
 match args,hv,hm with
 |a::b::c::l,hv,hm=>
  have ha:c=.raw (vq k):=by simpa[Rt]using hv
  subst ha;replace hm:(match(generalizing:=false) a::b::l with
   |[.agg [.dS p ka kn kc],.agg tl,.int .i64 f,.bool nw]=>(match jW tl with|some t=>some (cv t.af/\k.most<=3/\(∀e∈q,e.source=f\/¬e.bD=Sd.placeOf p f)/\(1<=p.i 45/\p.i 45<=1000),V.ao [.agg (cS (Sd.fI p t k.most q f nw).1),.int .i64 (Sd.fI p t k.most q f nw).2.1,.int .i64 (Sd.fI p t k.most q f nw).2.2.1],(Sd.fI p t k.most q f nw).2.2.2)|none=>none)
   |_=>none)=some (p,v,q'):=hm
  split at hm
  ·rename_i p' ka kn kc tl f nw heq;obtain⟨rfl,h2⟩:=uq heq;obtain⟨rfl,rfl⟩:=uq h2;split at hm
   ·rename_i t ht;obtain rfl:=m9 ht;simp only[aS,bd]at hm;obtain⟨rfl,rfl,rfl⟩:=hm;exact alD hB p' ka kn kc f nw hp.1 hp.2.1 hp.2.2.1 hp.2.2.2 S
   ·cases hm
  ·cases hm
def cN (s:Sd.aa) (q:List Sd.Ask):Sd.aa:={s with c:={s.c with q:=q}}
def L4 (fr:Sd.aF->Nat×Sd.aw) (C:Sd.aN):List (bK (Gh fr)):=⟨91,false,gT (Gg C)⟩::⟨127,false,Al Rs⟩::⟨197,false,Al Rt⟩::L3 fr C
theorem Am (tk:Nat->Sd.aw->Option Sd.bo) (ht:Body (fr:=fr) 147 dR):aG prog gS (L4 fr (aO tk)):=
 aG.cons (iC (alp tk ht)) (aG.cons (Kk alE) (aG.cons (Kk alF) (Zj tk ht)))
section
variable(C:Sd.aN) (k:LK) (s:Sd.aa) (F:a9 fr (aY k s)) (Kb:SK fr k)
theorem alG (l:Int) (m:Sd.bo):bu (bQ prog gS (L4 fr C)) 60 152 [.ptr 2 0,.int .i64 l,.agg (cG m)] (bC k s F) [bb k s F] (cH k s Kb)
 =(cy k s F/\mr [.int .i64 l,.int .i64 m.seq] k (bR s) F λv s' F'=>cH k s Kb (.ao []) (bC k s' F'++[⟨true,⟨66,(0,0)⟩,cG m⟩]) [bb k s' F']):=by kernel_rfl
theorem alH (l:Int) (m:Sd.bo):bu (bQ prog gS (L4 fr C)) 60 156 [.ptr 2 0,.int .i64 l,.agg (cG m)] (bC k s F) [bb k s F] (cH k s Kb)
 =(cv s.c.t.af/\cond ((s.c.t.accept l m.af).2!=0) (cy k s F/\lj C [.int .i64 l,.int .i64 m.seq,.int .i64 (s.c.t.accept l m.af).2] k (bR s) F λv s' F'=>cH k s Kb (.ao []) (bC k s' F'++[⟨true,⟨66,(0,0)⟩,cG m⟩,⟨true,⟨95,(0,0)⟩,cS (s.c.t.accept l m.af).1⟩]) [bb k s' F'])
  (cy k s F/\qH C [.agg (cS (s.c.t.accept l m.af).1),.int .i64 1,.int .i64 m.seq] k (bR s) F λv s2 F2=>cy k s2 F2/\mr [.int .i64 l,.int .i64 m.seq] k (bR s2) F2 λv s' F'=>cH k s Kb (.ao []) (bC k s' F'++[⟨true,⟨66,(0,0)⟩,cG m⟩,⟨true,⟨95,(0,0)⟩,cS (s.c.t.accept l m.af).1⟩]) [bb k s' F'])):=by kernel_rfl
theorem alI (l:Int) (m:Sd.bo):bu (bQ prog gS (L4 fr C)) 60 157 [.ptr 2 0,.int .i64 l,.agg (cG m)] (bC k s F) [bb k s F] (cH k s Kb)
 =(True/\cond ((s.c.t.fg l).2!=0) (cy k s F/\lj C [.int .i64 l,.int .i64 m.seq,.int .i64 (s.c.t.fg l).2] k (bR s) F λv s' F'=>cH k s Kb (.ao []) (bC k s' F'++[⟨true,⟨66,(0,0)⟩,cG m⟩,⟨true,⟨95,(0,0)⟩,cS (s.c.t.fg l).1⟩]) [bb k s' F'])
  (cy k (jm s (s.c.t.fg l).1) F/\xV [.int .i64 (s.c.t.fg l).1.aE,.int .i64 l,.int .i64 0] k (bR (jm s (s.c.t.fg l).1)) F λv s2 F2=>cy k s2 F2/\iU C [.int .i64 11,.int .i64 l,.int .i64 m.seq,.int .i64 0,.int .i64 0] k (bR s2) F2 λv s3 F3=>
   cy k s3 F3/\mr [.int .i64 l,.int .i64 m.seq] k (bR s3) F3 λv s' F'=>cH k s Kb (.ao []) (bC k s' F'++[⟨true,⟨66,(0,0)⟩,cG m⟩,⟨true,⟨95,(0,0)⟩,cS (s.c.t.fg l).1⟩]) [bb k s' F'])):=by kernel_rfl
theorem alJ (l:Int) (m:Sd.bo):bu (bQ prog gS (L4 fr C)) 60 155 [.ptr 2 0,.int .i64 l,.agg (cG m)] (bC k s F) [bb k s F] (cH k s Kb)
 =(True/\Sd.eF s.c.p/\cond ((Sd.Tok.make s.c.p s.c.t l m.aV ((dV s.c.ag).on m.aV)).2!=0) (cy k s F/\lj C [.int .i64 l,.int .i64 m.seq,.int .i64 (Sd.Tok.make s.c.p s.c.t l m.aV ((dV s.c.ag).on m.aV)).2] k (bR s) F λv s' F'=>cH k s Kb (.ao []) (bC k s' F'++[⟨true,⟨66,(0,0)⟩,cG m⟩,⟨true,⟨95,(0,0)⟩,cS (Sd.Tok.make s.c.p s.c.t l m.aV ((dV s.c.ag).on m.aV)).1⟩]) [bb k s' F'])
  (cy k (jm s (Sd.Tok.make s.c.p s.c.t l m.aV ((dV s.c.ag).on m.aV)).1) F/\tT [.int .i64 m.aV,.agg (lh 135 0 0 l (Sd.Tok.make s.c.p s.c.t l m.aV ((dV s.c.ag).on m.aV)).1.af 0)] k (bR (jm s (Sd.Tok.make s.c.p s.c.t l m.aV ((dV s.c.ag).on m.aV)).1)) F λv s2 F2=>
   cy k s2 F2/\iU C [.int .i64 9,.int .i64 l,.int .i64 m.seq,.int .i64 0,.int .i64 m.aV] k (bR s2) F2 λv s3 F3=>
   cy k s3 F3/\mr [.int .i64 l,.int .i64 m.seq] k (bR s3) F3 λv s' F'=>cH k s Kb (.ao []) (bC k s' F'++[⟨true,⟨66,(0,0)⟩,cG m⟩,⟨true,⟨95,(0,0)⟩,cS (Sd.Tok.make s.c.p s.c.t l m.aV ((dV s.c.ag).on m.aV)).1⟩]) [bb k s' F'])):=by kernel_rfl
theorem alK (l:Int) (m:Sd.bo):bu (bQ prog gS (L4 fr C)) 60 158 [.ptr 2 0,.int .i64 l,.agg (cG m)] (bC k s F) [bb k s F] (cH k s Kb)
 =((vq k=vq k/\cv s.c.t.af)/\∀B (hB:QS k.bq k.most (Sd.cQ s.c.t s.c.q l).2.2 B),
  cond ((Sd.cQ s.c.t s.c.q l).2.1!=0) (cy k (cN s (Sd.cQ s.c.t s.c.q l).2.2) (F.cN (Sd.cQ s.c.t s.c.q l).2.2 B hB)/\lj C [.int .i64 l,.int .i64 m.seq,.int .i64 (Sd.cQ s.c.t s.c.q l).2.1] k (bR (cN s (Sd.cQ s.c.t s.c.q l).2.2)) (F.cN (Sd.cQ s.c.t s.c.q l).2.2 B hB) λv s' F'=>cH k s Kb (.ao []) (bC k s' F'++[⟨true,⟨66,(0,0)⟩,cG m⟩,⟨true,⟨95,(0,0)⟩,cS (Sd.cQ s.c.t s.c.q l).1⟩]) [bb k s' F'])
  (cy k (cN s (Sd.cQ s.c.t s.c.q l).2.2) (F.cN (Sd.cQ s.c.t s.c.q l).2.2 B hB)/\qH C [.agg (cS (Sd.cQ s.c.t s.c.q l).1),.int .i64 2,.int .i64 m.seq] k (bR (cN s (Sd.cQ s.c.t s.c.q l).2.2)) (F.cN (Sd.cQ s.c.t s.c.q l).2.2 B hB) λv s2 F2=>cy k s2 F2/\mr [.int .i64 l,.int .i64 m.seq] k (bR s2) F2 λv s' F'=>cH k s Kb (.ao []) (bC k s' F'++[⟨true,⟨66,(0,0)⟩,cG m⟩,⟨true,⟨95,(0,0)⟩,cS (Sd.cQ s.c.t s.c.q l).1⟩]) [bb k s' F'])):=by kernel_rfl
abbrev gu (s:Sd.aa) (k:LK) (l:Int) (m:Sd.bo):Sd.Tok×Int×Int×List Sd.Ask:=Sd.fI s.c.p s.c.t k.most s.c.q l m.now
theorem alL (l:Int) (m:Sd.bo):bu (bQ prog gS (L4 fr C)) 60 154 [.ptr 2 0,.int .i64 l,.agg (cG m)] (bC k s F) [bb k s F] (cH k s Kb)
 =((vq k=vq k/\(cv s.c.t.af/\k.most<=3/\(∀e∈s.c.q,e.source=l\/¬e.bD=Sd.placeOf s.c.p l)/\(1<=s.c.p.i 45/\s.c.p.i 45<=1000)))/\∀B (hB:QS k.bq k.most (gu s k l m).2.2.2 B),
  cond ((gu s k l m).2.2.1!=0) (cy k (cN s (gu s k l m).2.2.2) (F.cN (gu s k l m).2.2.2 B hB)/\lj C [.int .i64 l,.int .i64 m.seq,.int .i64 (gu s k l m).2.2.1] k (bR (cN s (gu s k l m).2.2.2)) (F.cN (gu s k l m).2.2.2 B hB) λv s' F'=>cH k s Kb (.ao []) (bC k s' F'++[⟨true,⟨66,(0,0)⟩,cG m⟩,⟨true,⟨95,(0,0)⟩,cS (gu s k l m).1⟩]) [bb k s' F'])
  (cond (decide ((gu s k l m).2.1>0)) (cy k (cN s (gu s k l m).2.2.2) (F.cN (gu s k l m).2.2.2 B hB)/\qH C [.agg (cS (gu s k l m).1),.int .i64 (gu s k l m).2.1,.int .i64 m.seq] k (bR (cN s (gu s k l m).2.2.2)) (F.cN (gu s k l m).2.2.2 B hB) λv s2 F2=>cy k s2 F2/\mr [.int .i64 l,.int .i64 m.seq] k (bR s2) F2 λv s' F'=>cH k s Kb (.ao []) (bC k s' F'++[⟨true,⟨66,(0,0)⟩,cG m⟩,⟨true,⟨95,(0,0)⟩,cS (gu s k l m).1⟩]) [bb k s' F'])
  (cy k (jm (cN s (gu s k l m).2.2.2) (gu s k l m).1) (F.cN (gu s k l m).2.2.2 B hB)/\iU C [.int .i64 10,.int .i64 l,.int .i64 m.seq,.int .i64 0,.int .i64 0] k (bR (jm (cN s (gu s k l m).2.2.2) (gu s k l m).1)) (F.cN (gu s k l m).2.2.2 B hB) λv s2 F2=>cy k s2 F2/\mr [.int .i64 l,.int .i64 m.seq] k (bR s2) F2 λv s' F'=>cH k s Kb (.ao []) (bC k s' F'++[⟨true,⟨66,(0,0)⟩,cG m⟩,⟨true,⟨95,(0,0)⟩,cS (gu s k l m).1⟩]) [bb k s' F']))):=by kernel_rfl
end
structure TB (t:Sd.Tok):Prop where
 h:N4 t.aE
 e:vR t.af
theorem An {t:Sd.Tok} (h:TB t) (o:Int):TB (t.c9 o).1/\N8 (t.c9 o).2:=by
 obtain⟨⟨h1,h2⟩,h3,h4⟩:=h;unfold Sd.Tok.c9;split
 ·exact⟨⟨⟨h1,h2⟩,h3,h4⟩,by simp[N8]⟩
 ·split
  ·exact⟨⟨⟨h1,h2⟩,h3,h4⟩,by simp[N8]⟩
  ·split
   ·exact⟨⟨⟨h1,h2⟩,h3,h4⟩,by simp[N8]⟩
   ·exact⟨⟨⟨by simp only[Sd.Tok.pass];omega,by simp only[Sd.Tok.pass];omega⟩,by simp only[Sd.Tok.pass];omega,by simp only[Sd.Tok.pass];omega⟩,by simp[N8]⟩
theorem alM {t:Sd.Tok} (h:TB t) (l e:Int):TB (t.accept l e).1/\N8 (t.accept l e).2:=by
 unfold Sd.Tok.accept;split
 ·exact⟨h,by simp[N8]⟩
 ·split
  ·exact⟨h,by simp[N8]⟩
  ·exact An h l
theorem alN {t:Sd.Tok} (h:TB t) (l:Int):TB (t.fg l).1/\N8 (t.fg l).2:=by
 unfold Sd.Tok.fg;split
 ·exact⟨h,by simp[N8]⟩
 ·exact⟨⟨h.h,h.e⟩,by simp[N8]⟩
theorem alO {t:Sd.Tok} (h:TB t) (p:Sd.aJ) (l o:Int) (b:Bool):TB (Sd.Tok.make p t l o b).1/\N8 (Sd.Tok.make p t l o b).2:=by
 unfold Sd.Tok.make
 repeat' split
 all_goals first|exact⟨h,by simp[N8]⟩|exact⟨⟨h.h,h.e⟩,by simp[N8]⟩
theorem Zq {t:Sd.Tok} (h:TB t) (q:List Sd.Ask):TB (Sd.eT t q).1/\N8 (Sd.eT t q).2.1:=by
 unfold Sd.eT;split
 ·exact⟨h,by simp[N8]⟩
 ·split
  ·exact⟨h,(An h _).2⟩
  ·exact⟨(An h _).1,by simp[N8]⟩
theorem Zr {t:Sd.Tok} (h:TB t) (q:List Sd.Ask) (l:Int):TB (Sd.cQ t q l).1/\N8 (Sd.cQ t q l).2.1:=by
 unfold Sd.cQ;split
 ·exact⟨h,by simp[N8]⟩
 ·split
  ·exact⟨h,by simp[N8]⟩
  ·exact Zq h q
theorem Zs {t:Sd.Tok} {q:List Sd.Ask} {l:Int} (h:(Sd.cQ t q l).2.1≠0):(Sd.cQ t q l).2.2=q:=by
 unfold Sd.cQ at h⊢;split
 ·rfl
 ·split
  ·rfl
  ·rename_i h1 h2;rw[if_neg h1,if_neg h2]at h;unfold Sd.eT at h⊢;split
   ·rfl
   ·split
    ·rfl
    ·rename_i a q' h3;simp only[if_neg h3,ne_eq,not_true_eq_false]at h
theorem alP (most:Int) (q:List Sd.Ask) (a:Sd.Ask):N8 (Sd.Q.push most q a).2:=by
 unfold Sd.Q.push
 repeat' split
 all_goals simp[N8]
theorem alQ {most:Int} {q:List Sd.Ask} {a:Sd.Ask} (h:(Sd.Q.push most q a).2≠0):(Sd.Q.push most q a).1=q:=by
 unfold Sd.Q.push at h⊢;split
 ·rfl
 ·split
  ·rfl
  ·rename_i h1 h2;simp[if_neg h1,if_neg h2]at h
theorem alR {p:Sd.aJ} {t:Sd.Tok} (h:TB t) (most:Int) (q:List Sd.Ask) (f:Int) (nw:Bool):TB (Sd.fI p t most q f nw).1/\N8 (Sd.fI p t most q f nw).2.2.1:=by
 unfold Sd.fI
 repeat' split
 all_goals first|exact⟨h,(An h _).2⟩|exact⟨h,alP _ _ _⟩|exact⟨(An h _).1,show N8 0 from z8⟩|exact⟨h,show 0<=_/\_<=255 by simp⟩
theorem alS {p:Sd.aJ} {t:Sd.Tok} {most:Int} {q:List Sd.Ask} {f:Int} {nw:Bool} (h:(Sd.fI p t most q f nw).2.2.1≠0):(Sd.fI p t most q f nw).2.2.2=q:=by
 unfold Sd.fI at h⊢
 repeat' split
 all_goals first|rfl|skip
 ·rename_i h1 h2 h3 h4 h5;simp only[if_neg h1,if_neg h2,if_neg h3,if_pos h4,if_neg h5,ne_eq,not_true_eq_false]at h
 ·rename_i h1 h2 h3 h4 h5;simp only[if_neg h1,if_neg h2,if_neg h3,if_neg h4,if_neg h5]at h;exact alQ h
theorem tb {c:Sd.Core} (h:Sd.Inv c):TB c.t:=⟨⟨h.tok.aE.1,by have:=h.tok.aE.2;omega⟩,by have:=h.tok.af.1;have:=h.p.af.1;omega,h.tok.af.2⟩
theorem TB.b {t:Sd.Tok} (h:TB t):cv t.af:=⟨by have:=h.e.1;omega,by have:=h.e.2;omega⟩
theorem rX (C:Sd.aN) (s:Sd.aa) (t:Sd.Tok) (h n:Int):(s.goes C t h n).c.p=s.c.p:=by
 show(Sd.aa.dI _ _ _).c.p=_;rw[kJ,kJ]
theorem Rm.goes {C:Sd.aN} {s:Sd.aa} {t:Sd.Tok} {h n:Int} {m:Nat} (hh:Rm s (m+3)):Rm (s.goes C t h n) m:=by
 have h1:Rm ({s with c:={s.c with t:=t,q:=Sd.Q.drop s.c.q t.aE}}:Sd.aa) (m+3):=hh;exact(Rm.dI (Rm.dI h1)).rec
theorem o9 {n:Int} (h:(n !=0)=true):n≠0:=by simpa using h
theorem rY {n:Int} (h:(n !=0)=false):¬n≠0:=by simpa using h
structure Sy (s:Sd.aa) (l:Int) (m:Sd.bo):Prop where
 r:Rm s 8
 i:Sd.Inv s.c
 n:tS m.seq
 l1:1<=l
 l3:l<=3
def iD (act:Sd.aa->Int->Sd.bo->Sd.aa):SM fr:=λar k s F K=>match ar with
 |[.int .i64 l,.agg ml]=>(match CE ml with
  |some m=>Sy s l m/\∀F',K (.ao []) (act s l m) F'
  |none=>False)
 |_=>False
theorem Ao {tk:Nat->Sd.aw->Option Sd.bo} {act:Sd.aa->Int->Sd.bo->Sd.aa} {f n:Nat} {L:List (bK (Gh fr))} (hL:aG prog gS L)
 (h:∀(l:Int) (m:Sd.bo) (k:LK) (s:Sd.aa) (F:a9 fr (aY k s)) (Kb:SK fr k),s.c.p.queue=k.most->Sy s l m->(∀F',Kb (.ao []) (act s l m) F')->bu (bQ prog gS L) n f [.ptr 2 0,.int .i64 l,.agg (cG m)] (bC k s F) [bb k s F] (cH k s Kb)):Body f (iD (fr:=fr) act):=by
 refine mq (n:=n) hL ?_;intro ar k s F Kb h0 hq hM;unfold iD at hM;split at hM
 ·rename_i l ml;split at hM
  ·rename_i m hm;obtain rfl:=JT hm;exact h l m k s F Kb hq hM.1 hM.2
  ·exact hM.elim
 ·exact hM.elim
theorem Kw {s:Sd.aa} {q:List Sd.Ask} (h:q=s.c.q):cN s q=s:=by subst h;rfl
theorem Ru (C:Sd.aN) (s:Sd.aa) (l:Int) (m:Sd.bo) (R:Sd.Tok×Int×Int×List Sd.Ask) (h:R=Sd.fI s.c.p s.c.t s.c.p.queue s.c.q l m.now):
 s.ask C l m=if R.2.2.1≠0 then s.refuse C l m.seq R.2.2.1 else(if 0<R.2.1 then(cN s R.2.2.2).goes C R.1 R.2.1 m.seq else(jm (cN s R.2.2.2) R.1).record C 10 l m.seq 0 0).done l m.seq:=by subst h;rfl
section
variable(tk:Nat->Sd.aw->Option Sd.bo) (ht:Body (fr:=fr) 147 dR)
include tk ht
theorem alT:Body (fr:=fr) 152 (iD λs l m=>s.done l m.seq):=by
 refine Ao (tk:=tk) (n:=60) (Am tk ht) ?_;intro l m k s F Kb hq hS hK;rw[alG];exact⟨cF hq,tU ⟨hS.r.le (by decide),hS.n⟩ λF1=>eH rfl hK F1⟩
theorem alU:Body (fr:=fr) 156 (iD λs l m=>s.accept (aO tk) l m):=by
 refine Ao (tk:=tk) (n:=60) (Am tk ht) ?_;intro l m k s F Kb hq hS hK;have hb:=alM (tb hS.i) l m.af;rw[alH];refine⟨(tb hS.i).b,aH (λe=>⟨cF hq,xX ⟨hS.r.le (by decide),hS.n,hb.2⟩ λF1=>eH (if_pos (o9 e)).symm hK F1⟩) (λe=>⟨cF hq,CR ⟨hS.r.le (by decide),hb.1.h,hb.1.e⟩ λF2=>⟨cF ?_,tU ⟨hS.r.goes.le (by decide),hS.n⟩ λF3=>eH (if_neg (rY e)).symm hK F3 (hp:=rX _ _ _ _ _)⟩⟩)⟩;rw[rX];exact hq
theorem alV:Body (fr:=fr) 157 (iD λs l m=>s.fg (aO tk) l m):=by
 refine Ao (tk:=tk) (n:=60) (Am tk ht) ?_;intro l m k s F Kb hq hS hK;have hb:=alN (tb hS.i) l;have h1:Rm (jm s (s.c.t.fg l).1) 8:=hS.r;rw[alI];refine⟨trivial,aH (λe=>⟨cF hq,xX ⟨hS.r.le (by decide),hS.n,hb.2⟩ λF1=>eH (if_pos (o9 e)).symm hK F1⟩) (λe=>⟨cF hq,Zk ⟨h1.le (by decide),⟨by have:=hS.l1;omega,by have:=hS.l3;omega⟩,z8⟩ λF2=>⟨cF ?_,nj h1.gone.r1 λF3=>⟨cF ?_,tU ⟨(h1.gone.rec).le (by decide),hS.n⟩ λF4=>eH (if_neg (rY e)).symm hK F4 (hp:=?_)⟩⟩⟩)⟩
 ·rw[qF];exact hq
 ·show(Sd.aa.gone _ _ _ _).c.p.queue=_;rw[qF];exact hq
 ·show(Sd.aa.gone _ _ _ _).c.p=_;rw[qF];rfl
theorem alW:Body (fr:=fr) 155 (iD λs l m=>s.offer (aO tk) l m):=by
 refine Ao (tk:=tk) (n:=60) (Am tk ht) ?_;intro l m k s F Kb hq hS hK;have hb:=alO (tb hS.i) s.c.p l m.aV (s.c.ag.on m.aV);have h1:Rm (jm s (Sd.Tok.make s.c.p s.c.t l m.aV (s.c.ag.on m.aV)).1) 8:=hS.r;rw[alJ,Kj];refine⟨trivial,hS.i.p,aH (λe=>⟨cF hq,xX ⟨hS.r.le (by decide),hS.n,hb.2⟩ λF1=>eH (if_pos (o9 e)).symm hK F1⟩) (λe=>⟨cF hq,Kp ⟨h1.le (by decide),rb (by decide) vS ⟨by have:=hS.l1;omega,by have:=hS.l3;omega⟩ hb.1.e z8⟩ λF2=>⟨cF ?_,nj h1.dI.r1 λF3=>⟨cF ?_,tU ⟨(h1.dI.rec).le (by decide),hS.n⟩ λF4=>eH (if_neg (rY e)).symm hK F4 (hp:=?_)⟩⟩⟩)⟩
 ·rw[kJ];exact hq
 ·show(Sd.aa.dI _ _ _).c.p.queue=_;rw[kJ];exact hq
 ·show(Sd.aa.dI _ _ _).c.p=_;rw[kJ];rfl
theorem alX:Body (fr:=fr) 158 (iD λs l m=>s.release (aO tk) l m):=by
 refine Ao (tk:=tk) (n:=60) (Am tk ht) ?_;intro l m k s F Kb hq hS hK;have hb:=Zr (tb hS.i) s.c.q l;have h1:Rm (cN s (Sd.cQ s.c.t s.c.q l).2.2) 8:=hS.r;rw[alK];refine⟨⟨rfl,(tb hS.i).b⟩,λB hB=>aH (λe=>⟨cF hq,xX ⟨h1.le (by decide),hS.n,hb.2⟩ λF1=>eH ?_ hK F1⟩) (λe=>⟨cF hq,CR ⟨h1.le (by decide),hb.1.h,hb.1.e⟩ λF2=>⟨cF ?_,tU ⟨h1.goes.le (by decide),hS.n⟩ λF3=>eH (if_neg (rY e)).symm hK F3 (hp:=rX _ _ _ _ _)⟩⟩)⟩
 ·rw[Kw (Zs (o9 e))];exact(if_pos (o9 e)).symm
 ·rw[rX];exact hq
theorem alY:Body (fr:=fr) 154 (iD λs l m=>s.ask (aO tk) l m):=by
 refine Ao (tk:=tk) (n:=60) (Am tk ht) ?_;intro l m k s F Kb hq hS hK;have hb:=alR (p:=s.c.p) (tb hS.i) k.most s.c.q l m.now;have h1:Rm (cN s (gu s k l m).2.2.2) 8:=hS.r;have h2:Rm (jm (cN s (gu s k l m).2.2.2) (gu s k l m).1) 8:=hS.r;have Rv:gu s k l m=Sd.fI s.c.p s.c.t s.c.p.queue s.c.q l m.now:=by rw[gu,hq]
 rw[alL];refine⟨⟨rfl,(tb hS.i).b,by rw[<-hq];exact hS.i.p.queue.2,?_,hS.i.p.ask⟩,λB hB=>aH (λe=>⟨cF hq,xX ⟨h1.le (by decide),hS.n,hb.2⟩ λF1=>eH ?_ hK F1⟩) (λe=>aH (λe2=>⟨cF hq,CR ⟨h1.le (by decide),hb.1.h,hb.1.e⟩ λF2=>⟨cF ?_,tU ⟨h1.goes.le (by decide),hS.n⟩ λF3=>eH ?_ hK F3 (hp:=rX _ _ _ _ _)⟩⟩)
  (λe2=>⟨cF hq,nj h2.r1 λF2=>⟨cF hq,tU ⟨h2.rec.le (by decide),hS.n⟩ λF3=>eH ?_ hK F3⟩⟩))⟩
 ·intro a ha;by_cases hs:a.source=l
  ·exact .inl hs
  ·refine .inr λhr=>hs ?_;have h:=hS.i.q.each a ha;have h1:=hS.l1;have h3:=hS.l3;exact Sd.Vi hS.i.p ⟨by omega,by omega⟩ ⟨by omega,by omega⟩ (by rw[<-hr,h.1];rfl)
 ·rw[Kw (alS (o9 e)),Ru _ _ _ _ _ Rv];exact(if_pos (o9 e)).symm
 ·rw[rX];exact hq
 ·have e3:0<(gu s k l m).2.1:=by simpa using e2
  rw[Ru _ _ _ _ _ Rv,if_neg (rY e),if_pos e3]
 ·have e3:¬0<(gu s k l m).2.1:=by simpa using e2
  rw[Ru _ _ _ _ _ Rv,if_neg (rY e),if_neg e3]
end
structure QT where
 f:Nat
 m:List V->TC->Option (Prop×V×Sd.az)
def Ap (t:Sd.az) (b m:Int):TC:=⟨t.cO.1,t.cO.2.n,t.cO.2.most,t.aj 0,t.aj 1,t.aj 2,b,m⟩
def CS (x:QT):cP (Gh fr):=λargs bl ch K=>match args with
 |.ptr it 0::ar=>(match bl[it]?with
  |some ⟨true,⟨157,(0,0)⟩,tc⟩=>(match rS tc with
   |some y=>(match x.m ar y with
    |some (p,v,t)=>cond (ba 0 ar&&cz 0 v) (p/\K v (bl.set it ⟨true,⟨157,(0,0)⟩,cT (Ap t y.b y.m)⟩) ch) False
    |none=>False)
   |none=>False)
  |_=>False)
 |_=>False
def QT.Ok (x:QT):Prop:=∀(ar:List V) (y:TC) (p:Prop) (v:V) (t:Sd.az),x.m ar y=some (p,v,t)->p->∀(bt:Nat) (bs:List ai) (ms:List Nat) (w0 w:ae),St ms w0 ([⟨bt,true,.cells (iS (bM y).cO (bM y).aj y.b y.m) 157 (0,0)⟩]++bs) w->
 aQ prog x.f (aA [bt] (.ptr 0 0::ar)).toArray w λu w1=>u=den [] v/\St ms w0 ([⟨bt,true,.cells (iS t.cO t.aj y.b y.m) 157 (0,0)⟩]++bs) w1
theorem Zt {bl:List VB} {ids:List Nat} (h:ids.length=bl.length) {i:Nat} (hi:i<bl.length):
 ∃r:List Nat,(∀j∈r,j≠i)/\∀bl':List VB,bl'.length=bl.length->(lits ids ids bl').Perm (ay ids (ids.getD i 0) (bl'.getD i cX)::r.map λj=>ay ids (ids.getD j 0) (bl'.getD j cX)):=by
 obtain⟨r,h1,h2⟩:=xT h (is:=[i]) (by simp) (by simp[hi]);exact⟨r,λj hj=>by simpa using h1 j hj,λbl' hl=>by simpa using h2 bl' hl⟩
theorem alZ {x:QT} (h:x.Ok) (gl:Nat->Option Nat):Sound prog gl x.f (CS (fr:=fr) x):=by
 intro args ids bl ch R ms w0 w K hg hl S hc;unfold CS at hc;split at hc
 ·rename_i it ar;split at hc
  ·rename_i tc hb;split at hc
   ·rename_i y hy;split at hc
    ·rename_i p v t hm;cases hq:ba 0 ar&&cz 0 v with
     |false=>rw[hq]at hc;exact hc.elim
     |true=>
      rw[hq]at hc;simp only[a_]at hq;obtain⟨hp,hK⟩:=hc;obtain rfl:=xS hy;have hi:=ia hb;obtain⟨r,hr,gD⟩:=Zt hl hi;have a1:aA ids (.ptr it 0::ar)=aA [ids.getD it 0] (.ptr 0 0::ar):=by
       have b1:aA ids ar=aA [] ar:=by have:=mP (ids:=[]) (more:=ids) ar hq.1;simpa using this
       have b2:aA [ids.getD it 0] ar=aA [] ar:=by have:=mP (ids:=[]) (more:=[ids.getD it 0]) ar hq.1;simpa using this
       simp only[aA,den,b1,b2];rfl
      have e1:ay ids (ids.getD it 0) (bl.getD it cX)=⟨ids.getD it 0,true,.cells (iS (bM y).cO (bM y).aj y.b y.m) 157 (0,0)⟩:=by rw[iT hb];kernel_rfl
      have p1:=gD bl rfl;rw[e1]at p1;have S1:=S.perm (p1.append_right _);rw[a1];refine(h ar y p v t hm hp _ _ ms w0 w S1).mono ?_;rintro u w1 ⟨rfl,S2⟩;refine⟨v,[],_,ch,?_,by simp[hl],?_,hK⟩
      ·have:=fy (ids:=[]) (more:=ids++[]) v hq.2;simpa using this.symm
      ·simp only[cI];refine S2.perm ?_;have p2:=gD (bl.set it ⟨true,⟨157,(0,0)⟩,cT (Ap t y.b y.m)⟩) (by simp);have e2:ay ids (ids.getD it 0) ((bl.set it ⟨true,⟨157,(0,0)⟩,cT (Ap t y.b y.m)⟩).getD it cX)=⟨ids.getD it 0,true,.cells (iS t.cO t.aj y.b y.m) 157 (0,0)⟩:=by rw[iT (Af hi)];kernel_rfl
       have e3:(r.map λj=>ay ids (ids.getD j 0) ((bl.set it ⟨true,⟨157,(0,0)⟩,cT (Ap t y.b y.m)⟩).getD j cX))=r.map λj=>ay ids (ids.getD j 0) (bl.getD j cX):=by
        apply pH;intro j hj;simp only[ij];rw[kq (Ne.symm (hr j hj))]
       rw[e2,e3]at p2;exact p2.symm.append_right _
    ·exact hc.elim
   ·exact hc.elim
  ·exact hc.elim
 ·exact hc.elim
theorem Rw {x:QT} (h:x.Ok):tn (G:=Gh fr) prog gS ⟨x.f,false,CS x⟩:=⟨alZ h gS,λe=>by cases e⟩
def Zu:QT:=⟨196,λar y=>match ar with
 |[.int .i64 s]=>some (True,.bool ((bM y).dt s),(bM y).end_ s)
 |_=>none⟩
theorem al0:Zu.Ok:=by
 intro ar y p v t hm hp bt bs ms w0 w S;replace hm:(match(generalizing:=false) ar with
  |[.int .i64 s]=>some (True,V.bool ((bM y).dt s),(bM y).end_ s)
  |_=>none)=some (p,v,t):=hm
 split at hm
 ·simp only[aS,bd]at hm;obtain⟨rfl,rfl,rfl⟩:=hm;exact akZ y _ S
 ·cases hm
def Zv:QT:=⟨79,λar y=>match ar with
 |[]=>some (0<=y.b/\y.b<=1000,.ao [],{bM y with cO:=(true,.start y.b)})
 |_=>none⟩
theorem al1:Zv.Ok:=by
 intro ar y p v t hm hp bt bs ms w0 w S;replace hm:(match(generalizing:=false) ar with
  |[]=>some (0<=y.b/\y.b<=1000,V.ao [],{bM y with cO:=(true,.start y.b)})
  |_=>none)=some (p,v,t):=hm
 split at hm
 ·simp only[aS,bd]at hm;obtain⟨rfl,rfl,rfl⟩:=hm;exact ak1 y hp S
 ·cases hm
def CT (g:Nat):Option Nat:=bif ax g 0 then some 0 else none
def Gk:List V:=[.bool false,.bool false,.bool false,.bool false,.bool false,.bool false,.bool false,.bool false,.bool false,.bool false,.bool true,.bool true]
def Rx (ka:Nat->Option aI) (kn kc:Nat->Nat) (T:aD) (p:Sd.aJ) (t:Sd.Tok) (s r mo:Int) (m:Sd.bo) (K:VK Empty):Prop:=bu (bQ prog CT (qL Empty QV)) 60 128 [.agg [.dS p ka kn kc],.agg (cS t),.int .i64 s,.int .i64 r,.int .i64 mo,.agg (cG m)] [⟨false,⟨T,(0,0)⟩,Gk⟩] [] K
theorem Zw (ka:Nat->Option aI) (kn kc:Nat->Nat) (T:aD) (p:Sd.aJ) (t:Sd.Tok) (s r mo:Int) (m:Sd.bo) (K:VK Empty):
 Rx ka kn kc T p t s r mo {m with kind:=10} (bm 0 K)=cond (s !=t.aE) (K (.int .i64 20) [] []) (cond (m.af !=t.af) (K (.int .i64 21) [] []) (True/\cond (!Sd.may p mo r 0) (K (.int .i64 22) [] []) (True/\cond (!Sd.goes p mo m.mode) (K (.int .i64 23) [] []) (K (.int .i64 0) [] []))))/\
 Rx ka kn kc T p t s r mo {m with kind:=11} (bm 0 K)=cond (s !=t.aE) (K (.int .i64 20) [] []) (cond (m.af !=t.af) (K (.int .i64 21) [] []) (True/\cond (!Sd.may p mo r m.cls) (K (.int .i64 22) [] []) (K (.int .i64 0) [] []))):=⟨by kernel_rfl,by kernel_rfl⟩
theorem Zx (ka:Nat->Option aI) (kn kc:Nat->Nat) {T:aD} (p:Sd.aJ) (t:Sd.Tok) (s r mo:Int) (m:Sd.bo) {v:V} (hv:Rx ka kn kc T p t s r mo m (bm 0 λx _ _=>x=v)) (hw:cz 0 v=true) {w:ae} (hC:w.heap[0]?=some (.cells (ah [] Gk).toArray T (0,0))):
 aQ prog 128 (aA [0] [.agg [.dS p ka kn kc],.agg (cS t),.int .i64 s,.int .i64 r,.int .i64 mo,.agg (cG m)]).toArray w λx w1=>x=den [] v/\Ch [] w w1:=by
 have S:=St.given (w:=w) [(0,.cells (ah [0] Gk).toArray T (0,0))] (by intro p hp;simp only[i_]at hp;subst hp;exact hC);refine(eD (kD (FW CT)).T (kD (FW CT)).Q 60 (C:=bQ prog CT (qL Empty QV)) (ids:=[0]) (bl:=[⟨false,⟨T,(0,0)⟩,Gk⟩]) (ch:=[]) (R:=[]) (λg i h=>?_) rfl S hv).mono ?_
 ·replace h:CT g=some i:=h;unfold CT at h;cases hg:ax g 0 with
  |false=>rw[hg]at h;cases h
  |true=>rw[hg]at h;cases h;exact⟨by simp,(b9 hg).symm⟩
 ·rintro x w' ⟨y,more,bl',ch',rfl,h1,S',hK⟩;obtain⟨v2,cD,bl2,e,dw,S2,rfl⟩:=h_ (n0:=0) h1 (by simp) S' hK;exact⟨e.trans (fy (ids:=[]) _ hw),S'.ch⟩
theorem al2 (p:Sd.aJ) (ka:Nat->Option aI) (kn kc:Nat->Nat) (t:Sd.Tok) (s r mo:Int) (m:Sd.bo) (hk:m.kind=10\/m.kind=11) {T:aD} {w:ae} (hC:w.heap[0]?=some (.cells (ah [] Gk).toArray T (0,0))):
 aQ prog 128 (aA [0] [.agg [.dS p ka kn kc],.agg (cS t),.int .i64 s,.int .i64 r,.int .i64 mo,.agg (cG m)]).toArray w λx w1=>x=den [] (.int .i64 (Sd.lZ p t s r mo m))/\Ch [] w w1:=by
 rcases hk with hk|hk
 ·have e:m={m with kind:=10}:=by cases m;simp only at hk;subst hk;rfl
  rw[e];refine Zx ka kn kc p t s r mo _ ?_ rfl hC;rw[(Zw ka kn kc T p t s r mo m _).1];unfold Sd.lZ;rw[if_neg (by simp)];refine aH (λh=>by rw[if_pos (by simpa using h)]) (λh=>?_);rw[if_neg (by simpa using h)];refine aH (λh=>by rw[if_pos (by simpa using h)]) (λh=>⟨trivial,?_⟩);rw[if_neg (by simpa using h)];refine aH (λh=>by rw[if_pos (by simpa using h)]) (λh=>⟨trivial,?_⟩);rw[if_neg (by simpa using h)];exact aH (λh=>by rw[if_pos (by simpa using h)]) (λh=>by rw[if_neg (by simpa using h)])
 ·have e:m={m with kind:=11}:=by cases m;simp only at hk;subst hk;rfl
  rw[e];refine Zx ka kn kc p t s r mo _ ?_ rfl hC;rw[(Zw ka kn kc T p t s r mo m _).2];unfold Sd.lZ;rw[if_neg (by simp)];refine aH (λh=>by rw[if_pos (by simpa using h)]) (λh=>?_);rw[if_neg (by simpa using h)];refine aH (λh=>by rw[if_pos (by simpa using h)]) (λh=>⟨trivial,?_⟩);rw[if_neg (by simpa using h)];refine aH (λh=>by rw[if_pos (by simpa using h)]) (λh=>?_);rw[if_neg (by simpa using h),if_neg (by simp)]
def Kx:QF:=⟨128,λargs bl=>match args with
 |[.agg [.dS p ka kn kc],.agg tl,.int .i64 s,.int .i64 r,.int .i64 mo,.agg ml]=>(match jW tl,CE ml,bl[1]?with
  |some t,some m,some (VB.mk _ (BT.mk _ (0,0)) bc)=>some ((m.kind=10\/m.kind=11)/\bc=[.bool false,.bool false,.bool false,.bool false,.bool false,.bool false,.bool false,.bool false,.bool false,.bool false,.bool true,.bool true],.int .i64 (Sd.lZ p t s r mo m))
  |_,_,_=>none)
 |_=>none⟩
theorem al3:Kx.Ok prog gS:=by
 intro args bl p_ v_ h hp ids w hg hm;unfold Kx at h;dsimp only at h;split at h
 ·rename_i p ka kn kc tl s r mo ml;split at h
  ·rename_i t m _ _ bc ht pU hb;simp only[aS,bd]at h;obtain⟨rfl,rfl⟩:=h;obtain rfl:=m9 ht;obtain rfl:=JT pU;obtain⟨hk,hc⟩:=hp;have h2:=hm.2 1 _ hb;rw[(hg 0 1 rfl).2,hc]at h2;exact told (al2 p ka kn kc t s r mo m hk h2)
  ·cases h
 ·cases h
def L5 (fr:Sd.aF->Nat×Sd.aw) (C:Sd.aN):List (bK (Gh fr)):=⟨196,false,CS Zu⟩::⟨79,false,CS Zv⟩::qE (Gh fr) Kx::L4 fr C
theorem CU (tk:Nat->Sd.aw->Option Sd.bo) (ht:Body (fr:=fr) 147 dR):aG prog gS (L5 fr (aO tk)):=
 aG.cons (Rw al0) (aG.cons (Rw al1) (aG.cons ⟨I2 al3,λ_=>I1 Kx.F⟩ (Am tk ht)))
end
section
open Go Go.RowKit Go.BigFrame Sx Vx
def Ky (d:Fd) (k:Nat):List V:=[.int .i64 d.sz,.int .i64 d.low,.int .i64 d.high,.fn (bif d.b then 166 else 168) [] [.ptr k 0],.fn (bif d.b then 167 else 169) [] [.ptr k 0]]
def Gm:List Fd->Nat->List V
 |[],_=>[]
 |d::l,k=>Ky d k++Gm l (k+1)
def Aq (i:Nat):List Fd->List VB
 |[]=>[]
 |d::l=>⟨true,bif d.b then 212 else 210,[.ptr i d.at_]⟩::Aq i l
def Kz:Option (List ab)->List V
 |none=>[]
 |some t=>[.rest t]
def o_ (l:List Fd) (u:Option (List ab)) (i b:Nat):List VB:=⟨true,⟨175,(0,0)⟩,Gm l (b+1)++Kz u⟩::Aq i l
def KA (kd:Int) (T11:(Nat->Option (List ab)->Prop)->Prop) (k:List Fd->Nat->Option (List ab)->Prop) (k0:Prop):Prop:=
 cond (kd==1) (k [tL] 1 none) (cond (kd==2) (k [tL] 1 none) (cond (kd==3) (k [iB] 1 none) (cond (kd==4) (k [iB] 1 none) (cond (kd==8) (k [iB] 1 none) (cond (kd==9) (k [iB] 1 none) (cond (kd==5) (k [iB,CJ] 2 none) (cond (kd==6) (k [iB,CH] 2 none) (cond (kd==7) (k [iB,oU] 2 none)
  (cond (kd==10) (k [iB,oU,CI] 3 none) (cond (kd==11) (T11 λc u=>k [iB,oU,tM,fX 0,fX 1,fX 2,fX 3] c u) k0))))))))))
def tV (n c:Nat) (a:List V) (k:Nat->List ab->Prop):Prop:=(n<=c/\bW a=c*5)/\(∀(c':Nat) (u:List ab),n+1<=c'->bW (xN (n+1)++[.rest u])=c'*5->k c' u)/\(∀(c':Nat) (u:List ab),n+1<=c'->bW (xN (n+1)++[.rest u])=c'*5->k c' u)
def vT (n:Nat) (u:List ab):List V:=xN n++[.rest u]
def Zy (k:Nat->Option (List ab)->Prop):Prop:=tV 3 3 (xN 3) λc u=>tV 4 c (vT 4 u) λc u=>tV 5 c (vT 5 u) λc u=>tV 6 c (vT 6 u) λc u=>k c (some u)
def rZ (m:Sd.bo):VB:=⟨true,⟨66,(0,0)⟩,cG m⟩
def al4 (X:VK Empty) (m:Sd.bo) (l:List Fd) (c:Nat) (u:Option (List ab)):Prop:=X (.ao [.sl 1 0 l.length c,.bool true]) (rZ m::o_ l u 0 1) []
theorem al5 (m:Sd.bo) (X:VK Empty):bu (ql prog k9 (qL Empty [])) 60 71 [.ptr 0 0] [rZ m] [] (bm 1 X)=KA m.kind Zy (al4 X m) (X (.ao [.raw (.slice none 0 0),.bool false]) [rZ m] []):=by kernel_rfl
def Zz (k:Nat->Option (List ab)->Prop):Prop:=∀(c:Nat) (u:List ab),7<=c->k c (some u)
def Ry {G:Type}:cP G:=λargs bl ch K=>match args with
 |[.ptr i 0]=>(match bl[i]?with
  |some b=>(match CE b.c with
   |some m=>cond (wZ b.ty 66&&(b.wr&&bI bl.length bl)) (KA m.kind Zz (λl c u=>K (.ao [.sl bl.length 0 l.length c,.bool true]) (bl++o_ l u i bl.length) ch) (K (.ao [.raw (.slice none 0 0),.bool false]) bl ch)) False
   |none=>False)
  |none=>False)
 |_=>False
theorem al6 {kd:Int} {A B:(Nat->Option (List ab)->Prop)->Prop} {k k':List Fd->Nat->Option (List ab)->Prop} {k0 ZA:Prop} (hA:∀q q':Nat->Option (List ab)->Prop,(∀c u,q c u->q' c u)->A q->B q') (hk:∀l c u,k l c u->k' l c u) (h0:k0->ZA) (h:KA kd A k k0):KA kd B k' ZA:=by
 have cm:∀{b:Bool} {X X' Y Y':Prop},(X->X')->(Y->Y')->cond b X Y->cond b X' Y':=by
  intro b X X' Y Y' h1 h2;cases b
  ·exact h2
  ·exact h1
 exact cm (hk _ _ _) (cm (hk _ _ _) (cm (hk _ _ _) (cm (hk _ _ _) (cm (hk _ _ _) (cm (hk _ _ _) (cm (hk _ _ _) (cm (hk _ _ _) (cm (hk _ _ _) (cm (hk _ _ _) (cm (hA _ _ λc u=>hk _ c u) h0)))))))))) h
theorem al7 {q q':Nat->Option (List ab)->Prop} (hq:∀c u,q c u->q' c u) (h:Zz q):Zy q':=by
 refine⟨⟨by decide,rfl⟩,?_⟩;have a4:∀(c':Nat) (u:List ab),3+1<=c'->bW (xN (3+1)++[.rest u])=c'*5->tV 4 c' (vT 4 u) λc u=>tV 5 c (vT 5 u) λc u=>tV 6 c (vT 6 u) λc u=>q' c (some u):=by
  intro c1 u1 h1 s1;have a5:∀(c':Nat) (u:List ab),4+1<=c'->bW (xN (4+1)++[.rest u])=c'*5->tV 5 c' (vT 5 u) λc u=>tV 6 c (vT 6 u) λc u=>q' c (some u):=by
   intro c2 u2 h2 s2;have a6:∀(c':Nat) (u:List ab),5+1<=c'->bW (xN (5+1)++[.rest u])=c'*5->tV 6 c' (vT 6 u) λc u=>q' c (some u):=by
    intro c3 u3 h3 s3;exact⟨⟨h3,s3⟩,λc4 u4 h4 _=>hq _ _ (h c4 u4 h4),λc4 u4 h4 _=>hq _ _ (h c4 u4 h4)⟩
   exact⟨⟨h2,s2⟩,a6,a6⟩
  exact⟨⟨h1,s1⟩,a5,a5⟩
 exact⟨a4,a4⟩
theorem al8 {is js:List Nat} (d:Fd) (k k':Nat) (h:is.getD k 0=js.getD k' 0):ah is (Ky d k)=ah js (Ky d k'):=by
 simp only[Ky,ah,cl,den,aA,h]
theorem ZB {is js:List Nat}:∀(l:List Fd) (k k':Nat),(∀j,is.getD (k+j) 0=js.getD (k'+j) 0)->ah is (Gm l k)=ah js (Gm l k')
 |[],_,_,_=>rfl
 |d::l,k,k',h=>by
  simp only[Gm,iq];rw[al8 d k k' (by simpa using h 0),ZB l (k+1) (k'+1) (λj=>by have:=h (1+j);rwa [<-yF,<-yF]at this)]
theorem ZC {is js:List Nat} {i i':Nat} (h:is.getD i 0=js.getD i' 0):∀(l:List Fd) (more:List Nat),lits is more (Aq i l)=lits js more (Aq i' l)
 |[],more=>by cases more<;>rfl
 |d::l,[]=>rfl
 |d::l,x::more=>by
  simp only[Aq,lits,ay,ah,cl,den,h,ZC h l more]
theorem al9 {is js:List Nat} {i i' b b':Nat} (h:is.getD i 0=js.getD i' 0) (hb:∀j,is.getD (b+j) 0=js.getD (b'+j) 0) (l:List Fd) (u:Option (List ab)) (more:List Nat):lits is more (o_ l u i b)=lits js more (o_ l u i' b'):=by
 cases more with
 |nil=>rfl
 |cons x more=>
  have hu:ah is (Kz u)=ah js (Kz u):=by cases u<;>simp[Kz,ah,cl]
  simp only[o_,lits,ay,iq,hu,ZC h l more];rw[ZB l (b+1) (b'+1) (λj=>by have:=hb (1+j);rwa [<-yF,<-yF]at this)]
theorem ZD (l:List Fd) (u:Option (List ab)) (i b:Nat):(o_ l u i b).length=l.length+1:=by
 have:∀l:List Fd,(Aq i l).length=l.length:=by
  intro l;induction l with
  |nil=>rfl
  |cons d l ih=>simp[Aq,ih]
 simp[o_,this]
def KF (m:Sd.bo) (P:List Fd->Nat->Option (List ab)->Prop) (P0:Prop):VK Empty:=λv bl ch=>ch=[]/\((∃l c u,P l c u/\v=.ao [.sl 1 0 l.length c,.bool true]/\bl=rZ m::o_ l u 0 1)\/(P0/\v=.ao [.raw (.slice none 0 0),.bool false]/\bl=[rZ m]))
theorem al_ {G:Type} [Bl G] (gl:Nat->Option Nat):Sound (G:=G) prog gl 71 Ry:=by
 intro args ids bl ch R ms w0 w K hg hl S hc;unfold Ry at hc;split at hc
 ·rename_i i;split at hc
  ·rename_i b hb;split at hc
   ·rename_i m hm;cases hq:wZ b.ty 66&&(b.wr&&bI bl.length bl)with
    |false=>rw[hq]at hc;exact hc.elim
    |true=>
     rw[hq]at hc;simp only[cond_true]at hc;simp only[a_]at hq;obtain⟨q1,q2,q3⟩:=hq;have q1:=NA q1;obtain⟨wr,ty,bc⟩:=b;simp only at q1 q2 hm;subst q1 q2;obtain rfl:=JT hm;have hi:=ia hb;have hbb:=hb;obtain⟨r,hr,gD⟩:=Zt hl hi;have p1:=gD bl rfl;have S1:=S.perm (p1.append_right _);rw[iT hb]at S1;have em:∀is:List Nat,ah is (cG m)=ah [] (cG m):=λis=>by have:=jO (ids:=[]) (more:=is) (cG m) rfl;simpa using this
     have S2:St ms w0 (lits [ids.getD i 0] [ids.getD i 0] [rZ m]++av ([]:List Empty) ((r.map λj=>ay ids (ids.getD j 0) (bl.getD j cX))++av ch R)) w:=by
      have e:lits [ids.getD i 0] [ids.getD i 0] [rZ m]=[ay ids (ids.getD i 0) ⟨true,⟨66,(0,0)⟩,cG m⟩]:=by
       simp only[lits,ay,rZ,em]
      rw[e];simpa[av]using S1
     have hv:bu (ql prog k9 (qL Empty [])) 60 71 [.ptr 0 0] [rZ m] [] (bm 1 (KF m (λl c u=>K (.ao [.sl bl.length 0 l.length c,.bool true]) (bl++o_ l u i bl.length) ch) (K (.ao [.raw (.slice none 0 0),.bool false]) bl ch))):=by
      rw[al5];exact al6 (λq q' h=>al7 h) (λl c u hP=>⟨rfl,.inl ⟨l,c,u,hP,rfl,rfl⟩⟩) (λhP=>⟨rfl,.inr ⟨hP,rfl,rfl⟩⟩) hc
     have main:=eD (G:=Empty) (aG.nil (P:=prog) (gl:=k9)).TS (aG.nil).QS 60 (C:=ql prog k9 (qL Empty [])) (args:=[.ptr 0 0]) (λg i h=>by cases h) rfl S2 hv;have a1:(aA ids [.ptr i 0]).toArray=(aA [ids.getD i 0] [.ptr 0 0]).toArray:=rfl;rw[a1];refine main.mono ?_;rintro v w' ⟨x,more,bl',ch',rfl,ng,S3,hgc⟩;obtain⟨v',cD,bl2,ev,dw,S4,rfl,hk⟩:=h_ (n0:=1) ng (by simp) S3 hgc;rw[ev];have et:List.take 1 ([ids.getD i 0]++more)=[ids.getD i 0]:=rfl;rw[et]at dw S4⊢;simp only[av]at S4;have back:∀(M:List VB),lits ([ids.getD i 0]++cD) ([ids.getD i 0]++cD) (rZ m::M)=ay ids (ids.getD i 0) ⟨true,⟨66,(0,0)⟩,cG m⟩::lits ([ids.getD i 0]++cD) cD M:=by
      intro M;simp only[DL,lits,ay,rZ,em]
     rcases hk with⟨l,c,u,hP,rfl,rfl⟩|⟨hP,rfl,rfl⟩
     ·have hlen:cD.length=(o_ l u i bl.length).length:=by
       rw[ZD];rw[ly,ZD]at dw;simpa using dw
      have hb:∀j,([ids.getD i 0]++cD).getD (1+j) 0=(ids++cD).getD (bl.length+j) 0:=by
       intro j;rw[<-hl];simp[ij,yB,Nat.add_comm 1 j]
      have h0:([ids.getD i 0]++cD).getD 0 0=(ids++cD).getD i 0:=by
       exact(BG (ids:=ids) (more:=cD) (by rw[gV,hl];exact hi)).symm
      refine⟨_,cD,_,ch,?_,by rw[fi,fi,hl,hlen],?_,hP⟩
      ·have:=hb 0;simp only[nZ]at this;simp only[den,aA,this]
      ·rw[back]at S4;have e2:lits (ids++cD) (ids++cD) (bl++o_ l u i bl.length)=lits ids ids bl++lits ([ids.getD i 0]++cD) cD (o_ l u 0 1):=by
        rw[eZ _ _ _ _ hl,e_ _ _ (by rw[hl];exact q3),al9 (i:=0) (i':=i) (b:=1) (b':=bl.length) h0 hb l u]
       rw[e2];refine S4.perm ?_;have p3:=(p1.symm.append_right (lits ([ids.getD i 0]++cD) cD (o_ l u 0 1))).append_right (av ch R);rw[iT hbb]at p3;refine DO ?_ p3;simp only[fb,bN];refine ui _ ?_;exact qV _ _ _
     ·refine⟨_,[],bl,ch,?_,by simpa using hl,?_,hP⟩
      ·simp[den,aA]
      ·rw[cI];rw[back]at S4;have jL:cD=[]:=by cases cD with
        |nil=>rfl
        |cons=>simp at dw
       subst jL;refine S4.perm ?_;have p3:=p1.symm.append_right (av ch R);rw[iT hb]at p3;exact p3
   ·exact hc.elim
  ·exact hc.elim
 ·exact hc.elim
def CV:List (bK Empty):=⟨71,false,Ry⟩::qL Empty LTk
def jY (n e:Nat) (f:Nat->Int) (t:List ab) (X:V->Prop):Prop:=bu (ql prog k9 CV) 90 143 [.sl 0 0 n (e+n)] [⟨false,⟨5,(0,0)⟩,[.bH .u8 n f,.rest t]⟩] [] λv _ _=>X v
section
variable(e:Nat) (f:Nat->Int) (t:List ab) (X:V->Prop)
theorem ama:jY 0 e f t X=X m_:=by kernel_rfl
theorem amb:jY 1 e f t X=ko 1 f X:=by kernel_rfl
theorem amc:jY 2 e f t X=ko 2 f X:=by kernel_rfl
theorem amd:jY 3 e f t X=ko 3 f X:=by kernel_rfl
theorem ame:jY 4 e f t X=ko 4 f X:=by kernel_rfl
theorem amf:jY 5 e f t X=ko 5 f X:=by kernel_rfl
theorem amg:jY 6 e f t X=ko 6 f X:=by kernel_rfl
theorem amh:jY 7 e f t X=ko 7 f X:=by kernel_rfl
theorem ami:jY 8 e f t X=ko 8 f X:=by kernel_rfl
theorem amj:jY 9 e f t X=ko 9 f X:=by kernel_rfl
theorem amk:jY 10 e f t X=ko 10 f X:=by kernel_rfl
theorem aml:jY 11 e f t X=ko 11 f X:=by kernel_rfl
theorem amm:jY 12 e f t X=ko 12 f X:=by kernel_rfl
theorem amn:jY 13 e f t X=ko 13 f X:=by kernel_rfl
theorem amo:jY 14 e f t X=ko 14 f X:=by kernel_rfl
theorem amp:jY 15 e f t X=ko 15 f X:=by kernel_rfl
theorem amq:jY 16 e f t X=ko 16 f X:=by kernel_rfl
theorem amr (m:Nat):jY (m+17) e f t X=ko (m+17) f X:=by kernel_rfl
end
def Fd.num (d:Fd) (g:Nat->Int):Int:=bif d.sg then xK (gb g)else bif ax d.sz 1 then CD g else bif ax d.sz 2 then gb g else z7 g
def Fd.set (d:Fd) (v:Int) (m:Sd.bo):Sd.bo:=match d.at_ with
 |1=>{m with seq:=v}|2=>{m with role:=v}|3=>{m with aV:=v}|4=>{m with af:=v}|5=>{m with mode:=v}|6=>{m with cls:=v}|7=>{m with now:=v==1}
 |8=>{m with x:=⟨v,m.x.b,m.x.c,m.x.d⟩}|9=>{m with x:=⟨m.x.a,v,m.x.c,m.x.d⟩}|10=>{m with x:=⟨m.x.a,m.x.b,v,m.x.d⟩}|11=>{m with x:=⟨m.x.a,m.x.b,m.x.c,v⟩}|_=>m
def pd (k:Int):Option (List Fd):=
 if k=1\/k=2 then some [tL]else if k=3\/k=4\/k=8\/k=9 then some [iB]else if k=5 then some [iB,CJ]else if k=6 then some [iB,CH]else if k=7 then some [iB,oU]else if k=10 then some [iB,oU,CI]
 else if k=11 then some [iB,oU,tM,fX 0,fX 1,fX 2,fX 3]else none
def runM (n:Nat) (f:Nat->Int):List Fd->Nat->Sd.bo->Option Sd.bo
 |[],off,m=>if n-off=0 then some m else none
 |d::l,off,m=>if n-off<d.sz then none else if d.num (λj=>f (off+j))<d.low\/d.high<d.num (λj=>f (off+j))then none else runM n f l (off+d.sz) (d.set (d.num (λj=>f (off+j))) m)
def aP (n:Nat) (f:Nat->Int):Option Sd.bo:=if n=0 then none else match pd (f 0)with
 |some l=>runM n f l 1 (Sd.l5 (f 0))
 |none=>none
def pg (d:Fd):Prop:=(d.sg=true->d.sz=2)/\∀v m,lE (cG m) d.at_ (bif d.b then .bool (v==1)else .int .i64 v)=cG (d.set v m)
theorem qI {x:Int} (h:-9223372036854775808<=x/\x<=9223372036854775807):i64.wrap x=x:=by simp[sE,pJ,pL];omega
theorem By.at {f:Nat->Int} (h:By f) (o:Nat):By λj=>f (o+j):=λj=>h (o+j)
theorem ZE (d:Fd) {g:Nat->Int} (h:By g):d.val g=d.num g:=by
 have h1:=ai1 h;have h2:=YN h;have h4:=ai2 h
 unfold Fd.val Fd.num;cases d.sg<;>cases ax d.sz 1<;>cases ax d.sz 2<;>simp only[cond_true,cond_false]<;>first|rfl|(apply qI;omega)
theorem ZF {n:Nat} {f:Nat->Int} (hf:By f) {X:V->Prop}:∀(l:List Fd) (off:Nat) (m:Sd.bo),(∀d∈l,pg d)->(∀r,runM n f l off m=some r->X (.ao [.agg (cG r),.int .i64 0]))->(runM n f l off m=none->X m_)->CF n f X l off (cG m)
 |[],off,m,_,h1,h2=>by
  unfold CF;unfold runM at h1 h2;by_cases h:n-off=0
  ·rw[if_pos h]at h1;rw[h];exact h1 m rfl
  ·rw[if_neg h]at h2;have:ax (n-off) 0=false:=by
    cases hb:ax (n-off) 0 with
    |true=>exact absurd (b9 hb) h
    |false=>rfl
   rw[this];exact h2 rfl
 |d::l,off,m,hd,h1,h2=>by
  unfold CF;unfold runM at h1 h2;have hb:=hf.at off;by_cases h:n-off<d.sz
  ·rw[if_pos h]at h2;have:cj (n-off) d.sz=true:=by rw[gV];exact h
   rw[this];exact h2 rfl
  ·rw[if_neg h]at h1 h2;have:cj (n-off) d.sz=false:=by
    cases hb:cj (n-off) d.sz with
    |true=>rw[gV]at hb;exact absurd hb h
    |false=>rfl
   rw[this,ZE d hb];refine⟨hb,aH (λe=>?_) (λe=>aH (λe2=>?_) (λe2=>?_))⟩
   ·have e:=of_decide_eq_true e;rw[if_pos (.inl e)]at h2;exact h2 rfl
   ·have e2:=of_decide_eq_true e2;rw[if_pos (.inr e2)]at h2;exact h2 rfl
   ·have e:=of_decide_eq_false e;have e2:=of_decide_eq_false e2;have hn:¬(d.num (λj=>f (off+j))<d.low\/d.high<d.num (λj=>f (off+j))):=by omega
    rw[if_neg hn]at h1 h2;have:d.up (λj=>f (off+j)) (cG m)=cG (d.set (d.num (λj=>f (off+j))) m):=by
     unfold Fd.up;rw[ZE d hb];exact(hd d (by simp)).2 _ _
    rw[this];exact ZF hf l (off+d.sz) _ (λx hx=>hd x (by simp[hx])) h1 h2
theorem ams {k:Int} {l:List Fd} (h:pd k=some l):∀d∈l,pg d:=by
 have a1:pg tL:=⟨by decide,λv m=>rfl⟩;have a2:pg iB:=⟨by decide,λv m=>rfl⟩;have a3:pg CJ:=⟨by decide,λv m=>rfl⟩;have a4:pg CH:=⟨by decide,λv m=>rfl⟩;have a5:pg oU:=⟨by decide,λv m=>rfl⟩;have a6:pg CI:=⟨by decide,λv m=>rfl⟩;have a7:pg tM:=⟨by decide,λv m=>rfl⟩;have b0:pg (fX 0):=⟨by decide,λv m=>rfl⟩;have b1:pg (fX 1):=⟨by decide,λv m=>rfl⟩;have b2:pg (fX 2):=⟨by decide,λv m=>rfl⟩;have b3:pg (fX 3):=⟨by decide,λv m=>rfl⟩;unfold pd at h
 repeat' split at h
 all_goals first|(cases h;done)|(obtain rfl:=ck h;intro d hd;simp at hd;rcases hd with rfl|rfl|rfl|rfl|rfl|rfl|rfl<;>assumption)|(obtain rfl:=ck h;intro d hd;simp at hd;rcases hd with rfl|rfl|rfl<;>assumption)|(obtain rfl:=ck h;intro d hd;simp at hd;rcases hd with rfl|rfl<;>assumption)|(obtain rfl:=ck h;intro d hd;simp at hd;subst hd;assumption)
theorem amt {n:Nat} {f:Nat->Int} (hf:By f) (hn:n≠0) {X:V->Prop} (h1:∀r,aP n f=some r->X (.ao [.agg (cG r),.int .i64 0])) (h2:aP n f=none->X m_):ko n f X:=by
 have hk:oV f=f 0:=qI (by have:=hf 0;omega);have hm:m0 f=cG (Sd.l5 (f 0)):=by unfold m0;rw[hk];rfl
 unfold ko;rw[hk,hm];unfold aP at h1 h2;rw[if_neg hn]at h1 h2;have T:∀l,pd (f 0)=some l->CF n f X l 1 (cG (Sd.l5 (f 0))):=by
  intro l hl;rw[hl]at h1 h2;exact ZF hf l 1 _ (ams hl) h1 h2
 have eq:∀{k:Int},(f 0==k)=true->f 0=k:=λh=>by simpa using h
 have ne:∀{k:Int},(f 0==k)=false->f 0≠k:=λh=>by simpa using h
 refine aH (λe=>T _ (by rw[eq e];rfl)) (λe1=>aH (λe=>T _ (by rw[eq e];rfl)) (λe2=>aH (λe=>T _ (by rw[eq e];rfl)) (λe3=>aH (λe=>T _ (by rw[eq e];rfl)) (λe4=>aH (λe=>T _ (by rw[eq e];rfl)) (λe5=>aH (λe=>T _ (by rw[eq e];rfl)) (λe6=>
  aH (λe=>T _ (by rw[eq e];rfl)) (λe7=>aH (λe=>T _ (by rw[eq e];rfl)) (λe8=>aH (λe=>T _ (by rw[eq e];rfl)) (λe9=>aH (λe=>T _ (by rw[eq e];rfl)) (λRz=>aH (λe c u hc=>T _ (by rw[eq e];rfl)) (λe11=>?_)))))))))))
 refine h2 ?_;have:=ne e1;have:=ne e2;have:=ne e3;have:=ne e4;have:=ne e5;have:=ne e6;have:=ne e7;have:=ne e8;have:=ne e9;have:=ne Rz;have:=ne e11
 have:pd (f 0)=none:=by unfold pd;repeat' (rw[if_neg (by omega)])
 rw[this]
theorem amu (P Q:Nat->Prop) (Z:Prop) (h0:P 0=Z) (h1:P 1=Q 1) (h2:P 2=Q 2) (h3:P 3=Q 3) (h4:P 4=Q 4) (h5:P 5=Q 5) (h6:P 6=Q 6) (h7:P 7=Q 7) (h8:P 8=Q 8) (h9:P 9=Q 9) (KB:P 10=Q 10) (Gn:P 11=Q 11) (h12:P 12=Q 12) (RA:P 13=Q 13) (Gp:P 14=Q 14) (CW:P 15=Q 15) (RC:P 16=Q 16) (h17:∀m,P (m+17)=Q (m+17)) (n:Nat):(n=0/\P n=Z)\/(n≠0/\P n=Q n):=by
 rcases cE n 17 with h|h
 ·have h:n=0\/n=1\/n=2\/n=3\/n=4\/n=5\/n=6\/n=7\/n=8\/n=9\/n=10\/n=11\/n=12\/n=13\/n=14\/n=15\/n=16:=by omega
  rcases h with rfl|rfl|rfl|rfl|rfl|rfl|rfl|rfl|rfl|rfl|rfl|rfl|rfl|rfl|rfl|rfl|rfl
  ·exact .inl ⟨rfl,h0⟩
  ·exact .inr ⟨by decide,h1⟩
  ·exact .inr ⟨by decide,h2⟩
  ·exact .inr ⟨by decide,h3⟩
  ·exact .inr ⟨by decide,h4⟩
  ·exact .inr ⟨by decide,h5⟩
  ·exact .inr ⟨by decide,h6⟩
  ·exact .inr ⟨by decide,h7⟩
  ·exact .inr ⟨by decide,h8⟩
  ·exact .inr ⟨by decide,h9⟩
  ·exact .inr ⟨by decide,KB⟩
  ·exact .inr ⟨by decide,Gn⟩
  ·exact .inr ⟨by decide,h12⟩
  ·exact .inr ⟨by decide,RA⟩
  ·exact .inr ⟨by decide,Gp⟩
  ·exact .inr ⟨by decide,CW⟩
  ·exact .inr ⟨by decide,RC⟩
 ·obtain⟨m,rfl⟩:∃m,n=m+17:=⟨n-17,by omega⟩;exact .inr ⟨by omega,h17 m⟩
theorem amv (e:Nat) {f:Nat->Int} (hf:By f) (t:List ab) {X:V->Prop} (n:Nat) (h1:∀r,aP n f=some r->X (.ao [.agg (cG r),.int .i64 0])) (h2:aP n f=none->X m_):jY n e f t X:=by
 rcases amu (λn=>jY n e f t X) (λn=>ko n f X) (X m_) (ama e f t X) (amb e f t X) (amc e f t X) (amd e f t X) (ame e f t X) (amf e f t X) (amg e f t X) (amh e f t X) (ami e f t X) (amj e f t X) (amk e f t X) (aml e f t X) (amm e f t X) (amn e f t X) (amo e f t X) (amp e f t X) (amq e f t X) (amr e f t X) n with⟨h0,h⟩|⟨h0,h⟩
 ·exact Eq.mpr h (h2 (by rw[h0];rfl))
 ·exact Eq.mpr h (amt hf h0 h1 h2)
def nk (n:Nat) (f:Nat->Int):V:=match aP n f with
 |some r=>.ao [.agg (cG r),.int .i64 0]
 |none=>m_
theorem KC:aG prog k9 CV:=aG.cons ⟨al_ k9,λe=>by cases e⟩ (kD (bF.cons (ajy k9) (bF.cons (ajz k9) bF.nil)))
theorem amw (b n c:Nat) (f:Nat->Int) (t:List ab) (hf:By f) (hc:n<=c) (w:ae) (hB:w.heap[b]?=some (.cells ((bh n).map (λj=>dT .u8 (f j))++t).toArray 5 (0,0))):
 aQ prog 143 #[.slice (some ⟨b,0,none⟩) n c] w λv w1=>v=den [] (nk n f)/\Ch [] w w1:=by
 obtain⟨e,rfl⟩:∃e,c=e+n:=⟨c-n,by omega⟩;have cJ:jY n e f t (λv=>v=nk n f):=amv e hf t n (λr h=>by unfold nk;rw[h]) (λh=>by unfold nk;rw[h]);have S0:=St.given (w:=w) [(b,.cells ((bh n).map (λj=>dT .u8 (f j))++t).toArray 5 (0,0))] (all_cons hB all_nil);have S1:St [] w (lits [b] [b] [⟨false,⟨5,(0,0)⟩,[.bH .u8 n f,.rest t]⟩]++av ([]:List Empty) []) w:=by
  simpa[lits,ay,ah,cl,av]using S0
 refine(eD KC.TS KC.QS 90 (C:=ql prog k9 CV) (args:=[.sl 0 0 n (e+n)]) (λg i h=>by cases h) rfl S1 cJ).mono ?_;rintro v w' ⟨x,more,bl',ch',rfl,ng,S2,rfl⟩;refine⟨?_,S2.ch⟩;have hw:cz 0 (nk n f)=true:=by unfold nk;split<;>rfl
 have:=fy (ids:=[]) (more:=[b]++more) (nk n f) hw;simpa using this
variable{fr:Sd.aF->Nat×Sd.aw}
def Ar (s:Sd.aa) (E:Sd.az):Sd.aa:={s with c:={s.c with doors:=r3 (s.c.doors 0) (s.c.doors 1) (s.c.doors 2) s.c.doors,ag:=⟨E.cO,r3 (E.aj 0) (E.aj 1) (E.aj 2) s.c.ag.aj⟩}}
def ll (s:Sd.aa) (t:Sd.az):Sd.aa:={s with c:={s.c with ag:=t}}
theorem RD {s:Sd.aa} {E t:Sd.az} (h1:E.cO=t.cO) (h2:∀j,j<3->E.aj j=t.aj j) (h3:∀j,t.aj (j+3)=s.c.ag.aj (j+3)):Ar s E=ll s t:=by
 unfold Ar ll;rw[J_,h1];have e:r3 (E.aj 0) (E.aj 1) (E.aj 2) s.c.ag.aj=t.aj:=by
  funext j
  match j with
  |0=>exact h2 0 (by decide)
  |1=>exact h2 1 (by decide)
  |2=>exact h2 2 (by decide)
  |j+3=>exact(h3 j).symm
 rw[e]
theorem amx (s:Sd.aa) (l:Int):Ar s ((dV s.c.ag).end_ l)=ll s (s.c.ag.end_ l):=by
 have key:∀l:Int,l=1\/l=2\/l=3->(s.c.ag.dt l=true)->Ar s ((dV s.c.ag).dW (l.toNat-1) .zero)=ll s (s.c.ag.dW (l.toNat-1) .zero):=by
  intro l hl iA;refine RD rfl ?_ ?_
  ·intro j hj;have:j=0\/j=1\/j=2:=by omega
   rcases hl with rfl|rfl|rfl<;>rcases this with rfl|rfl|rfl<;>rfl
  ·intro j;rcases hl with rfl|rfl|rfl<;>rfl
 unfold Sd.az.end_;rw[Gd];by_cases h:s.c.ag.dt l=true
 ·rw[if_pos h,if_pos h];refine key l ?_ h;unfold Sd.az.dt at h;simp only[a_,decide_eq_true_eq]at h;omega
 ·rw[if_neg h,if_neg h];refine RD rfl ?_ (λj=>rfl);intro j hj;have:j=0\/j=1\/j=2:=by omega
  rcases this with rfl|rfl|rfl<;>rfl
section
variable(C:Sd.aN) (k:LK) (s:Sd.aa) (F:a9 fr (aY k s)) (Kb:SK fr k)
theorem amy (l:Int) (m:Sd.bo):bu (bQ prog gS (L5 fr C)) 60 153 [.ptr 2 0,.int .i64 l,.agg (cG m)] (bC k s F) [bb k s F] (cH k s Kb)
 =(True/\cy k s F/\Gg C [.int .i64 l] k (Ar s ((dV s.c.ag).end_ l)) F λv s2 F2=>cy k s2 F2/\iU C [.int .i64 4,.int .i64 l,.int .i64 m.seq,.int .i64 0,.int .i64 0] k (bR s2) F2 λv s3 F3=>
  cy k s3 F3/\mr [.int .i64 l,.int .i64 m.seq] k (bR s3) F3 λv s' F'=>cH k s Kb (.ao []) (bC k s' F'++[⟨true,⟨66,(0,0)⟩,cG m⟩]) [bb k s' F']):=by kernel_rfl
abbrev gJ (s:Sd.aa) (l:Int) (m:Sd.bo):Int:=Sd.lZ s.c.p s.c.t l ((dV s.c.ag).role l) s.c.mode m
def RE (s:Sd.aa) (l:Int) (m:Sd.bo):Sd.aa:={s with c:={s.c with mode:=m.mode,fm:=⟨1,l,m.seq⟩}}
def As (s:Sd.aa) (c:Int) (x:Sd.X4) (b:Sd.Label):Sd.aa:={s with c:={s.c with pt:=s.c.pt.set s.c.p c x b}}
theorem amz (l:Int) (m:Sd.bo):bu (bQ prog gS (L5 fr C)) 60 159 [.ptr 2 0,.int .i64 l,.agg (cG m)] (bC k s F) [bb k s F] (cH k s Kb)
 =(True/\((m.kind=10\/m.kind=11)/\(g_ k).c=(g_ k).c)/\cond (gJ s l m !=0)
  (cy k s F/\lj C [.int .i64 l,.int .i64 m.seq,.int .i64 (gJ s l m)] k (bR s) F λv s' F'=>cH k s Kb (.ao []) (bC k s' F'++[⟨true,⟨66,(0,0)⟩,cG m⟩]) [bb k s' F'])
  (cond (m.kind==10)
   (cy k (RE s l m) F/\iU C [.int .i64 6,.int .i64 l,.int .i64 m.seq,.int .i64 0,.int .i64 0] k (bR (RE s l m)) F λv s3 F3=>cy k s3 F3/\mr [.int .i64 l,.int .i64 m.seq] k (bR s3) F3 λv s' F'=>cH k s Kb (.ao []) (bC k s' F'++[⟨true,⟨66,(0,0)⟩,cG m⟩,⟨true,⟨44,(0,0)⟩,mZ ⟨1,l,m.seq⟩⟩]) [bb k s' F'])
   (Sd.eF s.c.p/\cy k (As s m.cls m.x ⟨1,l,m.seq⟩) F/\iU C [.int .i64 6,.int .i64 l,.int .i64 m.seq,.int .i64 0,.int .i64 0] k (bR (As s m.cls m.x ⟨1,l,m.seq⟩)) F λv s3 F3=>cy k s3 F3/\mr [.int .i64 l,.int .i64 m.seq] k (bR s3) F3 λv s' F'=>cH k s Kb (.ao []) (bC k s' F'++[⟨true,⟨66,(0,0)⟩,cG m⟩,⟨true,⟨44,(0,0)⟩,mZ ⟨1,l,m.seq⟩⟩]) [bb k s' F']))):=by kernel_rfl
theorem amA:bu (bQ prog gS (L5 fr C)) 60 81 [.ptr 2 0] (bC k s F) [bb k s F] (cH k s Kb)
 =((vq k=vq k/\cv s.c.t.af)/\∀B (hB:QS k.bq k.most (Sd.cQ s.c.t s.c.q 0).2.2 B),
  cond ((Sd.cQ s.c.t s.c.q 0).2.1!=0) (cy k (cN s (Sd.cQ s.c.t s.c.q 0).2.2) (F.cN (Sd.cQ s.c.t s.c.q 0).2.2 B hB)/\iU C [.int .i64 7,.int .i64 0,.int .i64 s.c.samples,.int .i64 (Sd.cQ s.c.t s.c.q 0).2.1,.int .i64 0] k (bR (cN s (Sd.cQ s.c.t s.c.q 0).2.2)) (F.cN (Sd.cQ s.c.t s.c.q 0).2.2 B hB) λv s' F'=>cH k s Kb (.ao []) (bC k s' F'++[⟨true,⟨95,(0,0)⟩,cS (Sd.cQ s.c.t s.c.q 0).1⟩]) [bb k s' F'])
  (cy k (cN s (Sd.cQ s.c.t s.c.q 0).2.2) (F.cN (Sd.cQ s.c.t s.c.q 0).2.2 B hB)/\qH C [.agg (cS (Sd.cQ s.c.t s.c.q 0).1),.int .i64 2,.int .i64 s.c.samples] k (bR (cN s (Sd.cQ s.c.t s.c.q 0).2.2)) (F.cN (Sd.cQ s.c.t s.c.q 0).2.2 B hB) λv s' F'=>cH k s Kb (.ao []) (bC k s' F'++[⟨true,⟨95,(0,0)⟩,cS (Sd.cQ s.c.t s.c.q 0).1⟩]) [bb k s' F'])):=by kernel_rfl
theorem amB:bu (bQ prog gS (L5 fr C)) 60 83 [.ptr 2 0] (bC k s F) [bb k s F] (cH k s Kb)
 =(cv s.c.t.af/\cond ((s.c.t.c9 0).2!=0) (cy k s F/\iU C [.int .i64 7,.int .i64 0,.int .i64 s.c.samples,.int .i64 (s.c.t.c9 0).2,.int .i64 0] k (bR s) F λv s' F'=>cH k s Kb (.ao []) (bC k s' F'++[⟨true,⟨95,(0,0)⟩,cS (s.c.t.c9 0).1⟩]) [bb k s' F'])
  (cy k s F/\qH C [.agg (cS (s.c.t.c9 0).1),.int .i64 4,.int .i64 s.c.samples] k (bR s) F λv s' F'=>cH k s Kb (.ao []) (bC k s' F'++[⟨true,⟨95,(0,0)⟩,cS (s.c.t.c9 0).1⟩]) [bb k s' F'])):=by kernel_rfl
def CX (s:Sd.aa):Sd.bo:=⟨11,0,0,0,s.c.t.af,0,1,false,⟨0,0,0,0⟩⟩
theorem amC (x:Sd.mO):bu (bQ prog gS (L5 fr C)) 60 82 [.ptr 2 0,.agg (JU x)] (bC k s F) [bb k s F] (cH k s Kb)
 =((((11:Int)=10\/(11:Int)=11)/\(g_ k).c=(g_ k).c)/\cond (Sd.lZ s.c.p s.c.t 0 0 s.c.mode (CX s)!=0)
  (cy k s F/\iU C [.int .i64 7,.int .i64 0,.int .i64 s.c.samples,.int .i64 (Sd.lZ s.c.p s.c.t 0 0 s.c.mode (CX s)),.int .i64 0] k (bR s) F λv s' F'=>cH k s Kb (.ao []) (bC k s' F'++[⟨true,⟨72,(0,0)⟩,JU x⟩,⟨true,⟨66,(0,0)⟩,cG (CX s)⟩]) [bb k s' F'])
  (Sd.eF s.c.p/\cy k (As s 1 x.x ⟨1,0,s.c.samples⟩) F/\iU C [.int .i64 6,.int .i64 0,.int .i64 s.c.samples,.int .i64 0,.int .i64 0] k (bR (As s 1 x.x ⟨1,0,s.c.samples⟩)) F λv s' F'=>cH k s Kb (.ao []) (bC k s' F'++[⟨true,⟨72,(0,0)⟩,JU x⟩,⟨true,⟨66,(0,0)⟩,cG (CX s)⟩,⟨true,⟨44,(0,0)⟩,mZ ⟨1,0,s.c.samples⟩⟩]) [bb k s' F'])):=by kernel_rfl
end
theorem RF (C:Sd.aN) (s:Sd.aa) (l:Int):s.leave C l=if(s.c.t.drop l).2=false then qd s l else((jm (qd s l) (s.c.t.drop l).1).gone (s.c.t.drop l).1.aE l 16).record C 12 l 0 16 0:=rfl
theorem RG (C:Sd.aN) (s:Sd.aa) (l:Int):(s.leave C l).c.p=s.c.p:=by
 rw[RF];split
 ·rfl
 ·show(Sd.aa.gone _ _ _ _).c.p=_;rw[qF];rfl
theorem Rm.leave {C:Sd.aN} {s:Sd.aa} {l:Int} {m:Nat} (h:Rm s (m+2)):Rm (s.leave C l) m:=by
 rw[RF];have h1:Rm (qd s l) (m+2):=h;split
 ·exact h1.le (by omega)
 ·have h2:Rm (jm (qd s l) (s.c.t.drop l).1) (m+2):=h;exact(h2.gone).rec
theorem amD (p:Sd.aJ) (t:Sd.Tok) (a r mo:Int) (m:Sd.bo):N8 (Sd.lZ p t a r mo m):=by have:=Sd.P2 p t a r mo m;exact⟨by omega,by omega⟩
def Gq (C:Sd.aN):SM fr:=λar k s F K=>match ar with
 |[.int .i64 l,.agg ml]=>(match CE ml with
  |some m=>(Sy s l m/\(m.kind=10\/m.kind=11))/\∀F',K (.ao []) (s.command C l m) F'
  |none=>False)
 |_=>False
def ZG (C:Sd.aN) (s:Sd.aa):Sd.aa:=if(Sd.cQ s.c.t s.c.q 0).2.1≠0 then s.record C 7 0 s.c.samples (Sd.cQ s.c.t s.c.q 0).2.1 0 else(cN s (Sd.cQ s.c.t s.c.q 0).2.2).goes C (Sd.cQ s.c.t s.c.q 0).1 2 s.c.samples
def ZH (C:Sd.aN) (s:Sd.aa):Sd.aa:=if(s.c.t.c9 0).2≠0 then s.record C 7 0 s.c.samples (s.c.t.c9 0).2 0 else s.goes C (s.c.t.c9 0).1 4 s.c.samples
def ZI (C:Sd.aN) (s:Sd.aa) (x:Sd.X4):Sd.aa:=if Sd.lZ s.c.p s.c.t 0 0 s.c.mode (CX s)≠0 then s.record C 7 0 s.c.samples (Sd.lZ s.c.p s.c.t 0 0 s.c.mode (CX s)) 0 else(As s 1 x ⟨1,0,s.c.samples⟩).record C 6 0 s.c.samples 0 0
structure ZJ (s:Sd.aa):Prop where
 r:Rm s 8
 p:Sd.eF s.c.p
 t:TB s.c.t
def CY (act:Sd.aa->Sd.aa):SM fr:=λar k s F K=>match ar with
 |[]=>ZJ s/\∀F',K (.ao []) (act s) F'
 |_=>False
def RH (act:Sd.aa->Sd.mO->Sd.aa):SM fr:=λar k s F K=>match ar with
 |[.agg xl]=>(match JV xl with
  |some x=>ZJ s/\∀F',K (.ao []) (act s x) F'
  |none=>False)
 |_=>False
section
variable(tk:Nat->Sd.aw->Option Sd.bo) (ht:Body (fr:=fr) 147 dR)
include tk ht
theorem amE:Body (fr:=fr) 153 (iD λs l m=>s.zf (aO tk) l m):=by
 refine Ao (tk:=tk) (n:=60) (CU tk ht) ?_;intro l m k s F Kb hq hS hK;have h1:Rm (ll s (s.c.ag.end_ l)) 8:=hS.r;rw[amy];refine⟨trivial,cF hq,Kc (M:=λs F=>Gg (aO tk) [.int .i64 l] k s F _) (amx s l) F ⟨⟨h1.le (by decide),by have:=hS.l1;omega,by have:=hS.l3;omega⟩,λF2=>⟨cF ?_,nj (h1.leave).r1 λF3=>⟨cF ?_,tU ⟨((h1.leave).rec).le (by decide),hS.n⟩ λF4=>eH rfl hK F4 (hp:=?_)⟩⟩⟩⟩
 ·rw[RG];exact hq
 ·show(Sd.aa.leave _ _ _).c.p.queue=_;rw[RG];exact hq
 ·show(Sd.aa.leave _ _ _).c.p=_;rw[RG]
theorem amF:Body (fr:=fr) 159 (Gq (aO tk)):=by
 refine mq (n:=60) (CU tk ht) ?_;intro ar k s F Kb h0 hq hM;unfold Gq at hM;split at hM
 ·rename_i l ml;split at hM
  ·rename_i m hm;obtain rfl:=JT hm;have hS:=hM.1.1;have hk:=hM.1.2;have hK:=hM.2;have hj:gJ s l m=Sd.lZ s.c.p s.c.t l (s.c.ag.role l) s.c.mode m:=by rw[gJ,Zh]
   have hb:=amD s.c.p s.c.t l (s.c.ag.role l) s.c.mode m;have h1:Rm (RE s l m) 8:=hS.r;have h2:Rm (As s m.cls m.x ⟨1,l,m.seq⟩) 8:=hS.r;rw[amz,hj];refine⟨trivial,⟨hk,rfl⟩,aH (λe=>⟨cF hq,xX ⟨hS.r.le (by decide),hS.n,hb⟩ λF1=>eH (if_pos (o9 e)).symm hK F1⟩) (λe=>aH (λe2=>?_) (λe2=>?_))⟩
   ·refine⟨cF hq,nj h1.r1 λF2=>⟨cF hq,tU ⟨h1.rec.le (by decide),hS.n⟩ λF3=>eH ?_ hK F3⟩⟩;have e3:m.kind=10:=by simpa using e2
    refine Eq.trans ?_ (if_neg (rY e)).symm;rw[if_pos e3];rfl
   ·refine⟨hS.i.p,cF hq,nj h2.r1 λF2=>⟨cF hq,tU ⟨h2.rec.le (by decide),hS.n⟩ λF3=>eH ?_ hK F3⟩⟩;have e3:¬m.kind=10:=by simpa using e2
    refine Eq.trans ?_ (if_neg (rY e)).symm;rw[if_neg e3];rfl
  ·exact hM.elim
 ·exact hM.elim
theorem amG:Body (fr:=fr) 81 (CY (ZG (aO tk))):=by
 refine mq (n:=60) (CU tk ht) ?_;intro ar k s F Kb h0 hq hM;unfold CY at hM;split at hM
 ·have hS:=hM.1;have hK:=hM.2;have hb:=Zr hS.t s.c.q 0;have h1:Rm (cN s (Sd.cQ s.c.t s.c.q 0).2.2) 8:=hS.r;rw[amA];refine⟨⟨rfl,hS.t.b⟩,λB hB=>aH (λe=>⟨cF hq,nj h1.r1 λF1=>eH ?_ hK F1⟩) (λe=>⟨cF hq,CR ⟨h1.le (by decide),hb.1.h,hb.1.e⟩ λF2=>eH (if_neg (rY e)).symm hK F2 (hp:=rX _ _ _ _ _)⟩)⟩;rw[Kw (Zs (o9 e))];exact(if_pos (o9 e)).symm
 ·exact hM.elim
theorem amH:Body (fr:=fr) 83 (CY (ZH (aO tk))):=by
 refine mq (n:=60) (CU tk ht) ?_;intro ar k s F Kb h0 hq hM;unfold CY at hM;split at hM
 ·have hS:=hM.1;have hK:=hM.2;have hb:=An hS.t 0;rw[amB];exact⟨hS.t.b,aH (λe=>⟨cF hq,nj hS.r.r1 λF1=>eH (if_pos (o9 e)).symm hK F1⟩) (λe=>⟨cF hq,CR ⟨hS.r.le (by decide),hb.1.h,hb.1.e⟩ λF2=>eH (if_neg (rY e)).symm hK F2 (hp:=rX _ _ _ _ _)⟩)⟩
 ·exact hM.elim
theorem amI:Body (fr:=fr) 82 (RH λs x=>ZI (aO tk) s x.x):=by
 refine mq (n:=60) (CU tk ht) ?_;intro ar k s F Kb h0 hq hM;unfold RH at hM;split at hM
 ·rename_i xl;split at hM
  ·rename_i x hx;obtain rfl:=YS hx;have hS:=hM.1;have hK:=hM.2;have h2:Rm (As s 1 x.x ⟨1,0,s.c.samples⟩) 8:=hS.r;rw[amC];exact⟨⟨.inr rfl,rfl⟩,aH (λe=>⟨cF hq,nj hS.r.r1 λF1=>eH (if_pos (o9 e)).symm hK F1⟩) (λe=>⟨hS.p,cF hq,nj h2.r1 λF2=>eH (if_neg (rY e)).symm hK F2⟩)⟩
  ·exact hM.elim
 ·exact hM.elim
end
def L6 (fr:Sd.aF->Nat×Sd.aw) (C:Sd.aN):List (bK (Gh fr)):=⟨81,false,gT (CY (ZG C))⟩::⟨83,false,gT (CY (ZH C))⟩::⟨82,false,gT (RH λs x=>ZI C s x.x)⟩::L5 fr C
theorem amJ (tk:Nat->Sd.aw->Option Sd.bo) (ht:Body (fr:=fr) 147 dR):aG prog gS (L6 fr (aO tk)):=
 aG.cons (iC (amG tk ht)) (aG.cons (iC (amH tk ht)) (aG.cons (iC (amI tk ht)) (CU tk ht)))
section
variable(C:Sd.aN) (k:LK) (s:Sd.aa) (F:a9 fr (aY k s)) (Kb:SK fr k)
end
section
variable{k:LK} {s:Sd.aa} {K:SK fr k}
end
section
variable(tk:Nat->Sd.aw->Option Sd.bo) (ht:Body (fr:=fr) 147 dR)
end
def RI:QG:=⟨141,2,λargs most q=>match args with
 |[.agg [.dS p ka kn kc],.agg tl,.bool th]=>(match jW tl with|some t=>some (cv t.af/\(cv t.la.n/\cv t.la.most)/\(1<=p.i 43/\p.i 43<=1000),.ao [.agg (cS (Sd.fR p t q th).1),.int .i64 (Sd.fR p t q th).2.1],(Sd.fR p t q th).2.2)|none=>none)
 |_=>none⟩
theorem amK:RI.Ok:=by
 intro args k q p v q' hv hm hp B hB bs ms w0 w S
 match args,hv,hm with
 |a::b::c::l,hv,hm=>
  have ha:c=.raw (vq k):=by simpa[RI]using hv
  subst ha;replace hm:(match(generalizing:=false) a::b::l with
   |[.agg [.dS p ka kn kc],.agg tl,.bool th]=>(match jW tl with|some t=>some (cv t.af/\(cv t.la.n/\cv t.la.most)/\(1<=p.i 43/\p.i 43<=1000),V.ao [.agg (cS (Sd.fR p t q th).1),.int .i64 (Sd.fR p t q th).2.1],(Sd.fR p t q th).2.2)|none=>none)
   |_=>none)=some (p,v,q'):=hm
  split at hm
  ·rename_i p' ka kn kc tl th heq;obtain⟨rfl,h2⟩:=uq heq;obtain⟨rfl,rfl⟩:=uq h2;split at hm
   ·rename_i t ht;obtain rfl:=m9 ht;simp only[aS,bd]at hm;obtain⟨rfl,rfl,rfl⟩:=hm;exact alC hB p' ka kn kc th hp.1 hp.2.1 hp.2.2 S
   ·cases hm
  ·cases hm
def KD:QF:=⟨32,λargs _=>match args with
 |[]=>some (True,.agg (mZ Sd.sW))
 |_=>none⟩
theorem ZK (gl:Nat->Option Nat):KD.Ok prog gl:=by
 intro args bl p_ v_ h hp ids w _ _;unfold KD at h;dsimp only at h;split at h
 ·simp only[aS,bd]at h;obtain⟨rfl,rfl⟩:=h;exact told (ajL w)
 ·cases h
def L7 (fr:Sd.aF->Nat×Sd.aw) (C:Sd.aN):List (bK (Gh fr)):=⟨141,false,Al RI⟩::qE (Gh fr) KD::L6 fr C
theorem ZL (tk:Nat->Sd.aw->Option Sd.bo) (ht:Body (fr:=fr) 147 dR):aG prog gS (L7 fr (aO tk)):=
 aG.cons (Kk amK) (aG.cons (Km ZK) (amJ tk ht))
abbrev gE (s:Sd.aa):Sd.Tok×Int×List Sd.Ask:=Sd.fR s.c.p s.c.t s.c.q ((dV s.c.ag).on s.c.t.aE)
theorem amL (C:Sd.aN) (k:LK) (s:Sd.aa) (F:a9 fr (aY k s)) (Kb:SK fr k):bu (bQ prog gS (L7 fr C)) 60 94 [.ptr 2 0] (bC k s F) [bb k s F] (cH k s Kb)
 =(True/\(vq k=vq k/\(cv s.c.t.af/\(cv s.c.t.la.n/\cv s.c.t.la.most)/\(1<=s.c.p.i 43/\s.c.p.i 43<=1000)))/\∀B (hB:QS k.bq k.most (gE s).2.2 B),
  cond (decide ((gE s).2.1<=0)) (cH k s Kb (.ao []) (bC k (jm (cN s (gE s).2.2) (gE s).1) (F.cN (gE s).2.2 B hB)++[⟨true,⟨95,(0,0)⟩,cS (gE s).1⟩]) [bb k (jm (cN s (gE s).2.2) (gE s).1) (F.cN (gE s).2.2 B hB)])
  (cy k (cN s (gE s).2.2) (F.cN (gE s).2.2 B hB)/\qH C [.agg (cS (gE s).1),.int .i64 (gE s).2.1,.int .i64 0] k (bR (cN s (gE s).2.2)) (F.cN (gE s).2.2 B hB) λv s2 F2=>
   cond ((gE s).2.1==5) (cy k s2 F2/\xW [.int .i64 s2.c.p.lost,.agg (mZ ⟨3,4,0⟩)] k (bR s2) F2 λv s' F'=>cH k s Kb (.ao []) (bC k s' F'++[⟨true,⟨95,(0,0)⟩,cS (gE s).1⟩]) [bb k s' F'])
   (True/\cy k s2 F2/\xW [.int .i64 s2.c.p.safe,.agg (mZ Sd.sW)] k (bR s2) F2 λv s' F'=>cH k s Kb (.ao []) (bC k s' F'++[⟨true,⟨95,(0,0)⟩,cS (gE s).1⟩]) [bb k s' F']))):=by kernel_rfl
theorem amM {p:Sd.aJ} {t:Sd.Tok} (h:TB t) (q:List Sd.Ask) (b:Bool):TB (Sd.fR p t q b).1:=by
 have h1:∀la,TB ({t with la:=la}:Sd.Tok):=λla=>⟨h.h,h.e⟩;unfold Sd.fR;split
 ·exact h1 _
 ·dsimp only;generalize (if t.la.most=0 then Sd.Timer.start p.dP else t.la).step=la;split
  ·exact h1 _
  ·split
   ·rename_i hs;refine⟨by simp[Sd.Tok.jv,Sd.Tok.pass,N4],?_⟩;have e1:=h.e.1;have e2:=h.e.2;simp only[Sd.Tok.jv,Sd.Tok.pass,vR,Sd.sat];split
    ·split<;>omega
    ·omega
   ·split
    ·exact(An (h1 _) 4).1
    ·exact(Zq (h1 _) q).1
theorem amN {p:Sd.aJ} {t:Sd.Tok} {q:List Sd.Ask} {b:Bool} (h:(Sd.fR p t q b).2.1<=0):(Sd.fR p t q b).2.2=q:=by
 unfold Sd.fR at h⊢;split
 ·rfl
 ·rename_i h0;rw[if_neg h0]at h;dsimp only at h⊢;revert h;generalize (if t.la.most=0 then Sd.Timer.start p.dP else t.la).step=la;intro h;split
  ·rfl
  ·rename_i h1;rw[if_neg h1]at h;split
   ·rfl
   ·rename_i h2;rw[if_neg h2]at h;split
    ·rename_i h3;rw[if_pos h3]at h;simp at h
    ·rename_i h3;rw[if_neg h3]at h;simp at h
structure StL (s:Sd.aa):Prop where
 r:Rm s 8
 p:Sd.eF s.c.p
 t:TB s.c.t
 l1:cv s.c.t.la.n
 l2:cv s.c.t.la.most
def RJ (C:Sd.aN):SM fr:=λar k s F K=>match ar with
 |[]=>StL s/\∀F',K (.ao []) (s.dP C) F'
 |_=>False
theorem RK (C:Sd.aN) (s:Sd.aa) (R:Sd.Tok×Int×List Sd.Ask) (h:R=Sd.fR s.c.p s.c.t s.c.q (s.c.ag.on s.c.t.aE)):s.dP C=if R.2.1<=0 then jm s R.1 else if R.2.1=5 then((cN s R.2.2).goes C R.1 R.2.1 0).d_ ((cN s R.2.2).goes C R.1 R.2.1 0).c.p.lost ⟨3,4,0⟩else((cN s R.2.2).goes C R.1 R.2.1 0).d_ ((cN s R.2.2).goes C R.1 R.2.1 0).c.p.safe Sd.sW:=by subst h;rfl
theorem ZM (C:Sd.aN) (s:Sd.aa) (t:Sd.Tok) (h n m:Int) (b:Sd.Label):((s.goes C t h n).d_ m b).c.p=s.c.p:=rX C s t h n
theorem amO (tk:Nat->Sd.aw->Option Sd.bo) (ht:Body (fr:=fr) 147 dR):Body (fr:=fr) 94 (RJ (aO tk)):=by
 refine mq (n:=60) (ZL tk ht) ?_;intro ar k s F Kb h0 hq hM;unfold RJ at hM;split at hM
 ·have hS:=hM.1;have hK:=hM.2;have hr:gE s=Sd.fR s.c.p s.c.t s.c.q (s.c.ag.on s.c.t.aE):=by rw[gE,Kj]
  have hb:=amM (p:=s.c.p) hS.t s.c.q ((dV s.c.ag).on s.c.t.aE);have h1:Rm (cN s (gE s).2.2) 8:=hS.r;rw[amL];refine⟨trivial,⟨rfl,hS.t.b,⟨hS.l1,hS.l2⟩,hS.p.dP⟩,λB hB=>aH (λe=>?_) (λe=>⟨cF hq,CR ⟨h1.le (by decide),hb.h,hb.e⟩ λF2=>aH (λe2=>⟨cF ?_,Zl λF3=>eH ?_ hK F3 (hp:=ZM _ _ _ _ _ _ _)⟩) (λe2=>⟨trivial,cF ?_,Zl λF3=>eH ?_ hK F3 (hp:=ZM _ _ _ _ _ _ _)⟩)⟩)⟩
  ·have e1:(gE s).2.1<=0:=by simpa using e
   refine eH (s':=jm (cN s (gE s).2.2) (gE s).1) ?_ hK (F.cN (gE s).2.2 B hB);rw[RK _ _ _ hr,if_pos e1,Kw (amN e1)]
  ·rw[rX];exact hq
  ·have e1:¬(gE s).2.1<=0:=by simpa using e
   have e3:(gE s).2.1=5:=by simpa using e2
   rw[RK _ _ _ hr,if_neg e1,if_pos e3]
  ·rw[rX];exact hq
  ·have e1:¬(gE s).2.1<=0:=by simpa using e
   have e3:¬(gE s).2.1=5:=by simpa using e2
   rw[RK _ _ _ hr,if_neg e1,if_neg e3]
 ·exact hM.elim
def Gs:List Sd.Ask->List V
 |[]=>[]
 |a::l=>.int .i64 a.source::.int .i64 a.bD::.int .i64 a.fZ.n::.int .i64 a.fZ.most::Gs l
def At (l:List Sd.Ask) (t:List ab):VB:=⟨true,⟨112,(0,0)⟩,Gs l++[.rest t]⟩
theorem ZN (ids:List Nat):∀l:List Sd.Ask,ah ids (Gs l)=tO l
 |[]=>rfl
 |a::l=>by
  have h:=ZN ids l;simp only[Gs,ah,cl,den,h];rfl
def RL:cP (Gh fr):=λargs bl ch K=>match args,ch with
 |[.raw vp],g::rest=>cond (bI bl.length bl) (vp=vq g.d.k/\(g.d.q=[]->∀x c,K (.raw (.slice x 0 c)) bl (g::rest))/\(∀a,g.d.q=[a]->∀c t,K (.sl bl.length 0 1 c) (bl++[At [a] t]) (g::rest))/\
  (∀a b,g.d.q=[a,b]->∀c t,K (.sl bl.length 0 2 c) (bl++[At [a,b] t]) (g::rest))/\(∀a b d,g.d.q=[a,b,d]->∀c t,K (.sl bl.length 0 3 c) (bl++[At [a,b,d] t]) (g::rest))) False
 |_,_=>False
theorem amP {bq:Nat} {most:Int} {L:List Sd.Ask} {B:List ai} (h:QS bq most L B):L.length<=3:=by
 obtain⟨es,_,_,_,_,_,_,hH,rfl⟩:=h
 match es,hH with
 |[],_=>simp[cu]
 |[e0],_=>simp[cu]
 |[e0,e1],_=>simp only[cu];repeat' split
             all_goals simp
 |[e0,e1,e2],_=>simp only[cu];repeat' split
                all_goals simp
 |_::_::_::_::_,hH=>exact absurd hH (by simp[fJ])
theorem amQ (gl:Nat->Option Nat):Sound prog gl 39 (RL (fr:=fr)):=by
 intro args ids bl ch R ms w0 w K hg hl S hc;unfold RL at hc;split at hc
 ·rename_i vp g rest;cases hq:bI bl.length bl with
  |false=>rw[hq]at hc;exact hc.elim
  |true=>
   rw[hq]at hc;rw[<-hl]at hq;obtain⟨rfl,k0,k1,k2,k3⟩:=hc;have e0:av (g::rest) R=g.F.B++av rest R:=rfl;have S':=S;rw[e0,rV]at S;have hL:=akv g.F.hq (S.perm (Ge _ _ _ _ _ _ _));have ea:(aA ids [.raw (vq g.d.k)]).toArray=#[.pointer (some ⟨g.d.k.bq,0,none⟩)]:=rfl;rw[ea];refine hL.mono ?_;rintro v w1 ⟨x,c1,rows,rfl,hr,S1⟩;have amR:=(S1.sub (n8 rows _)).perm (Ge _ _ _ _ _ _ _).symm;have vU:∀(n:Nat),g.d.q.length=n+1->∃(b:Nat) (t:List ab),x=some ⟨b,0,none⟩/\((∀c t,K (.sl bl.length 0 (n+1) c) (bl++[At g.d.q t]) (g::rest))->
    ∃(x':V) (more:List Nat) (bl':List VB) (ch':List (Gh fr)),DP x g.d.q.length c1=den (ids++more) x'/\(ids++more).length=bl'.length/\St ms w0 (lits (ids++more) (ids++more) bl'++av ch' R) w1/\K x' bl' ch'):=by
    intro n hn;rcases hr.2.2 with⟨_,h0,_⟩|⟨b,t,hx,amS,_⟩
    ·omega
    ·refine⟨b,t,hx,λh=>?_⟩;refine⟨.sl bl.length 0 (n+1) c1,[b],bl++[At g.d.q t],g::rest,?_,by simp[hl],?_,h c1 t⟩
     ·rw[hx,hn,<-hl];simp only[den,j7]
     ·have e1:lits (ids++[b]) (ids++[b]) (bl++[At g.d.q t])=lits ids ids bl++rows:=by
       rw[eZ _ _ _ _ hl,e_ _ _ hq];have ed:(ah (ids++[b]) (Gs g.d.q++[.rest t])).toArray=(tO g.d.q++t).toArray:=by
        rw[iq,ZN];simp[ah,cl]
       simp only[lits,ay,At,ed];rw[amS]
      rw[e1,e0,rV,bN];refine S1.perm ?_;refine(pI rows (Ge (lits ids ids bl) _ _ _ _ _ _).symm).trans ?_;exact qV _ _ _
   have hlen:=amP g.F.hq;revert k0 k1 k2 k3 vU hlen
   match g.d.q with
   |[]=>
    intro k0 k1 k2 k3 vU hlen;refine⟨.raw (.slice x 0 c1),[],bl,g::rest,?_,by simpa using hl,?_,k0 rfl x c1⟩
    ·simp[den]
    ·simp only[cI];rw[e0,rV];exact amR
   |[a]=>intro k0 k1 k2 k3 vU hlen;obtain⟨b,t,_,h⟩:=vU 0 rfl;exact h (k1 a rfl)
   |[a,b']=>intro k0 k1 k2 k3 vU hlen;obtain⟨b,t,_,h⟩:=vU 1 rfl;exact h (k2 a b' rfl)
   |[a,b',d]=>intro k0 k1 k2 k3 vU hlen;obtain⟨b,t,_,h⟩:=vU 2 rfl;exact h (k3 a b' d rfl)
   |a::b'::d::e::l=>intro k0 k1 k2 k3 vU hlen;simp at hlen
 ·exact hc.elim
def L8 (fr:Sd.aF->Nat×Sd.aw) (C:Sd.aN):List (bK (Gh fr)):=⟨94,false,gT (RJ C)⟩::⟨39,false,RL⟩::L7 fr C
theorem Gt (tk:Nat->Sd.aw->Option Sd.bo) (ht:Body (fr:=fr) 147 dR):aG prog gS (L8 fr (aO tk)):=
 aG.cons (iC (amO tk ht)) (aG.cons ⟨amQ gS,λe=>by cases e⟩ (ZL tk ht))
section
variable(C:Sd.aN) (k:LK) (s0:Sd.aa) (Kb:SK fr k)
end
def dw (C:Sd.aN) (s:Sd.aa):Sd.aa:=if s.c.t.aE≠4 then s.goes C s.c.t.jv 6 0 else jm s s.c.t.jv
theorem amT {w:ae} {n c b:Nat} {f:Nat->Int} {T:aD} (h:w.heap[b]?=some (.cells (bw n f c) T (0,0))):bV w b 0 n f:=by
 intro j hj;rw[cell_of h];simp only[bw,eh];rw[iX,gI (by rw[fY];exact hj)];simp[bP,hj]
theorem KE {w:ae} {n c:Nat} {f:Nat->Int} {x:Option aI} {b:List ai} (h:eA 5 n f x c b) (aK:∀y∈b,w.heap[y.id]?=some y.obj) (h0:0<n) (hn:n<=1000000):dD w x n c f:=by
 obtain⟨b',h1,rfl,rfl⟩:=Eh h h0;exact dD.M_ (amT (aK _ (i_.2 rfl))) hn h1
theorem ZO {ms:List Nat} {w0 w:ae} {A R:List ai} {d:FD} (F:a9 fr d) (S:St ms w0 (A++(F.B++R)) w) (i:Nat) (hi:i<4) (h0:0<d.k.kn i) (hn:d.k.kn i<=1000000):dD w (d.k.ka i) (d.k.kn i) (d.k.kc i) (d.k.kf i):=by
 obtain⟨b0,b1,b2,b3,b4,hB,k0,k1,k2,k3,k4⟩:=F.hk;have aK:∀y∈F.Bk,w.heap[y.id]?=some y.obj:=λy hy=>S.at' (by rw[rV];simp[hy]);rw[hB]at aK;have:i=0\/i=1\/i=2\/i=3:=by omega
 rcases this with rfl|rfl|rfl|rfl
 ·exact KE k0 (λy hy=>aK y (by simp[hy])) h0 hn
 ·exact KE k1 (λy hy=>aK y (by simp[hy])) h0 hn
 ·exact KE k2 (λy hy=>aK y (by simp[hy])) h0 hn
 ·exact KE k3 (λy hy=>aK y (by simp[hy])) h0 hn
theorem ZP {ids:List Nat} {bl:List VB} {k:LK} {A:List ai} {ms:List Nat} {w0 w:ae} (hg:Gl gS ids) (hl:ids.length=bl.length) (S:St ms w0 (lits ids ids bl++A) w) (h:bl[0]?=some (bU k)):w.heap[1]?=some (.cells (aq .u32 64 cx) k.tg (0,0)):=by
 have h1:=(fp hl S h).2;rw[(hg 1 0 rfl).2]at h1;have e:(ah ids (bU k).c).toArray=aq .u32 64 cx:=by kernel_rfl
 rw[e]at h1;exact h1
def Gu:cP (Gh fr):=λargs bl ch K=>match args,ch with
 |[.agg [.int .i64 m,.bool o,.bH .u8 8 nc],.raw vk,.int .i64 s],g::rest=>
  (vk=.slice (g.d.k.ka 3) (g.d.k.kn 3) (g.d.k.kc 3)/\bl[0]?=some (bU g.d.k)/\(0<=s/\s<4294967296)/\(0<=m/\m<=9223372036854775807)/\(1<=g.d.k.kn 3/\g.d.k.kn 3<=64))/\
  cond (decide (4294967295<=m)) (K (.ao [.agg [.int .i64 m,.bool o,.bH .u8 8 nc],.int .i64 24]) bl (g::rest)) (K (.ao [.agg [.int .i64 (m+1),.bool true,.bH .u8 8 (fG (g.d.k.kn 3) (g.d.k.kf 3) s (m+1))],.int .i64 0]) bl (g::rest))
 |_,_=>False
theorem amU:Sound prog gS 146 (Gu (fr:=fr)):=by
 intro args ids bl ch R ms w0 w K hg hl S hc;unfold Gu at hc;split at hc
 ·rename_i m o nc vk s g rest;obtain⟨⟨rfl,hr,hs,hm,hk⟩,hK⟩:=hc;have e0:av (g::rest) R=g.F.B++av rest R:=rfl;have S':=S;rw[e0]at S';have xY:=ZO g.F S' 3 (by decide) (by omega) (by omega);have kr:=ZP hg hl S hr;by_cases h:4294967295<=m
  ·rw[show decide (4294967295<=m)=true by simp[h]]at hK;have hc:=ah9 (g.d.k.ka 3) (g.d.k.kn 3) (g.d.k.kc 3) (g.d.k.kf 3) s ⟨m,o,nc⟩ h hm.2 w;have e:(aA ids [.agg [.int .i64 m,.bool o,.bH .u8 8 nc],.raw (.slice (g.d.k.ka 3) (g.d.k.kn 3) (g.d.k.kc 3)),.int .i64 s]).toArray=#[.agg #[.int .i64 m,.bool o,.int .u8 (nc 0),.int .u8 (nc 1),.int .u8 (nc 2),.int .u8 (nc 3),.int .u8 (nc 4),.int .u8 (nc 5),.int .u8 (nc 6),.int .u8 (nc 7)],.slice (g.d.k.ka 3) (g.d.k.kn 3) (g.d.k.kc 3),.int .i64 s]:=by kernel_rfl
   rw[e];refine hc.mono ?_;rintro v w1 ⟨rfl,bT⟩;exact⟨_,[],bl,g::rest,by kernel_rfl,by simpa using hl,by simpa using S.quiet bT,hK⟩
  ·rw[show decide (4294967295<=m)=false by simp[h]]at hK;have hc:=ah_ (g.d.k.ka 3) (g.d.k.kn 3) (g.d.k.kc 3) (g.d.k.kf 3) s ⟨m,o,nc⟩ hk hs ⟨hm.1,Int.not_le.1 h⟩ w kr xY;have e:(aA ids [.agg [.int .i64 m,.bool o,.bH .u8 8 nc],.raw (.slice (g.d.k.ka 3) (g.d.k.kn 3) (g.d.k.kc 3)),.int .i64 s]).toArray=#[.agg #[.int .i64 m,.bool o,.int .u8 (nc 0),.int .u8 (nc 1),.int .u8 (nc 2),.int .u8 (nc 3),.int .u8 (nc 4),.int .u8 (nc 5),.int .u8 (nc 6),.int .u8 (nc 7)],.slice (g.d.k.ka 3) (g.d.k.kn 3) (g.d.k.kc 3),.int .i64 s]:=by kernel_rfl
   rw[e];refine hc.mono ?_;rintro v w1 ⟨rfl,bT⟩;exact⟨.ao [.agg [.int .i64 (m+1),.bool true,.bH .u8 8 (fG (g.d.k.kn 3) (g.d.k.kf 3) s (m+1))],.int .i64 0],[],bl,g::rest,by kernel_rfl,by simpa using hl,by simpa using S.quiet bT,hK⟩
 ·exact hc.elim
def dZ (k:LK):ab:=.slice k.px k.pn k.pc
def Au (C:Sd.aN):cP (Gh fr):=λargs bl ch K=>match args,ch with
 |[.raw vp],g::rest=>(vp=dZ g.d.k/\g.d.k.pn<=1000/\By g.d.k.pf)/\(∀m,C.take g.d.k.pn g.d.k.pf=some m->K (.ao [.agg (cG m),.int .i64 0]) bl (g::rest))/\
  (C.take g.d.k.pn g.d.k.pf=none->∀m c,c≠0->K (.ao [.agg (cG m),.int .i64 c]) bl (g::rest))
 |_,_=>False
def LH (fr:Sd.aF->Nat×Sd.aw) (C:Sd.aN):List (bK (Gh fr)):=⟨143,true,Au C⟩::⟨146,true,Gu⟩::L8 fr C
def xZ (s:Sd.aa) (a b c:Sd.dG):Sd.aa:={s with c:={s.c with doors:=r3 a b c s.c.doors,ag:=⟨s.c.ag.cO,r3 (s.c.ag.aj 0) (s.c.ag.aj 1) (s.c.ag.aj 2) s.c.ag.aj⟩}}
def RM (d:Sd.dG):List V:=[.int .i64 d.many,.bool d.gy,.bH .u8 8 d.au]
section
variable(C:Sd.aN) (k:LK) (s:Sd.aa) (F:a9 fr (aY k s)) (Kb:SK fr k) (l:Int) (d:Sd.dG) (D:Sd.dG->Sd.aa)
def vV (k:LK) (l:Int) (d:Sd.dG):Sd.dG:=⟨d.many+1,true,fG (k.kn 3) (k.kf 3) l (d.many+1)⟩
def KG (hD:∀e,aY k (D e)=aY k s) (m:Sd.bo) (c:Int):Prop:=cond (c !=0) (cy k s F/\o8 C [.int .i64 l,.int .i64 13] k (bR s) F λv s' F'=>cH k s Kb (.ao []) (bC k s' F'++[⟨true,⟨66,(0,0)⟩,cG m⟩]) [bb k s' F'])
 (True/\cond (!(Sd.eJ s.c.p l m.role)) (cy k s F/\lj C [.int .i64 l,.int .i64 0,.int .i64 18] k (bR s) F λv s' F'=>cH k s Kb (.ao []) (bC k s' F'++[⟨true,⟨66,(0,0)⟩,cG m⟩]) [bb k s' F'])
  ((DP (k.ka 3) (k.kn 3) (k.kc 3)=.slice (k.ka 3) (k.kn 3) (k.kc 3)/\some (bU k)=some (bU k)/\(0<=l/\l<4294967296)/\(0<=d.many/\d.many<=9223372036854775807)/\(1<=k.kn 3/\k.kn 3<=64))/\
    cond (decide (4294967295<=d.many)) (cy k s F/\lj C [.int .i64 l,.int .i64 0,.int .i64 24] k (bR s) F λv s' F'=>cH k s Kb (.ao []) (bC k s' F'++[⟨true,⟨66,(0,0)⟩,cG m⟩,⟨true,⟨102,(0,0)⟩,RM d⟩]) [bb k s' F'])
    (cy k (D (vV k l d)) (hD (vV k l d)▸F)/\dR [.int .i64 l,.agg [.int .i64 129,.int .i64 0,.int .i64 0,.int .i64 0,.int .i64 0,.int .i64 0,.bH .u8 8 (vV k l d).au]] k (D (vV k l d)) (hD (vV k l d)▸F) λv s2 F2=>
     cy k s2 F2/\iU C [.int .i64 2,.int .i64 l,.int .i64 0,.int .i64 0,.int .i64 0] k (bR s2) F2 λv s' F'=>cH k s Kb (.ao []) (bC k s' F'++[⟨true,⟨66,(0,0)⟩,cG m⟩,⟨true,⟨102,(0,0)⟩,RM (vV k l d)⟩]) [bb k s' F'])))
end
def RN (fr:Sd.aF->Nat×Sd.aw) (C:Sd.aN) (l:Int) (i:Nat) (D:Sd.aa->Sd.dG->Sd.aa) (hD:∀k s e,aY k (D s e)=aY k s):Prop:=∀(k:LK) (s:Sd.aa) (F:a9 fr (aY k s)) (Kb:SK fr k),bu (bQ prog gS (LH fr C)) 90 98 [.ptr 2 0,.int .i64 l,.raw (dZ k)] (bC k s F) [bb k s F] (cH k s Kb)
 =((dZ k=dZ k/\k.pn<=1000/\By k.pf)/\(∀m,C.take k.pn k.pf=some m->KG C k s F Kb l (s.c.doors i) (D s) (hD k s) m 0)/\(C.take k.pn k.pf=none->∀m c,c≠0->KG C k s F Kb l (s.c.doors i) (D s) (hD k s) m c))
theorem amV (fr:Sd.aF->Nat×Sd.aw) (C:Sd.aN):RN fr C 1 0 (λs e=>xZ s e (s.c.doors 1) (s.c.doors 2)) (λ_ _ _=>rfl):=λk s F Kb=>by kernel_rfl
theorem amW (fr:Sd.aF->Nat×Sd.aw) (C:Sd.aN):RN fr C 2 1 (λs e=>xZ s (s.c.doors 0) e (s.c.doors 2)) (λ_ _ _=>rfl):=λk s F Kb=>by kernel_rfl
theorem amX (fr:Sd.aF->Nat×Sd.aw) (C:Sd.aN):RN fr C 3 2 (λs e=>xZ s (s.c.doors 0) (s.c.doors 1) e) (λ_ _ _=>rfl):=λk s F Kb=>by kernel_rfl
def ph (s:Sd.aa) (i:Nat) (e:Sd.dG):Sd.aa:={s with c:={s.c with doors:=λj=>if j=i then e else s.c.doors j}}
theorem vW {s:Sd.aa} {a b c:Sd.dG} {i:Nat} {e:Sd.dG} (hi:i<3) (ha:a=if 0=i then e else s.c.doors 0) (hb:b=if 1=i then e else s.c.doors 1) (hc:c=if 2=i then e else s.c.doors 2):xZ s a b c=ph s i e:=by
 unfold xZ ph;rw[J_];have h:r3 a b c s.c.doors=λj=>if j=i then e else s.c.doors j:=by
  funext j
  match j with
  |0=>exact ha
  |1=>exact hb
  |2=>exact hc
  |j+3=>exact(if_neg (by omega)).symm
 rw[h]
end
section
open Go Go.RowKit Go.BigFrame Sx
def RO (n m:Int):Int:=(Int.tmod n m+m)%m
theorem ZQ (n:Int):bits .and .i64 n 14=n%16-n%2:=by
 have CW:=pN .i64 n 15 16 4 (by decide) (by decide) (by decide);have h1:=pN .i64 n 1 2 1 (by decide) (by decide) (by decide);unfold bits at*;simp only[BitVec.toNat_and]at*;have hk:∀m:Nat,m&&&14=(m&&&15)-(m&&&1):=by
  intro m;have e1:m&&&15=m%16:=acu m 4;have e2:m&&&1=m%2:=acu m 1;have e3:m&&&14=(m%16)&&&14:=by
   rw[<-e1,Nat.and_assoc];rfl
  have e4:m%2=(m%16)%2:=by omega
  rw[e1,e2,e3,e4];have h:m%16<16:=Nat.mod_lt _ (by omega);generalize m%16=k at h
  match k,h with
  |0,_=>rfl|1,_=>rfl|2,_=>rfl|3,_=>rfl|4,_=>rfl|5,_=>rfl|6,_=>rfl|7,_=>rfl
  |8,_=>rfl|9,_=>rfl|10,_=>rfl|11,_=>rfl|12,_=>rfl|13,_=>rfl|14,_=>rfl|15,_=>rfl
  |k+16,h=>exact absurd h (by omega)
 have c14:(jq i64.bits 14).toNat=14:=by decide
 have c15:(jq i64.bits 15).toNat=15:=by decide
 have c1:(jq i64.bits 1).toNat=1:=by decide
 rw[c14];rw[c15]at CW;rw[c1]at h1;rw[hk];generalize (jq i64.bits n).toNat=m at*;have aud:m&&&15<16:=Nat.lt_of_le_of_lt Nat.and_le_right (by omega);have gx:m&&&1<2:=Nat.lt_of_le_of_lt Nat.and_le_right (by omega);have w15:i64.wrap ((m&&&15:Nat):Int)=((m&&&15:Nat):Int):=by rw[acD];omega
 have w1:i64.wrap ((m&&&1:Nat):Int)=((m&&&1:Nat):Int):=by rw[acD];omega
 rw[w15]at CW;rw[w1]at h1;rw[acD];omega
def Sw1 (k a b c:Int):Prop:=(k=0/\a=1/\b=2/\c=3)\/(k=1/\a=2/\b=1/\c=3)\/(k=2/\a=3/\b=2/\c=1)
def Gv (q:Nat->Int) (o1 o2 o3:Int):Prop:=∃b c,Sw1 (RO (q 1) 3) o1 b c/\((RO (q 2) 2=0/\o2=b/\o3=c)\/(RO (q 2) 2=1/\o2=c/\o3=b))
theorem Gv.perm {q:Nat->Int} {o1 o2 o3:Int} (h:Gv q o1 o2 o3):(o1=1/\o2=2/\o3=3)\/(o1=1/\o2=3/\o3=2)\/(o1=2/\o2=1/\o3=3)\/(o1=2/\o2=3/\o3=1)\/(o1=3/\o2=1/\o3=2)\/(o1=3/\o2=2/\o3=1):=by
 obtain⟨b,c,h1,h2⟩:=h;rcases h1 with⟨_,rfl,rfl,rfl⟩|⟨_,rfl,rfl,rfl⟩|⟨_,rfl,rfl,rfl⟩<;>rcases h2 with⟨_,rfl,rfl⟩|⟨_,rfl,rfl⟩<;>simp
theorem Gv.one {q:Nat->Int} {a b c a' b' c':Int} (h:Gv q a b c) (k:Gv q a' b' c'):a=a'/\b=b'/\c=c':=by
 obtain⟨_,_,h1,h2⟩:=h;obtain⟨_,_,k1,k2⟩:=k;rcases h1 with⟨e,rfl,rfl,rfl⟩|⟨e,rfl,rfl,rfl⟩|⟨e,rfl,rfl,rfl⟩<;>rcases k1 with⟨f,rfl,rfl,rfl⟩|⟨f,rfl,rfl,rfl⟩|⟨f,rfl,rfl,rfl⟩<;>first|(exfalso;rw[e]at f;revert f;decide)|(rcases h2 with⟨e2,rfl,rfl⟩|⟨e2,rfl,rfl⟩<;>rcases k2 with⟨f2,rfl,rfl⟩|⟨f2,rfl,rfl⟩<;>first|(exfalso;rw[e2]at f2;revert f2;decide)|exact⟨rfl,rfl,rfl⟩)
def RP (ms:List Nat) (w0:ae) (a:Option aI) (n c:Nat) (kb:Nat->Int):Prop:=n<=c/\(a=none->n=0/\c=0)/\∀ad,a=some ad->ad.block∉ms/\∀j,j<n->w0.cell? (ad.add j)=some (.int .u8 (kb j))
theorem amY (x:Int):0<=u8.wrap x/\u8.wrap x<=255:=by rw[wA];omega
theorem ZR (H:Nat->Int):By (xw H):=λj=>by unfold xw;split<;>exact amY _
theorem ZS (n:Nat) (f:Nat->Int):By (jD n f):=by
 unfold jD;cases bA n 55
 ·exact ZR _
 ·exact ZR _
theorem amZ (kn:Nat) (kf:Nat->Int) (s n:Int):By (fG kn kf s n):=by unfold fG fU;exact ZS _ _
end
section
open Go Go.RowKit Go.BigFrame Sx Vx
variable{fr:Sd.aF->Nat×Sd.aw}
theorem am0 (C:Sd.aN):gO (Au (fr:=fr) C):=by
 intro args bl ch K h;unfold Au at h⊢;split at h
 ·exact⟨h.1,λm e=>⟨h.2.1 m e,[],by simp⟩,λe m c hc=>⟨h.2.2 e m c hc,[],by simp⟩⟩
 ·exact h.elim
theorem am1:gO (Gu (fr:=fr)):=by
 intro args bl ch K h;unfold Gu at h⊢;split at h
 ·rename_i m o nc vk s' g rest;refine⟨h.1,?_⟩;have h2:=h.2;by_cases hm:4294967295<=m
  ·rw[show decide (4294967295<=m)=true by simp[hm]]at h2⊢;exact⟨h2,[],by simp⟩
  ·rw[show decide (4294967295<=m)=false by simp[hm]]at h2⊢;exact⟨h2,[],by simp⟩
 ·exact h.elim
theorem am2 (tk:Nat->Sd.aw->Option Sd.bo) (ht:Body (fr:=fr) 147 dR) (h1:Sound prog gS 143 (Au (fr:=fr) (aO tk))):aG prog gS (LH fr (aO tk)):=
 aG.cons ⟨h1,λ_=>am0 _⟩ (aG.cons ⟨amU,λ_=>am1⟩ (Gt tk ht))
structure RQ (k:LK) (s:Sd.aa) (l:Int):Prop where
 r:Rm s 8
 d:∀i,i<3->0<=(s.c.doors i).many/\(s.c.doors i).many<=9223372036854775807
 key:1<=k.kn 3/\k.kn 3<=64
 ke:s.c.p.k 3=(k.kn 3,k.kf 3)
 ln:k.pn<=1000/\By k.pf
 l:1<=l/\l<=3
def CZ (C:Sd.aN):SM fr:=λar k s F K=>match ar with
 |[.int .i64 l,.raw vp]=>(vp=dZ k/\RQ k s l)/\∀F',K (.ao []) (s.jw C l k.pn k.pf) F'
 |_=>False
theorem am3 {C:Sd.aN} {s:Sd.aa} {l:Int} {n:Nat} {f:Sd.aw} (h:C.take n f=none):s.jw C l n f=s.gY C l 13:=by unfold Sd.aa.jw;rw[h]
theorem am4 {C:Sd.aN} {s:Sd.aa} {l:Int} {n:Nat} {f:Sd.aw} {m:Sd.bo} (h:C.take n f=some m):s.jw C l n f=if Sd.eJ s.c.p l m.role=false then s.refuse C l 0 18 else if 4294967295<=(s.c.doors (l.toNat-1)).many then s.refuse C l 0 24 else
 ((ph s (l.toNat-1) ⟨(s.c.doors (l.toNat-1)).many+1,true,C.au (s.c.p.k 3) l ((s.c.doors (l.toNat-1)).many+1)⟩).tell l ⟨129,0,0,0,0,0,C.au (s.c.p.k 3) l ((s.c.doors (l.toNat-1)).many+1)⟩).record C 2 l 0 0 0:=by unfold Sd.aa.jw;rw[h];rfl
theorem C0 (tk:Nat->Sd.aw->Option Sd.bo) {k:LK} {s:Sd.aa} {F:a9 fr (aY k s)} {Kb:SK fr k} {l:Int} {i:Nat} {D:Sd.dG->Sd.aa} (hD:∀e,aY k (D e)=aY k s) (x_:∀e,D e=ph s i e) (hi:l.toNat-1=i) (h3:i<3) (hq:s.c.p.queue=k.most) (hP:RQ k s l)
 (m:Sd.bo) (c:Int) (hm:(c=0/\(aO tk).take k.pn k.pf=some m)\/(c≠0/\(aO tk).take k.pn k.pf=none)) (hK:∀F',Kb (.ao []) (s.jw (aO tk) l k.pn k.pf) F'):KG (aO tk) k s F Kb l (s.c.doors i) D hD m c:=by
 subst hi;unfold KG;refine aH (λe=>⟨cF hq,Gf hP.r.r1 λF1=>eH ?_ hK F1⟩) (λe=>⟨trivial,aH (λe1=>⟨cF hq,xX ⟨hP.r.le (by decide),vS,⟨by decide,by decide⟩⟩ λF1=>eH ?_ hK F1⟩) (λe1=>⟨⟨rfl,rfl,⟨by have:=hP.l;omega,by have:=hP.l;omega⟩,hP.d _ h3,hP.key⟩,aH (λe2=>⟨cF hq,xX ⟨hP.r.le (by decide),vS,⟨by decide,by decide⟩⟩ λF1=>eH ?_ hK F1⟩) (λe2=>?_)⟩)⟩)
 ·have hc:c≠0:=o9 e;rcases hm with⟨h,_⟩|⟨_,h⟩
  ·exact absurd h hc
  ·exact(am3 h).symm
 all_goals
  have hc:c=0:=by simpa using e
  have am5:(aO tk).take k.pn k.pf=some m:=by
   rcases hm with⟨_,h⟩|⟨h,_⟩
   ·exact h
   ·exact absurd hc h
  rw[am4 am5]at*
 ·exact(if_pos (by simpa using e1)).symm
 ·rw[if_neg (by simpa using e1),if_pos (by simpa using e2)]
 ·rw[if_neg (by simpa using e1),if_neg (by simpa using e2)]at hK;have hn:(aO tk).au (s.c.p.k 3) l ((s.c.doors (l.toNat-1)).many+1)=fG (k.kn 3) (k.kf 3) l ((s.c.doors (l.toNat-1)).many+1):=by rw[hP.ke];rfl
  rw[hn]at hK;have key:∀(x:Sd.aa) (hx:aY k x=aY k s),x=ph s (l.toNat-1) (vV k l (s.c.doors (l.toNat-1)))->(cy k x (hx▸F)/\dR [.int .i64 l,.agg [.int .i64 129,.int .i64 0,.int .i64 0,.int .i64 0,.int .i64 0,.int .i64 0,.bH .u8 8 (vV k l (s.c.doors (l.toNat-1))).au]] k x (hx▸F) λv s2 F2=>
   cy k s2 F2/\iU (aO tk) [.int .i64 2,.int .i64 l,.int .i64 0,.int .i64 0,.int .i64 0] k (bR s2) F2 λv s' F'=>cH k s Kb (.ao []) (bC k s' F'++[⟨true,⟨66,(0,0)⟩,cG m⟩,⟨true,⟨102,(0,0)⟩,RM (vV k l (s.c.doors (l.toNat-1)))⟩]) [bb k s' F']):=by
   rintro x hx rfl;refine⟨cF hq,⟨⟨(show Rm (ph s _ _) 8 from hP.r).le (by decide),⟨(show(129:Int)<=129/\(129:Int)<=136 by decide),⟨vS,.inr rfl⟩,⟨(show(0:Int)<=0/\(0:Int)<=3 by decide),.inr rfl⟩,⟨z4,.inr rfl⟩,⟨Ko,.inr rfl⟩,⟨z8,.inr rfl⟩,⟨amZ _ _ _ _,.inl rfl⟩⟩⟩,λF1=>⟨cF hq,nj ?_ λF2=>eH rfl hK F2⟩⟩⟩;have:=hP.r.2;simp only[Sd.aa.tell,ph];omega
  exact key _ (hD _) (x_ _)
theorem am6 (tk:Nat->Sd.aw->Option Sd.bo) (ht:Body (fr:=fr) 147 dR) (h1:Sound prog gS 143 (Au (fr:=fr) (aO tk))):Body (fr:=fr) 98 (CZ (aO tk)):=by
 refine mq (n:=90) (am2 tk ht h1) ?_;intro ar k s F Kb h0 hq hM;unfold CZ at hM;split at hM
 ·rename_i l vp;have hP:=hM.1.2;have hK:=hM.2;have hv:vp=dZ k:=hM.1.1;subst hv;have hl:l=1\/l=2\/l=3:=by have:=hP.l;omega
  rcases hl with rfl|rfl|rfl
  ·rw[amV];exact⟨⟨rfl,hP.ln.1,hP.ln.2⟩,λm e=>C0 tk _ (λe=>vW (i:=0) (by decide) rfl rfl rfl) rfl (by decide) hq hP m 0 (.inl ⟨rfl,e⟩) hK,λe m c hc=>C0 tk _ (λe=>vW (i:=0) (by decide) rfl rfl rfl) rfl (by decide) hq hP m c (.inr ⟨hc,e⟩) hK⟩
  ·rw[amW];exact⟨⟨rfl,hP.ln.1,hP.ln.2⟩,λm e=>C0 tk _ (λe=>vW (i:=1) (by decide) rfl rfl rfl) rfl (by decide) hq hP m 0 (.inl ⟨rfl,e⟩) hK,λe m c hc=>C0 tk _ (λe=>vW (i:=1) (by decide) rfl rfl rfl) rfl (by decide) hq hP m c (.inr ⟨hc,e⟩) hK⟩
  ·rw[amX];exact⟨⟨rfl,hP.ln.1,hP.ln.2⟩,λm e=>C0 tk _ (λe=>vW (i:=2) (by decide) rfl rfl rfl) rfl (by decide) hq hP m 0 (.inl ⟨rfl,e⟩) hK,λe m c hc=>C0 tk _ (λe=>vW (i:=2) (by decide) rfl rfl rfl) rfl (by decide) hq hP m c (.inr ⟨hc,e⟩) hK⟩
 ·exact hM.elim
def TB3 (t:Sd.az):Prop:=(cv t.cO.2.n/\cv t.cO.2.most)/\(cv (t.aj 0).eB.n/\cv (t.aj 0).eB.most)/\(cv (t.aj 1).eB.n/\cv (t.aj 1).eB.most)/\(cv (t.aj 2).eB.n/\cv (t.aj 2).eB.most)
section
variable(C:Sd.aN) (k:LK) (s0:Sd.aa) (Kb:SK fr k)
def PtB (p:Sd.eu):Prop:=cv p.aV.a/\cv p.aV.b/\cv p.aV.c/\cv p.aV.d/\cv p.now.a/\cv p.now.b/\cv p.now.c/\cv p.now.d
def am7 (s:Sd.aa):Sd.aa:={s with c:={s.c with pt:=s.c.pt.step s.c.p}}
end
def gN:Nat->Option Nat:=λ_=>none
theorem ZT {n:Nat} {b:VB} (hb:ba n b.c=true):∀{bl:List VB} (i:Nat),bI n bl=true->bI n (bl.set i b)=true
 |[],i,h=>by simp[bI]
 |x::l,0,h=>by simp only[bI,a_,List.set]at h⊢;exact⟨hb,h.2⟩
 |x::l,i+1,h=>by simp only[bI,a_,List.set]at h⊢;exact⟨h.1,ZT hb i h.2⟩
section
variable(most came:Int) (gq:bO) (es:List One) (K:VK bO)
end
end
end Go.Proofs.YtggfpcggakghnaaGreatDoor
