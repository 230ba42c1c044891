/- Part 3 of the proof. -/
import Derived.Test.YtggfpcggakghnaaGreatDoorProg
import Derived.Test.YtggfpcggakghnaaGreatDoorRows
import Derived.Test.YtggfpcggakghnaaGreatDoorR2
set_option linter.all false
set_option maxRecDepth 100000
set_option maxHeartbeats 4000000
open Go.Proofs.Tryz
open Go.IntKind (u8 u16 u32 u64 i64)
open Array renaming ext'->fM
open BitVec renaming ofInt->oP
open Bool renaming and_eq_true->bu,not_eq_true'->my
open Go renaming TypeId->aJ,Addr->aQ,Value->ae,World->ag,FuncId->fL,wp_ret->gU,wp_block->jw
open Go.IntKind renaming wrap_i64->agP,signed->uA,bits->uz,wrap->yr,wrap_u8->yw
open Go.Value renaming int->eA
open Int renaming tmod_eq_emod_of_nonneg->FK,lt_asymm->Kg,ofNat->db
open List renaming any_eq_true->AD,getElem?_append_right->AF,singleton_append->AM,length_nil->Kc,length_singleton->Yq,take_zero->Yu,take_length->Yv,append_assoc->bU,range->bw,append_nil->cH,mem_cons->cn,map_cons->eF,cons_append->fe,nil_append->fi,length_append->ft,length_cons->h_,mem_singleton->iH,countP_append->iI,getElem?_append_left->iq,getD->ir,getElem?_toArray->jQ,take_append_drop->jS,perm_middle->jU,getElem?_eq_none->jc,getElem?_map->jt,getElem?_eq_getElem->jv,sublist_append_right->mA,getElem?_range->nV,eq_nil_of_length_eq_zero->nf,map_congr_left->pI,perm_append_comm_assoc->pM,not_mem_nil->pN,map_append->rk,map_nil->s8,length_take->vQ,ext_getElem?->vR
open List.Perm renaming trans->Dg,append_right->FC,swap->Pz,append_left->pL,cons->uq
open List.Sublist renaming cons_cons->Df,append_right->agN,append_left->uv
open List.cons renaming inj->vT
open Nat renaming add_assoc->AI,and_two_pow_sub_one_eq_mod->agG,beq->az,ble->bG,blt->cD,lt_or_ge->cZ,eq_of_beq_eq_true->cz,le_refl->dH,zero_add->eY,blt_eq->iG,add_mul->ng,add_zero->pG,beq_refl->sY,eq_zero_or_pos->vP
open Option.some renaming injEq->aY,inj->cG
open Prod.mk renaming injEq->bC
namespace Go.Proofs.YtggfpcggakghnaaGreatDoor
section
open Go Go.RowKit Go.BigFrame Sx Vx
def j4 (lo hi n:Int):Bool:=decide (lo<=n)&&decide (n<=hi)
def qJ (a b c k:Int):Bool:=k==a||(k==b||k==c)
def HW (q:Nat->Int):Bool:=q 0==0&&(q 4==4&&(qJ (q 1) (q 2) (q 3) 1&&(qJ (q 1) (q 2) (q 3) 2&&qJ (q 1) (q 2) (q 3) 3)))
def tQ (n:Nat):Bool:=decide (1<=(n:Int))&&decide ((n:Int)<=64)
def oC (n:Int):Bool:=j4 0 15 n&&n%2==0
def allI (lo hi:Int):List Int->Bool
 |[]=>true
 |x::xs=>j4 lo hi x&&allI lo hi xs
def zQ (kn:Nat->Nat):Bool:=tQ (kn 0)&&(tQ (kn 1)&&tQ (kn 2))
def Ca (q:Nat->Int):Bool:=oC (q 10)&&(oC (q 11)&&oC (q 12))
def HX (q:Nat->Int):Bool:=allI 0 15 [q 14,q 15,q 16,q 17]&&(allI 0 15 [q 18,q 19,q 20,q 21]&&(allI 0 15 [q 22,q 23,q 24,q 25]&&(allI 0 15 [q 26,q 27,q 28,q 29]&&allI 0 15 [q 30,q 31,q 32,q 33])))
def ma (q:Nat->Int) (kn:Nat->Nat):Int:=
 if HW q=false then 40 else if(zQ kn&&tQ (kn 3))=false then 41 else if(q 9==1&&(q 13==0&&Ca q))=false then 42
 else if HX q=false then 43
 else if allI 0 31 [q 34,q 35,q 36,q 37,q 38]=false then 44
 else if allI 0 4 [q 39,q 40,q 41]=false then 45 else if allI 1 1000 [q 42,q 43,q 44,q 45]=false then 46 else if(j4 1 1000 (q 46)&&j4 0 1000 (q 47))=false then 47 else if allI 1 3 [q 48,q 49]=false then 48
 else if(q 50==0&&(allI 0 1000 [q 51,q 52,q 53]&&j4 1 1000 (q 54)))=false then 49 else if j4 0 65535 (q 55)=false then 50 else 0
def Ey (lo hi n:Int) (X Y:Prop):Prop:=cond (decide (lo<=n)) (cond (!decide (n<=hi)) Y X) Y
def MH (n:Int) (X Y:Prop):Prop:=cond (decide (0<=n)) (cond (decide (n<=15)) (cond (!(Int.tmod n 2==0)) Y X) Y) Y
def xy (lo hi:Int) (Y:Prop):List Int->Prop->Prop
 |[],X=>X
 |n::l,X=>Ey lo hi n (xy lo hi Y l X) Y
theorem HY {lo hi n:Int} {X Y:Prop} (h:j4 lo hi n=true->X) (k:j4 lo hi n=false->Y):Ey lo hi n X Y:=
 aM (λa=>aM (λb=>k (by rw[j4,a];simpa using b)) λb=>h (by rw[j4,a];simpa using b)) λa=>k (by rw[j4,a];rfl)
theorem Uj {n:Int} {X Y:Prop} (h:oC n=true->X) (k:oC n=false->Y):MH n X Y:=by
 refine aM (λa=>aM (λb=>?_) λb=>k (by simp only[oC,j4,a,b];rfl)) λa=>k (by simp only[oC,j4,a];rfl);have e:Int.tmod n 2=n%2:=FK (of_decide_eq_true a);exact aM (λc=>k (by simp only[oC,j4,a,b];rw[e]at c;simpa using c)) λc=>h (by simp only[oC,j4,a,b];rw[e]at c;simpa using c)
theorem zR {lo hi:Int} {X Y:Prop}:∀{l:List Int},(allI lo hi l=true->X)->(allI lo hi l=false->Y)->xy lo hi Y l X
 |[],h,_=>h rfl
 |n::l,h,k=>HY (λa=>zR (λb=>h (by rw[allI,a,b];rfl)) λb=>k (by rw[allI,a,b];rfl)) λa=>k (by rw[allI,a];rfl)
def dup (X:Prop):Prop:=X/\X
theorem Uk {X:Prop} (h:X):dup X:=⟨h,h⟩
def me (a b c d e:Int):Bool:=a==0&&(e==4&&(qJ b c d 1&&(qJ b c d 2&&qJ b c d 3)))
def Ul:QF:=⟨57,λargs _=>match args with
 |[.agg [.int .i64 a,.int .i64 b,.int .i64 c,.int .i64 d,.int .i64 e]]=>some (True,.bool (me a b c d e))
 |_=>none⟩
def Cb (b c d k:Int) (X Y:Prop):Prop:=cond (k==b) X (cond (k==c) X (cond (k==d) X Y))
theorem Um {b c d k:Int} {X Y:Prop} (h:qJ b c d k=true->X) (n:qJ b c d k=false->Y):Cb b c d k X Y:=
 aM (λa=>h (by rw[qJ,a];rfl)) λa=>aM (λe=>h (by rw[qJ,a,e];rfl)) λe=>aM (λf=>h (by rw[qJ,a,e,f];rfl)) λf=>n (by rw[qJ,a,e,f];rfl)
theorem anL (a b c d e:Int) (K:V->Prop):dX prog [] 60 57 [.agg [.int .i64 a,.int .i64 b,.int .i64 c,.int .i64 d,.int .i64 e]] K
 =cond (a !=0) (K (.bool false)) (cond (e !=4) (K (.bool false)) (Cb b c d 1 (Cb b c d 2 (Cb b c d 3 (K (.bool true)) (K (.bool false))) (K (.bool false))) (K (.bool false)))):=by kernel_rfl
theorem anM (a b c d e:Int) (w:ag):aV prog 57 #[.agg #[.int .i64 a,.int .i64 b,.int .i64 c,.int .i64 d,.int .i64 e]] w λv w1=>v=.bool (me a b c d e)/\Ch [] w w1:=by
 have h:cond (a !=0) ((V.bool false)=.bool (me a b c d e)) (cond (e !=4) ((V.bool false)=.bool (me a b c d e)) (Cb b c d 1 (Cb b c d 2 (Cb b c d 3 ((V.bool true)=.bool (me a b c d e)) ((V.bool false)=.bool (me a b c d e))) ((V.bool false)=.bool (me a b c d e))) ((V.bool false)=.bool (me a b c d e)))):=by
  refine aM (λh=>?_) λh=>aM (λg=>?_) λg=>Um (λx=>Um (λy=>Um (λz=>?_) λz=>?_) λy=>?_) λx=>?_
  ·have h':(a==0)=false:=by simpa using h
   rw[me,h'];rfl
  all_goals have h':(a==0)=true:=by simpa using h
  ·have g':(e==4)=false:=by simpa using g
   rw[me,h',g'];rfl
  all_goals have g':(e==4)=true:=by simpa using g
  ·rw[me,h',g',x,y,z];rfl
  ·rw[me,h',g',x,y,z];rfl
  ·rw[me,h',g',x,y];rfl
  ·rw[me,h',g',x];rfl
 refine ib (L:=[]) bO.nil (n:=60) (xs:=[.agg [.int .i64 a,.int .i64 b,.int .i64 c,.int .i64 d,.int .i64 e]]) (v:=.bool (me a b c d e)) (Hd.h (Hd.mk ?_));rw[anL];exact h
theorem anN (gl:Nat->Option Nat):Ul.Ok prog gl:=by
 intro args bl p_ v_ h hp ids w _ _;unfold Ul at h;dsimp only at h;split at h
 ·rename_i a b c d e;simp only[aY,bC]at h;obtain⟨rfl,rfl⟩:=h;exact told (anM a b c d e w)
 ·cases h
def Un (q:Nat->Int) (kn:Nat->Nat) (K:V->Prop):Prop:=
 let E:=λn:Int=>K (.int .i64 n)
 cond (!(me (q 0) (q 1) (q 2) (q 3) (q 4))) (E 40)<|xy 1 64 (E 41) [(kn 0:Int),(kn 1:Int),(kn 2:Int),(kn 3:Int)]<|cond (q 9!=1) (E 42)<|cond (q 13!=0) (E 42)<|(λX=>MH (q 10) (MH (q 11) (MH (q 12) X (E 42)) (E 42)) (E 42))<|
 xy 0 15 (E 43) [q 14,q 15,q 16,q 17,q 18,q 19,q 20,q 21,q 22,q 23,q 24,q 25,q 26,q 27,q 28,q 29,q 30,q 31,q 32,q 33]<|xy 0 31 (E 44) [q 34,q 35,q 36,q 37,q 38]<|dup<|xy 0 4 (E 45) [q 39,q 40,q 41]<|dup<|xy 1 1000 (E 46) [q 42,q 43,q 44,q 45]<|
 (λX=>Ey 1 1000 (q 46) (Ey 0 1000 (q 47) X (E 47)) (E 47))<|dup<|xy 1 3 (E 48) [q 48,q 49]<|cond (q 50!=0) (E 49)<|xy 0 1000 (E 49) [q 51,q 52,q 53]<|Ey 1 1000 (q 54) (Ey 0 65535 (q 55) (E 0) (E 50)) (E 49)
def Ez (n:Int):VB:=⟨true,⟨3,(0,0)⟩,[.int .i64 n]⟩
def HZ:dc Empty:=λargs bl ch K=>match args with
 |[.int .i64 lo,.int .i64 hi]=>cond (bM bl.length bl) (K (.fn 104 [] [.ptr bl.length 0,.ptr (bl.length+1) 0]) (bl++[Ez lo,Ez hi]) ch) False
 |_=>False
theorem anO (lo hi:Int) (K:VK Empty):br (bZ prog (λ_=>none) ([]:List (bR Empty))) 20 64 [.int .i64 lo,.int .i64 hi] [] [] K=K (.fn 104 [] [.ptr 0 0,.ptr 1 0]) [Ez lo,Ez hi] []:=by kernel_rfl
theorem anP:Sound prog (λ_=>none) 64 HZ:=by
 intro args ids bl ch R ms w0 w K hg hl S hc;unfold HZ at hc;split at hc
 ·rename_i lo hi;cases hq:bM bl.length bl with
  |false=>rw[hq]at hc;exact hc.elim
  |true=>
   rw[hq]at hc;have hv:br (bZ prog (λ_=>none) ([]:List (bR Empty))) 20 64 [.int .i64 lo,.int .i64 hi] [] [] (λv b c=>v=.fn 104 [] [.ptr 0 0,.ptr 1 0]/\b=[Ez lo,Ez hi]/\c=[]):=by rw[anO];exact⟨rfl,rfl,rfl⟩
   refine(eO (aI.nil (P:=prog) (gl:=λ_=>none)).T aI.nil.Q 20 (C:=bZ prog (λ_=>none) ([]:List (bR Empty))) (ids:=[]) (bl:=[]) (ch:=[]) (R:=[]) (ms:=[]) (w0:=w) (w:=w) Gl.none rfl (St.nil [] w) hv).mono ?_;rintro x w' ⟨y,more,bl',ch',rfl,h1,S',rfl,rfl,rfl⟩
   match more,h1 with
   |[b1,b2],_=>
    have S2:=S.beside S' (bl:=[⟨b1,true,.cells #[.int .i64 lo] 3 (0,0)⟩,⟨b2,true,.cells #[.int .i64 hi] 3 (0,0)⟩]) (Wr.cons rfl (Wr.cons rfl Wr.nil));refine⟨_,[b1,b2],_,ch,?_,by simp[hl],?_,hc⟩
    ·simp only[den,aH,<-hl];simp[ir]
    ·rw[fC _ _ _ _ hl,fD _ _ (by rw[hl];exact hq),bU];refine S2.perm ?_;exact(pM [_,_] (lits ids ids bl) (aC ch R))
 ·exact hc.elim
theorem anQ:uW prog (λ_=>none) ⟨64,true,HZ⟩:=⟨anP,λ_ args bl ch K h=>by
 simp only at h⊢;unfold HZ at h⊢;split at h
 ·cases hq:bM bl.length bl with
  |false=>rw[hq]at h;exact h.elim
  |true=>rw[hq]at h;exact⟨h,_,rfl⟩
 ·exact h.elim⟩
def Uo:List (bR Empty):=⟨64,true,HZ⟩::qL Empty [Ul]
theorem acq:aI prog (λ_=>none) Uo:=aI.cons anQ (kj (bO.cons (anN _) bO.nil))
def vcP (n:Nat) (f:fL) (args:List V) (X:V->Prop):Prop:=br (bZ prog (λ_=>none) Uo) n f args [] [] λv _ _=>X v
theorem anR (p:Sd.aO) (ka:Nat->Option aQ) (kn kc:Nat->Nat) (K:V->Prop):vcP 60 27 [.agg (fH p ka kn kc)] K=(True/\Un p.i kn K):=by kernel_rfl
theorem anS (q:Nat->Int) (kn:Nat->Nat):Un q kn (·=.int .i64 (ma q kn)):=by
 have k4:allI 1 64 [(kn 0:Int),(kn 1:Int),(kn 2:Int),(kn 3:Int)]=(zQ kn&&tQ (kn 3)):=by simp only[allI,j4,zQ,tQ,Bool.and_assoc,Bool.and_true]
 have t5:allI 0 15 [q 14,q 15,q 16,q 17,q 18,q 19,q 20,q 21,q 22,q 23,q 24,q 25,q 26,q 27,q 28,q 29,q 30,q 31,q 32,q 33]=HX q:=by simp only[allI,HX,Bool.and_assoc,Bool.and_true]
 unfold Un ma;refine aM (λh=>?_) λh=>?_
 ·have h0:HW q=false:=(by simpa using h:me (q 0) (q 1) (q 2) (q 3) (q 4)=false);rw[if_pos h0]
 have h0:HW q=true:=(by simpa using h:me (q 0) (q 1) (q 2) (q 3) (q 4)=true);clear h;refine zR (λh1=>?_) λh1=>?_<;>rw[k4]at h1
 ·refine aM (λa=>?_) λa=>aM (λb=>?_) λb=>Uj (λc=>Uj (λd=>Uj (λe=>?_) λe=>?_) λd=>?_) λc=>?_
  ·have a':(q 9==1)=false:=by simpa using a
   simp[h0,h1,a']
  all_goals have a':(q 9==1)=true:=by simpa using a
  ·have b':(q 13==0)=false:=by simpa using b
   simp[h0,h1,a',b']
  all_goals have b':(q 13==0)=true:=by simpa using b
  ·have r:Ca q=true:=by simp[Ca,c,d,e]
   have h2:(q 9==1&&(q 13==0&&Ca q))=true:=by rw[a',b',r];rfl
   refine zR (λh3=>?_) λh3=>?_<;>rw[t5]at h3
   ·refine zR (λh4=>Uk (zR (λh5=>Uk (zR (λh6=>HY (λh7=>HY (λh8=>Uk (zR (λh9=>aM (λu=>?_) λu=>zR (λv=>HY (λx=>HY (λy=>?_) λy=>?_) λx=>?_) λv=>?_) λh9=>?_)) λh8=>?_) λh7=>?_) λh6=>?_)) λh5=>?_)) λh4=>?_
    ·have u':(q 50==0)=false:=by simpa using u
     simp[h0,h1,h2,h3,h4,h5,h6,h7,h8,h9,u']
    iterate 4
     ·have u':(q 50==0)=true:=by simpa using u
      simp[h0,h1,h2,h3, *]
    all_goals simp[h0,h1,h2,h3, *]
   ·simp[h0,h1,h2,h3]
  all_goals simp[h0,h1,a',b',Ca, *]
 ·simp[h0,h1]
theorem anT (q:Nat->Int) (ka:Nat->Option aQ) (kn kc:Nat->Nat) (w:ag):aV prog 27 #[.agg (B_ q ka kn kc)] w λv w1=>v=.int .i64 (ma q kn)/\Ch [] w w1:=by
 have h:vcP 60 27 [.agg (fH ⟨q,λ_=>(0,λ_=>0)⟩ ka kn kc)] (·=.int .i64 (ma q kn)):=by rw[anR];exact⟨trivial,anS q kn⟩
 refine(eO acq.T acq.Q 60 (C:=bZ prog (λ_=>none) Uo) (ids:=[]) (bl:=[]) (ch:=[]) (R:=[]) (ms:=[]) (w0:=w) (w:=w) Gl.none rfl (St.nil [] w) h).mono ?_;rintro x w' ⟨y,more,bl',ch',rfl,h1,S,rfl⟩;exact⟨rfl,S.ch⟩
end
section
open Go Go.RowKit Go.BigFrame Sx
def f3 {α:Type} (a b c:α):Nat->α:=λj=>match j with|0=>a|1=>b|_=>c
def su (p:Sd.aO) (ka:Nat->Option aQ) (kn kc:Nat->Nat) (t:Sd.Tok) (bq:Nat) (D:Nat->Sd.eC) (bt:Nat) (sa be mo:Int) (mb:Sd.Label) (pt:Sd.e_) (hd:Nat->Int):Array ae:=#[.int .i64 (p.i 0),.int .i64 (p.i 1),.int .i64 (p.i 2),.int .i64 (p.i 3),.int .i64 (p.i 4),.slice (ka 0) (kn 0) (kc 0),.slice (ka 1) (kn 1) (kc 1),.slice (ka 2) (kn 2) (kc 2),.slice (ka 3) (kn 3) (kc 3),.int .i64 (p.i 9),.int .i64 (p.i 10),.int .i64 (p.i 11),.int .i64 (p.i 12),.int .i64 (p.i 13),.int .i64 (p.i 14),.int .i64 (p.i 15),.int .i64 (p.i 16),.int .i64 (p.i 17),.int .i64 (p.i 18),.int .i64 (p.i 19),.int .i64 (p.i 20),.int .i64 (p.i 21),.int .i64 (p.i 22),.int .i64 (p.i 23),.int .i64 (p.i 24),.int .i64 (p.i 25),.int .i64 (p.i 26),.int .i64 (p.i 27),.int .i64 (p.i 28),.int .i64 (p.i 29),.int .i64 (p.i 30),.int .i64 (p.i 31),.int .i64 (p.i 32),.int .i64 (p.i 33),.int .i64 (p.i 34),.int .i64 (p.i 35),.int .i64 (p.i 36),.int .i64 (p.i 37),.int .i64 (p.i 38),.int .i64 (p.i 39),.int .i64 (p.i 40),.int .i64 (p.i 41),.int .i64 (p.i 42),.int .i64 (p.i 43),.int .i64 (p.i 44),.int .i64 (p.i 45),.int .i64 (p.i 46),.int .i64 (p.i 47),.int .i64 (p.i 48),.int .i64 (p.i 49),.int .i64 (p.i 50),.int .i64 (p.i 51),.int .i64 (p.i 52),.int .i64 (p.i 53),.int .i64 (p.i 54),.int .i64 (p.i 55),.int .i64 t.aG,.int .i64 t.ah,.int .i64 t.offer,.int .i64 t.oa.n,.int .i64 t.oa.most,.int .i64 t.la.n,.int .i64 t.la.most,.bool t.bad,.pointer (some ⟨bq,0,none⟩),.int .i64 (D 0).many,.bool (D 0).iA,.int .u8 ((D 0).aA 0),.int .u8 ((D 0).aA 1),.int .u8 ((D 0).aA 2),.int .u8 ((D 0).aA 3),.int .u8 ((D 0).aA 4),.int .u8 ((D 0).aA 5),.int .u8 ((D 0).aA 6),.int .u8 ((D 0).aA 7),.int .i64 (D 1).many,.bool (D 1).iA,.int .u8 ((D 1).aA 0),.int .u8 ((D 1).aA 1),.int .u8 ((D 1).aA 2),.int .u8 ((D 1).aA 3),.int .u8 ((D 1).aA 4),.int .u8 ((D 1).aA 5),.int .u8 ((D 1).aA 6),.int .u8 ((D 1).aA 7),.int .i64 (D 2).many,.bool (D 2).iA,.int .u8 ((D 2).aA 0),.int .u8 ((D 2).aA 1),.int .u8 ((D 2).aA 2),.int .u8 ((D 2).aA 3),.int .u8 ((D 2).aA 4),.int .u8 ((D 2).aA 5),.int .u8 ((D 2).aA 6),.int .u8 ((D 2).aA 7),.pointer (some ⟨bt,0,none⟩),.int .i64 sa,.int .i64 be,.int .i64 mo,.int .i64 mb.lZ,.int .i64 mb.source,.int .i64 mb.seq,.int .i64 pt.cls,.int .i64 pt.aT.a,.int .i64 pt.aT.b,.int .i64 pt.aT.c,.int .i64 pt.aT.d,.int .i64 pt.now.a,.int .i64 pt.now.b,.int .i64 pt.now.c,.int .i64 pt.now.d,.int .i64 pt.bx.lZ,.int .i64 pt.bx.source,.int .i64 pt.bx.seq,.int .u8 (hd 0),.int .u8 (hd 1),.int .u8 (hd 2),.int .u8 (hd 3),.int .u8 (hd 4),.int .u8 (hd 5),.int .u8 (hd 6),.int .u8 (hd 7),.int .u8 (hd 8),.int .u8 (hd 9),.int .u8 (hd 10),.int .u8 (hd 11),.int .u8 (hd 12),.int .u8 (hd 13),.int .u8 (hd 14),.int .u8 (hd 15),.int .u8 (hd 16),.int .u8 (hd 17),.int .u8 (hd 18),.int .u8 (hd 19),.int .u8 (hd 20),.int .u8 (hd 21),.int .u8 (hd 22),.int .u8 (hd 23),.int .u8 (hd 24),.int .u8 (hd 25),.int .u8 (hd 26),.int .u8 (hd 27),.int .u8 (hd 28),.int .u8 (hd 29),.int .u8 (hd 30),.int .u8 (hd 31)]
def jF (st:Bool×Sd.Timer) (ak:Nat->Sd.fN) (b m:Int):Array ae:=#[.bool st.1,.int .i64 st.2.n,.int .i64 st.2.most,.bool (ak 0).on,.int .i64 (ak 0).cI.n,.int .i64 (ak 0).cI.most,.int .i64 (ak 0).role,.int .u8 ((ak 0).key 0),.int .u8 ((ak 0).key 1),.int .u8 ((ak 0).key 2),.int .u8 ((ak 0).key 3),.int .u8 ((ak 0).key 4),.int .u8 ((ak 0).key 5),.int .u8 ((ak 0).key 6),.int .u8 ((ak 0).key 7),.int .u8 ((ak 0).key 8),.int .u8 ((ak 0).key 9),.int .u8 ((ak 0).key 10),.int .u8 ((ak 0).key 11),.int .u8 ((ak 0).key 12),.int .u8 ((ak 0).key 13),.int .u8 ((ak 0).key 14),.int .u8 ((ak 0).key 15),.int .u8 ((ak 0).key 16),.int .u8 ((ak 0).key 17),.int .u8 ((ak 0).key 18),.int .u8 ((ak 0).key 19),.int .u8 ((ak 0).key 20),.int .u8 ((ak 0).key 21),.int .u8 ((ak 0).key 22),.int .u8 ((ak 0).key 23),.int .u8 ((ak 0).key 24),.int .u8 ((ak 0).key 25),.int .u8 ((ak 0).key 26),.int .u8 ((ak 0).key 27),.int .u8 ((ak 0).key 28),.int .u8 ((ak 0).key 29),.int .u8 ((ak 0).key 30),.int .u8 ((ak 0).key 31),.bool (ak 0).seen.any,.int .i64 (ak 0).seen.high,.int .u64 (ak 0).seen.seen,.bool (ak 1).on,.int .i64 (ak 1).cI.n,.int .i64 (ak 1).cI.most,.int .i64 (ak 1).role,.int .u8 ((ak 1).key 0),.int .u8 ((ak 1).key 1),.int .u8 ((ak 1).key 2),.int .u8 ((ak 1).key 3),.int .u8 ((ak 1).key 4),.int .u8 ((ak 1).key 5),.int .u8 ((ak 1).key 6),.int .u8 ((ak 1).key 7),.int .u8 ((ak 1).key 8),.int .u8 ((ak 1).key 9),.int .u8 ((ak 1).key 10),.int .u8 ((ak 1).key 11),.int .u8 ((ak 1).key 12),.int .u8 ((ak 1).key 13),.int .u8 ((ak 1).key 14),.int .u8 ((ak 1).key 15),.int .u8 ((ak 1).key 16),.int .u8 ((ak 1).key 17),.int .u8 ((ak 1).key 18),.int .u8 ((ak 1).key 19),.int .u8 ((ak 1).key 20),.int .u8 ((ak 1).key 21),.int .u8 ((ak 1).key 22),.int .u8 ((ak 1).key 23),.int .u8 ((ak 1).key 24),.int .u8 ((ak 1).key 25),.int .u8 ((ak 1).key 26),.int .u8 ((ak 1).key 27),.int .u8 ((ak 1).key 28),.int .u8 ((ak 1).key 29),.int .u8 ((ak 1).key 30),.int .u8 ((ak 1).key 31),.bool (ak 1).seen.any,.int .i64 (ak 1).seen.high,.int .u64 (ak 1).seen.seen,.bool (ak 2).on,.int .i64 (ak 2).cI.n,.int .i64 (ak 2).cI.most,.int .i64 (ak 2).role,.int .u8 ((ak 2).key 0),.int .u8 ((ak 2).key 1),.int .u8 ((ak 2).key 2),.int .u8 ((ak 2).key 3),.int .u8 ((ak 2).key 4),.int .u8 ((ak 2).key 5),.int .u8 ((ak 2).key 6),.int .u8 ((ak 2).key 7),.int .u8 ((ak 2).key 8),.int .u8 ((ak 2).key 9),.int .u8 ((ak 2).key 10),.int .u8 ((ak 2).key 11),.int .u8 ((ak 2).key 12),.int .u8 ((ak 2).key 13),.int .u8 ((ak 2).key 14),.int .u8 ((ak 2).key 15),.int .u8 ((ak 2).key 16),.int .u8 ((ak 2).key 17),.int .u8 ((ak 2).key 18),.int .u8 ((ak 2).key 19),.int .u8 ((ak 2).key 20),.int .u8 ((ak 2).key 21),.int .u8 ((ak 2).key 22),.int .u8 ((ak 2).key 23),.int .u8 ((ak 2).key 24),.int .u8 ((ak 2).key 25),.int .u8 ((ak 2).key 26),.int .u8 ((ak 2).key 27),.int .u8 ((ak 2).key 28),.int .u8 ((ak 2).key 29),.int .u8 ((ak 2).key 30),.int .u8 ((ak 2).key 31),.bool (ak 2).seen.any,.int .i64 (ak 2).seen.high,.int .u64 (ak 2).seen.seen,.int .i64 b,.int .i64 m]
theorem anU (p:Sd.aO) (ka:Nat->Option aQ) (kn kc:Nat->Nat) (w:ag):aV prog 27 #[.agg (kK p ka kn kc)] w λv w1=>v=.int .i64 (ma p.i kn)/\Ch [] w w1:=anT p.i ka kn kc w
theorem anV {q:Nat->Int} {kn:Nat->Nat} (h:ma q kn=0):1<=q 48/\q 48<=3:=by
 have:allI 1 3 [q 48,q 49]=true:=by
  cases e:allI 1 3 [q 48,q 49]with
  |true=>rfl
  |false=>
   exfalso;unfold ma at h
   repeat' split at h
   all_goals first|omega|(rename_i zT;simp[e]at zT)
 simp only[allI,j4,bu,decide_eq_true_eq]at this;exact this.1
theorem anW (w:ag):
 aV prog 32 #[] w λv w1=>v=.agg #[.int .i64 2,.int .i64 4,.int .i64 0]/\Ch [] w w1:=by
 have S0:=St.nil [] w;refine jd Tryz.func32 rfl ?_;refine aS (aZ ?_);refine eZ S0 (λb=>.pointer (some ⟨b,0,none⟩)) (.cells #[.int .i64 0,.int .i64 0,.int .i64 0] 44) ?_;intro bJ iC dQ;refine aW (aR (aS (aZ ?_)));refine au (.agg #[.int .i64 2,.int .i64 4,.int .i64 0]) ?_;refine store_ dQ 0 (.agg #[.int .i64 2,.int .i64 4,.int .i64 0]) bJ 0 ?_;intro Ha MI;refine aW (aR (gU ?_));refine gF rfl (gb [.cell 0 44] [.agg #[.int .i64 2,.int .i64 4,.int .i64 0]] (.agg #[.int .i64 2,.int .i64 4,.int .i64 0]) ⟨ni MI 0 3 bJ 0,trivial⟩) ?_;exact⟨rfl,MI.ch⟩
theorem anX (w:ag):
 aV prog 33 #[.slice none 0 0] w λv w1=>v=.agg (aE .u8 32 (λ_=>0))/\Ch [] w w1:=by
 have S0:=St.nil [] w;refine jd Tryz.func33 rfl ?_;refine aS (aZ ?_);refine eZ S0 (λb=>.pointer (some ⟨b,0,none⟩)) (.cells (aE .u8 32 (λ_=>0)) 37) ?_;intro bJ iC dQ;refine aW (aR (aS (aZ ?_)));refine eZ dQ (λb=>.pointer (some ⟨b,0,none⟩)) (.cells (aE .u8 32 (λ_=>0)) 37) ?_;intro dD mO dg;refine aW (aR (aS (aS (aZ ?_))));refine au (.slice none 0 0) ?_;refine au (.int .i64 0) ?_;refine au (.int .i64 0) ?_;refine aW (aR (jw (FN 24 (aS (aZ ?_)))));refine au (.bool false) ?_;refine aW (aR (aS (pQ ?_)));refine wp_exit (lR (lR (vZ (aR (aS (aZ ?_))))));refine kA dg 0 32 (aE .u8 32 (λ_=>0)) dD 0 ?_;refine store_ dg 1 (.agg (aE .u8 32 (λ_=>0))) bJ 0 ?_;intro Ea BG;refine aW (aR (gU ?_));refine gF rfl (gb [.cell 2 37] [.agg (aE .u8 32 (λ_=>0))] (.agg (aE .u8 32 (λ_=>0))) ⟨ni BG 1 32 bJ 0,trivial⟩) ?_;exact⟨rfl,BG.ch⟩
def vh:List Sd.Rec->List ae
 |[]=>[]
 |r::l=>(recC r).toList++vh l
theorem anY (l:List Sd.Rec) (r:Sd.Rec):vh l++(recC r).toList=vh (l++[r]):=by
 induction l with
 |nil=>simp[vh]
 |cons a l ih=>simp[vh,ih]
theorem anZ (p:Sd.aO) (ka:Nat->Option aQ) (kn kc:Nat->Nat) (t:Sd.Tok) (bq:Nat) (D:Nat->Sd.eC) (bt:Nat) (sa be mo:Int) (mb:Sd.Label) (pt:Sd.e_) (hd:Nat->Int) (xs:Option aQ) (ns cs:Nat) (dS bc:Nat) (x:Option aQ) (n c:Nat) (bl:List aj) (rl:List Sd.Rec) (kd so sq co ho:Int) {tG:aJ} (w:ag) {ms:List Nat} {w0:ag} {bs:List aj} (S0:St ms w0 ([⟨1,false,.cells (aE .u32 64 cT) tG (0,0)⟩,⟨dS,true,.cells #[.pointer (some ⟨bc,0,none⟩),.slice xs ns cs,.slice x n c] 128 (0,0)⟩,⟨bc,true,.cells (su p ka kn kc t bq D bt sa be mo mb pt hd) 105 (0,0)⟩]++(bl++bs)) w) (hR:fu 6 75 (vh rl) x n c bl) (hn:n<=1000):
 aV prog 90 #[.pointer (some ⟨dS,0,none⟩),.int .i64 kd,.int .i64 so,.int .i64 sq,.int .i64 co,.int .i64 ho] w λv w1=>∃x1 c1 km,v=.tuple #[]/\fu 6 75 (vh (rl++[⟨kd,so,sq,t.ah,co,ho⟩])) x1 (n+1) c1 km/\St ms w0 ([⟨1,false,.cells (aE .u32 64 cT) tG (0,0)⟩,⟨dS,true,.cells #[.pointer (some ⟨bc,0,none⟩),.slice xs ns cs,.slice x1 (n+1) c1] 128 (0,0)⟩,⟨bc,true,.cells (su p ka kn kc t bq D bt sa be mo mb pt (xm hd (⟨kd,so,sq,t.ah,co,ho⟩:Sd.Rec))) 105 (0,0)⟩]++(km++bs)) w1:=by
 refine jd Tryz.func90 rfl ?_;refine aS (aZ ?_);refine au (.int .i64 kd) ?_;refine au (.int .i64 so) ?_;refine au (.int .i64 sq) ?_;refine dZ ?_;refine au (.pointer (some ⟨dS,0,none⟩)) ?_;refine au (.pointer (some ⟨dS,0,none⟩)) ?_;refine pP S0 1 (.pointer (some ⟨bc,0,none⟩)) dS 0 ?_;refine au (.pointer (some ⟨bc,0,none⟩)) ?_;refine au (.pointer (some ⟨bc,56,none⟩)) ?_;refine au (.pointer (some ⟨bc,57,none⟩)) ?_;refine pP S0 2 (.int .i64 t.ah) bc 57 ?_;refine au (.int .i64 co) ?_;refine au (.int .i64 ho) ?_;refine au (.agg #[.int .i64 kd,.int .i64 so,.int .i64 sq,.int .i64 t.ah,.int .i64 co,.int .i64 ho]) ?_;refine eZ S0 (λb=>.pointer (some ⟨b,0,none⟩)) (.cells #[.int .i64 0,.int .i64 0,.int .i64 0,.int .i64 0,.int .i64 0,.int .i64 0] 75) ?_;intro bJ iC dQ;refine store_ dQ 0 (.agg #[.int .i64 kd,.int .i64 so,.int .i64 sq,.int .i64 t.ah,.int .i64 co,.int .i64 ho]) bJ 0 ?_;intro Ha MI;refine aW (aR (aS ?_));have dg:St ms w0 ([⟨bJ,true,.cells #[.int .i64 kd,.int .i64 so,.int .i64 sq,.int .i64 t.ah,.int .i64 co,.int .i64 ho] 75 (0,0)⟩,⟨1,false,.cells (aE .u32 64 cT) tG (0,0)⟩,⟨dS,true,.cells #[.pointer (some ⟨bc,0,none⟩),.slice xs ns cs,.slice x n c] 128 (0,0)⟩,⟨bc,true,.cells (su p ka kn kc t bq D bt sa be mo mb pt hd) 105 (0,0)⟩]++(bl++bs)) Ha:=MI.re (R:=bs) [[⟨bJ,true,.cells #[.int .i64 kd,.int .i64 so,.int .i64 sq,.int .i64 t.ah,.int .i64 co,.int .i64 ho] 75 (0,0)⟩],[⟨1,false,.cells (aE .u32 64 cT) tG (0,0)⟩],[⟨dS,true,.cells #[.pointer (some ⟨bc,0,none⟩),.slice xs ns cs,.slice x n c] 128 (0,0)⟩],[⟨bc,true,.cells (su p ka kn kc t bq D bt sa be mo mb pt hd) 105 (0,0)⟩],bl] [0,1,2,3,4];have zD7:∀w',Ch ((bl).map aj.id) Ha w'->St ms w0 ([⟨bJ,true,.cells #[.int .i64 kd,.int .i64 so,.int .i64 sq,.int .i64 t.ah,.int .i64 co,.int .i64 ho] 75 (0,0)⟩,⟨1,false,.cells (aE .u32 64 cT) tG (0,0)⟩,⟨dS,true,.cells #[.pointer (some ⟨bc,0,none⟩),.slice xs ns cs,.slice x n c] 128 (0,0)⟩,⟨bc,true,.cells (su p ka kn kc t bq D bt sa be mo mb pt hd) 105 (0,0)⟩]++bs) w':=λ_ hc=>dg.less (fu.wr hR) hc;refine ag8 (T':=75) dg hR 8 7 6 1 [.int .i64 kd,.int .i64 so,.int .i64 sq,.int .i64 t.ah,.int .i64 co,.int .i64 ho] [] [.pointer (some ⟨dS,0,none⟩),.pointer (some ⟨dS,0,none⟩),.pointer (some ⟨dS,0,none⟩),.pointer (some ⟨dS,2,none⟩),.slice x n c,.agg #[.int .i64 kd,.int .i64 so,.int .i64 sq,.int .i64 t.ah,.int .i64 co,.int .i64 ho],undef,undef] [[8,0],[8,1],[8,2],[8,3],[8,4],[8,5],[8,6],[8,7],[9,0],[9,1],[9,2],[9,3],[9,4],[9,5],[9,6],[9,7],[9,8],[10,0],[10,1],[10,2],[10,3],[10,4],[10,5],[10,6],[10,7],[10,9,8],[10,9]] (lX Du (lX Du (lX Du (lX Du (lX (Y0 zD7 2 dS 2) (lX (F8 zD7 0 bJ 0 6 #[.int .i64 kd,.int .i64 so,.int .i64 sq,.int .i64 t.ah,.int .i64 co,.int .i64 ho]) (lX (eB_ 1 [.int .i64 kd,.int .i64 so,.int .i64 sq,.int .i64 t.ah,.int .i64 co,.int .i64 ho] 75) (lX (eA_ dg hR 31 33 6 1 [.int .i64 kd,.int .i64 so,.int .i64 sq,.int .i64 t.ah,.int .i64 co,.int .i64 ho] 48 (by omega) (by unfold maxLen;omega) (e':=75)) (P5))))))))) ?_;intro Up Uq acr azz Sb ny o_;refine au (.pointer (some ⟨dS,0,none⟩)) ?_;refine au (.pointer (some ⟨dS,2,none⟩)) ?_;refine store_ o_ 2 (.slice Up (n+1) Uq) dS 2 ?_;intro D9 qy;refine aW (aR ?_);refine A1 13 [⟨0,λ_=>.pointer (some ⟨dS,0,none⟩),λ_=>[]⟩,⟨0,λ_=>.pointer (some ⟨dS,0,none⟩),λ_=>[]⟩,⟨0,λ_=>.pointer (some ⟨dS,0,none⟩),λ_=>[]⟩,⟨0,λ_=>.pointer (some ⟨bc,0,none⟩),λ_=>[]⟩,⟨0,λ_=>.pointer (some ⟨dS,0,none⟩),λ_=>[]⟩,⟨0,λ_=>.pointer (some ⟨dS,0,none⟩),λ_=>[]⟩,⟨0,λ_=>.pointer (some ⟨dS,0,none⟩),λ_=>[]⟩,⟨0,λ_=>.pointer (some ⟨bc,0,none⟩),λ_=>[]⟩,⟨0,λ_=>.pointer (some ⟨bc,0,none⟩),λ_=>[]⟩,⟨0,λ_=>.pointer (some ⟨bc,114,none⟩),λ_=>[]⟩,⟨0,λ_=>.agg (aE .u8 32 hd),λ_=>[]⟩,⟨0,λ_=>.agg #[.int .i64 kd,.int .i64 so,.int .i64 sq,.int .i64 t.ah,.int .i64 co,.int .i64 ho],λ_=>[]⟩,⟨0,λ_=>.agg (aE .u8 32 (xm hd (⟨kd,so,sq,t.ah,co,ho⟩:Sd.Rec))),λ_=>[]⟩] [[13,0],[13,1],[13,2],[13,3],[13,4],[13,5],[13,6],[13,7],[13,8],[13,9],[13,10],[13,11],[13,12],[14,0],[14,1],[14,2],[14,3],[14,4],[14,5],[14,6],[14,7],[14,8],[14,9],[14,10],[14,11],[14,12],[14,13],[15,0],[15,1],[15,2],[15,3],[15,4],[15,5],[15,6],[15,7],[15,8],[15,9],[15,10],[15,11],[15,12],[15,14,13],[15,14]] ?_ ?_
 ·refine step_cons iy ?_;refine step_cons iy ?_;refine step_cons iy ?_;refine step_cons (Kt qy 2 dS 0) ?_;refine step_cons iy ?_;refine step_cons iy ?_;refine step_cons iy ?_;refine step_cons (Kt qy 2 dS 0) ?_;refine step_cons iy ?_;refine step_cons iy ?_;refine step_cons (FY qy 3 bc 114 32 (aE .u8 32 hd)) ?_;refine step_cons (FY qy 0 bJ 0 6 #[.int .i64 kd,.int .i64 so,.int .i64 sq,.int .i64 t.ah,.int .i64 co,.int .i64 ho]) ?_;refine step_cons ?_ ?_
  ·intro acs BH SZ azA acu;have G7:acs 47=.agg (aE .u8 32 hd):=(Sp.dO (acu 10 47 (by kernel_rfl) (by kernel_rfl))).1;have rX:acs 48=.agg #[.int .i64 kd,.int .i64 so,.int .i64 sq,.int .i64 t.ah,.int .i64 co,.int .i64 ho]:=(Sp.dO (acu 11 48 (by kernel_rfl) (by kernel_rfl))).1;have w8:=qy.quiet SZ;refine pV ?_;refine mC [(47,.agg (aE .u8 32 hd)),(48,.agg #[.int .i64 kd,.int .i64 so,.int .i64 sq,.int .i64 t.ah,.int .i64 co,.int .i64 ho])] (mD G7 (mD rX (pT))) ?_;have ou:=w8.loc;refine Y.fT 66 #[.agg (aE .u8 32 hd),.agg #[.int .i64 kd,.int .i64 so,.int .i64 sq,.int .i64 t.ah,.int .i64 co,.int .i64 ho]] ?_;refine(amc hd (⟨kd,so,sq,t.ah,co,ho⟩:Sd.Rec) _ (ou.at_ 1 _ rfl)).mono ?_;rintro _ aaI ⟨rfl,kI⟩;have G9:=ou.quiet kI;exact⟨G9.ch,Sp.pU [] (all_nil)⟩
  exact A0
 intro qK LR Mc qM;have Mf:qK 0=.pointer (some ⟨dS,0,none⟩):=(Sp.dO (qM 0 (by kernel_rfl))).1;have lG:qK 1=.pointer (some ⟨dS,0,none⟩):=(Sp.dO (qM 1 (by kernel_rfl))).1;have sh:qK 2=.pointer (some ⟨dS,0,none⟩):=(Sp.dO (qM 2 (by kernel_rfl))).1;have vd:qK 3=.pointer (some ⟨bc,0,none⟩):=(Sp.dO (qM 3 (by kernel_rfl))).1;have w9:qK 4=.pointer (some ⟨dS,0,none⟩):=(Sp.dO (qM 4 (by kernel_rfl))).1;have r_:qK 5=.pointer (some ⟨dS,0,none⟩):=(Sp.dO (qM 5 (by kernel_rfl))).1;have tJ:qK 6=.pointer (some ⟨dS,0,none⟩):=(Sp.dO (qM 6 (by kernel_rfl))).1;have si:qK 7=.pointer (some ⟨bc,0,none⟩):=(Sp.dO (qM 7 (by kernel_rfl))).1;have qD:qK 8=.pointer (some ⟨bc,0,none⟩):=(Sp.dO (qM 8 (by kernel_rfl))).1;have Hm:qK 9=.pointer (some ⟨bc,114,none⟩):=(Sp.dO (qM 9 (by kernel_rfl))).1;have G_:qK 10=.agg (aE .u8 32 hd):=(Sp.dO (qM 10 (by kernel_rfl))).1;have Tn:qK 11=.agg #[.int .i64 kd,.int .i64 so,.int .i64 sq,.int .i64 t.ah,.int .i64 co,.int .i64 ho]:=(Sp.dO (qM 11 (by kernel_rfl))).1;have To:qK 12=.agg (aE .u8 32 (xm hd (⟨kd,so,sq,t.ah,co,ho⟩:Sd.Rec))):=(Sp.dO (qM 12 (by kernel_rfl))).1;have zv:=qy.quiet Mc;refine⟨[.pointer (some ⟨dS,0,none⟩),.pointer (some ⟨dS,0,none⟩),.pointer (some ⟨dS,0,none⟩),.pointer (some ⟨bc,0,none⟩),.pointer (some ⟨dS,0,none⟩),.pointer (some ⟨dS,0,none⟩),.pointer (some ⟨dS,0,none⟩),.pointer (some ⟨bc,0,none⟩),.pointer (some ⟨bc,0,none⟩),.pointer (some ⟨bc,114,none⟩),.agg (aE .u8 32 hd),.agg #[.int .i64 kd,.int .i64 so,.int .i64 sq,.int .i64 t.ah,.int .i64 co,.int .i64 ho],.agg (aE .u8 32 (xm hd (⟨kd,so,sq,t.ah,co,ho⟩:Sd.Rec)))],by kernel_rfl,eB Mf (eB lG (eB sh (eB vd (eB w9 (eB r_ (eB tJ (eB si (eB qD (eB Hm (eB G_ (eB Tn (eB To (Dp))))))))))))),?_⟩;refine au (.pointer (some ⟨bc,0,none⟩)) ?_;refine au (.pointer (some ⟨bc,114,none⟩)) ?_;refine store_ zv 3 (.agg (aE .u8 32 (xm hd (⟨kd,so,sq,t.ah,co,ho⟩:Sd.Rec)))) bc 114 ?_;intro amt Mp;refine aW ?_;refine end_ rfl (gb [] [] (.tuple #[]) trivial) ?_;exact⟨Up,Uq,acr,rfl,anY rl _▸ny,Mp.re (R:=bs) [[⟨bJ,true,.cells #[.int .i64 kd,.int .i64 so,.int .i64 sq,.int .i64 t.ah,.int .i64 co,.int .i64 ho] 75 (0,0)⟩],[⟨1,false,.cells (aE .u32 64 cT) tG (0,0)⟩],[⟨dS,true,.cells #[.pointer (some ⟨bc,0,none⟩),.slice xs ns cs,.slice Up (n+1) Uq] 128 (0,0)⟩],[⟨bc,true,.cells (su p ka kn kc t bq D bt sa be mo mb pt (xm hd (⟨kd,so,sq,t.ah,co,ho⟩:Sd.Rec))) 105 (0,0)⟩],acr] [1,2,3,4]⟩
end
section
open Go Go.RowKit Go.BigFrame Sx Vx
structure One where
 a:Sd.Ask
 came:Int
def fJ:List One->Prop
 |[]=>True
 |[_]=>True
 |[x,y]=>x.a.bb<y.a.bb/\¬x.a.source=y.a.source
 |[x,y,z]=>(x.a.bb<y.a.bb/\x.a.bb<z.a.bb/\¬y.a.bb=z.a.bb)/\¬x.a.source=y.a.source/\¬x.a.source=z.a.source/\¬y.a.source=z.a.source
 |_=>False
def b_:List One->List Sd.Ask
 |[]=>[]
 |[x]=>[x.a]
 |[x,y]=>[x.a,y.a]
 |[x,y,z]=>if y.a.bb<z.a.bb then[x.a,y.a,z.a]else[x.a,z.a,y.a]
 |_=>[]
def an0 (t:One):Array ae:=#[.int .i64 t.a.source,.int .i64 t.a.bb,.int .i64 t.a.dp.n,.int .i64 t.a.dp.most,.int .u64 t.came]
def gL:List One->List ae
 |[]=>[]
 |e::es=>(an0 e).toList++gL es
def qN:List Sd.Ask->List ae
 |[]=>[]
 |e::es=>(pa e).toList++qN es
def QS (bq:Nat) (most:Int) (L:List Sd.Ask) (bl:List aj):Prop:=∃es x c came rows,bl=⟨bq,true,.cells #[.slice x es.length c,.int .i64 most,.int .u64 came] 146 (0,0)⟩::rows/\fu 5 162 (gL es) x es.length c rows/\fJ es/\b_ es=L
def tR (e:One):List V:=[.int .i64 e.a.source,.int .i64 e.a.bb,.int .i64 e.a.dp.n,.int .i64 e.a.dp.most,.int .u64 e.came]
def pg (a:Sd.Ask):List V:=[.int .i64 a.source,.int .i64 a.bb,.int .i64 a.dp.n,.int .i64 a.dp.most]
def fS:List One->List V
 |[]=>[]
 |e::l=>tR e++fS l
def dE (l:List One) (t:List ae):VB:=⟨true,⟨162,(0,0)⟩,fS l++[.rest t]⟩
def cv (v:V) (most came:Int):VB:=⟨true,⟨146,(0,0)⟩,[v,.int .i64 most,.int .u64 came]⟩
theorem xz (ids:List Nat):∀l:List One,ai ids (fS l)=gL l
 |[]=>rfl
 |a::l=>by rw[fS,iV,xz ids l];rfl
theorem Ur:∀l:List One,(gL l).length=l.length*5
 |[]=>rfl
 |a::l=>by simp only[gL,ft,Ur l,h_,ng];show 5+_=_;omega
def g9 (n:Nat) (f:fL) (args:List V) (bl:List VB) (K:VK Empty):Prop:=br (fW prog (λ_=>none) ([]:List (bR Empty)) (G0 prog) Lx) n f args bl [] K
theorem EA {n f n0:Nat} {args:List V} {bl:List VB} {K:VK Empty} (h:g9 n f args bl (bA n0 K)) {ids:List Nat} (hl:ids.length=bl.length) (hn:n0<=ids.length) {bs:List aj} {ms:List Nat} {w0 w:ag} (S:St ms w0 (lits ids ids bl++bs) w):
 aV prog f (aH ids args).toArray w λv w1=>∃x more b,v=den (ids.take n0++more) x/\(ids.take n0++more).length=b.length/\St ms w0 (lits (ids.take n0++more) (ids.take n0++more) b++bs) w1/\K x b []:=by
 refine(eO (aI.nil (G:=Empty) (P:=prog) (gl:=λ_=>none)).T (aI.nil (G:=Empty) (P:=prog) (gl:=λ_=>none)).Q n (C:=fW prog (λ_=>none) ([]:List (bR Empty)) (G0 prog) Lx) (ids:=ids) (bl:=bl) (ch:=[]) (R:=bs) Gl.none hl S h).mono ?_;rintro v w' ⟨y,more,bl',ch',rfl,h1,S',hK⟩
 match ch',S',hK with
 |[],S',hK=>
  obtain⟨v2,cJ,bl2,e,dv,S2,hK⟩:=iB (n0:=n0) h1 (by simp;omega) S' hK;rw[List.take_append_of_le_length hn]at e dv S2;exact⟨v2,cJ,bl2,e,dv,S2,hK⟩
 |e::_,_,_=>nomatch e
def KP (most:Int) (y:V) (M:List Sd.Ask):VK Empty:=λx b _=>x=y/\∃es cm,fJ es/\b_ es=M/\((es=[]/\b=[cv (.raw (.slice none 0 0)) most cm])\/∃c t,b=[cv (.sl 1 0 es.length c) most cm,⟨true,⟨162,(0,0)⟩,fS es++t⟩]/\bo 0 t=true/\es.length<=c/\ck (fS es++t)=c*5)
theorem acv {f:Nat} {ar:List V} {most came:Int} {y:V} {M:List Sd.Ask} {es:List One} {x:Option aQ} {c bq:Nat} {rows bs:List aj} {ms:List Nat} {w0 w:ag} (hy:cR 0 y=true) (hr:fu 5 162 (gL es) x es.length c rows)
 (hz:es=[]->g9 90 f (.ptr 0 0::ar) [cv (.raw (.slice none 0 0)) most came] (bA 1 (KP most y M)))
 (h:∀t,es.length<=c->ck (fS es++[.rest t])=c*5->g9 90 f (.ptr 0 0::ar) [cv (.sl 1 0 es.length c) most came,dE es t] (bA 1 (KP most y M)))
 (has:∀ids,aH ids ar=aH [] ar) (S:St ms w0 (⟨bq,true,.cells #[.slice x es.length c,.int .i64 most,.int .u64 came] 146 (0,0)⟩::(rows++bs)) w):
 aV prog f (#[.pointer (some ⟨bq,0,none⟩)]++(aH [] ar).toArray) w λv w1=>∃bl',v=den [] y/\QS bq most M bl'/\St ms w0 (bl'++bs) w1:=by
 have fin:∀ids:List Nat,(∃r,ids=bq::r)->aV prog f (aH ids (.ptr 0 0::ar)).toArray w (λv w1=>∃x more b,v=den (ids.take 1++more) x/\(ids.take 1++more).length=b.length/\St ms w0 (lits (ids.take 1++more) (ids.take 1++more) b++bs) w1/\KP most y M x b [])->
  aV prog f (#[.pointer (some ⟨bq,0,none⟩)]++(aH [] ar).toArray) w λv w1=>∃bl',v=den [] y/\QS bq most M bl'/\St ms w0 (bl'++bs) w1:=by
  rintro ids ⟨r,rfl⟩ hg;have e0:(aH (bq::r) (.ptr 0 0::ar)).toArray=#[.pointer (some ⟨bq,0,none⟩)]++(aH [] ar).toArray:=by
   apply fM;simp only[aH,den,has,Array.toList_append];rfl
  rw[e0]at hg;refine hg.mono ?_;rintro v w1 ⟨v2,more,b,rfl,hl,S1,rfl,tf,cm,hH,hA,hb⟩;simp only[List.take_succ_cons,Yu,AM]at hl S1⊢;have ey:den (bq::more) v2=den [] v2:=gf (ids:=[]) (more:=bq::more) v2 hy;rcases hb with⟨rfl,rfl⟩|⟨c',t,rfl,ht,hc,hs⟩
  ·obtain rfl:more=[]:=by simpa using hl
   exact⟨_,ey,⟨[],none,0,cm,[],rfl,yH _ _,hH,hA⟩,S1⟩
  ·match more,hl with
   |[b2],_=>
    have e1:ai [bq,b2] (fS tf++t)=gL tf++ai [] t:=by
     rw[iV,xz];exact congrArg _ (jg (ids:=[]) (more:=[bq,b2]) t ht)
    have e2:lits [bq,b2] [bq,b2] [cv (.sl 1 0 tf.length c') most cm,⟨true,⟨162,(0,0)⟩,fS tf++t⟩]=⟨bq,true,.cells #[.slice (some ⟨b2,0,none⟩) tf.length c',.int .i64 most,.int .u64 cm] 146 (0,0)⟩::[⟨b2,true,.cells (gL tf++ai [] t).toArray 162 (0,0)⟩]:=by
     rw[<-e1];rfl
    rw[e2]at S1;refine⟨_,ey,⟨tf,some ⟨b2,0,none⟩,c',cm,_,rfl,⟨Ur tf,hc,.inr ⟨b2,ai [] t,rfl,rfl,?_⟩⟩,hH,hA⟩,S1⟩;rw[<-e1,kY,hs]
 obtain⟨_,hle,j9⟩:=hr;rcases j9 with⟨rfl,h0,rfl,rfl⟩|⟨b,t,rfl,rfl,hlen⟩
 ·obtain rfl:es=[]:=nf h0;exact fin [bq] ⟨[],rfl⟩ (EA (hz rfl) rfl (by simp) S)
 ·have e3:lits [bq,b] [bq,b] [cv (.sl 1 0 es.length c) most came,dE es t]=⟨bq,true,.cells #[.slice (some ⟨b,0,none⟩) es.length c,.int .i64 most,.int .u64 came] 146 (0,0)⟩::[⟨b,true,.cells (gL es++t).toArray 162 (0,0)⟩]:=by
   simp only[lits,aD,dE,iV,xz,ai,cl,cH];rfl
  refine fin [bq,b] ⟨[b],rfl⟩ (EA (h t hle ?_) rfl (by simp) (by rw[e3];exact S));rw[<-kY (ids:=[]),iV,xz];simpa[ai,cl]using hlen
def EB (a b:One) (X Y:Prop):Prop:=cond (a.a.bb !=b.a.bb) (cond (decide (a.a.bb<b.a.bb)) X Y) (cond (decide (a.came<b.came)) X Y)
def zU (a b:One) (X Y:Prop):Prop:=cond (a.a.bb !=b.a.bb) (cond (!decide (a.a.bb<b.a.bb)) Y X) (cond (!decide (a.came<b.came)) Y X)
def Cc (s:Int) (tS:Nat->Prop) (H0:Prop):List One->Nat->Prop
 |[],_=>H0
 |e::l,i=>cond (e.a.source==s) (tS i) (Cc s tS H0 l (i+1))
def MJ (k:List One->Prop):List One->Nat->Prop
 |[a,b],0=>k [b,a]
 |[a,b,c],0=>zU b c (k [b,c,a]) (k [c,b,a])
 |[a,b,c],1=>zU c a (k [c,a,b]) (k [a,c,b])
 |l,_=>k l
def H7 (es:List One) (s:Int) (k:Bool->List One->Nat->Prop):Prop:=Cc s (λi=>MJ (λl=>k true l (es.length-1)) es i) (k false es es.length) es 0
theorem MK {a b:One} {X Y:Prop} (hr:¬a.a.bb=b.a.bb) (h1:a.a.bb<b.a.bb->X) (h2:b.a.bb<a.a.bb->Y):EB a b X Y:=by
 unfold EB;have e:(a.a.bb !=b.a.bb)=true:=by simpa using hr
 rw[e,cond_true];exact aM (λh=>h1 (of_decide_eq_true h)) λh=>h2 (by have:=of_decide_eq_false h;omega)
theorem ML {a b:One} {X Y:Prop} (hr:¬a.a.bb=b.a.bb) (h1:a.a.bb<b.a.bb->X) (h2:b.a.bb<a.a.bb->Y):zU a b X Y:=by
 unfold zU;have e:(a.a.bb !=b.a.bb)=true:=by simpa using hr
 rw[e,cond_true];exact aM (λh=>h2 (by have:¬a.a.bb<b.a.bb:=by simpa using h
                                      omega)) λh=>h1 (by simpa using h)
theorem an1 (s:Int) {k:Bool->List One->Nat->Prop}:∀{es:List One},fJ es->(∀b l m,b=Sd.Q.waits (b_ es) s->l.length=es.length->fJ (l.take m)->b_ (l.take m)=Sd.Q.drop (b_ es) s->m<=es.length->k b l m)->H7 es s k
 |[],hH,h=>h _ [] 0 rfl rfl trivial rfl (by simp)
 |[a],hH,h=>by
  simp only[H7,Cc,MJ];refine aM (λh1=>h _ _ _ ?_ rfl ?_ ?_ ?_) (λh1=>h _ _ _ ?_ rfl ?_ ?_ ?_)<;>simp at h1<;>simp[b_,fJ,Sd.Q.drop,Sd.Q.waits,h1]
 |[a,b],hH,h=>by
  simp only[H7,Cc,MJ];obtain⟨hr,hs⟩:=hH;have jA:¬b.a.source=a.a.source:=λh=>hs h.symm;refine aM (λh1=>?_) (λh1=>aM (λh2=>?_) (λh2=>?_));all_goals
   refine h _ _ _ ?_ rfl ?_ ?_ ?_<;>clear h;all_goals (simp only[beq_iff_eq,beq_eq_false_iff_ne,ne_eq]at*;subst_vars;simp[b_,fJ,Sd.Q.drop,Sd.Q.waits, *])
 |[a,b,c],hH,h=>by
  simp only[H7,Cc,MJ];obtain⟨⟨r1,r2,r3⟩,s1,s2,s3⟩:=hH;have s1':¬b.a.source=a.a.source:=λh=>s1 h.symm;have s2':¬c.a.source=a.a.source:=λh=>s2 h.symm;have s3':¬c.a.source=b.a.source:=λh=>s3 h.symm;have r4:b.a.bb<c.a.bb\/c.a.bb<b.a.bb:=by omega
  refine aM (λh1=>ML r3 (λh4=>?_) (λh4=>?_)) (λh1=>aM (λh2=>ML (by omega) (λh4=>absurd h4 (by omega)) (λh4=>?_)) (λh2=>aM (λh3=>?_) (λh3=>?_)));all_goals
   refine h _ _ _ ?_ rfl ?_ ?_ ?_<;>clear h;all_goals (rcases r4 with r4|r4<;>have r5:=Kg r4<;>simp only[beq_iff_eq,beq_eq_false_iff_ne,ne_eq]at*<;>subst_vars<;>simp[b_,fJ,Sd.Q.drop,Sd.Q.waits, *]<;>omega)
 |_::_::_::_::_,hH,_=>absurd hH (by simp[fJ])
def acw (x:One) (k:List One->Prop):List One->Prop
 |[]=>k [x]
 |[a]=>zU x a (k [x,a]) (k [a,x])
 |[a,b]=>zU x a (k [x,b,a]) (k [a,b,x])
 |[a,b,c]=>zU x b (zU x a (k [x,a,c,b]) (k [a,x,c,b])) (k [a,b,c,x])
 |_=>False
theorem an2 (x:One) {k:List One->Prop}:∀{es:List One},fJ es->es.length<3->(∀e∈b_ es,¬e.source=x.a.source/\¬e.bb=x.a.bb)->(∀l,l.length=es.length+1->fJ l->b_ l=Sd.Q.insert (b_ es) x.a->k l)->acw x k es
 |[],hH,_,_,h=>h _ rfl trivial rfl
 |[a],hH,_,hr,h=>by
  obtain⟨h1,h2⟩:=hr a.a (by simp[b_]);have Us:¬x.a.source=a.a.source:=λh=>h1 h.symm;refine ML (by omega) (λh4=>h _ rfl ?_ ?_) (λh4=>h _ rfl ?_ ?_)<;>clear h<;>have h5:=Kg h4<;>have h6:=Int.le_of_lt h4<;>have h7:=Int.not_le.2 h4<;>simp[b_,fJ,Sd.Q.insert,List.takeWhile,List.dropWhile, *]
 |[a,b],hH,_,hr,h=>by
  obtain⟨r1,s1⟩:=hH;obtain⟨h1,h2⟩:=hr a.a (by simp[b_]);obtain⟨g1,g2⟩:=hr b.a (by simp[b_]);have Us:¬x.a.source=a.a.source:=λh=>h1 h.symm;have My:¬x.a.source=b.a.source:=λh=>g1 h.symm;have s1':¬b.a.source=a.a.source:=λh=>s1 h.symm;have r4:b.a.bb<x.a.bb\/x.a.bb<b.a.bb:=by omega
  refine ML (by omega) (λh4=>h _ rfl ?_ ?_) (λh4=>h _ rfl ?_ ?_)<;>clear h hr<;>rcases r4 with r4|r4<;>have r5:=Kg r4<;>have r6:=Int.le_of_lt r4<;>have r7:=Int.not_le.2 r4<;>have h5:=Kg h4<;>have h6:=Int.le_of_lt h4<;>have h7:=Int.not_le.2 h4<;>have r8:=Kg r1<;>
   simp[b_,fJ,Sd.Q.insert,List.takeWhile,List.dropWhile, *]<;>omega
 |_::_::_::_,_,hl,_,_=>absurd hl (by simp)
def acx (k:List One->Prop):List One->Prop
 |[a,b]=>EB b a (k [b,a]) (k [a,b])
 |[a,b,c]=>EB b a (S b a c) (S a b c)
 |l=>k l
where S (p q c:One):Prop:=EB c q (EB c p (k [c,p,q]) (k [p,c,q])) (k [p,q,c])
theorem an3 {k:List One->Prop}:∀{es:List One},fJ es->(∀l,l.map (·.a)=b_ es->l.length=es.length->k l)->acx k es
 |[],hH,h=>h _ rfl rfl
 |[a],hH,h=>h _ rfl rfl
 |[a,b],hH,h=>MK (by obtain⟨r,_⟩:=hH;omega) (λh4=>absurd h4 (by obtain⟨r,_⟩:=hH;omega)) λ_=>h _ rfl rfl
 |[a,b,c],hH,h=>by
  obtain⟨⟨r1,r2,r3⟩,_⟩:=hH;refine MK (by omega) (λh4=>absurd h4 (by omega)) λ_=>MK (by omega) (λh4=>MK (by omega) (λh5=>absurd h5 (by omega)) λ_=>h _ ?_ rfl) λh4=>h _ ?_ rfl
  ·simp[b_,Kg h4]
  ·simp[b_,h4]
 |_::_::_::_::_,hH,_=>absurd hH (by simp[fJ])
theorem H8 {most cm:Int} {y:V} {M:List Sd.Ask} {l:List One} {m c:Nat} {t:List ae} (hm:m<=l.length) (hc:l.length<=c) (hs:ck (fS l++[.rest t])=c*5) (hH:fJ (l.take m)) (hA:b_ (l.take m)=M):KP most y M y [cv (.sl 1 0 m c) most cm,dE l t] []:=by
 have e1:(l.take m).length=m:=by rw[vQ];omega
 have e2:∀a b:List One,fS (a++b)=fS a++fS b:=λa b=>by
  induction a with
  |nil=>rfl
  |cons x a ih=>simp only[fe,fS,ih,bU]
 have e3:fS l++[.rest t]=fS (l.take m)++(fS (l.drop m)++[.rest t]):=by
  rw[<-bU,<-e2,jS]
 have e4:∀l:List One,bo 0 (fS l++[.rest t])=true:=λl=>by
  induction l with
  |nil=>rfl
  |cons x l ih=>simp only[fS,tR,fe,fi,bo,ih];rfl
 refine⟨rfl,l.take m,cm,hH,hA,.inr ⟨c,fS (l.drop m)++[.rest t],?_,e4 _,by omega,by rw[<-e3];exact hs⟩⟩;rw[e1,<-e3];rfl
theorem xA (t:List ae):∀l:List One,ck (fS l++[.rest t])=l.length*5+t.length
 |[]=>by simp[fS,ck,KJ]
 |e::l=>by
  have:=xA t l;simp only[fS,tR,fe,fi,ck,KJ,this,h_];omega
section
variable(e0 e1 e2:One) (n c:Nat) (t:List ae) (most came s:Int) (K:VK Empty)
def dK (l:List One):Prop:=H7 l s λr l m=>K (.bool r) [cv (.sl 1 0 m c) most came,dE l t] []
theorem an4:g9 90 86 [.ptr 0 0,.int .i64 s] [cv (.raw (.slice none 0 0)) most came] (bA 1 K)=K (.bool false) [cv (.raw (.slice none 0 0)) most came] []:=by kernel_rfl
theorem an5:g9 90 86 [.ptr 0 0,.int .i64 s] [cv (.sl 1 0 0 c) most came,dE [] t] (bA 1 K)=dK c t most came s K []:=by kernel_rfl
theorem an6:g9 90 86 [.ptr 0 0,.int .i64 s] [cv (.sl 1 0 [e0].length (c+[e0].length)) most came,dE [e0] t] (bA 1 K)=dK (c+[e0].length) t most came s K [e0]:=by kernel_rfl
theorem an7:g9 90 86 [.ptr 0 0,.int .i64 s] [cv (.sl 1 0 [e0,e1].length (c+[e0,e1].length)) most came,dE [e0,e1] t] (bA 1 K)=dK (c+[e0,e1].length) t most came s K [e0,e1]:=by kernel_rfl
theorem an8:g9 90 86 [.ptr 0 0,.int .i64 s] [cv (.sl 1 0 [e0,e1,e2].length (c+[e0,e1,e2].length)) most came,dE [e0,e1,e2] t] (bA 1 K)=dK (c+[e0,e1,e2].length) t most came s K [e0,e1,e2]:=by kernel_rfl
end
theorem an9 {c:Nat} {t:List ae} {most came s:Int} {K:VK Empty}:∀{es:List One},fJ es->dK (c+es.length) t most came s K es->Hd (g9 90 86 [.ptr 0 0,.int .i64 s] [cv (.sl 1 0 es.length (c+es.length)) most came,dE es t] (bA 1 K))
 |[],_,h=>⟨by rw[Kc,an5];exact h⟩
 |[e0],_,h=>⟨by rw[an6];exact h⟩
 |[e0,e1],_,h=>⟨by rw[an7];exact h⟩
 |[e0,e1,e2],_,h=>⟨by rw[an8];exact h⟩
 |_::_::_::_::_,hH,_=>absurd hH (by simp[fJ])
theorem an_ {es:List One} (hH:fJ es) {most came s:Int} {c:Nat} {t:List ae} (hc:es.length<=c) (hs:ck (fS es++[.rest t])=c*5):dK c t most came s (KP most (.bool (Sd.Q.waits (b_ es) s)) (Sd.Q.drop (b_ es) s)) es:=
 an1 s hH λb l m hb hl h1 h2 hm=>by
  subst hb;exact H8 (by omega) (by omega) (by rw[<-hs,xA,xA,hl]) h1 h2
theorem aoa {bq:Nat} {most:Int} {L:List Sd.Ask} {bl bs:List aj} {ms:List Nat} {w0 w:ag} (s:Int) (hQ:QS bq most L bl) (S0:St ms w0 (bl++bs) w):
 aV prog 86 #[.pointer (some ⟨bq,0,none⟩),.int .i64 s] w λv w1=>∃bl',v=.bool (Sd.Q.waits L s)/\QS bq most (Sd.Q.drop L s) bl'/\St ms w0 (bl'++bs) w1:=by
 obtain⟨es,x,c,came,rows,rfl,hr,hH,rfl⟩:=hQ;refine acv (f:=86) (ar:=[.int .i64 s]) (y:=.bool (Sd.Q.waits (b_ es) s)) rfl hr (λh0=>?_) (λt hc hs=>?_) (λ_=>rfl) S0
 ·subst h0;rw[an4];exact⟨rfl,[],came,trivial,rfl,.inl ⟨rfl,rfl⟩⟩
 ·have h:=an_ hH (most:=most) (came:=came) (s:=s) hc hs;obtain⟨d,hd⟩:∃d,c=d+es.length:=⟨c-es.length,by omega⟩;rw[hd]at h⊢;exact(an9 hH h).h
section
variable(e0 e1 e2:One) (a:Sd.Ask) (c:Nat) (t:List ae) (most came:Int) (K:VK Empty)
def pK (es:List One) (n c':Nat) (u:List ae):Prop:=acw ⟨a,came⟩ (λl=>K (.int .i64 0) [cv (.sl 1 0 n c') most (u64.wrap (came+1)),dE l u] []) es
def pX (es:List One):Prop:=Cc a.source (λ_=>K (.int .i64 27) [cv (.sl 1 0 es.length c) most came,dE es t] []) (cond (decide ((es.length:Int)>=most)) (K (.int .i64 3) [cv (.sl 1 0 es.length c) most came,dE es t] [])
 ((es.length<=c/\ck (fS es++[.rest t])=c*5)/\(∀(c':Nat) (u:List ae),es.length+1<=c'->ck (fS (es++[⟨a,came⟩])++[.rest u])=c'*5->pK a most came K es (es.length+1) c' u)/\
   (∀(c':Nat) (u:List ae),es.length+1<=c'->ck (fS (es++[⟨a,came⟩])++[.rest u])=c'*5->pK a most came K es (es.length+1) c' u))) es 0
theorem aob:g9 90 216 [.ptr 0 0,.agg (pg a)] [cv (.raw (.slice none 0 0)) most came] (bA 1 K)=cond (decide ((0:Int)>=most)) (K (.int .i64 3) [cv (.raw (.slice none 0 0)) most came] [])
 (∀(c':Nat) (u:List ae),1<=c'->ck (fS [⟨a,came⟩]++[.rest u])=c'*5->pK a most came K [] 1 c' u):=by kernel_rfl
theorem aoc:g9 90 216 [.ptr 0 0,.agg (pg a)] [cv (.sl 1 0 0 0) most came,dE [] t] (bA 1 K)=cond (decide ((0:Int)>=most)) (K (.int .i64 3) [cv (.sl 1 0 0 0) most came,dE [] t] [])
 (∀(c':Nat) (u:List ae),1<=c'->ck (fS [⟨a,came⟩]++[.rest u])=c'*5->pK a most came K [] 1 c' u):=by kernel_rfl
theorem aod:g9 90 216 [.ptr 0 0,.agg (pg a)] [cv (.sl 1 0 0 (c+1)) most came,dE [] t] (bA 1 K)=pX a (c+1) t most came K []:=by kernel_rfl
theorem aoe:g9 90 216 [.ptr 0 0,.agg (pg a)] [cv (.sl 1 0 [e0].length c) most came,dE [e0] t] (bA 1 K)=pX a c t most came K [e0]:=by kernel_rfl
theorem aof:g9 90 216 [.ptr 0 0,.agg (pg a)] [cv (.sl 1 0 [e0,e1].length c) most came,dE [e0,e1] t] (bA 1 K)=pX a c t most came K [e0,e1]:=by kernel_rfl
theorem aog:g9 90 216 [.ptr 0 0,.agg (pg a)] [cv (.sl 1 0 [e0,e1,e2].length c) most came,dE [e0,e1,e2] t] (bA 1 K)=pX a c t most came K [e0,e1,e2]:=by kernel_rfl
end
def KS (n:Nat) (B:List VB) (M:List Sd.Ask):VK Empty:=λx b _=>∃l c u,x=.sl 2 0 n c/\b=B++[dE l u]/\l.map (·.a)=M/\l.length=n/\n<=c/\ck (fS l++[.rest u])=c*5
section
variable(e0 e1 e2:One) (c:Nat) (t:List ae) (most came:Int) (K:VK Empty)
def sX (es:List One):Prop:=∀(c':Nat) (u:List ae),es.length<=c'->ck (fS es++[.rest u])=c'*5->acx (λl=>K (.sl 2 0 es.length c') [cv (.sl 1 0 es.length c) most came,dE es t,dE l u] []) es
theorem aoh:g9 90 68 [.ptr 0 0] [cv (.raw (.slice none 0 0)) most came] (bA 1 K)=K (.raw (.slice none 0 0)) [cv (.raw (.slice none 0 0)) most came] []:=by kernel_rfl
theorem aoi:g9 90 68 [.ptr 0 0] [cv (.sl 1 0 0 c) most came,dE [] t] (bA 2 K)=K (.sl 2 0 0 0) [cv (.sl 1 0 0 c) most came,dE [] t,⟨true,⟨162,(0,0)⟩,[]⟩] []:=by kernel_rfl
theorem aoj:g9 90 68 [.ptr 0 0] [cv (.sl 1 0 [e0].length (c+[e0].length)) most came,dE [e0] t] (bA 2 K)=sX (c+[e0].length) t most came K [e0]:=by kernel_rfl
theorem aol:g9 90 68 [.ptr 0 0] [cv (.sl 1 0 [e0,e1].length (c+[e0,e1].length)) most came,dE [e0,e1] t] (bA 2 K)=sX (c+[e0,e1].length) t most came K [e0,e1]:=by kernel_rfl
theorem aom:g9 90 68 [.ptr 0 0] [cv (.sl 1 0 [e0,e1,e2].length (c+[e0,e1,e2].length)) most came,dE [e0,e1,e2] t] (bA 2 K)=sX (c+[e0,e1,e2].length) t most came K [e0,e1,e2]:=by kernel_rfl
def mf (b:VB):VB:=⟨false,b.ty,b.c⟩
def kr:List Sd.Ask->Sd.Ask×Int
 |[]=>(⟨0,0,⟨0,0⟩⟩,2)
 |a::_=>(a,0)
def hV (l:List Sd.Ask):V:=.av [.agg (pg (kr l).1),.int .i64 (kr l).2]
theorem aon:g9 30 213 [.ptr 0 0] [mf (cv (.raw (.slice none 0 0)) most came)] (bA 0 K)=K (hV []) [] []:=by kernel_rfl
theorem aoo:g9 30 213 [.ptr 0 0] [mf (cv (.sl 1 0 0 c) most came),mf (dE [] t)] (bA 0 K)=K (hV []) [] []:=by kernel_rfl
theorem aop:g9 30 213 [.ptr 0 0] [mf (cv (.sl 1 0 [e0].length c) most came),mf (dE [e0] t)] (bA 0 K)=K (hV [e0.a]) [] []:=by kernel_rfl
theorem aoq:g9 30 213 [.ptr 0 0] [mf (cv (.sl 1 0 [e0,e1].length c) most came),mf (dE [e0,e1] t)] (bA 0 K)=K (hV [e0.a]) [] []:=by kernel_rfl
theorem aor:g9 30 213 [.ptr 0 0] [mf (cv (.sl 1 0 [e0,e1,e2].length c) most came),mf (dE [e0,e1,e2] t)] (bA 0 K)=K (hV [e0.a]) [] []:=by kernel_rfl
end
def H9 (n:Nat) (es:List One) (k0:Option aQ->Nat->Prop) (k:Nat->List One->List ae->Prop):Prop:=match n with
 |0=>∀(x:Option aQ) (c:Nat),k0 x c
 |1=>∀(a:One) (c:Nat) (t:List ae),[a.a]=b_ es->k c [a] t
 |2=>∀(a b:One) (c:Nat) (t:List ae),[a.a,b.a]=b_ es->k c [a,b] t
 |3=>∀(a b d:One) (c:Nat) (t:List ae),[a.a,b.a,d.a]=b_ es->k c [a,b,d] t
 |_=>False
def MM (n:Nat) (es:List One) (most came:Int):dc bm:=λargs bl ch K=>match args,bl,ch with
 |[.ptr 0 0],[b],[g1,g2,g]=>(b=cv g.v most came/\g.T=162/\g.z=5/\g.os=gL es/\g.n=es.length/\es.length=n/\fJ es)/\H9 n es (λx c=>K (.raw (.slice x 0 c)) bl ch) (λc l t=>K (.sl 1 0 n c) (bl++[dE l t]) ch)
 |_,_,_=>False
def apps (r:bm) (news:List ae) (k:bm->Prop):Prop:=(r.v=r.v/\r.n+1<=1000000)/\∀(xa:Option aQ) (c:Nat) (bk:List aj) (h:fu r.z r.T (r.os++news) xa (r.n+1) c bk),k ⟨r.T,r.z,r.os++news,xa,r.n+1,c,bk,h⟩
def xB (g:bm) (T z:Nat) (os:List ae) (n:Nat):Prop:=g.T=T/\g.z=z/\g.os=os/\g.n=n
theorem Ut:∀a b:List Sd.Ask,qN (a++b)=qN a++qN b
 |[],b=>rfl
 |x::a,b=>by simp only[fe,qN,Ut a b,bU]
theorem Uu {r:bm} {news:List ae} {k:bm->Prop} {T z n:Nat} {os:List ae} (h:xB r T z os n) (hn:n<100) (hk:∀r',xB r' T z (os++news) (n+1)->k r'):apps r news k:=by
 obtain⟨rfl,rfl,rfl,rfl⟩:=h;exact⟨⟨rfl,by omega⟩,λxa c bk hh=>hk _ ⟨rfl,rfl,rfl,rfl⟩⟩
theorem Uv {es:List One} (h:fJ es):(b_ es).length=es.length/\es.length<=3:=by
 match es,h with
 |[],_=>simp[b_]
 |[x],_=>simp[b_]
 |[x,y],h=>simp[b_]
 |[x,y,z],h=>simp only[b_];split<;>simp
 |_::_::_::_::_,h=>exact absurd h (by simp[fJ])
theorem aos {n:Nat} {es l:List One} {k0:Option aQ->Nat->Prop} {k:Nat->List One->List ae->Prop} (h:H9 n es k0 k) (hl:l.length=n) (hm:l.map (·.a)=b_ es):(n=0->∀x c,k0 x c)/\(0<n->∀c t,k c l t):=by
 match l,n,hl with
 |[],0,_=>exact⟨λ_=>h,λh=>by omega⟩
 |[a],1,_=>exact⟨λh=>by omega,λ_ c t=>h a c t hm⟩
 |[a,b],2,_=>exact⟨λh=>by omega,λ_ c t=>h a b c t hm⟩
 |[a,b,d],3,_=>exact⟨λh=>by omega,λ_ c t=>h a b d c t hm⟩
 |_::_::_::_::_,n+4,_=>exact h.elim
theorem acy {n:Nat} {es:List One} {k0:Option aQ->Nat->Prop} {k:Nat->List One->List ae->Prop} (hn:n<=3) (h0:n=0->∀x c,k0 x c) (h:∀l c t,l.map (·.a)=b_ es->l.length=n->k c l t):H9 n es k0 k:=by
 match n,hn with
 |0,_=>exact h0 rfl
 |1,_=>exact λa c t hm=>h [a] c t hm rfl
 |2,_=>exact λa b c t hm=>h [a,b] c t hm rfl
 |3,_=>exact λa b d c t hm=>h [a,b,d] c t hm rfl
theorem aot {c:Nat} {t:List ae} {most came:Int} {K:VK Empty}:∀{es:List One},fJ es->0<es.length->sX (c+es.length) t most came K es->Hd (g9 90 68 [.ptr 0 0] [cv (.sl 1 0 es.length (c+es.length)) most came,dE es t] (bA 2 K))
 |[],_,h0,_=>absurd h0 (by simp)
 |[e0],_,_,h=>⟨by rw[aoj];exact h⟩
 |[e0,e1],_,_,h=>⟨by rw[aol];exact h⟩
 |[e0,e1,e2],_,_,h=>⟨by rw[aom];exact h⟩
 |_::_::_::_::_,hH,_,_=>absurd hH (by simp[fJ])
theorem aou {es:List One} {x:Option aQ} {c bq:Nat} {most came:Int} {rows bs:List aj} {ms:List Nat} {w0 w:ag} (j9:fu 5 162 (gL es) x es.length c rows) (hH:fJ es)
 (S0:St ms w0 (⟨bq,true,.cells #[.slice x es.length c,.int .i64 most,.int .u64 came] 146 (0,0)⟩::(rows++bs)) w):
 aV prog 68 #[.pointer (some ⟨bq,0,none⟩)] w λv w1=>∃l xr cr rw,v=.slice xr es.length cr/\l.map (·.a)=b_ es/\l.length=es.length/\(es.length=0\/fu 5 162 (gL l) xr es.length cr rw)/\St ms w0 (rw++(⟨bq,true,.cells #[.slice x es.length c,.int .i64 most,.int .u64 came] 146 (0,0)⟩::(rows++bs))) w1:=by
 obtain⟨_,hle,j9⟩:=j9;rcases j9 with⟨rfl,h0,rfl,rfl⟩|⟨b,t,rfl,rfl,hlen⟩
 ·obtain rfl:es=[]:=nf h0;refine(EA (f:=68) (n:=90) (args:=[.ptr 0 0]) (n0:=1) (K:=λx b _=>x=.raw (.slice none 0 0)/\b=[cv (.raw (.slice none 0 0)) most came]) (ids:=[bq]) (bl:=[cv (.raw (.slice none 0 0)) most came]) (by rw[aoh];exact⟨rfl,rfl⟩) rfl (by simp) S0).mono ?_;rintro v w1 ⟨x,more,b,rfl,hl,S1,rfl,rfl⟩;obtain rfl:more=[]:=by simpa using hl
  exact⟨[],none,0,[],rfl,rfl,rfl,.inl rfl,S1⟩
 ·have e3:lits [bq,b] [bq,b] [cv (.sl 1 0 es.length c) most came,dE es t]=⟨bq,true,.cells #[.slice (some ⟨b,0,none⟩) es.length c,.int .i64 most,.int .u64 came] 146 (0,0)⟩::[⟨b,true,.cells (gL es++t).toArray 162 (0,0)⟩]:=by
   simp only[lits,aD,dE,iV,xz,ai,cl,cH];rfl
  have S1:St ms w0 (lits [bq,b] [bq,b] [cv (.sl 1 0 es.length c) most came,dE es t]++bs) w:=by rw[e3];exact S0
  rcases vP es.length with h0|h0
  ·obtain rfl:es=[]:=nf h0;refine(EA (f:=68) (n:=90) (args:=[.ptr 0 0]) (n0:=2) (K:=λx b _=>x=.sl 2 0 0 0/\b=[cv (.sl 1 0 0 c) most came,dE [] t,⟨true,⟨162,(0,0)⟩,[]⟩]) (ids:=[bq,b]) (by rw[show([]:List One).length=0 from rfl,aoi];exact⟨rfl,rfl⟩) rfl (by simp) S1).mono ?_;rintro v w1 ⟨x,more,bl',rfl,hl,S2,rfl,rfl⟩
   match more,hl with
   |[b2],_=>
    refine⟨[],some ⟨b2,0,none⟩,0,[],rfl,rfl,rfl,.inl rfl,?_⟩;have e5:lits [bq,b,b2] [bq,b,b2] [cv (.sl 1 0 0 c) most came,dE [] t,⟨true,⟨162,(0,0)⟩,[]⟩]=[⟨bq,true,.cells #[.slice (some ⟨b,0,none⟩) 0 c,.int .i64 most,.int .u64 came] 146 (0,0)⟩,⟨b,true,.cells (gL []++t).toArray 162 (0,0)⟩]++[⟨b2,true,.cells #[] 162 (0,0)⟩]:=by
     simp only[fe,fi,lits,aD,dE,fS,gL,ai,cl,cH];rfl
    have e4:([bq,b].take 2++[b2]:List Nat)=[bq,b,b2]:=rfl;rw[e4,e5]at S2;have:=S2.sub (agN (List.sublist_append_left [_,_] _) bs);exact this
  ·have cS:g9 90 68 [.ptr 0 0] [cv (.sl 1 0 es.length c) most came,dE es t] (bA 2 (KS es.length [cv (.sl 1 0 es.length c) most came,dE es t] (b_ es))):=by
    have h:sX c t most came (KS es.length [cv (.sl 1 0 es.length c) most came,dE es t] (b_ es)) es:=λc' u h1 h2=>an3 hH λl hm hl=>⟨l,c',u,rfl,rfl,hm,hl,h1,by rw[<-h2,xA,xA,hl]⟩;clear hlen e3 S0 S1;obtain⟨d,hd⟩:∃d,c=d+es.length:=⟨c-es.length,by omega⟩;rw[hd]at h⊢;exact(aot hH h0 h).h
   refine(EA cS (ids:=[bq,b]) rfl (by simp) S1).mono ?_;rintro v w1 ⟨x,more,bl',rfl,hl,S2,l,c',u,rfl,rfl,hm,MN,yT,dM⟩
   match more,hl with
   |[b2],_=>
    have e4:([bq,b].take 2++[b2]:List Nat)=[bq,b,b2]:=rfl;have e5:lits [bq,b,b2] [bq,b,b2] ([cv (.sl 1 0 es.length c) most came,dE es t]++[dE l u])=⟨bq,true,.cells #[.slice (some ⟨b,0,none⟩) es.length c,.int .i64 most,.int .u64 came] 146 (0,0)⟩::⟨b,true,.cells (gL es++t).toArray 162 (0,0)⟩::[⟨b2,true,.cells (gL l++u).toArray 162 (0,0)⟩]:=by
     simp only[fe,fi,lits,aD,dE,iV,xz,ai,cl,cH];rfl
    rw[e4,e5]at S2;refine⟨l,some ⟨b2,0,none⟩,c',[⟨b2,true,.cells (gL l++u).toArray 162 (0,0)⟩],rfl,hm,MN,.inr ⟨by rw[Ur,MN],yT,.inr ⟨b2,u,rfl,rfl,?_⟩⟩,?_⟩
    ·rw[<-dM,<-kY (ids:=[]),iV,xz];simp[ai,cl]
    ·exact S2.perm ((FC bs (List.perm_append_comm (l₁:=[_,_]) (l₂:=[_]))))
theorem acz (n:Nat) (es:List One) (most came:Int):Sound prog (λ_=>none) 68 (MM n es most came):=by
 intro args ids bl ch R ms w0 w K hg hl S hc;unfold MM at hc;split at hc
 ·rename_i b g1 g2 g;obtain⟨⟨rfl,hT,hz,zV,hn,rfl,hH⟩,hK⟩:=hc
  match ids,hl with
  |[i],_=>
   have e1:lits [i] [i] [cv g.v most came]=[⟨i,true,.cells #[.slice g.x g.n g.c,.int .i64 most,.int .u64 came] 146 (0,0)⟩]:=rfl;have p1:∀(q:aj) (A B D:List aj),(([q]:List aj)++(A++(B++(D++R)))).Perm (q::(D++(A++(B++R)))):=by
    intro q A B D;refine uq q ?_;have:=pM (A++B) D R;simpa[bU]using this
   rw[e1]at S;have S1:=S.perm (p1 _ g1.bl g2.bl g.bl);have hr:=g.h;rw[hT,hz,zV,hn]at hr;rw[hn]at S1;refine(aou hr hH S1).mono ?_;rintro v w1 ⟨l,xr,cr,rw_,rfl,hm,MN,j9,S2⟩;obtain⟨k0,k1⟩:=aos hK MN hm;rcases vP es.length with h0|h0
   ·refine⟨_,[],_,_,?_,rfl,?_,k0 h0 xr cr⟩
    ·simp only[den];rw[h0]
    ·have S3:=S2.sub (mA rw_ _);rw[<-hn]at S3;have S4:=S3.perm (p1 _ g1.bl g2.bl g.bl).symm;exact S4
   ·rcases j9 with h|h
    ·omega
    ·obtain⟨_,_,h3⟩:=h;rcases h3 with⟨_,hz,_⟩|⟨b,t,hx,Uw,_⟩
     ·omega
     ·refine⟨_,[b],_,_,?_,rfl,?_,k1 h0 cr t⟩
      ·simp only[den];rw[hx];rfl
      ·rw[Uw,<-hn]at S2;have e2:lits ([i]++[b]) ([i]++[b]) ([cv g.v most came]++[dE l t])=[⟨i,true,.cells #[.slice g.x g.n g.c,.int .i64 most,.int .u64 came] 146 (0,0)⟩]++[⟨b,true,.cells (gL l++t).toArray 162 (0,0)⟩]:=by
        simp only[AM,lits,aD,dE,iV,xz,ai,cl,cH];rfl
       rw[e2];refine S2.perm ?_;refine(pL _ (p1 _ g1.bl g2.bl g.bl).symm).trans ?_;rw[bU];exact pM _ _ _
 ·exact hc.elim
theorem Ux {es:List One} (h:fJ es) (x:Sd.Ask):x∈b_ es↔∃e∈es,e.a=x:=by
 match es,h with
 |[],_=>simp[b_]
 |[a],_=>simp[b_,eq_comm]
 |[a,b],_=>simp[b_,eq_comm]
 |[a,b,d],_=>
  simp only[b_];split<;>simp[eq_comm];exact or_congr_right or_comm
 |_::_::_::_::_,h=>exact absurd h (by simp[fJ])
theorem acA {s:Int} {tS:Nat->Prop} {H0:Prop}:∀{es:List One} {i:Nat},((∃e∈es,e.a.source=s)->∀i,tS i)->((∀e∈es,¬e.a.source=s)->H0)->Cc s tS H0 es i
 |[],_,_,h2=>h2 (by simp)
 |e::l,i,h1,h2=>aM (λh=>h1 ⟨e,by simp,by simpa using h⟩ i) λh=>acA (λ⟨x,hx,hs⟩=>h1 ⟨x,by simp[hx],hs⟩) λhl=>h2 λx hx=>by
  rcases cn.1 hx with rfl|hx
  ·simpa using h
  ·exact hl x hx
theorem aov {es:List One} (hH:fJ es) {a:Sd.Ask} {most came:Int} {c:Nat} {t:List ae} (hm:most<=3) (hr:∀e∈b_ es,e.source=a.source\/¬e.bb=a.bb) (hc:es.length<=c) (hs:ck (fS es++[.rest t])=c*5):
 pX a c t most came (KP most (.int .i64 (Sd.Q.push most (b_ es) a).2) (Sd.Q.push most (b_ es) a).1) es:=by
 obtain⟨MO,nx⟩:=Uv hH;have same:∀k:Int,Sd.Q.push most (b_ es) a=(b_ es,k)->KP most (.int .i64 (Sd.Q.push most (b_ es) a).2) (Sd.Q.push most (b_ es) a).1 (.int .i64 k) [cv (.sl 1 0 es.length c) most came,dE es t] []:=λk hk=>by
  rw[hk];exact H8 (dH _) hc hs (by rw[Yv];exact hH) (by rw[Yv])
 refine acA (λ⟨e,he,hse⟩ _=>same 27 ?_) λrQ=>aM (λh=>same 3 ?_) λh=>?_
 ·have:Sd.Q.waits (b_ es) a.source=true:=AD.2 ⟨e.a,(Ux hH _).2 ⟨e,he,rfl⟩,by simpa using hse⟩;simp[Sd.Q.push,this]
 all_goals
  have hw:Sd.Q.waits (b_ es) a.source=false:=List.any_eq_false.2 λx hx=>by
   obtain⟨e,he,rfl⟩:=(Ux hH _).1 hx;simpa using rQ e he
 ·have h':most<=((b_ es).length:Int):=by rw[MO];exact of_decide_eq_true h
  simp[Sd.Q.push,hw,h']
 ·have h':¬most<=(es.length:Int):=of_decide_eq_false h;have e1:Sd.Q.push most (b_ es) a=(Sd.Q.insert (b_ es) a,0):=by simp[Sd.Q.push,hw,MO,h']
  rw[e1];have X:∀(c':Nat) (u:List ae),es.length+1<=c'->ck (fS (es++[⟨a,came⟩])++[.rest u])=c'*5->pK a most came (KP most (.int .i64 0) (Sd.Q.insert (b_ es) a)) es (es.length+1) c' u:=λc' u h1 h2=>by
   refine an2 ⟨a,came⟩ hH (by omega) (λe he=>?_) λl hl Uy hA'=>?_
   ·obtain⟨x,hx,rfl⟩:=(Ux hH _).1 he;exact⟨rQ x hx,(hr _ he).resolve_left (rQ x hx)⟩
   ·exact H8 (by omega) (by omega) (by rw[<-h2,xA,xA,hl,ft];rfl) (by rw[<-hl,Yv];exact Uy) (by rw[<-hl,Yv];exact hA')
  exact⟨⟨hc,hs⟩,X,X⟩
theorem acB {a:Sd.Ask} {most came:Int} (t:List ae) {B:List VB} (hB:B=[cv (.raw (.slice none 0 0)) most came]\/B=[cv (.sl 1 0 0 0) most came,dE [] t]/\t.length=0):
 cond (decide ((0:Int)>=most)) (KP most (.int .i64 (Sd.Q.push most (b_ []) a).2) (Sd.Q.push most (b_ []) a).1 (.int .i64 3) B [])
  (∀(c':Nat) (u:List ae),1<=c'->ck (fS [⟨a,came⟩]++[.rest u])=c'*5->pK a most came (KP most (.int .i64 (Sd.Q.push most (b_ []) a).2) (Sd.Q.push most (b_ []) a).1) [] 1 c' u):=by
 refine aM (λh=>?_) λh c' u h1 h2=>?_
 ·have h':most<=0:=of_decide_eq_true h;have e1:Sd.Q.push most (b_ []) a=([],3):=by simp[Sd.Q.push,Sd.Q.waits,b_,h']
  rw[e1];rcases hB with rfl|⟨rfl,ht⟩
  ·exact⟨rfl,[],came,trivial,rfl,.inl ⟨rfl,rfl⟩⟩
  ·exact H8 (l:=[]) (dH _) (dH _) (by rw[xA,ht];rfl) trivial rfl
 ·have h':¬most<=0:=of_decide_eq_false h;have e1:Sd.Q.push most (b_ []) a=([a],0):=by simp[Sd.Q.push,Sd.Q.waits,Sd.Q.insert,b_,h']
  rw[e1];exact H8 (l:=[⟨a,came⟩]) (m:=1) (dH _) h1 h2 trivial rfl
theorem aow {a:Sd.Ask} {t:List ae} {most came:Int} {K:VK Empty}:∀{es:List One} {c:Nat},fJ es->0<es.length+c->pX a c t most came K es->Hd (g9 90 216 [.ptr 0 0,.agg (pg a)] [cv (.sl 1 0 es.length c) most came,dE es t] (bA 1 K))
 |[],0,_,h0,_=>absurd h0 (by simp)
 |[],c+1,_,_,h=>⟨by rw[Kc,aod];exact h⟩
 |[e0],_,_,_,h=>⟨by rw[aoe];exact h⟩
 |[e0,e1],_,_,_,h=>⟨by rw[aof];exact h⟩
 |[e0,e1,e2],_,_,_,h=>⟨by rw[aog];exact h⟩
 |_::_::_::_::_,_,hH,_,_=>absurd hH (by simp[fJ])
theorem aox {bq:Nat} {most:Int} {L:List Sd.Ask} {bl bs:List aj} {ms:List Nat} {w0 w:ag} (a:Sd.Ask) (hQ:QS bq most L bl) (hm:most<=3) (hr:∀e∈L,e.source=a.source\/¬e.bb=a.bb) (S0:St ms w0 (bl++bs) w):
 aV prog 216 #[.pointer (some ⟨bq,0,none⟩),.agg (pa a)] w λv w1=>∃bl',v=.int .i64 (Sd.Q.push most L a).2/\QS bq most (Sd.Q.push most L a).1 bl'/\St ms w0 (bl'++bs) w1:=by
 obtain⟨es,x,c,came,rows,rfl,fZ,hH,rfl⟩:=hQ;refine acv (f:=216) (ar:=[.agg (pg a)]) (y:=.int .i64 (Sd.Q.push most (b_ es) a).2) rfl fZ (λh0=>?_) (λt hc hs=>?_) (λ_=>rfl) S0
 ·subst h0;rw[aob];exact acB [] (.inl rfl)
 ·rcases vP (es.length+c)with h0|h0
  ·obtain rfl:es=[]:=nf (by omega);obtain rfl:c=0:=by simpa using h0
   rw[Kc,aoc];exact acB t (.inr ⟨rfl,by rw[xA]at hs;simpa using hs⟩)
  ·exact(aow hH h0 (aov hH (came:=came) hm hr hc hs)).h
theorem aoy {c:Nat} {t:List ae} {most came:Int} {K:VK Empty}:∀{es:List One},fJ es->K (hV (b_ es)) [] []->Hd (g9 30 213 [.ptr 0 0] [mf (cv (.sl 1 0 es.length c) most came),mf (dE es t)] (bA 0 K))
 |[],_,h=>⟨by rw[Kc,aoo];exact h⟩
 |[e0],_,h=>⟨by rw[aop];exact h⟩
 |[e0,e1],_,h=>⟨by rw[aoq];exact h⟩
 |[e0,e1,e2],_,h=>⟨by
  have e:hV (b_ [e0,e1,e2])=hV [e0.a]:=by simp only[b_];split<;>rfl
  rw[e]at h;rw[aor];exact h⟩
 |_::_::_::_::_,hH,_=>absurd hH (by simp[fJ])
theorem aoz {bq:Nat} {most:Int} {L:List Sd.Ask} {bl bs:List aj} {ms:List Nat} {w0 w:ag} (hQ:QS bq most L bl) (S0:St ms w0 (bl++bs) w):
 aV prog 213 #[.pointer (some ⟨bq,0,none⟩)] w λv w1=>v=.tuple #[.agg (pa (kr L).1),.int .i64 (kr L).2]/\Ch [] w w1:=by
 obtain⟨es,x,c,came,rows,rfl,⟨_,hle,j9⟩,hH,rfl⟩:=hQ;have hq:=S0.at' (x:=⟨bq,true,.cells #[.slice x es.length c,.int .i64 most,.int .u64 came] 146 (0,0)⟩) (by simp);have fin:∀{ids:List Nat} {bl:List VB},(∃r,ids=bq::r)->ids.length=bl.length->g9 30 213 [.ptr 0 0] bl (bA 0 λv b _=>v=hV (b_ es))->St [] w (lits ids ids bl++[]) w->aV prog 213 #[.pointer (some ⟨bq,0,none⟩)] w λv w1=>v=.tuple #[.agg (pa (kr (b_ es)).1),.int .i64 (kr (b_ es)).2]/\Ch [] w w1:=by
  rintro ids bl ⟨r,rfl⟩ hl h S;refine(EA h hl (by simp) S).mono ?_;rintro v w1 ⟨v2,more,b,rfl,_,S1,rfl⟩;exact⟨rfl,S1.ch⟩
 rcases j9 with⟨rfl,h0,rfl,rfl⟩|⟨b,t,rfl,rfl,hlen⟩
 ·obtain rfl:es=[]:=nf h0;exact fin (ids:=[bq]) (bl:=[mf (cv (.raw (.slice none 0 0)) most came)]) ⟨[],rfl⟩ rfl (by rw[aon];rfl) (St.given [(bq,_)] (by intro p hp;simp only[iH]at hp;subst hp;exact hq))
 ·have hb:=S0.at' (x:=⟨b,true,.cells (gL es++t).toArray 162 (0,0)⟩) (by simp);have e3:ai [bq,b] (fS es++[.rest t])=gL es++t:=by rw[iV,xz];simp[ai,cl]
  have S:St [] w (lits [bq,b] [bq,b] [mf (cv (.sl 1 0 es.length c) most came),mf (dE es t)]++[]) w:=
   St.given [(bq,.cells (ai [bq,b] [.sl 1 0 es.length c,.int .i64 most,.int .u64 came]).toArray 146 (0,0)),(b,.cells (ai [bq,b] (fS es++[.rest t])).toArray 162 (0,0))] (by
    intro p hp;simp only[cn,pN,or_false]at hp;rcases hp with rfl|rfl
    ·exact hq
    ·rw[e3];exact hb)
  exact fin ⟨[b],rfl⟩ rfl (aoy hH rfl).h S
def MP (most came:Int) (gq g2:bm) (K:VK bm):List One->List VB->bm->Prop
 |[],j,g1=>K g1.v (cv gq.v most came::j) [g1,g2,gq]
 |e::l,j,g1=>apps g1 (ai [] (pg e.a)) λg1=>MP most came gq g2 K l (j++[⟨true,⟨162,(0,0)⟩,tR e⟩,⟨true,⟨112,(0,0)⟩,pg e.a⟩]) g1
def H_ (n:Nat) (most came:Int) (gq:bm) (es:List One) (K:VK bm):Prop:=
 (cv gq.v most came=cv gq.v most came/\gq.T=162/\gq.z=5/\gq.os=gL es/\gq.n=es.length/\es.length=n/\fJ es)/\H9 n es (λx c=>MP most came gq (.nil 162 5) K [] [] (.nil 112 4)) (λc l t=>MP most came gq (.nil 162 5) K l [dE l t] (.nil 112 4))
section
variable(most came:Int) (gq:bm) (es:List One) (K:VK bm)
abbrev LL (n:Nat) (es:List One) (most came:Int):List (bR bm):=[⟨68,false,MM n es most came⟩]
theorem aoA:br (l7 prog (λ_=>none) (LL 0 es most came)) 60 39 [.ptr 0 0] [cv gq.v most came] [.nil 112 4,.nil 162 5,gq] K=H_ 0 most came gq es K:=by kernel_rfl
theorem aoB:br (l7 prog (λ_=>none) (LL 1 es most came)) 60 39 [.ptr 0 0] [cv gq.v most came] [.nil 112 4,.nil 162 5,gq] K=H_ 1 most came gq es K:=by kernel_rfl
theorem aoC:br (l7 prog (λ_=>none) (LL 2 es most came)) 60 39 [.ptr 0 0] [cv gq.v most came] [.nil 112 4,.nil 162 5,gq] K=H_ 2 most came gq es K:=by kernel_rfl
theorem aoD:br (l7 prog (λ_=>none) (LL 3 es most came)) 60 39 [.ptr 0 0] [cv gq.v most came] [.nil 112 4,.nil 162 5,gq] K=H_ 3 most came gq es K:=by kernel_rfl
end
def KL (most came:Int) (gq g2:bm) (M:List Sd.Ask):VK bm:=λv bl ch=>∃(j:List VB) (g1:bm),v=g1.v/\bl=cv gq.v most came::j/\ch=[g1,g2,gq]/\xB g1 112 4 (qN M) M.length
theorem Uz (most came:Int) (gq g2:bm) {M:List Sd.Ask}:∀(l:List One) (j:List VB) (g1:bm) (G:List Sd.Ask),xB g1 112 4 (qN G) G.length->G.length+l.length<100->G++l.map (·.a)=M->MP most came gq g2 (KL most came gq g2 M) l j g1
 |[],j,g1,G,h1,_,hM=>⟨j,g1,rfl,rfl,rfl,by rw[<-hM];simpa using h1⟩
 |e::l,j,g1,G,h1,l1,hM=>by
  simp only[h_]at l1;exact Uu h1 (by omega) λr' hr=>Uz most came gq g2 l _ r' (G++[e.a]) (by rw[Ut,ft];exact hr) (by simp;omega) (by rw[<-hM];simp)
theorem aoE {bq:Nat} {most:Int} {L:List Sd.Ask} {bl bs:List aj} {ms:List Nat} {w0 w:ag} (hQ:QS bq most L bl) (S0:St ms w0 (bl++bs) w):
 aV prog 39 #[.pointer (some ⟨bq,0,none⟩)] w λv w1=>∃x c1 rows,v=.slice x L.length c1/\fu 4 112 (qN L) x L.length c1 rows/\St ms w0 (rows++(bl++bs)) w1:=by
 obtain⟨es,x,c,came,rows,rfl,hr,hH,rfl⟩:=hQ;obtain⟨MO,nx⟩:=Uv hH
 let gq:bm:=⟨162,5,gL es,x,es.length,c,rows,hr⟩
 have S1:St ms w0 (lits [bq] [bq] [cv gq.v most came]++aC [bm.nil 112 4,.nil 162 5,gq] bs) w:=by simpa[lits,aC,Bl.B,bm.nil,gq,aD,cv,bm.v,ai,cl,den]using S0
 have hA:H_ es.length most came gq es (KL most came gq (.nil 162 5) (b_ es)):=
  ⟨⟨rfl,rfl,rfl,rfl,rfl,rfl,hH⟩,acy nx (λh0 x c=>Uz most came gq _ [] [] _ [] ⟨rfl,rfl,rfl,rfl⟩ (by simp) (by rw[nf h0];rfl)) (λl c t hm hl=>Uz most came gq _ l _ _ [] ⟨rfl,rfl,rfl,rfl⟩ (by simp;omega) (by simpa using hm))⟩
 have cS:br (l7 prog (λ_=>none) (LL es.length es most came)) 60 39 [.ptr 0 0] [cv gq.v most came] [.nil 112 4,.nil 162 5,gq] (KL most came gq (.nil 162 5) (b_ es)):=by
  rcases(by omega:es.length=0\/es.length=1\/es.length=2\/es.length=3)with h|h|h|h<;>rw[h]at hA⊢
  ·rw[aoA];exact hA
  ·rw[aoB];exact hA
  ·rw[aoC];exact hA
  ·rw[aoD];exact hA
 have dw:aI prog (λ_=>none) (LL es.length es most came):=aI.cons ⟨acz _ es most came,λe=>by cases e⟩ aI.nil;refine(eO dw.TR dw.QR 60 (C:=l7 prog (λ_=>none) (LL es.length es most came)) (args:=[.ptr 0 0]) (λg i h=>by cases h) rfl S1 cS).mono ?_;rintro _ w' ⟨xx,more,bl',ch',rfl,mS,S3,j,g1,rfl,rfl,rfl,t1,t2,t3,t4⟩;have jG:=g1.h;rw[t1,t2,t3,t4]at jG;refine⟨g1.x,g1.c,g1.bl,by simp only[bm.v,den];rw[t4],jG,?_⟩;have e1:lits ([bq]++more) ([bq]++more) (cv gq.v most came::j)=⟨bq,true,.cells #[.slice x es.length c,.int .i64 most,.int .u64 came] 146 (0,0)⟩::lits ([bq]++more) more j:=rfl;rw[e1]at S3;have S4:=S3.sub (bs':=⟨bq,true,.cells #[.slice x es.length c,.int .i64 most,.int .u64 came] 146 (0,0)⟩::(g1.bl++(rows++bs))) (by
  rw[fe];exact Df _ (mA _ _))
 exact S4.perm jU.symm
structure LK where
 ka:Nat->Option aQ
 kn:Nat->Nat
 kc:Nat->Nat
 kf:Nat->Nat->Int
 bq:Nat
 tg:aJ
 tc:aJ
 most:Int
 px:Option aQ
 pn:Nat
 pc:Nat
 pf:Sd.ao
structure FD where
 k:LK
 q:List Sd.Ask
 bg:List (Int×Sd.aF)
 bH:List Sd.Rec
inductive Cd (fr:Sd.aF->Nat×Sd.ao):List (Int×Sd.aF)->List ae->List aj->Prop
 |nil:Cd fr [] [] []
 |snoc {l olds bl} (h:Cd fr l olds bl) (k:Int) (r:Sd.aF) (x:Option aQ) (c:Nat) (b:List aj) (hb:ff 5 (fr r).1 (fr r).2 x c b):Cd fr (l++[(k,r)]) (olds++[.int .i64 k,.slice x (fr r).1 c]) (bl++b)
structure aX (fr:Sd.aF->Nat×Sd.ao) (d:FD) where
 xs:Option aQ
 cs:Nat
 xr:Option aQ
 cr:Nat
 Bq:List aj
 Br:List aj
 Bs:List aj
 Bf:List aj
 Bk:List aj
 so:List ae
 hq:QS d.k.bq d.k.most d.q Bq
 hr:fu 6 75 (vh d.bH) xr d.bH.length cr Br
 hs:fu 2 85 so xs d.bg.length cs Bs
 hf:Cd fr d.bg so Bf
 hk:∃b0 b1 b2 b3 b4,Bk=b0++(b1++(b2++(b3++b4)))/\ff 5 (d.k.kn 0) (d.k.kf 0) (d.k.ka 0) (d.k.kc 0) b0/\ff 5 (d.k.kn 1) (d.k.kf 1) (d.k.ka 1) (d.k.kc 1) b1/\ff 5 (d.k.kn 2) (d.k.kf 2) (d.k.ka 2) (d.k.kc 2) b2/\ff 5 (d.k.kn 3) (d.k.kf 3) (d.k.ka 3) (d.k.kc 3) b3/\ff 5 d.k.pn d.k.pf d.k.px d.k.pc b4
variable{fr:Sd.aF->Nat×Sd.ao}
def aX.B {d:FD} (F:aX fr d):List aj:=F.Br++(F.Bs++(F.Bf++(F.Bq++F.Bk)))
def aX.vs {d:FD} (F:aX fr d):ae:=.slice F.xs d.bg.length F.cs
def aX.vr {d:FD} (F:aX fr d):ae:=.slice F.xr d.bH.length F.cr
structure Gh (fr:Sd.aF->Nat×Sd.ao) where
 d:FD
 dx:Nat->Sd.eC
 sx:Nat->Sd.fN
 F:aX fr d
instance:Bl (Gh fr):=⟨λg=>g.F.B⟩
def r3 {α:Type} (a b c:α) (f:Nat->α):Nat->α:=λj=>match j with|0=>a|1=>b|2=>c|j+3=>f (j+3)
theorem MQ {α:Type} (f:Nat->α):r3 (f 0) (f 1) (f 2) f=f:=by funext j;match j with|0=>rfl|1=>rfl|2=>rfl|j+3=>rfl
structure CC where
 p:Sd.aO
 ka:Nat->Option aQ
 kn:Nat->Nat
 kc:Nat->Nat
 t:Sd.Tok
 vq:ae
 d0:Sd.eC
 d1:Sd.eC
 d2:Sd.eC
 it:Nat
 sa:Int
 be:Int
 mo:Int
 mb:Sd.Label
 pt:Sd.e_
 hd:Nat->Int
def EC (x:CC):List V:=[.dz x.p x.ka x.kn x.kc,.int .i64 x.t.aG,.int .i64 x.t.ah,.int .i64 x.t.offer,.int .i64 x.t.oa.n,.int .i64 x.t.oa.most,.int .i64 x.t.la.n,.int .i64 x.t.la.most,.bool x.t.bad,.raw x.vq,
 .int .i64 x.d0.many,.bool x.d0.iA,.bS .u8 8 x.d0.aA,.int .i64 x.d1.many,.bool x.d1.iA,.bS .u8 8 x.d1.aA,.int .i64 x.d2.many,.bool x.d2.iA,.bS .u8 8 x.d2.aA,.ptr x.it 0,.int .i64 x.sa,.int .i64 x.be,.int .i64 x.mo,
 .int .i64 x.mb.lZ,.int .i64 x.mb.source,.int .i64 x.mb.seq,.int .i64 x.pt.cls,.int .i64 x.pt.aT.a,.int .i64 x.pt.aT.b,.int .i64 x.pt.aT.c,.int .i64 x.pt.aT.d,.int .i64 x.pt.now.a,.int .i64 x.pt.now.b,.int .i64 x.pt.now.c,.int .i64 x.pt.now.d,
 .int .i64 x.pt.bx.lZ,.int .i64 x.pt.bx.source,.int .i64 x.pt.bx.seq,.bS .u8 32 x.hd]
def Ce:List V->Option CC
 |.dz p ka kn kc::.int .i64 t1::.int .i64 t2::.int .i64 t3::.int .i64 t4::.int .i64 t5::.int .i64 t6::.int .i64 t7::.bool t8::.raw vq::.int .i64 a1::.bool a2::.bS .u8 8 a3::.int .i64 b1::.bool b2::.bS .u8 8 b3::.int .i64 c1::.bool c2::.bS .u8 8 c3::.ptr it 0::.int .i64 sa::.int .i64 be::.int .i64 mo::.int .i64 l1::.int .i64 l2::.int .i64 l3::.int .i64 p1::.int .i64 p2::.int .i64 p3::.int .i64 p4::.int .i64 p5::.int .i64 p6::.int .i64 p7::.int .i64 p8::.int .i64 p9::.int .i64 q1::.int .i64 q2::.int .i64 q3::.bS .u8 32 hd::[]=>some ⟨p,ka,kn,kc,⟨t1,t2,t3,⟨t4,t5⟩,⟨t6,t7⟩,t8⟩,vq,⟨a1,a2,a3⟩,⟨b1,b2,b3⟩,⟨c1,c2,c3⟩,it,sa,be,mo,⟨l1,l2,l3⟩,⟨p1,⟨p2,p3,p4,p5⟩,⟨p6,p7,p8,p9⟩,⟨q1,q2,q3⟩⟩,hd⟩
 |_=>none
theorem Ia {l:List V} {x:CC} (h:Ce l=some x):l=EC x:=by
 unfold Ce at h;split at h
 ·obtain rfl:=cG h;rfl
 ·cases h
structure TC where
 s1:Bool
 sn:Int
 sm:Int
 s0:Sd.fN
 sa:Sd.fN
 sb:Sd.fN
 b:Int
 m:Int
def qO (x:Sd.fN):List V:=[.bool x.on,.int .i64 x.cI.n,.int .i64 x.cI.most,.int .i64 x.role,.bS .u8 32 x.key,.bool x.seen.any,.int .i64 x.seen.high,.int .u64 x.seen.seen]
def cM (x:TC):List V:=.bool x.s1::.int .i64 x.sn::.int .i64 x.sm::(qO x.s0++(qO x.sa++(qO x.sb++[.int .i64 x.b,.int .i64 x.m])))
def sw:List V->Option TC
 |[.bool s1,.int .i64 sn,.int .i64 sm,.bool a1,.int .i64 a2,.int .i64 a3,.int .i64 a4,.bS .u8 32 a5,.bool a6,.int .i64 a7,.int .u64 a8,.bool b1,.int .i64 b2,.int .i64 b3,.int .i64 b4,.bS .u8 32 b5,.bool b6,.int .i64 b7,.int .u64 b8,
  .bool c1,.int .i64 c2,.int .i64 c3,.int .i64 c4,.bS .u8 32 c5,.bool c6,.int .i64 c7,.int .u64 c8,.int .i64 b,.int .i64 m]=>some ⟨s1,sn,sm,⟨a1,⟨a2,a3⟩,a4,a5,⟨a6,a7,a8⟩⟩,⟨b1,⟨b2,b3⟩,b4,b5,⟨b6,b7,b8⟩⟩,⟨c1,⟨c2,c3⟩,c4,c5,⟨c6,c7,c8⟩⟩,b,m⟩
 |_=>none
theorem xC {l:List V} {x:TC} (h:sw l=some x):l=cM x:=by
 unfold sw at h;split at h
 ·obtain rfl:=cG h;rfl
 ·cases h
def fG (x:CC) (y:TC) (d:FD) (dx:Nat->Sd.eC) (sx:Nat->Sd.fN):Sd.aa:=
 ⟨⟨x.p,x.t,d.q,r3 x.d0 x.d1 x.d2 dx,⟨(y.s1,⟨y.sn,y.sm⟩),r3 y.s0 y.sa y.sb sx⟩,x.sa,x.be,x.mo,x.mb,x.pt,x.hd⟩,d.bg,d.bH⟩
def mg (k:LK) (it:Nat) (s:Sd.aa):CC:=⟨s.c.p,k.ka,k.kn,k.kc,s.c.t,.pointer (some ⟨k.bq,0,none⟩),s.c.doors 0,s.c.doors 1,s.c.doors 2,it,s.c.samples,s.c.beyond,s.c.mode,s.c.d_,s.c.pt,s.c.head⟩
def vi (s:Sd.aa):TC:=⟨s.c.af.cN.1,s.c.af.cN.2.n,s.c.af.cN.2.most,s.c.af.ak 0,s.c.af.ak 1,s.c.af.ak 2,s.c.p.bV,s.c.p.fj⟩
def aU (k:LK) (s:Sd.aa):FD:=⟨k,s.c.q,s.bg,s.bH⟩
def cw (k:LK):VB:=⟨false,k.tg,[.bS .u32 64 cT]⟩
def iQ (k:LK):VB:=⟨false,k.tc,[.bool false,.bool false,.bool false,.bool false,.bool false,.bool false,.bool false,.bool false,.bool false,.bool false,.bool true,.bool true]⟩
def tT (ic:Nat) {d:FD} (F:aX fr d):VB:=⟨true,⟨128,(0,0)⟩,[.ptr ic 0,.raw F.vs,.raw F.vr]⟩
def g_ (k:LK) (it:Nat) (s:Sd.aa):VB:=⟨true,⟨105,(0,0)⟩,EC (mg k it s)⟩
def gM (s:Sd.aa):VB:=⟨true,⟨157,(0,0)⟩,cM (vi s)⟩
def bK (k:LK) (s:Sd.aa) (F:aX fr (aU k s)):List VB:=[cw k,iQ k,tT 3 F,g_ k 4 s,gM s]
def bj (k:LK) (s:Sd.aa) (F:aX fr (aU k s)):Gh fr:=⟨aU k s,s.c.doors,s.c.af.ak,F⟩
def gS:Nat->Option Nat
 |1=>some 0
 |0=>some 1
 |_=>none
abbrev SK (fr:Sd.aF->Nat×Sd.ao) (k:LK):=V->(s:Sd.aa)->aX fr (aU k s)->Prop
abbrev SM (fr:Sd.aF->Nat×Sd.ao):=List V->(k:LK)->(s:Sd.aa)->aX fr (aU k s)->SK fr k->Prop
def xD (bl:List VB) (is ic it:Nat) (k:LK) (s:Sd.aa) (F:aX fr (aU k s)):List VB:=((bl.set is (tT ic F)).set ic (g_ k it s)).set it (gM s)
def ie (M:SM fr):dc (Gh fr):=λargs bl ch K=>match args,ch with
 |.ptr is 0::ar,g::rest=>(match bl[is]?with
  |some ⟨true,⟨128,(0,0)⟩,[.ptr ic 0,.raw vs,.raw vr]⟩=>(match bl[ic]?with
   |some ⟨true,⟨105,(0,0)⟩,cc⟩=>(match Ce cc with
    |some x=>(match bl[x.it]?with
     |some ⟨true,⟨157,(0,0)⟩,tc⟩=>(match sw tc with
      |some y=>cond (bo 0 ar&&(cD 1 is&&(cD 1 ic&&(cD 1 x.it&&(!(az is ic)&&(!(az is x.it)&&!(az ic x.it)))))))
       ((vs=g.F.vs/\vr=g.F.vr/\bl[0]?=some (cw g.d.k)/\bl[1]?=some (iQ g.d.k)/\x=mg g.d.k x.it (fG x y g.d g.dx g.sx)/\y.b=x.p.bV/\y.m=x.p.fj/\x.p.queue=g.d.k.most)/\
         M ar g.d.k (fG x y g.d g.dx g.sx) g.F λv s' F'=>K v (xD bl is ic x.it g.d.k s' F') (bj g.d.k s' F'::rest)) False
      |none=>False)
     |_=>False)
    |none=>False)
   |_=>False)
  |_=>False)
 |_,_=>False
end
section
open Go Go.RowKit Go.BigFrame Sx Vx
variable{fr:Sd.aF->Nat×Sd.ao}
def dk:VB:=⟨false,⟨0,(0,0)⟩,[]⟩
theorem aoF {ids:List Nat}:∀(is:List Nat) (bl:List VB),is.length=bl.length->lits ids is bl=(bw bl.length).map λj=>aD ids (is.getD j 0) (bl.getD j dk):=by
 intro is bl h;apply vR;intro j;by_cases hj:j<bl.length
 ·have hb:bl[j]?=some bl[j]:=jv hj;rw[KZ is bl h hb,jt,nV hj];simp[ir,hb]
 ·rw[jc (by rw[yR is bl h];omega),jc (by simp;omega)]
theorem zW {bl:List VB} {ids:List Nat} (h:ids.length=bl.length) {is:List Nat} (hn:is.Nodup) (dL:∀i∈is,i<bl.length):
 ∃r:List Nat,(∀j∈r,j∉is)/\∀bl':List VB,bl'.length=bl.length->(lits ids ids bl').Perm (is.map (λj=>aD ids (ids.getD j 0) (bl'.getD j dk))++r.map λj=>aD ids (ids.getD j 0) (bl'.getD j dk)):=by
 obtain⟨r,hr⟩:=F_ is (bw bl.length) hn (λx hx=>List.mem_range.2 (dL x hx));refine⟨r,?_,?_⟩
 ·intro j hj hji;have tB:(is++r).Nodup:=hr.nodup_iff.1 List.nodup_range;rw[List.nodup_append]at tB;exact tB.2.2 j hji j hj rfl
 ·intro bl' hl;rw[aoF ids bl' (by omega),hl,<-rk];exact hr.map _
theorem aoG {bl:List VB} {ids r:List Nat} {a b c:Nat} {x y z:VB} (hr:∀j∈r,j≠a/\j≠b/\j≠c):
 (r.map λj=>aD ids (ids.getD j 0) ((((bl.set a x).set b y).set c z).getD j dk))=r.map λj=>aD ids (ids.getD j 0) (bl.getD j dk):=by
 apply pI;intro j hj;obtain⟨h1,h2,h3⟩:=hr j hj;simp only[ir,List.getElem?_set];rw[if_neg (Ne.symm h3),if_neg (Ne.symm h2),if_neg (Ne.symm h1)]
theorem iY {bl:List VB} {i:Nat} {b:VB} (h:bl[i]?=some b):bl.getD i dk=b:=by simp[ir,h]
theorem nC {ids ids':List Nat} {n:Nat} {b:VB} (h:bo 0 b.c=true):aD ids n b=aD ids' n b:=by
 have e1:ai ids b.c=ai [] b.c:=by have:=jg (ids:=[]) (more:=ids) b.c h;simpa using this
 have e2:ai ids' b.c=ai [] b.c:=by have:=jg (ids:=[]) (more:=ids') b.c h;simpa using this
 unfold aD;rw[e1,e2]
abbrev bW (a b c:Nat):List Nat:=[1,0,a,b,c]
theorem aoH {ids:List Nat} {ic a b c:Nat} (n:Nat) {d:FD} (F:aX fr d) (h:ids.getD ic 0=b):aD ids n (tT ic F)=aD (bW a b c) n (tT 3 F):=by
 have e:(bW a b c).getD 3 0=b:=rfl;simp only[aD,tT,ai,cl,den,h,e]
theorem aoI {ids:List Nat} {it a b c:Nat} (n:Nat) {k:LK} {s:Sd.aa} (h:ids.getD it 0=c):aD ids n (g_ k it s)=aD (bW a b c) n (g_ k 4 s):=by
 have e:(bW a b c).getD 4 0=c:=rfl;simp only[aD,g_,EC,mg,ai,cl,den,h,e]
def Body (f:fL) (M:SM fr):Prop:=∀(ar:List V) (k:LK) (s:Sd.aa) (F:aX fr (aU k s)) (Kb:SK fr k) (a b c:Nat) (R:List aj) (ms:List Nat) (w0 w:ag),bo 0 ar=true->s.c.p.queue=k.most->M ar k s F Kb->
 St ms w0 (lits (bW a b c) (bW a b c) (bK k s F)++(F.B++R)) w->
 aV prog f (aH (bW a b c) (.ptr 2 0::ar)).toArray w λv w'=>∃x s' F',v=den [] x/\cR 0 x=true/\s'.c.p=s.c.p/\Kb x s' F'/\St ms w0 (lits (bW a b c) (bW a b c) (bK k s' F')++(F'.B++R)) w'
theorem Ib (s:Sd.aa):bo 0 (gM s).c=true:=rfl
theorem Ic (k:LK):bo 0 (cw k).c=true:=rfl
theorem acC (k:LK):bo 0 (iQ k).c=true:=rfl
structure MR (ids:List Nat) (bl:List VB) (is ic it:Nat) (k:LK) (s:Sd.aa) (F:aX fr (aU k s)):Prop where
 h0:bl[0]?=some (cw k)
 h1:bl[1]?=some (iQ k)
 hs:bl[is]?=some (tT ic F)
 hc:bl[ic]?=some (g_ k it s)
 ht:bl[it]?=some (gM s)
theorem acD {ids:List Nat} {bl:List VB} {is ic it:Nat} {k:LK} {s:Sd.aa} {F:aX fr (aU k s)} (H:MR ids bl is ic it k s F) (hg:Gl gS ids):
 ([0,1,is,ic,it].map λj=>aD ids (ids.getD j 0) (bl.getD j dk))=lits (bW (ids.getD is 0) (ids.getD ic 0) (ids.getD it 0)) (bW (ids.getD is 0) (ids.getD ic 0) (ids.getD it 0)) (bK k s F):=by
 have g0:=(hg 1 0 rfl).2;have g1:=(hg 0 1 rfl).2;simp only[eF,s8,iY H.h0,iY H.h1,iY H.hs,iY H.hc,iY H.ht,g0,g1,bK,lits];rw[nC (ids':=bW (ids.getD is 0) (ids.getD ic 0) (ids.getD it 0)) (Ic k),nC (ids':=bW (ids.getD is 0) (ids.getD ic 0) (ids.getD it 0)) (acC k),nC (ids':=bW (ids.getD is 0) (ids.getD ic 0) (ids.getD it 0)) (Ib s),
  aoH (a:=ids.getD is 0) (c:=ids.getD it 0) _ F rfl,aoI (a:=ids.getD is 0) (b:=ids.getD ic 0) _ rfl]
theorem zX {bl:List VB} {i:Nat} {b:VB} (h:i<bl.length):(bl.set i b)[i]?=some b:=by simp[h]
theorem kO {bl:List VB} {i j:Nat} {b:VB} (h:i≠j):(bl.set i b)[j]?=bl[j]?:=by rw[List.getElem?_set];simp[h]
theorem iZ {bl:List VB} {i:Nat} {b:VB} (h:bl[i]?=some b):i<bl.length:=by
 rcases cZ i bl.length with h'|h'
 ·exact h'
 ·simp[h']at h
theorem aoJ {ids:List Nat} {bl:List VB} {is ic it:Nat} {k:LK} {s:Sd.aa} {F:aX fr (aU k s)} (H:MR ids bl is ic it k s F) (h1:1<is) (h2:1<ic) (h3:1<it) (n1:is≠ic) (n2:is≠it) (n3:ic≠it) {s':Sd.aa} (F':aX fr (aU k s')):
 MR ids (xD bl is ic it k s' F') is ic it k s' F':=by
 have l1:=iZ H.hs;have l2:=iZ H.hc;have l3:=iZ H.ht;unfold xD;refine⟨?_,?_,?_,?_,?_⟩
 ·rw[kO (by omega),kO (by omega),kO (by omega)];exact H.h0
 ·rw[kO (by omega),kO (by omega),kO (by omega)];exact H.h1
 ·rw[kO (by omega),kO (by omega),zX l1]
 ·rw[kO (by omega),zX (by simpa using l2)]
 ·rw[zX (by simpa using l3)]
theorem aoK {f:Nat} {M:SM fr} (h:Body f M):Sound prog gS f (ie M):=by
 intro args ids bl ch R ms w0 w K hg hl S hc;unfold ie at hc;split at hc
 ·rename_i is ar g rest;split at hc
  ·rename_i ic vs vr hs;split at hc
   ·rename_i cc rM;split at hc
    ·rename_i x hx;split at hc
     ·rename_i tc vj;split at hc
      ·rename_i y hy;cases hq:bo 0 ar&&(cD 1 is&&(cD 1 ic&&(cD 1 x.it&&(!(az is ic)&&(!(az is x.it)&&!(az ic x.it))))))with
       |false=>rw[hq]at hc;exact hc.elim
       |true=>
        rw[hq]at hc;simp only[bu,my,iG]at hq;obtain⟨q0,q1,q2,q3,q4,q5,q6⟩:=hq;have n1:is≠ic:=λe=>by rw[e,sY]at q4;cases q4
        have n2:is≠x.it:=λe=>by rw[e,sY]at q5;cases q5
        have n3:ic≠x.it:=λe=>by rw[e,sY]at q6;cases q6
        obtain⟨⟨e1,e2,e3,e4,e5,e6,e7,e8⟩,hM⟩:=hc;obtain rfl:=Ia hx;obtain rfl:=xC hy;subst e1 e2;have H:MR ids bl is ic x.it g.d.k (fG x y g.d g.dx g.sx) (show aX fr (aU g.d.k (fG x y g.d g.dx g.sx))from g.F):=by
         refine⟨e3,e4,hs,?_,?_⟩
         ·rw[rM];congr 1;unfold g_;rw[<-e5]
         ·rw[vj];congr 1;unfold gM;have:y=vi (fG x y g.d g.dx g.sx):=by
           obtain⟨y1,y2,y3,y4,y5,y6,y7,y8⟩:=y;simp only at e6 e7;subst e6 e7;rfl
          rw[<-this]
        have l1:=iZ H.hs;have l2:=iZ H.hc;have l3:=iZ H.ht;obtain⟨r,hr,hp⟩:=zW (bl:=bl) (ids:=ids) hl (is:=[0,1,is,ic,x.it]) (by simp;omega) (by
         intro i hi;simp only[cn,pN,or_false]at hi;rcases hi with rfl|rfl|rfl|rfl|rfl<;>omega)
        have gE:=hp bl rfl;rw[acD H hg]at gE;have S1:=S.perm (bs':=lits (bW (ids.getD is 0) (ids.getD ic 0) (ids.getD x.it 0)) (bW (ids.getD is 0) (ids.getD ic 0) (ids.getD x.it 0)) (bK g.d.k (fG x y g.d g.dx g.sx) g.F)++(g.F.B++((r.map λj=>aD ids (ids.getD j 0) (bl.getD j dk))++aC rest R))) (by
         refine(gE.append_right _).trans ?_;rw[bU];refine pL _ ?_;simp only[aC,<-bU];exact FC _ List.perm_append_comm)
        have Ie:=h ar g.d.k (fG x y g.d g.dx g.sx) g.F _ _ _ _ _ ms w0 w q0 e8 hM S1;have cV:aH ids (.ptr is 0::ar)=aH (bW (ids.getD is 0) (ids.getD ic 0) (ids.getD x.it 0)) (.ptr 2 0::ar):=by
         have a1:aH ids ar=aH [] ar:=by have:=n_ (ids:=[]) (more:=ids) ar q0;simpa using this
         have a2:aH (bW (ids.getD is 0) (ids.getD ic 0) (ids.getD x.it 0)) ar=aH [] ar:=by have:=n_ (ids:=[]) (more:=bW (ids.getD is 0) (ids.getD ic 0) (ids.getD x.it 0)) ar q0;simpa using this
         simp only[aH,den,a1,a2];rfl
        rw[cV];refine Ie.mono ?_;rintro v w' ⟨xv,s',F',rfl,hv,DS,hK,S2⟩;refine⟨xv,[],xD bl is ic x.it g.d.k s' F',bj g.d.k s' F'::rest,?_,?_,?_,hK⟩
        ·have:=gf (ids:=[]) (more:=ids++[]) xv hv;simpa using this.symm
        ·simp[xD,hl]
        ·have H':=aoJ H q1 q2 q3 n1 n2 n3 F';have oD:=hp (xD bl is ic x.it g.d.k s' F') (by simp[xD]);rw[acD H' hg]at oD;have Cf:(r.map λj=>aD ids (ids.getD j 0) ((xD bl is ic x.it g.d.k s' F').getD j dk))=r.map λj=>aD ids (ids.getD j 0) (bl.getD j dk):=by
          unfold xD;refine aoG ?_;intro j hj;have:=hr j hj;simp only[cn,pN,or_false,not_or]at this;omega
         rw[Cf]at oD;simp only[cH];refine S2.perm ?_;refine Dg ?_ (oD.symm.append_right _);rw[bU];refine pL _ ?_;simp only[aC,<-bU];exact FC _ List.perm_append_comm
      ·exact hc.elim
     ·exact hc.elim
    ·exact hc.elim
   ·exact hc.elim
  ·exact hc.elim
 ·exact hc.elim
def aq (tk:Nat->Sd.ao->Option Sd.a9):Sd.aK:=⟨tk,λk s n=>jE k.1 k.2 s n,λk s r nc pf=>xn k.1 k.2 s r nc pf,λk s r nc=>jm k.1 k.2 s r nc,λk s n f=>lj k s (n-8) f,xm,ee⟩
def cY (k:LK) (s:Sd.aa) (Kb:SK fr k):V->List VB->List (Gh fr)->Prop:=λv bl ch=>∃s' F',cR 0 v=true/\s'.c.p=s.c.p/\Kb v s' F'/\bl.take 5=bK k s' F'/\ch=[bj k s' F']
theorem mT {f n:Nat} {M:SM fr} {L:List (bR (Gh fr))} (hL:aI prog gS L)
 (h:∀(ar:List V) (k:LK) (s:Sd.aa) (F:aX fr (aU k s)) (Kb:SK fr k),bo 0 ar=true->s.c.p.queue=k.most->M ar k s F Kb->br (bZ prog gS L) n f (.ptr 2 0::ar) (bK k s F) [bj k s F] (cY k s Kb)):Body f M:=by
 intro ar k s F Kb a b c R ms w0 w h0 hq hM S;have hg:Gl gS (bW a b c):=by
  intro g i dN;unfold gS at dN;split at dN
  ·obtain rfl:=cG dN;exact⟨by simp,rfl⟩
  ·obtain rfl:=cG dN;exact⟨by simp,rfl⟩
  ·cases dN
 refine(eO hL.T hL.Q n (C:=bZ prog gS L) (ids:=bW a b c) (bl:=bK k s F) (ch:=[bj k s F]) (R:=R) (ms:=ms) (w0:=w0) (w:=w) hg rfl (by
  have e:aC [bj k s F] R=F.B++R:=rfl;rw[e];exact S) (h ar k s F Kb h0 hq hM)).mono ?_
 rintro v w' ⟨x,more,bl',ch',rfl,h1,S',s',F',hv,hp,hK,hb,rfl⟩;have ev:den (bW a b c++more) x=den [] x:=by have:=gf (ids:=[]) (more:=bW a b c++more) x hv;simpa using this
 refine⟨x,s',F',ev,hv,hp,hK,?_⟩;have hl5:(bK k s' F').length=5:=rfl;have oE:bl'=bK k s' F'++bl'.drop 5:=by rw[<-hb,jS]
 rw[oE]at S';have e2:lits (bW a b c++more) (bW a b c++more) (bK k s' F'++bl'.drop 5)=lits (bW a b c) (bW a b c) (bK k s' F')++lits (bW a b c++more) more (bl'.drop 5):=by
  rw[fC _ _ _ _ (by rw[hl5];rfl)];rw[fD (ids:=bW a b c) (more:=more) (bW a b c) (bK k s' F') rfl]
 rw[e2]at S';refine S'.sub ?_;have e3:aC [bj k s' F'] R=F'.B++R:=rfl;rw[e3,bU];exact uv (mA _ _) _
theorem i_ {f:Nat} {M:SM fr} (h:Body f M):uW prog gS ⟨f,false,ie M⟩:=⟨aoK h,λe=>by cases e⟩
def bP (s:Sd.aa):Sd.aa:={s with c:={s.c with doors:=r3 (s.c.doors 0) (s.c.doors 1) (s.c.doors 2) s.c.doors,af:=⟨s.c.af.cN,r3 (s.c.af.ak 0) (s.c.af.ak 1) (s.c.af.ak 2) s.c.af.ak⟩}}
theorem ph (s:Sd.aa):bP s=s:=by
 unfold bP;rw[MQ,MQ]
theorem ED {k:LK} {s s':Sd.aa} {M:(s:Sd.aa)->aX fr (aU k s)->Prop} (e:s'=s) (F:aX fr (aU k s)) (h:M s F) (hx:aU k s=aU k s':=by rfl):M s' (hx▸F):=by
 subst e;exact h
theorem nD {ar:List V} {k:LK} {s:Sd.aa} {M:SM fr} {F:aX fr (aU k s)} {K:SK fr k} (h:M ar k s F K):M ar k (bP s) F K:=ED (M:=λs F=>M ar k s F K) (ph s) F h
def ig (C:Sd.aK):SM fr:=λar k s F K=>match ar with
 |[.int .i64 kd,.int .i64 so,.int .i64 sq,.int .i64 co,.int .i64 ho]=>s.bH.length<=1000/\∀F',K (.av []) (s.record C kd so sq co ho) F'
 |_=>False
theorem acE (r c s k t:aj) (B X R:List aj):([r,c,s,k,t]++((B++X)++R)).Perm ([r,s,k]++(B++(c::t::(X++R)))):=by
 refine uq r ?_;have h1:(c::s::k::t::((B++X)++R)).Perm (s::k::c::t::((B++X)++R)):=
  (Pz s c _).trans (uq s (Pz k c _))
 refine h1.trans (uq s (uq k ?_));have h2:([c,t]++(B++(X++R))).Perm (B++([c,t]++(X++R))):=by
  rw[<-bU,<-bU B];exact FC _ List.perm_append_comm
 simpa[bU]using h2
theorem UA {k:LK} {s:Sd.aa} (F:aX fr (aU k s)):F.B=F.Br++(F.Bs++(F.Bf++(F.Bq++F.Bk))):=rfl
theorem aoL (tk:Nat->Sd.ao->Option Sd.a9):Body (fr:=fr) 90 (ig (aq tk)):=by
 intro ar k s F Kb a b c R ms w0 w h0 hq hM S;unfold ig at hM;split at hM
 ·rename_i kd so sq co ho;obtain⟨hn,hK⟩:=hM;have e1:lits (bW a b c) (bW a b c) (bK k s F)=[⟨1,false,.cells (aE .u32 64 cT) k.tg (0,0)⟩,aD (bW a b c) 0 (iQ k),⟨a,true,.cells #[.pointer (some ⟨b,0,none⟩),F.vs,F.vr] 128 (0,0)⟩,⟨b,true,.cells (su s.c.p k.ka k.kn k.kc s.c.t k.bq s.c.doors c s.c.samples s.c.beyond s.c.mode s.c.d_ s.c.pt s.c.head) 105 (0,0)⟩,aD (bW a b c) c (gM s)]:=by kernel_rfl
  rw[e1,UA]at S;have S1:=S.perm (acE _ _ _ _ _ _ _ _);have e2:(aH (bW a b c) (.ptr 2 0::[.int .i64 kd,.int .i64 so,.int .i64 sq,.int .i64 co,.int .i64 ho])).toArray=#[.pointer (some ⟨a,0,none⟩),.int .i64 kd,.int .i64 so,.int .i64 sq,.int .i64 co,.int .i64 ho]:=by kernel_rfl
  rw[e2];refine(anZ _ _ _ _ _ _ _ _ _ _ _ _ _ _ _ _ _ _ _ _ _ _ _ _ kd so sq co ho w S1 F.hr hn).mono ?_;rintro v w1 ⟨x1,c1,km,rfl,jG,S2⟩;have hl:(s.record (aq tk) kd so sq co ho).bH.length=s.bH.length+1:=by simp[Sd.aa.record]
  have fZ:fu 6 75 (vh (s.record (aq tk) kd so sq co ho).bH) x1 (s.record (aq tk) kd so sq co ho).bH.length c1 km:=by rw[hl];exact jG
  let F':aX fr (aU k (s.record (aq tk) kd so sq co ho)):={F with xr:=x1,cr:=c1,Br:=km,hr:=fZ}
  refine⟨.av [],_,F',rfl,rfl,rfl,hK F',?_⟩;have e3:lits (bW a b c) (bW a b c) (bK k (s.record (aq tk) kd so sq co ho) F')=[⟨1,false,.cells (aE .u32 64 cT) k.tg (0,0)⟩,aD (bW a b c) 0 (iQ k),⟨a,true,.cells #[.pointer (some ⟨b,0,none⟩),F.vs,.slice x1 (s.record (aq tk) kd so sq co ho).bH.length c1] 128 (0,0)⟩,⟨b,true,.cells (su s.c.p k.ka k.kn k.kc s.c.t k.bq s.c.doors c s.c.samples s.c.beyond s.c.mode s.c.d_ s.c.pt (xm s.c.head ⟨kd,so,sq,s.c.t.ah,co,ho⟩)) 105 (0,0)⟩,aD (bW a b c) c (gM s)]:=by kernel_rfl
  rw[e3,UA,hl];exact S2.perm (acE _ _ _ _ _ _ _ _).symm
 ·exact hM.elim
def cy (k:LK) (s:Sd.aa) (F:aX fr (aU k s)):Prop:=F.vs=F.vs/\F.vr=F.vr/\some (cw k)=some (cw k)/\some (iQ k)=some (iQ k)/\mg k 4 s=mg k 4 (bP s)/\s.c.p.bV=s.c.p.bV/\s.c.p.fj=s.c.p.fj/\s.c.p.queue=k.most
theorem cF {k:LK} {s:Sd.aa} {F:aX fr (aU k s)} (h:s.c.p.queue=k.most):cy k s F:=⟨rfl,rfl,rfl,rfl,rfl,rfl,rfl,h⟩
def L0 (fr:Sd.aF->Nat×Sd.ao) (C:Sd.aK):List (bR (Gh fr)):=⟨90,false,ie (ig C)⟩::qL (Gh fr) QV
theorem acF (tk:Nat->Sd.ao->Option Sd.a9):aI prog gS (L0 fr (aq tk)):=aI.cons (i_ (aoL tk)) (kj (zM gS))
def qP (C:Sd.aK):SM fr:=λar k s F K=>match ar with
 |[.int .i64 l,.int .i64 co]=>s.bH.length<=1000/\∀F',K (.av []) (s.iU C l co) F'
 |_=>False
theorem aoM (C:Sd.aK) (k:LK) (s:Sd.aa) (F:aX fr (aU k s)) (Kb:SK fr k) (l co:Int):br (bZ prog gS (L0 fr C)) 40 96 [.ptr 2 0,.int .i64 l,.int .i64 co] (bK k s F) [bj k s F] (cY k s Kb)
 =(cy k s F/\ig C [.int .i64 1,.int .i64 l,.int .i64 0,.int .i64 co,.int .i64 0] k (bP s) F (λv s' F'=>cY k s Kb (.av []) (bK k s' F') [bj k s' F'])):=by kernel_rfl
theorem aoN (tk:Nat->Sd.ao->Option Sd.a9):Body (fr:=fr) 96 (qP (aq tk)):=by
 refine mT (n:=40) (acF tk) ?_;intro ar k s F Kb h0 hq hM;unfold qP at hM;split at hM
 ·rename_i l co;rw[aoM];refine⟨cF hq,nD ⟨hM.1,λF'=>?_⟩⟩;exact⟨_,F',rfl,rfl,hM.2 F',rfl,rfl⟩
 ·exact hM.elim
end
section
open Go Go.RowKit Go.BigFrame Sx Vx
def jH (L:List QF) (n:Nat) (f:fL) (args:List V) (bl:List VB) (K:VK Empty):Prop:=br (bZ prog (λ_=>none) (qL Empty L)) n f args bl [] K
theorem Cg {L:List QF} (hL:bO prog (λ_=>none) L) {n f:Nat} {args:List V} {v:V} {c:List V} {T:BT} {bt:Nat} {w:ag} (h:jH L n f args [⟨false,T,c⟩] λx _ _=>x=v)
 (hT:w.heap[bt]?=some (.cells (ai [] c).toArray T.t T.fz)) (hc:bo 0 c=true) (hv:cR 1 v=true):aV prog f (aH [bt] args).toArray w λx w1=>x=den [bt] v/\Ch [] w w1:=by
 have e1:ai [bt] c=ai [] c:=jg (ids:=[]) (more:=[bt]) c hc;have S:=St.given (w:=w) [(bt,.cells (ai [bt] c).toArray T.t T.fz)] (by intro p hp;simp only[iH]at hp;subst hp;rw[e1];exact hT);refine(eO (kj hL).T (kj hL).Q n (C:=bZ prog (λ_=>none) (qL Empty L)) (ids:=[bt]) (bl:=[⟨false,T,c⟩]) (ch:=[]) (R:=[]) Gl.none rfl S h).mono ?_;rintro x w' ⟨y,more,bl',ch',rfl,h1,S',rfl⟩;exact⟨gf (ids:=[bt]) _ hv,S'.ch⟩
theorem MS {L:List QF} (hL:bO prog (λ_=>none) L) {n f:Nat} {args:List V} {v:V} {B0:VB} {wr:Bool} {o:Obj} {bt:Nat} {bs:List aj} {ms:List Nat} {w0 w:ag}
 (h:jH L n f args [B0] (bA 1 λx b _=>x=v/\∃B,b=[B]/\aD [0] 0 B=⟨0,wr,o⟩/\bo 0 B.c=true)) (hv:cR 0 v=true) (S:St ms w0 ([aD [bt] bt B0]++bs) w):
 aV prog f (aH [bt] args).toArray w λy w1=>y=den [] v/\St ms w0 ([⟨bt,wr,o⟩]++bs) w1:=by
 refine(eO (kj hL).T (kj hL).Q n (C:=bZ prog (λ_=>none) (qL Empty L)) (ids:=[bt]) (bl:=[B0]) (ch:=[]) (R:=bs) Gl.none rfl S h).mono ?_;rintro x w' ⟨y,more,bl',ch',rfl,h1,S',hK⟩;obtain⟨v2,cJ,bl2,e,dv,S2,rfl,B,rfl,hB,hw⟩:=iB (n0:=1) h1 (by simp) S' hK;have hm:cJ=[]:=by simpa using dv
 subst hm;refine⟨by rw[e];exact gf (ids:=[]) _ hv,?_⟩;have q:aD [bt] bt B=aD [0] bt B:=nC hw;have q2:aD [0] bt B=⟨bt,wr,o⟩:=by
  unfold aD at hB⊢;simp only[aj.mk.injEq]at hB⊢;exact⟨trivial,hB.2⟩
 have S3:St ms w0 ([aD [bt] bt B]++bs) w':=match ch',S2 with
  |[],S2=>S2
  |e::_,_=>nomatch e
 rw[q,q2]at S3;exact S3
def dA (t:Sd.aw):Sd.aw:=⟨t.cN,r3 (t.ak 0) (t.ak 1) (t.ak 2) λ_=>.zero⟩
def bD (y:TC):Sd.aw:=⟨(y.s1,⟨y.sn,y.sm⟩),r3 y.s0 y.sa y.sb λ_=>.zero⟩
def Ci (bl:List VB) (it:Nat):Option TC:=match bl[it]?with
 |some ⟨_,⟨157,(0,0)⟩,tc⟩=>sw tc
 |_=>none
theorem aoO {ids:List Nat} {bl:List VB} {w:ag} (hm:Mem ids bl w) {it:Nat} {y:TC} (h:Ci bl it=some y):w.heap[ids.getD it 0]?=some (.cells (jF (bD y).cN (bD y).ak y.b y.m) 157 (0,0)):=by
 unfold Ci at h;split at h
 ·rename_i wr tc hb;obtain rfl:=xC h;have h1:=hm.2 it _ hb;have e:(ai ids (cM y)).toArray=jF (bD y).cN (bD y).ak y.b y.m:=by kernel_rfl
  rw[<-e];exact h1
 ·cases h
def vl (y:TC):Nat->Sd.fN
 |0=>y.s0
 |1=>y.sa
 |_=>y.sb
def Cj:Int->Option Nat
 |.ofNat 1=>some 0
 |.ofNat 2=>some 1
 |.ofNat 3=>some 2
 |_=>none
theorem MT {s:Int} {i:Nat} (h:Cj s=some i):s=.ofNat (i+1)/\i<3:=by
 unfold Cj at h;split at h<;>first|cases h;exact⟨rfl,by omega⟩|cases h
def tE (b:Bool) (y:TC):List VB:=[⟨b,⟨157,(0,0)⟩,cM y⟩]
theorem UB {s:Int} (h:Cj s=none):s<1\/3<s:=by
 rcases(by omega:s=1\/s=2\/s=3\/s<1\/3<s)with rfl|rfl|rfl|h|h
 ·cases h
 ·cases h
 ·cases h
 ·exact .inl h
 ·exact .inr h
def EE:QF:=⟨69,λargs bl=>match args with
 |[.ptr it 0,.int .i64 s]=>(match Ci bl it with
  |some y=>(match Cj s with
   |some i=>(match(vl y i).on with
    |true=>some (True,.ptr it (3+39*i))
    |false=>some (True,.raw (.pointer none)))
   |none=>none)
  |none=>none)
 |_=>none⟩
def xE:QF:=⟨69,λargs bl=>match args with
 |[.ptr it 0,.int .i64 s]=>some (s<1\/3<s,.raw (.pointer none))
 |_=>none⟩
theorem acG (y:TC) (K:VK Empty):∀i:Nat,i<3->jH [] 30 69 [.ptr 0 0,.int .i64 (.ofNat (i+1))] (tE false y) K=cond (!(vl y i).on) (K (.raw (.pointer none)) (tE false y) []) (K (.ptr 0 (3+39*i)) (tE false y) [])
 |0,_=>by kernel_rfl
 |1,_=>by kernel_rfl
 |2,_=>by kernel_rfl
 |n+3,h=>absurd h (by omega)
theorem aoP (b:Nat) (s:Int) (X:V->Prop):dX prog [] 30 69 [.raw (.pointer (some ⟨b,0,none⟩)),.int .i64 s] X=cond (decide (s<1)) (X (.raw (.pointer none))) (cond (decide (s>3)) (X (.raw (.pointer none))) False):=by kernel_rfl
theorem MU {ids:List Nat} {bl:List VB} {w:ag} (hm:Mem ids bl w) {it:Nat} {y:TC} (h:Ci bl it=some y):w.heap[ids.getD it 0]?=some (.cells (ai [] (cM y)).toArray 157 (0,0)):=by
 rw[aoO hm h];have e:(ai [] (cM y)).toArray=jF (bD y).cN (bD y).ak y.b y.m:=by kernel_rfl
 rw[e]
theorem aoQ (gl:Nat->Option Nat):EE.Ok prog gl:=by
 intro args bl p_ v_ h hp ids w _ hm;unfold EE at h;dsimp only at h;split at h
 ·rename_i it s;split at h
  ·rename_i y hy;have hT:=MU hm hy;split at h
   ·rename_i i hi;obtain⟨rfl,h3⟩:=MT hi;split at h
    ·rename_i ho;simp only[aY,bC]at h;obtain⟨rfl,rfl⟩:=h;refine told (Cg bO.nil (n:=30) (args:=[.ptr 0 0,.int .i64 (.ofNat (i+1))]) (v:=.ptr 0 (3+39*i)) (T:=⟨157,(0,0)⟩) ?_ hT rfl rfl);show jH [] 30 69 [.ptr 0 0,.int .i64 (.ofNat (i+1))] (tE false y) _;rw[acG y _ i h3,ho];rfl
    ·rename_i ho;simp only[aY,bC]at h;obtain⟨rfl,rfl⟩:=h;refine told (Cg bO.nil (n:=30) (args:=[.ptr 0 0,.int .i64 (.ofNat (i+1))]) (v:=.raw (.pointer none)) (T:=⟨157,(0,0)⟩) ?_ hT rfl rfl);show jH [] 30 69 [.ptr 0 0,.int .i64 (.ofNat (i+1))] (tE false y) _;rw[acG y _ i h3,ho];rfl
   ·cases h
  ·cases h
 ·cases h
theorem aoR (gl:Nat->Option Nat):xE.Ok prog gl:=by
 intro args bl p_ v_ h hp ids w _ hm;unfold xE at h;dsimp only at h;split at h
 ·rename_i it s;simp only[aY,bC]at h;obtain⟨rfl,rfl⟩:=h;refine told (zf bO.nil 30 (args:=[.raw (.pointer (some ⟨ids.getD it 0,0,none⟩)),.int .i64 s]) (v:=.raw (.pointer none)) ?_ rfl rfl [] w);show dX prog [] 30 69 _ _;rw[aoP];refine aM (λh=>rfl) (λh=>aM (λh=>rfl) λh'=>?_);simp only[decide_eq_false_iff_not]at h h';omega
 ·cases h
theorem UC:bO prog (λ_=>none) [xE]:=bO.cons (aoR _) bO.nil
theorem aoS (y:TC) (K:VK Empty):∀i:Nat,i<3->jH [] 30 40 [.ptr 0 0,.int .i64 (.ofNat (i+1))] (tE false y) K=cond (!(vl y i).on) (K (.bool false) (tE false y) []) (K (.bool true) (tE false y) [])
 |0,_=>by kernel_rfl
 |1,_=>by kernel_rfl
 |2,_=>by kernel_rfl
 |n+3,h=>absurd h (by omega)
theorem aoT (y:TC) (s:Int) (K:VK Empty):jH [xE] 30 40 [.ptr 0 0,.int .i64 s] (tE false y) K=cond (s==4) (K (.bool true) (tE false y) []) (cond (s==0) (K (.bool y.s1) (tE false y) []) ((s<1\/3<s)/\K (.bool false) (tE false y) [])):=by kernel_rfl
theorem aoU (y:TC) (K:VK Empty):∀i:Nat,i<3->jH [] 30 41 [.ptr 0 0,.int .i64 (.ofNat (i+1))] (tE false y) K=cond (!(vl y i).on) (K (.int .i64 0) (tE false y) []) (K (.int .i64 (vl y i).role) (tE false y) [])
 |0,_=>by kernel_rfl
 |1,_=>by kernel_rfl
 |2,_=>by kernel_rfl
 |n+3,h=>absurd h (by omega)
theorem aoV (y:TC) (s:Int) (K:VK Empty):jH [xE] 30 41 [.ptr 0 0,.int .i64 s] (tE false y) K=((s<1\/3<s)/\K (.int .i64 0) (tE false y) []):=by kernel_rfl
theorem MV (y:TC):∀i:Nat,i<3->(bD y).cj (.ofNat (i+1))=(vl y i).on
 |0,_=>rfl
 |1,_=>rfl
 |2,_=>rfl
 |n+3,h=>absurd h (by omega)
theorem UD (t:Sd.aw) {s:Int} (h:s<1\/3<s):t.cj s=false:=by
 unfold Sd.aw.cj;have:(decide (1<=s)&&decide (s<=3))=false:=by simp;omega
 rw[this];rfl
theorem aoW (y:TC):∀i:Nat,i<3->(bD y).ak ((db (i+1)).toNat-1)=vl y i
 |0,_=>rfl
 |1,_=>rfl
 |2,_=>rfl
 |n+3,h=>absurd h (by omega)
theorem aoX (y:TC):∀i:Nat,i<3->(bD y).on (.ofNat (i+1))=(vl y i).on
 |0,_=>rfl
 |1,_=>rfl
 |2,_=>rfl
 |n+3,h=>absurd h (by omega)
theorem aoY (y:TC) (s:Int) {bt:Nat} {w:ag} (hT:w.heap[bt]?=some (.cells (ai [] (cM y)).toArray 157 (0,0))):aV prog 40 (aH [bt] [.ptr 0 0,.int .i64 s]).toArray w λx w1=>x=den [bt] (.bool ((bD y).on s))/\Ch [] w w1:=by
 cases h:Cj s with
 |some i=>
  obtain⟨rfl,h3⟩:=MT h;refine Cg bO.nil (n:=30) (T:=⟨157,(0,0)⟩) ?_ hT rfl rfl;show jH [] 30 40 [.ptr 0 0,.int .i64 (.ofNat (i+1))] (tE false y) _;rw[aoS y _ i h3,aoX y i h3];exact aM (λh=>by simp at h;rw[h]) (λh=>by simp at h;rw[h])
 |none=>
  have hs:=UB h;refine Cg UC (n:=30) (T:=⟨157,(0,0)⟩) ?_ hT rfl rfl;show jH [xE] 30 40 [.ptr 0 0,.int .i64 s] (tE false y) _;rw[aoT];unfold Sd.aw.on;rw[UD _ hs];refine aM (λh=>?_) (λh=>aM (λh'=>?_) λh'=>⟨hs,?_⟩)
  ·rw[if_pos (by simpa using h)]
  ·rw[if_neg (by simpa using h),if_pos (by simpa using h')];rfl
  ·rw[if_neg (by simpa using h),if_neg (by simpa using h')]
theorem aoZ (y:TC) (s:Int) {bt:Nat} {w:ag} (hT:w.heap[bt]?=some (.cells (ai [] (cM y)).toArray 157 (0,0))):aV prog 41 (aH [bt] [.ptr 0 0,.int .i64 s]).toArray w λx w1=>x=den [bt] (.int .i64 ((bD y).role s))/\Ch [] w w1:=by
 unfold Sd.aw.role;cases h:Cj s with
 |some i=>
  obtain⟨rfl,h3⟩:=MT h;refine Cg bO.nil (n:=30) (T:=⟨157,(0,0)⟩) ?_ hT rfl rfl;show jH [] 30 41 [.ptr 0 0,.int .i64 (.ofNat (i+1))] (tE false y) _;rw[aoU y _ i h3,MV y i h3,aoW y i h3];exact aM (λh=>by simp at h;rw[h];rfl) (λh=>by simp at h;rw[h];rfl)
 |none=>
  have hs:=UB h;refine Cg UC (n:=30) (T:=⟨157,(0,0)⟩) ?_ hT rfl rfl;show jH [xE] 30 41 [.ptr 0 0,.int .i64 s] (tE false y) _;rw[aoV,UD _ hs];exact⟨hs,rfl⟩
def UE:QF:=⟨40,λargs bl=>match args with
 |[.ptr it 0,.int .i64 s]=>(match Ci bl it with|some y=>some (True,.bool ((bD y).on s))|none=>none)
 |_=>none⟩
theorem ao0 (gl:Nat->Option Nat):UE.Ok prog gl:=by
 intro args bl p_ v_ h hp ids w _ hm;unfold UE at h;dsimp only at h;split at h
 ·rename_i it s;split at h
  ·rename_i y hy;simp only[aY,bC]at h;obtain⟨rfl,rfl⟩:=h;exact told (aoY y s (MU hm hy))
  ·cases h
 ·cases h
def UF:QF:=⟨41,λargs bl=>match args with
 |[.ptr it 0,.int .i64 s]=>(match Ci bl it with|some y=>some (True,.int .i64 ((bD y).role s))|none=>none)
 |_=>none⟩
theorem ao1 (gl:Nat->Option Nat):UF.Ok prog gl:=by
 intro args bl p_ v_ h hp ids w _ hm;unfold UF at h;dsimp only at h;split at h
 ·rename_i it s;split at h
  ·rename_i y hy;simp only[aY,bC]at h;obtain⟨rfl,rfl⟩:=h;exact told (aoZ y s (MU hm hy))
  ·cases h
 ·cases h
def zS:List V:=.bool false::.int .i64 0::.int .i64 0::.int .i64 0::(lD [.int .u8 0] 32++[.bool false,.int .i64 0,.int .u64 0])
def zY (y:TC) (i:Nat) (x:List V):List V:=.bool y.s1::.int .i64 y.sn::.int .i64 y.sm::((bif az i 0 then x else qO y.s0)++((bif az i 1 then x else qO y.sa)++((bif az i 2 then x else qO y.sb)++[.int .i64 y.b,.int .i64 y.m])))
def wE (l:List V):List VB:=[⟨true,⟨157,(0,0)⟩,l⟩]
theorem ao2 (y:TC) (K:VK Empty):∀i:Nat,i<3->jH [] 30 196 [.ptr 0 0,.int .i64 (.ofNat (i+1))] (tE true y) (bA 1 K)=cond (!(vl y i).on) (K (.bool false) (tE true y) []) (K (.bool true) (wE (zY y i zS)) [])
 |0,_=>by kernel_rfl
 |1,_=>by kernel_rfl
 |2,_=>by kernel_rfl
 |n+3,h=>absurd h (by omega)
theorem ao3 (y:TC) (s:Int) (K:VK Empty):jH [xE] 30 196 [.ptr 0 0,.int .i64 s] (tE true y) (bA 1 K)=((s<1\/3<s)/\K (.bool false) (tE true y) []):=by kernel_rfl
theorem exE (y:TC):∀i:Nat,i<3->aD [0] 0 ⟨true,⟨157,(0,0)⟩,zY y i zS⟩=⟨0,true,.cells (jF ((bD y).eD ((db (i+1)).toNat-1) .zero).cN ((bD y).eD ((db (i+1)).toNat-1) .zero).ak y.b y.m) 157 (0,0)⟩
 |0,_=>by kernel_rfl
 |1,_=>by kernel_rfl
 |2,_=>by kernel_rfl
 |n+3,h=>absurd h (by omega)
theorem MW (y:TC):aD [0] 0 ⟨true,⟨157,(0,0)⟩,cM y⟩=⟨0,true,.cells (jF (bD y).cN (bD y).ak y.b y.m) 157 (0,0)⟩:=by kernel_rfl
theorem UG (y:TC) (bt:Nat):aD [bt] bt ⟨true,⟨157,(0,0)⟩,cM y⟩=⟨bt,true,.cells (jF (bD y).cN (bD y).ak y.b y.m) 157 (0,0)⟩:=by kernel_rfl
theorem ao4 (y:TC):∀i:Nat,bo 0 (zY y i zS)=true
 |0=>by kernel_rfl
 |1=>by kernel_rfl
 |2=>by kernel_rfl
 |n+3=>by kernel_rfl
theorem ao5 (y:TC) (s:Int) {bt:Nat} {bs:List aj} {ms:List Nat} {w0 w:ag} (S:St ms w0 ([⟨bt,true,.cells (jF (bD y).cN (bD y).ak y.b y.m) 157 (0,0)⟩]++bs) w):
 aV prog 196 (aH [bt] [.ptr 0 0,.int .i64 s]).toArray w λu w1=>u=den [] (.bool ((bD y).cj s))/\St ms w0 ([⟨bt,true,.cells (jF ((bD y).end_ s).cN ((bD y).end_ s).ak y.b y.m) 157 (0,0)⟩]++bs) w1:=by
 rw[<-UG]at S;unfold Sd.aw.end_;cases h:Cj s with
 |some i=>
  obtain⟨rfl,h3⟩:=MT h;refine MS bO.nil (n:=30) (B0:=⟨true,⟨157,(0,0)⟩,cM y⟩) ?_ rfl S;show jH [] 30 196 [.ptr 0 0,.int .i64 (.ofNat (i+1))] (tE true y) _;rw[ao2 y _ i h3,MV y i h3];refine aM (λh=>?_) (λh=>?_)
  ·simp only[my]at h;rw[h];exact⟨rfl,_,rfl,MW y,rfl⟩
  ·simp only[Bool.not_eq_false']at h;rw[h];exact⟨rfl,_,rfl,exE y i h3,ao4 y i⟩
 |none=>
  have hs:=UB h;refine MS UC (n:=30) (B0:=⟨true,⟨157,(0,0)⟩,cM y⟩) ?_ rfl S;show jH [xE] 30 196 [.ptr 0 0,.int .i64 s] (tE true y) _;rw[ao3,UD _ hs];exact⟨hs,rfl,_,rfl,MW y,rfl⟩
def smL (y:TC):List V:=.bool true::.int .i64 0::.int .i64 (if 0>y.b then 0 else y.b)::(qO y.s0++(qO y.sa++(qO y.sb++[.int .i64 y.b,.int .i64 y.m])))
theorem ao6 (y:TC) (K:VK Empty):jH [] 30 79 [.ptr 0 0] (tE true y) (bA 1 K)=K (.av []) (wE (smL y)) []:=by kernel_rfl
theorem ao7 (y:TC) (hb:0<=y.b/\y.b<=1000) {bt:Nat} {bs:List aj} {ms:List Nat} {w0 w:ag} (S:St ms w0 ([⟨bt,true,.cells (jF (bD y).cN (bD y).ak y.b y.m) 157 (0,0)⟩]++bs) w):
 aV prog 79 (aH [bt] [.ptr 0 0]).toArray w λu w1=>u=den [] (.av [])/\St ms w0 ([⟨bt,true,.cells (jF (true,.start y.b) (bD y).ak y.b y.m) 157 (0,0)⟩]++bs) w1:=by
 rw[<-UG]at S;refine MS bO.nil (n:=30) (B0:=⟨true,⟨157,(0,0)⟩,cM y⟩) ?_ rfl S;show jH [] 30 79 [.ptr 0 0] (tE true y) _;rw[ao6];refine⟨rfl,_,rfl,?_,rfl⟩;have q:aD [0] 0 ⟨true,⟨157,(0,0)⟩,smL y⟩=⟨0,true,.cells (jF (true,⟨0,if 0>y.b then 0 else y.b⟩) (bD y).ak y.b y.m) 157 (0,0)⟩:=by kernel_rfl
 rw[q,Hx]
def EF:QF:=⟨193,λargs bl=>match args with
 |[.ptr it 0]=>(match Ci bl it with
  |some y=>some (True,.int .i64 ((bD y).many))
  |none=>none)
 |_=>none⟩
theorem ao8 (y:TC) (K:VK Empty):jH [] 30 193 [.ptr 0 0] (tE false y) K=
 let k:Int->Prop:=λn=>K (.int .i64 n) (tE false y) []
 cond y.s0.on (cond y.sa.on (cond y.sb.on (k 3) (k 2)) (cond y.sb.on (k 2) (k 1))) (cond y.sa.on (cond y.sb.on (k 2) (k 1)) (cond y.sb.on (k 1) (k 0))):=by kernel_rfl
theorem ao9 (gl:Nat->Option Nat):EF.Ok prog gl:=by
 intro args bl p_ v_ h hp ids w _ hm;unfold EF at h;dsimp only at h;split at h
 ·rename_i it;split at h
  ·rename_i y hy;simp only[aY,bC]at h;obtain⟨rfl,rfl⟩:=h;refine told (Cg bO.nil (n:=30) (args:=[.ptr 0 0]) (v:=.int .i64 ((bD y).many)) (T:=⟨157,(0,0)⟩) ?_ (MU hm hy) rfl rfl);show jH [] 30 193 [.ptr 0 0] (tE false y) _;rw[ao8];have e:(bD y).many=(if y.s0.on then 1 else 0)+(if y.sa.on then 1 else 0)+(if y.sb.on then 1 else 0):=rfl;rw[e];cases y.s0.on<;>cases y.sa.on<;>cases y.sb.on<;>rfl
  ·cases h
 ·cases h
theorem ao_:bO prog (λ_=>none) [EE,EF]:=bO.cons (aoQ _) (bO.cons (ao9 _) bO.nil)
def UH (k:Sd.fN) (o:Bool):Sd.fN:=⟨o,k.cI,k.role,k.key,k.seen⟩
def Ck (y:TC) (i:Nat) (o:Bool):TC:=match i with
 |0=>{y with s0:=UH y.s0 o}
 |1=>{y with sa:=UH y.sa o}
 |_=>{y with sb:=UH y.sb o}
def nS (b r:Int) (key:Nat->Int):List V:=[.bool true,.int .i64 0,.int .i64 (if 0>b then 0 else b),.int .i64 r,.bS .u8 32 key,.bool false,.int .i64 0,.int .u64 0]
def MX (y:TC) (r:Int) (K:VK Empty) (X:Prop):Prop:=cond (decide (r<0)) (K (.int .i64 1) (tE true y) []) (cond (decide (r>=4)) (K (.int .i64 1) (tE true y) []) X)
theorem apa (y:TC) (r:Int) (key:Nat->Int) (K:VK Empty):∀i:Nat,i<3->
 jH [EE,EF] 60 149 [.ptr 0 0,.int .i64 (.ofNat (i+1)),.int .i64 r,.agg [.bS .u8 32 key]] (tE true (Ck y i true)) (bA 1 K)=MX (Ck y i true) r K (True/\K (.int .i64 0) (wE (zY y i (nS y.b r key))) [])/\
 jH [EE,EF] 60 149 [.ptr 0 0,.int .i64 (.ofNat (i+1)),.int .i64 r,.agg [.bS .u8 32 key]] (tE true (Ck y i false)) (bA 1 K)=MX (Ck y i false) r K (True/\True/\cond (decide ((bD (Ck y i false)).many>=y.m)) (K (.int .i64 19) (tE true (Ck y i false)) []) (K (.int .i64 0) (wE (zY y i (nS y.b r key))) []))
 |0,_=>⟨by kernel_rfl,by kernel_rfl⟩
 |1,_=>⟨by kernel_rfl,by kernel_rfl⟩
 |2,_=>⟨by kernel_rfl,by kernel_rfl⟩
 |n+3,h=>absurd h (by omega)
theorem exN (y:TC) (r:Int) (key:Nat->Int):∀i:Nat,i<3->aD [0] 0 ⟨true,⟨157,(0,0)⟩,zY y i (nS y.b r key)⟩=⟨0,true,.cells (jF ((bD y).eD ((db (i+1)).toNat-1) ⟨true,⟨0,if 0>y.b then 0 else y.b⟩,r,key,⟨false,0,0⟩⟩).cN ((bD y).eD ((db (i+1)).toNat-1) ⟨true,⟨0,if 0>y.b then 0 else y.b⟩,r,key,⟨false,0,0⟩⟩).ak y.b y.m) 157 (0,0)⟩/\bo 0 (zY y i (nS y.b r key))=true
 |0,_=>⟨by kernel_rfl,by kernel_rfl⟩
 |1,_=>⟨by kernel_rfl,by kernel_rfl⟩
 |2,_=>⟨by kernel_rfl,by kernel_rfl⟩
 |n+3,h=>absurd h (by omega)
theorem apb (y:TC):∀i:Nat,i<3->∃o,(vl y i).on=o/\y=Ck y i o
 |0,_=>⟨_,rfl,rfl⟩
 |1,_=>⟨_,rfl,rfl⟩
 |2,_=>⟨_,rfl,rfl⟩
 |n+3,h=>absurd h (by omega)
theorem UI (y:TC) (i:Nat) (h3:i<3) (r:Int) (key:Nat->Int) (p:Sd.aO) (e1:p.bV=y.b) (e2:p.fj=y.m) {bt:Nat} {bs:List aj} {ms:List Nat} {w0 w:ag} (S:St ms w0 ([⟨bt,true,.cells (jF (bD y).cN (bD y).ak y.b y.m) 157 (0,0)⟩]++bs) w):
 aV prog 149 (aH [bt] [.ptr 0 0,.int .i64 (.ofNat (i+1)),.int .i64 r,.agg [.bS .u8 32 key]]).toArray w λu w1=>u=den [] (.int .i64 (Sd.aw.eL p (bD y) (.ofNat (i+1)) r key).2)/\
  St ms w0 ([⟨bt,true,.cells (jF (Sd.aw.eL p (bD y) (.ofNat (i+1)) r key).1.cN (Sd.aw.eL p (bD y) (.ofNat (i+1)) r key).1.ak y.b y.m) 157 (0,0)⟩]++bs) w1:=by
 obtain⟨o,ho,hy⟩:=apb y i h3;rw[<-UG]at S;refine MS (args:=[.ptr 0 0,.int .i64 (.ofNat (i+1)),.int .i64 r,.agg [.bS .u8 32 key]]) (v:=.int .i64 (Sd.aw.eL p (bD y) (.ofNat (i+1)) r key).2) (wr:=true) (o:=.cells (jF (Sd.aw.eL p (bD y) (.ofNat (i+1)) r key).1.cN (Sd.aw.eL p (bD y) (.ofNat (i+1)) r key).1.ak y.b y.m) 157 (0,0)) ao_ (n:=60) (B0:=⟨true,⟨157,(0,0)⟩,cM y⟩) ?_ rfl S;generalize hK:(λ(x:V) (b:List VB) (_:List Empty)=>x=V.int i64 (Sd.aw.eL p (bD y) (db (i+1)) r key).2/\∃B,b=[B]/\aD [0] 0 B=⟨0,true,.cells (jF (Sd.aw.eL p (bD y) (db (i+1)) r key).1.cN (Sd.aw.eL p (bD y) (db (i+1)) r key).1.ak y.b y.m) 157 (0,0)⟩/\bo 0 B.c=true)=K;show jH [EE,EF] 60 149 [.ptr 0 0,.int .i64 (.ofNat (i+1)),.int .i64 r,.agg [.bS .u8 32 key]] (tE true y) (bA 1 K);have hN:=exN y r key i h3;have hi:(db (i+1))=(i:Int)+1:=rfl;have k1:r<0\/4<=r->K (.int .i64 1) (tE true y) []:=λh=>by
  rw[<-hK];have e:Sd.aw.eL p (bD y) (db (i+1)) r key=(bD y,1):=by unfold Sd.aw.eL;rw[if_pos (by omega)]
  rw[e];exact⟨rfl,_,rfl,MW y,rfl⟩
 have k0:0<=r->r<4->o=true\/¬y.m<=(bD y).many->K (.int .i64 0) (wE (zY y i (nS y.b r key))) []:=λh h' h4=>by
  rw[<-hK];have e:Sd.aw.eL p (bD y) (db (i+1)) r key=((bD y).eD ((db (i+1)).toNat-1) ⟨true,⟨0,if 0>y.b then 0 else y.b⟩,r,key,⟨false,0,0⟩⟩,0):=by
   unfold Sd.aw.eL;rw[if_neg (by omega),if_neg,e1,Hx];rw[MV y i h3,ho,e2];rintro⟨rfl,h5⟩;exact h4.elim (λh=>nomatch h) λh=>h h5
  rw[e];exact⟨rfl,_,rfl,hN.1,hN.2⟩
 have k2:0<=r->r<4->o=false->y.m<=(bD y).many->K (.int .i64 19) (tE true y) []:=λh h' h4 h5=>by
  rw[<-hK];have e:Sd.aw.eL p (bD y) (db (i+1)) r key=(bD y,19):=by
   unfold Sd.aw.eL;rw[if_neg (by omega),if_pos];rw[MV y i h3,ho,e2];exact⟨h4,h5⟩
  rw[e];exact⟨rfl,_,rfl,MW y,rfl⟩
 have fw:=apa y r key K i h3;cases o with
 |true=>
  have hv:=fw.1;rw[<-hy]at hv;rw[hv];unfold MX;refine aM (λh=>k1 (.inl (by simpa using h))) (λh=>aM (λh'=>k1 (.inr (by simpa using h'))) λh'=>⟨trivial,?_⟩);exact k0 (by simpa using h) (by simpa using h') (.inl rfl)
 |false=>
  have hv:=fw.2;rw[<-hy]at hv;rw[hv];unfold MX;refine aM (λh=>k1 (.inl (by simpa using h))) (λh=>aM (λh'=>k1 (.inr (by simpa using h'))) λh'=>⟨trivial,trivial,aM (λh5=>?_) λh5=>?_⟩)
  ·exact k2 (by simpa using h) (by simpa using h') rfl (by simpa using h5)
  ·exact k0 (by simpa using h) (by simpa using h') (.inr (by simpa using h5))
variable{fr:Sd.aF->Nat×Sd.ao}
def UJ:QF:=⟨55,λargs _=>match args with
 |[.int .i64 l]=>some (True,.bool (Sd.linked l))
 |_=>none⟩
theorem apc (l:Int) (X:V->Prop):dX prog [] 20 55 [.int .i64 l] X=(cond (decide (l>=1)) (X (.bool (decide (l<=3)))) (X (.bool false))):=by kernel_rfl
theorem apd (gl:Nat->Option Nat):UJ.Ok prog gl:=by
 intro args bl p_ v_ h hp ids w _ _;unfold UJ at h;dsimp only at h;split at h
 ·rename_i l;simp only[aY,bC]at h;obtain⟨rfl,rfl⟩:=h;refine zf bO.nil 20 ?_ rfl rfl ids w;show dX prog [] 20 55 _ _;rw[apc];have e:Sd.linked l=(decide (l>=1)&&decide (l<=3)):=rfl;refine aM (λh=>?_) (λh=>?_)
  ·rw[e,h];rfl
  ·rw[e,h];rfl
 ·cases h
theorem Ig (t:Sd.aw) (s:Int):(dA t).cj s=t.cj s:=by
 unfold Sd.aw.cj;by_cases h1:1<=s
 ·by_cases h2:s<=3
  ·have:s=1\/s=2\/s=3:=by omega
   rcases this with rfl|rfl|rfl<;>rfl
  ·simp[h2]
 ·simp[h1]
theorem UK (t:Sd.aw) (s:Int):(dA t).on s=t.on s:=by
 unfold Sd.aw.on;rw[Ig];rfl
theorem ape (t:Sd.aw) (s:Int):(dA t).role s=t.role s:=by
 unfold Sd.aw.role;rw[Ig];by_cases h:t.cj s=true
 ·rw[if_pos h,if_pos h];unfold Sd.aw.cj at h;simp only[bu,decide_eq_true_eq]at h;have:s=1\/s=2\/s=3:=by omega
  rcases this with rfl|rfl|rfl<;>rfl
 ·rw[if_neg h,if_neg h]
def aX.cC {d:FD} (F:aX fr d) (q:List Sd.Ask) (B:List aj) (h:QS d.k.bq d.k.most q B):aX fr {d with q:=q}:={F with Bq:=B,hq:=h}
def vq (k:LK):ae:=.pointer (some ⟨k.bq,0,none⟩)
structure QG where
 f:Nat
 pos:Nat
 m:List V->Int->List Sd.Ask->Option (Prop×V×List Sd.Ask)
def Cm (x:QG):dc (Gh fr):=λargs bl ch K=>match ch with
 |g::rest=>(match args[x.pos]?with
  |some (.raw vp)=>(match x.m (args.eraseIdx x.pos) g.d.k.most g.d.q with
   |some (p,v,q')=>cond (bo 0 args&&cR 0 v) ((vp=vq g.d.k/\p)/\∀B (h:QS g.d.k.bq g.d.k.most q' B),K v bl (⟨{g.d with q:=q'},g.dx,g.sx,g.F.cC q' B h⟩::rest)) False
   |none=>False)
  |_=>False)
 |[]=>False
def QG.Ok (x:QG):Prop:=∀(args:List V) (k:LK) (q:List Sd.Ask) (p:Prop) (v:V) (q':List Sd.Ask),args[x.pos]?=some (.raw (vq k))->x.m (args.eraseIdx x.pos) k.most q=some (p,v,q')->p->∀(B:List aj),QS k.bq k.most q B->∀(bs:List aj) (ms:List Nat) (w0 w:ag),St ms w0 (B++bs) w->
 aV prog x.f (aH [] args).toArray w λy w1=>∃B',y=den [] v/\QS k.bq k.most q' B'/\St ms w0 (B'++bs) w1
theorem sD {d:FD} (F:aX fr d):F.B=F.Br++(F.Bs++(F.Bf++(F.Bq++F.Bk))):=rfl
theorem Cn (A a b c q e R:List aj):(A++((a++(b++(c++(q++e))))++R)).Perm (q++(A++(a++(b++(c++(e++R)))))):=by
 have h:(A++((a++(b++(c++(q++e))))++R))=(A++(a++(b++c)))++(q++(e++R)):=by simp[bU]
 have h2:(q++(A++(a++(b++(c++(e++R))))))=q++((A++(a++(b++c)))++(e++R)):=by simp[bU]
 rw[h,h2,<-bU,<-bU q];exact FC _ List.perm_append_comm
theorem apf {x:QG} (h:x.Ok) (gl:Nat->Option Nat):Sound prog gl x.f (Cm (fr:=fr) x):=by
 intro args ids bl ch R ms w0 w K hg hl S hc;unfold Cm at hc;split at hc
 ·rename_i g rest;split at hc
  ·rename_i vp UL;split at hc
   ·rename_i p v q' hm;cases hq:bo 0 args&&cR 0 v with
    |false=>rw[hq]at hc;exact hc.elim
    |true=>
     rw[hq]at hc;simp only[bu]at hq;obtain⟨⟨rfl,hp⟩,hK⟩:=hc;have a1:aH ids args=aH [] args:=by have:=n_ (ids:=[]) (more:=ids) args hq.1;simpa using this
     have e0:aC (g::rest) R=g.F.B++aC rest R:=rfl;rw[e0,sD]at S;rw[a1];refine(h args g.d.k g.d.q p v q' UL hm hp _ g.F.hq _ ms w0 w (S.perm (Cn _ _ _ _ _ _ _))).mono ?_;rintro y w1 ⟨B',rfl,hB,S1⟩;refine⟨v,[],bl,_,?_,by simpa using hl,?_,hK B' hB⟩
     ·have:=gf (ids:=[]) (more:=ids++[]) v hq.2;simpa using this.symm
     ·have e1:aC (⟨{g.d with q:=q'},g.dx,g.sx,g.F.cC q' B' hB⟩::rest:List (Gh fr)) R=(g.F.Br++(g.F.Bs++(g.F.Bf++(B'++g.F.Bk))))++aC rest R:=rfl;rw[e1,cH];exact S1.perm (Cn _ _ _ _ _ _ _).symm
   ·exact hc.elim
  ·exact hc.elim
 ·exact hc.elim
theorem MY {x:QG} (h:x.Ok):uW (G:=Gh fr) prog gS ⟨x.f,false,Cm x⟩:=⟨apf h gS,λe=>by cases e⟩
def MZ:QG:=⟨86,0,λargs _ q=>match args with
 |[.int .i64 s]=>some (True,.bool (Sd.Q.waits q s),Sd.Q.drop q s)
 |_=>none⟩
theorem acH:MZ.Ok:=by
 intro args k q p v q' hv hm hp B hB bs ms w0 w S
 match args,hv,hm with
 |a::l,hv,hm=>
  have ha:a=.raw (vq k):=by simpa[MZ]using hv
  subst ha;replace hm:(match(generalizing:=false) l with
   |[.int .i64 s]=>some (True,V.bool (Sd.Q.waits q s),Sd.Q.drop q s)
   |_=>none)=some (p,v,q'):=hm
  split at hm
  ·simp only[aY,bC]at hm;obtain⟨rfl,rfl,rfl⟩:=hm;exact aoa _ hB S
  ·cases hm
def mh (a b c d e f:Int):List V:=[.int .i64 a,.int .i64 b,.int .i64 c,.int .i64 d,.int .i64 e,.int .i64 f,.int .u8 0,.int .u8 0,.int .u8 0,.int .u8 0,.int .u8 0,.int .u8 0,.int .u8 0,.int .u8 0]
def UM:List V->Option Sd.aF
 |.int .i64 a::.int .i64 b::.int .i64 c::.int .i64 d::.int .i64 e::.int .i64 f::l=>(match l with
  |[.bS .u8 8 n]=>some ⟨a,b,c,d,e,f,n⟩
  |[.int .u8 (.ofNat 0),.int .u8 (.ofNat 0),.int .u8 (.ofNat 0),.int .u8 (.ofNat 0),.int .u8 (.ofNat 0),.int .u8 (.ofNat 0),.int .u8 (.ofNat 0),.int .u8 (.ofNat 0)]=>some ⟨a,b,c,d,e,f,λ_=>0⟩
  |_=>none)
 |_=>none
def UN:List V->Option Sd.aF
 |[.int .i64 a,.int .i64 b,.int .i64 c,.int .i64 d,.int .i64 e,.int .i64 f,.int .u8 (.ofNat 0),.int .u8 (.ofNat 0),.int .u8 (.ofNat 0),.int .u8 (.ofNat 0),.int .u8 (.ofNat 0),.int .u8 (.ofNat 0),.int .u8 (.ofNat 0),.int .u8 (.ofNat 0)]=>some ⟨a,b,c,d,e,f,λ_=>0⟩
 |_=>none
theorem apg {l:List V} {r:Sd.aF} (h:UN l=some r):∃a b c d e f,l=mh a b c d e f/\r=⟨a,b,c,d,e,f,λ_=>0⟩:=by
 unfold UN at h;split at h
 ·obtain rfl:=cG h;exact⟨_,_,_,_,_,_,rfl,rfl⟩
 ·cases h
def Rm (s:Sd.aa) (n:Nat):Prop:=s.bg.length+n<=1000/\s.bH.length+n<=1000
def N8 (n:Int):Prop:=0<=n/\n<=255
def N4 (n:Int):Prop:=0<=n/\n<=4
def xF (n:Int):Prop:=0<=n/\n<=65535
def vm (n:Int):Prop:=0<=n/\n<=4294967295
structure RB (r:Sd.aF):Prop where
 kind:129<=r.kind/\r.kind<=136
 seq:vm r.seq/\((r.kind=131\/r.kind=132)\/r.seq=0)
 role:(0<=r.role/\r.role<=3)/\(r.kind=130\/r.role=0)
 cX:N4 r.cX/\((r.kind=130\/r.kind=134\/r.kind=135\/r.kind=136)\/r.cX=0)
 ah:xF r.ah/\((r.kind=130\/r.kind=133\/r.kind=134\/r.kind=135)\/r.ah=0)
 code:N8 r.code/\((r.kind=132\/r.kind=136)\/r.code=0)
 aA:By r.aA/\(r.kind=129\/r.aA=λ_=>0)
def dY:SM fr:=λar k s F K=>match ar with
 |[.int .i64 l,.agg rl]=>(match UM rl with
  |some r=>(Rm s 1/\RB r)/\∀F',K (.av []) (s.tell l r) F'
  |none=>False)
 |_=>False
def vn:SM fr:=λar k s F K=>match ar with
 |[.int .i64 l,.agg rl]=>(match UN rl with
  |some r=>(Rm s 1/\RB r)/\∀F',K (.av []) (s.dP l r) F'
  |none=>False)
 |_=>False
def mi (C:Sd.aK):SM fr:=λar k s F K=>match ar with
 |[.int .i64 l,.int .i64 n,.int .i64 c]=>(Rm s 1/\vm n/\N8 c)/\∀F',K (.av []) (s.refuse C l n c) F'
 |_=>False
def nE:SM fr:=λar k s F K=>match ar with
 |[.int .i64 l,.int .i64 n]=>(Rm s 1/\vm n)/\∀F',K (.av []) (s.done l n) F'
 |_=>False
def vo:SM fr:=λar k s F K=>match ar with
 |[.int .i64 l,.int .i64 w,.int .i64 c]=>(Rm s 1/\N4 w/\N8 c)/\∀F',K (.av []) (s.gone l w c) F'
 |_=>False
def L1 (fr:Sd.aF->Nat×Sd.ao) (C:Sd.aK):List (bR (Gh fr)):=⟨147,false,ie dY⟩::⟨96,false,ie (qP C)⟩::⟨86,false,Cm MZ⟩::qE (Gh fr) UJ::qE (Gh fr) UE::qE (Gh fr) UF::L0 fr C
theorem M0 {q:QF} (h:∀gl,q.Ok prog gl):uW (G:=Gh fr) prog gS (qE (Gh fr) q):=⟨Lm (h gS),λ_=>Ll q.F⟩
theorem M1 (tk:Nat->Sd.ao->Option Sd.a9) (ht:Body (fr:=fr) 147 dY):aI prog gS (L1 fr (aq tk)):=
 aI.cons (i_ ht) (aI.cons (i_ (aoN tk)) (aI.cons (MY acH) (aI.cons (M0 apd) (aI.cons (M0 ao0) (aI.cons (M0 ao1) (acF tk))))))
theorem aph (C:Sd.aK) (k:LK) (s:Sd.aa) (F:aX fr (aU k s)) (Kb:SK fr k) (l n c:Int):br (bZ prog gS (L1 fr C)) 40 145 [.ptr 2 0,.int .i64 l,.int .i64 n,.int .i64 c] (bK k s F) [bj k s F] (cY k s Kb)
 =(cy k s F/\dY [.int .i64 l,.agg (mh 132 n 0 0 0 c)] k (bP s) F λv s1 F1=>cy k s1 F1/\ig C [.int .i64 7,.int .i64 l,.int .i64 n,.int .i64 c,.int .i64 0] k (bP s1) F1 (λv s' F'=>cY k s Kb (.av []) (bK k s' F') [bj k s' F'])):=by kernel_rfl
theorem api (C:Sd.aK) (k:LK) (s:Sd.aa) (F:aX fr (aU k s)) (Kb:SK fr k) (l n:Int):br (bZ prog gS (L1 fr C)) 40 195 [.ptr 2 0,.int .i64 l,.int .i64 n] (bK k s F) [bj k s F] (cY k s Kb)
 =(cy k s F/\dY [.int .i64 l,.agg (mh 131 n 0 0 0 0)] k (bP s) F λv s' F'=>cY k s Kb (.av []) (bK k s' F') [bj k s' F']):=by kernel_rfl
theorem apj (C:Sd.aK) (k:LK) (s:Sd.aa) (F:aX fr (aU k s)) (Kb:SK fr k) (l a b c d e f:Int):br (bZ prog gS (L1 fr C)) 40 131 [.ptr 2 0,.int .i64 l,.agg (mh a b c d e f)] (bK k s F) [bj k s F] (cY k s Kb)
 =(True/\cond (Sd.linked l) (True/\cond ((dA s.c.af).on l) (cy k s F/\dY [.int .i64 l,.agg (mh a b c d e f)] k (bP s) F λv s' F'=>cY k s Kb (.av []) (bK k s' F'++[⟨true,⟨40,(0,0)⟩,mh a b c d e f⟩]) [bj k s' F']) (cY k s Kb (.av []) (bK k s F++[⟨true,⟨40,(0,0)⟩,mh a b c d e f⟩]) [bj k s F]))
  (cY k s Kb (.av []) (bK k s F++[⟨true,⟨40,(0,0)⟩,mh a b c d e f⟩]) [bj k s F])):=by kernel_rfl
theorem by0:By (λ_=>0):=λj=>⟨Int.le_refl 0,by show(0:Int)<=255;decide⟩
theorem rb {a b d e f:Int} (h1:129<=a/\a<=136) (h2:vm b) (h4:N4 d) (h5:xF e) (h6:N8 f) (k2:(a=131\/a=132)\/b=0:=by simp) (k4:(a=130\/a=134\/a=135\/a=136)\/d=0:=by simp)
 (k5:(a=130\/a=133\/a=134\/a=135)\/e=0:=by simp) (k6:(a=132\/a=136)\/f=0:=by simp):RB ⟨a,b,0,d,e,f,λ_=>0⟩:=⟨h1,⟨h2,k2⟩,⟨show(0:Int)<=0/\(0:Int)<=3 by decide,.inr rfl⟩,⟨h4,k4⟩,⟨h5,k5⟩,⟨h6,k6⟩,⟨by0,.inr rfl⟩⟩
theorem z4:N4 0:=⟨by decide,by decide⟩
theorem z8:N8 0:=⟨by decide,by decide⟩
theorem M3:xF 0:=⟨by decide,by decide⟩
theorem xG:vm 0:=⟨by decide,by decide⟩
theorem fm {k:LK} {s0:Sd.aa} {Kb:SK fr k} {v:V} {s s':Sd.aa} (e:s'=s) {bl:List VB} (hK:∀F,Kb v s F) (F':aX fr (aU k s')) (hv:cR 0 v=true:=by rfl) (hp:s'.c.p=s0.c.p:=by rfl) (hb:bl.take 5=bK k s' F':=by kernel_rfl):cY k s0 Kb v bl [bj k s' F']:=by
 subst e;exact⟨s',F',hv,hp,hK F',hb,rfl⟩
section
variable{k:LK} {s:Sd.aa} {F:aX fr (aU k s)} {K:SK fr k}
theorem UO {l a b c d e f:Int} (h:Rm s 1/\RB ⟨a,b,c,d,e,f,λ_=>0⟩) (hK:∀F',K (.av []) (s.tell l ⟨a,b,c,d,e,f,λ_=>0⟩) F'):dY [.int .i64 l,.agg (mh a b c d e f)] k (bP s) F K:=by
 have e:dY [.int .i64 l,.agg (mh a b c d e f)] k s F K=((Rm s 1/\RB ⟨a,b,c,d,e,f,λ_=>0⟩)/\∀F',K (.av []) (s.tell l ⟨a,b,c,d,e,f,λ_=>0⟩) F'):=by kernel_rfl
 exact nD (M:=dY) (e▸⟨h,hK⟩)
theorem M4 {l a b c d e f:Int} (h:Rm s 1/\RB ⟨a,b,c,d,e,f,λ_=>0⟩) (hK:∀F',K (.av []) (s.dP l ⟨a,b,c,d,e,f,λ_=>0⟩) F'):vn [.int .i64 l,.agg (mh a b c d e f)] k (bP s) F K:=by
 have e:vn [.int .i64 l,.agg (mh a b c d e f)] k s F K=((Rm s 1/\RB ⟨a,b,c,d,e,f,λ_=>0⟩)/\∀F',K (.av []) (s.dP l ⟨a,b,c,d,e,f,λ_=>0⟩) F'):=by kernel_rfl
 exact nD (M:=vn) (e▸⟨h,hK⟩)
theorem mj {C:Sd.aK} {a b c d e:Int} (h:s.bH.length<=1000) (hK:∀F',K (.av []) (s.record C a b c d e) F'):ig C [.int .i64 a,.int .i64 b,.int .i64 c,.int .i64 d,.int .i64 e] k (bP s) F K:=by
 have e:ig C [.int .i64 a,.int .i64 b,.int .i64 c,.int .i64 d,.int .i64 e] k s F K=(s.bH.length<=1000/\∀F',K (.av []) (s.record C a b c d e) F'):=by kernel_rfl
 exact nD (M:=ig C) (e▸⟨h,hK⟩)
end
theorem apk (tk:Nat->Sd.ao->Option Sd.a9) (ht:Body (fr:=fr) 147 dY):Body (fr:=fr) 145 (mi (aq tk)):=by
 refine mT (n:=40) (M1 tk ht) ?_;intro ar k s F Kb h0 hq hM;unfold mi at hM;split at hM
 ·rename_i l n c;have h1:=hM.1.1;have h2:=hM.1.2.1;have h3:=hM.1.2.2;have hK:=hM.2;rw[aph];refine⟨cF hq,UO ⟨h1,rb (by decide) h2 z4 M3 h3⟩ λF1=>⟨cF hq,mj ?_ λF2=>fm rfl hK F2⟩⟩;have:=h1.2;simp only[Sd.aa.tell];omega
 ·exact hM.elim
theorem apl (tk:Nat->Sd.ao->Option Sd.a9) (ht:Body (fr:=fr) 147 dY):Body (fr:=fr) 195 nE:=by
 refine mT (n:=40) (M1 tk ht) ?_;intro ar k s F Kb h0 hq hM;unfold nE at hM;split at hM
 ·rename_i l n;have h1:=hM.1.1;have h2:=hM.1.2;have hK:=hM.2;rw[api];exact⟨cF hq,UO ⟨h1,rb (by decide) h2 z4 M3 z8⟩ λF1=>fm rfl hK F1⟩
 ·exact hM.elim
theorem apm (tk:Nat->Sd.ao->Option Sd.a9) (ht:Body (fr:=fr) 147 dY):Body (fr:=fr) 131 vn:=by
 refine mT (n:=40) (M1 tk ht) ?_;intro ar k s F Kb h0 hq hM;unfold vn at hM;split at hM
 ·rename_i l rl;split at hM
  ·rename_i r hr;obtain⟨a,b,c,d,e,f,rfl,rfl⟩:=apg hr;have h1:=hM.1.1;have h2:=hM.1.2;have hK:=hM.2;rw[apj,UK];refine⟨trivial,aM (λe1=>⟨trivial,aM (λe2=>?_) (λe2=>?_)⟩) (λe1=>?_)⟩
   ·refine⟨cF hq,UO ⟨h1,h2⟩ λF1=>fm ?_ hK F1⟩;simp only[Sd.aa.dP,e1,e2,Bool.and_self,if_true]
   ·refine fm ?_ hK F;simp[Sd.aa.dP,e1,e2]
   ·refine fm ?_ hK F;simp[Sd.aa.dP,e1]
  ·exact hM.elim
 ·exact hM.elim
def L2 (fr:Sd.aF->Nat×Sd.ao) (C:Sd.aK):List (bR (Gh fr)):=⟨145,false,ie (mi C)⟩::⟨195,false,ie nE⟩::⟨131,false,ie vn⟩::L1 fr C
theorem M5 (tk:Nat->Sd.ao->Option Sd.a9) (ht:Body (fr:=fr) 147 dY):aI prog gS (L2 fr (aq tk)):=
 aI.cons (i_ (apk tk ht)) (aI.cons (i_ (apl tk ht)) (aI.cons (i_ (apm tk ht)) (M1 tk ht)))
section
variable(C:Sd.aK) (k:LK) (s:Sd.aa) (F:aX fr (aU k s)) (Kb:SK fr k)
theorem apn (l n c:Int):br (bZ prog gS (L2 fr C)) 40 87 [.ptr 2 0,.int .i64 l,.int .i64 n,.int .i64 c] (bK k s F) [bj k s F] (cY k s Kb)
 =(cy k s F/\vn [.int .i64 l,.agg (mh 136 0 0 n 0 c)] k (bP s) F λv s' F'=>cY k s Kb (.av []) (bK k s' F') [bj k s' F']):=by kernel_rfl
theorem apo (m:Int) (b:Sd.Label):br (bZ prog gS (L2 fr C)) 40 88 [.ptr 2 0,.int .i64 m,.agg (oz b)] (bK k s F) [bj k s F] (cY k s Kb)
 =(True/\cY k s Kb (.av []) (bK k (s.eM m b) F++[⟨true,⟨44,(0,0)⟩,oz b⟩]) [bj k s F]):=by kernel_rfl
def UP (s:Sd.aa) (t:Sd.Tok):Sd.aa:={s with c:={s.c with t:=t,q:=Sd.Q.drop s.c.q t.aG}}
theorem apq (t:Sd.Tok) (h n:Int):br (bZ prog gS (L2 fr C)) 60 85 [.ptr 2 0,.agg (di t),.int .i64 h,.int .i64 n] (bK k s F) [bj k s F] (cY k s Kb)
 =((vq k=vq k/\True)/\∀B (hB:QS k.bq k.most (Sd.Q.drop s.c.q t.aG) B),
  cy k (UP s t) (F.cC _ B hB)/\vn [.int .i64 s.c.t.aG,.agg (mh 134 0 0 t.aG t.ah 0)] k (bP (UP s t)) (F.cC _ B hB) λv s2 F2=>
  cy k s2 F2/\vn [.int .i64 t.aG,.agg (mh 133 0 0 0 t.ah 0)] k (bP s2) F2 λv s3 F3=>
  cy k s3 F3/\ig C [.int .i64 8,.int .i64 t.aG,.int .i64 n,.int .i64 0,.int .i64 h] k (bP s3) F3 λv s' F'=>cY k s Kb (.av []) (bK k s' F'++[⟨true,⟨95,(0,0)⟩,di t⟩]) [bj k s' F']):=by kernel_rfl
def qd (s:Sd.aa) (l:Int):Sd.aa:={s with c:={s.c with q:=Sd.Q.drop s.c.q l}}
def gO (s:Sd.aa) (t:Sd.Tok):Sd.aa:={s with c:={s.c with t:=t}}
end
theorem kL (s:Sd.aa) (l:Int) (r:Sd.aF):(s.dP l r).c=s.c:=by unfold Sd.aa.dP;split<;>rfl
theorem Mq (s:Sd.aa) (l:Int) (r:Sd.aF):(s.dP l r).bH=s.bH:=by unfold Sd.aa.dP;split<;>rfl
theorem apr (s:Sd.aa) (l:Int) (r:Sd.aF):(s.dP l r).bg.length<=s.bg.length+1:=by unfold Sd.aa.dP Sd.aa.tell;split<;>simp
theorem Rm.dP {s:Sd.aa} {l:Int} {r:Sd.aF} {n:Nat} (h:Rm s (n+1)):Rm (s.dP l r) n:=by
 have h1:=apr s l r;have h2:=Mq s l r;have:=h.1;have:=h.2
 exact⟨by omega,by rw[h2];omega⟩
theorem Rm.rec {s:Sd.aa} {C:Sd.aK} {a b c d e:Int} {n:Nat} (h:Rm s (n+1)):Rm (s.record C a b c d e) n:=by
 have:=h.1;have:=h.2
 exact⟨by simp only[Sd.aa.record];omega,by simp only[Sd.aa.record,ft,Yq];omega⟩
theorem Rm.le {s:Sd.aa} {n m:Nat} (h:Rm s n) (hm:m<=n):Rm s m:=⟨by have:=h.1;omega,by have:=h.2;omega⟩
theorem Rm.r1 {s:Sd.aa} {n:Nat} (h:Rm s n):s.bH.length<=1000:=by have:=h.2;omega
section
variable(tk:Nat->Sd.ao->Option Sd.a9)
include tk
theorem aps (ht:Body (fr:=fr) 147 dY):Body (fr:=fr) 87 vo:=by
 refine mT (n:=40) (M5 tk ht) ?_;intro ar k s F Kb h0 hq hM;unfold vo at hM;split at hM
 ·rename_i l n c;have h1:=hM.1.1;have h2:=hM.1.2.1;have h3:=hM.1.2.2;have hK:=hM.2;rw[apn];exact⟨cF hq,M4 ⟨h1,rb (by decide) xG h2 M3 h3⟩ λF1=>fm rfl hK F1 (hp:=by unfold Sd.aa.gone;rw[kL])⟩
 ·exact hM.elim
def zZ:SM fr:=λar k s F K=>match ar with
 |[.int .i64 m,.agg bl]=>(match HP bl with
  |some b=>∀F',K (.av []) (s.eM m b) F'
  |none=>False)
 |_=>False
theorem apt (ht:Body (fr:=fr) 147 dY):Body (fr:=fr) 88 zZ:=by
 refine mT (n:=40) (M5 tk ht) ?_;intro ar k s F Kb h0 hq hM;unfold zZ at hM;split at hM
 ·rename_i m bl;split at hM
  ·rename_i b hb;obtain rfl:=Tz hb;rw[apo (aq tk)];exact⟨trivial,fm (s':=s.eM m b) rfl hM F⟩
  ·exact hM.elim
 ·exact hM.elim
def sE (C:Sd.aK):SM fr:=λar k s F K=>match ar with
 |[.agg tl,.int .i64 h,.int .i64 n]=>(match kM tl with
  |some t=>(Rm s 4/\N4 t.aG/\xF t.ah)/\∀F',K (.av []) (s.goes C t h n) F'
  |none=>False)
 |_=>False
theorem apu (ht:Body (fr:=fr) 147 dY):Body (fr:=fr) 85 (sE (aq tk)):=by
 refine mT (n:=60) (M5 tk ht) ?_;intro ar k s F Kb h0 hq hM;unfold sE at hM;split at hM
 ·rename_i tl h n;split at hM
  ·rename_i t hb;obtain rfl:=oA hb;have h1:Rm (UP s t) 4:=hM.1.1;have h2:=hM.1.2.1;have h3:=hM.1.2.2;have hK:=hM.2;rw[apq];refine⟨⟨rfl,trivial⟩,λB hB=>⟨cF hq,M4 ⟨h1.le (by decide),rb (by decide) xG h2 h3 z8⟩ λF2=>⟨cF ?_,M4 ⟨h1.dP.le (by decide),rb (by decide) xG z4 h3 z8⟩ λF3=>⟨cF ?_,mj h1.dP.dP.r1 λF4=>fm rfl hK F4 (hp:=?_)⟩⟩⟩⟩
   ·rw[kL];exact hq
   ·rw[kL,kL];exact hq
   ·show(Sd.aa.dP _ _ _).c.p=_;rw[kL,kL]
  ·exact hM.elim
 ·exact hM.elim
end
def L3 (fr:Sd.aF->Nat×Sd.ao) (C:Sd.aK):List (bR (Gh fr)):=⟨87,false,ie vo⟩::⟨88,false,ie zZ⟩::⟨85,false,ie (sE C)⟩::L2 fr C
theorem acI (tk:Nat->Sd.ao->Option Sd.a9) (ht:Body (fr:=fr) 147 dY):aI prog gS (L3 fr (aq tk)):=
 aI.cons (i_ (aps tk ht)) (aI.cons (i_ (apt tk ht)) (aI.cons (i_ (apu tk ht)) (M5 tk ht)))
theorem apv (C:Sd.aK) (k:LK) (s:Sd.aa) (F:aX fr (aU k s)) (Kb:SK fr k) (l:Int):br (bZ prog gS (L3 fr C)) 60 91 [.ptr 2 0,.int .i64 l] (bK k s F) [bj k s F] (cY k s Kb)
 =((vq k=vq k/\True)/\∀B (hB:QS k.bq k.most (Sd.Q.drop s.c.q l) B),True/\cond (!(s.c.t.drop l).2) (cY k s Kb (.av []) (bK k (qd s l) (F.cC _ B hB)++[⟨true,⟨95,(0,0)⟩,di (s.c.t.drop l).1⟩]) [bj k (qd s l) (F.cC _ B hB)])
  (cy k (gO (qd s l) (s.c.t.drop l).1) (F.cC _ B hB)/\vo [.int .i64 (s.c.t.drop l).1.aG,.int .i64 l,.int .i64 16] k (bP (gO (qd s l) (s.c.t.drop l).1)) (F.cC _ B hB) λv s2 F2=>
   cy k s2 F2/\ig C [.int .i64 12,.int .i64 l,.int .i64 0,.int .i64 16,.int .i64 0] k (bP s2) F2 λv s' F'=>cY k s Kb (.av []) (bK k s' F'++[⟨true,⟨95,(0,0)⟩,di (s.c.t.drop l).1⟩]) [bj k s' F'])):=by kernel_rfl
theorem lJ (s:Sd.aa) (l w c:Int):(s.gone l w c).c=s.c:=kL _ _ _
theorem amC (s:Sd.aa) (l w c:Int):(s.gone l w c).bH=s.bH:=Mq _ _ _
theorem Rm.gone {s:Sd.aa} {l w c:Int} {n:Nat} (h:Rm s (n+1)):Rm (s.gone l w c) n:=h.dP
section
variable{k:LK} {s:Sd.aa} {F:aX fr (aU k s)} {K:SK fr k}
theorem M6 {l w c:Int} (h:Rm s 1/\N4 w/\N8 c) (hK:∀F',K (.av []) (s.gone l w c) F'):vo [.int .i64 l,.int .i64 w,.int .i64 c] k (bP s) F K:=by
 have e:vo [.int .i64 l,.int .i64 w,.int .i64 c] k s F K=((Rm s 1/\N4 w/\N8 c)/\∀F',K (.av []) (s.gone l w c) F'):=by kernel_rfl
 exact nD (M:=vo) (e▸⟨h,hK⟩)
theorem vt {l n:Int} (h:Rm s 1/\vm n) (hK:∀F',K (.av []) (s.done l n) F'):nE [.int .i64 l,.int .i64 n] k (bP s) F K:=by
 have e:nE [.int .i64 l,.int .i64 n] k s F K=((Rm s 1/\vm n)/\∀F',K (.av []) (s.done l n) F'):=by kernel_rfl
 exact nD (M:=nE) (e▸⟨h,hK⟩)
theorem z3 {C:Sd.aK} {l n c:Int} (h:Rm s 1/\vm n/\N8 c) (hK:∀F',K (.av []) (s.refuse C l n c) F'):mi C [.int .i64 l,.int .i64 n,.int .i64 c] k (bP s) F K:=by
 have e:mi C [.int .i64 l,.int .i64 n,.int .i64 c] k s F K=((Rm s 1/\vm n/\N8 c)/\∀F',K (.av []) (s.refuse C l n c) F'):=by kernel_rfl
 exact nD (M:=mi C) (e▸⟨h,hK⟩)
theorem Ih {C:Sd.aK} {l c:Int} (h:s.bH.length<=1000) (hK:∀F',K (.av []) (s.iU C l c) F'):qP C [.int .i64 l,.int .i64 c] k (bP s) F K:=by
 have e:qP C [.int .i64 l,.int .i64 c] k s F K=(s.bH.length<=1000/\∀F',K (.av []) (s.iU C l c) F'):=by kernel_rfl
 exact nD (M:=qP C) (e▸⟨h,hK⟩)
theorem EG {C:Sd.aK} {t:Sd.Tok} {h n:Int} (hh:Rm s 4/\N4 t.aG/\xF t.ah) (hK:∀F',K (.av []) (s.goes C t h n) F'):sE C [.agg (di t),.int .i64 h,.int .i64 n] k (bP s) F K:=by
 have e:sE C [.agg (di t),.int .i64 h,.int .i64 n] k s F K=((Rm s 4/\N4 t.aG/\xF t.ah)/\∀F',K (.av []) (s.goes C t h n) F'):=by kernel_rfl
 exact nD (M:=sE C) (e▸⟨hh,hK⟩)
theorem acJ {m:Int} {b:Sd.Label} (hK:∀F',K (.av []) (s.eM m b) F'):zZ [.int .i64 m,.agg (oz b)] k (bP s) F K:=by
 have e:zZ [.int .i64 m,.agg (oz b)] k s F K=(∀F',K (.av []) (s.eM m b) F'):=by kernel_rfl
 exact nD (M:=zZ) (e▸hK)
end
def tU (C:Sd.aK):SM fr:=λar k s F K=>match ar with
 |[.int .i64 l]=>(Rm s 2/\N4 l)/\∀F',K (.av []) (s.leave C l) F'
 |_=>False
theorem apw (tk:Nat->Sd.ao->Option Sd.a9) (ht:Body (fr:=fr) 147 dY):Body (fr:=fr) 91 (tU (aq tk)):=by
 refine mT (n:=60) (acI tk ht) ?_;intro ar k s F Kb h0 hq hM;unfold tU at hM;split at hM
 ·rename_i l;have h1:Rm (gO (qd s l) (s.c.t.drop l).1) 2:=hM.1.1;have h2:=hM.1.2;have hK:=hM.2;rw[apv];refine⟨⟨rfl,trivial⟩,λB hB=>⟨trivial,aM (λe=>?_) (λe=>?_)⟩⟩
  ·refine fm (s':=qd s l) ?_ hK (F.cC (Sd.Q.drop s.c.q l) B hB);simp only[my]at e;exact(if_pos e).symm
  ·refine⟨cF hq,M6 ⟨h1.le (by decide),h2,⟨by decide,by decide⟩⟩ λF2=>⟨cF ?_,mj h1.gone.r1 λF3=>fm ?_ hK F3 (hp:=?_)⟩⟩
   ·rw[lJ];exact hq
   ·simp only[Bool.not_eq_false']at e;have cE:¬(s.c.t.drop l).2=false:=by rw[e];decide
    exact(if_neg cE).symm
   ·show(Sd.aa.gone _ _ _ _).c.p=_;rw[lJ];rfl
 ·exact hM.elim
end
section
open Go Go.RowKit Go.BigFrame Sx Vx
def bY (n:Int):Prop:=-9223372036854775808<=n/\n<=9223372036854775807
theorem ij {a b:List aj} (h:∀f:aj->Bool,a.countP f=b.countP f):a.Perm b:=by
 classical
 refine List.perm_iff_count.2 λx=>?_;exact h _
structure QH where
 k:LK
 q:List Sd.Ask
 B:List aj
 h:QS k.bq k.most q B
instance:Bl QH:=⟨λg=>g.B⟩
def UQ (x:QG):dc QH:=λargs bl ch K=>match ch with
 |[g]=>(match args[x.pos]?with
  |some (.raw vp)=>(match x.m (args.eraseIdx x.pos) g.k.most g.q with
   |some (p,v,q')=>cond (bo 0 args&&cR 0 v) ((vp=vq g.k/\p)/\∀B (h:QS g.k.bq g.k.most q' B),K v bl [⟨g.k,q',B,h⟩]) False
   |none=>False)
  |_=>False)
 |_=>False
theorem apx {x:QG} (h:x.Ok) (gl:Nat->Option Nat):Sound prog gl x.f (UQ x):=by
 intro args ids bl ch R ms w0 w K hg hl S hc;unfold UQ at hc;split at hc
 ·rename_i g;split at hc
  ·rename_i vp UL;split at hc
   ·rename_i p v q' hm;cases hq:bo 0 args&&cR 0 v with
    |false=>rw[hq]at hc;exact hc.elim
    |true=>
     rw[hq]at hc;simp only[bu]at hq;obtain⟨⟨rfl,hp⟩,hK⟩:=hc;have a1:aH ids args=aH [] args:=by have:=n_ (ids:=[]) (more:=ids) args hq.1;simpa using this
     have e0:∀(B:List aj) (h:QS g.k.bq g.k.most q' B),aC ([⟨g.k,q',B,h⟩]:List QH) R=B++R:=λ_ _=>rfl;have S1:St ms w0 (g.B++(lits ids ids bl++R)) w:=S.perm (by show List.Perm (lits ids ids bl++(g.B++R)) _;exact ij λf=>by simp only[iI];omega);rw[a1];refine(h args g.k g.q p v q' UL hm hp _ g.h _ ms w0 w S1).mono ?_;rintro y w1 ⟨B',rfl,hB,S2⟩;refine⟨v,[],bl,_,?_,by simpa using hl,?_,hK B' hB⟩
     ·have:=gf (ids:=[]) (more:=ids++[]) v hq.2;simpa using this.symm
     ·rw[e0,cH];exact S2.perm (ij λf=>by simp only[iI];omega)
   ·exact hc.elim
  ·exact hc.elim
 ·exact hc.elim
def Ii (x:QG):bR QH:=⟨x.f,false,UQ x⟩
theorem M7 {x:QG} (h:x.Ok) {gl:Nat->Option Nat}:uW (G:=QH) prog gl (Ii x):=⟨apx h gl,λe=>by cases e⟩
theorem acK {L:List (bR QH)} (hL:aI prog (λ_=>none) L) (n:Nat) {f:Nat} {args:List V} {v:V} {k:LK} {q q':List Sd.Ask} {B:List aj} (hB:QS k.bq k.most q B) (h:br (bZ prog (λ_=>none) L) n f args [] [⟨k,q,B,hB⟩] (bA 0 λx b c=>x=v/\b=[]/\∃B h,c=[⟨k,q',B,h⟩])) (hv:cR 0 v=true)
 {bs:List aj} {ms:List Nat} {w0 w:ag} (S:St ms w0 (B++bs) w):aV prog f (aH [] args).toArray w λy w1=>∃B',y=den [] v/\QS k.bq k.most q' B'/\St ms w0 (B'++bs) w1:=by
 refine(eO hL.T hL.Q n (C:=bZ prog (λ_=>none) L) (ids:=[]) (bl:=[]) (ch:=[⟨k,q,B,hB⟩]) (R:=bs) Gl.none rfl S h).mono ?_;rintro x w' ⟨y,more,bl',ch',rfl,h1,S',hK⟩;obtain⟨v2,cJ,bl2,e,dv,S2,rfl,rfl,B1,wQ,rfl⟩:=iB (n0:=0) h1 (by simp) S' hK;have hm:cJ=[]:=by simpa using dv
 subst hm;exact⟨B1,e,wQ,S2⟩
def UR:QG:=⟨213,0,λargs _ q=>match args with
 |[]=>some (True,.av [.agg (MD (kr q).1),.int .i64 (kr q).2],q)
 |_=>none⟩
theorem apy:UR.Ok:=by
 intro args k q p v q' hv hm hp B hB bs ms w0 w S
 match args,hv,hm with
 |[a],hv,hm=>
  have ha:a=.raw (vq k):=by simpa[UR]using hv
  subst ha;replace hm:some (True,V.av [.agg (MD (kr q).1),.int .i64 (kr q).2],q)=some (p,v,q'):=hm;simp only[aY,bC]at hm;obtain⟨rfl,rfl,rfl⟩:=hm;exact(aoz hB S).mono (by rintro y w1 ⟨rfl,h⟩;exact⟨B,rfl,hB,S.quiet h⟩)
 |_::_::_,_,hm=>cases hm
def US:QG:=⟨216,0,λargs most q=>match args with
 |[.agg al]=>(match ME al with|some a=>some (most<=3/\(∀e∈q,e.source=a.source\/¬e.bb=a.bb),.int .i64 (Sd.Q.push most q a).2,(Sd.Q.push most q a).1)|none=>none)
 |_=>none⟩
theorem apz:US.Ok:=by
 intro args k q p v q' hv hm hp B hB bs ms w0 w S
 match args,hv,hm with
 |a::l,hv,hm=>
  have ha:a=.raw (vq k):=by simpa[US]using hv
  subst ha;replace hm:(match(generalizing:=false) l with
   |[.agg al]=>(match ME al with|some a=>some (k.most<=3/\(∀e∈q,e.source=a.source\/¬e.bb=a.bb),V.int .i64 (Sd.Q.push k.most q a).2,(Sd.Q.push k.most q a).1)|none=>none)
   |_=>none)=some (p,v,q'):=hm
  split at hm
  ·split at hm
   ·rename_i a ha;obtain rfl:=ang ha;simp only[aY,bC]at hm;obtain⟨rfl,rfl,rfl⟩:=hm;exact aox a hB hp.1 hp.2 S
   ·cases hm
  ·cases hm
theorem apA (t:Sd.Tok) (q:List Sd.Ask):Sd.fy t q=if(kr q).2≠0 then(t,(kr q).2,q)else if(t.dq (kr q).1.source).2≠0 then(t,(t.dq (kr q).1.source).2,q)else((t.dq (kr q).1.source).1,0,Sd.Q.drop q (kr q).1.source):=by
 cases q with
 |nil=>rfl
 |cons a q=>rfl
def LA:List (bR QH):=Ii MZ::Ii UR::qL QH QV
theorem acL:aI prog (λ_=>none) LA:=aI.cons (M7 acH) (aI.cons (M7 apy) (kj (zM _)))
def one (g:QH) (q:List Sd.Ask) (X:List QH->Prop):Prop:=∀B (h:QS g.k.bq g.k.most q B),X [⟨g.k,q,B,h⟩]
def mU (t:Sd.Tok) (n:Int):V:=.av [.agg (di t),.int .i64 n]
theorem apB (g:QH) (t:Sd.Tok) (K:VK QH):br (bZ prog (λ_=>none) LA) 60 180 [.agg (di t),.raw (vq g.k)] [] [g] (bA 0 K)=
 ((vq g.k=vq g.k/\True)/\one g g.q λc=>cond ((kr g.q).2!=0) (K (mU t (kr g.q).2) [] c) (bY t.ah/\cond ((t.dq (kr g.q).1.source).2!=0) (K (mU t (t.dq (kr g.q).1.source).2) [] c)
   ((vq g.k=vq g.k/\True)/\one g (Sd.Q.drop g.q (kr g.q).1.source) λc=>K (mU (t.dq (kr g.q).1.source).1 0) [] c))):=by kernel_rfl
def M8:QG:=⟨180,1,λargs _ q=>match args with
 |[.agg tl]=>(match kM tl with|some t=>some (bY t.ah,mU (Sd.fy t q).1 (Sd.fy t q).2.1,(Sd.fy t q).2.2)|none=>none)
 |_=>none⟩
theorem apC:M8.Ok:=by
 intro args k q p v q' hv hm hp B hB bs ms w0 w S
 match args,hv,hm with
 |a::b::l,hv,hm=>
  have ha:b=.raw (vq k):=by simpa[M8]using hv
  subst ha;replace hm:(match(generalizing:=false) a::l with
   |[.agg tl]=>(match kM tl with|some t=>some (bY t.ah,mU (Sd.fy t q).1 (Sd.fy t q).2.1,(Sd.fy t q).2.2)|none=>none)
   |_=>none)=some (p,v,q'):=hm
  split at hm
  ·rename_i tl heq;obtain⟨rfl,rfl⟩:=vT heq;split at hm
   ·rename_i t ht;obtain rfl:=oA ht;simp only[aY,bC]at hm;obtain⟨rfl,rfl,rfl⟩:=hm;refine acK acL 60 hB ?_ rfl S;rw[show br (bZ prog (λ_=>none) LA) 60 M8.f=br (bZ prog (λ_=>none) LA) 60 180 from rfl,apB ⟨k,q,B,hB⟩,apA];refine⟨⟨rfl,trivial⟩,λB h=>aM (λh1=>?_) (λh1=>⟨hp,aM (λh2=>?_) λh2=>⟨⟨rfl,trivial⟩,λB h=>?_⟩⟩)⟩
    ·rw[if_pos (by simpa using h1)];exact⟨rfl,rfl,B,h,rfl⟩
    ·rw[if_neg (by simpa using h1),if_pos (by simpa using h2)];exact⟨rfl,rfl,B,h,rfl⟩
    ·rw[if_neg (by simpa using h1),if_neg (by simpa using h2)];exact⟨rfl,rfl,B,h,rfl⟩
   ·cases hm
  ·cases hm
def LB:List (bR QH):=Ii M8::Ii US::LA
theorem apD:aI prog (λ_=>none) LB:=aI.cons (M7 apC) (aI.cons (M7 apz) acL)
def M9 (f:fL) (args:List V) (g:QH) (K:VK QH):Prop:=br (bZ prog (λ_=>none) LB) 60 f args [] [g] (bA 0 K)
theorem UT {f:Nat} {args:List V} {v:V} {k:LK} {q q':List Sd.Ask} {B:List aj} (hB:QS k.bq k.most q B) (h:M9 f args ⟨k,q,B,hB⟩ λx b c=>x=v/\b=[]/\∃B h,c=[⟨k,q',B,h⟩]) (hv:cR 0 v=true)
 {bs:List aj} {ms:List Nat} {w0 w:ag} (S:St ms w0 (B++bs) w):aV prog f (aH [] args).toArray w λy w1=>∃B',y=den [] v/\QS k.bq k.most q' B'/\St ms w0 (B'++bs) w1:=acK apD 60 hB h hv S
theorem apE (g:QH) (t:Sd.Tok) (f:Int) (K:VK QH):M9 127 [.agg (di t),.raw (vq g.k),.int .i64 f] g K=
 cond (f !=t.aG) (K (mU t 20) [] [g]) (cond (decide (t.ah>=65535)) (K (mU t 24) [] [g]) ((vq g.k=vq g.k/\bY t.ah)/\one g (Sd.fy t g.q).2.2 λc=>K (mU (Sd.fy t g.q).1 (Sd.fy t g.q).2.1) [] c)):=by kernel_rfl
theorem apF {k:LK} {q:List Sd.Ask} {B:List aj} (hB:QS k.bq k.most q B) {t:Sd.Tok} (he:bY t.ah) (f:Int) {bs:List aj} {ms:List Nat} {w0 w:ag} (S:St ms w0 (B++bs) w):
 aV prog 127 (aH [] [.agg (di t),.raw (vq k),.int .i64 f]).toArray w λy w1=>∃B',y=den [] (mU (Sd.dh t q f).1 (Sd.dh t q f).2.1)/\QS k.bq k.most (Sd.dh t q f).2.2 B'/\St ms w0 (B'++bs) w1:=by
 refine UT hB ?_ rfl S;rw[apE ⟨k,q,B,hB⟩];unfold Sd.dh;refine aM (λh=>?_) (λh=>aM (λh2=>?_) λh2=>⟨⟨rfl,he⟩,λB h3=>?_⟩)
 ·rw[if_pos (by simpa using h)];exact⟨rfl,rfl,B,hB,rfl⟩
 ·rw[if_neg (by simpa using h),if_pos (by simpa using h2)];exact⟨rfl,rfl,B,hB,rfl⟩
 ·rw[if_neg (by simpa using h),if_neg (by simpa using h2)];exact⟨rfl,rfl,B,h3,rfl⟩
def M_ (g:QH) (t:Sd.Tok) (la:Sd.Timer) (K:VK QH):Prop:=
 let t1:Sd.Tok:={t with la:=la.step}
 (bY la.n/\bY la.most)/\True/\cond (!la.step.due) (K (mU t1 0) [] [g]) (cond (decide (t.ah>=65535)) (bY t.ah/\K (mU t1.kg 6) [] [g]) ((vq g.k=vq g.k/\bY t.ah)/\one g (Sd.fy t1 g.q).2.2 λc=>
  cond ((Sd.fy t1 g.q).2.1!=0) (bY t.ah/\K (mU (t1.dq 4).1 5) [] c) (K (mU (Sd.fy t1 g.q).1 5) [] c)))
theorem apG (g:QH) (p:Sd.aO) (ka:Nat->Option aQ) (kn kc:Nat->Nat) (t:Sd.Tok) (th:Bool) (K:VK QH):M9 141 [.agg [.dz p ka kn kc],.agg (di t),.raw (vq g.k),.bool th] g K=
 cond (t.aG==4) (K (mU {t with la:=.zero} 0) [] [g]) (cond th (K (mU {t with la:=.zero} 0) [] [g]) (cond (t.la.most==0) (bY (p.i 43)/\M_ g t (.start (p.i 43)) K) (M_ g t t.la K))):=by kernel_rfl
def tV (t:Sd.Tok) (a n:Int):V:=.av [.agg (di t),.int .i64 a,.int .i64 n]
def Na (g:QH) (t:Sd.Tok) (f:Int) (K:VK QH):Prop:=bY t.ah/\cond ((t.dq f).2!=0) (K (tV t 0 (t.dq f).2) [] [g]) ((vq g.k=vq g.k/\True)/\one g (Sd.Q.drop g.q f) λc=>K (tV (t.dq f).1 3 0) [] c)
def UU (g:QH) (p:Sd.aO) (t:Sd.Tok) (f:Int) (K:VK QH):Prop:=
 let a:Sd.Ask:=⟨f,Sd.placeOf p f,.start (p.i 45)⟩
 True/\bY (p.i 45)/\(vq g.k=vq g.k/\g.k.most<=3/\∀e∈g.q,e.source=f\/¬e.bb=Sd.placeOf p f)/\one g (Sd.Q.push g.k.most g.q a).1 λc=>K (tV t 0 (Sd.Q.push g.k.most g.q a).2) [] c
theorem apH (g:QH) (p:Sd.aO) (ka:Nat->Option aQ) (kn kc:Nat->Nat) (t:Sd.Tok) (f:Int) (nw:Bool) (K:VK QH):M9 197 [.agg [.dz p ka kn kc],.agg (di t),.raw (vq g.k),.int .i64 f,.bool nw] g K=
 cond t.bad (K (tV t 0 29) [] [g]) (cond (f==t.aG) (K (tV t 0 25) [] [g]) (cond (decide (t.ah>=65535)) (K (tV t 0 24) [] [g]) (cond (t.aG==4) (Na g t f K)
  (cond nw (True/\cond (Sd.eV p f t.aG) (Na g t f K) (cond nw (K (tV t 0 26) [] [g]) (UU g p t f K))) (cond nw (K (tV t 0 26) [] [g]) (UU g p t f K)))))):=by kernel_rfl
def Ij (t:Sd.Tok) (la:Sd.Timer) (q:List Sd.Ask):Sd.Tok×Int×List Sd.Ask:=
 let t1:Sd.Tok:={t with la:=la.step}
 if la.step.due=false then(t1,0,q)else if 65535<=t.ah then(t1.kg,6,q)else if(Sd.fy t1 q).2.1≠0 then((t1.dq 4).1,5,(Sd.fy t1 q).2.2)else((Sd.fy t1 q).1,5,(Sd.fy t1 q).2.2)
theorem acM {k:LK} {q:List Sd.Ask} {B:List aj} (hB:QS k.bq k.most q B) {t:Sd.Tok} (he:bY t.ah) {la:Sd.Timer} (qb:bY la.n/\bY la.most):
 M_ ⟨k,q,B,hB⟩ t la λx b c=>x=mU (Ij t la q).1 (Ij t la q).2.1/\b=[]/\∃B h,c=[⟨k,(Ij t la q).2.2,B,h⟩]:=by
 unfold M_ Ij;refine⟨qb,trivial,aM (λh=>?_) (λh=>aM (λh2=>⟨he,?_⟩) λh2=>⟨⟨rfl,he⟩,λB1 h1=>aM (λh3=>⟨he,?_⟩) λh3=>?_⟩)⟩
 ·rw[if_pos (by simpa using h)];exact⟨rfl,rfl,B,hB,rfl⟩
 ·rw[if_neg (by simpa using h),if_pos (by simpa using h2)];exact⟨rfl,rfl,B,hB,rfl⟩
 ·rw[if_neg (by simpa using h),if_neg (by simpa using h2),if_pos (by simpa using h3)];exact⟨rfl,rfl,B1,h1,rfl⟩
 ·rw[if_neg (by simpa using h),if_neg (by simpa using h2),if_neg (by simpa using h3)];exact⟨rfl,rfl,B1,h1,rfl⟩
theorem apI {k:LK} {q:List Sd.Ask} {B:List aj} (hB:QS k.bq k.most q B) (p:Sd.aO) (ka:Nat->Option aQ) (kn kc:Nat->Nat) {t:Sd.Tok} (th:Bool) (he:bY t.ah) (qb:bY t.la.n/\bY t.la.most) (hp:1<=p.i 43/\p.i 43<=1000) {bs:List aj} {ms:List Nat} {w0 w:ag} (S:St ms w0 (B++bs) w):
 aV prog 141 (aH [] [.agg [.dz p ka kn kc],.agg (di t),.raw (vq k),.bool th]).toArray w λy w1=>∃B',y=den [] (mU (Sd.dW p t q th).1 (Sd.dW p t q th).2.1)/\QS k.bq k.most (Sd.dW p t q th).2.2 B'/\St ms w0 (B'++bs) w1:=by
 refine UT hB ?_ rfl S;rw[apG ⟨k,q,B,hB⟩];have e:Sd.dW p t q th=if t.aG=4\/th=true then({t with la:=.zero},0,q)else Ij t (if t.la.most=0 then .start (p.i 43)else t.la) q:=rfl
 rw[e];refine aM (λh=>?_) (λh=>aM (λh2=>?_) λh2=>?_)
 ·rw[if_pos (.inl (by simpa using h))];exact⟨rfl,rfl,B,hB,rfl⟩
 ·rw[if_pos (.inr h2)];exact⟨rfl,rfl,B,hB,rfl⟩
 ·rw[if_neg (by simp at h;simp[h,h2])];refine aM (λh3=>⟨by unfold bY;omega,?_⟩) (λh3=>?_)
  ·rw[if_pos (by simpa using h3)];refine acM hB he ?_;rw[Hx,if_neg (by omega)];exact⟨⟨by show(-9223372036854775808:Int)<=0;omega,by show(0:Int)<=9223372036854775807;omega⟩,by unfold bY;show _<=p.i 43/\p.i 43<=_;omega⟩
  ·rw[if_neg (by simpa using h3)];exact acM hB he qb
theorem acN {k:LK} {q:List Sd.Ask} {B:List aj} (hB:QS k.bq k.most q B) {t:Sd.Tok} (he:bY t.ah) {f:Int} {R:Sd.Tok×Int×Int×List Sd.Ask} (e:R=if(t.dq f).2≠0 then(t,0,(t.dq f).2,q)else((t.dq f).1,3,0,Sd.Q.drop q f)):
 Na ⟨k,q,B,hB⟩ t f λx b c=>x=tV R.1 R.2.1 R.2.2.1/\b=[]/\∃B h,c=[⟨k,R.2.2.2,B,h⟩]:=by
 unfold Na;subst e;refine⟨he,aM (λh=>?_) (λh=>⟨⟨rfl,trivial⟩,λB1 h1=>?_⟩)⟩
 ·rw[if_pos (by simpa using h)];exact⟨rfl,rfl,B,hB,rfl⟩
 ·rw[if_neg (by simpa using h)];exact⟨rfl,rfl,B1,h1,rfl⟩
theorem apJ {k:LK} {q:List Sd.Ask} {B:List aj} (hB:QS k.bq k.most q B) (p:Sd.aO) (ka:Nat->Option aQ) (kn kc:Nat->Nat) {t:Sd.Tok} (f:Int) (nw:Bool) (he:bY t.ah) (hm:k.most<=3) (hr:∀e∈q,e.source=f\/¬e.bb=Sd.placeOf p f) (hp:1<=p.i 45/\p.i 45<=1000) {bs:List aj} {ms:List Nat} {w0 w:ag} (S:St ms w0 (B++bs) w):
 aV prog 197 (aH [] [.agg [.dz p ka kn kc],.agg (di t),.raw (vq k),.int .i64 f,.bool nw]).toArray w λy w1=>∃B',y=den [] (tV (Sd.fO p t k.most q f nw).1 (Sd.fO p t k.most q f nw).2.1 (Sd.fO p t k.most q f nw).2.2.1)/\QS k.bq k.most (Sd.fO p t k.most q f nw).2.2.2 B'/\St ms w0 (B'++bs) w1:=by
 refine UT hB ?_ rfl S;rw[apH ⟨k,q,B,hB⟩];have hP:∀R:Sd.Tok×Int×Int×List Sd.Ask,R=(t,0,(Sd.Q.push k.most q ⟨f,Sd.bb p f,.start p.ask⟩).2,(Sd.Q.push k.most q ⟨f,Sd.bb p f,.start p.ask⟩).1)->UU ⟨k,q,B,hB⟩ p t f λx b c=>x=tV R.1 R.2.1 R.2.2.1/\b=[]/\∃B h,c=[⟨k,R.2.2.2,B,h⟩]:=by
  rintro R rfl;exact⟨trivial,by unfold bY;omega,⟨rfl,hm,hr⟩,λB1 h1=>⟨rfl,rfl,B1,h1,rfl⟩⟩
 unfold Sd.fO;refine aM (λh=>?_) (λh=>?_)
 ·rw[if_pos h];exact⟨rfl,rfl,B,hB,rfl⟩
 rw[if_neg (by simp[h])];refine aM (λh=>?_) (λh=>?_)
 ·rw[if_pos (by simpa using h)];exact⟨rfl,rfl,B,hB,rfl⟩
 rw[if_neg (by simpa using h)];refine aM (λh=>?_) (λh=>?_)
 ·rw[if_pos (by simpa using h)];exact⟨rfl,rfl,B,hB,rfl⟩
 rw[if_neg (by simpa using h)];refine aM (λh=>?_) (λh4=>aM (λh5=>⟨trivial,aM (λh6=>?_) λh6=>aM (λh7=>?_) λh7=>?_⟩) λh5=>aM (λh7=>?_) λh7=>?_)
 ·rw[if_pos (.inl (by simpa using h))];exact acN hB he rfl
 ·rw[if_pos (.inr ⟨h5,h6⟩)];exact acN hB he rfl
 ·rw[if_neg (by simp at h4;simp[h4,h6]),if_pos h7];exact⟨rfl,rfl,B,hB,rfl⟩
 ·rw[h5]at h7;cases h7
 ·rw[h5]at h7;cases h7
 ·rw[if_neg (by simp at h4;simp[h4,h5]),if_neg (by simp[h5])];exact hP _ rfl
variable{fr:Sd.aF->Nat×Sd.ao}
def UW:QG:=⟨127,1,λargs _ q=>match args with
 |[.agg tl,.int .i64 f]=>(match kM tl with|some t=>some (bY t.ah,.av [.agg (di (Sd.dh t q f).1),.int .i64 (Sd.dh t q f).2.1],(Sd.dh t q f).2.2)|none=>none)
 |_=>none⟩
theorem apL:UW.Ok:=by
 intro args k q p v q' hv hm hp B hB bs ms w0 w S
 match args,hv,hm with
 |a::b::l,hv,hm=>
  have ha:b=.raw (vq k):=by simpa[UW]using hv
  subst ha;replace hm:(match(generalizing:=false) a::l with
   |[.agg tl,.int .i64 f]=>(match kM tl with|some t=>some (bY t.ah,V.av [.agg (di (Sd.dh t q f).1),.int .i64 (Sd.dh t q f).2.1],(Sd.dh t q f).2.2)|none=>none)
   |_=>none)=some (p,v,q'):=hm
  split at hm
  ·rename_i tl f heq;obtain⟨rfl,rfl⟩:=vT heq;split at hm
   ·rename_i t ht;obtain rfl:=oA ht;simp only[aY,bC]at hm;obtain⟨rfl,rfl,rfl⟩:=hm;exact apF hB hp f S
   ·cases hm
  ·cases hm
def UX:QG:=⟨197,2,λargs most q=>match args with
 |[.agg [.dz p ka kn kc],.agg tl,.int .i64 f,.bool nw]=>(match kM tl with|some t=>some (bY t.ah/\most<=3/\(∀e∈q,e.source=f\/¬e.bb=Sd.placeOf p f)/\(1<=p.i 45/\p.i 45<=1000),.av [.agg (di (Sd.fO p t most q f nw).1),.int .i64 (Sd.fO p t most q f nw).2.1,.int .i64 (Sd.fO p t most q f nw).2.2.1],(Sd.fO p t most q f nw).2.2.2)|none=>none)
 |_=>none⟩
theorem apM:UX.Ok:=by
 intro args k q p v q' hv hm hp B hB bs ms w0 w S
 match args,hv,hm with
 |a::b::c::l,hv,hm=>
  have ha:c=.raw (vq k):=by simpa[UX]using hv
  subst ha;replace hm:(match(generalizing:=false) a::b::l with
   |[.agg [.dz p ka kn kc],.agg tl,.int .i64 f,.bool nw]=>(match kM tl with|some t=>some (bY t.ah/\k.most<=3/\(∀e∈q,e.source=f\/¬e.bb=Sd.placeOf p f)/\(1<=p.i 45/\p.i 45<=1000),V.av [.agg (di (Sd.fO p t k.most q f nw).1),.int .i64 (Sd.fO p t k.most q f nw).2.1,.int .i64 (Sd.fO p t k.most q f nw).2.2.1],(Sd.fO p t k.most q f nw).2.2.2)|none=>none)
   |_=>none)=some (p,v,q'):=hm
  split at hm
  ·rename_i p' ka kn kc tl f nw heq;obtain⟨rfl,h2⟩:=vT heq;obtain⟨rfl,rfl⟩:=vT h2;split at hm
   ·rename_i t ht;obtain rfl:=oA ht;simp only[aY,bC]at hm;obtain⟨rfl,rfl,rfl⟩:=hm;exact apJ hB p' ka kn kc f nw hp.1 hp.2.1 hp.2.2.1 hp.2.2.2 S
   ·cases hm
  ·cases hm
def cC (s:Sd.aa) (q:List Sd.Ask):Sd.aa:={s with c:={s.c with q:=q}}
def L4 (fr:Sd.aF->Nat×Sd.ao) (C:Sd.aK):List (bR (Gh fr)):=⟨91,false,ie (tU C)⟩::⟨127,false,Cm UW⟩::⟨197,false,Cm UX⟩::L3 fr C
theorem Co (tk:Nat->Sd.ao->Option Sd.a9) (ht:Body (fr:=fr) 147 dY):aI prog gS (L4 fr (aq tk)):=
 aI.cons (i_ (apw tk ht)) (aI.cons (MY apL) (aI.cons (MY apM) (acI tk ht)))
section
variable(C:Sd.aK) (k:LK) (s:Sd.aa) (F:aX fr (aU k s)) (Kb:SK fr k)
theorem apN (l:Int) (m:Sd.a9):br (bZ prog gS (L4 fr C)) 60 152 [.ptr 2 0,.int .i64 l,.agg (cQ m)] (bK k s F) [bj k s F] (cY k s Kb)
 =(cy k s F/\nE [.int .i64 l,.int .i64 m.seq] k (bP s) F λv s' F'=>cY k s Kb (.av []) (bK k s' F'++[⟨true,⟨66,(0,0)⟩,cQ m⟩]) [bj k s' F']):=by kernel_rfl
theorem apO (l:Int) (m:Sd.a9):br (bZ prog gS (L4 fr C)) 60 156 [.ptr 2 0,.int .i64 l,.agg (cQ m)] (bK k s F) [bj k s F] (cY k s Kb)
 =(bY s.c.t.ah/\cond ((s.c.t.accept l m.ah).2!=0) (cy k s F/\mi C [.int .i64 l,.int .i64 m.seq,.int .i64 (s.c.t.accept l m.ah).2] k (bP s) F λv s' F'=>cY k s Kb (.av []) (bK k s' F'++[⟨true,⟨66,(0,0)⟩,cQ m⟩,⟨true,⟨95,(0,0)⟩,di (s.c.t.accept l m.ah).1⟩]) [bj k s' F'])
  (cy k s F/\sE C [.agg (di (s.c.t.accept l m.ah).1),.int .i64 1,.int .i64 m.seq] k (bP s) F λv s2 F2=>cy k s2 F2/\nE [.int .i64 l,.int .i64 m.seq] k (bP s2) F2 λv s' F'=>cY k s Kb (.av []) (bK k s' F'++[⟨true,⟨66,(0,0)⟩,cQ m⟩,⟨true,⟨95,(0,0)⟩,di (s.c.t.accept l m.ah).1⟩]) [bj k s' F'])):=by kernel_rfl
theorem apP (l:Int) (m:Sd.a9):br (bZ prog gS (L4 fr C)) 60 157 [.ptr 2 0,.int .i64 l,.agg (cQ m)] (bK k s F) [bj k s F] (cY k s Kb)
 =(True/\cond ((s.c.t.fU l).2!=0) (cy k s F/\mi C [.int .i64 l,.int .i64 m.seq,.int .i64 (s.c.t.fU l).2] k (bP s) F λv s' F'=>cY k s Kb (.av []) (bK k s' F'++[⟨true,⟨66,(0,0)⟩,cQ m⟩,⟨true,⟨95,(0,0)⟩,di (s.c.t.fU l).1⟩]) [bj k s' F'])
  (cy k (gO s (s.c.t.fU l).1) F/\vo [.int .i64 (s.c.t.fU l).1.aG,.int .i64 l,.int .i64 0] k (bP (gO s (s.c.t.fU l).1)) F λv s2 F2=>cy k s2 F2/\ig C [.int .i64 11,.int .i64 l,.int .i64 m.seq,.int .i64 0,.int .i64 0] k (bP s2) F2 λv s3 F3=>
   cy k s3 F3/\nE [.int .i64 l,.int .i64 m.seq] k (bP s3) F3 λv s' F'=>cY k s Kb (.av []) (bK k s' F'++[⟨true,⟨66,(0,0)⟩,cQ m⟩,⟨true,⟨95,(0,0)⟩,di (s.c.t.fU l).1⟩]) [bj k s' F'])):=by kernel_rfl
theorem apQ (l:Int) (m:Sd.a9):br (bZ prog gS (L4 fr C)) 60 155 [.ptr 2 0,.int .i64 l,.agg (cQ m)] (bK k s F) [bj k s F] (cY k s Kb)
 =(True/\Sd.fk s.c.p/\cond ((Sd.Tok.make s.c.p s.c.t l m.aT ((dA s.c.af).on m.aT)).2!=0) (cy k s F/\mi C [.int .i64 l,.int .i64 m.seq,.int .i64 (Sd.Tok.make s.c.p s.c.t l m.aT ((dA s.c.af).on m.aT)).2] k (bP s) F λv s' F'=>cY k s Kb (.av []) (bK k s' F'++[⟨true,⟨66,(0,0)⟩,cQ m⟩,⟨true,⟨95,(0,0)⟩,di (Sd.Tok.make s.c.p s.c.t l m.aT ((dA s.c.af).on m.aT)).1⟩]) [bj k s' F'])
  (cy k (gO s (Sd.Tok.make s.c.p s.c.t l m.aT ((dA s.c.af).on m.aT)).1) F/\vn [.int .i64 m.aT,.agg (mh 135 0 0 l (Sd.Tok.make s.c.p s.c.t l m.aT ((dA s.c.af).on m.aT)).1.ah 0)] k (bP (gO s (Sd.Tok.make s.c.p s.c.t l m.aT ((dA s.c.af).on m.aT)).1)) F λv s2 F2=>
   cy k s2 F2/\ig C [.int .i64 9,.int .i64 l,.int .i64 m.seq,.int .i64 0,.int .i64 m.aT] k (bP s2) F2 λv s3 F3=>
   cy k s3 F3/\nE [.int .i64 l,.int .i64 m.seq] k (bP s3) F3 λv s' F'=>cY k s Kb (.av []) (bK k s' F'++[⟨true,⟨66,(0,0)⟩,cQ m⟩,⟨true,⟨95,(0,0)⟩,di (Sd.Tok.make s.c.p s.c.t l m.aT ((dA s.c.af).on m.aT)).1⟩]) [bj k s' F'])):=by kernel_rfl
theorem apR (l:Int) (m:Sd.a9):br (bZ prog gS (L4 fr C)) 60 158 [.ptr 2 0,.int .i64 l,.agg (cQ m)] (bK k s F) [bj k s F] (cY k s Kb)
 =((vq k=vq k/\bY s.c.t.ah)/\∀B (hB:QS k.bq k.most (Sd.dh s.c.t s.c.q l).2.2 B),
  cond ((Sd.dh s.c.t s.c.q l).2.1!=0) (cy k (cC s (Sd.dh s.c.t s.c.q l).2.2) (F.cC (Sd.dh s.c.t s.c.q l).2.2 B hB)/\mi C [.int .i64 l,.int .i64 m.seq,.int .i64 (Sd.dh s.c.t s.c.q l).2.1] k (bP (cC s (Sd.dh s.c.t s.c.q l).2.2)) (F.cC (Sd.dh s.c.t s.c.q l).2.2 B hB) λv s' F'=>cY k s Kb (.av []) (bK k s' F'++[⟨true,⟨66,(0,0)⟩,cQ m⟩,⟨true,⟨95,(0,0)⟩,di (Sd.dh s.c.t s.c.q l).1⟩]) [bj k s' F'])
  (cy k (cC s (Sd.dh s.c.t s.c.q l).2.2) (F.cC (Sd.dh s.c.t s.c.q l).2.2 B hB)/\sE C [.agg (di (Sd.dh s.c.t s.c.q l).1),.int .i64 2,.int .i64 m.seq] k (bP (cC s (Sd.dh s.c.t s.c.q l).2.2)) (F.cC (Sd.dh s.c.t s.c.q l).2.2 B hB) λv s2 F2=>cy k s2 F2/\nE [.int .i64 l,.int .i64 m.seq] k (bP s2) F2 λv s' F'=>cY k s Kb (.av []) (bK k s' F'++[⟨true,⟨66,(0,0)⟩,cQ m⟩,⟨true,⟨95,(0,0)⟩,di (Sd.dh s.c.t s.c.q l).1⟩]) [bj k s' F'])):=by kernel_rfl
abbrev hJ (s:Sd.aa) (k:LK) (l:Int) (m:Sd.a9):Sd.Tok×Int×Int×List Sd.Ask:=Sd.fO s.c.p s.c.t k.most s.c.q l m.now
theorem apS (l:Int) (m:Sd.a9):br (bZ prog gS (L4 fr C)) 60 154 [.ptr 2 0,.int .i64 l,.agg (cQ m)] (bK k s F) [bj k s F] (cY k s Kb)
 =((vq k=vq k/\(bY s.c.t.ah/\k.most<=3/\(∀e∈s.c.q,e.source=l\/¬e.bb=Sd.placeOf s.c.p l)/\(1<=s.c.p.i 45/\s.c.p.i 45<=1000)))/\∀B (hB:QS k.bq k.most (hJ s k l m).2.2.2 B),
  cond ((hJ s k l m).2.2.1!=0) (cy k (cC s (hJ s k l m).2.2.2) (F.cC (hJ s k l m).2.2.2 B hB)/\mi C [.int .i64 l,.int .i64 m.seq,.int .i64 (hJ s k l m).2.2.1] k (bP (cC s (hJ s k l m).2.2.2)) (F.cC (hJ s k l m).2.2.2 B hB) λv s' F'=>cY k s Kb (.av []) (bK k s' F'++[⟨true,⟨66,(0,0)⟩,cQ m⟩,⟨true,⟨95,(0,0)⟩,di (hJ s k l m).1⟩]) [bj k s' F'])
  (cond (decide ((hJ s k l m).2.1>0)) (cy k (cC s (hJ s k l m).2.2.2) (F.cC (hJ s k l m).2.2.2 B hB)/\sE C [.agg (di (hJ s k l m).1),.int .i64 (hJ s k l m).2.1,.int .i64 m.seq] k (bP (cC s (hJ s k l m).2.2.2)) (F.cC (hJ s k l m).2.2.2 B hB) λv s2 F2=>cy k s2 F2/\nE [.int .i64 l,.int .i64 m.seq] k (bP s2) F2 λv s' F'=>cY k s Kb (.av []) (bK k s' F'++[⟨true,⟨66,(0,0)⟩,cQ m⟩,⟨true,⟨95,(0,0)⟩,di (hJ s k l m).1⟩]) [bj k s' F'])
  (cy k (gO (cC s (hJ s k l m).2.2.2) (hJ s k l m).1) (F.cC (hJ s k l m).2.2.2 B hB)/\ig C [.int .i64 10,.int .i64 l,.int .i64 m.seq,.int .i64 0,.int .i64 0] k (bP (gO (cC s (hJ s k l m).2.2.2) (hJ s k l m).1)) (F.cC (hJ s k l m).2.2.2 B hB) λv s2 F2=>cy k s2 F2/\nE [.int .i64 l,.int .i64 m.seq] k (bP s2) F2 λv s' F'=>cY k s Kb (.av []) (bK k s' F'++[⟨true,⟨66,(0,0)⟩,cQ m⟩,⟨true,⟨95,(0,0)⟩,di (hJ s k l m).1⟩]) [bj k s' F']))):=by kernel_rfl
end
structure TB (t:Sd.Tok):Prop where
 h:N4 t.aG
 e:xF t.ah
theorem Cp {t:Sd.Tok} (h:TB t) (o:Int):TB (t.dq o).1/\N8 (t.dq o).2:=by
 obtain⟨⟨h1,h2⟩,h3,h4⟩:=h;unfold Sd.Tok.dq;split
 ·exact⟨⟨⟨h1,h2⟩,h3,h4⟩,by simp[N8]⟩
 ·split
  ·exact⟨⟨⟨h1,h2⟩,h3,h4⟩,by simp[N8]⟩
  ·split
   ·exact⟨⟨⟨h1,h2⟩,h3,h4⟩,by simp[N8]⟩
   ·exact⟨⟨⟨by simp only[Sd.Tok.pass];omega,by simp only[Sd.Tok.pass];omega⟩,by simp only[Sd.Tok.pass];omega,by simp only[Sd.Tok.pass];omega⟩,by simp[N8]⟩
theorem apT {t:Sd.Tok} (h:TB t) (l e:Int):TB (t.accept l e).1/\N8 (t.accept l e).2:=by
 unfold Sd.Tok.accept;split
 ·exact⟨h,by simp[N8]⟩
 ·split
  ·exact⟨h,by simp[N8]⟩
  ·exact Cp h l
theorem apU {t:Sd.Tok} (h:TB t) (l:Int):TB (t.fU l).1/\N8 (t.fU l).2:=by
 unfold Sd.Tok.fU;split
 ·exact⟨h,by simp[N8]⟩
 ·exact⟨⟨h.h,h.e⟩,by simp[N8]⟩
theorem apV {t:Sd.Tok} (h:TB t) (p:Sd.aO) (l o:Int) (b:Bool):TB (Sd.Tok.make p t l o b).1/\N8 (Sd.Tok.make p t l o b).2:=by
 unfold Sd.Tok.make
 repeat' split
 all_goals first|exact⟨h,by simp[N8]⟩|exact⟨⟨h.h,h.e⟩,by simp[N8]⟩
theorem acO {t:Sd.Tok} (h:TB t) (q:List Sd.Ask):TB (Sd.fy t q).1/\N8 (Sd.fy t q).2.1:=by
 unfold Sd.fy;split
 ·exact⟨h,by simp[N8]⟩
 ·split
  ·exact⟨h,(Cp h _).2⟩
  ·exact⟨(Cp h _).1,by simp[N8]⟩
theorem acP {t:Sd.Tok} (h:TB t) (q:List Sd.Ask) (l:Int):TB (Sd.dh t q l).1/\N8 (Sd.dh t q l).2.1:=by
 unfold Sd.dh;split
 ·exact⟨h,by simp[N8]⟩
 ·split
  ·exact⟨h,by simp[N8]⟩
  ·exact acO h q
theorem acQ {t:Sd.Tok} {q:List Sd.Ask} {l:Int} (h:(Sd.dh t q l).2.1≠0):(Sd.dh t q l).2.2=q:=by
 unfold Sd.dh at h⊢;split
 ·rfl
 ·split
  ·rfl
  ·rename_i h1 h2;rw[if_neg h1,if_neg h2]at h;unfold Sd.fy at h⊢;split
   ·rfl
   ·split
    ·rfl
    ·rename_i a q' h3;simp only[if_neg h3,ne_eq,not_true_eq_false]at h
theorem apW (most:Int) (q:List Sd.Ask) (a:Sd.Ask):N8 (Sd.Q.push most q a).2:=by
 unfold Sd.Q.push
 repeat' split
 all_goals simp[N8]
theorem apX {most:Int} {q:List Sd.Ask} {a:Sd.Ask} (h:(Sd.Q.push most q a).2≠0):(Sd.Q.push most q a).1=q:=by
 unfold Sd.Q.push at h⊢;split
 ·rfl
 ·split
  ·rfl
  ·rename_i h1 h2;simp[if_neg h1,if_neg h2]at h
theorem apY {p:Sd.aO} {t:Sd.Tok} (h:TB t) (most:Int) (q:List Sd.Ask) (f:Int) (nw:Bool):TB (Sd.fO p t most q f nw).1/\N8 (Sd.fO p t most q f nw).2.2.1:=by
 unfold Sd.fO
 repeat' split
 all_goals first|exact⟨h,(Cp h _).2⟩|exact⟨h,apW _ _ _⟩|exact⟨(Cp h _).1,show N8 0 from z8⟩|exact⟨h,show 0<=_/\_<=255 by simp⟩
theorem apZ {p:Sd.aO} {t:Sd.Tok} {most:Int} {q:List Sd.Ask} {f:Int} {nw:Bool} (h:(Sd.fO p t most q f nw).2.2.1≠0):(Sd.fO p t most q f nw).2.2.2=q:=by
 unfold Sd.fO at h⊢
 repeat' split
 all_goals first|rfl|skip
 ·rename_i h1 h2 h3 h4 h5;simp only[if_neg h1,if_neg h2,if_neg h3,if_pos h4,if_neg h5,ne_eq,not_true_eq_false]at h
 ·rename_i h1 h2 h3 h4 h5;simp only[if_neg h1,if_neg h2,if_neg h3,if_neg h4,if_neg h5]at h;exact apX h
theorem tb {c:Sd.Core} (h:Sd.Inv c):TB c.t:=⟨⟨h.tok.aG.1,by have:=h.tok.aG.2;omega⟩,by have:=h.tok.ah.1;have:=h.p.ah.1;omega,h.tok.ah.2⟩
theorem TB.b {t:Sd.Tok} (h:TB t):bY t.ah:=⟨by have:=h.e.1;omega,by have:=h.e.2;omega⟩
theorem tW (C:Sd.aK) (s:Sd.aa) (t:Sd.Tok) (h n:Int):(s.goes C t h n).c.p=s.c.p:=by
 show(Sd.aa.dP _ _ _).c.p=_;rw[kL,kL]
theorem Rm.goes {C:Sd.aK} {s:Sd.aa} {t:Sd.Tok} {h n:Int} {m:Nat} (hh:Rm s (m+3)):Rm (s.goes C t h n) m:=by
 have h1:Rm ({s with c:={s.c with t:=t,q:=Sd.Q.drop s.c.q t.aG}}:Sd.aa) (m+3):=hh;exact(Rm.dP (Rm.dP h1)).rec
theorem qQ {n:Int} (h:(n !=0)=true):n≠0:=by simpa using h
theorem tX {n:Int} (h:(n !=0)=false):¬n≠0:=by simpa using h
structure Sy (s:Sd.aa) (l:Int) (m:Sd.a9):Prop where
 r:Rm s 8
 i:Sd.Inv s.c
 n:vm m.seq
 l1:1<=l
 l3:l<=3
def jo (act:Sd.aa->Int->Sd.a9->Sd.aa):SM fr:=λar k s F K=>match ar with
 |[.int .i64 l,.agg ml]=>(match zK ml with
  |some m=>Sy s l m/\∀F',K (.av []) (act s l m) F'
  |none=>False)
 |_=>False
theorem Cq {tk:Nat->Sd.ao->Option Sd.a9} {act:Sd.aa->Int->Sd.a9->Sd.aa} {f n:Nat} {L:List (bR (Gh fr))} (hL:aI prog gS L)
 (h:∀(l:Int) (m:Sd.a9) (k:LK) (s:Sd.aa) (F:aX fr (aU k s)) (Kb:SK fr k),s.c.p.queue=k.most->Sy s l m->(∀F',Kb (.av []) (act s l m) F')->br (bZ prog gS L) n f [.ptr 2 0,.int .i64 l,.agg (cQ m)] (bK k s F) [bj k s F] (cY k s Kb)):Body f (jo (fr:=fr) act):=by
 refine mT (n:=n) hL ?_;intro ar k s F Kb h0 hq hM;unfold jo at hM;split at hM
 ·rename_i l ml;split at hM
  ·rename_i m hm;obtain rfl:=Ew hm;exact h l m k s F Kb hq hM.1 hM.2
  ·exact hM.elim
 ·exact hM.elim
theorem Nb {s:Sd.aa} {q:List Sd.Ask} (h:q=s.c.q):cC s q=s:=by subst h;rfl
theorem UY (C:Sd.aK) (s:Sd.aa) (l:Int) (m:Sd.a9) (R:Sd.Tok×Int×Int×List Sd.Ask) (h:R=Sd.fO s.c.p s.c.t s.c.p.queue s.c.q l m.now):
 s.ask C l m=if R.2.2.1≠0 then s.refuse C l m.seq R.2.2.1 else(if 0<R.2.1 then(cC s R.2.2.2).goes C R.1 R.2.1 m.seq else(gO (cC s R.2.2.2) R.1).record C 10 l m.seq 0 0).done l m.seq:=by subst h;rfl
section
variable(tk:Nat->Sd.ao->Option Sd.a9) (ht:Body (fr:=fr) 147 dY)
include tk ht
theorem ap0:Body (fr:=fr) 152 (jo λs l m=>s.done l m.seq):=by
 refine Cq (tk:=tk) (n:=60) (Co tk ht) ?_;intro l m k s F Kb hq hS hK;rw[apN];exact⟨cF hq,vt ⟨hS.r.le (by decide),hS.n⟩ λF1=>fm rfl hK F1⟩
theorem ap1:Body (fr:=fr) 156 (jo λs l m=>s.accept (aq tk) l m):=by
 refine Cq (tk:=tk) (n:=60) (Co tk ht) ?_;intro l m k s F Kb hq hS hK;have hb:=apT (tb hS.i) l m.ah;rw[apO];refine⟨(tb hS.i).b,aM (λe=>⟨cF hq,z3 ⟨hS.r.le (by decide),hS.n,hb.2⟩ λF1=>fm (if_pos (qQ e)).symm hK F1⟩) (λe=>⟨cF hq,EG ⟨hS.r.le (by decide),hb.1.h,hb.1.e⟩ λF2=>⟨cF ?_,vt ⟨hS.r.goes.le (by decide),hS.n⟩ λF3=>fm (if_neg (tX e)).symm hK F3 (hp:=tW _ _ _ _ _)⟩⟩)⟩;rw[tW];exact hq
theorem ap2:Body (fr:=fr) 157 (jo λs l m=>s.fU (aq tk) l m):=by
 refine Cq (tk:=tk) (n:=60) (Co tk ht) ?_;intro l m k s F Kb hq hS hK;have hb:=apU (tb hS.i) l;have h1:Rm (gO s (s.c.t.fU l).1) 8:=hS.r;rw[apP];refine⟨trivial,aM (λe=>⟨cF hq,z3 ⟨hS.r.le (by decide),hS.n,hb.2⟩ λF1=>fm (if_pos (qQ e)).symm hK F1⟩) (λe=>⟨cF hq,M6 ⟨h1.le (by decide),⟨by have:=hS.l1;omega,by have:=hS.l3;omega⟩,z8⟩ λF2=>⟨cF ?_,mj h1.gone.r1 λF3=>⟨cF ?_,vt ⟨(h1.gone.rec).le (by decide),hS.n⟩ λF4=>fm (if_neg (tX e)).symm hK F4 (hp:=?_)⟩⟩⟩)⟩
 ·rw[lJ];exact hq
 ·show(Sd.aa.gone _ _ _ _).c.p.queue=_;rw[lJ];exact hq
 ·show(Sd.aa.gone _ _ _ _).c.p=_;rw[lJ];rfl
theorem ap3:Body (fr:=fr) 155 (jo λs l m=>s.offer (aq tk) l m):=by
 refine Cq (tk:=tk) (n:=60) (Co tk ht) ?_;intro l m k s F Kb hq hS hK;have hb:=apV (tb hS.i) s.c.p l m.aT (s.c.af.on m.aT);have h1:Rm (gO s (Sd.Tok.make s.c.p s.c.t l m.aT (s.c.af.on m.aT)).1) 8:=hS.r;rw[apQ,UK];refine⟨trivial,hS.i.p,aM (λe=>⟨cF hq,z3 ⟨hS.r.le (by decide),hS.n,hb.2⟩ λF1=>fm (if_pos (qQ e)).symm hK F1⟩) (λe=>⟨cF hq,M4 ⟨h1.le (by decide),rb (by decide) xG ⟨by have:=hS.l1;omega,by have:=hS.l3;omega⟩ hb.1.e z8⟩ λF2=>⟨cF ?_,mj h1.dP.r1 λF3=>⟨cF ?_,vt ⟨(h1.dP.rec).le (by decide),hS.n⟩ λF4=>fm (if_neg (tX e)).symm hK F4 (hp:=?_)⟩⟩⟩)⟩
 ·rw[kL];exact hq
 ·show(Sd.aa.dP _ _ _).c.p.queue=_;rw[kL];exact hq
 ·show(Sd.aa.dP _ _ _).c.p=_;rw[kL];rfl
theorem ap4:Body (fr:=fr) 158 (jo λs l m=>s.release (aq tk) l m):=by
 refine Cq (tk:=tk) (n:=60) (Co tk ht) ?_;intro l m k s F Kb hq hS hK;have hb:=acP (tb hS.i) s.c.q l;have h1:Rm (cC s (Sd.dh s.c.t s.c.q l).2.2) 8:=hS.r;rw[apR];refine⟨⟨rfl,(tb hS.i).b⟩,λB hB=>aM (λe=>⟨cF hq,z3 ⟨h1.le (by decide),hS.n,hb.2⟩ λF1=>fm ?_ hK F1⟩) (λe=>⟨cF hq,EG ⟨h1.le (by decide),hb.1.h,hb.1.e⟩ λF2=>⟨cF ?_,vt ⟨h1.goes.le (by decide),hS.n⟩ λF3=>fm (if_neg (tX e)).symm hK F3 (hp:=tW _ _ _ _ _)⟩⟩)⟩
 ·rw[Nb (acQ (qQ e))];exact(if_pos (qQ e)).symm
 ·rw[tW];exact hq
theorem ap5:Body (fr:=fr) 154 (jo λs l m=>s.ask (aq tk) l m):=by
 refine Cq (tk:=tk) (n:=60) (Co tk ht) ?_;intro l m k s F Kb hq hS hK;have hb:=apY (p:=s.c.p) (tb hS.i) k.most s.c.q l m.now;have h1:Rm (cC s (hJ s k l m).2.2.2) 8:=hS.r;have h2:Rm (gO (cC s (hJ s k l m).2.2.2) (hJ s k l m).1) 8:=hS.r;have UZ:hJ s k l m=Sd.fO s.c.p s.c.t s.c.p.queue s.c.q l m.now:=by rw[hJ,hq]
 rw[apS];refine⟨⟨rfl,(tb hS.i).b,by rw[<-hq];exact hS.i.p.queue.2,?_,hS.i.p.ask⟩,λB hB=>aM (λe=>⟨cF hq,z3 ⟨h1.le (by decide),hS.n,hb.2⟩ λF1=>fm ?_ hK F1⟩) (λe=>aM (λe2=>⟨cF hq,EG ⟨h1.le (by decide),hb.1.h,hb.1.e⟩ λF2=>⟨cF ?_,vt ⟨h1.goes.le (by decide),hS.n⟩ λF3=>fm ?_ hK F3 (hp:=tW _ _ _ _ _)⟩⟩)
  (λe2=>⟨cF hq,mj h2.r1 λF2=>⟨cF hq,vt ⟨h2.rec.le (by decide),hS.n⟩ λF3=>fm ?_ hK F3⟩⟩))⟩
 ·intro a ha;by_cases hs:a.source=l
  ·exact .inl hs
  ·refine .inr λhr=>hs ?_;have h:=hS.i.q.each a ha;have h1:=hS.l1;have h3:=hS.l3;exact Sd.Ze hS.i.p ⟨by omega,by omega⟩ ⟨by omega,by omega⟩ (by rw[<-hr,h.1];rfl)
 ·rw[Nb (apZ (qQ e)),UY _ _ _ _ _ UZ];exact(if_pos (qQ e)).symm
 ·rw[tW];exact hq
 ·have e3:0<(hJ s k l m).2.1:=by simpa using e2
  rw[UY _ _ _ _ _ UZ,if_neg (tX e),if_pos e3]
 ·have e3:¬0<(hJ s k l m).2.1:=by simpa using e2
  rw[UY _ _ _ _ _ UZ,if_neg (tX e),if_neg e3]
end
structure QT where
 f:Nat
 m:List V->TC->Option (Prop×V×Sd.aw)
def nF (t:Sd.aw) (b m:Int):TC:=⟨t.cN.1,t.cN.2.n,t.cN.2.most,t.ak 0,t.ak 1,t.ak 2,b,m⟩
def EH (x:QT):dc (Gh fr):=λargs bl ch K=>match args with
 |.ptr it 0::ar=>(match bl[it]?with
  |some ⟨true,⟨157,(0,0)⟩,tc⟩=>(match sw tc with
   |some y=>(match x.m ar y with
    |some (p,v,t)=>cond (bo 0 ar&&cR 0 v) (p/\K v (bl.set it ⟨true,⟨157,(0,0)⟩,cM (nF t y.b y.m)⟩) ch) False
    |none=>False)
   |none=>False)
  |_=>False)
 |_=>False
def QT.Ok (x:QT):Prop:=∀(ar:List V) (y:TC) (p:Prop) (v:V) (t:Sd.aw),x.m ar y=some (p,v,t)->p->∀(bt:Nat) (bs:List aj) (ms:List Nat) (w0 w:ag),St ms w0 ([⟨bt,true,.cells (jF (bD y).cN (bD y).ak y.b y.m) 157 (0,0)⟩]++bs) w->
 aV prog x.f (aH [bt] (.ptr 0 0::ar)).toArray w λu w1=>u=den [] v/\St ms w0 ([⟨bt,true,.cells (jF t.cN t.ak y.b y.m) 157 (0,0)⟩]++bs) w1
theorem U0 {bl:List VB} {ids:List Nat} (h:ids.length=bl.length) {i:Nat} (hi:i<bl.length):
 ∃r:List Nat,(∀j∈r,j≠i)/\∀bl':List VB,bl'.length=bl.length->(lits ids ids bl').Perm (aD ids (ids.getD i 0) (bl'.getD i dk)::r.map λj=>aD ids (ids.getD j 0) (bl'.getD j dk)):=by
 obtain⟨r,h1,h2⟩:=zW h (is:=[i]) (by simp) (by simp[hi]);exact⟨r,λj hj=>by simpa using h1 j hj,λbl' hl=>by simpa using h2 bl' hl⟩
theorem ap6 {x:QT} (h:x.Ok) (gl:Nat->Option Nat):Sound prog gl x.f (EH (fr:=fr) x):=by
 intro args ids bl ch R ms w0 w K hg hl S hc;unfold EH at hc;split at hc
 ·rename_i it ar;split at hc
  ·rename_i tc hb;split at hc
   ·rename_i y hy;split at hc
    ·rename_i p v t hm;cases hq:bo 0 ar&&cR 0 v with
     |false=>rw[hq]at hc;exact hc.elim
     |true=>
      rw[hq]at hc;simp only[bu]at hq;obtain⟨hp,hK⟩:=hc;obtain rfl:=xC hy;have hi:=iZ hb;obtain⟨r,hr,gE⟩:=U0 hl hi;have a1:aH ids (.ptr it 0::ar)=aH [ids.getD it 0] (.ptr 0 0::ar):=by
       have b1:aH ids ar=aH [] ar:=by have:=n_ (ids:=[]) (more:=ids) ar hq.1;simpa using this
       have b2:aH [ids.getD it 0] ar=aH [] ar:=by have:=n_ (ids:=[]) (more:=[ids.getD it 0]) ar hq.1;simpa using this
       simp only[aH,den,b1,b2];rfl
      have e1:aD ids (ids.getD it 0) (bl.getD it dk)=⟨ids.getD it 0,true,.cells (jF (bD y).cN (bD y).ak y.b y.m) 157 (0,0)⟩:=by rw[iY hb];kernel_rfl
      have p1:=gE bl rfl;rw[e1]at p1;have S1:=S.perm (p1.append_right _);rw[a1];refine(h ar y p v t hm hp _ _ ms w0 w S1).mono ?_;rintro u w1 ⟨rfl,S2⟩;refine⟨v,[],_,ch,?_,by simp[hl],?_,hK⟩
      ·have:=gf (ids:=[]) (more:=ids++[]) v hq.2;simpa using this.symm
      ·simp only[cH];refine S2.perm ?_;have p2:=gE (bl.set it ⟨true,⟨157,(0,0)⟩,cM (nF t y.b y.m)⟩) (by simp);have e2:aD ids (ids.getD it 0) ((bl.set it ⟨true,⟨157,(0,0)⟩,cM (nF t y.b y.m)⟩).getD it dk)=⟨ids.getD it 0,true,.cells (jF t.cN t.ak y.b y.m) 157 (0,0)⟩:=by rw[iY (zX hi)];kernel_rfl
       have e3:(r.map λj=>aD ids (ids.getD j 0) ((bl.set it ⟨true,⟨157,(0,0)⟩,cM (nF t y.b y.m)⟩).getD j dk))=r.map λj=>aD ids (ids.getD j 0) (bl.getD j dk):=by
        apply pI;intro j hj;simp only[ir];rw[kO (Ne.symm (hr j hj))]
       rw[e2,e3]at p2;exact p2.symm.append_right _
    ·exact hc.elim
   ·exact hc.elim
  ·exact hc.elim
 ·exact hc.elim
theorem U1 {x:QT} (h:x.Ok):uW (G:=Gh fr) prog gS ⟨x.f,false,EH x⟩:=⟨ap6 h gS,λe=>by cases e⟩
def acR:QT:=⟨196,λar y=>match ar with
 |[.int .i64 s]=>some (True,.bool ((bD y).cj s),(bD y).end_ s)
 |_=>none⟩
theorem ap7:acR.Ok:=by
 intro ar y p v t hm hp bt bs ms w0 w S;replace hm:(match(generalizing:=false) ar with
  |[.int .i64 s]=>some (True,V.bool ((bD y).cj s),(bD y).end_ s)
  |_=>none)=some (p,v,t):=hm
 split at hm
 ·simp only[aY,bC]at hm;obtain⟨rfl,rfl,rfl⟩:=hm;exact ao5 y _ S
 ·cases hm
def acS:QT:=⟨79,λar y=>match ar with
 |[]=>some (0<=y.b/\y.b<=1000,.av [],{bD y with cN:=(true,.start y.b)})
 |_=>none⟩
theorem ap_:acS.Ok:=by
 intro ar y p v t hm hp bt bs ms w0 w S;replace hm:(match(generalizing:=false) ar with
  |[]=>some (0<=y.b/\y.b<=1000,V.av [],{bD y with cN:=(true,.start y.b)})
  |_=>none)=some (p,v,t):=hm
 split at hm
 ·simp only[aY,bC]at hm;obtain⟨rfl,rfl,rfl⟩:=hm;exact ao7 y hp S
 ·cases hm
def EI (g:Nat):Option Nat:=bif az g 0 then some 0 else none
def Ik:List V:=[.bool false,.bool false,.bool false,.bool false,.bool false,.bool false,.bool false,.bool false,.bool false,.bool false,.bool true,.bool true]
def U2 (ka:Nat->Option aQ) (kn kc:Nat->Nat) (T:aJ) (p:Sd.aO) (t:Sd.Tok) (s r mo:Int) (m:Sd.a9) (K:VK Empty):Prop:=br (bZ prog EI (qL Empty QV)) 60 128 [.agg [.dz p ka kn kc],.agg (di t),.int .i64 s,.int .i64 r,.int .i64 mo,.agg (cQ m)] [⟨false,⟨T,(0,0)⟩,Ik⟩] [] K
theorem acT (ka:Nat->Option aQ) (kn kc:Nat->Nat) (T:aJ) (p:Sd.aO) (t:Sd.Tok) (s r mo:Int) (m:Sd.a9) (K:VK Empty):
 U2 ka kn kc T p t s r mo {m with kind:=10} (bA 0 K)=cond (s !=t.aG) (K (.int .i64 20) [] []) (cond (m.ah !=t.ah) (K (.int .i64 21) [] []) (True/\cond (!Sd.may p mo r 0) (K (.int .i64 22) [] []) (True/\cond (!Sd.goes p mo m.mode) (K (.int .i64 23) [] []) (K (.int .i64 0) [] []))))/\
 U2 ka kn kc T p t s r mo {m with kind:=11} (bA 0 K)=cond (s !=t.aG) (K (.int .i64 20) [] []) (cond (m.ah !=t.ah) (K (.int .i64 21) [] []) (True/\cond (!Sd.may p mo r m.cls) (K (.int .i64 22) [] []) (K (.int .i64 0) [] []))):=⟨by kernel_rfl,by kernel_rfl⟩
theorem acU (ka:Nat->Option aQ) (kn kc:Nat->Nat) {T:aJ} (p:Sd.aO) (t:Sd.Tok) (s r mo:Int) (m:Sd.a9) {v:V} (hv:U2 ka kn kc T p t s r mo m (bA 0 λx _ _=>x=v)) (hw:cR 0 v=true) {w:ag} (hC:w.heap[0]?=some (.cells (ai [] Ik).toArray T (0,0))):
 aV prog 128 (aH [0] [.agg [.dz p ka kn kc],.agg (di t),.int .i64 s,.int .i64 r,.int .i64 mo,.agg (cQ m)]).toArray w λx w1=>x=den [] v/\Ch [] w w1:=by
 have S:=St.given (w:=w) [(0,.cells (ai [0] Ik).toArray T (0,0))] (by intro p hp;simp only[iH]at hp;subst hp;exact hC);refine(eO (kj (zM EI)).T (kj (zM EI)).Q 60 (C:=bZ prog EI (qL Empty QV)) (ids:=[0]) (bl:=[⟨false,⟨T,(0,0)⟩,Ik⟩]) (ch:=[]) (R:=[]) (λg i h=>?_) rfl S hv).mono ?_
 ·replace h:EI g=some i:=h;unfold EI at h;cases hg:az g 0 with
  |false=>rw[hg]at h;cases h
  |true=>rw[hg]at h;cases h;exact⟨by simp,(cz hg).symm⟩
 ·rintro x w' ⟨y,more,bl',ch',rfl,h1,S',hK⟩;obtain⟨v2,cJ,bl2,e,dv,S2,rfl⟩:=iB (n0:=0) h1 (by simp) S' hK;exact⟨e.trans (gf (ids:=[]) _ hw),S'.ch⟩
theorem aqa (p:Sd.aO) (ka:Nat->Option aQ) (kn kc:Nat->Nat) (t:Sd.Tok) (s r mo:Int) (m:Sd.a9) (hk:m.kind=10\/m.kind=11) {T:aJ} {w:ag} (hC:w.heap[0]?=some (.cells (ai [] Ik).toArray T (0,0))):
 aV prog 128 (aH [0] [.agg [.dz p ka kn kc],.agg (di t),.int .i64 s,.int .i64 r,.int .i64 mo,.agg (cQ m)]).toArray w λx w1=>x=den [] (.int .i64 (Sd.mF p t s r mo m))/\Ch [] w w1:=by
 rcases hk with hk|hk
 ·have e:m={m with kind:=10}:=by cases m;simp only at hk;subst hk;rfl
  rw[e];refine acU ka kn kc p t s r mo _ ?_ rfl hC;rw[(acT ka kn kc T p t s r mo m _).1];unfold Sd.mF;rw[if_neg (by simp)];refine aM (λh=>by rw[if_pos (by simpa using h)]) (λh=>?_);rw[if_neg (by simpa using h)];refine aM (λh=>by rw[if_pos (by simpa using h)]) (λh=>⟨trivial,?_⟩);rw[if_neg (by simpa using h)];refine aM (λh=>by rw[if_pos (by simpa using h)]) (λh=>⟨trivial,?_⟩);rw[if_neg (by simpa using h)];exact aM (λh=>by rw[if_pos (by simpa using h)]) (λh=>by rw[if_neg (by simpa using h)])
 ·have e:m={m with kind:=11}:=by cases m;simp only at hk;subst hk;rfl
  rw[e];refine acU ka kn kc p t s r mo _ ?_ rfl hC;rw[(acT ka kn kc T p t s r mo m _).2];unfold Sd.mF;rw[if_neg (by simp)];refine aM (λh=>by rw[if_pos (by simpa using h)]) (λh=>?_);rw[if_neg (by simpa using h)];refine aM (λh=>by rw[if_pos (by simpa using h)]) (λh=>⟨trivial,?_⟩);rw[if_neg (by simpa using h)];refine aM (λh=>by rw[if_pos (by simpa using h)]) (λh=>?_);rw[if_neg (by simpa using h),if_neg (by simp)]
def Nc:QF:=⟨128,λargs bl=>match args with
 |[.agg [.dz p ka kn kc],.agg tl,.int .i64 s,.int .i64 r,.int .i64 mo,.agg ml]=>(match kM tl,zK ml,bl[1]?with
  |some t,some m,some (VB.mk _ (BT.mk _ (0,0)) bc)=>some ((m.kind=10\/m.kind=11)/\bc=[.bool false,.bool false,.bool false,.bool false,.bool false,.bool false,.bool false,.bool false,.bool false,.bool false,.bool true,.bool true],.int .i64 (Sd.mF p t s r mo m))
  |_,_,_=>none)
 |_=>none⟩
theorem aqb:Nc.Ok prog gS:=by
 intro args bl p_ v_ h hp ids w hg hm;unfold Nc at h;dsimp only at h;split at h
 ·rename_i p ka kn kc tl s r mo ml;split at h
  ·rename_i t m _ _ bc ht rF hb;simp only[aY,bC]at h;obtain⟨rfl,rfl⟩:=h;obtain rfl:=oA ht;obtain rfl:=Ew rF;obtain⟨hk,hc⟩:=hp;have h2:=hm.2 1 _ hb;rw[(hg 0 1 rfl).2,hc]at h2;exact told (aqa p ka kn kc t s r mo m hk h2)
  ·cases h
 ·cases h
def L5 (fr:Sd.aF->Nat×Sd.ao) (C:Sd.aK):List (bR (Gh fr)):=⟨196,false,EH acR⟩::⟨79,false,EH acS⟩::qE (Gh fr) Nc::L4 fr C
theorem EJ (tk:Nat->Sd.ao->Option Sd.a9) (ht:Body (fr:=fr) 147 dY):aI prog gS (L5 fr (aq tk)):=
 aI.cons (U1 ap7) (aI.cons (U1 ap_) (aI.cons ⟨Lm aqb,λ_=>Ll Nc.F⟩ (Co tk ht)))
end
section
open Go Go.RowKit Go.BigFrame Sx Vx
def Nd (d:Fd) (k:Nat):List V:=[.int .i64 d.sz,.int .i64 d.low,.int .i64 d.high,.fn (bif d.b then 166 else 168) [] [.ptr k 0],.fn (bif d.b then 167 else 169) [] [.ptr k 0]]
def Il:List Fd->Nat->List V
 |[],_=>[]
 |d::l,k=>Nd d k++Il l (k+1)
def Cr (i:Nat):List Fd->List VB
 |[]=>[]
 |d::l=>⟨true,bif d.b then 212 else 210,[.ptr i d.at_]⟩::Cr i l
def Nf:Option (List ae)->List V
 |none=>[]
 |some t=>[.rest t]
def qR (l:List Fd) (u:Option (List ae)) (i b:Nat):List VB:=⟨true,⟨175,(0,0)⟩,Il l (b+1)++Nf u⟩::Cr i l
def Ng (kd:Int) (T11:(Nat->Option (List ae)->Prop)->Prop) (k:List Fd->Nat->Option (List ae)->Prop) (k0:Prop):Prop:=
 cond (kd==1) (k [vf] 1 none) (cond (kd==2) (k [vf] 1 none) (cond (kd==3) (k [iD] 1 none) (cond (kd==4) (k [iD] 1 none) (cond (kd==8) (k [iD] 1 none) (cond (kd==9) (k [iD] 1 none) (cond (kd==5) (k [iD,zO] 2 none) (cond (kd==6) (k [iD,zN] 2 none) (cond (kd==7) (k [iD,nA] 2 none)
  (cond (kd==10) (k [iD,nA,xw] 3 none) (cond (kd==11) (T11 λc u=>k [iD,nA,vg,fX 0,fX 1,fX 2,fX 3] c u) k0))))))))))
def vu (n c:Nat) (a:List V) (k:Nat->List ae->Prop):Prop:=(n<=c/\ck a=c*5)/\(∀(c':Nat) (u:List ae),n+1<=c'->ck (zP (n+1)++[.rest u])=c'*5->k c' u)/\(∀(c':Nat) (u:List ae),n+1<=c'->ck (zP (n+1)++[.rest u])=c'*5->k c' u)
def xH (n:Nat) (u:List ae):List V:=zP n++[.rest u]
def acV (k:Nat->Option (List ae)->Prop):Prop:=vu 3 3 (zP 3) λc u=>vu 4 c (xH 4 u) λc u=>vu 5 c (xH 5 u) λc u=>vu 6 c (xH 6 u) λc u=>k c (some u)
def tY (m:Sd.a9):VB:=⟨true,⟨66,(0,0)⟩,cQ m⟩
def aqc (X:VK Empty) (m:Sd.a9) (l:List Fd) (c:Nat) (u:Option (List ae)):Prop:=X (.av [.sl 1 0 l.length c,.bool true]) (tY m::qR l u 0 1) []
theorem aqd (m:Sd.a9) (X:VK Empty):br (rS prog l_ (qL Empty [])) 60 71 [.ptr 0 0] [tY m] [] (bA 1 X)=Ng m.kind acV (aqc X m) (X (.av [.raw (.slice none 0 0),.bool false]) [tY m] []):=by kernel_rfl
def acW (k:Nat->Option (List ae)->Prop):Prop:=∀(c:Nat) (u:List ae),7<=c->k c (some u)
def U3 {G:Type}:dc G:=λargs bl ch K=>match args with
 |[.ptr i 0]=>(match bl[i]?with
  |some b=>(match zK b.c with
   |some m=>cond (yQ b.ty 66&&(b.wr&&bM bl.length bl)) (Ng m.kind acW (λl c u=>K (.av [.sl bl.length 0 l.length c,.bool true]) (bl++qR l u i bl.length) ch) (K (.av [.raw (.slice none 0 0),.bool false]) bl ch)) False
   |none=>False)
  |none=>False)
 |_=>False
theorem aqe {kd:Int} {A B:(Nat->Option (List ae)->Prop)->Prop} {k k':List Fd->Nat->Option (List ae)->Prop} {k0 k0':Prop} (hA:∀q q':Nat->Option (List ae)->Prop,(∀c u,q c u->q' c u)->A q->B q') (hk:∀l c u,k l c u->k' l c u) (h0:k0->k0') (h:Ng kd A k k0):Ng kd B k' k0':=by
 have cm:∀{b:Bool} {X X' Y Y':Prop},(X->X')->(Y->Y')->cond b X Y->cond b X' Y':=by
  intro b X X' Y Y' h1 h2;cases b
  ·exact h2
  ·exact h1
 exact cm (hk _ _ _) (cm (hk _ _ _) (cm (hk _ _ _) (cm (hk _ _ _) (cm (hk _ _ _) (cm (hk _ _ _) (cm (hk _ _ _) (cm (hk _ _ _) (cm (hk _ _ _) (cm (hk _ _ _) (cm (hA _ _ λc u=>hk _ c u) h0)))))))))) h
theorem aqf {q q':Nat->Option (List ae)->Prop} (hq:∀c u,q c u->q' c u) (h:acW q):acV q':=by
 refine⟨⟨by decide,rfl⟩,?_⟩;have a4:∀(c':Nat) (u:List ae),3+1<=c'->ck (zP (3+1)++[.rest u])=c'*5->vu 4 c' (xH 4 u) λc u=>vu 5 c (xH 5 u) λc u=>vu 6 c (xH 6 u) λc u=>q' c (some u):=by
  intro c1 u1 h1 s1;have a5:∀(c':Nat) (u:List ae),4+1<=c'->ck (zP (4+1)++[.rest u])=c'*5->vu 5 c' (xH 5 u) λc u=>vu 6 c (xH 6 u) λc u=>q' c (some u):=by
   intro c2 u2 h2 s2;have a6:∀(c':Nat) (u:List ae),5+1<=c'->ck (zP (5+1)++[.rest u])=c'*5->vu 6 c' (xH 6 u) λc u=>q' c (some u):=by
    intro c3 u3 h3 s3;exact⟨⟨h3,s3⟩,λc4 u4 h4 _=>hq _ _ (h c4 u4 h4),λc4 u4 h4 _=>hq _ _ (h c4 u4 h4)⟩
   exact⟨⟨h2,s2⟩,a6,a6⟩
  exact⟨⟨h1,s1⟩,a5,a5⟩
 exact⟨a4,a4⟩
theorem aqg {is js:List Nat} (d:Fd) (k k':Nat) (h:is.getD k 0=js.getD k' 0):ai is (Nd d k)=ai js (Nd d k'):=by
 simp only[Nd,ai,cl,den,aH,h]
theorem acX {is js:List Nat}:∀(l:List Fd) (k k':Nat),(∀j,is.getD (k+j) 0=js.getD (k'+j) 0)->ai is (Il l k)=ai js (Il l k')
 |[],_,_,_=>rfl
 |d::l,k,k',h=>by
  simp only[Il,iV];rw[aqg d k k' (by simpa using h 0),acX l (k+1) (k'+1) (λj=>by have:=h (1+j);rwa [<-AI,<-AI]at this)]
theorem acY {is js:List Nat} {i i':Nat} (h:is.getD i 0=js.getD i' 0):∀(l:List Fd) (more:List Nat),lits is more (Cr i l)=lits js more (Cr i' l)
 |[],more=>by cases more<;>rfl
 |d::l,[]=>rfl
 |d::l,x::more=>by
  simp only[Cr,lits,aD,ai,cl,den,h,acY h l more]
theorem aqh {is js:List Nat} {i i' b b':Nat} (h:is.getD i 0=js.getD i' 0) (hb:∀j,is.getD (b+j) 0=js.getD (b'+j) 0) (l:List Fd) (u:Option (List ae)) (more:List Nat):lits is more (qR l u i b)=lits js more (qR l u i' b'):=by
 cases more with
 |nil=>rfl
 |cons x more=>
  have hu:ai is (Nf u)=ai js (Nf u):=by cases u<;>simp[Nf,ai,cl]
  simp only[qR,lits,aD,iV,hu,acY h l more];rw[acX l (b+1) (b'+1) (λj=>by have:=hb (1+j);rwa [<-AI,<-AI]at this)]
theorem acZ (l:List Fd) (u:Option (List ae)) (i b:Nat):(qR l u i b).length=l.length+1:=by
 have:∀l:List Fd,(Cr i l).length=l.length:=by
  intro l;induction l with
  |nil=>rfl
  |cons d l ih=>simp[Cr,ih]
 simp[qR,this]
def KF (m:Sd.a9) (P:List Fd->Nat->Option (List ae)->Prop) (P0:Prop):VK Empty:=λv bl ch=>ch=[]/\((∃l c u,P l c u/\v=.av [.sl 1 0 l.length c,.bool true]/\bl=tY m::qR l u 0 1)\/(P0/\v=.av [.raw (.slice none 0 0),.bool false]/\bl=[tY m]))
theorem aqi {G:Type} [Bl G] (gl:Nat->Option Nat):Sound (G:=G) prog gl 71 U3:=by
 intro args ids bl ch R ms w0 w K hg hl S hc;unfold U3 at hc;split at hc
 ·rename_i i;split at hc
  ·rename_i b hb;split at hc
   ·rename_i m hm;cases hq:yQ b.ty 66&&(b.wr&&bM bl.length bl)with
    |false=>rw[hq]at hc;exact hc.elim
    |true=>
     rw[hq]at hc;simp only[cond_true]at hc;simp only[bu]at hq;obtain⟨q1,q2,q3⟩:=hq;have q1:=QD q1;obtain⟨wr,ty,bc⟩:=b;simp only at q1 q2 hm;subst q1 q2;obtain rfl:=Ew hm;have hi:=iZ hb;have hbb:=hb;obtain⟨r,hr,gE⟩:=U0 hl hi;have p1:=gE bl rfl;have S1:=S.perm (p1.append_right _);rw[iY hb]at S1;have em:∀is:List Nat,ai is (cQ m)=ai [] (cQ m):=λis=>by have:=jg (ids:=[]) (more:=is) (cQ m) rfl;simpa using this
     have S2:St ms w0 (lits [ids.getD i 0] [ids.getD i 0] [tY m]++aC ([]:List Empty) ((r.map λj=>aD ids (ids.getD j 0) (bl.getD j dk))++aC ch R)) w:=by
      have e:lits [ids.getD i 0] [ids.getD i 0] [tY m]=[aD ids (ids.getD i 0) ⟨true,⟨66,(0,0)⟩,cQ m⟩]:=by
       simp only[lits,aD,tY,em]
      rw[e];simpa[aC]using S1
     have hv:br (rS prog l_ (qL Empty [])) 60 71 [.ptr 0 0] [tY m] [] (bA 1 (KF m (λl c u=>K (.av [.sl bl.length 0 l.length c,.bool true]) (bl++qR l u i bl.length) ch) (K (.av [.raw (.slice none 0 0),.bool false]) bl ch))):=by
      rw[aqd];exact aqe (λq q' h=>aqf h) (λl c u hP=>⟨rfl,.inl ⟨l,c,u,hP,rfl,rfl⟩⟩) (λhP=>⟨rfl,.inr ⟨hP,rfl,rfl⟩⟩) hc
     have main:=eO (G:=Empty) (aI.nil (P:=prog) (gl:=l_)).TS (aI.nil).QS 60 (C:=rS prog l_ (qL Empty [])) (args:=[.ptr 0 0]) (λg i h=>by cases h) rfl S2 hv;have a1:(aH ids [.ptr i 0]).toArray=(aH [ids.getD i 0] [.ptr 0 0]).toArray:=rfl;rw[a1];refine main.mono ?_;rintro v w' ⟨x,more,bl',ch',rfl,mS,S3,hgc⟩;obtain⟨v',cJ,bl2,ev,dv,S4,rfl,hk⟩:=iB (n0:=1) mS (by simp) S3 hgc;rw[ev];have et:List.take 1 ([ids.getD i 0]++more)=[ids.getD i 0]:=rfl;rw[et]at dv S4⊢;simp only[aC]at S4;have back:∀(M:List VB),lits ([ids.getD i 0]++cJ) ([ids.getD i 0]++cJ) (tY m::M)=aD ids (ids.getD i 0) ⟨true,⟨66,(0,0)⟩,cQ m⟩::lits ([ids.getD i 0]++cJ) cJ M:=by
      intro M;simp only[AM,lits,aD,tY,em]
     rcases hk with⟨l,c,u,hP,rfl,rfl⟩|⟨hP,rfl,rfl⟩
     ·have hlen:cJ.length=(qR l u i bl.length).length:=by
       rw[acZ];rw[h_,acZ]at dv;simpa using dv
      have hb:∀j,([ids.getD i 0]++cJ).getD (1+j) 0=(ids++cJ).getD (bl.length+j) 0:=by
       intro j;rw[<-hl];simp[ir,AF,Nat.add_comm 1 j]
      have h0:([ids.getD i 0]++cJ).getD 0 0=(ids++cJ).getD i 0:=by
       exact(DB (ids:=ids) (more:=cJ) (by rw[iG,hl];exact hi)).symm
      refine⟨_,cJ,_,ch,?_,by rw[ft,ft,hl,hlen],?_,hP⟩
      ·have:=hb 0;simp only[pG]at this;simp only[den,aH,this]
      ·rw[back]at S4;have e2:lits (ids++cJ) (ids++cJ) (bl++qR l u i bl.length)=lits ids ids bl++lits ([ids.getD i 0]++cJ) cJ (qR l u 0 1):=by
        rw[fC _ _ _ _ hl,fD _ _ (by rw[hl];exact q3),aqh (i:=0) (i':=i) (b:=1) (b':=bl.length) h0 hb l u]
       rw[e2];refine S4.perm ?_;have p3:=(p1.symm.append_right (lits ([ids.getD i 0]++cJ) cJ (qR l u 0 1))).append_right (aC ch R);rw[iY hbb]at p3;refine Dg ?_ p3;simp only[fe,bU];refine uq _ ?_;exact pM _ _ _
     ·refine⟨_,[],bl,ch,?_,by simpa using hl,?_,hP⟩
      ·simp[den,aH]
      ·rw[cH];rw[back]at S4;have lB:cJ=[]:=by cases cJ with
        |nil=>rfl
        |cons=>simp at dv
       subst lB;refine S4.perm ?_;have p3:=p1.symm.append_right (aC ch R);rw[iY hb]at p3;exact p3
   ·exact hc.elim
  ·exact hc.elim
 ·exact hc.elim
def EK:List (bR Empty):=⟨71,false,U3⟩::qL Empty LTk
def kP (n e:Nat) (f:Nat->Int) (t:List ae) (X:V->Prop):Prop:=br (rS prog l_ EK) 90 143 [.sl 0 0 n (e+n)] [⟨false,⟨5,(0,0)⟩,[.bS .u8 n f,.rest t]⟩] [] λv _ _=>X v
section
variable(e:Nat) (f:Nat->Int) (t:List ae) (X:V->Prop)
theorem aqj:kP 0 e f t X=X oB:=by kernel_rfl
theorem aqk:kP 1 e f t X=lq 1 f X:=by kernel_rfl
theorem aql:kP 2 e f t X=lq 2 f X:=by kernel_rfl
theorem aqm:kP 3 e f t X=lq 3 f X:=by kernel_rfl
theorem aqn:kP 4 e f t X=lq 4 f X:=by kernel_rfl
theorem aqo:kP 5 e f t X=lq 5 f X:=by kernel_rfl
theorem aqp:kP 6 e f t X=lq 6 f X:=by kernel_rfl
theorem aqq:kP 7 e f t X=lq 7 f X:=by kernel_rfl
theorem aqr:kP 8 e f t X=lq 8 f X:=by kernel_rfl
theorem aqs:kP 9 e f t X=lq 9 f X:=by kernel_rfl
theorem aqt:kP 10 e f t X=lq 10 f X:=by kernel_rfl
theorem aqu:kP 11 e f t X=lq 11 f X:=by kernel_rfl
theorem aqv:kP 12 e f t X=lq 12 f X:=by kernel_rfl
theorem aqw:kP 13 e f t X=lq 13 f X:=by kernel_rfl
theorem aqx:kP 14 e f t X=lq 14 f X:=by kernel_rfl
theorem aqy:kP 15 e f t X=lq 15 f X:=by kernel_rfl
theorem aqz:kP 16 e f t X=lq 16 f X:=by kernel_rfl
theorem aqA (m:Nat):kP (m+17) e f t X=lq (m+17) f X:=by kernel_rfl
end
def Fd.num (d:Fd) (g:Nat->Int):Int:=bif d.sg then zI (gK g)else bif az d.sz 1 then Ev g else bif az d.sz 2 then gK g else B9 g
def Fd.set (d:Fd) (v:Int) (m:Sd.a9):Sd.a9:=match d.at_ with
 |1=>{m with seq:=v}|2=>{m with role:=v}|3=>{m with aT:=v}|4=>{m with ah:=v}|5=>{m with mode:=v}|6=>{m with cls:=v}|7=>{m with now:=v==1}
 |8=>{m with x:=⟨v,m.x.b,m.x.c,m.x.d⟩}|9=>{m with x:=⟨m.x.a,v,m.x.c,m.x.d⟩}|10=>{m with x:=⟨m.x.a,m.x.b,v,m.x.d⟩}|11=>{m with x:=⟨m.x.a,m.x.b,m.x.c,v⟩}|_=>m
def pj (k:Int):Option (List Fd):=
 if k=1\/k=2 then some [vf]else if k=3\/k=4\/k=8\/k=9 then some [iD]else if k=5 then some [iD,zO]else if k=6 then some [iD,zN]else if k=7 then some [iD,nA]else if k=10 then some [iD,nA,xw]
 else if k=11 then some [iD,nA,vg,fX 0,fX 1,fX 2,fX 3]else none
def runM (n:Nat) (f:Nat->Int):List Fd->Nat->Sd.a9->Option Sd.a9
 |[],off,m=>if n-off=0 then some m else none
 |d::l,off,m=>if n-off<d.sz then none else if d.num (λj=>f (off+j))<d.low\/d.high<d.num (λj=>f (off+j))then none else runM n f l (off+d.sz) (d.set (d.num (λj=>f (off+j))) m)
def ay (n:Nat) (f:Nat->Int):Option Sd.a9:=if n=0 then none else match pj (f 0)with
 |some l=>runM n f l 1 (Sd.c_ (f 0))
 |none=>none
def qS (d:Fd):Prop:=(d.sg=true->d.sz=2)/\∀v m,kh (cQ m) d.at_ (bif d.b then .bool (v==1)else .int .i64 v)=cQ (d.set v m)
theorem kQ {x:Int} (h:-9223372036854775808<=x/\x<=9223372036854775807):i64.wrap x=x:=by simp[yr,uz,uA];omega
theorem By.at {f:Nat->Int} (h:By f) (o:Nat):By λj=>f (o+j):=λj=>h (o+j)
theorem ac0 (d:Fd) {g:Nat->Int} (h:By g):d.val g=d.num g:=by
 have h1:=am_ h;have h2:=ace h;have h4:=ana h
 unfold Fd.val Fd.num;cases d.sg<;>cases az d.sz 1<;>cases az d.sz 2<;>simp only[cond_true,cond_false]<;>first|rfl|(apply kQ;omega)
theorem ac1 {n:Nat} {f:Nat->Int} (hf:By f) {X:V->Prop}:∀(l:List Fd) (off:Nat) (m:Sd.a9),(∀d∈l,qS d)->(∀r,runM n f l off m=some r->X (.av [.agg (cQ r),.int .i64 0]))->(runM n f l off m=none->X oB)->Ex n f X l off (cQ m)
 |[],off,m,_,h1,h2=>by
  unfold Ex;unfold runM at h1 h2;by_cases h:n-off=0
  ·rw[if_pos h]at h1;rw[h];exact h1 m rfl
  ·rw[if_neg h]at h2;have:az (n-off) 0=false:=by
    cases hb:az (n-off) 0 with
    |true=>exact absurd (cz hb) h
    |false=>rfl
   rw[this];exact h2 rfl
 |d::l,off,m,hd,h1,h2=>by
  unfold Ex;unfold runM at h1 h2;have hb:=hf.at off;by_cases h:n-off<d.sz
  ·rw[if_pos h]at h2;have:cD (n-off) d.sz=true:=by rw[iG];exact h
   rw[this];exact h2 rfl
  ·rw[if_neg h]at h1 h2;have:cD (n-off) d.sz=false:=by
    cases hb:cD (n-off) d.sz with
    |true=>rw[iG]at hb;exact absurd hb h
    |false=>rfl
   rw[this,ac0 d hb];refine⟨hb,aM (λe=>?_) (λe=>aM (λe2=>?_) (λe2=>?_))⟩
   ·have e:=of_decide_eq_true e;rw[if_pos (.inl e)]at h2;exact h2 rfl
   ·have e2:=of_decide_eq_true e2;rw[if_pos (.inr e2)]at h2;exact h2 rfl
   ·have e:=of_decide_eq_false e;have e2:=of_decide_eq_false e2;have hn:¬(d.num (λj=>f (off+j))<d.low\/d.high<d.num (λj=>f (off+j))):=by omega
    rw[if_neg hn]at h1 h2;have:d.up (λj=>f (off+j)) (cQ m)=cQ (d.set (d.num (λj=>f (off+j))) m):=by
     unfold Fd.up;rw[ac0 d hb];exact(hd d (by simp)).2 _ _
    rw[this];exact ac1 hf l (off+d.sz) _ (λx hx=>hd x (by simp[hx])) h1 h2
theorem aqB {k:Int} {l:List Fd} (h:pj k=some l):∀d∈l,qS d:=by
 have a1:qS vf:=⟨by decide,λv m=>rfl⟩;have a2:qS iD:=⟨by decide,λv m=>rfl⟩;have a3:qS zO:=⟨by decide,λv m=>rfl⟩;have a4:qS zN:=⟨by decide,λv m=>rfl⟩;have a5:qS nA:=⟨by decide,λv m=>rfl⟩;have a6:qS xw:=⟨by decide,λv m=>rfl⟩;have a7:qS vg:=⟨by decide,λv m=>rfl⟩;have b0:qS (fX 0):=⟨by decide,λv m=>rfl⟩;have b1:qS (fX 1):=⟨by decide,λv m=>rfl⟩;have b2:qS (fX 2):=⟨by decide,λv m=>rfl⟩;have b3:qS (fX 3):=⟨by decide,λv m=>rfl⟩;unfold pj at h
 repeat' split at h
 all_goals first|(cases h;done)|(obtain rfl:=cG h;intro d hd;simp at hd;rcases hd with rfl|rfl|rfl|rfl|rfl|rfl|rfl<;>assumption)|(obtain rfl:=cG h;intro d hd;simp at hd;rcases hd with rfl|rfl|rfl<;>assumption)|(obtain rfl:=cG h;intro d hd;simp at hd;rcases hd with rfl|rfl<;>assumption)|(obtain rfl:=cG h;intro d hd;simp at hd;subst hd;assumption)
theorem aqC {n:Nat} {f:Nat->Int} (hf:By f) (hn:n≠0) {X:V->Prop} (h1:∀r,ay n f=some r->X (.av [.agg (cQ r),.int .i64 0])) (h2:ay n f=none->X oB):lq n f X:=by
 have hk:qI f=f 0:=kQ (by have:=hf 0;omega);have hm:m0 f=cQ (Sd.c_ (f 0)):=by unfold m0;rw[hk];rfl
 unfold lq;rw[hk,hm];unfold ay at h1 h2;rw[if_neg hn]at h1 h2;have T:∀l,pj (f 0)=some l->Ex n f X l 1 (cQ (Sd.c_ (f 0))):=by
  intro l hl;rw[hl]at h1 h2;exact ac1 hf l 1 _ (aqB hl) h1 h2
 have eq:∀{k:Int},(f 0==k)=true->f 0=k:=λh=>by simpa using h
 have ne:∀{k:Int},(f 0==k)=false->f 0≠k:=λh=>by simpa using h
 refine aM (λe=>T _ (by rw[eq e];rfl)) (λe1=>aM (λe=>T _ (by rw[eq e];rfl)) (λe2=>aM (λe=>T _ (by rw[eq e];rfl)) (λe3=>aM (λe=>T _ (by rw[eq e];rfl)) (λe4=>aM (λe=>T _ (by rw[eq e];rfl)) (λe5=>aM (λe=>T _ (by rw[eq e];rfl)) (λe6=>
  aM (λe=>T _ (by rw[eq e];rfl)) (λe7=>aM (λe=>T _ (by rw[eq e];rfl)) (λe8=>aM (λe=>T _ (by rw[eq e];rfl)) (λe9=>aM (λe=>T _ (by rw[eq e];rfl)) (λU4=>aM (λe c u hc=>T _ (by rw[eq e];rfl)) (λe11=>?_)))))))))))
 refine h2 ?_;have:=ne e1;have:=ne e2;have:=ne e3;have:=ne e4;have:=ne e5;have:=ne e6;have:=ne e7;have:=ne e8;have:=ne e9;have:=ne U4;have:=ne e11
 have:pj (f 0)=none:=by unfold pj;repeat' (rw[if_neg (by omega)])
 rw[this]
theorem aqD (P Q:Nat->Prop) (Z:Prop) (h0:P 0=Z) (h1:P 1=Q 1) (h2:P 2=Q 2) (h3:P 3=Q 3) (h4:P 4=Q 4) (h5:P 5=Q 5) (h6:P 6=Q 6) (h7:P 7=Q 7) (h8:P 8=Q 8) (h9:P 9=Q 9) (Nh:P 10=Q 10) (Im:P 11=Q 11) (h12:P 12=Q 12) (U5:P 13=Q 13) (Io:P 14=Q 14) (EL:P 15=Q 15) (U6:P 16=Q 16) (h17:∀m,P (m+17)=Q (m+17)) (n:Nat):(n=0/\P n=Z)\/(n≠0/\P n=Q n):=by
 rcases cZ n 17 with h|h
 ·have h:n=0\/n=1\/n=2\/n=3\/n=4\/n=5\/n=6\/n=7\/n=8\/n=9\/n=10\/n=11\/n=12\/n=13\/n=14\/n=15\/n=16:=by omega
  rcases h with rfl|rfl|rfl|rfl|rfl|rfl|rfl|rfl|rfl|rfl|rfl|rfl|rfl|rfl|rfl|rfl|rfl
  ·exact .inl ⟨rfl,h0⟩
  ·exact .inr ⟨by decide,h1⟩
  ·exact .inr ⟨by decide,h2⟩
  ·exact .inr ⟨by decide,h3⟩
  ·exact .inr ⟨by decide,h4⟩
  ·exact .inr ⟨by decide,h5⟩
  ·exact .inr ⟨by decide,h6⟩
  ·exact .inr ⟨by decide,h7⟩
  ·exact .inr ⟨by decide,h8⟩
  ·exact .inr ⟨by decide,h9⟩
  ·exact .inr ⟨by decide,Nh⟩
  ·exact .inr ⟨by decide,Im⟩
  ·exact .inr ⟨by decide,h12⟩
  ·exact .inr ⟨by decide,U5⟩
  ·exact .inr ⟨by decide,Io⟩
  ·exact .inr ⟨by decide,EL⟩
  ·exact .inr ⟨by decide,U6⟩
 ·obtain⟨m,rfl⟩:∃m,n=m+17:=⟨n-17,by omega⟩;exact .inr ⟨by omega,h17 m⟩
theorem aqE (e:Nat) {f:Nat->Int} (hf:By f) (t:List ae) {X:V->Prop} (n:Nat) (h1:∀r,ay n f=some r->X (.av [.agg (cQ r),.int .i64 0])) (h2:ay n f=none->X oB):kP n e f t X:=by
 rcases aqD (λn=>kP n e f t X) (λn=>lq n f X) (X oB) (aqj e f t X) (aqk e f t X) (aql e f t X) (aqm e f t X) (aqn e f t X) (aqo e f t X) (aqp e f t X) (aqq e f t X) (aqr e f t X) (aqs e f t X) (aqt e f t X) (aqu e f t X) (aqv e f t X) (aqw e f t X) (aqx e f t X) (aqy e f t X) (aqz e f t X) (aqA e f t X) n with⟨h0,h⟩|⟨h0,h⟩
 ·exact Eq.mpr h (h2 (by rw[h0];rfl))
 ·exact Eq.mpr h (aqC hf h0 h1 h2)
def oF (n:Nat) (f:Nat->Int):V:=match ay n f with
 |some r=>.av [.agg (cQ r),.int .i64 0]
 |none=>oB
theorem Ni:aI prog l_ EK:=aI.cons ⟨aqi l_,λe=>by cases e⟩ (kj (bO.cons (anJ l_) (bO.cons (anK l_) bO.nil)))
theorem aqF (b n c:Nat) (f:Nat->Int) (t:List ae) (hf:By f) (hc:n<=c) (w:ag) (hB:w.heap[b]?=some (.cells ((bw n).map (λj=>eA .u8 (f j))++t).toArray 5 (0,0))):
 aV prog 143 #[.slice (some ⟨b,0,none⟩) n c] w λv w1=>v=den [] (oF n f)/\Ch [] w w1:=by
 obtain⟨e,rfl⟩:∃e,c=e+n:=⟨c-n,by omega⟩;have cS:kP n e f t (λv=>v=oF n f):=aqE e hf t n (λr h=>by unfold oF;rw[h]) (λh=>by unfold oF;rw[h]);have S0:=St.given (w:=w) [(b,.cells ((bw n).map (λj=>eA .u8 (f j))++t).toArray 5 (0,0))] (all_cons hB all_nil);have S1:St [] w (lits [b] [b] [⟨false,⟨5,(0,0)⟩,[.bS .u8 n f,.rest t]⟩]++aC ([]:List Empty) []) w:=by
  simpa[lits,aD,ai,cl,aC]using S0
 refine(eO Ni.TS Ni.QS 90 (C:=rS prog l_ EK) (args:=[.sl 0 0 n (e+n)]) (λg i h=>by cases h) rfl S1 cS).mono ?_;rintro v w' ⟨x,more,bl',ch',rfl,mS,S2,rfl⟩;refine⟨?_,S2.ch⟩;have hw:cR 0 (oF n f)=true:=by unfold oF;split<;>rfl
 have:=gf (ids:=[]) (more:=[b]++more) (oF n f) hw;simpa using this
variable{fr:Sd.aF->Nat×Sd.ao}
def vw (s:Sd.aa) (E:Sd.aw):Sd.aa:={s with c:={s.c with doors:=r3 (s.c.doors 0) (s.c.doors 1) (s.c.doors 2) s.c.doors,af:=⟨E.cN,r3 (E.ak 0) (E.ak 1) (E.ak 2) s.c.af.ak⟩}}
def ku (s:Sd.aa) (t:Sd.aw):Sd.aa:={s with c:={s.c with af:=t}}
theorem Nj {s:Sd.aa} {E t:Sd.aw} (h1:E.cN=t.cN) (h2:∀j,j<3->E.ak j=t.ak j) (h3:∀j,t.ak (j+3)=s.c.af.ak (j+3)):vw s E=ku s t:=by
 unfold vw ku;rw[MQ,h1];have e:r3 (E.ak 0) (E.ak 1) (E.ak 2) s.c.af.ak=t.ak:=by
  funext j
  match j with
  |0=>exact h2 0 (by decide)
  |1=>exact h2 1 (by decide)
  |2=>exact h2 2 (by decide)
  |j+3=>exact(h3 j).symm
 rw[e]
theorem aqG (s:Sd.aa) (l:Int):vw s ((dA s.c.af).end_ l)=ku s (s.c.af.end_ l):=by
 have key:∀l:Int,l=1\/l=2\/l=3->(s.c.af.cj l=true)->vw s ((dA s.c.af).eD (l.toNat-1) .zero)=ku s (s.c.af.eD (l.toNat-1) .zero):=by
  intro l hl fa;refine Nj rfl ?_ ?_
  ·intro j hj;have:j=0\/j=1\/j=2:=by omega
   rcases hl with rfl|rfl|rfl<;>rcases this with rfl|rfl|rfl<;>rfl
  ·intro j;rcases hl with rfl|rfl|rfl<;>rfl
 unfold Sd.aw.end_;rw[Ig];by_cases h:s.c.af.cj l=true
 ·rw[if_pos h,if_pos h];refine key l ?_ h;unfold Sd.aw.cj at h;simp only[bu,decide_eq_true_eq]at h;omega
 ·rw[if_neg h,if_neg h];refine Nj rfl ?_ (λj=>rfl);intro j hj;have:j=0\/j=1\/j=2:=by omega
  rcases this with rfl|rfl|rfl<;>rfl
section
variable(C:Sd.aK) (k:LK) (s:Sd.aa) (F:aX fr (aU k s)) (Kb:SK fr k)
theorem aqH (l:Int) (m:Sd.a9):br (bZ prog gS (L5 fr C)) 60 153 [.ptr 2 0,.int .i64 l,.agg (cQ m)] (bK k s F) [bj k s F] (cY k s Kb)
 =(True/\cy k s F/\tU C [.int .i64 l] k (vw s ((dA s.c.af).end_ l)) F λv s2 F2=>cy k s2 F2/\ig C [.int .i64 4,.int .i64 l,.int .i64 m.seq,.int .i64 0,.int .i64 0] k (bP s2) F2 λv s3 F3=>
  cy k s3 F3/\nE [.int .i64 l,.int .i64 m.seq] k (bP s3) F3 λv s' F'=>cY k s Kb (.av []) (bK k s' F'++[⟨true,⟨66,(0,0)⟩,cQ m⟩]) [bj k s' F']):=by kernel_rfl
abbrev gJ (s:Sd.aa) (l:Int) (m:Sd.a9):Int:=Sd.mF s.c.p s.c.t l ((dA s.c.af).role l) s.c.mode m
def U7 (s:Sd.aa) (l:Int) (m:Sd.a9):Sd.aa:={s with c:={s.c with mode:=m.mode,d_:=⟨1,l,m.seq⟩}}
def Cs (s:Sd.aa) (c:Int) (x:Sd.X4) (b:Sd.Label):Sd.aa:={s with c:={s.c with pt:=s.c.pt.set s.c.p c x b}}
theorem aqI (l:Int) (m:Sd.a9):br (bZ prog gS (L5 fr C)) 60 159 [.ptr 2 0,.int .i64 l,.agg (cQ m)] (bK k s F) [bj k s F] (cY k s Kb)
 =(True/\((m.kind=10\/m.kind=11)/\(iQ k).c=(iQ k).c)/\cond (gJ s l m !=0)
  (cy k s F/\mi C [.int .i64 l,.int .i64 m.seq,.int .i64 (gJ s l m)] k (bP s) F λv s' F'=>cY k s Kb (.av []) (bK k s' F'++[⟨true,⟨66,(0,0)⟩,cQ m⟩]) [bj k s' F'])
  (cond (m.kind==10)
   (cy k (U7 s l m) F/\ig C [.int .i64 6,.int .i64 l,.int .i64 m.seq,.int .i64 0,.int .i64 0] k (bP (U7 s l m)) F λv s3 F3=>cy k s3 F3/\nE [.int .i64 l,.int .i64 m.seq] k (bP s3) F3 λv s' F'=>cY k s Kb (.av []) (bK k s' F'++[⟨true,⟨66,(0,0)⟩,cQ m⟩,⟨true,⟨44,(0,0)⟩,oz ⟨1,l,m.seq⟩⟩]) [bj k s' F'])
   (Sd.fk s.c.p/\cy k (Cs s m.cls m.x ⟨1,l,m.seq⟩) F/\ig C [.int .i64 6,.int .i64 l,.int .i64 m.seq,.int .i64 0,.int .i64 0] k (bP (Cs s m.cls m.x ⟨1,l,m.seq⟩)) F λv s3 F3=>cy k s3 F3/\nE [.int .i64 l,.int .i64 m.seq] k (bP s3) F3 λv s' F'=>cY k s Kb (.av []) (bK k s' F'++[⟨true,⟨66,(0,0)⟩,cQ m⟩,⟨true,⟨44,(0,0)⟩,oz ⟨1,l,m.seq⟩⟩]) [bj k s' F']))):=by kernel_rfl
theorem aqJ:br (bZ prog gS (L5 fr C)) 60 81 [.ptr 2 0] (bK k s F) [bj k s F] (cY k s Kb)
 =((vq k=vq k/\bY s.c.t.ah)/\∀B (hB:QS k.bq k.most (Sd.dh s.c.t s.c.q 0).2.2 B),
  cond ((Sd.dh s.c.t s.c.q 0).2.1!=0) (cy k (cC s (Sd.dh s.c.t s.c.q 0).2.2) (F.cC (Sd.dh s.c.t s.c.q 0).2.2 B hB)/\ig C [.int .i64 7,.int .i64 0,.int .i64 s.c.samples,.int .i64 (Sd.dh s.c.t s.c.q 0).2.1,.int .i64 0] k (bP (cC s (Sd.dh s.c.t s.c.q 0).2.2)) (F.cC (Sd.dh s.c.t s.c.q 0).2.2 B hB) λv s' F'=>cY k s Kb (.av []) (bK k s' F'++[⟨true,⟨95,(0,0)⟩,di (Sd.dh s.c.t s.c.q 0).1⟩]) [bj k s' F'])
  (cy k (cC s (Sd.dh s.c.t s.c.q 0).2.2) (F.cC (Sd.dh s.c.t s.c.q 0).2.2 B hB)/\sE C [.agg (di (Sd.dh s.c.t s.c.q 0).1),.int .i64 2,.int .i64 s.c.samples] k (bP (cC s (Sd.dh s.c.t s.c.q 0).2.2)) (F.cC (Sd.dh s.c.t s.c.q 0).2.2 B hB) λv s' F'=>cY k s Kb (.av []) (bK k s' F'++[⟨true,⟨95,(0,0)⟩,di (Sd.dh s.c.t s.c.q 0).1⟩]) [bj k s' F'])):=by kernel_rfl
theorem aqK:br (bZ prog gS (L5 fr C)) 60 83 [.ptr 2 0] (bK k s F) [bj k s F] (cY k s Kb)
 =(bY s.c.t.ah/\cond ((s.c.t.dq 0).2!=0) (cy k s F/\ig C [.int .i64 7,.int .i64 0,.int .i64 s.c.samples,.int .i64 (s.c.t.dq 0).2,.int .i64 0] k (bP s) F λv s' F'=>cY k s Kb (.av []) (bK k s' F'++[⟨true,⟨95,(0,0)⟩,di (s.c.t.dq 0).1⟩]) [bj k s' F'])
  (cy k s F/\sE C [.agg (di (s.c.t.dq 0).1),.int .i64 4,.int .i64 s.c.samples] k (bP s) F λv s' F'=>cY k s Kb (.av []) (bK k s' F'++[⟨true,⟨95,(0,0)⟩,di (s.c.t.dq 0).1⟩]) [bj k s' F'])):=by kernel_rfl
def EM (s:Sd.aa):Sd.a9:=⟨11,0,0,0,s.c.t.ah,0,1,false,⟨0,0,0,0⟩⟩
theorem aqL (x:Sd.n9):br (bZ prog gS (L5 fr C)) 60 82 [.ptr 2 0,.agg (MB x)] (bK k s F) [bj k s F] (cY k s Kb)
 =((((11:Int)=10\/(11:Int)=11)/\(iQ k).c=(iQ k).c)/\cond (Sd.mF s.c.p s.c.t 0 0 s.c.mode (EM s)!=0)
  (cy k s F/\ig C [.int .i64 7,.int .i64 0,.int .i64 s.c.samples,.int .i64 (Sd.mF s.c.p s.c.t 0 0 s.c.mode (EM s)),.int .i64 0] k (bP s) F λv s' F'=>cY k s Kb (.av []) (bK k s' F'++[⟨true,⟨72,(0,0)⟩,MB x⟩,⟨true,⟨66,(0,0)⟩,cQ (EM s)⟩]) [bj k s' F'])
  (Sd.fk s.c.p/\cy k (Cs s 1 x.x ⟨1,0,s.c.samples⟩) F/\ig C [.int .i64 6,.int .i64 0,.int .i64 s.c.samples,.int .i64 0,.int .i64 0] k (bP (Cs s 1 x.x ⟨1,0,s.c.samples⟩)) F λv s' F'=>cY k s Kb (.av []) (bK k s' F'++[⟨true,⟨72,(0,0)⟩,MB x⟩,⟨true,⟨66,(0,0)⟩,cQ (EM s)⟩,⟨true,⟨44,(0,0)⟩,oz ⟨1,0,s.c.samples⟩⟩]) [bj k s' F'])):=by kernel_rfl
end
theorem U8 (C:Sd.aK) (s:Sd.aa) (l:Int):s.leave C l=if(s.c.t.drop l).2=false then qd s l else((gO (qd s l) (s.c.t.drop l).1).gone (s.c.t.drop l).1.aG l 16).record C 12 l 0 16 0:=rfl
theorem Nk (C:Sd.aK) (s:Sd.aa) (l:Int):(s.leave C l).c.p=s.c.p:=by
 rw[U8];split
 ·rfl
 ·show(Sd.aa.gone _ _ _ _).c.p=_;rw[lJ];rfl
theorem Rm.leave {C:Sd.aK} {s:Sd.aa} {l:Int} {m:Nat} (h:Rm s (m+2)):Rm (s.leave C l) m:=by
 rw[U8];have h1:Rm (qd s l) (m+2):=h;split
 ·exact h1.le (by omega)
 ·have h2:Rm (gO (qd s l) (s.c.t.drop l).1) (m+2):=h;exact(h2.gone).rec
theorem aqM (p:Sd.aO) (t:Sd.Tok) (a r mo:Int) (m:Sd.a9):N8 (Sd.mF p t a r mo m):=by have:=Sd.Tr p t a r mo m;exact⟨by omega,by omega⟩
def Ip (C:Sd.aK):SM fr:=λar k s F K=>match ar with
 |[.int .i64 l,.agg ml]=>(match zK ml with
  |some m=>(Sy s l m/\(m.kind=10\/m.kind=11))/\∀F',K (.av []) (s.command C l m) F'
  |none=>False)
 |_=>False
def ac2 (C:Sd.aK) (s:Sd.aa):Sd.aa:=if(Sd.dh s.c.t s.c.q 0).2.1≠0 then s.record C 7 0 s.c.samples (Sd.dh s.c.t s.c.q 0).2.1 0 else(cC s (Sd.dh s.c.t s.c.q 0).2.2).goes C (Sd.dh s.c.t s.c.q 0).1 2 s.c.samples
def ac3 (C:Sd.aK) (s:Sd.aa):Sd.aa:=if(s.c.t.dq 0).2≠0 then s.record C 7 0 s.c.samples (s.c.t.dq 0).2 0 else s.goes C (s.c.t.dq 0).1 4 s.c.samples
def ac4 (C:Sd.aK) (s:Sd.aa) (x:Sd.X4):Sd.aa:=if Sd.mF s.c.p s.c.t 0 0 s.c.mode (EM s)≠0 then s.record C 7 0 s.c.samples (Sd.mF s.c.p s.c.t 0 0 s.c.mode (EM s)) 0 else(Cs s 1 x ⟨1,0,s.c.samples⟩).record C 6 0 s.c.samples 0 0
structure St0 (s:Sd.aa):Prop where
 r:Rm s 8
 p:Sd.fk s.c.p
 t:TB s.c.t
def EN (act:Sd.aa->Sd.aa):SM fr:=λar k s F K=>match ar with
 |[]=>St0 s/\∀F',K (.av []) (act s) F'
 |_=>False
def U9 (act:Sd.aa->Sd.n9->Sd.aa):SM fr:=λar k s F K=>match ar with
 |[.agg xl]=>(match MC xl with
  |some x=>St0 s/\∀F',K (.av []) (act s x) F'
  |none=>False)
 |_=>False
section
variable(tk:Nat->Sd.ao->Option Sd.a9) (ht:Body (fr:=fr) 147 dY)
include tk ht
theorem aqN:Body (fr:=fr) 153 (jo λs l m=>s.A_ (aq tk) l m):=by
 refine Cq (tk:=tk) (n:=60) (EJ tk ht) ?_;intro l m k s F Kb hq hS hK;have h1:Rm (ku s (s.c.af.end_ l)) 8:=hS.r;rw[aqH];refine⟨trivial,cF hq,ED (M:=λs F=>tU (aq tk) [.int .i64 l] k s F _) (aqG s l) F ⟨⟨h1.le (by decide),by have:=hS.l1;omega,by have:=hS.l3;omega⟩,λF2=>⟨cF ?_,mj (h1.leave).r1 λF3=>⟨cF ?_,vt ⟨((h1.leave).rec).le (by decide),hS.n⟩ λF4=>fm rfl hK F4 (hp:=?_)⟩⟩⟩⟩
 ·rw[Nk];exact hq
 ·show(Sd.aa.leave _ _ _).c.p.queue=_;rw[Nk];exact hq
 ·show(Sd.aa.leave _ _ _).c.p=_;rw[Nk]
theorem aqO:Body (fr:=fr) 159 (Ip (aq tk)):=by
 refine mT (n:=60) (EJ tk ht) ?_;intro ar k s F Kb h0 hq hM;unfold Ip at hM;split at hM
 ·rename_i l ml;split at hM
  ·rename_i m hm;obtain rfl:=Ew hm;have hS:=hM.1.1;have hk:=hM.1.2;have hK:=hM.2;have hj:gJ s l m=Sd.mF s.c.p s.c.t l (s.c.af.role l) s.c.mode m:=by rw[gJ,ape]
   have hb:=aqM s.c.p s.c.t l (s.c.af.role l) s.c.mode m;have h1:Rm (U7 s l m) 8:=hS.r;have h2:Rm (Cs s m.cls m.x ⟨1,l,m.seq⟩) 8:=hS.r;rw[aqI,hj];refine⟨trivial,⟨hk,rfl⟩,aM (λe=>⟨cF hq,z3 ⟨hS.r.le (by decide),hS.n,hb⟩ λF1=>fm (if_pos (qQ e)).symm hK F1⟩) (λe=>aM (λe2=>?_) (λe2=>?_))⟩
   ·refine⟨cF hq,mj h1.r1 λF2=>⟨cF hq,vt ⟨h1.rec.le (by decide),hS.n⟩ λF3=>fm ?_ hK F3⟩⟩;have e3:m.kind=10:=by simpa using e2
    refine Eq.trans ?_ (if_neg (tX e)).symm;rw[if_pos e3];rfl
   ·refine⟨hS.i.p,cF hq,mj h2.r1 λF2=>⟨cF hq,vt ⟨h2.rec.le (by decide),hS.n⟩ λF3=>fm ?_ hK F3⟩⟩;have e3:¬m.kind=10:=by simpa using e2
    refine Eq.trans ?_ (if_neg (tX e)).symm;rw[if_neg e3];rfl
  ·exact hM.elim
 ·exact hM.elim
theorem aqP:Body (fr:=fr) 81 (EN (ac2 (aq tk))):=by
 refine mT (n:=60) (EJ tk ht) ?_;intro ar k s F Kb h0 hq hM;unfold EN at hM;split at hM
 ·have hS:=hM.1;have hK:=hM.2;have hb:=acP hS.t s.c.q 0;have h1:Rm (cC s (Sd.dh s.c.t s.c.q 0).2.2) 8:=hS.r;rw[aqJ];refine⟨⟨rfl,hS.t.b⟩,λB hB=>aM (λe=>⟨cF hq,mj h1.r1 λF1=>fm ?_ hK F1⟩) (λe=>⟨cF hq,EG ⟨h1.le (by decide),hb.1.h,hb.1.e⟩ λF2=>fm (if_neg (tX e)).symm hK F2 (hp:=tW _ _ _ _ _)⟩)⟩;rw[Nb (acQ (qQ e))];exact(if_pos (qQ e)).symm
 ·exact hM.elim
theorem aqQ:Body (fr:=fr) 83 (EN (ac3 (aq tk))):=by
 refine mT (n:=60) (EJ tk ht) ?_;intro ar k s F Kb h0 hq hM;unfold EN at hM;split at hM
 ·have hS:=hM.1;have hK:=hM.2;have hb:=Cp hS.t 0;rw[aqK];exact⟨hS.t.b,aM (λe=>⟨cF hq,mj hS.r.r1 λF1=>fm (if_pos (qQ e)).symm hK F1⟩) (λe=>⟨cF hq,EG ⟨hS.r.le (by decide),hb.1.h,hb.1.e⟩ λF2=>fm (if_neg (tX e)).symm hK F2 (hp:=tW _ _ _ _ _)⟩)⟩
 ·exact hM.elim
theorem aqR:Body (fr:=fr) 82 (U9 λs x=>ac4 (aq tk) s x.x):=by
 refine mT (n:=60) (EJ tk ht) ?_;intro ar k s F Kb h0 hq hM;unfold U9 at hM;split at hM
 ·rename_i xl;split at hM
  ·rename_i x hx;obtain rfl:=acj hx;have hS:=hM.1;have hK:=hM.2;have h2:Rm (Cs s 1 x.x ⟨1,0,s.c.samples⟩) 8:=hS.r;rw[aqL];exact⟨⟨.inr rfl,rfl⟩,aM (λe=>⟨cF hq,mj hS.r.r1 λF1=>fm (if_pos (qQ e)).symm hK F1⟩) (λe=>⟨hS.p,cF hq,mj h2.r1 λF2=>fm (if_neg (tX e)).symm hK F2⟩)⟩
  ·exact hM.elim
 ·exact hM.elim
end
def L6 (fr:Sd.aF->Nat×Sd.ao) (C:Sd.aK):List (bR (Gh fr)):=⟨81,false,ie (EN (ac2 C))⟩::⟨83,false,ie (EN (ac3 C))⟩::⟨82,false,ie (U9 λs x=>ac4 C s x.x)⟩::L5 fr C
theorem aqS (tk:Nat->Sd.ao->Option Sd.a9) (ht:Body (fr:=fr) 147 dY):aI prog gS (L6 fr (aq tk)):=
 aI.cons (i_ (aqP tk ht)) (aI.cons (i_ (aqQ tk ht)) (aI.cons (i_ (aqR tk ht)) (EJ tk ht)))
section
variable(C:Sd.aK) (k:LK) (s:Sd.aa) (F:aX fr (aU k s)) (Kb:SK fr k)
end
section
variable{k:LK} {s:Sd.aa} {K:SK fr k}
end
section
variable(tk:Nat->Sd.ao->Option Sd.a9) (ht:Body (fr:=fr) 147 dY)
end
def U_:QG:=⟨141,2,λargs most q=>match args with
 |[.agg [.dz p ka kn kc],.agg tl,.bool th]=>(match kM tl with|some t=>some (bY t.ah/\(bY t.la.n/\bY t.la.most)/\(1<=p.i 43/\p.i 43<=1000),.av [.agg (di (Sd.dW p t q th).1),.int .i64 (Sd.dW p t q th).2.1],(Sd.dW p t q th).2.2)|none=>none)
 |_=>none⟩
theorem aqT:U_.Ok:=by
 intro args k q p v q' hv hm hp B hB bs ms w0 w S
 match args,hv,hm with
 |a::b::c::l,hv,hm=>
  have ha:c=.raw (vq k):=by simpa[U_]using hv
  subst ha;replace hm:(match(generalizing:=false) a::b::l with
   |[.agg [.dz p ka kn kc],.agg tl,.bool th]=>(match kM tl with|some t=>some (bY t.ah/\(bY t.la.n/\bY t.la.most)/\(1<=p.i 43/\p.i 43<=1000),V.av [.agg (di (Sd.dW p t q th).1),.int .i64 (Sd.dW p t q th).2.1],(Sd.dW p t q th).2.2)|none=>none)
   |_=>none)=some (p,v,q'):=hm
  split at hm
  ·rename_i p' ka kn kc tl th heq;obtain⟨rfl,h2⟩:=vT heq;obtain⟨rfl,rfl⟩:=vT h2;split at hm
   ·rename_i t ht;obtain rfl:=oA ht;simp only[aY,bC]at hm;obtain⟨rfl,rfl,rfl⟩:=hm;exact apI hB p' ka kn kc th hp.1 hp.2.1 hp.2.2 S
   ·cases hm
  ·cases hm
def Nl:QF:=⟨32,λargs _=>match args with
 |[]=>some (True,.agg (oz Sd.uL))
 |_=>none⟩
theorem ac5 (gl:Nat->Option Nat):Nl.Ok prog gl:=by
 intro args bl p_ v_ h hp ids w _ _;unfold Nl at h;dsimp only at h;split at h
 ·simp only[aY,bC]at h;obtain⟨rfl,rfl⟩:=h;exact told (anW w)
 ·cases h
def L7 (fr:Sd.aF->Nat×Sd.ao) (C:Sd.aK):List (bR (Gh fr)):=⟨141,false,Cm U_⟩::qE (Gh fr) Nl::L6 fr C
theorem ac6 (tk:Nat->Sd.ao->Option Sd.a9) (ht:Body (fr:=fr) 147 dY):aI prog gS (L7 fr (aq tk)):=
 aI.cons (MY aqT) (aI.cons (M0 ac5) (aqS tk ht))
abbrev ik (s:Sd.aa):Sd.Tok×Int×List Sd.Ask:=Sd.dW s.c.p s.c.t s.c.q ((dA s.c.af).on s.c.t.aG)
theorem aqU (C:Sd.aK) (k:LK) (s:Sd.aa) (F:aX fr (aU k s)) (Kb:SK fr k):br (bZ prog gS (L7 fr C)) 60 94 [.ptr 2 0] (bK k s F) [bj k s F] (cY k s Kb)
 =(True/\(vq k=vq k/\(bY s.c.t.ah/\(bY s.c.t.la.n/\bY s.c.t.la.most)/\(1<=s.c.p.i 43/\s.c.p.i 43<=1000)))/\∀B (hB:QS k.bq k.most (ik s).2.2 B),
  cond (decide ((ik s).2.1<=0)) (cY k s Kb (.av []) (bK k (gO (cC s (ik s).2.2) (ik s).1) (F.cC (ik s).2.2 B hB)++[⟨true,⟨95,(0,0)⟩,di (ik s).1⟩]) [bj k (gO (cC s (ik s).2.2) (ik s).1) (F.cC (ik s).2.2 B hB)])
  (cy k (cC s (ik s).2.2) (F.cC (ik s).2.2 B hB)/\sE C [.agg (di (ik s).1),.int .i64 (ik s).2.1,.int .i64 0] k (bP (cC s (ik s).2.2)) (F.cC (ik s).2.2 B hB) λv s2 F2=>
   cond ((ik s).2.1==5) (cy k s2 F2/\zZ [.int .i64 s2.c.p.lost,.agg (oz ⟨3,4,0⟩)] k (bP s2) F2 λv s' F'=>cY k s Kb (.av []) (bK k s' F'++[⟨true,⟨95,(0,0)⟩,di (ik s).1⟩]) [bj k s' F'])
   (True/\cy k s2 F2/\zZ [.int .i64 s2.c.p.safe,.agg (oz Sd.uL)] k (bP s2) F2 λv s' F'=>cY k s Kb (.av []) (bK k s' F'++[⟨true,⟨95,(0,0)⟩,di (ik s).1⟩]) [bj k s' F']))):=by kernel_rfl
theorem aqV {p:Sd.aO} {t:Sd.Tok} (h:TB t) (q:List Sd.Ask) (b:Bool):TB (Sd.dW p t q b).1:=by
 have h1:∀la,TB ({t with la:=la}:Sd.Tok):=λla=>⟨h.h,h.e⟩;unfold Sd.dW;split
 ·exact h1 _
 ·dsimp only;generalize (if t.la.most=0 then Sd.Timer.start p.cW else t.la).step=la;split
  ·exact h1 _
  ·split
   ·rename_i hs;refine⟨by simp[Sd.Tok.kg,Sd.Tok.pass,N4],?_⟩;have e1:=h.e.1;have e2:=h.e.2;simp only[Sd.Tok.kg,Sd.Tok.pass,xF,Sd.sat];split
    ·split<;>omega
    ·omega
   ·split
    ·exact(Cp (h1 _) 4).1
    ·exact(acO (h1 _) q).1
theorem aqW {p:Sd.aO} {t:Sd.Tok} {q:List Sd.Ask} {b:Bool} (h:(Sd.dW p t q b).2.1<=0):(Sd.dW p t q b).2.2=q:=by
 unfold Sd.dW at h⊢;split
 ·rfl
 ·rename_i h0;rw[if_neg h0]at h;dsimp only at h⊢;revert h;generalize (if t.la.most=0 then Sd.Timer.start p.cW else t.la).step=la;intro h;split
  ·rfl
  ·rename_i h1;rw[if_neg h1]at h;split
   ·rfl
   ·rename_i h2;rw[if_neg h2]at h;split
    ·rename_i h3;rw[if_pos h3]at h;simp at h
    ·rename_i h3;rw[if_neg h3]at h;simp at h
structure Va (s:Sd.aa):Prop where
 r:Rm s 8
 p:Sd.fk s.c.p
 t:TB s.c.t
 l1:bY s.c.t.la.n
 l2:bY s.c.t.la.most
def Ct (C:Sd.aK):SM fr:=λar k s F K=>match ar with
 |[]=>Va s/\∀F',K (.av []) (s.cW C) F'
 |_=>False
theorem Iq (C:Sd.aK) (s:Sd.aa) (R:Sd.Tok×Int×List Sd.Ask) (h:R=Sd.dW s.c.p s.c.t s.c.q (s.c.af.on s.c.t.aG)):s.cW C=if R.2.1<=0 then gO s R.1 else if R.2.1=5 then((cC s R.2.2).goes C R.1 R.2.1 0).eM ((cC s R.2.2).goes C R.1 R.2.1 0).c.p.lost ⟨3,4,0⟩else((cC s R.2.2).goes C R.1 R.2.1 0).eM ((cC s R.2.2).goes C R.1 R.2.1 0).c.p.safe Sd.uL:=by subst h;rfl
theorem Nm (C:Sd.aK) (s:Sd.aa) (t:Sd.Tok) (h n m:Int) (b:Sd.Label):((s.goes C t h n).eM m b).c.p=s.c.p:=tW C s t h n
theorem aqX (tk:Nat->Sd.ao->Option Sd.a9) (ht:Body (fr:=fr) 147 dY):Body (fr:=fr) 94 (Ct (aq tk)):=by
 refine mT (n:=60) (ac6 tk ht) ?_;intro ar k s F Kb h0 hq hM;unfold Ct at hM;split at hM
 ·have hS:=hM.1;have hK:=hM.2;have hr:ik s=Sd.dW s.c.p s.c.t s.c.q (s.c.af.on s.c.t.aG):=by rw[ik,UK]
  have hb:=aqV (p:=s.c.p) hS.t s.c.q ((dA s.c.af).on s.c.t.aG);have h1:Rm (cC s (ik s).2.2) 8:=hS.r;rw[aqU];refine⟨trivial,⟨rfl,hS.t.b,⟨hS.l1,hS.l2⟩,hS.p.cW⟩,λB hB=>aM (λe=>?_) (λe=>⟨cF hq,EG ⟨h1.le (by decide),hb.h,hb.e⟩ λF2=>aM (λe2=>⟨cF ?_,acJ λF3=>fm ?_ hK F3 (hp:=Nm _ _ _ _ _ _ _)⟩) (λe2=>⟨trivial,cF ?_,acJ λF3=>fm ?_ hK F3 (hp:=Nm _ _ _ _ _ _ _)⟩)⟩)⟩
  ·have e1:(ik s).2.1<=0:=by simpa using e
   refine fm (s':=gO (cC s (ik s).2.2) (ik s).1) ?_ hK (F.cC (ik s).2.2 B hB);rw[Iq _ _ _ hr,if_pos e1,Nb (aqW e1)]
  ·rw[tW];exact hq
  ·have e1:¬(ik s).2.1<=0:=by simpa using e
   have e3:(ik s).2.1=5:=by simpa using e2
   rw[Iq _ _ _ hr,if_neg e1,if_pos e3]
  ·rw[tW];exact hq
  ·have e1:¬(ik s).2.1<=0:=by simpa using e
   have e3:¬(ik s).2.1=5:=by simpa using e2
   rw[Iq _ _ _ hr,if_neg e1,if_neg e3]
 ·exact hM.elim
def Ir:List Sd.Ask->List V
 |[]=>[]
 |a::l=>.int .i64 a.source::.int .i64 a.bb::.int .i64 a.dp.n::.int .i64 a.dp.most::Ir l
def mV (l:List Sd.Ask) (t:List ae):VB:=⟨true,⟨112,(0,0)⟩,Ir l++[.rest t]⟩
theorem Vb (ids:List Nat):∀l:List Sd.Ask,ai ids (Ir l)=qN l
 |[]=>rfl
 |a::l=>by
  have h:=Vb ids l;simp only[Ir,ai,cl,den,h];rfl
def Vc:dc (Gh fr):=λargs bl ch K=>match args,ch with
 |[.raw vp],g::rest=>cond (bM bl.length bl) (vp=vq g.d.k/\(g.d.q=[]->∀x c,K (.raw (.slice x 0 c)) bl (g::rest))/\(∀a,g.d.q=[a]->∀c t,K (.sl bl.length 0 1 c) (bl++[mV [a] t]) (g::rest))/\
  (∀a b,g.d.q=[a,b]->∀c t,K (.sl bl.length 0 2 c) (bl++[mV [a,b] t]) (g::rest))/\(∀a b d,g.d.q=[a,b,d]->∀c t,K (.sl bl.length 0 3 c) (bl++[mV [a,b,d] t]) (g::rest))) False
 |_,_=>False
theorem ac7 {bq:Nat} {most:Int} {L:List Sd.Ask} {B:List aj} (h:QS bq most L B):L.length<=3:=by
 obtain⟨es,_,_,_,_,_,_,hH,rfl⟩:=h
 match es,hH with
 |[],_=>simp[b_]
 |[e0],_=>simp[b_]
 |[e0,e1],_=>simp only[b_];repeat' split
             all_goals simp
 |[e0,e1,e2],_=>simp only[b_];repeat' split
                all_goals simp
 |_::_::_::_::_,hH=>exact absurd hH (by simp[fJ])
theorem aqY (gl:Nat->Option Nat):Sound prog gl 39 (Vc (fr:=fr)):=by
 intro args ids bl ch R ms w0 w K hg hl S hc;unfold Vc at hc;split at hc
 ·rename_i vp g rest;cases hq:bM bl.length bl with
  |false=>rw[hq]at hc;exact hc.elim
  |true=>
   rw[hq]at hc;rw[<-hl]at hq;obtain⟨rfl,k0,k1,k2,k3⟩:=hc;have e0:aC (g::rest) R=g.F.B++aC rest R:=rfl;have S':=S;rw[e0,sD]at S;have hL:=aoE g.F.hq (S.perm (Cn _ _ _ _ _ _ _));have ea:(aH ids [.raw (vq g.d.k)]).toArray=#[.pointer (some ⟨g.d.k.bq,0,none⟩)]:=rfl;rw[ea];refine hL.mono ?_;rintro v w1 ⟨x,c1,rows,rfl,hr,S1⟩;have aqZ:=(S1.sub (mA rows _)).perm (Cn _ _ _ _ _ _ _).symm;have xI:∀(n:Nat),g.d.q.length=n+1->∃(b:Nat) (t:List ae),x=some ⟨b,0,none⟩/\((∀c t,K (.sl bl.length 0 (n+1) c) (bl++[mV g.d.q t]) (g::rest))->
    ∃(x':V) (more:List Nat) (bl':List VB) (ch':List (Gh fr)),Value.slice x g.d.q.length c1=den (ids++more) x'/\(ids++more).length=bl'.length/\St ms w0 (lits (ids++more) (ids++more) bl'++aC ch' R) w1/\K x' bl' ch'):=by
    intro n hn;rcases hr.2.2 with⟨_,h0,_⟩|⟨b,t,hx,aq0,_⟩
    ·omega
    ·refine⟨b,t,hx,λh=>?_⟩;refine⟨.sl bl.length 0 (n+1) c1,[b],bl++[mV g.d.q t],g::rest,?_,by simp[hl],?_,h c1 t⟩
     ·rw[hx,hn,<-hl];simp only[den,kZ]
     ·have e1:lits (ids++[b]) (ids++[b]) (bl++[mV g.d.q t])=lits ids ids bl++rows:=by
       rw[fC _ _ _ _ hl,fD _ _ hq];have ed:(ai (ids++[b]) (Ir g.d.q++[.rest t])).toArray=(qN g.d.q++t).toArray:=by
        rw[iV,Vb];simp[ai,cl]
       simp only[lits,aD,mV,ed];rw[aq0]
      rw[e1,e0,sD,bU];refine S1.perm ?_;refine(pL rows (Cn (lits ids ids bl) _ _ _ _ _ _).symm).trans ?_;exact pM _ _ _
   have hlen:=ac7 g.F.hq;revert k0 k1 k2 k3 xI hlen
   match g.d.q with
   |[]=>
    intro k0 k1 k2 k3 xI hlen;refine⟨.raw (.slice x 0 c1),[],bl,g::rest,?_,by simpa using hl,?_,k0 rfl x c1⟩
    ·simp[den]
    ·simp only[cH];rw[e0,sD];exact aqZ
   |[a]=>intro k0 k1 k2 k3 xI hlen;obtain⟨b,t,_,h⟩:=xI 0 rfl;exact h (k1 a rfl)
   |[a,b']=>intro k0 k1 k2 k3 xI hlen;obtain⟨b,t,_,h⟩:=xI 1 rfl;exact h (k2 a b' rfl)
   |[a,b',d]=>intro k0 k1 k2 k3 xI hlen;obtain⟨b,t,_,h⟩:=xI 2 rfl;exact h (k3 a b' d rfl)
   |a::b'::d::e::l=>intro k0 k1 k2 k3 xI hlen;simp at hlen
 ·exact hc.elim
def L8 (fr:Sd.aF->Nat×Sd.ao) (C:Sd.aK):List (bR (Gh fr)):=⟨94,false,ie (Ct C)⟩::⟨39,false,Vc⟩::L7 fr C
theorem EO (tk:Nat->Sd.ao->Option Sd.a9) (ht:Body (fr:=fr) 147 dY):aI prog gS (L8 fr (aq tk)):=
 aI.cons (i_ (aqX tk ht)) (aI.cons ⟨aqY gS,λe=>by cases e⟩ (ac6 tk ht))
section
variable(C:Sd.aK) (k:LK) (s0:Sd.aa) (Kb:SK fr k)
end
def dv (C:Sd.aK) (s:Sd.aa):Sd.aa:=if s.c.t.aG≠4 then s.goes C s.c.t.kg 6 0 else gO s s.c.t.kg
theorem aq1 {w:ag} {n c b:Nat} {f:Nat->Int} {T:aJ} (h:w.heap[b]?=some (.cells (bI n f c) T (0,0))):cx w b 0 n f:=by
 intro j hj;rw[cell_of h];simp only[bI,eY];rw[jQ,iq (by rw[gH];exact hj)];simp[b9,hj]
theorem Nn {w:ag} {n c:Nat} {f:Nat->Int} {x:Option aQ} {b:List aj} (h:ff 5 n f x c b) (aP:∀y∈b,w.heap[y.id]?=some y.obj) (h0:0<n) (hn:n<=1000000):eJ w x n c f:=by
 obtain⟨b',h1,rfl,rfl⟩:=Gi h h0;exact eJ.Qc (aq1 (aP _ (iH.2 rfl))) hn h1
theorem ac8 {ms:List Nat} {w0 w:ag} {A R:List aj} {d:FD} (F:aX fr d) (S:St ms w0 (A++(F.B++R)) w) (i:Nat) (hi:i<4) (h0:0<d.k.kn i) (hn:d.k.kn i<=1000000):eJ w (d.k.ka i) (d.k.kn i) (d.k.kc i) (d.k.kf i):=by
 obtain⟨b0,b1,b2,b3,b4,hB,k0,k1,k2,k3,k4⟩:=F.hk;have aP:∀y∈F.Bk,w.heap[y.id]?=some y.obj:=λy hy=>S.at' (by rw[sD];simp[hy]);rw[hB]at aP;have:i=0\/i=1\/i=2\/i=3:=by omega
 rcases this with rfl|rfl|rfl|rfl
 ·exact Nn k0 (λy hy=>aP y (by simp[hy])) h0 hn
 ·exact Nn k1 (λy hy=>aP y (by simp[hy])) h0 hn
 ·exact Nn k2 (λy hy=>aP y (by simp[hy])) h0 hn
 ·exact Nn k3 (λy hy=>aP y (by simp[hy])) h0 hn
theorem ac9 {ids:List Nat} {bl:List VB} {k:LK} {A:List aj} {ms:List Nat} {w0 w:ag} (hg:Gl gS ids) (hl:ids.length=bl.length) (S:St ms w0 (lits ids ids bl++A) w) (h:bl[0]?=some (cw k)):w.heap[1]?=some (.cells (aE .u32 64 cT) k.tg (0,0)):=by
 have h1:=(fV hl S h).2;rw[(hg 1 0 rfl).2]at h1;have e:(ai ids (cw k).c).toArray=aE .u32 64 cT:=by kernel_rfl
 rw[e]at h1;exact h1
def Is:dc (Gh fr):=λargs bl ch K=>match args,ch with
 |[.agg [.int .i64 m,.bool o,.bS .u8 8 nc],.raw vk,.int .i64 s],g::rest=>
  (vk=.slice (g.d.k.ka 3) (g.d.k.kn 3) (g.d.k.kc 3)/\bl[0]?=some (cw g.d.k)/\(0<=s/\s<4294967296)/\(0<=m/\m<=9223372036854775807)/\(1<=g.d.k.kn 3/\g.d.k.kn 3<=64))/\
  cond (decide (4294967295<=m)) (K (.av [.agg [.int .i64 m,.bool o,.bS .u8 8 nc],.int .i64 24]) bl (g::rest)) (K (.av [.agg [.int .i64 (m+1),.bool true,.bS .u8 8 (jE (g.d.k.kn 3) (g.d.k.kf 3) s (m+1))],.int .i64 0]) bl (g::rest))
 |_,_=>False
theorem aq2:Sound prog gS 146 (Is (fr:=fr)):=by
 intro args ids bl ch R ms w0 w K hg hl S hc;unfold Is at hc;split at hc
 ·rename_i m o nc vk s g rest;obtain⟨⟨rfl,hr,hs,hm,hk⟩,hK⟩:=hc;have e0:aC (g::rest) R=g.F.B++aC rest R:=rfl;have S':=S;rw[e0]at S';have z5:=ac8 g.F S' 3 (by decide) (by omega) (by omega);have lr:=ac9 hg hl S hr;by_cases h:4294967295<=m
  ·rw[show decide (4294967295<=m)=true by simp[h]]at hK;have hc:=ami (g.d.k.ka 3) (g.d.k.kn 3) (g.d.k.kc 3) (g.d.k.kf 3) s ⟨m,o,nc⟩ h hm.2 w;have e:(aH ids [.agg [.int .i64 m,.bool o,.bS .u8 8 nc],.raw (.slice (g.d.k.ka 3) (g.d.k.kn 3) (g.d.k.kc 3)),.int .i64 s]).toArray=#[.agg #[.int .i64 m,.bool o,.int .u8 (nc 0),.int .u8 (nc 1),.int .u8 (nc 2),.int .u8 (nc 3),.int .u8 (nc 4),.int .u8 (nc 5),.int .u8 (nc 6),.int .u8 (nc 7)],.slice (g.d.k.ka 3) (g.d.k.kn 3) (g.d.k.kc 3),.int .i64 s]:=by kernel_rfl
   rw[e];refine hc.mono ?_;rintro v w1 ⟨rfl,cB⟩;exact⟨_,[],bl,g::rest,by kernel_rfl,by simpa using hl,by simpa using S.quiet cB,hK⟩
  ·rw[show decide (4294967295<=m)=false by simp[h]]at hK;have hc:=amj (g.d.k.ka 3) (g.d.k.kn 3) (g.d.k.kc 3) (g.d.k.kf 3) s ⟨m,o,nc⟩ hk hs ⟨hm.1,Int.not_le.1 h⟩ w lr z5;have e:(aH ids [.agg [.int .i64 m,.bool o,.bS .u8 8 nc],.raw (.slice (g.d.k.ka 3) (g.d.k.kn 3) (g.d.k.kc 3)),.int .i64 s]).toArray=#[.agg #[.int .i64 m,.bool o,.int .u8 (nc 0),.int .u8 (nc 1),.int .u8 (nc 2),.int .u8 (nc 3),.int .u8 (nc 4),.int .u8 (nc 5),.int .u8 (nc 6),.int .u8 (nc 7)],.slice (g.d.k.ka 3) (g.d.k.kn 3) (g.d.k.kc 3),.int .i64 s]:=by kernel_rfl
   rw[e];refine hc.mono ?_;rintro v w1 ⟨rfl,cB⟩;exact⟨.av [.agg [.int .i64 (m+1),.bool true,.bS .u8 8 (jE (g.d.k.kn 3) (g.d.k.kf 3) s (m+1))],.int .i64 0],[],bl,g::rest,by kernel_rfl,by simpa using hl,by simpa using S.quiet cB,hK⟩
 ·exact hc.elim
def eU (k:LK):ae:=.slice k.px k.pn k.pc
def Cu (C:Sd.aK):dc (Gh fr):=λargs bl ch K=>match args,ch with
 |[.raw vp],g::rest=>(vp=eU g.d.k/\g.d.k.pn<=1000/\By g.d.k.pf)/\(∀m,C.take g.d.k.pn g.d.k.pf=some m->K (.av [.agg (cQ m),.int .i64 0]) bl (g::rest))/\
  (C.take g.d.k.pn g.d.k.pf=none->∀m c,c≠0->K (.av [.agg (cQ m),.int .i64 c]) bl (g::rest))
 |_,_=>False
def LH (fr:Sd.aF->Nat×Sd.ao) (C:Sd.aK):List (bR (Gh fr)):=⟨143,true,Cu C⟩::⟨146,true,Is⟩::L8 fr C
def z6 (s:Sd.aa) (a b c:Sd.eC):Sd.aa:={s with c:={s.c with doors:=r3 a b c s.c.doors,af:=⟨s.c.af.cN,r3 (s.c.af.ak 0) (s.c.af.ak 1) (s.c.af.ak 2) s.c.af.ak⟩}}
def Vd (d:Sd.eC):List V:=[.int .i64 d.many,.bool d.iA,.bS .u8 8 d.aA]
section
variable(C:Sd.aK) (k:LK) (s:Sd.aa) (F:aX fr (aU k s)) (Kb:SK fr k) (l:Int) (d:Sd.eC) (D:Sd.eC->Sd.aa)
def xJ (k:LK) (l:Int) (d:Sd.eC):Sd.eC:=⟨d.many+1,true,jE (k.kn 3) (k.kf 3) l (d.many+1)⟩
def No (hD:∀e,aU k (D e)=aU k s) (m:Sd.a9) (c:Int):Prop:=cond (c !=0) (cy k s F/\qP C [.int .i64 l,.int .i64 13] k (bP s) F λv s' F'=>cY k s Kb (.av []) (bK k s' F'++[⟨true,⟨66,(0,0)⟩,cQ m⟩]) [bj k s' F'])
 (True/\cond (!(Sd.jf s.c.p l m.role)) (cy k s F/\mi C [.int .i64 l,.int .i64 0,.int .i64 18] k (bP s) F λv s' F'=>cY k s Kb (.av []) (bK k s' F'++[⟨true,⟨66,(0,0)⟩,cQ m⟩]) [bj k s' F'])
  ((Value.slice (k.ka 3) (k.kn 3) (k.kc 3)=.slice (k.ka 3) (k.kn 3) (k.kc 3)/\some (cw k)=some (cw k)/\(0<=l/\l<4294967296)/\(0<=d.many/\d.many<=9223372036854775807)/\(1<=k.kn 3/\k.kn 3<=64))/\
    cond (decide (4294967295<=d.many)) (cy k s F/\mi C [.int .i64 l,.int .i64 0,.int .i64 24] k (bP s) F λv s' F'=>cY k s Kb (.av []) (bK k s' F'++[⟨true,⟨66,(0,0)⟩,cQ m⟩,⟨true,⟨102,(0,0)⟩,Vd d⟩]) [bj k s' F'])
    (cy k (D (xJ k l d)) (hD (xJ k l d)▸F)/\dY [.int .i64 l,.agg [.int .i64 129,.int .i64 0,.int .i64 0,.int .i64 0,.int .i64 0,.int .i64 0,.bS .u8 8 (xJ k l d).aA]] k (D (xJ k l d)) (hD (xJ k l d)▸F) λv s2 F2=>
     cy k s2 F2/\ig C [.int .i64 2,.int .i64 l,.int .i64 0,.int .i64 0,.int .i64 0] k (bP s2) F2 λv s' F'=>cY k s Kb (.av []) (bK k s' F'++[⟨true,⟨66,(0,0)⟩,cQ m⟩,⟨true,⟨102,(0,0)⟩,Vd (xJ k l d)⟩]) [bj k s' F'])))
end
def Ve (fr:Sd.aF->Nat×Sd.ao) (C:Sd.aK) (l:Int) (i:Nat) (D:Sd.aa->Sd.eC->Sd.aa) (hD:∀k s e,aU k (D s e)=aU k s):Prop:=∀(k:LK) (s:Sd.aa) (F:aX fr (aU k s)) (Kb:SK fr k),br (bZ prog gS (LH fr C)) 90 98 [.ptr 2 0,.int .i64 l,.raw (eU k)] (bK k s F) [bj k s F] (cY k s Kb)
 =((eU k=eU k/\k.pn<=1000/\By k.pf)/\(∀m,C.take k.pn k.pf=some m->No C k s F Kb l (s.c.doors i) (D s) (hD k s) m 0)/\(C.take k.pn k.pf=none->∀m c,c≠0->No C k s F Kb l (s.c.doors i) (D s) (hD k s) m c))
theorem aq3 (fr:Sd.aF->Nat×Sd.ao) (C:Sd.aK):Ve fr C 1 0 (λs e=>z6 s e (s.c.doors 1) (s.c.doors 2)) (λ_ _ _=>rfl):=λk s F Kb=>by kernel_rfl
theorem aq4 (fr:Sd.aF->Nat×Sd.ao) (C:Sd.aK):Ve fr C 2 1 (λs e=>z6 s (s.c.doors 0) e (s.c.doors 2)) (λ_ _ _=>rfl):=λk s F Kb=>by kernel_rfl
theorem aq5 (fr:Sd.aF->Nat×Sd.ao) (C:Sd.aK):Ve fr C 3 2 (λs e=>z6 s (s.c.doors 0) (s.c.doors 1) e) (λ_ _ _=>rfl):=λk s F Kb=>by kernel_rfl
def qT (s:Sd.aa) (i:Nat) (e:Sd.eC):Sd.aa:={s with c:={s.c with doors:=λj=>if j=i then e else s.c.doors j}}
theorem xK {s:Sd.aa} {a b c:Sd.eC} {i:Nat} {e:Sd.eC} (hi:i<3) (ha:a=if 0=i then e else s.c.doors 0) (hb:b=if 1=i then e else s.c.doors 1) (hc:c=if 2=i then e else s.c.doors 2):z6 s a b c=qT s i e:=by
 unfold z6 qT;rw[MQ];have h:r3 a b c s.c.doors=λj=>if j=i then e else s.c.doors j:=by
  funext j
  match j with
  |0=>exact ha
  |1=>exact hb
  |2=>exact hc
  |j+3=>exact(if_neg (by omega)).symm
 rw[h]
end
section
open Go Go.RowKit Go.BigFrame Sx
def Vf (n m:Int):Int:=(Int.tmod n m+m)%m
theorem aq6 (n:Int):bits .and .i64 n 14=n%16-n%2:=by
 have EL:=rq .i64 n 15 16 4 (by decide) (by decide) (by decide);have h1:=rq .i64 n 1 2 1 (by decide) (by decide) (by decide);unfold bits at*;simp only[BitVec.toNat_and]at*;have hk:∀m:Nat,m&&&14=(m&&&15)-(m&&&1):=by
  intro m;have e1:m&&&15=m%16:=agG m 4;have e2:m&&&1=m%2:=agG m 1;have e3:m&&&14=(m%16)&&&14:=by
   rw[<-e1,Nat.and_assoc];rfl
  have e4:m%2=(m%16)%2:=by omega
  rw[e1,e2,e3,e4];have h:m%16<16:=Nat.mod_lt _ (by omega);generalize m%16=k at h
  match k,h with
  |0,_=>rfl|1,_=>rfl|2,_=>rfl|3,_=>rfl|4,_=>rfl|5,_=>rfl|6,_=>rfl|7,_=>rfl
  |8,_=>rfl|9,_=>rfl|10,_=>rfl|11,_=>rfl|12,_=>rfl|13,_=>rfl|14,_=>rfl|15,_=>rfl
  |k+16,h=>exact absurd h (by omega)
 have c14:(oP i64.bits 14).toNat=14:=by decide
 have c15:(oP i64.bits 15).toNat=15:=by decide
 have c1:(oP i64.bits 1).toNat=1:=by decide
 rw[c14];rw[c15]at EL;rw[c1]at h1;rw[hk];generalize (oP i64.bits n).toNat=m at*;have azB:m&&&15<16:=Nat.lt_of_le_of_lt Nat.and_le_right (by omega);have iT:m&&&1<2:=Nat.lt_of_le_of_lt Nat.and_le_right (by omega);have w15:i64.wrap ((m&&&15:Nat):Int)=((m&&&15:Nat):Int):=by rw[agP];omega
 have w1:i64.wrap ((m&&&1:Nat):Int)=((m&&&1:Nat):Int):=by rw[agP];omega
 rw[w15]at EL;rw[w1]at h1;rw[agP];omega
def Sw1 (k a b c:Int):Prop:=(k=0/\a=1/\b=2/\c=3)\/(k=1/\a=2/\b=1/\c=3)\/(k=2/\a=3/\b=2/\c=1)
def It (q:Nat->Int) (o1 o2 o3:Int):Prop:=∃b c,Sw1 (Vf (q 1) 3) o1 b c/\((Vf (q 2) 2=0/\o2=b/\o3=c)\/(Vf (q 2) 2=1/\o2=c/\o3=b))
theorem It.perm {q:Nat->Int} {o1 o2 o3:Int} (h:It q o1 o2 o3):(o1=1/\o2=2/\o3=3)\/(o1=1/\o2=3/\o3=2)\/(o1=2/\o2=1/\o3=3)\/(o1=2/\o2=3/\o3=1)\/(o1=3/\o2=1/\o3=2)\/(o1=3/\o2=2/\o3=1):=by
 obtain⟨b,c,h1,h2⟩:=h;rcases h1 with⟨_,rfl,rfl,rfl⟩|⟨_,rfl,rfl,rfl⟩|⟨_,rfl,rfl,rfl⟩<;>rcases h2 with⟨_,rfl,rfl⟩|⟨_,rfl,rfl⟩<;>simp
theorem It.one {q:Nat->Int} {a b c a' b' c':Int} (h:It q a b c) (k:It q a' b' c'):a=a'/\b=b'/\c=c':=by
 obtain⟨_,_,h1,h2⟩:=h;obtain⟨_,_,k1,k2⟩:=k;rcases h1 with⟨e,rfl,rfl,rfl⟩|⟨e,rfl,rfl,rfl⟩|⟨e,rfl,rfl,rfl⟩<;>rcases k1 with⟨f,rfl,rfl,rfl⟩|⟨f,rfl,rfl,rfl⟩|⟨f,rfl,rfl,rfl⟩<;>first|(exfalso;rw[e]at f;revert f;decide)|(rcases h2 with⟨e2,rfl,rfl⟩|⟨e2,rfl,rfl⟩<;>rcases k2 with⟨f2,rfl,rfl⟩|⟨f2,rfl,rfl⟩<;>first|(exfalso;rw[e2]at f2;revert f2;decide)|exact⟨rfl,rfl,rfl⟩)
def Vg (ms:List Nat) (w0:ag) (a:Option aQ) (n c:Nat) (kb:Nat->Int):Prop:=n<=c/\(a=none->n=0/\c=0)/\∀ad,a=some ad->ad.block∉ms/\∀j,j<n->w0.cell? (ad.add j)=some (.int .u8 (kb j))
theorem aq7 (x:Int):0<=u8.wrap x/\u8.wrap x<=255:=by rw[yw];omega
theorem ac_ (H:Nat->Int):By (zl H):=λj=>by unfold zl;split<;>exact aq7 _
theorem ada (n:Nat) (f:Nat->Int):By (ji n f):=by
 unfold ji;cases bG n 55
 ·exact ac_ _
 ·exact ac_ _
theorem aq8 (kn:Nat) (kf:Nat->Int) (s n:Int):By (jE kn kf s n):=by unfold jE fR;exact ada _ _
end
section
open Go Go.RowKit Go.BigFrame Sx Vx
variable{fr:Sd.aF->Nat×Sd.ao}
theorem aq9 (C:Sd.aK):ia (Cu (fr:=fr) C):=by
 intro args bl ch K h;unfold Cu at h⊢;split at h
 ·exact⟨h.1,λm e=>⟨h.2.1 m e,[],by simp⟩,λe m c hc=>⟨h.2.2 e m c hc,[],by simp⟩⟩
 ·exact h.elim
theorem aq_:ia (Is (fr:=fr)):=by
 intro args bl ch K h;unfold Is at h⊢;split at h
 ·rename_i m o nc vk s' g rest;refine⟨h.1,?_⟩;have h2:=h.2;by_cases hm:4294967295<=m
  ·rw[show decide (4294967295<=m)=true by simp[hm]]at h2⊢;exact⟨h2,[],by simp⟩
  ·rw[show decide (4294967295<=m)=false by simp[hm]]at h2⊢;exact⟨h2,[],by simp⟩
 ·exact h.elim
theorem ara (tk:Nat->Sd.ao->Option Sd.a9) (ht:Body (fr:=fr) 147 dY) (h1:Sound prog gS 143 (Cu (fr:=fr) (aq tk))):aI prog gS (LH fr (aq tk)):=
 aI.cons ⟨h1,λ_=>aq9 _⟩ (aI.cons ⟨aq2,λ_=>aq_⟩ (EO tk ht))
structure Vh (k:LK) (s:Sd.aa) (l:Int):Prop where
 r:Rm s 8
 d:∀i,i<3->0<=(s.c.doors i).many/\(s.c.doors i).many<=9223372036854775807
 key:1<=k.kn 3/\k.kn 3<=64
 ke:s.c.p.k 3=(k.kn 3,k.kf 3)
 kR:k.pn<=1000/\By k.pf
 l:1<=l/\l<=3
def EP (C:Sd.aK):SM fr:=λar k s F K=>match ar with
 |[.int .i64 l,.raw vp]=>(vp=eU k/\Vh k s l)/\∀F',K (.av []) (s.lC C l k.pn k.pf) F'
 |_=>False
theorem arb {C:Sd.aK} {s:Sd.aa} {l:Int} {n:Nat} {f:Sd.ao} (h:C.take n f=none):s.lC C l n f=s.iU C l 13:=by unfold Sd.aa.lC;rw[h]
theorem arc {C:Sd.aK} {s:Sd.aa} {l:Int} {n:Nat} {f:Sd.ao} {m:Sd.a9} (h:C.take n f=some m):s.lC C l n f=if Sd.jf s.c.p l m.role=false then s.refuse C l 0 18 else if 4294967295<=(s.c.doors (l.toNat-1)).many then s.refuse C l 0 24 else
 ((qT s (l.toNat-1) ⟨(s.c.doors (l.toNat-1)).many+1,true,C.aA (s.c.p.k 3) l ((s.c.doors (l.toNat-1)).many+1)⟩).tell l ⟨129,0,0,0,0,0,C.aA (s.c.p.k 3) l ((s.c.doors (l.toNat-1)).many+1)⟩).record C 2 l 0 0 0:=by unfold Sd.aa.lC;rw[h];rfl
theorem ER (tk:Nat->Sd.ao->Option Sd.a9) {k:LK} {s:Sd.aa} {F:aX fr (aU k s)} {Kb:SK fr k} {l:Int} {i:Nat} {D:Sd.eC->Sd.aa} (hD:∀e,aU k (D e)=aU k s) (z7:∀e,D e=qT s i e) (hi:l.toNat-1=i) (h3:i<3) (hq:s.c.p.queue=k.most) (hP:Vh k s l)
 (m:Sd.a9) (c:Int) (hm:(c=0/\(aq tk).take k.pn k.pf=some m)\/(c≠0/\(aq tk).take k.pn k.pf=none)) (hK:∀F',Kb (.av []) (s.lC (aq tk) l k.pn k.pf) F'):No (aq tk) k s F Kb l (s.c.doors i) D hD m c:=by
 subst hi;unfold No;refine aM (λe=>⟨cF hq,Ih hP.r.r1 λF1=>fm ?_ hK F1⟩) (λe=>⟨trivial,aM (λe1=>⟨cF hq,z3 ⟨hP.r.le (by decide),xG,⟨by decide,by decide⟩⟩ λF1=>fm ?_ hK F1⟩) (λe1=>⟨⟨rfl,rfl,⟨by have:=hP.l;omega,by have:=hP.l;omega⟩,hP.d _ h3,hP.key⟩,aM (λe2=>⟨cF hq,z3 ⟨hP.r.le (by decide),xG,⟨by decide,by decide⟩⟩ λF1=>fm ?_ hK F1⟩) (λe2=>?_)⟩)⟩)
 ·have hc:c≠0:=qQ e;rcases hm with⟨h,_⟩|⟨_,h⟩
  ·exact absurd h hc
  ·exact(arb h).symm
 all_goals
  have hc:c=0:=by simpa using e
  have ard:(aq tk).take k.pn k.pf=some m:=by
   rcases hm with⟨_,h⟩|⟨h,_⟩
   ·exact h
   ·exact absurd hc h
  rw[arc ard]at*
 ·exact(if_pos (by simpa using e1)).symm
 ·rw[if_neg (by simpa using e1),if_pos (by simpa using e2)]
 ·rw[if_neg (by simpa using e1),if_neg (by simpa using e2)]at hK;have hn:(aq tk).aA (s.c.p.k 3) l ((s.c.doors (l.toNat-1)).many+1)=jE (k.kn 3) (k.kf 3) l ((s.c.doors (l.toNat-1)).many+1):=by rw[hP.ke];rfl
  rw[hn]at hK;have key:∀(x:Sd.aa) (hx:aU k x=aU k s),x=qT s (l.toNat-1) (xJ k l (s.c.doors (l.toNat-1)))->(cy k x (hx▸F)/\dY [.int .i64 l,.agg [.int .i64 129,.int .i64 0,.int .i64 0,.int .i64 0,.int .i64 0,.int .i64 0,.bS .u8 8 (xJ k l (s.c.doors (l.toNat-1))).aA]] k x (hx▸F) λv s2 F2=>
   cy k s2 F2/\ig (aq tk) [.int .i64 2,.int .i64 l,.int .i64 0,.int .i64 0,.int .i64 0] k (bP s2) F2 λv s' F'=>cY k s Kb (.av []) (bK k s' F'++[⟨true,⟨66,(0,0)⟩,cQ m⟩,⟨true,⟨102,(0,0)⟩,Vd (xJ k l (s.c.doors (l.toNat-1)))⟩]) [bj k s' F']):=by
   rintro x hx rfl;refine⟨cF hq,⟨⟨(show Rm (qT s _ _) 8 from hP.r).le (by decide),⟨(show(129:Int)<=129/\(129:Int)<=136 by decide),⟨xG,.inr rfl⟩,⟨(show(0:Int)<=0/\(0:Int)<=3 by decide),.inr rfl⟩,⟨z4,.inr rfl⟩,⟨M3,.inr rfl⟩,⟨z8,.inr rfl⟩,⟨aq8 _ _ _ _,.inl rfl⟩⟩⟩,λF1=>⟨cF hq,mj ?_ λF2=>fm rfl hK F2⟩⟩⟩;have:=hP.r.2;simp only[Sd.aa.tell,qT];omega
  exact key _ (hD _) (z7 _)
theorem are (tk:Nat->Sd.ao->Option Sd.a9) (ht:Body (fr:=fr) 147 dY) (h1:Sound prog gS 143 (Cu (fr:=fr) (aq tk))):Body (fr:=fr) 98 (EP (aq tk)):=by
 refine mT (n:=90) (ara tk ht h1) ?_;intro ar k s F Kb h0 hq hM;unfold EP at hM;split at hM
 ·rename_i l vp;have hP:=hM.1.2;have hK:=hM.2;have hv:vp=eU k:=hM.1.1;subst hv;have hl:l=1\/l=2\/l=3:=by have:=hP.l;omega
  rcases hl with rfl|rfl|rfl
  ·rw[aq3];exact⟨⟨rfl,hP.kR.1,hP.kR.2⟩,λm e=>ER tk _ (λe=>xK (i:=0) (by decide) rfl rfl rfl) rfl (by decide) hq hP m 0 (.inl ⟨rfl,e⟩) hK,λe m c hc=>ER tk _ (λe=>xK (i:=0) (by decide) rfl rfl rfl) rfl (by decide) hq hP m c (.inr ⟨hc,e⟩) hK⟩
  ·rw[aq4];exact⟨⟨rfl,hP.kR.1,hP.kR.2⟩,λm e=>ER tk _ (λe=>xK (i:=1) (by decide) rfl rfl rfl) rfl (by decide) hq hP m 0 (.inl ⟨rfl,e⟩) hK,λe m c hc=>ER tk _ (λe=>xK (i:=1) (by decide) rfl rfl rfl) rfl (by decide) hq hP m c (.inr ⟨hc,e⟩) hK⟩
  ·rw[aq5];exact⟨⟨rfl,hP.kR.1,hP.kR.2⟩,λm e=>ER tk _ (λe=>xK (i:=2) (by decide) rfl rfl rfl) rfl (by decide) hq hP m 0 (.inl ⟨rfl,e⟩) hK,λe m c hc=>ER tk _ (λe=>xK (i:=2) (by decide) rfl rfl rfl) rfl (by decide) hq hP m c (.inr ⟨hc,e⟩) hK⟩
 ·exact hM.elim
end
end Go.Proofs.YtggfpcggakghnaaGreatDoor
