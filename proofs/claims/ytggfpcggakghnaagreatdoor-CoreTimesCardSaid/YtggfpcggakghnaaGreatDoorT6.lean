/- Part 6 of the proof. -/
import Derived.Test.YtggfpcggakghnaaGreatDoorT5
set_option linter.all false
set_option maxRecDepth 100000
set_option maxHeartbeats 4000000
open Go.Proofs.Tryz
open Go.IntKind (u8 u16 u32 u64 i64)
open Bool renaming and_eq_true->bu,not_eq_true'->my
open Go renaming TypeId->aJ,Program->aL,Addr->aQ,Value->ae,World->ag,Operand->bh
open Go.Sem renaming run_bind->bE
open Int renaming reduceEq->AT,ofNat->db
open List renaming countP_nil->AR,flatMap_append->FH,length_filter_le->FJ,filter_cons->Yw,append_assoc->bU,range->bw,append_nil->cH,mem_cons->cn,map_cons->eF,mem_append->fc,nil_append->fi,length_append->ft,length_cons->h_,countP_append->iI,getD->ir,perm_middle->jU,getElem?_eq_getElem->jv,mem_map->lP,mem_of_getElem?->pF,getD_eq_getElem?_getD->pH,mem_append_left->pJ,not_mem_nil->pN,map_nil->s8,foldl_cons->sZ,mem_append_right->uy,length_take->vQ
open List.Perm renaming trans->Dg
open Nat renaming beq->az,ble->bG,blt->cD,le_refl->dH,le_trans->hY,blt_eq->iG,beq_refl->sY,eq_zero_or_pos->vP
open Option.some renaming inj->cG
open Prod.mk renaming injEq->bC
namespace Sd
def Gr (n:Nat) (s t:aa):Prop:=t.bH.length<=s.bH.length+n/\t.bg.length<=s.bg.length+n
theorem Gr.trans {n m:Nat} {s t u:aa} (h:Gr n s t) (k:Gr m t u):Gr (n+m) s u:=⟨by have:=h.1;have:=k.1;omega,by have:=h.2;have:=k.2;omega⟩
theorem Gr.le {n m:Nat} {s t:aa} (h:Gr n s t) (k:n<=m):Gr m s t:=⟨by have:=h.1;omega,by have:=h.2;omega⟩
theorem Gr.of {n m:Nat} {s s0 t:aa} (h:Gr n s0 t) (h1:s0.bH=s.bH) (h2:s0.bg=s.bg) (k:n<=m):Gr m s t:=⟨by have:=h.1;rw[h1]at this;omega,by have:=h.2;rw[h2]at this;omega⟩
theorem Gr.fin {n:Nat} {s t t':aa} (h:Gr n s t) (h1:t'.bH=t.bH) (h2:t'.bg=t.bg):Gr n s t':=⟨by rw[h1];exact h.1,by rw[h2];exact h.2⟩
theorem Gr.c0 {s t:aa} (h1:t.bH=s.bH) (h2:t.bg=s.bg):Gr 0 s t:=⟨by rw[h1];exact dH _,by rw[h2];exact dH _⟩
section
variable(C:aK) (s:aa)
theorem JN (l:Int) (r:aF):Gr 1 s (s.tell l r):=⟨by simp[aa.tell],by simp[aa.tell]⟩
theorem OW (l:Int) (r:aF):Gr 1 s (s.dP l r):=by
 unfold aa.dP;split
 ·exact JN s l r
 ·exact(Gr.c0 rfl rfl).le (by omega)
theorem nN (k a n e h:Int):Gr 1 s (s.record C k a n e h):=⟨by simp[aa.record],by simp[aa.record]⟩
theorem Ax (l n e:Int):Gr 2 s (s.refuse C l n e):=(JN s _ _).trans (nN C _ _ _ _ _ _)
theorem OX (l e:Int):Gr 1 s (s.iU C l e):=nN C _ _ _ _ _ _
theorem vJ (l n:Int):Gr 1 s (s.done l n):=JN s _ _
theorem OY (l w e:Int):Gr 1 s (s.gone l w e):=OW s _ _
theorem OZ (t:Tok) (how n:Int):Gr 3 s (s.goes C t how n):=
 ((Gr.c0 (s:=s) (t:={s with c:={s.c with t:=t,q:=Q.drop s.c.q t.aG}}) rfl rfl).trans (((OW _ _ _).trans (OW _ _ _)).trans (nN C _ _ _ _ _ _))).le (by omega)
theorem af1 (a:Int):Gr 2 s (s.leave C a):=by
 unfold aa.leave;dsimp only;split
 ·exact(Gr.c0 rfl rfl).le (by omega)
 ·exact(Gr.of ((OY _ _ _ _).trans (nN C _ _ _ _ _ _)) rfl rfl (by omega))
theorem axo (m:Int) (b:Label):Gr 0 s (s.eM m b):=Gr.c0 rfl rfl
theorem Xk {α:Type} {f:aa->α->aa} {n:Nat} (h:∀s a,Gr n s (f s a)):∀(l:List α) (s:aa),Gr (n*l.length) s (l.foldl f s)
 |[],s=>(Gr.c0 rfl rfl).le (by omega)
 |a::l,s=>by
  rw[sZ];exact((h s a).trans (Xk h l _)).le (by rw[h_,Nat.mul_add];omega)
theorem axp (l:Int) (n:Nat) (f:ao):Gr 10 s (s.lC C l n f):=by
 unfold aa.lC;dsimp only
 repeat' split
 all_goals first
  |exact(OX C s _ _).le (by omega)
  |exact(Ax C s _ _ _).le (by omega)
  |exact Gr.of ((JN _ _ _).trans (nN C _ _ _ _ _ _)) rfl rfl (by omega)
theorem axq (l:Int) (n:Nat) (f:ao):Gr 10 s (s.prove C l n f):=by
 unfold aa.prove;dsimp only
 repeat' split
 all_goals first
  |exact Gr.of (OX C _ _ _) rfl rfl (by omega)
  |exact Gr.of (Ax C _ _ _ _) rfl rfl (by omega)
  |exact Gr.of ((JN _ _ _).trans (nN C _ _ _ _ _ _)) rfl rfl (by omega)
theorem axr (l:Int) (m:a9):Gr 10 s (s.jC C l m):=by
 unfold aa.jC;split
 ·exact(vJ s _ _).le (by omega)
 split
 ·exact(Gr.of ((af1 C _ _).trans ((nN C _ _ _ _ _ _).trans (vJ _ _ _))) rfl rfl (by omega))
 split
 ·unfold aa.ask;dsimp only;split
  ·exact(Ax C s _ _ _).le (by omega)
  ·split
   ·exact(Gr.of ((OZ C _ _ _ _).trans (vJ _ _ _)) rfl rfl (by omega))
   ·exact(Gr.of ((nN C _ _ _ _ _ _).trans (vJ _ _ _)) rfl rfl (by omega))
 split
 ·unfold aa.offer;dsimp only;split
  ·exact(Ax C s _ _ _).le (by omega)
  ·exact(Gr.of ((OW _ _ _).trans ((nN C _ _ _ _ _ _).trans (vJ _ _ _))) rfl rfl (by omega))
 split
 ·unfold aa.accept;dsimp only;split
  ·exact(Ax C s _ _ _).le (by omega)
  ·exact((OZ C _ _ _ _).trans (vJ _ _ _)).le (by omega)
 split
 ·unfold aa.fU;dsimp only;split
  ·exact(Ax C s _ _ _).le (by omega)
  ·exact(Gr.of ((OY _ _ _ _).trans ((nN C _ _ _ _ _ _).trans (vJ _ _ _))) rfl rfl (by omega))
 split
 ·unfold aa.release;dsimp only;split
  ·exact(Ax C s _ _ _).le (by omega)
  ·exact(Gr.of ((OZ C _ _ _ _).trans (vJ _ _ _)) rfl rfl (by omega))
 split
 ·unfold aa.command;dsimp only;split
  ·exact(Ax C s _ _ _).le (by omega)
  ·split
   ·exact(Gr.of ((nN C _ _ _ _ _ _).trans (vJ _ _ _)) rfl rfl (by omega))
   ·exact(Gr.of ((nN C _ _ _ _ _ _).trans (vJ _ _ _)) rfl rfl (by omega))
 ·exact(Gr.c0 rfl rfl).le (by omega)
theorem axs (l code:Int) (n:Nat) (f:ao):Gr 10 s (s.item C l code n f):=by
 unfold aa.item;split
 ·exact(OX C s _ _).le (by omega)
 split
 ·exact axp C s _ _ _
 split
 ·exact axq C s _ _ _
 split
 ·exact(OX C s _ _).le (by omega)
 ·exact(Gr.of (axr C _ _ _) rfl rfl (by omega))
end
def Ql (s t:aa):Prop:=t.c.q.length<=s.c.q.length
theorem Ql.trans {s t u:aa} (h:Ql s t) (k:Ql t u):Ql s u:=hY k h
theorem Ql.of {s t:aa} (h:t.c.q=s.c.q):Ql s t:=by unfold Ql;rw[h];exact dH _
theorem af2 (q:List Ask) (a:Int):(Q.drop q a).length<=q.length:=FJ _ _
theorem axt (C:aK) (s:aa) (a:Int):Ql s (s.leave C a):=by
 unfold aa.leave;dsimp only;split
 ·exact af2 _ _
 ·unfold Ql;rw[aa.Mr,aa.lJ];exact af2 _ _
theorem af3 {α:Type} {f:aa->α->aa} (h:∀s a,Ql s (f s a)):∀(l:List α) (s:aa),Ql s (l.foldl f s)
 |[],s=>dH _
 |a::l,s=>(h s a).trans (af3 h l _)
theorem axu (C:aK) (s:aa):Gr 3 s (s.cW C):=by
 unfold aa.cW;dsimp only
 repeat' split
 all_goals first
  |exact Gr.of ((OZ C _ _ _ _).trans (axo _ _ _)) rfl rfl (by omega)
  |exact(Gr.c0 rfl rfl).le (by omega)
theorem axv (C:aK) (s:aa) (hq:s.c.q.length<=3) (he:s.c.af.ended.length<=4):Gr 40 s (s.tick C):=by
 unfold aa.tick;dsimp only;have g1:=Xk (n:=3) (f:=λ(s:aa) (x:Int)=>if linked x then(s.record C 5 x 0 0 0).leave C x else s.record C 5 x 0 0 0) (λs x=>by
  split
  ·exact(nN C s _ _ _ _ _).trans (af1 C _ _)
  ·exact(nN C s _ _ _ _ _).le (by omega)) s.c.af.ended {s with c:={s.c with af:=s.c.af.tick}}
 have q1:=af3 (f:=λ(s:aa) (x:Int)=>if linked x then(s.record C 5 x 0 0 0).leave C x else s.record C 5 x 0 0 0) (λs x=>by
  split
  ·exact Ql.trans (Ql.of (aa.Mr C s _ _ _ _ _)) (axt C _ _)
  ·exact Ql.of (aa.Mr C s _ _ _ _ _)) s.c.af.ended {s with c:={s.c with af:=s.c.af.tick}}
 generalize List.foldl (λ(s:aa) (x:Int)=>if linked x then(s.record C 5 x 0 0 0).leave C x else s.record C 5 x 0 0 0) {s with c:={s.c with af:=s.c.af.tick}} s.c.af.ended=s1 at*;have G1:Gr 12 s s1:=(Gr.of g1 rfl rfl (by omega));have Q1:s1.c.q.length<=3:=hY q1 hq;have H:∀s3:aa,Gr 2 s1 s3->s3.c.q=s1.c.q->Gr 40 s (((Q.gone s3.c.q).foldl (λ(s:aa) (a:Ask)=>(s.gone a.source a.source 30).record C 12 a.source 0 30 0) {s3 with c:={s3.c with q:=Q.kept s3.c.q}}).cW C):=by
  intro s3 g3 e3;have hl:(Q.gone s3.c.q).length<=3:=by
   rw[e3];refine hY ?_ Q1;unfold Q.gone;refine hY (FJ _ _) ?_;unfold Q.mE;rw[List.length_map];exact dH _
  have hf:=Xk (n:=2) (f:=λ(s:aa) (a:Ask)=>(s.gone a.source a.source 30).record C 12 a.source 0 30 0) (λs a=>(OY s _ _ _).trans (nN C _ _ _ _ _ _)) (Q.gone s3.c.q) {s3 with c:={s3.c with q:=Q.kept s3.c.q}};have hf:Gr 6 s3 _:=Gr.of hf rfl rfl (Nat.mul_le_mul_left 2 hl);have:=((G1.trans g3).trans hf).trans (axu C _);exact⟨hY this.1 (by show s.bH.length+(12+2+6+3)<=_;omega),hY this.2 (by show s.bg.length+(12+2+6+3)<=_;omega)⟩
 refine Gr.fin (H _ ?_ ?_) rfl rfl
 ·split
  ·exact Gr.of ((OY _ _ _ _).trans (nN C _ _ _ _ _ _)) rfl rfl (by omega)
  ·exact(Gr.c0 rfl rfl).le (by omega)
 ·split
  ·rw[aa.Mr,aa.lJ];rfl
  ·rfl
end Sd
namespace Go.Proofs.YtggfpcggakghnaaGreatDoor
section
open Go Go.RowKit Go.BigFrame Sx Vx
variable{fr:Sd.aF->Nat×Sd.ao}
def O0 (C:Sd.aK):dc (LG fr):=λargs bl ch K=>match args with
 |[.ptr ic 0,.int .i64 l,.agg [.int .i64 code,.sl ip 0 n c]]=>(match bl[ip]?with
  |some ⟨true,⟨5,(0,0)⟩,[.int .u8 a,.int .u8 b]⟩=>Oj C [.ptr ic 0,.int .i64 l,.agg [.int .i64 code,.sl ip 0 n c]] bl ch K
  |_=>N1 C [.ptr ic 0,.int .i64 l,.agg [.int .i64 code,.sl ip 0 n c]] bl ch K)
 |_=>False
theorem af4 (ht:Body (fr:=fr) 147 dY):Sound prog gS 24 (O0 (fr:=fr) (aq ay)):=by
 intro args ids bl ch R ms w0 w K hg hl S hc;unfold O0 at hc;split at hc
 ·split at hc
  ·exact aeK ht _ ids bl ch R ms w0 w K hg hl S hc
  ·exact aen ht _ ids bl ch R ms w0 w K hg hl S hc
 ·exact hc.elim
def O1 (_:bh->V) (op:Op):Bool:=match op with|.buildSlice _ _ _=>true|_=>false
def O2 (_:bh->V) (op:Op):Bool:=match op with|.binOp _ _ _ _ _=>true|_=>false
def vK:(bh->V)->Op->List VB->List (LG fr)->VK (LG fr)->Prop:=λe op bl ch K=>cond (O1 e op) (Oy prog e op bl ch K) (cond (O2 e op) (Xj e op bl ch K) (OT e op bl ch K))
theorem yi {gl:Nat->Option Nat}:gv prog gl (vK (fr:=fr)):=wP O1 ae3 (wP O2 axn afN)
def qY {G:Type} [Bl G] (P:aL) (gl:Nat->Option Nat) (L:List (bR G)) (h:(bh->V)->Op->List VB->List G->VK G->Prop) (hok:gv P gl h) (lp:Nat->List V->Option (Lp G)):Ctx G:=⟨P,rR L,gl,uV L,h,hok,lp⟩
def af5 (j n:Nat):Prop:=0<=(j:Int)/\(j:Int)<(n:Int)
theorem axw {j n:Nat} (h:j<n):af5 j n:=⟨by omega,by omega⟩
structure Ft (s:List (Int×Sd.aF)) (k:Int) where
 j:Nat
 hj:j<=s.length
 r:bm
 hT:r.T=40
 hz:r.z=14
 zV:r.os=(Sd.dT (s.take j) k).flatMap λr=>ai [] (iF r)
 hn:r.n=(Sd.dT (s.take j) k).length
section
variable(u:ag) (g:Gh bN) (fB:List aj) (s:List (Int×Sd.aF)) (fv:Nat->ue) (k:Int) (wr:Bool) (ty:BT) (us:List ae) (c:Nat) (x:Option aQ)
def Xl (y:Ft s k):List V:=[.gp 0 0 s.length c x,.int .i64 k,y.r.v,.int .i64 y.j]
def nO:List VB:=[⟨wr,ty,[.fP 2 s.length (mX s fv),.rest us]⟩]
def Xm (y:Ft s k):List (LG bN):=[.a_ u,.core g fB,.row y.r]
def axx:Lp (LG bN):=D6 (X:=Ft s k) (λy=>s.length-y.j) 45 1 [0,1,5,6] (Xl s k c x) (λ_=>nO s fv wr ty us) (Xm u g fB s k) (λ_=>rfl) (λ_=>rfl) (λ_=>rfl)
def Xn:Nat->List V->Option (Lp (LG bN)):=λi _=>bif az i 0 then some (axx u g fB s fv k wr ty us c x)else none
def O3:List (bR (LG bN)):=[⟨48,true,E4⟩,⟨49,true,JA⟩]
theorem af6:aI prog de O3:=aI.cons ⟨av6,λ_=>av_⟩ (aI.cons ⟨av8,λ_=>av9⟩ aI.nil)
section
variable(K:VK (LG bN))
def af7 (y:Ft s k) (r:bm):Prop:=true=true/\BA (λy=>s.length-y.j) (Xl s k c x) (λ_=>nO s fv wr ty us) (Xm u g fB s k) y [.gp 0 0 s.length c x,.int .i64 k,r.v,.int .i64 (i64.wrap ((y.j:Int)+1))] (nO s fv wr ty us) [.a_ u,.core g fB,.row r]
def af8 (y:Ft s k):Prop:=
 let e:=s.getD (y.j:Int).toNat default
 let v:=fv (y.j:Int).toNat
 let I:=af5 y.j s.length
 let L:=(y.j:Int).toNat<s.length/\∀j,(mX s fv j).length=2
 I/\L/\∃(r:Sd.aF) (b:List aj),(v.n=cU r+5/\ff 5 v.n (ov (cU r) (kU r)) v.x v.c b/\∀y∈b,y∈fB)/\∀d:Nat,
  ∃r2:Sd.aF,(RB r2/\cU r=cU r2/\cU r=cU r2/\kU r=kU r2/\cU r+d=cU r2+d/\mY=mY)/\I/\L/\cond (e.1==k)
   ((y.r.v=y.r.v/\y.r.T=40/\y.r.z=14/\y.r.n+1<=1000000)/\∀r3:bm,r3.T=y.r.T->r3.z=y.r.z->r3.os=y.r.os++ai [] (iF r2)->r3.n=y.r.n+1->af7 u g fB s fv k wr ty us c x y r3) (af7 u g fB s fv k wr ty us c x y y.r)
def rqX:Prop:=∀r:bm,r.T=40->r.z=14->r.os=[]->r.n=0->(true=true/\Bz (Xl s k c x) (λ_=>nO s fv wr ty us) (Xm u g fB s k) [.gp 0 0 s.length c x,.int .i64 k,r.v,.int .i64 0] (nO s fv wr ty us) [.a_ u,.core g fB,.row r])/\
 ∀(y:Ft s k) (g':Nat->ae),cond (decide ((y.j:Int)<(s.length:Int))) (af8 u g fB s fv k wr ty us c x y) (K y.r.v (nO s fv wr ty us) [.a_ u,.core g fB,.row y.r])
theorem axy:br (qY prog de O3 vK yi (Xn u g fB s fv k wr ty us c x)) 60 19 [.gp 0 0 s.length c x,.int .i64 k] (nO s fv wr ty us) [.a_ u,.core g fB] (bA 1 K)=rqX u g fB s fv k wr ty us c x (bA 1 K):=by kernel_rfl
end
end
theorem rbZ {r:Sd.aF} (h:Sd.tN r):RB r:=by
 have b1:=h.kind;refine⟨h.kind,⟨h.seq,?_⟩,⟨h.role,?_⟩,⟨h.cX,?_⟩,⟨h.ah,?_⟩,⟨h.code,?_⟩,⟨h.aA,?_⟩⟩
 ·by_cases e:r.kind=131\/r.kind=132
  ·exact .inl e
  ·exact .inr (h.amw (by omega))
 ·by_cases e:r.kind=130
  ·exact .inl e
  ·exact .inr (h.amx e)
 ·by_cases e:r.kind=130\/r.kind=134\/r.kind=135\/r.kind=136
  ·exact .inl e
  ·exact .inr (h.amy (by omega))
 ·by_cases e:r.kind=130\/r.kind=133\/r.kind=134\/r.kind=135
  ·exact .inl e
  ·exact .inr (h.amz (by omega))
 ·by_cases e:r.kind=132\/r.kind=136
  ·exact .inl e
  ·exact .inr (h.amA (by omega))
 ·by_cases e:r.kind=129
  ·exact .inl e
  ·exact .inr (h.amB e)
theorem axz {l:List (Int×Sd.aF)} {j:Nat} (h:j<l.length):l.take (j+1)=l.take j++[l.getD j default]:=by
 rw[List.take_add_one,pH,jv h];rfl
theorem axA {l:List (Int×Sd.aF)} {j:Nat} (h:j<l.length):l.getD j default∈l:=by
 rw[pH,jv h];exact List.getElem_mem h
theorem af9 (l:List (Int×Sd.aF)) (k:Int):(Sd.dT l k).length<=l.length:=by
 unfold Sd.dT;rw[List.length_map];exact FJ _ _
theorem axB {l:List (Int×Sd.aF)} {j:Nat} (h:j<l.length) (k:Int):Sd.dT (l.take (j+1)) k=Sd.dT (l.take j) k++if(l.getD j default).1=k then[(l.getD j default).2]else[]:=by
 rw[axz h,Sd.W7];congr 1;unfold Sd.dT;by_cases e:(l.getD j default).1=k
 ·rw[if_pos e];simp only[Yw,e,decide_true,if_true,List.filter_nil,eF,s8]
 ·rw[if_neg e];simp only[Yw,e,decide_false,Bool.false_eq_true,if_false,List.filter_nil,s8]
section
variable{u:ag} {g:Gh bN} {fB:List aj} {s:List (Int×Sd.aF)} {fv:Nat->ue} {k:Int} {wr:Bool} {ty:BT} {us:List ae} {c:Nat} {x:Option aQ} {K:VK (LG bN)}
theorem axC (hf:lx bN s fv fB) (hs:∀y∈s,Sd.ow y) (hl:s.length<=1000) (hK:∀r:bm,r.T=40->r.z=14->r.os=(Sd.dT s k).flatMap (λr=>ai [] (iF r))->r.n=(Sd.dT s k).length->K r.v (nO s fv wr ty us) [.a_ u,.core g fB,.row r]):rqX u g fB s fv k wr ty us c x K:=by
 intro r h1 h2 h3 h4;refine⟨⟨rfl,⟨0,Nat.zero_le _,r,h1,h2,by rw[h3];rfl,by rw[h4];rfl⟩,rfl,rfl,rfl⟩,λy g'=>aM (λe=>?_) (λe=>?_)⟩
 ·have dL:y.j<s.length:=by simpa using e
  obtain⟨xx,cc,b,e1,e2,e3⟩:=hf y.j dL;have hB:=hs _ (axA dL);have hR:=rbZ hB.2;have hI:=axw dL;have hL:y.j<s.length/\∀j,(mX s fv j).length=2:=⟨dL,λj=>rfl⟩;have hlen:=af9 (s.take y.j) k;have azG:(s.take y.j).length<=s.length:=by rw[vQ];omega
  have hS:=axB dL k;have hw:i64.wrap ((y.j:Int)+1)=((y.j+1:Nat):Int):=by rw[kQ (by omega)];rfl
  unfold af8;dsimp only;rw[show((y.j:Int)).toNat=y.j from Int.toNat_natCast _];refine⟨hI,hL,(s.getD y.j default).2,b,⟨by rw[e1];rfl,by rw[e1];exact e2,e3⟩,λd=>⟨(s.getD y.j default).2,⟨hR,rfl,rfl,rfl,rfl,rfl⟩,hI,hL,aM (λe=>?_) (λe=>?_)⟩⟩
  ·rw[if_pos (eq_of_beq e)]at hS;refine⟨⟨rfl,y.hT,y.hz,by rw[y.hn];omega⟩,λr3 q1 q2 q3 q4=>⟨rfl,⟨y.j+1,dL,r3,by rw[q1,y.hT],by rw[q2,y.hz],?_,?_⟩,by show s.length-(y.j+1)<s.length-y.j;omega,?_,rfl,rfl⟩⟩
   ·rw[q3,y.zV,hS,FH];simp
   ·rw[q4,y.hn,hS];simp
   ·rw[hw];rfl
  ·rw[if_neg (beq_eq_false_iff_ne.1 e),cH]at hS;refine⟨rfl,⟨y.j+1,dL,y.r,y.hT,y.hz,by rw[hS];exact y.zV,by rw[hS];exact y.hn⟩,by show s.length-(y.j+1)<s.length-y.j;omega,?_,rfl,rfl⟩;rw[hw];rfl
 ·have eG:s.length<=y.j:=by have:¬y.j<s.length:=by simpa using e
                            omega
  have e0:s.take y.j=s:=List.take_of_length_le eG;exact hK y.r y.hT y.hz (by rw[y.zV,e0]) (by rw[y.hn,e0])
end
theorem axD (K:VK (LG bN)) (r:bm) (s:List (Int×Sd.aF)) (fv:Nat->ue) (wr:Bool) (ty:BT) (us:List ae) (ch:List (LG bN)):bA 1 K r.v (nO s fv wr ty us) ch=K r.v (nO s fv wr ty us) ch:=by kernel_rfl
theorem Xo:Sound prog gS 19 C4:=by
 intro args ids bl ch R ms w0 w K hg hl S hc;unfold C4 at hc;split at hc
 ·rename_i i n c x k u g fB rest;split at hc
  ·rename_i wr ty n' G us hb;cases hq:bM bl.length bl with
   |false=>rw[hq]at hc;exact hc.elim
   |true=>
    rw[hq]at hc;obtain⟨s,fv,⟨rfl,rfl,rfl,hs,Wt,NY,O4,lr⟩,hK⟩:=hc;have cV:aH ids [.gp i 0 s.length c x,.int .i64 k]=aH ([i].map λi=>ids.getD i 0) [.gp 0 0 s.length c x,.int .i64 k]:=rfl;have cS:br (qY prog de O3 vK yi (Xn u g fB s fv k wr ⟨ty,(0,0)⟩ us c x)) 60 19 [.gp 0 0 s.length c x,.int .i64 k] (nO s fv wr ⟨ty,(0,0)⟩ us) [.a_ u,.core g fB] (bA (nO s fv wr ⟨ty,(0,0)⟩ us).length λv b c=>cR 0 v=true/\b.take (nO s fv wr ⟨ty,(0,0)⟩ us).length=nO s fv wr ⟨ty,(0,0)⟩ us/\∃c2,c=[.a_ u,.core g fB]++c2/\∃r:bm,v=r.v/\c2=[.row r]/\r.z=14/\r.os=(Sd.dT s k).flatMap (λr=>ai [] (iF r))/\r.n=(Sd.dT s k).length):=by
     show br _ _ _ _ _ _ (bA 1 _);rw[axy];exact axC NY hs Wt λr h1 h2 h3 h4=>by
      rw[axD];exact⟨rfl,rfl,[.row r],rfl,r,rfl,rfl,h2,h3,h4⟩
    refine(axk (C:=qY prog de O3 vK yi (Xn u g fB s fv k wr ⟨ty,(0,0)⟩ us c x)) af6.T af6.Q hl (ch0:=[.a_ u,.core g fB]) (rest:=rest) S [i] (by simp) (λg i h=>by cases h) (nO s fv wr ⟨ty,(0,0)⟩ us) (by simp[hb,nO]) rfl cV cS).mono ?_;rintro v w' ⟨v0,c2,rfl,⟨r,rfl,rfl,hz,zV,hn⟩,S2⟩;have h0:aD ids 1 (j5 O4)∈lits ids ids bl:=by
     have hm:=pF (KZ (ids:=ids) ids bl hl lr);rw[(hg 1 0 rfl).2]at hm;exact hm
    have hh:=r.h;obtain⟨rT,rz,ros,rx,rn,rc,Xp,rh⟩:=r;simp only at hz zV hn hh;subst hz hn;have S3:St ms w0 (Xp++(lits ids ids bl++aC (.a_ u::.core g fB::rest) R)) w':=S2.perm (by
     show List.Perm (lits ids ids bl++(dR u++((g.F.B++fB)++(Xp++aC rest R)))) (Xp++(lits ids ids bl++(dR u++((g.F.B++fB)++aC rest R))));exact ij λf=>by simp only[iI];omega)
    obtain⟨i2,Xq,Xr,hv,S4⟩:=axm hh S3 (z0:=1) (o:=(aD ids 1 (j5 O4)).obj) rfl (pJ _ h0) (zV.trans (axl _).symm);refine⟨.gp bl.length 0 (Sd.dT s k).length rc rx,[i2],_,_,?_,by simp[hl],?_,hK _ rfl rx rc Xq Xr⟩
    ·have Ap:(ids++[i2]).getD bl.length 0=i2:=by rw[<-hl];simp[ir]
     simp only[bm.v,den,Ap];exact hv
    ·have em:aD (ids++[i2]) i2 ⟨false,⟨Xq,(0,0)⟩,[.fP 14 (Sd.dT s k).length (mw (Sd.dT s k)),.rest Xr]⟩=⟨i2,false,.cells ((bw (Sd.dT s k).length).flatMap (mw (Sd.dT s k))++Xr).toArray Xq (0,0)⟩:=by
      unfold aD;simp only[ai,cl,cH]
     rw[fC _ _ _ _ hl,fD _ _ (by rw[hl];exact hq)];simp only[lits,em];refine S4.perm ?_;rw[bU];exact jU.symm
  ·exact hc.elim
 ·exact hc.elim
theorem Xs:ia C4:=by
 intro args bl ch K hc;unfold C4 at hc⊢;split at hc
 ·split at hc
  ·revert hc;cases bM bl.length bl with
   |false=>exact λh=>h.elim
   |true=>
    rintro⟨s,fv,h,hK⟩;exact⟨s,fv,h,λrs e x' c' ty us=>⟨hK rs e x' c' ty us,_,rfl⟩⟩
  ·exact hc.elim
 ·exact hc.elim
end
section
open Go Go.RowKit Go.BigFrame Sx Vx
def yj (r:Int) (p:Nat->Int):Sd.ao:=dm [2,r,p 0,p 1,p 2,p 3,p 4,p 5,p 6,p 7]
def sS (C:Sd.aK) (s:Sd.aa) (l r:Int) (n:Nat) (f:Sd.ao):Sd.aa×Sd.ao×Sd.aF:=
 let s1:=fF C s l 0 2 (f2 1 r)
 let a:=Sd.jr (Sd.dT s1.bg l)
 if a.kind=129 then
  let s2:=fF C (cd s1) l 0 10 (yj r (lh n f l r a.aA))
  (cd s2,jm n f l r a.aA,Sd.jr (Sd.dT s2.bg l))
 else(cd s1,mY,a)
theorem O5 {C:Sd.aK} {s:Sd.aa} {l:Int} {n:Nat} {f:Sd.ao} (h:1<=l/\l<=3):fF C s l 0 n f=s.item C l 0 n f:=if_pos h
theorem axE (m:Sd.a9):0<dr m:=by unfold dr jM;simp
theorem axF (m:Sd.a9):nM m 0=m.kind:=rfl
theorem kW.kinds {m:Sd.a9} (h:kW m):m.kind=3\/m.kind=5\/m.kind=6\/m.kind=7\/m.kind=9\/m.kind=10:=by
 obtain⟨_,⟨h|h,_⟩|⟨h,_⟩|⟨h,_⟩|⟨h,_⟩|⟨h,_⟩⟩:=h<;>omega
variable{s:Sd.aa} {c:Sd.Core} {l r:Int}
theorem axG {m:Sd.a9} {key:Sd.ao} {role hi:Int} (h:s.at_ c []) (hS:Sd.f_ c l key role hi) (hp:kW m) (hn:hi<m.seq):
 (fF (aq ay) s l 0 (dr m+8) (gY key l (dr m) (nM m))).res [] (Sd.fp (aq ay) c l m):=by
 rw[O5 hS.lk];have hb:=hS.bV (C:=aq ay) ui ⟨hn,hp.1⟩;refine Sd.awj h ?_ hS.on (by omega) ?_ ?_ hp.kinds hb.1
 ·rw[afF (axE m)];exact axF m
 ·rw[hS.key];show lj key l (dr m+8-8) _=true;rw[Nat.add_sub_cancel];exact awC key (nM m) l (dr m)
 ·show ay (dr m+8-8) _=some m;rw[Nat.add_sub_cancel];exact aw8 hp λj hj=>afF hj
theorem axH (r:Int) (p:Nat->Int):∀j,j<8->yj r p (2+j)=p j:=by
 intro j hj;rcases(by omega:j=0\/j=1\/j=2\/j=3\/j=4\/j=5\/j=6\/j=7)with rfl|rfl|rfl|rfl|rfl|rfl|rfl|rfl<;>rfl
theorem Xt (k:Int) (r:Sd.aF):Sd.jr (Sd.dT [(k,r)] k)=r:=by rw[Sd.OO];rfl
theorem axI {n:Nat} {f:Sd.ao} (h:s.at_ c []) (hr:0<=r/\r<=3) (hl:1<=l/\l<=3) (ht:Sd.jf c.p l r=true) (hd:(c.doors (l.toNat-1)).many<4294967295):∃s1:Sd.aa,s1.at_ (Sd.Au (aq ay) c l) []/\
 sS (aq ay) s l r n f=(cd (fF (aq ay) s1 l 0 10 (yj r (lh n f l r (Sd.sP (aq ay) c l)))),jm n f l r (Sd.sP (aq ay) c l),Sd.jr (Sd.dT (fF (aq ay) s1 l 0 10 (yj r (lh n f l r (Sd.sP (aq ay) c l)))).bg l)):=by
 have h1:=Sd.afB (f1:=f2 1 r) ui h hr ht hd rfl rfl;rw[<-O5 (n:=2) (C:=aq ay) (s:=s) (f:=f2 1 r) hl]at h1;refine⟨cd (fF (aq ay) s l 0 2 (f2 1 r)),⟨h1.1,rfl⟩,?_⟩;unfold sS;dsimp only;rw[h1.2,Xt,if_pos rfl]
theorem axJ (h:s.at_ c []) (hr:0<=r/\r<=3) (hl:1<=l/\l<=3) (ht:Sd.jf c.p l r=true) (hd:(c.doors (l.toNat-1)).many<4294967295):(Sd.jr (Sd.dT (fF (aq ay) s l 0 2 (f2 1 r)).bg l)).kind=129:=by
 have h1:=Sd.afB (f1:=f2 1 r) ui h hr ht hd rfl rfl;rw[<-O5 (n:=2) (C:=aq ay) (s:=s) (f:=f2 1 r) hl]at h1;rw[h1.2,Xt]
theorem axK {n:Nat} {f:Sd.ao} (h:s.at_ c []) (hr:0<=r/\r<=3) (hl:1<=l/\l<=3) (hk:c.p.k (l.toNat-1)=(n,f)) (ht:Sd.jf c.p l r=true) (hd:(c.doors (l.toNat-1)).many<4294967295) (hs:c.af.cj l=true\/c.af.many<c.p.fj):
 ∃s':Sd.aa,sS (aq ay) s l r n f=(s',jm n f l r (Sd.sP (aq ay) c l),{kind:=130,role:=r,cX:=c.t.aG,ah:=c.t.ah})/\s'.at_ (Sd.dU (aq ay) c l r) []:=by
 obtain⟨s1,h1,e⟩:=axI (n:=n) (f:=f) h hr hl ht hd;have h2:=Sd.awv (f2:=yj r (lh n f l r (Sd.sP (aq ay) c l))) ui h1 hl hr ht rfl rfl (by rw[hk];exact awD n f _ _ l r (axH _ _)) hs;rw[<-O5 hl]at h2;rw[e,h2.2,Xt];exact⟨_,rfl,h2.1,rfl⟩
end
section
open Go Go.RowKit Go.BigFrame Sx Vx
def Fu {G:Type}:dc G:=λargs bl ch K=>match args with
 |[.gp i 0 n c x]=>(match bl[i]?with
  |some ⟨_,⟨_,(0,0)⟩,[.fP 14 n' g,.rest _]⟩=>∃rs:List Sd.aF,(n=rs.length/\n'=rs.length/\g=mw rs/\rs.length<=1000000)/\K (.agg (iF (Sd.jr rs))) bl ch
  |_=>False)
 |_=>False
def laX (rs:List Sd.aF) (wr:Bool) (ty:BT) (us:List ae) (c:Nat) (x:Option aQ) (K:VK Empty):Prop:=
 let B:List VB:=[⟨wr,ty,[.fP 14 rs.length (mw rs),.rest us]⟩]
 let j:=i64.wrap ((rs.length:Int)-1)
 cond ((rs.length:Int)==0) (K (.agg (iF {kind:=0})) B []) ((0<=j/\j<(rs.length:Int))/\(j.toNat<rs.length/\∀i,(mw rs i).length=14)/\K (.agg (iF (rs.getD j.toNat default))) B [])
theorem axL (rs:List Sd.aF) (wr:Bool) (ty:BT) (us:List ae) (c:Nat) (x:Option aQ) (K:VK Empty):br (bZ prog de ([]:List (bR Empty))) 60 36 [.gp 0 0 rs.length c x] [⟨wr,ty,[.fP 14 rs.length (mw rs),.rest us]⟩] [] (bA 1 K)=laX rs wr ty us c x K:=by kernel_rfl
theorem axM {rs:List Sd.aF} (h:0<rs.length):rs.getD (rs.length-1) default=Sd.jr rs:=by
 unfold Sd.jr
 match rs,h with
 |a::l,_=>
  rw[List.getLastD_cons];clear h;show(a::l).getD l.length default=_;induction l generalizing a with
  |nil=>rfl
  |cons b l ih=>rw[List.getLastD_cons,<-ih b (by simp)];rfl
theorem af_ {G:Type} [Bl G] {gl:Nat->Option Nat}:Sound (G:=G) prog gl 36 Fu:=by
 intro args ids bl ch R ms w0 w K hg hl S hc;unfold Fu at hc;split at hc
 ·rename_i i n c x;split at hc
  ·rename_i wr ty n' g us hb;obtain⟨rs,⟨rfl,rfl,rfl,hle⟩,hK⟩:=hc;have cS:br (bZ prog de ([]:List (bR Empty))) 60 36 [.gp 0 0 rs.length c x] [⟨wr,⟨ty,(0,0)⟩,[.fP 14 rs.length (mw rs),.rest us]⟩] [] (bA ([⟨wr,⟨ty,(0,0)⟩,[.fP 14 rs.length (mw rs),.rest us]⟩]:List VB).length λv b c=>v=.agg (iF (Sd.jr rs))/\b.take ([⟨wr,⟨ty,(0,0)⟩,[.fP 14 rs.length (mw rs),.rest us]⟩]:List VB).length=[⟨wr,⟨ty,(0,0)⟩,[.fP 14 rs.length (mw rs),.rest us]⟩]/\∃c2,c=[]++c2):=by
    show br _ _ _ _ _ _ (bA 1 _);rw[axL];refine aM (λe=>⟨?_,rfl,[],rfl⟩) (λe=>?_)
    ·have:rs=[]:=List.length_eq_zero_iff.1 (by simpa using e);rw[this];rfl
    ·have hp:0<rs.length:=by
      rcases vP rs.length with h|h
      ·rw[h]at e;cases e
      ·exact h
     have hw:i64.wrap ((rs.length:Int)-1)=((rs.length-1:Nat):Int):=by rw[kQ (by omega)];omega
     rw[hw,Int.toNat_natCast];exact⟨⟨by omega,by omega⟩,⟨by omega,λi=>rfl⟩,by rw[axM hp],rfl,[],rfl⟩
   refine(auQ (C:=bZ prog de ([]:List (bR Empty))) (aI.nil (P:=prog) (gl:=de)).T (aI.nil (P:=prog) (gl:=de)).Q rfl hl S [i] (by simp) [⟨wr,⟨ty,(0,0)⟩,[.fP 14 rs.length (mw rs),.rest us]⟩] (by simp[hb]) rfl (args:=[.gp i 0 rs.length c x]) rfl rfl cS).mono ?_;rintro v w' ⟨rfl,S2⟩;exact⟨.agg (iF (Sd.jr rs)),[],bl,ch,rfl,by simpa using hl,by simpa using S2,hK⟩
  ·exact hc.elim
 ·exact hc.elim
theorem aga {G:Type}:ia (Fu (G:=G)):=by
 intro args bl ch K hc;unfold Fu at hc⊢;split at hc
 ·split at hc
  ·obtain⟨rs,h,hK⟩:=hc;exact⟨rs,h,hK,[],by simp⟩
  ·exact hc.elim
 ·exact hc.elim
def O6 (C:Sd.aK):List (bR (LG bN)):=[⟨46,true,JL⟩,⟨47,true,JK⟩,⟨24,false,O0 C⟩,⟨19,true,C4⟩,⟨36,true,Fu⟩]
theorem agb:aI prog gS (O6 (aq ay)):=aI.cons ⟨aw6,λ_=>aw7⟩ (aI.cons ⟨awQ,λ_=>awR⟩ (aI.cons ⟨af4 Ju,λe=>by cases e⟩ (aI.cons ⟨Xo,λ_=>Xs⟩ (aI.cons ⟨af_,λ_=>aga⟩ aI.nil))))
def Fv {fr:Sd.aF->Nat×Sd.ao} {k:LK} (sv:Sd.aa) (X:(s':Sd.aa)->TR->List aj->aX fr (aU k (cd s'))->Prop):Prop:=∀s',s'=sv->∀(r:TR) (fn:List aj) (F0:aX fr (aU k (cd s'))),da=F0.vs->da=F0.vr->lx fr s'.bg r.fv fn->X s' r fn F0
def Xu {fr:Sd.aF->Nat×Sd.ao} (k:LK) (s:Sd.aa) (F:aX fr (aU k s)) (n:Nat) (f:Sd.ao):Prop:=eQ k (bP s)/\da=F.vs/\da=F.vr/\n<=58/\By f
def Xv (k:LK):Prop:=∃tg,some (cw k)=some (j5 tg)
def O7 (k:LK) (s':Sd.aa) (r:TR) (fB:List aj) (l:Int) (X:Sd.aF->Prop):Prop:=∃(s0:List (Int×Sd.aF)) (fv:Nat->ue),(s'.bg.length=s0.length/\s'.bg.length=s0.length/\mX s'.bg r.fv=mX s0 fv/\(∀y∈s0,Sd.ow y)/\s0.length<=1000/\lx bN s0 fv fB/\Xv k)/\
 ∀(rs:List Sd.aF),rs=Sd.dT s0 l->∀(x':Option aQ) (c' ty:Nat) (us:List ae),∃DZ:List Sd.aF,(rs.length=DZ.length/\rs.length=DZ.length/\mw rs=mw DZ/\DZ.length<=1000000)/\X (Sd.jr DZ)
section
variable(C:Sd.aK) (k:LK) (s:Sd.aa) (F:aX bN (aU k s)) (u:ag) (fB:List aj) (kf:Nat->Int) (l:Int) (m:Sd.a9) (K:VK (LG bN))
def syX:Prop:=kW m/\∀(d:Nat) (us:List ae),∃k2:Nat->Int,(dr m=dr m/\dr m<=50/\(0<=l/\l<4294967296)/\32=32/\(∀j,j<32->dm [kf 0,kf 1,kf 2,kf 3,kf 4,kf 5,kf 6,kf 7,kf 8,kf 9,kf 10,kf 11,kf 12,kf 13,kf 14,kf 15,kf 16,kf 17,kf 18,kf 19,kf 20,kf 21,kf 22,kf 23,kf 24,kf 25,kf 26,kf 27,kf 28,kf 29,kf 30,kf 31] j=k2 j)/\Xv k)/\∀d:Nat,
 N3 k s/\(dr m+8=dr m+8/\dr m+8+d=dr m+8+d/\mY=mY)/\oG k/\Xu k s F (dr m+8) (gY k2 l (dr m) (nM m))/\Fv (fr:=bN) (k:=k) (fF C (bP s) l 0 (dr m+8) (gY k2 l (dr m) (nM m))) λs' r fn F0=>
  O7 k s' r (fn++fB) l λa=>K (.av [r.v s' 4,.agg (iF a)]) (c9 k (cd s')++[r.sB s',r.rB s']) [.a_ u,.core (bj k (cd s') F0) (fn++fB)]
theorem axN:br (qY prog gS (O6 C) vK yi λ_ _=>none) 60 18 [.ptr 2 0,.agg (ints 32 kf),.int .i64 l,.agg (cQ m)] (c9 k s) [.a_ u,.core (bj k s F) fB] (bA 4 K)=syX C k s F u fB kf l m K:=by kernel_rfl
end
def O8 (C:Sd.aK):List (bR (LG bN)):=[⟨16,true,Av 8 lh⟩,⟨37,true,Av 32 jm⟩,⟨24,false,O0 C⟩,⟨19,true,C4⟩,⟨36,true,Fu⟩]
theorem agc:aI prog gS (O8 (aq ay)):=aI.cons ⟨awO,λ_=>afM⟩ (aI.cons ⟨awP,λ_=>afM⟩ (aI.cons ⟨af4 Ju,λe=>by cases e⟩ (aI.cons ⟨Xo,λ_=>Xs⟩ (aI.cons ⟨af_,λ_=>aga⟩ aI.nil))))
def uk (wr:Bool) (n:Nat) (f:Sd.ao) (us:List ae):VB:=⟨wr,⟨5,(0,0)⟩,[.bS .u8 n f,.rest us]⟩
def JO (r:Int):Int:=u8.wrap (bits .and .i64 r 255)
def Xw (k:LK) (n c:Nat) (l r:Int) (a:Sd.aF) (nc:Nat->Int):Prop:=(n=n/\n<=c/\(1<=n/\n<=64))/\(0<=l/\l<4294967296)/\(0<=r/\r<4294967296)/\8=8/\(∀j,j<8->dm [a.aA 0,a.aA 1,a.aA 2,a.aA 3,a.aA 4,a.aA 5,a.aA 6,a.aA 7] j=nc j)/\Xv k
section
variable(C:Sd.aK) (k:LK) (s:Sd.aa) (F:aX bN (aU k s)) (u:ag) (fB:List aj) (wr:Bool) (n:Nat) (f:Sd.ao) (us:List ae) (c:Nat) (l r:Int) (K:VK (LG bN))
def Xx:Prop:=
 let B (s':Sd.aa):=c9 k (cd s')++[uk wr n f us]
 N3 k s/\(2=2/\2+0=2/\mY=mY)/\oG k/\Xu k s F 2 (f2 1 (JO r))/\Fv (fr:=bN) (k:=k) (fF C (bP s) l 0 2 (f2 1 (JO r))) λs1 r1 O9 F1=>O7 k s1 r1 (O9++fB) l λa=>
  cond (a.kind !=129) False
   (∃nc:Nat->Int,Xw k n c l r a nc/\∀d:Nat,N3 k (cd s1)/\(10=10/\10+d=10+d/\mY=mY)/\oG k/\Xu k (cd s1) F1 10 (yj (JO r) (lh n f l r nc))/\Fv (fr:=bN) (k:=k) (fF C (bP (cd s1)) l 0 10 (yj (JO r) (lh n f l r nc))) λs2 r2 nQ F2=>
    ∃nc:Nat->Int,Xw k n c l r a nc/\O7 k s2 r2 (nQ++(O9++fB)) l λb=>K (.av [.agg (ints 32 (jm n f l r nc)),.agg (iF b)]) (B s2) [.a_ u,.core (bj k (cd s2) F2) (nQ++(O9++fB))])
theorem axO:br (qY prog gS (O8 C) vK yi λ_ _=>none) 60 13 [.ptr 2 0,.sl 4 0 n c,.int .i64 l,.int .i64 r] (c9 k s++[uk wr n f us]) [.a_ u,.core (bj k s F) fB] (bA 5 K)=Xx C k s F u fB wr n f us c l r K:=by kernel_rfl
end
end
end Go.Proofs.YtggfpcggakghnaaGreatDoor
namespace Sd
def agd (l:List Rec):Int:=l.foldl (λa r=>if r.kind=8 then a+1 else a) 0
def agf (l:List Rec):Int:=l.foldl (λa r=>if r.kind=8 then r.how else a) 0
structure Wn where
 p:aO
 xh:Int
 xe:Int
 xo:Int
 axP:Bool
 n:Nat
 q:Nat->Int
 yh:Int
 ye:Int
 yo:Int
 axQ:Bool
 on:Int->Bool
 l:List Rec
 kind:Int
 link:Int
def axR (w:Wn) (how:Int):Prop:=
 (how=1/\w.kind=0/\w.xo=w.yh/\w.link=w.yh)\/
 (how=2/\w.kind<2/\0<w.n/\w.q 0=w.yh/\(w.kind=1↔w.xh=0))\/
 (how=3/\w.kind=0/\w.link=w.yh/\eV w.p w.yh w.xh=true/\w.axP=false)\/
 (how=4/\w.kind=1/\w.yh=0)\/
 (how=5/\w.kind=3/\w.on w.xh=false/\w.on w.yh=true)\/
 (how=6/\w.yh=4/\((w.kind=2/\w.axQ=true)\/(w.kind=3/\w.xe=65535/\w.on w.xh=false)))
structure azH (w:Wn):Prop where
 hx:0<=w.xh/\w.xh<=4
 hy:0<=w.yh/\w.yh<=4
 ex:0<=w.xe/\w.xe<=65535
 kd:0<=w.kind/\w.kind<=3
 len:w.l.length<=1000
 azI:∀j,j<w.l.length->(w.l.getD j default).kind=8->(w.l.getD j default).source=w.yh/\(w.l.getD j default).ah=w.ye
 how:(w.yh=w.xh/\w.ye=w.xe/\agd w.l=0)\/(w.yh≠w.xh/\agd w.l=1/\w.yo=-1/\((w.ye=w.xe+1)\/(w.xe=65535/\w.ye=w.xe/\agf w.l=6))/\axR w (agf w.l))
theorem ve.link {a b:Core} {k l l' how:Int} (h:ve a b k l how) (hk:k≠0):ve a b k l' how:=by
 unfold ve at h⊢;rcases h with h|h|h|h|h|h
 ·exact absurd h.2.1 hk
 ·exact .inr (.inl h)
 ·exact absurd h.2.1 hk
 ·exact .inr (.inr (.inr (.inl h)))
 ·exact .inr (.inr (.inr (.inr (.inl h))))
 ·exact .inr (.inr (.inr (.inr (.inr h))))
theorem fI.link {C:aK} {b:Prop} {s s':aa} {k l l':Int} (h:fI C b s s' k l) (hk:k≠0):fI C b s s' k l':=
 ⟨h.inv,h.B8.imp id λ⟨how,g,w⟩=>⟨how,g,w.link hk⟩⟩
structure azJ (C:aK) (s s':aa):Prop where
 head:s'.c.head=s'.bH.foldl C.next s.c.head
 lo:∀r∈s'.bH,s.c.t.ah<=r.ah
 hi:∀r∈s'.bH,r.ah<=s'.c.t.ah
 up:s'.bH.Pairwise λa b=>a.ah<=b.ah
 ep:s.c.t.ah<=s'.c.t.ah
def Xy (k:Int):Bool:=k==129||(k==130||(k==131||k==132))
theorem axS {k:Int} (h:132<k):Xy k=false:=by
 unfold Xy;simp only[Bool.or_eq_false_iff,beq_eq_false_iff_ne];omega
inductive agh (s':aa) (l:Int):Prop
 |no (h1:0<s'.bH.length) (h2:(s'.bH.getD 0 default).kind=1) (h3:s'.bg=[])
 |yes (h1:(s'.bH.getD 0 default).kind≠1\/s'.bH=[]) (xs ys:List (Int×aF)) (r:aF) (h2:s'.bg=xs++(l,r)::ys) (h3:129<=r.kind/\r.kind<=132) (h4:∀x∈xs++ys,132<x.2.kind)
theorem agh.link {s':aa} {l:Int} (h:agh s' l) {x:Int×aF} (hx:x∈s'.bg) (ha:Xy x.2.kind=true):x.1=l:=by
 cases h with
 |no h1 h2 h3=>rw[h3]at hx;cases hx
 |yes h1 xs ys r h2 h3 h4=>
  rw[h2]at hx;have no:∀y,y∈xs++ys->y=x->False:=λy hy e=>by rw[<-e,axS (h4 y hy)]at ha;cases ha
  rcases fc.1 hx with hx|hx
  ·exact(no x (pJ _ hx) rfl).elim
  ·rcases cn.1 hx with rfl|hx
   ·rfl
   ·exact(no x (uy _ hx) rfl).elim
theorem fI.agi {C:aK} {b:Prop} {s s':aa} {k l:Int} (h:fI C b s s' k l) (hs:s.bg=[]):∀x∈s'.bg,ow x:=by
 rcases h.B8 with q|⟨how,g,w⟩
 ·obtain⟨ts,t1,t2⟩:=q.bg;rw[hs,fi]at t1;rw[t1];exact t2
 ·obtain⟨ts,t1,t2⟩:=g.bg;rw[hs,fi]at t1;rw[t1];exact t2
end Sd
namespace Go.Proofs.YtggfpcggakghnaaGreatDoor
section
open Go Go.RowKit Go.BigFrame Sx Vx
theorem agj {q:List Int} (h:∀x∈q,0<=x/\x<=255):By (dm q):=by
 intro j;unfold dm;rw[pH];cases hq:q[j]?with
 |none=>exact⟨by decide,by decide⟩
 |some x=>exact h x (pF hq)
theorem axT {m:Sd.a9} (h:kW m):By (nM m):=agj (by
 intro x hx;unfold jM at hx;rcases cn.1 hx with rfl|hx
 ·have:=h.kinds;omega
 ·obtain⟨l,hl,hx⟩:=List.mem_flatten.1 hx;obtain⟨f,_,rfl⟩:=lP.1 hl;obtain⟨j,_,rfl⟩:=lP.1 hx;exact oL _ _ _)
theorem axU {n:Nat} {f g:Nat->Int} (hf:By f) (hg:By g):By (cA n f g):=by
 intro j;unfold cA;cases cD j n with
 |true=>exact hf j
 |false=>exact hg _
theorem agk (kn:Nat) (kf:Nat->Int) (n:Nat) (d:Nat->Int):By (fR kn kf n d):=by unfold fR;exact ada _ _
theorem axV {k:Nat->Int} {s:Int} {n:Nat} {f:Nat->Int} (h:By f):By (gY k s n f):=by unfold gY;exact axU h (agk _ _ _ _)
theorem axW {r:Int} (h:0<=r/\r<=3):By (f2 1 r):=λj=>by unfold f2;split<;>omega
theorem axX {r:Int} (h:0<=r/\r<=3) {p:Nat->Int} (hp:By p):By (yj r p):=agj (by
 intro x hx;simp only[cn,pN,or_false]at hx;rcases hx with rfl|rfl|rfl|rfl|rfl|rfl|rfl|rfl|rfl|rfl
 ·omega
 ·omega
 all_goals exact hp _)
theorem axY {m:Sd.a9} (h:kW m):dr m<=8:=by
 obtain⟨_,⟨h|h,e⟩|⟨h,e⟩|⟨h,_,e⟩|⟨h,_,e⟩|⟨h,_,_,e⟩⟩:=h<;>(unfold dr jM qX;simp only[h,AT,if_true,if_false];simp)
theorem axZ {r:Int} (h:0<=r/\r<=3):JO r=r:=by
 rcases(by omega:r=0\/r=1\/r=2\/r=3)with rfl|rfl|rfl|rfl<;>decide
theorem lx.app {l:List (Int×Sd.aF)} {fv:Nat->ue} {fn:List aj} (h:lx bN l fv fn) (fB:List aj):lx bN l fv (fn++fB):=λj hj=>by
 obtain⟨x,c,b,h1,h2,h3⟩:=h j hj;exact⟨x,c,b,h1,h2,λy hy=>pJ _ (h3 y hy)⟩
theorem agl {k:LK} {s:Sd.aa} (h:eQ k s) (l code:Int) (n:Nat) (f:Sd.ao):Sd.fI (aq ay) False s (fF (aq ay) s l code n f) 0 l:=by
 unfold fF;split
 ·rename_i hl;exact Sd.acd EW h.i hl (λe=>e.elim)
 ·exact .kq h.i (Sd.Quiet.refl ..)
theorem O_ {k:LK} {s:Sd.aa} (h:eQ k s) (l code:Int) (n:Nat) (f:Sd.ao):(fF (aq ay) s l code n f).c.p=s.c.p:=Wd (agl h l code n f)
theorem Pa {k:LK} {s:Sd.aa} (h:eQ k s) (l code:Int) (n:Nat) (f:Sd.ao):(∀y∈(fF (aq ay) s l code n f).bg,Sd.ow y)/\(fF (aq ay) s l code n f).bg.length<=10:=by
 refine⟨(agl h l code n f).agi h.e1,?_⟩;have h1:Sd.Gr 10 s (fF (aq ay) s l code n f):=by
  unfold fF;split
  ·exact Sd.axs _ _ _ _ _ _
  ·exact(Sd.Gr.c0 rfl rfl).le (by decide)
 have:=h1.2;rw[h.e1]at this;simpa using this
theorem Xz {k:LK} {s':Sd.aa} {r:TR} {fB:List aj} {l:Int} {X:Sd.aF->Prop} (hf:lx bN s'.bg r.fv fB) (hs:∀y∈s'.bg,Sd.ow y) (hl:s'.bg.length<=1000) (hX:X (Sd.jr (Sd.dT s'.bg l))):O7 k s' r fB l X:=
 ⟨s'.bg,r.fv,⟨rfl,rfl,rfl,hs,hl,hf,k.tg,rfl⟩,λrs e x' c' ty us=>⟨rs,⟨rfl,rfl,rfl,by rw[e];have:=af9 s'.bg l;omega⟩,by rw[e];exact hX⟩⟩
theorem XA {k:LK} {s:Sd.aa} (h:s.c.p.queue=k.most):N3 k s:=⟨rfl,rfl,rfl,rfl,rfl,h⟩
theorem ls8 (g:Nat->Int):∀j,j<8->dm [g 0,g 1,g 2,g 3,g 4,g 5,g 6,g 7] j=g j:=by
 intro j hj;rcases(by omega:j=0\/j=1\/j=2\/j=3\/j=4\/j=5\/j=6\/j=7)with rfl|rfl|rfl|rfl|rfl|rfl|rfl|rfl<;>rfl
theorem ax0 (g:Nat->Int):∀j,j<32->dm [g 0,g 1,g 2,g 3,g 4,g 5,g 6,g 7,g 8,g 9,g 10,g 11,g 12,g 13,g 14,g 15,g 16,g 17,g 18,g 19,g 20,g 21,g 22,g 23,g 24,g 25,g 26,g 27,g 28,g 29,g 30,g 31] j=g j:=by
 intro j hj;have e:[g 0,g 1,g 2,g 3,g 4,g 5,g 6,g 7,g 8,g 9,g 10,g 11,g 12,g 13,g 14,g 15,g 16,g 17,g 18,g 19,g 20,g 21,g 22,g 23,g 24,g 25,g 26,g 27,g 28,g 29,g 30,g 31]=(bw 32).map g:=rfl;rw[e];exact zA hj
section
variable{k:LK} {s:Sd.aa} {F:aX bN (aU k s)} {u:ag} {fB:List aj} {kf:Nat->Int} {l r:Int} {m:Sd.a9} {K:VK (LG bN)} {wr:Bool} {n c:Nat} {f:Sd.ao} {us:List ae}
theorem ax1 (hC:eQ k s) (v1:da=F.vs) (v2:da=F.vr) (hN:oG k) (hq:s.c.p.queue=k.most) (hl:1<=l/\l<=3) (hm:kW m)
 (hK:∀s',s'=fF (aq ay) s l 0 (dr m+8) (gY kf l (dr m) (nM m))->∀(r:TR) (fn:List aj) (F0:aX bN (aU k (cd s'))),da=F0.vs->da=F0.vr->lx bN s'.bg r.fv fn->K (.av [r.v s' 4,.agg (iF (Sd.jr (Sd.dT s'.bg l)))]) (c9 k (cd s')++[r.sB s',r.rB s']) [.a_ u,.core (bj k (cd s') F0) (fn++fB)]):
 syX (aq ay) k s F u fB kf l m K:=by
 have hn:=axY hm;refine⟨hm,λd us=>⟨kf,⟨rfl,by omega,by omega,rfl,ax0 kf,k.tg,rfl⟩,λd=>⟨XA hq,⟨rfl,rfl,rfl⟩,hN,⟨by rw[ph];exact hC,v1,v2,by omega,axV (axT hm)⟩,?_⟩⟩⟩;rw[ph];intro s' hs r fn F0 w1 w2 hf;have hI:=Pa hC l 0 (dr m+8) (gY kf l (dr m) (nM m));rw[<-hs]at hI;exact Xz (hf.app fB) hI.1 (by have:=hI.2;omega) (hK s' hs r fn F0 w1 w2 hf)
theorem ax2 (hC:eQ k s) (v1:da=F.vs) (v2:da=F.vr) (hN:oG k) (hq:s.c.p.queue=k.most) (hl:1<=l/\l<=3) (hr:0<=r/\r<=3) (hc:n<=c) (hn:1<=n/\n<=64) (Ay:(Sd.jr (Sd.dT (fF (aq ay) s l 0 2 (f2 1 r)).bg l)).kind=129)
 (hK:∀s' key rep,(s',key,rep)=sS (aq ay) s l r n f->∀(F':aX bN (aU k s')) (jN:List aj),da=F'.vs->da=F'.vr->K (.av [.agg (ints 32 key),.agg (iF rep)]) (c9 k s'++[uk wr n f us]) [.a_ u,.core (bj k s' F') jN]):Xx (aq ay) k s F u fB wr n f us c l r K:=by
 unfold Xx;dsimp only;rw[ph,axZ hr];refine⟨XA hq,⟨rfl,rfl,rfl⟩,hN,⟨by rw[ph];exact hC,v1,v2,by decide,axW hr⟩,?_⟩;intro s1 iT r1 O9 F1 w1 w2 wK;have hC1:eQ k (cd s1):=by rw[iT];exact hC.item _ _ _ _
 have GI:s1.c.p=s.c.p:=by rw[iT];exact O_ hC _ _ _ _
 have hI:=Pa hC l 0 2 (f2 1 r);rw[<-iT]at hI;rw[<-iT]at Ay;refine Xz (wK.app fB) hI.1 (by have:=hI.2;omega) (aM (λe=>?_) (λe=>?_))
 ·rw[Ay]at e;cases e
 ·have e1:(Sd.jr (Sd.dT s1.bg l)).kind=129:=by simpa using e
  have sp:Xw k n c l r (Sd.jr (Sd.dT s1.bg l)) (Sd.jr (Sd.dT s1.bg l)).aA:=⟨⟨rfl,hc,hn⟩,by omega,by omega,rfl,ls8 _,k.tg,rfl⟩;refine⟨_,sp,λd=>⟨XA (by show s1.c.p.queue=k.most;rw[GI];exact hq),⟨rfl,rfl,rfl⟩,hN,⟨by rw[ph];exact hC1,w1,w2,by decide,axX hr (agk _ _ _ _)⟩,?_⟩⟩;rw[ph];intro s2 qc r2 nQ F2 z1 z2 om;have XB:=Pa hC1 l 0 10 (yj r (lh n f l r (Sd.jr (Sd.dT s1.bg l)).aA));rw[<-qc]at XB;refine⟨_,sp,Xz (om.app _) XB.1 (by have:=XB.2;omega) (hK (cd s2) _ _ ?_ F2 _ z1 z2)⟩;unfold sS;dsimp only;rw[<-iT,if_pos e1,<-qc]
end
def XC (C:Sd.aK):ag->LM bN:=λu ar k s F K=>match ar with
 |[.agg kl,.int .i64 l,.agg ml]=>(match zK ml with
  |some m=>∃kf:Nat->Int,(kl=ints 32 kf/\kW m/\(1<=l/\l<=3)/\oG k/\(eQ k s/\da=F.vs/\da=F.vr))/\
   Fv (fr:=bN) (k:=k) (fF C s l 0 (dr m+8) (gY kf l (dr m) (nM m))) λs' r fn F0=>K (.av [r.v s' 0,.agg (iF (Sd.jr (Sd.dT s'.bg l)))]) (cd s') F0 fn [r.sB s',r.rB s']
  |none=>False)
 |_=>False
theorem agm (a b:Nat):Gl gS (cO a b):=by
 intro g i dN;unfold gS at dN;split at dN
 ·obtain rfl:=cG dN;exact⟨by simp,rfl⟩
 ·obtain rfl:=cG dN;exact⟨by simp,rfl⟩
 ·cases dN
theorem ax3:CI (fr:=bN) 18 (XC (aq ay)):=by
 intro u ar k s F Kb a b R ms w0 w h0 hq hM S;unfold XC at hM;split at hM
 ·rename_i kl l ml;split at hM
  ·rename_i m hm;obtain rfl:=Ew hm;obtain⟨kf,⟨rfl,hp,hl,hN,hC,v1,v2⟩,hT⟩:=hM
   let K:VK (LG bN):=λv bl ch=>∃(s':Sd.aa) (F0:aX bN (aU k (cd s'))) (r:TR) (fn:List aj),v=.av [r.v s' 4,.agg (iF (Sd.jr (Sd.dT s'.bg l)))]/\bl=c9 k (cd s')++[r.sB s',r.rB s']/\ch=[.a_ u,.core (bj k (cd s') F0) (fn++[])]/\Kb (.av [r.v s' 0,.agg (iF (Sd.jr (Sd.dT s'.bg l)))]) (cd s') F0 fn [r.sB s',r.rB s']
   have cS:br (qY prog gS (O6 (aq ay)) vK yi λ_ _=>none) 60 18 [.ptr 2 0,.agg (ints 32 kf),.int .i64 l,.agg (cQ m)] (c9 k s) [.a_ u,.core (bj k s F) []] (bA 4 K):=by
    rw[axN];exact ax1 hC v1 v2 hN hq hl hp λs' e r fn F0 z1 z2 hf=>⟨s',F0,r,fn,rfl,rfl,rfl,hT s' e r fn F0 z1 z2 hf⟩
   refine(eO agb.T agb.Q 60 (C:=qY prog gS (O6 (aq ay)) vK yi λ_ _=>none) (ids:=cO a b) (bl:=c9 k s) (ch:=[.a_ u,.core (bj k s F) []]) (R:=R) (ms:=ms) (w0:=w0) (w:=w) (agm a b) rfl (by
    refine S.perm ?_;show List.Perm _ (_++(dR u++((F.B++[])++R)));exact ij λf=>by simp only[iI,AR];omega) cS).mono ?_
   rintro v w' ⟨x,more,bl',ch',rfl,h1,S',hK⟩;obtain⟨v2',cJ,bl2,hv,dv,S2,s',F0,r,fn,rfl,rfl,rfl,hKb⟩:=iB (n0:=4) h1 (by simp) S' hK;have Wc:(cO a b++more).take 4=cO a b:=rfl;rw[Wc]at hv dv S2;have eR:aC [LG.a_ u,LG.core (bj k (cd s') F0) (fn++[])] R=dR u++((F0.B++(fn++[]))++R):=rfl;rw[eR]at S2;rw[hv]
   match cJ,dv with
   |[i1,i2],_=>
    refine⟨_,_,F0,fn,_,[i1,i2],rfl,?_,rfl,hKb,?_⟩
    ·simp only[TR.v,Wa,den,aH,ai,cl,cH];rfl
    ·have e2:lits (cO a b++[i1,i2]) (cO a b++[i1,i2]) (c9 k (cd s')++[r.sB s',r.rB s'])=lits (cO a b) (cO a b) (c9 k (cd s'))++lits [i1,i2] [i1,i2] [r.sB s',r.rB s']:=by
      rw[fC _ _ _ _ rfl,fD (ids:=cO a b) (more:=[i1,i2]) (cO a b) (c9 k (cd s')) rfl,Ae (ids':=[i1,i2]) [i1,i2] _ rfl]
     rw[e2]at S2;exact S2.perm (ij λf=>by simp only[iI,AR];omega)
   |[],h=>simp[c9]at h
   |[_],h=>simp[c9]at h
   |_::_::_::_,h=>simp[c9]at h
  ·exact hM.elim
 ·exact hM.elim
def XD (C:Sd.aK):dc (LG bN):=λargs bl ch K=>match args,ch with
 |[.ptr ic 0,.sl ip 0 n c,.int .i64 l,.int .i64 r],.a_ u::.core g fB::rest=>(match Fq bl (.sl ip 0 n c)with
  |some (_,n',f)=>(match bl[ic]?with
   |some ⟨true,⟨105,(0,0)⟩,cc⟩=>(match Ce cc with
    |some x=>(match bl[x.it]?with
     |some ⟨true,⟨157,(0,0)⟩,tc⟩=>(match sw tc with
      |some y=>cond (bM bl.length bl&&(cD 1 ip&&(cD 1 ic&&(cD 1 x.it&&(!(az ic x.it)&&(!(az ic ip)&&!(az x.it ip)))))))
       ((bl[0]?=some (cw g.d.k)/\bl[1]?=some (iQ g.d.k)/\x=mg g.d.k x.it (fG x y g.d g.dx g.sx)/\y.b=x.p.bV/\y.m=x.p.fj/\x.p.queue=g.d.k.most)/\
         (n=n'/\n<=c/\(1<=n/\n<=64))/\oG g.d.k/\(eQ g.d.k (fG x y g.d g.dx g.sx)/\da=g.F.vs/\da=g.F.vr)/\(((1<=l/\l<=3)/\0<=r/\r<=3)/\(Sd.jr (Sd.dT (fF C (fG x y g.d g.dx g.sx) l 0 2 (f2 1 r)).bg l)).kind=129)/\
         ∀(s':Sd.aa) (key:Sd.ao) (rep:Sd.aF),(s',key,rep)=sS C (fG x y g.d g.dx g.sx) l r n f->∀(F':aX bN (aU g.d.k s')) (jN:List aj),da=F'.vs->da=F'.vr->
          K (.av [.agg (ints 32 key),.agg (iF rep)]) (eW bl ic x.it g.d.k s') (.a_ u::.core (bj g.d.k s' F') jN::rest)) False
      |none=>False)
     |_=>False)
    |none=>False)
   |_=>False)
  |none=>False)
 |_,_=>False
theorem ax4 (a b c:Nat):Gl gS (cO a b++[c]):=(agm a b).app [c]
theorem ax5 {ids:List Nat} {bl:List VB} {k:LK} {s:Sd.aa} {F:aX bN (aU k s)} {u:ag} {fB:List aj} {rest:List (LG bN)} {R:List aj} {ms:List Nat} {w0 w:ag} {ic it ip n c:Nat} {wr:Bool} {f:Sd.ao} {rs:List V} {l r:Int} {K:VK (LG bN)}
 (hg:Gl gS ids) (hl:ids.length=bl.length) (S:St ms w0 (lits ids ids bl++aC (.a_ u::.core (bj k s F) fB::rest) R) w) (H:CJ bl ic it k s) (xU:bl[ip]?=some ⟨wr,⟨5,(0,0)⟩,.bS .u8 n f::rs⟩) (qw:bM bl.length bl=true) (q1:1<ip) (q2:1<ic) (q3:1<it) (n4:ic≠it) (n5:ic≠ip) (n6:it≠ip)
 (hC:eQ k s) (v1:da=F.vs) (v2:da=F.vr) (E9:oG k) (hqm:s.c.p.queue=k.most) (OI:1<=l/\l<=3) (XE:0<=r/\r<=3) (JJ:n<=c) (hn:1<=n/\n<=64) (Ay:(Sd.jr (Sd.dT (fF (aq ay) s l 0 2 (f2 1 r)).bg l)).kind=129)
 (hK:∀s' key rep,(s',key,rep)=sS (aq ay) s l r n f->∀(F':aX bN (aU k s')) (jN:List aj),da=F'.vs->da=F'.vr->K (.av [.agg (ints 32 key),.agg (iF rep)]) (eW bl ic it k s') (.a_ u::.core (bj k s' F') jN::rest)):
 aV prog 13 (aH ids [.ptr ic 0,.sl ip 0 n c,.int .i64 l,.int .i64 r]).toArray w λv w'=>∃x more bl' ch',v=den (ids++more) x/\(ids++more).length=bl'.length/\St ms w0 (lits (ids++more) (ids++more) bl'++aC ch' R) w'/\K x bl' ch':=by
 have l1:=iZ xU;have l2:=iZ H.hc;have l3:=iZ H.ht;obtain⟨r',hr,hp⟩:=zW (bl:=bl) (ids:=ids) hl (is:=[0,1,ic,it,ip]) (by simp;omega) (by
  intro i hi;simp only[cn,pN,or_false]at hi;rcases hi with rfl|rfl|rfl|rfl|rfl<;>omega)
 have emp:∀(bl':List VB),[0,1,ic,it,ip].map (λj=>aD ids (ids.getD j 0) (bl'.getD j dk))=([0,1,ic,it].map λj=>aD ids (ids.getD j 0) (bl'.getD j dk))++[aD ids (ids.getD ip 0) (bl'.getD ip dk)]:=λ_=>rfl;generalize hI:cO (ids.getD ic 0) (ids.getD it 0)=I at*;have JQ:I.length=4:=by rw[<-hI];rfl
 have I2:aD ids (ids.getD ip 0) ⟨wr,⟨5,(0,0)⟩,.bS .u8 n f::rs⟩=aD [] (ids.getD ip 0) (uk wr n f (ai ids rs)):=by
  unfold aD uk;simp only[ai,cl,cH]
 have gE:=hp bl rfl;rw[emp,E7 H hg,iY xU,hI]at gE;have agn:∀s':Sd.aa,lits (I++[ids.getD ip 0]) (I++[ids.getD ip 0]) (c9 k s'++[uk wr n f (ai ids rs)])=lits I I (c9 k s')++[aD [] (ids.getD ip 0) (uk wr n f (ai ids rs))]:=λs'=>by
  rw[fC _ _ _ _ (by rw[JQ];rfl),fD (ids:=I) (more:=[ids.getD ip 0]) _ (c9 k s') (by rw[JQ];rfl),Ae (ids':=[]) [ids.getD ip 0] [uk wr n f (ai ids rs)] rfl];rfl
 have S1:St ms w0 (lits (I++[ids.getD ip 0]) (I++[ids.getD ip 0]) (c9 k s++[uk wr n f (ai ids rs)])++aC [LG.a_ u,LG.core (bj k s F) fB] ((r'.map λj=>aD ids (ids.getD j 0) (bl.getD j dk))++aC rest R)) w:=S.perm (by
  refine(gE.append_right _).trans ?_;rw[agn,<-I2];show(_++(dR u++((F.B++fB)++aC rest R))).Perm (_++(dR u++((F.B++fB)++((r'.map λj=>aD ids (ids.getD j 0) (bl.getD j dk))++aC rest R))));exact ij λf=>by simp only[iI];omega)
 have cS:br (qY prog gS (O8 (aq ay)) vK yi λ_ _=>none) 60 13 [.ptr 2 0,.sl 4 0 n c,.int .i64 l,.int .i64 r] (c9 k s++[uk wr n f (ai ids rs)]) [.a_ u,.core (bj k s F) fB] (bA 5 λv b c=>∃(s':Sd.aa) (key:Sd.ao) (rep:Sd.aF) (F':aX bN (aU k s')) (jN:List aj),(s',key,rep)=sS (aq ay) s l r n f/\da=F'.vs/\da=F'.vr/\v=.av [.agg (ints 32 key),.agg (iF rep)]/\b=c9 k s'++[uk wr n f (ai ids rs)]/\c=[.a_ u,.core (bj k s' F') jN]):=by
  rw[axO];exact ax2 hC v1 v2 E9 hqm OI XE JJ hn Ay λs' key rep e F' jN z1 z2=>⟨s',key,rep,F',jN,e,z1,z2,rfl,rfl,rfl⟩
 have cV:aH ids [.ptr ic 0,.sl ip 0 n c,.int .i64 l,.int .i64 r]=aH (I++[ids.getD ip 0]) [.ptr 2 0,.sl 4 0 n c,.int .i64 l,.int .i64 r]:=by rw[<-hI];rfl
 rw[cV];refine(eO agc.T agc.Q 60 (C:=qY prog gS (O8 (aq ay)) vK yi λ_ _=>none) (by rw[<-hI];exact ax4 _ _ _) (by rw[ft,JQ];rfl) S1 cS).mono ?_;rintro v w' ⟨xv,more,bl',ch',rfl,h1,S',tL⟩;obtain⟨v2',cJ,bl2,hv,dv,S2,s',key,rep,F',jN,ax6,z1,z2,rfl,rfl,rfl⟩:=iB (n0:=5) h1 (by rw[ft,ft,JQ];simp) S' tL;have ht5:(I++[ids.getD ip 0]++more).take 5=I++[ids.getD ip 0]:=by rw[<-hI];rfl
 rw[ht5]at hv dv S2;have hm2:cJ=[]:=by
  have:(I++[ids.getD ip 0]++cJ).length=5:=dv;rw[ft,ft,JQ]at this;simp at this;exact this
 subst hm2;rw[cH,agn]at S2;refine⟨.av [.agg (ints 32 key),.agg (iF rep)],[],eW bl ic it k s',.a_ u::.core (bj k s' F') jN::rest,?_,?_,?_,hK s' key rep ax6 F' jN z1 z2⟩
 ·rw[hv];simp only[den,aH,cH,zq];rfl
 ·simp[eW,hl]
 ·have H':=V6 H q2 q3 n4 s';have oD:=hp (eW bl ic it k s') (by simp[eW]);have DS:(eW bl ic it k s').getD ip dk=⟨wr,⟨5,(0,0)⟩,.bS .u8 n f::rs⟩:=by
   have:(eW bl ic it k s')[ip]?=some ⟨wr,⟨5,(0,0)⟩,.bS .u8 n f::rs⟩:=by
    unfold eW;rw[kO n6,kO n5];exact xU
   exact iY this
  rw[emp,E7 H' hg,DS,hI]at oD;have Cf:(r'.map λj=>aD ids (ids.getD j 0) ((eW bl ic it k s').getD j dk))=r'.map λj=>aD ids (ids.getD j 0) (bl.getD j dk):=by
   unfold eW;refine V7 ?_;intro j hj;have:=hr j hj;simp only[cn,pN,or_false,not_or]at this;omega
  rw[Cf]at oD;rw[cH];rw[<-I2]at S2;refine S2.perm ?_;show List.Perm ((_++_)++(dR u++((F'.B++jN)++((r'.map λj=>aD ids (ids.getD j 0) (bl.getD j dk))++aC rest R)))) (lits ids ids (eW bl ic it k s')++(dR u++((F'.B++jN)++aC rest R)));refine Dg ?_ (oD.symm.append_right _);exact ij λf=>by simp only[iI];omega
theorem ax7:Sound prog gS 13 (XD (aq ay)):=by
 intro args ids bl ch R ms w0 w K hg hl S hc;unfold XD at hc;split at hc
 ·rename_i ic ip n c l r u g fB rest;split at hc
  ·rename_i nc n' f iK;split at hc
   ·rename_i cc rM;split at hc
    ·rename_i x hx;split at hc
     ·rename_i tc vj;split at hc
      ·rename_i y hy;cases hq:bM bl.length bl&&(cD 1 ip&&(cD 1 ic&&(cD 1 x.it&&(!(az ic x.it)&&(!(az ic ip)&&!(az x.it ip))))))with
       |false=>rw[hq]at hc;exact hc.elim
       |true=>
        rw[hq]at hc;simp only[bu,my,iG]at hq;obtain⟨qw,q1,q2,q3,q4,q5,q6⟩:=hq;have nb:∀{a b:Nat},az a b=false->a≠b:=λh e=>by rw[e,sY]at h;cases h
        obtain⟨⟨e3,e4,e5,e6,e7,e8⟩,⟨rfl,JJ,hn⟩,E9,⟨hC,v1,v2⟩,⟨⟨OI,XE⟩,Ay⟩,hK⟩:=hc;obtain rfl:=Ia hx;obtain rfl:=xC hy;have H:CJ bl ic x.it g.d.k (fG x y g.d g.dx g.sx):=by
         refine⟨e3,e4,?_,?_⟩
         ·rw[rM];congr 1;unfold g_;rw[<-e5]
         ·rw[vj];congr 1;unfold gM;have:y=vi (fG x y g.d g.dx g.sx):=by
           obtain⟨y1,y2,y3,y4,y5,y6,y7,y8⟩:=y;simp only at e6 e7;subst e6 e7;rfl
          rw[<-this]
        obtain⟨wr,rs,xU⟩:∃wr rs,bl[ip]?=some ⟨wr,⟨5,(0,0)⟩,.bS .u8 n f::rs⟩:=by
         unfold Fq at iK;split at iK
         ·rename_i i n1 c1 hsl;cases hsl;split at iK
          ·rename_i wr n2 f2 r hb;cases iK;exact⟨wr,r,hb⟩
          ·cases iK
         ·cases iK
        exact ax5 (k:=g.d.k) (s:=fG x y g.d g.dx g.sx) (F:=g.F) hg hl S H xU qw q1 q2 q3 (nb q4) (nb q5) (nb q6) hC v1 v2 E9 e8 OI XE JJ hn Ay hK
      ·exact hc.elim
     ·exact hc.elim
    ·exact hc.elim
   ·exact hc.elim
  ·exact hc.elim
 ·exact hc.elim
variable{fr:Sd.aF->Nat×Sd.ao}
def na (p:Nat->Int) (i:Nat):Int:=
 bif bG i 13 then(bif az i 9 then 1 else bif az i 13 then 0 else bif bG 10 i then 14 else p i)
 else bif bG i 33 then 15 else bif bG i 38 then 31
 else bif az i 42||(az i 44||az i 45)then 900 else bif az i 48||az i 49 then 3 else bif az i 55 then(p 55).tmod 60000 else p i
def ago (x:gk) (u:ag) (K:VK (LG fr)):Prop:=(jL x u 0/\jL x u 1/\jL x u 2/\jL x u 3)/\∀(p:Nat->Int) (n d:Nat->Nat),Made x p n->
 K (.agg (I9 (na p) n d)) [dF (n 0) (d 0) (jK (x.kn 0) (fb u (x.ka 0))),dF (n 1) (d 1) (jK (x.kn 1) (fb u (x.ka 1))),dF (n 2) (d 2) (jK (x.kn 2) (fb u (x.ka 2))),dF (n 3) (d 3) (jK (x.kn 3) (fb u (x.ka 3)))] [.a_ u]
def XF (fr:Sd.aF->Nat×Sd.ao):List (bR (LG fr)):=[⟨10,false,N7⟩]
theorem agp:aI prog de (XF fr):=aI.cons ⟨aex,λe=>by cases e⟩ aI.nil
theorem ax8 (x:gk) (f:Nat->Nat×Sd.ao) (u:ag) (K:VK (LG fr)):br (bZ prog de (XF fr)) 60 17 [.agg [.dz ⟨x.q,f⟩ x.ka x.kn x.kc]] [] [.a_ u] (bA 0 K)=ago x u K:=by kernel_rfl
def XG:dc (LG fr):=λargs bl ch K=>match args,ch with
 |[.agg l],.a_ u::rest=>(match N5 l with
  |some x=>cond (bM bl.length bl) (ago x u λv b c=>K (hU bl.length v) (bl++xR bl.length b) (c++rest)) False
  |none=>False)
 |_,_=>False
theorem ax9 {gl:Nat->Option Nat}:Sound prog gl 17 (XG (fr:=fr)):=by
 intro args ids bl ch R ms w0 w K hg hl S hc;unfold XG at hc;split at hc
 ·rename_i l u rest;split at hc
  ·rename_i x hx;cases hq:bM bl.length bl with
   |false=>rw[hq]at hc;exact hc.elim
   |true=>
    rw[hq]at hc;refine aep (C:=bZ prog de (XF fr)) (n:=60) (args':=[.agg [.dz ⟨x.q,λ_=>(0,λ_=>0)⟩ x.ka x.kn x.kc]]) (ch0:=[.a_ u]) (rest:=rest) agp.T agp.Q rfl hl hq ?_ S (by rw[ax8];exact hc);simp only[aH,den,aet hx (λ_=>(0,λ_=>0)) ids,ai,cl,cH]
  ·exact hc.elim
 ·exact hc.elim
theorem ax_:Sound prog gS 14 (Jo (fr:=bN)):=by
 intro args ids bl ch R ms w0 w K hg hl S hc;have key:Ad (λ_=>NZ) args bl ch λv b c=>∃ex,b=bl++ex/\(∀Y,aC c Y=aC ch Y)/\K v (bl++ex) ch:=by
  unfold Jo at hc;unfold Ad;split at hc
  ·rename_i ic u g fB rest;split at hc
   ·rename_i cc rM;try simp only[rM]
    split at hc
    ·rename_i x hx;try simp only[hx]
     split at hc
     ·rename_i tc vj;try simp only[vj]
      split at hc
      ·rename_i y hy;try simp only[hy]
       cases hq:bM bl.length bl&&(cD 1 ic&&(cD 1 x.it&&!(az ic x.it)))with
       |false=>rw[hq]at hc;exact hc.elim
       |true=>
        rw[hq]at hc;obtain⟨⟨e3,e4,e5,e6,e7,e8⟩,hK⟩:=hc;simp only[bo,Bool.true_and,cond_true];refine⟨⟨e3,e4,e5,e6,e7,e8⟩,λz c ty us=>?_⟩;have mM:bl[ic]?=some (g_ g.d.k x.it (fG x y g.d g.dx g.sx)):=by
         rw[rM,Ia hx];congr 1;unfold g_;rw[<-e5]
        have jD:bl[x.it]?=some (gM (fG x y g.d g.dx g.sx)):=by
         rw[vj,xC hy];congr 1;unfold gM;have:y=vi (fG x y g.d g.dx g.sx):=by
          obtain⟨y1,y2,y3,y4,y5,y6,y7,y8⟩:=y;simp only at e6 e7;subst e6 e7;rfl
         rw[<-this]
        have hs:eW bl ic x.it g.d.k (fG x y g.d g.dx g.sx)=bl:=by
         unfold eW;rw[ae5 mM,ae5 jD]
        exact⟨_,congrArg (·++_) hs,λY=>rfl,hK z c ty us⟩
      ·exact hc.elim
     ·exact hc.elim
    ·exact hc.elim
   ·exact hc.elim
  ·exact hc.elim
 refine(aed (ael Ju) args ids bl ch R ms w0 w _ hg hl S key).mono ?_;rintro v w' ⟨x,more,bl',ch',hv,h1,S',ex,rfl,hn,hK⟩;exact⟨x,more,_,ch,hv,h1,by rw[hn]at S';exact S',hK⟩
def LBs (C:Sd.aK):List (bR (LG bN)):=[⟨9,false,WB⟩,⟨17,false,XG⟩,⟨11,false,Oh⟩,⟨13,false,XD C⟩,⟨18,false,Ad (XC C)⟩,⟨14,true,Jo⟩,⟨19,true,C4⟩]
theorem aya:aI prog gS (LBs (aq ay)):=
 have n:∀{c:dc (LG bN)},(false=true->ia c):=λe=>by cases e
 aI.cons ⟨auU Ju,n⟩ (aI.cons ⟨ax9,n⟩ (aI.cons ⟨aeF,n⟩ (aI.cons ⟨ax7,n⟩ (aI.cons (V_ ax3) (aI.cons ⟨ax_,λ_=>auV⟩ (aI.cons ⟨Xo,λ_=>Xs⟩ aI.nil))))))
section
variable(C:Sd.aK) (tg tc:aJ) (it:Nat)
def XH (u:ag) (x:gk) (L:List V) (m:Nat->Nat) (X:(p2:Sd.aO)->(k:LK)->aX bN (aU k (gQ p2))->Prop):Prop:=Jb L (n4 m)/\∀(p2:Sd.aO) (k:LK) (F:aX bN (aU k (gQ p2))),Jc L (vE x u) tg tc p2 k->da=F.vs->da=F.vr->X p2 k F
variable(k:LK) (s:Sd.aa) (F:aX bN (aU k s))
def Pb:Prop:=eQ k (bP s)/\da=F.vs/\da=F.vr
def yk (n c:Nat) (f:Sd.ao) (l r:Int) (X:(s':Sd.aa)->Sd.ao->Sd.aF->aX bN (aU k s')->List aj->Prop):Prop:=
 vF tg tc it k s/\(n=n/\n<=c/\(1<=n/\n<=64))/\oG k/\Pb k s F/\(((1<=l/\l<=3)/\0<=r/\r<=3)/\(Sd.jr (Sd.dT (fF C (bP s) l 0 2 (f2 1 r)).bg l)).kind=129)/\∀s' key rep,(s',key,rep)=sS C (bP s) l r n f->∀(F':aX bN (aU k s')) (jN:List aj),da=F'.vs->da=F'.vr->X s' key rep F' jN
def vL (key:Sd.ao) (l:Int) (m:Sd.a9) (X:(s':Sd.aa)->TR->List aj->aX bN (aU k (cd s'))->Prop):Prop:=
 vF tg tc it k s/\∃kf:Nat->Int,(ints 32 key=ints 32 kf/\kW m/\(1<=l/\l<=3)/\oG k/\Pb k s F)/\Fv (fr:=bN) (k:=k) (fF C (bP s) l 0 (dr m+8) (gY kf l (dr m) (nM m))) X
def Pc (X:Prop):Prop:=vF tg tc it k s/\∀(z:Option aQ) (c ty:Nat) (us:List ae),X
def Pd (s':Sd.aa) (r:TR) (fB:List aj) (l:Int) (X:List Sd.aF->Prop):Prop:=∃(s0:List (Int×Sd.aF)) (fv:Nat->ue),(s'.bg.length=s0.length/\s'.bg.length=s0.length/\mX s'.bg r.fv=mX s0 fv/\(∀y∈s0,Sd.ow y)/\s0.length<=1000/\lx bN s0 fv fB/\∃O4,some (j5 tg)=some (j5 O4))/\
 ∀(rs:List Sd.aF),rs=Sd.dT s0 l->∀(x':Option aQ) (c' ty:Nat) (us:List ae),X rs
end
def agq (a b:Sd.aF):Bool:=a.aA 0==b.aA 0&&(a.aA 1==b.aA 1&&(a.aA 2==b.aA 2&&(a.aA 3==b.aA 3&&(a.aA 4==b.aA 4&&(a.aA 5==b.aA 5&&(a.aA 6==b.aA 6&&(a.aA 7==b.aA 7&&true)))))))
def C5 (a b:Sd.aF):Bool:=a.kind==b.kind&&(a.seq==b.seq&&(a.role==b.role&&(a.cX==b.cX&&(a.ah==b.ah&&(a.code==b.code&&(agq a b&&true))))))
theorem agr (a:Sd.aF):C5 a a=true:=by simp[C5,agq]
def XI {G:Type} (g:Nat->Nat):(bh->V)->Op->List VB->List G->VK G->Prop:=λe op bl ch K=>match op with
 |.binOp .rem t (.tmp i) (.const (.int .i64 (.ofNat 3))) t2=>(match e (.tmp i),e (.const (.int .i64 (.ofNat 3)))with
  |.int .i64 n,.int .i64 (.ofNat 3)=>n.tmod 3=db (g i)/\K (.int .i64 (db (g i))) bl ch
  |_,_=>False)
 |_=>False
theorem ayb {G:Type} [Bl G] {P:aL} {gl:Nat->Option Nat} {g:Nat->Nat}:gv (G:=G) P gl (XI g):=by
 intro e op ids bl ch R ms w0 w K ρ o hg hl S ba ho h;unfold XI at h;split at h
 ·rename_i t i t2;split at h
  ·rename_i n hx hy;obtain⟨h0,h⟩:=h;have bQ:(execOp ρ o).run P w=.ok (.value (.int .i64 (n.tmod 3))) w:=by
    have hb:Gn P .rem t (e (.tmp i)) (e (.const (.int .i64 (.ofNat 3))))=some (.int .i64 (n.tmod (.ofNat 3))):=by rw[hx,hy];rfl
    unfold execOp;simp only[ho,ba];rw[bE,Qz hb];rfl
   exact⟨_,[],bl,ch,w,.inl (by rw[bQ,h0];simp[den]),by simpa using hl,by simpa using S,h⟩
  ·exact h.elim
 ·exact h.elim
def JR (g:Nat->Nat):(bh->V)->Op->List VB->List (LG bN)->VK (LG bN)->Prop:=λe op bl ch K=>cond (O1 e op) (Oy prog e op bl ch K) (cond (O2 e op) (XI g e op bl ch K) (OT e op bl ch K))
theorem Pe {gl:Nat->Option Nat} {g:Nat->Nat}:gv prog gl (JR g):=wP O1 ae3 (wP O2 ayb afN)
theorem Az {b:Bool} {X Y:Prop} (h:b=true) (k:X):cond b X Y:=by rw[h];exact k
theorem nR {b:Bool} {X Y:Prop} (h:b=false) (k:Y):cond b X Y:=by rw[h];exact k
section
variable{tg tc:aJ} {it:Nat} {k:LK} {s:Sd.aa} {F:aX bN (aU k s)} {l r:Int}
theorem ayc {n:Nat} {f:Sd.ao} {s':Sd.aa} {key:Sd.ao} {rep:Sd.aF} (h:eQ k s) (e:(s',key,rep)=sS (aq ay) s l r n f):eQ k s'/\s'.c.p=s.c.p:=by
 unfold sS at e;dsimp only at e;have h1:=h.item l 0 2 (f2 1 r);have p1:=O_ h l 0 2 (f2 1 r);split at e
 ·simp only[bC]at e;obtain⟨rfl,_,_⟩:=e;exact⟨h1.item _ _ _ _,(O_ h1 _ _ _ _).trans p1⟩
 ·simp only[bC]at e;obtain⟨rfl,_,_⟩:=e;exact⟨h1,p1⟩
structure lz (tg tc:aJ) (k:LK) (s:Sd.aa) (F:aX bN (aU k s)):Prop where
 tg:k.tg=tg
 tc:k.tc=tc
 q:s.c.p.queue=k.most
 kR:oG k
 c:eQ k s
 v1:da=F.vs
 v2:da=F.vr
theorem lz.co (h:lz tg tc k s F):Pb k s F:=⟨by rw[ph];exact h.c,h.v1,h.v2⟩
theorem lz.cF (h:lz tg tc k s F):vF tg tc it k s:=Jn h.tg h.tc h.q
theorem ayd {n c:Nat} {f:Sd.ao} {X:(s':Sd.aa)->Sd.ao->Sd.aF->aX bN (aU k s')->List aj->Prop} (h:lz tg tc k s F) (hc:n<=c) (hn:1<=n/\n<=64) (hl:1<=l/\l<=3) (hr:0<=r/\r<=3) (Ay:(Sd.jr (Sd.dT (fF (aq ay) s l 0 2 (f2 1 r)).bg l)).kind=129)
 (hX:∀s' key rep,(s',key,rep)=sS (aq ay) s l r n f->∀(F':aX bN (aU k s')) (jN:List aj),lz tg tc k s' F'->X s' key rep F' jN):yk (aq ay) tg tc it k s F n c f l r X:=by
 refine⟨h.cF,⟨rfl,hc,hn⟩,h.kR,h.co,⟨⟨hl,hr⟩,by rw[ph];exact Ay⟩,λs' key rep e F' jN v1 v2=>?_⟩;rw[ph]at e;have hC:=ayc h.c e;exact hX s' key rep e F' jN ⟨h.tg,h.tc,by rw[hC.2];exact h.q,h.kR,hC.1,v1,v2⟩
theorem aye {key:Sd.ao} {m:Sd.a9} {X:(s':Sd.aa)->TR->List aj->aX bN (aU k (cd s'))->Prop} (h:lz tg tc k s F) (hl:1<=l/\l<=3) (hm:kW m)
 (hX:∀s',s'=fF (aq ay) s l 0 (dr m+8) (gY key l (dr m) (nM m))->∀(r:TR) (fn:List aj) (F0:aX bN (aU k (cd s'))),lz tg tc k (cd s') F0->lx bN s'.bg r.fv fn->(∀y∈s'.bg,Sd.ow y)/\s'.bg.length<=10->X s' r fn F0):vL (aq ay) tg tc it k s F key l m X:=by
 refine⟨h.cF,key,⟨rfl,hm,hl,h.kR,h.co⟩,?_⟩;rw[ph];intro s' e r fn F0 v1 v2 hf;refine hX s' e r fn F0 ⟨h.tg,h.tc,?_,h.kR,?_,v1,v2⟩ hf ?_
 ·show s'.c.p.queue=k.most;rw[e,O_ h.c];exact h.q
 ·rw[e];exact h.c.item _ _ _ _
 ·rw[e];exact Pa h.c _ _ _ _
theorem XJ {X:Prop} (h:lz tg tc k s F) (hX:X):Pc tg tc it k s X:=⟨h.cF,λ_ _ _ _=>hX⟩
theorem lx.mem {l:List (Int×Sd.aF)} {fv:Nat->ue} {fn fB:List aj} (h:lx bN l fv fn) (hm:∀y∈fn,y∈fB):lx bN l fv fB:=λj hj=>by
 obtain⟨x,c,b,h1,h2,h3⟩:=h j hj;exact⟨x,c,b,h1,h2,λy hy=>hm y (h3 y hy)⟩
end
structure AQ (p q:Nat->Int):Prop where
 lo:∀i,i<=4->q i=p i
 r9:q 9=1/\q 13=0
 AA:∀i,10<=i/\i<=12->q i=14
 af:∀i,14<=i/\i<=33->q i=15
 gr:∀i,34<=i/\i<=38->q i=31
 mo:∀i,39<=i/\i<=41->q i=p i
 ti:∀i,42<=i->i<=46->1<=q i/\q i<=1000
 be:q 47=p 47
 qs:∀i,48<=i->i<=49->1<=q i/\q i<=3
 li:∀i,50<=i/\i<=54->q i=p i
 ep:0<=q 55/\q 55<=65535
theorem AQ.code {x:gk} {p q:Nat->Int} {m:Nat->Nat} (h:AQ p q) (hM:Made x p m) {kn:Nat->Nat} (hk:∀j,j<4->1<=kn j/\kn j<=64):ma q kn=0/\∀ks,Sd.fk ⟨q,ks⟩:=by
 have g:=λi hi=>hM.I.lo i hi;have md:=λ(i:Nat) (m:Int) (h1:0<m) (h2:m<=1000000)=>CL (x.q i) h1 h2;have oK:oC 14=true:=by decide
 refine aeI ?_ ⟨(h.lo 0 (by decide)).trans (g 0 (by decide)),(h.lo 4 (by decide)).trans (g 4 (by decide)),h.r9.1,h.r9.2,(h.li 50 (by decide)).trans (g 50 (by decide))⟩ hk ⟨by rw[h.AA 10 (by decide)];exact oK,by rw[h.AA 11 (by decide)];exact oK,by rw[h.AA 12 (by decide)];exact oK⟩ (λi h1 h2=>by rw[h.af i ⟨h1,h2⟩];decide) (λi h1 h2=>by rw[h.gr i ⟨h1,h2⟩];decide) ?_ h.ti ?_ h.qs ?_ ?_ h.ep
 ·rw[h.lo 1 (by decide),h.lo 2 (by decide),h.lo 3 (by decide)];exact hM.o.perm
 ·intro i h1 h2;rw[h.mo i ⟨h1,h2⟩,g i (by omega)];have:oH (p 1) (p 2) (p 3) x.q i=dt (x.q i) 5:=by
   have:i=39\/i=40\/i=41:=by omega
   rcases this with rfl|rfl|rfl<;>rfl
  rw[this];have:=md i 5 (by decide) (by decide);omega
 ·rw[h.be,g 47 (by decide)];have:=md 47 1001 (by decide) (by decide);show 0<=dt (x.q 47) 1001/\dt (x.q 47) 1001<=1000;omega
 ·intro i h1 h2;rw[h.li i (by omega),g i (by omega)];have:oH (p 1) (p 2) (p 3) x.q i=dt (x.q i) 1001:=by
   have:i=51\/i=52\/i=53:=by omega
   rcases this with rfl|rfl|rfl<;>rfl
  rw[this];have:=md i 1001 (by decide) (by decide);omega
 ·rw[h.li 54 (by decide),g 54 (by decide)];show 1<=i64.wrap (1+dt (x.q 54) 1000)/\i64.wrap (1+dt (x.q 54) 1000)<=1000;rw[one_mod _ (by decide) (by decide)];have:=md 54 1000 (by decide) (by decide);omega
theorem AQ.at {p q q':Nat->Int} (h:AQ p q) (e:∀i,i<56->iE i=false->q' i=q i):AQ p q' where
 lo i hi:=by rw[e i (by omega) (mZ (by omega))];exact h.lo i hi
 r9:=by rw[e 9 (by decide) rfl,e 13 (by decide) rfl];exact h.r9
 AA i hi:=by rw[e i (by omega) (mZ (by omega))];exact h.AA i hi
 af i hi:=by rw[e i (by omega) (mZ (by omega))];exact h.af i hi
 gr i hi:=by rw[e i (by omega) (mZ (by omega))];exact h.gr i hi
 mo i hi:=by rw[e i (by omega) (mZ (by omega))];exact h.mo i hi
 ti i h1 h2:=by rw[e i (by omega) (mZ (by omega))];exact h.ti i h1 h2
 be:=by rw[e 47 (by decide) rfl];exact h.be
 qs i h1 h2:=by rw[e i (by omega) (mZ (by omega))];exact h.qs i h1 h2
 li i hi:=by rw[e i (by omega) (mZ (by omega))];exact h.li i hi
 ep:=by rw[e 55 (by decide) rfl];exact h.ep
theorem ags {tg tc:aJ} {u:ag} {x:gk} {p q:Nat->Int} {m d:Nat->Nat} {n:Nat} {X:(p2:Sd.aO)->(k:LK)->aX bN (aU k (gQ p2))->Prop} (hM:Made x p m) (h:AQ p q)
 (hX:∀p2 k F,lz tg tc k (gQ p2) F->(∀i,i<56->iE i=false->p2.i i=q i)->(∀j,j<4->p2.k j=(m j,vE x u j))->(∀j,j<4->1<=m j/\m j<=64)->X p2 k F):XH tg tc u x (gw n q m d) m X:=by
 have hb:∀j,j<4->1<=m j/\m j<=64:=λj hj=>by rw[hM.n j];exact aeq _
 have jD:∀j,j<4->1<=iR (gw n q m d) j/\iR (gw n q m d) j<=64:=λj hj=>by rw[Ah _ _ _ _ hj];exact hb j hj
 have h2:=(h.at (q':=λi=>iN (nth (gw n q m d) i)) (λi h1 h2=>Jf n q m d h1 h2)).code hM jD;refine⟨⟨h2.1,λj hj=>?_,λj hj=>⟨(jD j hj).2,?_⟩⟩,λp2 k F hN v1 v2=>?_⟩
 ·rw[Ah _ _ _ _ hj]
  match j,hj with
  |0,_=>rfl
  |1,_=>rfl
  |2,_=>rfl
  |3,_=>rfl
  |j+4,h=>exact absurd h (by omega)
 ·rw[Ah _ _ _ _ hj,aeH _ _ _ _ hj];omega
 ·have hC0:eQ k (gQ p2):=aeJ hN (h2.2 _) jD;have he:=hN.eq;refine hX p2 k F ⟨hN.tg,hN.tc,hN.most.symm,hN.kR,hC0,v1,v2⟩ (λi h1 h2=>?_) (λj hj=>?_) hb
  ·rw[he];exact Jf n q m d h1 h2
  ·rw[he];show(iR (gw n q m d) j,vE x u j)=_;rw[Ah _ _ _ _ hj]
end
end Go.Proofs.YtggfpcggakghnaaGreatDoor
