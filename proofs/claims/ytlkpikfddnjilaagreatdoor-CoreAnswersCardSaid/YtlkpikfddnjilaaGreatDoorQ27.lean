/- CoreAnswers: whichever policy and calls, the law returns true. Every input; no condition. -/
import Derived.Test.YtlkpikfddnjilaaGreatDoorCards
import Derived.Test.YtlkpikfddnjilaaGreatDoorTie
import Derived.Lib.SmallJoins
import Derived.SevenTiedAt
import Derived.LaidMore
import Derived.Stop.Joined
import Derived.Test.YtlkpikfddnjilaaGreatDoorRows
import Derived.ProofKit
import Derived.Test.YtlkpikfddnjilaaGreatDoorQ26
set_option linter.all false
set_option maxRecDepth 100000
set_option maxHeartbeats 4000000
open Go.Proofs.Tryz
open Go.IntKind (u8 u16 u32 u64 i64)
namespace Go.Proofs.YtlkpikfddnjilaaGreatDoor
open Go Go.RowKit Go.BigFrame Sx Vx
def LAn (C:Sd.Crypt):List (dF (LG n8)):=⟨20,true,yy⟩::⟨21,true,trC⟩::ahr n8 C
def tS (k:Int):Bool:=k==129||(k==130||(k==131||k==132))
def jf (l:List (Int×Sd.Reply)):Int:=l.foldl (λa x=>if tS x.2.kind then a+1 else a) 0
structure LaS (os:Nat->sV) (tg tc:TypeId) (u:World) (x:kY) (n:Nat) where
 w:G5 n8 tg tc u x n
 hj:w.j<n
 s:Sd.Scene
 tr:TR
 fn:List ax
 F:cw n8 (bV w.k (ji s))
 hC:ba w.k (ji s)
 hp:s.c.p=w.p2
 v1:cF=F.vs
 v2:cF=F.vr
 hf:LR n8 s.sent tr.fv fn
 hs:∀y∈s.sent,Sd.vA y
 len:s.sent.length<=1000
 a1:∀y∈s.sent,tS y.2.kind=true->(os w.j).kind.tmod 4=0/\y.1=(os w.j).link
 a2:(os w.j).kind.tmod 4=0/\1<=(os w.j).link/\(os w.j).link<=3->(0<s.recs.length/\(s.recs.getD 0 default).kind=1/\jf s.sent=0)\/(((s.recs.getD 0 default).kind≠1\/s.recs=[])/\jf s.sent=1)
 a3:¬((os w.j).kind.tmod 4=0/\1<=(os w.j).link/\(os w.j).link<=3)->jf s.sent=0
 i:Nat
section
variable(C:Sd.Crypt) (tg tc:TypeId) (ty:BT) (u:World) (x:kY) (f:Nat->Nat×Sd.Byt) (o n c:Nat) (a:Option Addr) (os:Nat->sV) (pre post:List Value)
def akg:Lp (LG n8):=JT (X:=G5 n8 tg tc u x (aY 80 n)) (λy=>aY 80 n-y.j) 195 11 [7,9,10] (rjV tg tc u x o n c a) (adx tg tc ty u x f n os pre post) (ady tg tc u x n) (λ_=>rfl) (λ_=>by kernel_rfl) (λ_=>rfl)
abbrev Mj (jv:Int):={z:LaS os tg tc u x (aY 80 n) //(z.w.j:Int)=jv/\z.i<=z.s.sent.length}
def aiV (jv:Int) (z:Mj tg tc u x n os jv):List V:=[.ptr 9 0,.ij 2 o (aY 80 n) c a,.int .i64 z.1.w.j,.ptr 13 0,.int .i64 (jf (z.1.s.sent.take z.1.i)),.int .i64 z.1.i]
def aiB (w:G5 n8 tg tc u x (aY 80 n)) (s:Sd.Scene) (tr:TR):List VB:=lwB tg tc ty u x f n os pre post w.p w.m w.d w.k (ji s)++[tr.sB s,tr.rB s,⟨true,⟨52,(0,0)⟩,tdC tr s 11⟩]
def Yd (jv:Int) (z:Mj tg tc u x n os jv):List VB:=aiB tg tc ty u x f n os pre post z.1.w z.1.s z.1.tr
def Ye (jv:Int) (z:Mj tg tc u x n os jv):List (LG n8):=[.dC u,.core (cx z.1.w.k (ji z.1.s) z.1.F) (z.1.fn++z.1.w.fB)]
def akh (jv:Int):Lp (LG n8):=JT (X:=Mj tg tc u x n os jv) (λz=>z.1.s.sent.length-z.1.i) 195 14 [7,9,10,11,12,13] (aiV tg tc u x o n c a os jv) (Yd tg tc ty u x f n os pre post jv) (Ye tg tc u x n os jv) (λ_=>rfl) (λ_=>by kernel_rfl) (λ_=>rfl)
def ad7:Nat->List V->Option (Lp (LG n8)):=λi w=>bif Nat.beq i 0 then some (akg tg tc ty u x f o n c a os pre post)else bif Nat.beq i 2 then(match nth w 10 with|.int .i64 jv=>some (akh tg tc ty u x f o n c a os pre post jv)|_=>none)else none
section
variable(K:V->Prop)
def SP (y w:G5 n8 tg tc u x (aY 80 n)) (s:Sd.Scene) (F:cw n8 (bV w.k s)) (fB:List ax):Prop:=true=true/\enD (λy=>aY 80 n-y.j) (rjV tg tc u x o n c a) (adx tg tc ty u x f n os pre post) (ady tg tc u x n) y [.ptr 9 0,.ij 2 o (aY 80 n) c a,.int .i64 (i64.wrap ((w.j:Int)+1))] (lwB tg tc ty u x f n os pre post w.p w.m w.d w.k s) [.dC u,.core (cx w.k s F) fB]
def Yf (jv:Int) (z:Mj tg tc u x n os jv) (m:Int):Prop:=true=true/\enD (λz=>z.1.s.sent.length-z.1.i) (aiV tg tc u x o n c a os jv) (Yd tg tc ty u x f n os pre post jv) (Ye tg tc u x n os jv) z [.ptr 9 0,.ij 2 o (aY 80 n) c a,.int .i64 z.1.w.j,.ptr 13 0,.int .i64 m,.int .i64 (i64.wrap ((z.1.i:Int)+1))] (Yd tg tc ty u x f n os pre post jv z) (Ye tg tc u x n os jv z)
def SQ (jv:Int) (z:Mj tg tc u x n os jv) (lk:Int) (m:Int):Prop:=
 let j:=(z.1.w.j:Int).toNat
 D5 z.1.w.j (aY 80 n)/\Zy o n os pre z.1.w.j/\cond ((os j).kind.tmod 4!=0) (K (.bool false)) (D5 z.1.w.j (aY 80 n)/\Zy o n os pre z.1.w.j/\cond (lk !=(os j).link) (K (.bool false)) (Yf tg tc ty u x f o n c a os pre post jv z m))
def SR (jv:Int) (z:Mj tg tc u x n os jv) (r:Sd.Reply) (lk:Int) (n1 n2:Nat):Prop:=
 let m:=jf (z.1.s.sent.take z.1.i)
 let m1:=i64.wrap (m+1)
 let Y:=SQ tg tc ty u x f o n c a os pre post K jv z lk
 let N:=Yf tg tc ty u x f o n c a os pre post jv z
 cond (decide (lk<1)) (K (.bool false)) (cond (decide (lk>3)) (K (.bool false)) (cond (((n1+5:Nat):Int)!=(n2:Int)) (K (.bool false))
  (cond (r.kind==129) (Y m1) (cond (r.kind==130) (Y m1) (cond (r.kind==131) (Y m1) (cond (r.kind==132) (cond (r.kind==132) (Y m1) (N m1)) (cond (r.kind==132) (Y m) (N m))))))))
def Hk (y:G5 n8 tg tc u x (aY 80 n)) (z:Mj tg tc u x n os (y.j:Int)):Prop:=
 let e:=z.1.s.sent.getD (z.1.i:Int).toNat default
 let v:=z.1.tr.fv (z.1.i:Int).toNat
 D5 z.1.i z.1.s.sent.length/\((z.1.i:Int).toNat<z.1.s.sent.length/\∀j,(xF z.1.s.sent z.1.tr.fv j).length=2)/\∃(r:Sd.Reply) (b:List ax),(v.n=ff r+5/\dG 5 v.n (o9 (ff r) (xH r)) v.x v.c b/\∀y∈b,y∈z.1.fn++z.1.w.fB)/\∀d:Nat,
  ∃r2:Sd.Reply,(RB r2/\ff r=ff r2/\ff r=ff r2/\xH r=xH r2/\ff r+d=ff r2+d/\l0=l0)/\SR tg tc ty u x f o n c a os pre post K (y.j:Int) z r2 e.1 (ff r) v.n
def Hl (y:G5 n8 tg tc u x (aY 80 n)) (z:Mj tg tc u x n os (y.j:Int)):Prop:=
 let j:=(z.1.w.j:Int).toNat
 let m:=jf (z.1.s.sent.take z.1.i)
 let E:=SP tg tc ty u x f o n c a os pre post y z.1.w (ji z.1.s) z.1.F (z.1.fn++z.1.w.fB)
 let Z:=cond (m !=0) (K (.bool false)) E
 let lk:=decide ((os j).link<=3)
 let rj:=(z.1.s.recs.getD (0:Int).toNat default).kind==1
 let W (rj:Prop) (T:Prop):=D5 z.1.w.j (aY 80 n)/\Zy o n os pre z.1.w.j/\cond ((os j).kind.tmod 4==0) (D5 z.1.w.j (aY 80 n)/\Zy o n os pre z.1.w.j/\cond (decide ((os j).link>=1)) (D5 z.1.w.j (aY 80 n)/\Zy o n os pre z.1.w.j/\T) rj) rj
 cond (decide ((z.1.s.recs.length:Int)>0)) ((0<=(0:Int)/\(0:Int)<(z.1.s.recs.length:Int))/\aj9 z.1.s.recs 0/\W Z (cond lk (cond (!rj) (cond (m !=1) (K (.bool false)) (cond (!lk) Z (cond rj Z E))) (cond (!lk) Z (cond rj Z E))) (cond (!lk) Z (cond rj Z E))))
  (W Z (cond lk (cond (m !=1) (K (.bool false)) (cond (!lk) Z E)) (cond (!lk) Z E)))
def ad8 (y:G5 n8 tg tc u x (aY 80 n)):Prop:=
 let N:=aY 80 n
 let j:=(y.j:Int).toNat
 D5 y.j N/\Zy o n os pre y.j/\R6 tg tc 10 y.k y.s/\(CoA y.k y.s y.F/\wO y.k/\eA u (os j).x (os j).n (os j).c (de u (os j).x))/\aj2 (fr:=n8) (k:=y.k) (kX C u (dg y.s) (os j)) λs2 tr fn2 F2=>
  (true=true/\EU (aiV tg tc u x o n c a os (y.j:Int)) (Yd tg tc ty u x f n os pre post (y.j:Int)) (Ye tg tc u x n os (y.j:Int)) [.ptr 9 0,.ij 2 o (aY 80 n) c a,.int .i64 y.j,.ptr 13 0,.int .i64 0,.int .i64 0] (aiB tg tc ty u x f n os pre post y s2 tr) [.dC u,.core (cx y.k (ji s2) F2) (fn2++y.fB)])/\
   ∀(z:Mj tg tc u x n os (y.j:Int)) (g:Nat->Value),cond (decide ((z.1.i:Int)<(z.1.s.sent.length:Int))) (Hk tg tc ty u x f o n c a os pre post K y z) (Hl tg tc ty u x f o n c a os pre post K y z)
def anX:Prop:=Se (fr:=n8) tg tc u x n c λp m d hM p2 k F hN v1 v2=>
 (true=true/\EU (rjV tg tc u x o n c a) (adx (fr:=n8) tg tc ty u x f n os pre post) (ady tg tc u x n) [.ptr 9 0,.ij 2 o (aY 80 n) c a,.int .i64 0] (lwB tg tc ty u x f n os pre post p m d k (iz p2)) [.dC u,.core (cx k (iz p2) F) []])/\
  ∀(y:G5 n8 tg tc u x (aY 80 n)) (g:Nat->Value),cond (decide ((y.j:Int)<(aY 80 n:Nat))) (ad8 C tg tc ty u x f o n c a os pre post K y) (K (.bool true))
theorem ahT:cI (Hb prog gS (LAn C) (ad7 tg tc ty u x f o n c a os pre post)) 60 7 [.agg [.jN ⟨x.q,f⟩ x.ka x.kn x.kc],.ij 2 o n c a] [iW tg,pF tc,Sb ty n os pre post] [.dC u] (λv _ _=>K v)=anX C tg tc ty u x f o n c a os pre post K:=by kernel_rfl
end
end
end Go.Proofs.YtlkpikfddnjilaaGreatDoor
namespace Sd
def Gr (n:Nat) (s t:Scene):Prop:=t.recs.length<=s.recs.length+n/\t.sent.length<=s.sent.length+n
theorem Gr.trans {n m:Nat} {s t u:Scene} (h:Gr n s t) (k:Gr m t u):Gr (n+m) s u:=⟨by have:=h.1;have:=k.1;omega,by have:=h.2;have:=k.2;omega⟩
theorem Gr.le {n m:Nat} {s t:Scene} (h:Gr n s t) (k:n<=m):Gr m s t:=⟨by have:=h.1;omega,by have:=h.2;omega⟩
theorem Gr.of {n m:Nat} {s s0 t:Scene} (h:Gr n s0 t) (h1:s0.recs=s.recs) (h2:s0.sent=s.sent) (k:n<=m):Gr m s t:=⟨by have:=h.1;rw[h1]at this;omega,by have:=h.2;rw[h2]at this;omega⟩
theorem Gr.fin {n:Nat} {s t t':Scene} (h:Gr n s t) (h1:t'.recs=t.recs) (h2:t'.sent=t.sent):Gr n s t':=⟨by rw[h1];exact h.1,by rw[h2];exact h.2⟩
theorem Gr.c0 {s t:Scene} (h1:t.recs=s.recs) (h2:t.sent=s.sent):Gr 0 s t:=⟨by rw[h1];exact Nat.le_refl _,by rw[h2];exact Nat.le_refl _⟩
section
variable(C:Crypt) (s:Scene)
theorem rH (l:Int) (r:Reply):Gr 1 s (s.tell l r):=⟨by simp[Scene.tell],by simp[Scene.tell]⟩
theorem uA (l:Int) (r:Reply):Gr 1 s (s.hear l r):=by
 unfold Scene.hear;split
 ·exact rH s l r
 ·exact(Gr.c0 rfl rfl).le (by omega)
theorem cK (k a n e h:Int):Gr 1 s (s.record C k a n e h):=⟨by simp[Scene.record],by simp[Scene.record]⟩
theorem gk (l n e:Int):Gr 2 s (s.refuse C l n e):=(rH s _ _).trans (cK C _ _ _ _ _ _)
theorem nK (l e:Int):Gr 1 s (s.cW C l e):=cK C _ _ _ _ _ _
theorem h_ (l n:Int):Gr 1 s (s.done l n):=rH s _ _
theorem rI (l w e:Int):Gr 1 s (s.gone l w e):=uA s _ _
theorem nL (t:Tok) (how n:Int):Gr 3 s (s.goes C t how n):=
 ((Gr.c0 (s:=s) (t:={s with c:={s.c with t:=t,q:=Q.drop s.c.q t.holder}}) rfl rfl).trans (((uA _ _ _).trans (uA _ _ _)).trans (cK C _ _ _ _ _ _))).le (by omega)
theorem Ec (a:Int):Gr 2 s (s.leave C a):=by
 unfold Scene.leave;dsimp only;split
 ·exact(Gr.c0 rfl rfl).le (by omega)
 ·exact(Gr.of ((rI _ _ _ _).trans (cK C _ _ _ _ _ _)) rfl rfl (by omega))
theorem Yg (m:Int) (b:Label):Gr 0 s (s.dt m b):=Gr.c0 rfl rfl
theorem uB {α:Type} {f:Scene->α->Scene} {n:Nat} (h:∀s a,Gr n s (f s a)):∀(l:List α) (s:Scene),Gr (n*l.length) s (l.foldl f s)
 |[],s=>(Gr.c0 rfl rfl).le (by omega)
 |a::l,s=>by
  rw[List.foldl_cons];exact((h s a).trans (uB h l _)).le (by rw[List.length_cons,Nat.mul_add];omega)
theorem SS (l:Int) (n:Nat) (f:Byt):Gr 10 s (s.jt C l n f):=by
 unfold Scene.jt;dsimp only
 repeat' split
 all_goals first
  |exact(nK C s _ _).le (by omega)
  |exact(gk C s _ _ _).le (by omega)
  |exact Gr.of ((rH _ _ _).trans (cK C _ _ _ _ _ _)) rfl rfl (by omega)
theorem SU (l:Int) (n:Nat) (f:Byt):Gr 10 s (s.prove C l n f):=by
 unfold Scene.prove;dsimp only
 repeat' split
 all_goals first
  |exact Gr.of (nK C _ _ _) rfl rfl (by omega)
  |exact Gr.of (gk C _ _ _ _) rfl rfl (by omega)
  |exact Gr.of ((rH _ _ _).trans (cK C _ _ _ _ _ _)) rfl rfl (by omega)
theorem ad9 (l:Int) (m:db):Gr 10 s (s.uO C l m):=by
 unfold Scene.uO;split
 ·exact(h_ s _ _).le (by omega)
 split
 ·exact(Gr.of ((Ec C _ _).trans ((cK C _ _ _ _ _ _).trans (h_ _ _ _))) rfl rfl (by omega))
 split
 ·unfold Scene.ask;dsimp only;split
  ·exact(gk C s _ _ _).le (by omega)
  ·split
   ·exact(Gr.of ((nL C _ _ _ _).trans (h_ _ _ _)) rfl rfl (by omega))
   ·exact(Gr.of ((cK C _ _ _ _ _ _).trans (h_ _ _ _)) rfl rfl (by omega))
 split
 ·unfold Scene.offer;dsimp only;split
  ·exact(gk C s _ _ _).le (by omega)
  ·exact(Gr.of ((uA _ _ _).trans ((cK C _ _ _ _ _ _).trans (h_ _ _ _))) rfl rfl (by omega))
 split
 ·unfold Scene.accept;dsimp only;split
  ·exact(gk C s _ _ _).le (by omega)
  ·exact((nL C _ _ _ _).trans (h_ _ _ _)).le (by omega)
 split
 ·unfold Scene.fb;dsimp only;split
  ·exact(gk C s _ _ _).le (by omega)
  ·exact(Gr.of ((rI _ _ _ _).trans ((cK C _ _ _ _ _ _).trans (h_ _ _ _))) rfl rfl (by omega))
 split
 ·unfold Scene.release;dsimp only;split
  ·exact(gk C s _ _ _).le (by omega)
  ·exact(Gr.of ((nL C _ _ _ _).trans (h_ _ _ _)) rfl rfl (by omega))
 split
 ·unfold Scene.command;dsimp only;split
  ·exact(gk C s _ _ _).le (by omega)
  ·split
   ·exact(Gr.of ((cK C _ _ _ _ _ _).trans (h_ _ _ _)) rfl rfl (by omega))
   ·exact(Gr.of ((cK C _ _ _ _ _ _).trans (h_ _ _ _)) rfl rfl (by omega))
 ·exact(Gr.c0 rfl rfl).le (by omega)
theorem Yh (l code:Int) (n:Nat) (f:Byt):Gr 10 s (s.item C l code n f):=by
 unfold Scene.item;split
 ·exact(nK C s _ _).le (by omega)
 split
 ·exact SS C s _ _ _
 split
 ·exact SU C s _ _ _
 split
 ·exact(nK C s _ _).le (by omega)
 ·exact(Gr.of (ad9 C _ _ _) rfl rfl (by omega))
theorem Mk (x:dq):Gr 10 s (s.cV C x):=by
 unfold Scene.cV;dsimp only
 repeat' split
 all_goals first
  |exact Gr.of (nL C _ _ _ _) rfl rfl (by omega)
  |exact Gr.of (cK C _ _ _ _ _ _) rfl rfl (by omega)
  |exact(Gr.c0 rfl rfl).le (by omega)
end
def Ql (s t:Scene):Prop:=t.c.q.length<=s.c.q.length
theorem Ql.trans {s t u:Scene} (h:Ql s t) (k:Ql t u):Ql s u:=Nat.le_trans k h
theorem Ql.of {s t:Scene} (h:t.c.q=s.c.q):Ql s t:=by unfold Ql;rw[h];exact Nat.le_refl _
theorem Bi (q:List Ask) (a:Int):(Q.drop q a).length<=q.length:=List.length_filter_le _ _
theorem SV (C:Crypt) (s:Scene) (a:Int):Ql s (s.leave C a):=by
 unfold Scene.leave;dsimp only;split
 ·exact Bi _ _
 ·unfold Ql;rw[Scene.record_q,Scene.gone_c];exact Bi _ _
theorem Yi (C:Crypt) (s:Scene) (t:Tok) (how n:Int):Ql s (s.goes C t how n):=by
 unfold Ql Scene.goes;dsimp only;rw[Scene.record_q,Scene.hear_c,Scene.hear_c];exact Bi _ _
theorem Ji {α:Type} {f:Scene->α->Scene} (h:∀s a,Ql s (f s a)):∀(l:List α) (s:Scene),Ql s (l.foldl f s)
 |[],s=>Nat.le_refl _
 |a::l,s=>(h s a).trans (Ji h l _)
theorem Ml (C:Crypt) (s:Scene) (bad:Bool) (hq:s.c.q.length<=3):Gr 10 s (s.fM C bad):=by
 unfold Scene.fM;dsimp only;split
 ·exact(Gr.c0 rfl rfl).le (by omega)
 ·have h2:∀s2:Scene,Gr 3 s s2->Ql s s2->Gr 10 s (s2.c.q.foldl (λ(s:Scene) (a:Ask)=>({s with c:={s.c with q:=Q.drop s.c.q a.source}}:Scene).gone a.source 4 29) s2):=by
   intro s2 g q;refine(g.trans (uB (n:=1) (f:=λ(s:Scene) (a:Ask)=>({s with c:={s.c with q:=Q.drop s.c.q a.source}}:Scene).gone a.source 4 29) (λs a=>Gr.of (rI _ _ _ _) rfl rfl (by omega)) s2.c.q s2)).le ?_;have:s2.c.q.length<=s.c.q.length:=q;omega
  split
  ·refine Gr.fin ?_ rfl rfl;exact h2 _ (Gr.of (nL C _ _ _ _) rfl rfl (by omega)) (Ql.trans (Ql.of (s:=s) rfl) (Yi C _ _ _ _))
  ·refine Gr.fin ?_ rfl rfl;exact h2 _ ((Gr.c0 rfl rfl).le (by omega)) (Ql.of rfl)
theorem Yj (C:Crypt) (s:Scene):Gr 3 s (s.cM C):=by
 unfold Scene.cM;dsimp only
 repeat' split
 all_goals first
  |exact Gr.of ((nL C _ _ _ _).trans (Yg _ _ _)) rfl rfl (by omega)
  |exact(Gr.c0 rfl rfl).le (by omega)
theorem Yk (C:Crypt) (s:Scene) (hq:s.c.q.length<=3) (he:s.c.tab.ended.length<=4):Gr 40 s (s.tick C):=by
 unfold Scene.tick;dsimp only;have g1:=uB (n:=3) (f:=λ(s:Scene) (x:Int)=>if linked x then(s.record C 5 x 0 0 0).leave C x else s.record C 5 x 0 0 0) (λs x=>by
  split
  ·exact(cK C s _ _ _ _ _).trans (Ec C _ _)
  ·exact(cK C s _ _ _ _ _).le (by omega)) s.c.tab.ended {s with c:={s.c with tab:=s.c.tab.tick}}
 have q1:=Ji (f:=λ(s:Scene) (x:Int)=>if linked x then(s.record C 5 x 0 0 0).leave C x else s.record C 5 x 0 0 0) (λs x=>by
  split
  ·exact Ql.trans (Ql.of (Scene.record_q C s _ _ _ _ _)) (SV C _ _)
  ·exact Ql.of (Scene.record_q C s _ _ _ _ _)) s.c.tab.ended {s with c:={s.c with tab:=s.c.tab.tick}}
 generalize List.foldl (λ(s:Scene) (x:Int)=>if linked x then(s.record C 5 x 0 0 0).leave C x else s.record C 5 x 0 0 0) {s with c:={s.c with tab:=s.c.tab.tick}} s.c.tab.ended=s1 at*;have G1:Gr 12 s s1:=(Gr.of g1 rfl rfl (by omega));have Q1:s1.c.q.length<=3:=Nat.le_trans q1 hq;have H:∀s3:Scene,Gr 2 s1 s3->s3.c.q=s1.c.q->Gr 40 s (((Q.gone s3.c.q).foldl (λ(s:Scene) (a:Ask)=>(s.gone a.source a.source 30).record C 12 a.source 0 30 0) {s3 with c:={s3.c with q:=Q.kept s3.c.q}}).cM C):=by
  intro s3 g3 e3;have hl:(Q.gone s3.c.q).length<=3:=by
   rw[e3];refine Nat.le_trans ?_ Q1;unfold Q.gone;refine Nat.le_trans (List.length_filter_le _ _) ?_;unfold Q.oK;rw[List.length_map];exact Nat.le_refl _
  have hf:=uB (n:=2) (f:=λ(s:Scene) (a:Ask)=>(s.gone a.source a.source 30).record C 12 a.source 0 30 0) (λs a=>(rI s _ _ _).trans (cK C _ _ _ _ _ _)) (Q.gone s3.c.q) {s3 with c:={s3.c with q:=Q.kept s3.c.q}};have hf:Gr 6 s3 _:=Gr.of hf rfl rfl (Nat.mul_le_mul_left 2 hl);have:=((G1.trans g3).trans hf).trans (Yj C _);exact⟨Nat.le_trans this.1 (by show s.recs.length+(12+2+6+3)<=_;omega),Nat.le_trans this.2 (by show s.sent.length+(12+2+6+3)<=_;omega)⟩
 refine Gr.fin (H _ ?_ ?_) rfl rfl
 ·split
  ·exact Gr.of ((rI _ _ _ _).trans (cK C _ _ _ _ _ _)) rfl rfl (by omega)
  ·exact(Gr.c0 rfl rfl).le (by omega)
 ·split
  ·rw[Scene.record_q,Scene.gone_c];rfl
  ·rfl
def ahU (l:List Rec):Int:=l.foldl (λa r=>if r.kind=8 then a+1 else a) 0
def ahV (l:List Rec):Int:=l.foldl (λa r=>if r.kind=8 then r.how else a) 0
structure Wn where
 p:Pol
 xh:Int
 xe:Int
 xo:Int
 aki:Bool
 n:Nat
 q:Nat->Int
 yh:Int
 ye:Int
 yo:Int
 akj:Bool
 on:Int->Bool
 l:List Rec
 kind:Int
 link:Int
def akk (w:Wn) (how:Int):Prop:=
 (how=1/\w.kind=0/\w.xo=w.yh/\w.link=w.yh)\/
 (how=2/\w.kind<2/\0<w.n/\w.q 0=w.yh/\(w.kind=1↔w.xh=0))\/
 (how=3/\w.kind=0/\w.link=w.yh/\b9 w.p w.yh w.xh=true/\w.aki=false)\/
 (how=4/\w.kind=1/\w.yh=0)\/
 (how=5/\w.kind=3/\w.on w.xh=false/\w.on w.yh=true)\/
 (how=6/\w.yh=4/\((w.kind=2/\w.akj=true)\/(w.kind=3/\w.xe=65535/\w.on w.xh=false)))
structure akl (w:Wn):Prop where
 hx:0<=w.xh/\w.xh<=4
 hy:0<=w.yh/\w.yh<=4
 ex:0<=w.xe/\w.xe<=65535
 kd:0<=w.kind/\w.kind<=3
 len:w.l.length<=1000
 ald:∀j,j<w.l.length->(w.l.getD j default).kind=8->(w.l.getD j default).source=w.yh/\(w.l.getD j default).epoch=w.ye
 how:(w.yh=w.xh/\w.ye=w.xe/\ahU w.l=0)\/(w.yh≠w.xh/\ahU w.l=1/\w.yo=-1/\((w.ye=w.xe+1)\/(w.xe=65535/\w.ye=w.xe/\ahV w.l=6))/\akk w (ahV w.l))
theorem ou.link {a b:Core} {k l l' how:Int} (h:ou a b k l how) (hk:k≠0):ou a b k l' how:=by
 unfold ou at h⊢;rcases h with h|h|h|h|h|h
 ·exact absurd h.2.1 hk
 ·exact .inr (.inl h)
 ·exact absurd h.2.1 hk
 ·exact .inr (.inr (.inr (.inl h)))
 ·exact .inr (.inr (.inr (.inr (.inl h))))
 ·exact .inr (.inr (.inr (.inr (.inr h))))
theorem lF.link {C:Crypt} {b:Prop} {s s':Scene} {k l l':Int} (h:lF C b s s' k l) (hk:k≠0):lF C b s s' k l':=
 ⟨h.inv,h.Fm.imp id λ⟨how,g,w⟩=>⟨how,g,w.link hk⟩⟩
end Sd
namespace Go.Proofs.YtlkpikfddnjilaaGreatDoor
open Go Go.RowKit Go.BigFrame Sx Vx
theorem SW {k:LK} {s:Sd.Scene} (h:ba k s) (u:World) (o:sV) (hk:0<=o.kind):Sd.lF (aj b_) False s (kX (aj b_) u s o) (o.kind.tmod 4) o.link:=by
 unfold kX;split
 ·rename_i e;rw[e];exact(Sd.pz h.i).link (by decide)
 split
 ·rename_i e;rw[e];exact(Sd.pB h.i).link (by decide)
 split
 ·rename_i e;rw[e];exact(Sd.wF h.i).1.link (by decide)
 ·rename_i e1 e2 e3;have e:o.kind.tmod 4=0:=by
   rw[Int.tmod_eq_emod_of_nonneg hk]at*;omega
  rw[e];unfold gP;split
  ·rename_i hl;exact Sd.vE iy h.i hl (λe=>e.elim)
  ·exact .cg h.i (Sd.Quiet.refl ..)
theorem Yl {k:LK} {s:Sd.Scene} (h:ba k s) (u:World) (o:sV):Sd.Gr 40 s (kX (aj b_) u s o):=by
 have hq:s.c.q.length<=3:=by have:=h.i.q.len;have:=h.i.p.queue;omega
 unfold kX;split
 ·exact(Sd.Mk _ _ _).le (by decide)
 split
 ·exact(Sd.Ml _ _ _ hq).le (by decide)
 split
 ·exact Sd.Yk _ _ hq (IN _).2
 ·unfold gP;split
  ·exact(Sd.Yh _ _ _ _ _ _).le (by decide)
  ·exact(Sd.Gr.c0 rfl rfl).le (by decide)
end Go.Proofs.YtlkpikfddnjilaaGreatDoor
namespace Sd
structure ah2 (C:Crypt) (s s':Scene):Prop where
 head:s'.c.head=s'.recs.foldl C.next s.c.head
 lo:∀r∈s'.recs,s.c.t.epoch<=r.epoch
 hi:∀r∈s'.recs,r.epoch<=s'.c.t.epoch
 up:s'.recs.Pairwise λa b=>a.epoch<=b.epoch
 ep:s.c.t.epoch<=s'.c.t.epoch
def Hm (k:Int):Bool:=k==129||(k==130||(k==131||k==132))
def n9 (l:List (Int×Reply)):Int:=l.foldl (λa x=>if Hm x.2.kind then a+1 else a) 0
theorem nM (l:List (Int×Reply)) (x:Int×Reply):n9 (l++[x])=if Hm x.2.kind then n9 l+1 else n9 l:=by simp[n9,List.foldl_append]
theorem Bj {k:Int} (h:132<k):Hm k=false:=by
 unfold Hm;simp only[Bool.or_eq_false_iff,beq_eq_false_iff_ne];omega
theorem SX {k:Int} (h:129<=k/\k<=132):Hm k=true:=by
 unfold Hm;simp only[Bool.or_eq_true,beq_iff_eq];omega
theorem nN:∀(m l:List (Int×Reply)),(∀x∈m,132<x.2.kind)->n9 (l++m)=n9 l
 |[],l,_=>by simp
 |x::m,l,h=>by
  have h1:=nN m (l++[x]) λy hy=>h y (List.mem_cons_of_mem _ hy);rw[List.append_assoc,List.singleton_append]at h1;rw[h1,nM,Bj (h x List.mem_cons_self)];rfl
theorem w7:∀(m l:List (Int×Reply)),n9 l<=n9 (l++m)
 |[],l=>by simp
 |r::m,l=>by
  have h:=w7 m (l++[r]);rw[List.append_assoc,List.singleton_append]at h;refine Int.le_trans ?_ h;rw[nM];split<;>omega
theorem Mm (l:List (Int×Reply)) (j:Nat):0<=n9 (l.take j)/\n9 (l.take j)<=n9 l:=by
 refine⟨by have:=w7 (l.take j) [];simpa[n9]using this,?_⟩;have:=w7 (l.drop j) (l.take j)
 rwa [List.take_append_drop]at this
inductive na (s':Scene) (l:Int):Prop
 |no (h1:0<s'.recs.length) (h2:(s'.recs.getD 0 default).kind=1) (h3:s'.sent=[])
 |yes (h1:(s'.recs.getD 0 default).kind≠1\/s'.recs=[]) (xs ys:List (Int×Reply)) (r:Reply) (h2:s'.sent=xs++(l,r)::ys) (h3:129<=r.kind/\r.kind<=132) (h4:∀x∈xs++ys,132<x.2.kind)
theorem Ed {s s':Scene} {l:Int} (h:Class s s' l) (hr:s.recs=[]) (hs:s.sent=[]):na s' l:=by
 cases h with
 |rejected e he h1 h2 hc=>exact .no (by rw[h1];simp) (by rw[h1,hr];rfl) (by rw[h2,hs])
 |refused n e he h1 h2 hc=>
  refine .yes (.inl ?_) [] [] {kind:=132,seq:=n,code:=e} (by rw[h2,hs]) ⟨(by decide:(129:Int)<=132),(by decide:(132:Int)<=132)⟩ (by simp);rw[h1,hr];show(7:Int)≠1;decide
 |done r hk rs h1 h2 xs ys h3 h4=>
  rw[hr,List.nil_append]at h1;rw[hs,List.nil_append]at h3;refine .yes ?_ xs ys r h3 ⟨hk.1,by omega⟩ h4;rw[h1];cases rs with
  |nil=>exact .inr rfl
  |cons q t=>exact .inl (h2 q List.mem_cons_self).1
theorem na.cnt {s':Scene} {l:Int} (h:na s' l):(0<s'.recs.length/\(s'.recs.getD 0 default).kind=1/\n9 s'.sent=0)\/(((s'.recs.getD 0 default).kind≠1\/s'.recs=[])/\n9 s'.sent=1):=by
 cases h with
 |no h1 h2 h3=>exact .inl ⟨h1,h2,by rw[h3];rfl⟩
 |yes h1 xs ys r h2 h3 h4=>
  refine .inr ⟨h1,?_⟩;have e1:n9 xs=0:=by have:=nN xs [] λx hx=>h4 x (List.mem_append_left _ hx);simpa[n9]using this
  have e2:=nN ys (xs++[(l,r)]) λx hx=>h4 x (List.mem_append_right _ hx);rw[List.append_assoc,List.singleton_append,<-h2,nM,SX h3,e1]at e2;exact e2
theorem na.link {s':Scene} {l:Int} (h:na s' l) {x:Int×Reply} (hx:x∈s'.sent) (ha:Hm x.2.kind=true):x.1=l:=by
 cases h with
 |no h1 h2 h3=>rw[h3]at hx;cases hx
 |yes h1 xs ys r h2 h3 h4=>
  rw[h2]at hx;have no:∀y,y∈xs++ys->y=x->False:=λy hy e=>by rw[<-e,Bj (h4 y hy)]at ha;cases ha
  rcases List.mem_append.1 hx with hx|hx
  ·exact(no x (List.mem_append_left _ hx) rfl).elim
  ·rcases List.mem_cons.1 hx with rfl|hx
   ·rfl
   ·exact(no x (List.mem_append_right _ hx) rfl).elim
theorem lF.ahW {C:Crypt} {b:Prop} {s s':Scene} {k l:Int} (h:lF C b s s' k l) (hs:s.sent=[]):∀x∈s'.sent,vA x:=by
 rcases h.Fm with q|⟨how,g,w⟩
 ·obtain⟨ts,t1,t2⟩:=q.sent;rw[hs,List.nil_append]at t1;rw[t1];exact t2
 ·obtain⟨ts,t1,t2⟩:=g.sent;rw[hs,List.nil_append]at t1;rw[t1];exact t2
end Sd
namespace Go.Proofs.YtlkpikfddnjilaaGreatDoor
open Go Go.RowKit Go.BigFrame Sx Vx
theorem ahX {r:Sd.Reply} (h:Sd.jC r):RB r:=by
 have b1:=h.kind;refine⟨h.kind,⟨h.seq,?_⟩,⟨h.role,?_⟩,⟨h.iY,?_⟩,⟨h.epoch,?_⟩,⟨h.code,?_⟩,⟨h.ab,?_⟩⟩
 ·by_cases e:r.kind=131\/r.kind=132
  ·exact .inl e
  ·exact .inr (h.ajj (by omega))
 ·by_cases e:r.kind=130
  ·exact .inl e
  ·exact .inr (h.af2 e)
 ·by_cases e:r.kind=130\/r.kind=134\/r.kind=135\/r.kind=136
  ·exact .inl e
  ·exact .inr (h.ajk (by omega))
 ·by_cases e:r.kind=130\/r.kind=133\/r.kind=134\/r.kind=135
  ·exact .inl e
  ·exact .inr (h.abD (by omega))
 ·by_cases e:r.kind=132\/r.kind=136
  ·exact .inl e
  ·exact .inr (h.af3 (by omega))
 ·by_cases e:r.kind=129
  ·exact .inl e
  ·exact .inr (h.abE e)
theorem Mn {l:List (Int×Sd.Reply)} {j:Nat} (h:j<l.length):l.take (j+1)=l.take j++[l.getD j default]:=by
 rw[List.take_add_one,List.getD_eq_getElem?_getD,List.getElem?_eq_getElem h];rfl
theorem Ee {l:List (Int×Sd.Reply)} {j:Nat} (h:j<l.length):l.getD j default∈l:=by
 rw[List.getD_eq_getElem?_getD,List.getElem?_eq_getElem h];exact List.getElem_mem h
theorem cnT {b:Bool} {X Y:Prop} (h:b=true) (k:X):cond b X Y:=by rw[h];exact k
theorem cnF {b:Bool} {X Y:Prop} (h:b=false) (k:Y):cond b X Y:=by rw[h];exact k
theorem ad_:∀(l:List (Int×Sd.Reply)) (k:Int),(l.length:Int)<=k->jf l<=k:=by
 intro l;have h:∀(l:List (Int×Sd.Reply)) (b:Int),l.foldl (λa x=>if tS x.2.kind then a+1 else a) b<=b+l.length:=by
  intro l;induction l with
  |nil=>intro b;simp
  |cons y l ih=>
   intro b;simp only[List.foldl_cons,List.length_cons];split
   ·have:=ih (b+1);omega
   ·have:=ih b;omega
 intro k hk;have:=h l 0;unfold jf;omega
structure aea (s2:Sd.Scene) (o:sV):Prop where
 a1:∀y∈s2.sent,tS y.2.kind=true->o.kind.tmod 4=0/\y.1=o.link
 a2:o.kind.tmod 4=0/\1<=o.link/\o.link<=3->(0<s2.recs.length/\(s2.recs.getD 0 default).kind=1/\jf s2.sent=0)\/(((s2.recs.getD 0 default).kind≠1\/s2.recs=[])/\jf s2.sent=1)
 a3:¬(o.kind.tmod 4=0/\1<=o.link/\o.link<=3)->jf s2.sent=0
theorem nO {s2:Sd.Scene} {o:sV} (h:∀x∈s2.sent,132<x.2.kind) (hn:¬(o.kind.tmod 4=0/\1<=o.link/\o.link<=3)):aea s2 o:=
 ⟨λy hy e=>by have:=Sd.Bj (h y hy);exact absurd (this.symm.trans e) (by decide),λe=>absurd e hn,λ_=>by have:=Sd.nN s2.sent [] h;exact this⟩
theorem SY {k:LK} {s:Sd.Scene} (h:ba k s) (u:World) (o:sV) (hk:0<=o.kind):aea (kX (aj b_) u s o) o:=by
 unfold kX;split
 ·rename_i e;obtain⟨ts,t1,t2⟩:=Sd.DB (C:=aj b_) (s:=s) (x:=o.s);rw[h.e1,List.nil_append]at t1;exact nO (by rw[t1];exact t2) (by omega)
 split
 ·rename_i e;obtain⟨ts,t1,t2⟩:=(Sd.DC (C:=aj b_) (s:=s) (bad:=o.bad)).sent;rw[h.e1,List.nil_append]at t1;exact nO (by rw[t1];exact t2) (by omega)
 split
 ·rename_i e;obtain⟨ts,t1,t2⟩:=(Sd.LD (C:=aj b_) (s:=s)).sent;rw[h.e1,List.nil_append]at t1;exact nO (by rw[t1];exact t2) (by omega)
 ·rename_i e1 e2 e3;have e:o.kind.tmod 4=0:=by
   rw[Int.tmod_eq_emod_of_nonneg hk]at*;omega
  unfold gP;split
  ·rename_i hl;have hA:=Sd.Ed (Sd.GD (s:=s) (l:=o.link) (n:=aY 40 o.n) (f:=de u o.x) (code:=o.code) iy) h.e2 h.e1;exact⟨λy hy ha=>⟨e,hA.link hy ha⟩,λ_=>hA.cnt,λhn=>absurd ⟨e,hl⟩ hn⟩
  ·rename_i hl;exact nO (by rw[h.e1];intro x hx;cases hx) (λhh=>hl hh.2)
section
variable{tg tc:TypeId} {ty:BT} {u:World} {x:kY} {f:Nat->Nat×Sd.Byt} {o n c:Nat} {a:Option Addr} {os:Nat->sV} {pre post:List Value} {K:V->Prop}
theorem ZH {jv:Int} (z:Mj tg tc u x n os jv) (f_:z.1.i<z.1.s.sent.length) {m:Int} (hm:m=jf (z.1.s.sent.take (z.1.i+1))):Yf tg tc ty u x f o n c a os pre post jv z m:=by
 have hlen:=z.1.len;refine⟨rfl,⟨{z.1 with i:=z.1.i+1},z.2.1,f_⟩,by show z.1.s.sent.length-(z.1.i+1)<z.1.s.sent.length-z.1.i;omega,?_,rfl,rfl⟩;rw[gE (by omega),hm];rfl
theorem ahY (y:G5 n8 tg tc u x (aY 80 n)) (z:Mj tg tc u x n os (y.j:Int)) (ho:∀j,j<n->o=pre.length) (f_:z.1.i<z.1.s.sent.length):Hk tg tc ty u x f o n c a os pre post K y z:=by
 have ahZ:aY 80 n<=80:=by unfold aY;omega
 have hlen:=z.1.len;have hzj:=z.1.hj;have MI:z.1.w.j<n:=by unfold aY at hzj;omega
 have ho:=ho _ MI;obtain⟨xx,cc,b,e1,e2,e3⟩:=z.1.hf z.1.i f_;have hB:=z.1.hs _ (Ee f_);have hR:=ahX hB.2;have hA:=z.1.a1 _ (Ee f_);have hS:=Mn f_;have Bt:0<=jf (z.1.s.sent.take z.1.i):=(Sd.Mm z.1.s.sent z.1.i).1;have zo:jf (z.1.s.sent.take z.1.i)<=1000:=ad_ _ _ (by rw[List.length_take];omega);have hC:jf (z.1.s.sent.take (z.1.i+1))=if tS (z.1.s.sent.getD z.1.i default).2.kind then jf (z.1.s.sent.take z.1.i)+1 else jf (z.1.s.sent.take z.1.i):=by
  rw[hS];exact Sd.nM _ _
 unfold Hk;dsimp only;rw[show((z.1.i:Int)).toNat=z.1.i from Int.toNat_natCast _];refine⟨wU f_,⟨f_,λj=>rfl⟩,(z.1.s.sent.getD z.1.i default).2,b,⟨by rw[e1];rfl,by rw[e1];exact e2,λy hy=>List.mem_append_left _ (e3 y hy)⟩,λd=>⟨(z.1.s.sent.getD z.1.i default).2,⟨hR,rfl,rfl,rfl,rfl,rfl⟩,?_⟩⟩;rw[e1];have hY:tS (z.1.s.sent.getD z.1.i default).2.kind=true->SQ tg tc ty u x f o n c a os pre post K (y.j:Int) z (z.1.s.sent.getD z.1.i default).1 (i64.wrap (jf (z.1.s.sent.take z.1.i)+1)):=by
  intro h;obtain⟨k1,k2⟩:=hA h;rw[h,if_pos rfl]at hC;have hj:((z.1.w.j:Int)).toNat=z.1.w.j:=Int.toNat_natCast _;unfold SQ;dsimp only;rw[hj];refine⟨wU hzj,I7 ho MI,cnF (by rw[k1];rfl) ⟨wU hzj,I7 ho MI,cnF (by rw[k2];simp) (ZH z f_ ?_)⟩⟩;rw[gE (by omega),hC]
 have hN:tS (z.1.s.sent.getD z.1.i default).2.kind=false->Yf tg tc ty u x f o n c a os pre post (y.j:Int) z (jf (z.1.s.sent.take z.1.i)):=by
  intro h;rw[h,if_neg (by decide)]at hC;exact ZH z f_ hC.symm
 unfold SR;dsimp only;refine cnF (decide_eq_false (by have:=hB.1;omega)) (cnF (decide_eq_false (by have:=hB.1;omega)) (cnF (by show((((ff _+5:Nat):Int))!=((ff _+5:Nat):Int))=false;simp) ?_));refine aO (λh=>hY (by unfold tS;rw[h];rfl)) λh1=>aO (λh=>hY (by unfold tS;rw[h1,h];rfl)) λh2=>aO (λh=>hY (by unfold tS;rw[h1,h2,h];rfl)) λh3=>aO (λh=>cnT h (hY (by unfold tS;rw[h1,h2,h3,h];rfl))) λh4=>cnF h4 (hN (by unfold tS;rw[h1,h2,h3,h4];rfl))
theorem Ym (y:G5 n8 tg tc u x (aY 80 n)) (z:Mj tg tc u x n os (y.j:Int)) (ho:∀j,j<n->o=pre.length) (mj:¬z.1.i<z.1.s.sent.length):Hl tg tc ty u x f o n c a os pre post K y z:=by
 have ahZ:aY 80 n<=80:=by unfold aY;omega
 have hzj:=z.1.hj;have hjj:=z.2.1;have MI:z.1.w.j<n:=by unfold aY at hzj;omega
 have ho:=ho _ MI;have hM:jf (z.1.s.sent.take z.1.i)=jf z.1.s.sent:=by rw[List.take_of_length_le (by omega)]
 have hj:((z.1.w.j:Int)).toNat=z.1.w.j:=Int.toNat_natCast _;have hE:SP tg tc ty u x f o n c a os pre post y z.1.w (ji z.1.s) z.1.F (z.1.fn++z.1.w.fB):=by
  refine⟨rfl,⟨z.1.w.p,z.1.w.m,z.1.w.d,z.1.w.hM,z.1.w.p2,z.1.w.k,z.1.w.hN,z.1.w.j+1,hzj,ji z.1.s,z.1.F,z.1.fn++z.1.w.fB,z.1.hC,z.1.hp,z.1.v1,z.1.v2⟩,by show aY 80 n-(z.1.w.j+1)<aY 80 n-y.j;omega,?_,rfl,rfl⟩;rw[gE (by omega)];rfl
 have hI:=wU hzj;have hO:Zy o n os pre z.1.w.j:=I7 ho MI;have h2:=z.1.a2;have h3:=z.1.a3;unfold Hl;dsimp only;rw[hj,hM];have hZ:jf z.1.s.sent=0->cond (jf z.1.s.sent !=0) (K (.bool false)) (SP tg tc ty u x f o n c a os pre post y z.1.w (ji z.1.s) z.1.F (z.1.fn++z.1.w.fB)):=λh=>cnF (by rw[h];rfl) hE;generalize hZZ:cond (jf z.1.s.sent !=0) (K (.bool false)) (SP tg tc ty u x f o n c a os pre post y z.1.w (ji z.1.s) z.1.F (z.1.fn++z.1.w.fB))=Z at hZ⊢;generalize SP tg tc ty u x f o n c a os pre post y z.1.w (ji z.1.s) z.1.F (z.1.fn++z.1.w.fB)=E at hE⊢;refine aO (λe=>?_) (λe=>?_)
 ·have hl:0<z.1.s.recs.length:=by simpa using e
  refine⟨⟨Int.le_refl _,by omega⟩,⟨by omega,λj=>rfl⟩,hI,hO,aO (λe1=>⟨hI,hO,aO (λe2=>⟨hI,hO,aO (λe3=>?_) (λe3=>?_)⟩) (λe2=>hZ (h3 ?_))⟩) (λe1=>hZ (h3 ?_))⟩
  ·rcases h2 ⟨eq_of_beq e1,of_decide_eq_true e2,of_decide_eq_true e3⟩with⟨q1,q2,q3⟩|⟨q1,q3⟩
   ·have hr:((z.1.s.recs.getD (0:Int).toNat default).kind==1)=true:=beq_iff_eq.2 q2;rw[hr,e3];exact hZ q3
   ·have hr:((z.1.s.recs.getD (0:Int).toNat default).kind==1)=false:=by
     rcases q1 with q1|q1
     ·exact beq_eq_false_iff_ne.2 q1
     ·rw[q1]at hl;cases hl
    rw[hr,e3,q3];exact hE
  ·rw[e3];exact hZ (h3 λh=>by have:=of_decide_eq_false e3;omega)
  ·intro h;have:=of_decide_eq_false e2;omega
  ·intro h;exact absurd h.1 (beq_eq_false_iff_ne.1 e1)
 ·have hl:z.1.s.recs=[]:=List.length_eq_zero_iff.1 (by have:=of_decide_eq_false e;omega);refine⟨hI,hO,aO (λe1=>⟨hI,hO,aO (λe2=>⟨hI,hO,aO (λe3=>?_) (λe3=>?_)⟩) (λe2=>hZ (h3 ?_))⟩) (λe1=>hZ (h3 ?_))⟩
  ·rcases h2 ⟨eq_of_beq e1,of_decide_eq_true e2,of_decide_eq_true e3⟩with⟨q1,q2,q3⟩|⟨q1,q3⟩
   ·rw[hl]at q1;cases q1
   ·rw[q3,e3];exact hE
  ·rw[e3];exact hZ (h3 λh=>by have:=of_decide_eq_false e3;omega)
  ·intro h;have:=of_decide_eq_false e2;omega
  ·intro h;exact absurd h.1 (beq_eq_false_iff_ne.1 e1)
theorem ah0 (hr:rdA x u) (hn:n<=c) (ho:∀j,j<n->o=pre.length) (hO:Sf u os n) (hK:K (.bool true)):anX (aj b_) tg tc ty u x f o n c a os pre post K:=by
 have ahZ:aY 80 n<=80:=by unfold aY;omega
 refine XM hr hn λp m d hM p2 k F hN v1 v2 hC0=>⟨⟨rfl,⟨p,m,d,hM,p2,k,hN,0,Nat.zero_le _,iz p2,F,[],hC0,rfl,v1,v2⟩,rfl,rfl,rfl⟩,λy g=>aO (λe=>?_) (λ_=>hK)⟩;have f_:y.j<aY 80 n:=by simpa using e
 have MI:y.j<n:=by unfold aY at f_;omega
 have ho1:=ho y.j MI;have hjj:((y.j:Int)).toNat=y.j:=Int.toNat_natCast _;refine⟨wU f_,I7 ho1 MI,y.R7 y.hp,⟨coA y.hC y.v1 y.v2,y.hN.Gd,by rw[hjj];exact hO.rd _ MI⟩,?_⟩;rintro s2 Js tr fn2 F2 q1 q2 hf;rw[sJ,hjj]at Js;have hC2:ba y.k (ji s2):=by rw[Js];exact y.hC.step u _ (hO.x4 _)
 have Nz:s2.c.p=y.p2:=by rw[Js,adz y.hC];exact y.hp
 have hs:∀w∈s2.sent,Sd.vA w:=by rw[Js];exact(SW y.hC u _ (hO.kd _ MI)).ahW y.hC.e1
 have hG:s2.sent.length<=40:=by
  have:=(Yl y.hC u (os y.j)).2;rw[<-Js,y.hC.e1]at this;simpa using this
 have hA:aea s2 (os y.j):=by rw[Js];exact SY y.hC u _ (hO.kd _ MI)
 refine⟨⟨rfl,⟨⟨y,f_,s2,tr,fn2,F2,hC2,Nz,q1,q2,hf,hs,by omega,hA.a1,hA.a2,hA.a3,0⟩,rfl,Nat.zero_le _⟩,rfl,rfl,rfl⟩,λz g=>aO (λe=>ahY y z ho (by simpa using e)) (λe=>Ym y z ho (by simpa using e))⟩
end
theorem SZ {W:World} {tg tc:TypeId} (hG:W.heap[0]?=some (.cells (ai .u32 64 aT) tg (0,0))) (hC:W.heap[2]?=some (.cells #[.bool false,.bool false,.bool false,.bool false,.bool false,.bool false,.bool false,.bool false,.bool false,.bool false,.bool true,.bool true] tc (0,0)))
 (q:Nat->Int) (ka:Nat->Option Addr) (kn kc:Nat->Nat) (hr:∀j,j<4->eA W (ka j) (kn j) (kc j) (de W (ka j))) {v:Value} {os:Nat->sV} {i o n c:Nat} {a:Option Addr} {ty:BT} {pre post:List Value} (hR:tA W v 11 (XK os) i o n c a ty pre post) (hO:Sf W os n):
 ak prog 7 #[.agg (tD ⟨q,λ_=>(0,λ_=>0)⟩ ka kn kc).toArray,v] W λv w1=>v=.bool true/\Ch [] W w1:=by
 have S:=adO (fr:=n8) hG hC (i:=i) (b:=Sb ty n os pre post) rfl rfl (by
  rw[hR.at_];simp only[Sb,af,cl,List.append_nil])
 have fI:cI (Hb prog gS (LAn (aj b_)) (ad7 tg tc ty W ⟨q,ka,kn,kc⟩ (λ_=>(0,λ_=>0)) o n c a os pre post)) 60 7 [.agg [.jN ⟨q,λ_=>(0,λ_=>0)⟩ ka kn kc],.ij 2 o n c a] [iW tg,pF tc,Sb ty n os pre post] [.dC W] (λv _ _=>v=.bool true):=by
  rw[ahT (x:=⟨q,ka,kn,kc⟩)];exact ah0 ⟨hr 0 (by decide),hr 1 (by decide),hr 2 (by decide),hr 3 (by decide)⟩ hR.le hR.po hO rfl
 have bd:(aq [0,2,i] [.agg [.jN ⟨q,λ_=>(0,λ_=>0)⟩ ka kn kc],.ij 2 o n c a]).toArray=#[.agg (tD ⟨q,λ_=>(0,λ_=>0)⟩ ka kn kc).toArray,v]:=by
  rw[hR.v];simp only[aq,den,af,cl,List.append_nil];rfl
 have hok:ah prog gS (LAn (aj b_)):=ah.cons ⟨Hh,λ_=>Hj⟩ (ah.cons ⟨SN,λ_=>SO⟩ (XL Mc));rw[<-bd];refine(bw (C:=Hb prog gS (LAn (aj b_)) (ad7 tg tc ty W ⟨q,ka,kn,kc⟩ (λ_=>(0,λ_=>0)) o n c a os pre post)) (adR hok) (adS hok) 60 (adP i) rfl S fI).mono ?_;rintro v w' ⟨x,more,bl',ch',rfl,h1,S',rfl⟩;exact⟨rfl,S'.ch⟩
end Go.Proofs.YtlkpikfddnjilaaGreatDoor
namespace Go.Proofs.YtlkpikfddnjilaaGreatDoor.coreAnswers
open Go.ChangeShapes Go.WideShapes Go.ChangeAt Go.RowKit Go.Joins Sd Sx
theorem opened (H:Type) (enc:TypeId×Value->H) (W:World) (args:Array Value) (ds gs:List (DataW H)) (before:List MemPlace)
 (S7:∀(j:Nat) t v,Tryz.f7.params[j]?=some t->args[j]?=some v->Value.okWide prog W .any 0 t v)
 (hW:DataW.Whole enc prog Tryz.f7.params.toList Rows.coreAnswersSpec.vars false W args.toList ds gs before) (hL:laidMetH prog Su W):
 Rows.coreAnswersSpec.fn H (ds++gs)={results:=[.lit (.bool true)],args:=ds,vars:=[]}/\Calls prog 7 args W λe W'=>e=.returned (.bool true)/\Below W.heap.size W W':=by
 obtain⟨p,q,hA,hV,rfl,Zz,Tn⟩:=hW;obtain⟨tG,hG⟩:=Sv hL;obtain⟨tC,hC⟩:=X2 hL;rw[Tryz.params7]at hA S7;obtain⟨v0,v1,d0,d1,p0,p1,bd,rfl,_,ht0,ht1⟩:=trodAll_two hA;obtain rfl:args=#[v0,v1]:=by cases args;simp_all
 obtain⟨rfl,rfl⟩:=trodVars_none hV;obtain⟨pq,ka,kn,kc,rfl,hk⟩:=Me (S7 0 28 v0 rfl rfl) (λn=>by obtain⟨fuel,h⟩:=ht0;exact Sx.jK n h);have fR:=D7 Tryz.underlying29 rfl (S7 1 29 v1 rfl rfl);have hrd:∀k,Sx.Rd prog W k 29 [v1]:=λk=>by
  obtain⟨a,m,c,rfl,_,_⟩:=pH Tryz.underlying29 fR;obtain⟨fuel,h2⟩:=ht1;exact Sx.jK k h2
 obtain⟨os,i,o,n,c,a,ty,pre,post,hR,hO⟩:=SF fR hrd hG;exact⟨rfl,Sx.Jm (SZ hG hC pq ka kn kc hk hR hO)⟩
theorem own:ownKnob prog.godebug=none:=by kernel_rfl
def Jj:List (String×DataW Unit):=[("sidestick/gate.commands",Rows.laid_sidestick_gate_commands),("sidestick/sha.roots",Rows.laid_sidestick_sha_roots)]
theorem S8 (os:Os) (args:Array Value):laidMetH prog Jj ((World.doorLaid prog 400 os).forCall (λ_ _=>0) ⟨#[],args,[]⟩).memory:=
 laidMetH_of_parts3 (fuel:=8) (laidMet_of_run' 8 (by kernel_rfl) (by kernel_rfl)) (by kernel_rfl) (by kernel_rfl)
theorem lifted (os:Os) (started:os.Started) (H:Type) (enc:TypeId×Value->H):
 ReturnsInHanded {} Tryz.checked os 7 .any (λw args=>(Rows.coreAnswersSpec.pre enc prog Tryz.f7 [] false w args/\laidMetH prog Jj w)/\sizedMet enc prog Tryz.f7 (OpenSpec.ofChange Rows.coreAnswersSpec) false w args)
  (Rows.coreAnswersSpec.post enc prog Tryz.f7 false true false false):=by
 refine returnsInHanded_of_change_and (C:=Tryz.checked) (X:=λw _=>laidMetH prog Jj w) (λ_ _ _ hh h=>h.of_heap hh) own started (by kernel_rfl) Tryz.func7
  (ChangeSpec.witness_shaped (enc:=enc) (C:=Tryz.checked) (os:=os) (X:=λw _=>laidMetH prog Jj w) false (World.doorLaid prog 400 os) #[.agg #[.int .i64 0,.int .i64 0,.int .i64 0,.int .i64 0,.int .i64 0,.slice none 0 0,.slice none 0 0,.slice none 0 0,.slice none 0 0,.int .i64 0,.int .i64 0,.int .i64 0,.int .i64 0,.int .i64 0,.int .i64 0,.int .i64 0,.int .i64 0,.int .i64 0,.int .i64 0,.int .i64 0,.int .i64 0,.int .i64 0,.int .i64 0,.int .i64 0,.int .i64 0,.int .i64 0,.int .i64 0,.int .i64 0,.int .i64 0,.int .i64 0,.int .i64 0,.int .i64 0,.int .i64 0,.int .i64 0,.int .i64 0,.int .i64 0,.int .i64 0,.int .i64 0,.int .i64 0,.int .i64 0,.int .i64 0,.int .i64 0,.int .i64 0,.int .i64 0,.int .i64 0,.int .i64 0,.int .i64 0,.int .i64 0,.int .i64 0,.int .i64 0,.int .i64 0,.int .i64 0,.int .i64 0,.int .i64 0,.int .i64 0,.int .i64 0],.slice none 0 0] 8 rfl (World.shaped_of_RefB (by kernel_rfl) (by kernel_rfl)) (by kernel_rfl) (by kernel_rfl) (by kernel_rfl) (S8 os _)) ?_
 intro W base args ds gs before S7 hW _ _ hL _;obtain⟨hs,hc⟩:=opened H enc W args ds gs before S7 hW hL;refine hc.mono λe W' ⟨he,hb⟩=>⟨_,he,?_⟩;exact Sw (by kernel_rfl) (by kernel_rfl) rfl (by kernel_rfl) Tryz.underlying4 hs hW hb
end Go.Proofs.YtlkpikfddnjilaaGreatDoor.coreAnswers
namespace Go.Proofs.YtlkpikfddnjilaaGreatDoor.coreAnswers
theorem closed:joinedFacts Tryz.pinned.checked.prog 7 Tryz.f7 Rows.coreAnswersSpec Rows.coreAnswersRow=true:=by kernel_rfl
open Go.ChangeShapes Go.WideShapes Go.ChangeAt Go.RowKit Go.Joins Sd Sx
theorem said:Rows.CoreAnswersSaid:=
 OpenClaim.holds_of_wide 7 Tryz.f7 rfl rfl rfl rfl rfl rfl rfl ⟨rfl,rfl,rfl,rfl,rfl⟩ rfl rfl rfl rfl rfl (by kernel_rfl) Tryz.func7 closed
  (of_decide_eq_true (by kernel_rfl)) (by unfold Func.isWrapper;first|(rw[if_pos (by decide+kernel)];kernel_rfl)|(rw[if_neg (by decide+kernel)];exact⟨rfl,rfl⟩))
  (λos started H enc _=>lifted os started H enc)
theorem proved:Rows.CoreAnswersCardSaid:=
 Claim7.holds_tied_plain_at .later [] [.data,.data] true Rows.coreAnswersCard.stood.harness true
  said (λ_ h=>by cases h) (by kernel_rfl) (λ_ h=>by cases h) coreAnswers_row_tie rfl ⟨rfl,rfl⟩ (by kernel_rfl) rfl
  (λf fn hf hfn=>by
   obtain rfl:f=7:=Option.some.inj ((show prog.funcNamed "sidestick/sidesticklaw24.CoreAnswers" =some 7 by kernel_rfl).symm.trans hf)|>.symm;obtain rfl:fn=Tryz.f7:=(Option.some.inj (Tryz.func7.symm.trans hfn)).symm;exact⟨by kernel_rfl,λj t ht=>by
    have cT:(Tryz.f7.params.toList.all λu=>!prog.wantsStandIn u)=true:=by kernel_rfl
    have hm:t∈Tryz.f7.params.toList:=by simpa using Array.mem_of_getElem? ht
    exact(show prog.wantsStandIn t=false by simpa using List.all_eq_true.1 cT t hm)⟩)
  (by kernel_rfl)
end Go.Proofs.YtlkpikfddnjilaaGreatDoor.coreAnswers
