/- Part 14 of the proof. -/
import Derived.Test.YtggfpcggakghnaaGreatDoorRows
import Derived.Test.YtggfpcggakghnaaGreatDoorQ13
set_option linter.all false
set_option maxRecDepth 100000
set_option maxHeartbeats 4000000
open Go.Proofs.Tryz
namespace Sx
open Go Go.RowKit Go.BigFrame
def aif (vs:Nat->Value) (i:Nat) (v:Value):Nat->Value:=λj=>if j=i then v else vs j
def aih (k0:Nat) (es:List Nat) (H:Nat->(Nat->Value)->World->Prop) (l:List Oper) (w0:World) (i:Nat) (v:Value) (vs:Nat->Value) (w' mN:World):Prop:=
 (i=k0->Ch es w' mN)/\(i≠k0->∃ns,Ch ns w' mN/\∀x∈ns,w0.heap.size<=x)/\H i (aif vs i v) mN/\
  ∀(j:Nat) oj,l[j]?=some oj->j≠i->gD oj i=false->H j vs w'->H j (aif vs i v) mN
def JT (P:Program) (k0:Nat) (pre:List (List Nat)) (es:List Nat) (H:Nat->(Nat->Value)->World->Prop) (lf l:List Oper) (y0:Nat->Value) (w:World) (i:Nat) (o:Oper):Prop:=
 ∀(y vs:Nat->Value) (w':World),(i=k0\/preB pre i=true->Ch [] w w')->Ch es w w'->(∀t,qj l i t=true->y t=y0 t)->
  (∀j d,gD o j=true->(l[j]?).bind (·.dst)=some d->y d=vs j/\H j vs w')->
  (fe lf o y=true->Yields P o (We y) w' λv mN=>aih k0 es H l w i v vs w' mN)/\(fe lf o y=false->aih k0 es H l w i undef vs w' w')
def rk (P:Program) (k0:Nat) (pre:List (List Nat)) (es:List Nat) (H:Nat->(Nat->Value)->World->Prop) (lf l:List Oper) (y0:Nat->Value) (w:World):Nat->List Oper->Prop
 |_,[]=>True
 |i,o::rest=>JT P k0 pre es H lf l y0 w i o/\rk P k0 pre es H lf l y0 w (i+1) rest
theorem rk.get {P:Program} {k0:Nat} {pre:List (List Nat)} {es:List Nat} {H:Nat->(Nat->Value)->World->Prop} {lf l:List Oper} {y0:Nat->Value} {w:World}:∀{k:Nat} {m:List Oper},rk P k0 pre es H lf l y0 w k m->∀(i:Nat) o,m[i]?=some o->JT P k0 pre es H lf l y0 w (k+i) o
 |_,[],_,i,o,h=>by simp at h
 |k,x::rest,⟨h1,h2⟩,0,o,h=>by obtain rfl:x=o:=by simpa using h
                              exact h1
 |k,x::rest,⟨h1,h2⟩,i+1,o,h=>by
  have:=rk.get h2 i o (by simpa using h)
  rwa [show k+1+i=k+(i+1) by omega]at this
structure anK (k0:Nat) (es:List Nat) (H:Nat->(Nat->Value)->World->Prop) (l:List Oper) (n2:Nat) (a0:Act) (w0:World) (vs:Nat->Value) (listed:Array Bool) (a:Act) (w:World):Prop where
 ls:listed.size=l.length+n2
 off:∀i,l.length<=i->i<l.length+n2->listed[i]?=some false
 size:a.tmps.size=a0.tmps.size
 defers:a.defers=a0.defers
 ch:if listed[k0]?=some true then Ch es w0 w else Ch [] w0 w
 done:∀(i:Nat) (o:Oper),l[i]?=some o->listed[i]?=some true->(∀d,o.dst=some d->fI a d=vs i)/\H i vs w
 rest:∀(t:Nat),(∀(i:Nat) (o:Oper),l[i]?=some o->o.dst=some t->listed[i]?=some false)->fI a t=fI a0 t
 back:∀(i:Nat) (o:Oper),l[i]?=some o->listed[i]?=some true->∀j,gD o j=true->listed[j]?=some true
section
variable{P:Program} {l:List Oper} {k0:Nat} {pre:List (List Nat)} {es:List Nat} {H:Nat->(Nat->Value)->World->Prop} {a0:Act} {w0:World} {Q:Exit->Act->World->Prop}
end
inductive GX where
 |v (x:Value)
 |a (obj:Obj)
 |n (cs Fy:Array Value) (T:TypeId)
 |s (j:Nat)
def GX.sp:GX->Sp
 |.v x=>s0 x
 |.a o=>sA o
 |.n cs _ T=>sA (.cells cs T (0,0))
 |.s _=>s0 undef
def GX.fin:GX->VX
 |.v x=>.v x
 |.a o=>.a o
 |.n _ Fy T=>.a (.cells Fy T (0,0))
 |.s _=>.v undef
theorem Yields.mono {P:Program} {o:Oper} {ρ:Operand->Value} {w:World} {R R':Value->World->Prop} (h:Yields P o ρ w R) (k:∀v w',R v w'->R' v w'):Yields P o ρ w R':=by
 unfold Yields at*;split at h
 ·exact k _ _ h
 ·exact k _ _ h
 ·exact Calls.mono h λe w' ⟨v,e1,e2⟩=>⟨v,e1,k _ _ e2⟩
 ·exact h.elim
section
variable{P:Program} {lf l:List Oper} {xs:List GX} {y0:Nat->Value} {w:World} {i k0:Nat} {pre:List (List Nat)} {o:Oper} {es:List Nat} {pv:Value->World->Prop}
end
def isS (i:Nat):GX->Bool
 |.s j=>Nat.beq j i
 |_=>false
section
variable{P:Program} {a0:Act} {w w0:World} {Q:Exit->Act->World->Prop} {id:Nat} {L:List Oper} {ms:List Nat} {bs:List av}
end
section
variable{P:Program} {lf l:List Oper} {sp:Nat->Sp} {xs:List GX} {y0:Nat->Value} {a0:Act} {w:World} {i k0 m:Nat} {pre:List (List Nat)} {o:Oper} {es:List Nat} {pv:Value->World->Prop}
end
section
variable{P:Program} {a0:Act} {w w0:World} {Q:Exit->Act->World->Prop} {id:Nat} {L:List Oper} {ms:List Nat}
theorem SD.dg {val:Value} {C:List av->Prop} {bl:List av} {B:Nat} {T:TypeId} (hT:∀bl',C bl'->∀x∈bl',SE x.obj≠some T) {v:Value} {w1 w2:World} {b:Nat} {c2:Array Value} (hb:w1.heap[b]?=some (.cells c2 T (0,0))) (hc:Ch [b] w1 w2) (h:SD val C bl B v w1):SD val C bl B v w2:=by
 obtain⟨h1,bl',h2,h3,h4⟩:=h;refine⟨h1,bl',h2,λy hy=>⟨?_,(h3 y hy).2⟩,h4⟩;refine(hc.block _ (fW (h3 y hy).1) ?_).trans (h3 y hy).1;intro hm;have e:y.id=b:=by simpa using hm
 have:=(h3 y hy).1;rw[e,hb]at this;exact hT bl' h2 y hy (by rw[<-Option.some.inj this];rfl)
end
end Sx
namespace Go.Proofs.YtggfpcggakghnaaGreatDoor
open Go Go.RowKit Go.BigFrame Sx
def Hf (q:Nat->Int) (ka:Nat->Option Addr) (kn kc:Nat->Nat):Array Value:=#[.int .i64 (q 0),.int .i64 (q 1),.int .i64 (q 2),.int .i64 (q 3),.int .i64 (q 4),.slice (ka 0) (kn 0) (kc 0),.slice (ka 1) (kn 1) (kc 1),.slice (ka 2) (kn 2) (kc 2),.slice (ka 3) (kn 3) (kc 3),.int .i64 (q 9),.int .i64 (q 10),.int .i64 (q 11),.int .i64 (q 12),.int .i64 (q 13),.int .i64 (q 14),.int .i64 (q 15),.int .i64 (q 16),.int .i64 (q 17),.int .i64 (q 18),.int .i64 (q 19),.int .i64 (q 20),.int .i64 (q 21),.int .i64 (q 22),.int .i64 (q 23),.int .i64 (q 24),.int .i64 (q 25),.int .i64 (q 26),.int .i64 (q 27),.int .i64 (q 28),.int .i64 (q 29),.int .i64 (q 30),.int .i64 (q 31),.int .i64 (q 32),.int .i64 (q 33),.int .i64 (q 34),.int .i64 (q 35),.int .i64 (q 36),.int .i64 (q 37),.int .i64 (q 38),.int .i64 (q 39),.int .i64 (q 40),.int .i64 (q 41),.int .i64 (q 42),.int .i64 (q 43),.int .i64 (q 44),.int .i64 (q 45),.int .i64 (q 46),.int .i64 (q 47),.int .i64 (q 48),.int .i64 (q 49),.int .i64 (q 50),.int .i64 (q 51),.int .i64 (q 52),.int .i64 (q 53),.int .i64 (q 54),.int .i64 (q 55)]
end Go.Proofs.YtggfpcggakghnaaGreatDoor
namespace Go.Proofs.YtggfpcggakghnaaGreatDoor
open Go Go.RowKit Go.BigFrame Sx Vx
def wU (lo hi n:Int):Bool:=decide (lo<=n)&&decide (n<=hi)
def tH (a b c k:Int):Bool:=k==a||(k==b||k==c)
def RD (q:Nat->Int):Bool:=q 0==0&&(q 4==4&&(tH (q 1) (q 2) (q 3) 1&&(tH (q 1) (q 2) (q 3) 2&&tH (q 1) (q 2) (q 3) 3)))
def wV (n:Nat):Bool:=decide (1<=(n:Int))&&decide ((n:Int)<=64)
def pN (n:Int):Bool:=wU 0 15 n&&n%2==0
def allI (lo hi:Int):List Int->Bool
 |[]=>true
 |x::xs=>wU lo hi x&&allI lo hi xs
def uv (kn:Nat->Nat):Bool:=wV (kn 0)&&(wV (kn 1)&&wV (kn 2))
def pO (q:Nat->Int):Bool:=pN (q 10)&&(pN (q 11)&&pN (q 12))
def RE (q:Nat->Int):Bool:=allI 0 15 [q 14,q 15,q 16,q 17]&&(allI 0 15 [q 18,q 19,q 20,q 21]&&(allI 0 15 [q 22,q 23,q 24,q 25]&&(allI 0 15 [q 26,q 27,q 28,q 29]&&allI 0 15 [q 30,q 31,q 32,q 33])))
def ee (q:Nat->Int) (kn:Nat->Nat):Int:=
 if RD q=false then 40 else if(uv kn&&wV (kn 3))=false then 41 else if(q 9==1&&(q 13==0&&pO q))=false then 42
 else if RE q=false then 43
 else if allI 0 31 [q 34,q 35,q 36,q 37,q 38]=false then 44
 else if allI 0 4 [q 39,q 40,q 41]=false then 45 else if allI 1 1000 [q 42,q 43,q 44,q 45]=false then 46 else if(wU 1 1000 (q 46)&&wU 0 1000 (q 47))=false then 47 else if allI 1 3 [q 48,q 49]=false then 48
 else if(q 50==0&&(allI 0 1000 [q 51,q 52,q 53]&&wU 1 1000 (q 54)))=false then 49 else if wU 0 65535 (q 55)=false then 50 else 0
def YR (lo hi n:Int) (X Y:Prop):Prop:=cond (decide (lo<=n)) (cond (!decide (n<=hi)) Y X) Y
def seT (n:Int) (X Y:Prop):Prop:=cond (decide (0<=n)) (cond (decide (n<=15)) (cond (!(Int.tmod n 2==0)) Y X) Y) Y
def Ye (lo hi:Int) (Y:Prop):List Int->Prop->Prop
 |[],X=>X
 |n::l,X=>YR lo hi n (Ye lo hi Y l X) Y
theorem rq {lo hi n:Int} {X Y:Prop} (h:wU lo hi n=true->X) (k:wU lo hi n=false->Y):YR lo hi n X Y:=
 aU (λa=>aU (λb=>k (by rw[wU,a];simpa using b)) λb=>h (by rw[wU,a];simpa using b)) λa=>k (by rw[wU,a];rfl)
theorem Bh {n:Int} {X Y:Prop} (h:pN n=true->X) (k:pN n=false->Y):seT n X Y:=by
 refine aU (λa=>aU (λb=>?_) λb=>k (by simp only[pN,wU,a,b];rfl)) λa=>k (by simp only[pN,wU,a];rfl);have e:Int.tmod n 2=n%2:=Int.tmod_eq_emod_of_nonneg (of_decide_eq_true a);exact aU (λc=>k (by simp only[pN,wU,a,b];rw[e]at c;simpa using c)) λc=>h (by simp only[pN,wU,a,b];rw[e]at c;simpa using c)
theorem ku {lo hi:Int} {X Y:Prop}:∀{l:List Int},(allI lo hi l=true->X)->(allI lo hi l=false->Y)->Ye lo hi Y l X
 |[],h,_=>h rfl
 |n::l,h,k=>rq (λa=>ku (λb=>h (by rw[allI,a,b];rfl)) λb=>k (by rw[allI,a,b];rfl)) λa=>k (by rw[allI,a];rfl)
def dup (X:Prop):Prop:=X/\X
theorem Bi {X:Prop} (h:X):dup X:=⟨h,h⟩
def mG (a b c d e:Int):Bool:=a==0&&(e==4&&(tH b c d 1&&(tH b c d 2&&tH b c d 3)))
def adV:QF:=⟨57,λargs _=>match args with
 |[.agg [.int .i64 a,.int .i64 b,.int .i64 c,.int .i64 d,.int .i64 e]]=>some (True,.bool (mG a b c d e))
 |_=>none⟩
def Kc (b c d k:Int) (X Y:Prop):Prop:=cond (k==b) X (cond (k==c) X (cond (k==d) X Y))
theorem Hg {b c d k:Int} {X Y:Prop} (h:tH b c d k=true->X) (n:tH b c d k=false->Y):Kc b c d k X Y:=
 aU (λa=>h (by rw[tH,a];rfl)) λa=>aU (λe=>h (by rw[tH,a,e];rfl)) λe=>aU (λf=>h (by rw[tH,a,e,f];rfl)) λf=>n (by rw[tH,a,e,f];rfl)
theorem adW (a b c d e:Int) (K:V->Prop):jQ prog [] 60 57 [.agg [.int .i64 a,.int .i64 b,.int .i64 c,.int .i64 d,.int .i64 e]] K
 =cond (a !=0) (K (.bool false)) (cond (e !=4) (K (.bool false)) (Kc b c d 1 (Kc b c d 2 (Kc b c d 3 (K (.bool true)) (K (.bool false))) (K (.bool false))) (K (.bool false)))):=by kernel_rfl
theorem Yf (a b c d e:Int) (w:World):aj prog 57 #[.agg #[.int .i64 a,.int .i64 b,.int .i64 c,.int .i64 d,.int .i64 e]] w λv w1=>v=.bool (mG a b c d e)/\Ch [] w w1:=by
 have h:cond (a !=0) ((V.bool false)=.bool (mG a b c d e)) (cond (e !=4) ((V.bool false)=.bool (mG a b c d e)) (Kc b c d 1 (Kc b c d 2 (Kc b c d 3 ((V.bool true)=.bool (mG a b c d e)) ((V.bool false)=.bool (mG a b c d e))) ((V.bool false)=.bool (mG a b c d e))) ((V.bool false)=.bool (mG a b c d e)))):=by
  refine aU (λh=>?_) λh=>aU (λg=>?_) λg=>Hg (λx=>Hg (λy=>Hg (λz=>?_) λz=>?_) λy=>?_) λx=>?_
  ·have h':(a==0)=false:=by simpa using h
   rw[mG,h'];rfl
  all_goals have h':(a==0)=true:=by simpa using h
  ·have g':(e==4)=false:=by simpa using g
   rw[mG,h',g'];rfl
  all_goals have g':(e==4)=true:=by simpa using g
  ·rw[mG,h',g',x,y,z];rfl
  ·rw[mG,h',g',x,y,z];rfl
  ·rw[mG,h',g',x,y];rfl
  ·rw[mG,h',g',x];rfl
 refine qU (L:=[]) aZ.nil (n:=60) (xs:=[.agg [.int .i64 a,.int .i64 b,.int .i64 c,.int .i64 d,.int .i64 e]]) (v:=.bool (mG a b c d e)) (Hd.h (Hd.mk ?_));rw[adW];exact h
theorem Yg (gl:Nat->Option Nat):adV.Ok prog gl:=by
 intro args bl p_ v_ h hp ids w _ _;unfold adV at h;dsimp only at h;split at h
 ·rename_i a b c d e;simp only[Option.some.injEq,Prod.mk.injEq]at h;obtain⟨rfl,rfl⟩:=h;exact told (Yf a b c d e w)
 ·cases h
def adX (q:Nat->Int) (kn:Nat->Nat) (K:V->Prop):Prop:=
 let E:=λn:Int=>K (.int .i64 n)
 cond (!(mG (q 0) (q 1) (q 2) (q 3) (q 4))) (E 40)<|Ye 1 64 (E 41) [(kn 0:Int),(kn 1:Int),(kn 2:Int),(kn 3:Int)]<|cond (q 9!=1) (E 42)<|cond (q 13!=0) (E 42)<|(λX=>seT (q 10) (seT (q 11) (seT (q 12) X (E 42)) (E 42)) (E 42))<|
 Ye 0 15 (E 43) [q 14,q 15,q 16,q 17,q 18,q 19,q 20,q 21,q 22,q 23,q 24,q 25,q 26,q 27,q 28,q 29,q 30,q 31,q 32,q 33]<|Ye 0 31 (E 44) [q 34,q 35,q 36,q 37,q 38]<|dup<|Ye 0 4 (E 45) [q 39,q 40,q 41]<|dup<|Ye 1 1000 (E 46) [q 42,q 43,q 44,q 45]<|
 (λX=>YR 1 1000 (q 46) (YR 0 1000 (q 47) X (E 47)) (E 47))<|dup<|Ye 1 3 (E 48) [q 48,q 49]<|cond (q 50!=0) (E 49)<|Ye 0 1000 (E 49) [q 51,q 52,q 53]<|YR 1 1000 (q 54) (YR 0 65535 (q 55) (E 0) (E 50)) (E 49)
def YS (n:Int):VB:=⟨true,⟨3,(0,0)⟩,[.int .i64 n]⟩
def ru:gm Empty:=λargs bl ch K=>match args with
 |[.int .i64 lo,.int .i64 hi]=>cond (dk bl.length bl) (K (.fn 104 [] [.ptr bl.length 0,.ptr (bl.length+1) 0]) (bl++[YS lo,YS hi]) ch) False
 |_=>False
theorem aii (lo hi:Int) (K:VK Empty):cJ (dR prog (λ_=>none) ([]:List (dI Empty))) 20 64 [.int .i64 lo,.int .i64 hi] [] [] K=K (.fn 104 [] [.ptr 0 0,.ptr 1 0]) [YS lo,YS hi] []:=by kernel_rfl
theorem Bj:Sound prog (λ_=>none) 64 ru:=by
 intro args ids bl ch R ms w0 w K hg hl S hc;unfold ru at hc;split at hc
 ·rename_i lo hi;cases hq:dk bl.length bl with
  |false=>rw[hq]at hc;exact hc.elim
  |true=>
   rw[hq]at hc;have hv:cJ (dR prog (λ_=>none) ([]:List (dI Empty))) 20 64 [.int .i64 lo,.int .i64 hi] [] [] (λv b c=>v=.fn 104 [] [.ptr 0 0,.ptr 1 0]/\b=[YS lo,YS hi]/\c=[]):=by rw[aii];exact⟨rfl,rfl,rfl⟩
   refine(bw (ai.nil (P:=prog) (gl:=λ_=>none)).T ai.nil.Q 20 (C:=dR prog (λ_=>none) ([]:List (dI Empty))) (ids:=[]) (bl:=[]) (ch:=[]) (R:=[]) (ms:=[]) (w0:=w) (w:=w) Gl.none rfl (St.nil [] w) hv).mono ?_;rintro x w' ⟨y,more,bl',ch',rfl,h1,S',rfl,rfl,rfl⟩
   match more,h1 with
   |[b1,b2],_=>
    have S2:=S.beside S' (bl:=[⟨b1,true,.cells #[.int .i64 lo] 3 (0,0)⟩,⟨b2,true,.cells #[.int .i64 hi] 3 (0,0)⟩]) (Wr.cons rfl (Wr.cons rfl Wr.nil));refine⟨_,[b1,b2],_,ch,?_,by simp[hl],?_,hc⟩
    ·simp only[den,ao,<-hl];simp[List.getD]
    ·rw[aI _ _ _ _ hl,aJ _ _ (by rw[hl];exact hq),List.append_assoc];refine S2.perm ?_;exact(List.perm_append_comm_assoc [_,_] (lits ids ids bl) (af ch R))
 ·exact hc.elim
theorem Hh:oP prog (λ_=>none) ⟨64,true,ru⟩:=⟨Bj,λ_ args bl ch K h=>by
 simp only at h⊢;unfold ru at h⊢;split at h
 ·cases hq:dk bl.length bl with
  |false=>rw[hq]at h;exact h.elim
  |true=>rw[hq]at h;exact⟨h,_,rfl⟩
 ·exact h.elim⟩
def LCk:List (dI Empty):=⟨64,true,ru⟩::qL Empty [adV]
theorem RF:ai prog (λ_=>none) LCk:=ai.cons Hh (f_ (aZ.cons (Yg _) aZ.nil))
def vcP (n:Nat) (f:FuncId) (args:List V) (X:V->Prop):Prop:=cJ (dR prog (λ_=>none) LCk) n f args [] [] λv _ _=>X v
theorem adY (p:Sd.Pol) (ka:Nat->Option Addr) (kn kc:Nat->Nat) (K:V->Prop):vcP 60 27 [.agg (ff p ka kn kc)] K=(True/\adX p.i kn K):=by kernel_rfl
theorem Yh (q:Nat->Int) (kn:Nat->Nat):adX q kn (·=.int .i64 (ee q kn)):=by
 have k4:allI 1 64 [(kn 0:Int),(kn 1:Int),(kn 2:Int),(kn 3:Int)]=(uv kn&&wV (kn 3)):=by simp only[allI,wU,uv,wV,Bool.and_assoc,Bool.and_true]
 have t5:allI 0 15 [q 14,q 15,q 16,q 17,q 18,q 19,q 20,q 21,q 22,q 23,q 24,q 25,q 26,q 27,q 28,q 29,q 30,q 31,q 32,q 33]=RE q:=by simp only[allI,RE,Bool.and_assoc,Bool.and_true]
 unfold adX ee;refine aU (λh=>?_) λh=>?_
 ·have h0:RD q=false:=(by simpa using h:mG (q 0) (q 1) (q 2) (q 3) (q 4)=false);rw[if_pos h0]
 have h0:RD q=true:=(by simpa using h:mG (q 0) (q 1) (q 2) (q 3) (q 4)=true);clear h;refine ku (λh1=>?_) λh1=>?_<;>rw[k4]at h1
 ·refine aU (λa=>?_) λa=>aU (λb=>?_) λb=>Bh (λc=>Bh (λd=>Bh (λe=>?_) λe=>?_) λd=>?_) λc=>?_
  ·have a':(q 9==1)=false:=by simpa using a
   simp[h0,h1,a']
  all_goals have a':(q 9==1)=true:=by simpa using a
  ·have b':(q 13==0)=false:=by simpa using b
   simp[h0,h1,a',b']
  all_goals have b':(q 13==0)=true:=by simpa using b
  ·have r:pO q=true:=by simp[pO,c,d,e]
   have h2:(q 9==1&&(q 13==0&&pO q))=true:=by rw[a',b',r];rfl
   refine ku (λh3=>?_) λh3=>?_<;>rw[t5]at h3
   ·refine ku (λh4=>Bi (ku (λh5=>Bi (ku (λh6=>rq (λh7=>rq (λh8=>Bi (ku (λh9=>aU (λu=>?_) λu=>ku (λv=>rq (λx=>rq (λy=>?_) λy=>?_) λx=>?_) λv=>?_) λh9=>?_)) λh8=>?_) λh7=>?_) λh6=>?_)) λh5=>?_)) λh4=>?_
    ·have u':(q 50==0)=false:=by simpa using u
     simp[h0,h1,h2,h3,h4,h5,h6,h7,h8,h9,u']
    iterate 4
     ·have u':(q 50==0)=true:=by simpa using u
      simp[h0,h1,h2,h3, *]
    all_goals simp[h0,h1,h2,h3, *]
   ·simp[h0,h1,h2,h3]
  all_goals simp[h0,h1,a',b',pO, *]
 ·simp[h0,h1]
theorem Ng (q:Nat->Int) (ka:Nat->Option Addr) (kn kc:Nat->Nat) (w:World):aj prog 27 #[.agg (Hf q ka kn kc)] w λv w1=>v=.int .i64 (ee q kn)/\Ch [] w w1:=by
 have h:vcP 60 27 [.agg (ff ⟨q,λ_=>(0,λ_=>0)⟩ ka kn kc)] (·=.int .i64 (ee q kn)):=by rw[adY];exact⟨trivial,Yh q kn⟩
 refine(bw RF.T RF.Q 60 (C:=dR prog (λ_=>none) LCk) (ids:=[]) (bl:=[]) (ch:=[]) (R:=[]) (ms:=[]) (w0:=w) (w:=w) Gl.none rfl (St.nil [] w) h).mono ?_;rintro x w' ⟨y,more,bl',ch',rfl,h1,S,rfl⟩;exact⟨rfl,S.ch⟩
end Go.Proofs.YtggfpcggakghnaaGreatDoor
namespace Go.Proofs.YtggfpcggakghnaaGreatDoor
open Go Go.RowKit Go.BigFrame Sx
def f3 {α:Type} (a b c:α):Nat->α:=λj=>match j with|0=>a|1=>b|_=>c
def mz (p:Sd.Pol) (ka:Nat->Option Addr) (kn kc:Nat->Nat) (t:Sd.Tok) (bq:Nat) (D:Nat->Sd.dQ) (bt:Nat) (sa be mo:Int) (mb:Sd.Label) (pt:Sd.Point) (hd:Nat->Int):Array Value:=#[.int .i64 (p.i 0),.int .i64 (p.i 1),.int .i64 (p.i 2),.int .i64 (p.i 3),.int .i64 (p.i 4),.slice (ka 0) (kn 0) (kc 0),.slice (ka 1) (kn 1) (kc 1),.slice (ka 2) (kn 2) (kc 2),.slice (ka 3) (kn 3) (kc 3),.int .i64 (p.i 9),.int .i64 (p.i 10),.int .i64 (p.i 11),.int .i64 (p.i 12),.int .i64 (p.i 13),.int .i64 (p.i 14),.int .i64 (p.i 15),.int .i64 (p.i 16),.int .i64 (p.i 17),.int .i64 (p.i 18),.int .i64 (p.i 19),.int .i64 (p.i 20),.int .i64 (p.i 21),.int .i64 (p.i 22),.int .i64 (p.i 23),.int .i64 (p.i 24),.int .i64 (p.i 25),.int .i64 (p.i 26),.int .i64 (p.i 27),.int .i64 (p.i 28),.int .i64 (p.i 29),.int .i64 (p.i 30),.int .i64 (p.i 31),.int .i64 (p.i 32),.int .i64 (p.i 33),.int .i64 (p.i 34),.int .i64 (p.i 35),.int .i64 (p.i 36),.int .i64 (p.i 37),.int .i64 (p.i 38),.int .i64 (p.i 39),.int .i64 (p.i 40),.int .i64 (p.i 41),.int .i64 (p.i 42),.int .i64 (p.i 43),.int .i64 (p.i 44),.int .i64 (p.i 45),.int .i64 (p.i 46),.int .i64 (p.i 47),.int .i64 (p.i 48),.int .i64 (p.i 49),.int .i64 (p.i 50),.int .i64 (p.i 51),.int .i64 (p.i 52),.int .i64 (p.i 53),.int .i64 (p.i 54),.int .i64 (p.i 55),.int .i64 t.holder,.int .i64 t.epoch,.int .i64 t.offer,.int .i64 t.oa.n,.int .i64 t.oa.most,.int .i64 t.la.n,.int .i64 t.la.most,.bool t.bad,.pointer (some ⟨bq,0,none⟩),.int .i64 (D 0).many,.bool (D 0).sG,.int .u8 ((D 0).ae 0),.int .u8 ((D 0).ae 1),.int .u8 ((D 0).ae 2),.int .u8 ((D 0).ae 3),.int .u8 ((D 0).ae 4),.int .u8 ((D 0).ae 5),.int .u8 ((D 0).ae 6),.int .u8 ((D 0).ae 7),.int .i64 (D 1).many,.bool (D 1).sG,.int .u8 ((D 1).ae 0),.int .u8 ((D 1).ae 1),.int .u8 ((D 1).ae 2),.int .u8 ((D 1).ae 3),.int .u8 ((D 1).ae 4),.int .u8 ((D 1).ae 5),.int .u8 ((D 1).ae 6),.int .u8 ((D 1).ae 7),.int .i64 (D 2).many,.bool (D 2).sG,.int .u8 ((D 2).ae 0),.int .u8 ((D 2).ae 1),.int .u8 ((D 2).ae 2),.int .u8 ((D 2).ae 3),.int .u8 ((D 2).ae 4),.int .u8 ((D 2).ae 5),.int .u8 ((D 2).ae 6),.int .u8 ((D 2).ae 7),.pointer (some ⟨bt,0,none⟩),.int .i64 sa,.int .i64 be,.int .i64 mo,.int .i64 mb.mD,.int .i64 mb.source,.int .i64 mb.seq,.int .i64 pt.cls,.int .i64 pt.bx.a,.int .i64 pt.bx.b,.int .i64 pt.bx.c,.int .i64 pt.bx.d,.int .i64 pt.now.a,.int .i64 pt.now.b,.int .i64 pt.now.c,.int .i64 pt.now.d,.int .i64 pt.cX.mD,.int .i64 pt.cX.source,.int .i64 pt.cX.seq,.int .u8 (hd 0),.int .u8 (hd 1),.int .u8 (hd 2),.int .u8 (hd 3),.int .u8 (hd 4),.int .u8 (hd 5),.int .u8 (hd 6),.int .u8 (hd 7),.int .u8 (hd 8),.int .u8 (hd 9),.int .u8 (hd 10),.int .u8 (hd 11),.int .u8 (hd 12),.int .u8 (hd 13),.int .u8 (hd 14),.int .u8 (hd 15),.int .u8 (hd 16),.int .u8 (hd 17),.int .u8 (hd 18),.int .u8 (hd 19),.int .u8 (hd 20),.int .u8 (hd 21),.int .u8 (hd 22),.int .u8 (hd 23),.int .u8 (hd 24),.int .u8 (hd 25),.int .u8 (hd 26),.int .u8 (hd 27),.int .u8 (hd 28),.int .u8 (hd 29),.int .u8 (hd 30),.int .u8 (hd 31)]
def jy (st:Bool×Sd.Timer) (ay:Nat->Sd.bm) (b m:Int):Array Value:=#[.bool st.1,.int .i64 st.2.n,.int .i64 st.2.most,.bool (ay 0).on,.int .i64 (ay 0).aH.n,.int .i64 (ay 0).aH.most,.int .i64 (ay 0).role,.int .u8 ((ay 0).key 0),.int .u8 ((ay 0).key 1),.int .u8 ((ay 0).key 2),.int .u8 ((ay 0).key 3),.int .u8 ((ay 0).key 4),.int .u8 ((ay 0).key 5),.int .u8 ((ay 0).key 6),.int .u8 ((ay 0).key 7),.int .u8 ((ay 0).key 8),.int .u8 ((ay 0).key 9),.int .u8 ((ay 0).key 10),.int .u8 ((ay 0).key 11),.int .u8 ((ay 0).key 12),.int .u8 ((ay 0).key 13),.int .u8 ((ay 0).key 14),.int .u8 ((ay 0).key 15),.int .u8 ((ay 0).key 16),.int .u8 ((ay 0).key 17),.int .u8 ((ay 0).key 18),.int .u8 ((ay 0).key 19),.int .u8 ((ay 0).key 20),.int .u8 ((ay 0).key 21),.int .u8 ((ay 0).key 22),.int .u8 ((ay 0).key 23),.int .u8 ((ay 0).key 24),.int .u8 ((ay 0).key 25),.int .u8 ((ay 0).key 26),.int .u8 ((ay 0).key 27),.int .u8 ((ay 0).key 28),.int .u8 ((ay 0).key 29),.int .u8 ((ay 0).key 30),.int .u8 ((ay 0).key 31),.bool (ay 0).seen.any,.int .i64 (ay 0).seen.high,.int .u64 (ay 0).seen.seen,.bool (ay 1).on,.int .i64 (ay 1).aH.n,.int .i64 (ay 1).aH.most,.int .i64 (ay 1).role,.int .u8 ((ay 1).key 0),.int .u8 ((ay 1).key 1),.int .u8 ((ay 1).key 2),.int .u8 ((ay 1).key 3),.int .u8 ((ay 1).key 4),.int .u8 ((ay 1).key 5),.int .u8 ((ay 1).key 6),.int .u8 ((ay 1).key 7),.int .u8 ((ay 1).key 8),.int .u8 ((ay 1).key 9),.int .u8 ((ay 1).key 10),.int .u8 ((ay 1).key 11),.int .u8 ((ay 1).key 12),.int .u8 ((ay 1).key 13),.int .u8 ((ay 1).key 14),.int .u8 ((ay 1).key 15),.int .u8 ((ay 1).key 16),.int .u8 ((ay 1).key 17),.int .u8 ((ay 1).key 18),.int .u8 ((ay 1).key 19),.int .u8 ((ay 1).key 20),.int .u8 ((ay 1).key 21),.int .u8 ((ay 1).key 22),.int .u8 ((ay 1).key 23),.int .u8 ((ay 1).key 24),.int .u8 ((ay 1).key 25),.int .u8 ((ay 1).key 26),.int .u8 ((ay 1).key 27),.int .u8 ((ay 1).key 28),.int .u8 ((ay 1).key 29),.int .u8 ((ay 1).key 30),.int .u8 ((ay 1).key 31),.bool (ay 1).seen.any,.int .i64 (ay 1).seen.high,.int .u64 (ay 1).seen.seen,.bool (ay 2).on,.int .i64 (ay 2).aH.n,.int .i64 (ay 2).aH.most,.int .i64 (ay 2).role,.int .u8 ((ay 2).key 0),.int .u8 ((ay 2).key 1),.int .u8 ((ay 2).key 2),.int .u8 ((ay 2).key 3),.int .u8 ((ay 2).key 4),.int .u8 ((ay 2).key 5),.int .u8 ((ay 2).key 6),.int .u8 ((ay 2).key 7),.int .u8 ((ay 2).key 8),.int .u8 ((ay 2).key 9),.int .u8 ((ay 2).key 10),.int .u8 ((ay 2).key 11),.int .u8 ((ay 2).key 12),.int .u8 ((ay 2).key 13),.int .u8 ((ay 2).key 14),.int .u8 ((ay 2).key 15),.int .u8 ((ay 2).key 16),.int .u8 ((ay 2).key 17),.int .u8 ((ay 2).key 18),.int .u8 ((ay 2).key 19),.int .u8 ((ay 2).key 20),.int .u8 ((ay 2).key 21),.int .u8 ((ay 2).key 22),.int .u8 ((ay 2).key 23),.int .u8 ((ay 2).key 24),.int .u8 ((ay 2).key 25),.int .u8 ((ay 2).key 26),.int .u8 ((ay 2).key 27),.int .u8 ((ay 2).key 28),.int .u8 ((ay 2).key 29),.int .u8 ((ay 2).key 30),.int .u8 ((ay 2).key 31),.bool (ay 2).seen.any,.int .i64 (ay 2).seen.high,.int .u64 (ay 2).seen.seen,.int .i64 b,.int .i64 m]
theorem Yi (p:Sd.Pol) (ka:Nat->Option Addr) (kn kc:Nat->Nat) (w:World):aj prog 27 #[.agg (kJ p ka kn kc)] w λv w1=>v=.int .i64 (ee p.i kn)/\Ch [] w w1:=Ng p.i ka kn kc w
theorem RG {q:Nat->Int} {kn:Nat->Nat} (h:ee q kn=0):1<=q 48/\q 48<=3:=by
 have:allI 1 3 [q 48,q 49]=true:=by
  cases e:allI 1 3 [q 48,q 49]with
  |true=>rfl
  |false=>
   exfalso;unfold ee at h
   repeat' split at h
   all_goals first|omega|(rename_i h48;simp[e]at h48)
 simp only[allI,wU,Bool.and_eq_true,decide_eq_true_eq]at this;exact this.1
theorem aij (w:World):
 aj prog 32 #[] w λv w1=>v=.agg #[.int .i64 2,.int .i64 4,.int .i64 0]/\Ch [] w w1:=by
 have S0:=St.nil [] w;refine dz Tryz.func32 rfl ?_;refine au (ax ?_);refine eD S0 (λb=>.pointer (some ⟨b,0,none⟩)) (.cells #[.int .i64 0,.int .i64 0,.int .i64 0] 44) ?_;intro de sH i_;refine aw (ag (au (ax ?_)));refine aa (.agg #[.int .i64 2,.int .i64 4,.int .i64 0]) ?_;refine store_ i_ 0 (.agg #[.int .i64 2,.int .i64 4,.int .i64 0]) de 0 ?_;intro zw4 zS5;refine aw (ag (wp_ret ?_));refine gn rfl (fY [.cell 0 44] [.agg #[.int .i64 2,.int .i64 4,.int .i64 0]] (.agg #[.int .i64 2,.int .i64 4,.int .i64 0]) ⟨cU zS5 0 3 de 0,trivial⟩) ?_;exact⟨rfl,zS5.ch⟩
theorem adZ (w:World):
 aj prog 33 #[.slice none 0 0] w λv w1=>v=.agg (ak .u8 32 (λ_=>0))/\Ch [] w w1:=by
 have S0:=St.nil [] w;refine dz Tryz.func33 rfl ?_;refine au (ax ?_);refine eD S0 (λb=>.pointer (some ⟨b,0,none⟩)) (.cells (ak .u8 32 (λ_=>0)) 37) ?_;intro de sH i_;refine aw (ag (au (ax ?_)));refine eD i_ (λb=>.pointer (some ⟨b,0,none⟩)) (.cells (ak .u8 32 (λ_=>0)) 37) ?_;intro iG Dn gw;refine aw (ag (au (au (ax ?_))));refine aa (.slice none 0 0) ?_;refine aa (.int .i64 0) ?_;refine aa (.int .i64 0) ?_;refine aw (ag (wp_block (CD 24 (au (ax ?_)))));refine aa (.bool false) ?_;refine aw (ag (au (iu ?_)));refine wp_exit (fy (fy (qh (ag (au (ax ?_))))));refine eC gw 0 32 (ak .u8 32 (λ_=>0)) iG 0 ?_;refine store_ gw 1 (.agg (ak .u8 32 (λ_=>0))) de 0 ?_;intro Tp J3;refine aw (ag (wp_ret ?_));refine gn rfl (fY [.cell 2 37] [.agg (ak .u8 32 (λ_=>0))] (.agg (ak .u8 32 (λ_=>0))) ⟨cU J3 1 32 de 0,trivial⟩) ?_;exact⟨rfl,J3.ch⟩
def oT:List Sd.Rec->List Value
 |[]=>[]
 |r::l=>(recC r).toList++oT l
theorem Nh (l:List Sd.Rec) (r:Sd.Rec):oT l++(recC r).toList=oT (l++[r]):=by
 induction l with
 |nil=>simp[oT]
 |cons a l ih=>simp[oT,ih]
theorem Yj (p:Sd.Pol) (ka:Nat->Option Addr) (kn kc:Nat->Nat) (t:Sd.Tok) (bq:Nat) (D:Nat->Sd.dQ) (bt:Nat) (sa be mo:Int) (mb:Sd.Label) (pt:Sd.Point) (hd:Nat->Int) (xs:Option Addr) (ns cs:Nat) (jc bc:Nat) (x:Option Addr) (n c:Nat) (bl:List av) (rl:List Sd.Rec) (kd so sq co ho:Int) {tG:TypeId} (w:World) {ms:List Nat} {w0:World} {bs:List av} (S0:St ms w0 ([⟨1,false,.cells (ak .u32 64 aX) tG (0,0)⟩,⟨jc,true,.cells #[.pointer (some ⟨bc,0,none⟩),.slice xs ns cs,.slice x n c] 128 (0,0)⟩,⟨bc,true,.cells (mz p ka kn kc t bq D bt sa be mo mb pt hd) 105 (0,0)⟩]++(bl++bs)) w) (hR:fa 6 75 (oT rl) x n c bl) (hn:n<=1000):
 aj prog 90 #[.pointer (some ⟨jc,0,none⟩),.int .i64 kd,.int .i64 so,.int .i64 sq,.int .i64 co,.int .i64 ho] w λv w1=>∃x1 c1 yA,v=.tuple #[]/\fa 6 75 (oT (rl++[⟨kd,so,sq,t.epoch,co,ho⟩])) x1 (n+1) c1 yA/\St ms w0 ([⟨1,false,.cells (ak .u32 64 aX) tG (0,0)⟩,⟨jc,true,.cells #[.pointer (some ⟨bc,0,none⟩),.slice xs ns cs,.slice x1 (n+1) c1] 128 (0,0)⟩,⟨bc,true,.cells (mz p ka kn kc t bq D bt sa be mo mb pt (qW hd (⟨kd,so,sq,t.epoch,co,ho⟩:Sd.Rec))) 105 (0,0)⟩]++(yA++bs)) w1:=by
 refine dz Tryz.func90 rfl ?_;refine au (ax ?_);refine aa (.int .i64 kd) ?_;refine aa (.int .i64 so) ?_;refine aa (.int .i64 sq) ?_;refine bY ?_;refine aa (.pointer (some ⟨jc,0,none⟩)) ?_;refine aa (.pointer (some ⟨jc,0,none⟩)) ?_;refine ir S0 1 (.pointer (some ⟨bc,0,none⟩)) jc 0 ?_;refine aa (.pointer (some ⟨bc,0,none⟩)) ?_;refine aa (.pointer (some ⟨bc,56,none⟩)) ?_;refine aa (.pointer (some ⟨bc,57,none⟩)) ?_;refine ir S0 2 (.int .i64 t.epoch) bc 57 ?_;refine aa (.int .i64 co) ?_;refine aa (.int .i64 ho) ?_;refine aa (.agg #[.int .i64 kd,.int .i64 so,.int .i64 sq,.int .i64 t.epoch,.int .i64 co,.int .i64 ho]) ?_;refine eD S0 (λb=>.pointer (some ⟨b,0,none⟩)) (.cells #[.int .i64 0,.int .i64 0,.int .i64 0,.int .i64 0,.int .i64 0,.int .i64 0] 75) ?_;intro de sH i_;refine store_ i_ 0 (.agg #[.int .i64 kd,.int .i64 so,.int .i64 sq,.int .i64 t.epoch,.int .i64 co,.int .i64 ho]) de 0 ?_;intro zw4 zS5;refine aw (ag (au ?_));have gw:St ms w0 ([⟨de,true,.cells #[.int .i64 kd,.int .i64 so,.int .i64 sq,.int .i64 t.epoch,.int .i64 co,.int .i64 ho] 75 (0,0)⟩,⟨1,false,.cells (ak .u32 64 aX) tG (0,0)⟩,⟨jc,true,.cells #[.pointer (some ⟨bc,0,none⟩),.slice xs ns cs,.slice x n c] 128 (0,0)⟩,⟨bc,true,.cells (mz p ka kn kc t bq D bt sa be mo mb pt hd) 105 (0,0)⟩]++(bl++bs)) zw4:=zS5.re (R:=bs) [[⟨de,true,.cells #[.int .i64 kd,.int .i64 so,.int .i64 sq,.int .i64 t.epoch,.int .i64 co,.int .i64 ho] 75 (0,0)⟩],[⟨1,false,.cells (ak .u32 64 aX) tG (0,0)⟩],[⟨jc,true,.cells #[.pointer (some ⟨bc,0,none⟩),.slice xs ns cs,.slice x n c] 128 (0,0)⟩],[⟨bc,true,.cells (mz p ka kn kc t bq D bt sa be mo mb pt hd) 105 (0,0)⟩],bl] [0,1,2,3,4];have zD7:∀w',Ch ((bl).map av.id) zw4 w'->St ms w0 ([⟨de,true,.cells #[.int .i64 kd,.int .i64 so,.int .i64 sq,.int .i64 t.epoch,.int .i64 co,.int .i64 ho] 75 (0,0)⟩,⟨1,false,.cells (ak .u32 64 aX) tG (0,0)⟩,⟨jc,true,.cells #[.pointer (some ⟨bc,0,none⟩),.slice xs ns cs,.slice x n c] 128 (0,0)⟩,⟨bc,true,.cells (mz p ka kn kc t bq D bt sa be mo mb pt hd) 105 (0,0)⟩]++bs) w':=λ_ hc=>gw.less (fa.wr hR) hc;refine agu (T':=75) gw hR 8 7 6 1 [.int .i64 kd,.int .i64 so,.int .i64 sq,.int .i64 t.epoch,.int .i64 co,.int .i64 ho] [] [.pointer (some ⟨jc,0,none⟩),.pointer (some ⟨jc,0,none⟩),.pointer (some ⟨jc,0,none⟩),.pointer (some ⟨jc,2,none⟩),.slice x n c,.agg #[.int .i64 kd,.int .i64 so,.int .i64 sq,.int .i64 t.epoch,.int .i64 co,.int .i64 ho],undef,undef] [[8,0],[8,1],[8,2],[8,3],[8,4],[8,5],[8,6],[8,7],[9,0],[9,1],[9,2],[9,3],[9,4],[9,5],[9,6],[9,7],[9,8],[10,0],[10,1],[10,2],[10,3],[10,4],[10,5],[10,6],[10,7],[10,9,8],[10,9]] (bZ NN (bZ NN (bZ NN (bZ NN (bZ (eL_ zD7 2 jc 2) (bZ (ZB zD7 0 de 0 6 #[.int .i64 kd,.int .i64 so,.int .i64 sq,.int .i64 t.epoch,.int .i64 co,.int .i64 ho]) (bZ (eB_ 1 [.int .i64 kd,.int .i64 so,.int .i64 sq,.int .i64 t.epoch,.int .i64 co,.int .i64 ho] 75) (bZ (eA_ gw hR 31 33 6 1 [.int .i64 kd,.int .i64 so,.int .i64 sq,.int .i64 t.epoch,.int .i64 co,.int .i64 ho] 48 (by omega) (by unfold maxLen;omega) (e':=75)) (sQ))))))))) ?_;intro zx8 zc9 aik anL acR oD qR;refine aa (.pointer (some ⟨jc,0,none⟩)) ?_;refine aa (.pointer (some ⟨jc,2,none⟩)) ?_;refine store_ qR 2 (.slice zx8 (n+1) zc9) jc 2 ?_;intro Mt tq;refine aw (ag ?_);refine lE 13 [⟨0,λ_=>.pointer (some ⟨jc,0,none⟩),λ_=>[]⟩,⟨0,λ_=>.pointer (some ⟨jc,0,none⟩),λ_=>[]⟩,⟨0,λ_=>.pointer (some ⟨jc,0,none⟩),λ_=>[]⟩,⟨0,λ_=>.pointer (some ⟨bc,0,none⟩),λ_=>[]⟩,⟨0,λ_=>.pointer (some ⟨jc,0,none⟩),λ_=>[]⟩,⟨0,λ_=>.pointer (some ⟨jc,0,none⟩),λ_=>[]⟩,⟨0,λ_=>.pointer (some ⟨jc,0,none⟩),λ_=>[]⟩,⟨0,λ_=>.pointer (some ⟨bc,0,none⟩),λ_=>[]⟩,⟨0,λ_=>.pointer (some ⟨bc,0,none⟩),λ_=>[]⟩,⟨0,λ_=>.pointer (some ⟨bc,114,none⟩),λ_=>[]⟩,⟨0,λ_=>.agg (ak .u8 32 hd),λ_=>[]⟩,⟨0,λ_=>.agg #[.int .i64 kd,.int .i64 so,.int .i64 sq,.int .i64 t.epoch,.int .i64 co,.int .i64 ho],λ_=>[]⟩,⟨0,λ_=>.agg (ak .u8 32 (qW hd (⟨kd,so,sq,t.epoch,co,ho⟩:Sd.Rec))),λ_=>[]⟩] [[13,0],[13,1],[13,2],[13,3],[13,4],[13,5],[13,6],[13,7],[13,8],[13,9],[13,10],[13,11],[13,12],[14,0],[14,1],[14,2],[14,3],[14,4],[14,5],[14,6],[14,7],[14,8],[14,9],[14,10],[14,11],[14,12],[14,13],[15,0],[15,1],[15,2],[15,3],[15,4],[15,5],[15,6],[15,7],[15,8],[15,9],[15,10],[15,11],[15,12],[15,14,13],[15,14]] ?_ ?_
 ·refine step_cons sD ?_;refine step_cons sD ?_;refine step_cons sD ?_;refine step_cons (qL_ tq 2 jc 0) ?_;refine step_cons sD ?_;refine step_cons sD ?_;refine step_cons sD ?_;refine step_cons (qL_ tq 2 jc 0) ?_;refine step_cons sD ?_;refine step_cons sD ?_;refine step_cons (Zz tq 3 bc 114 32 (ak .u8 32 hd)) ?_;refine step_cons (Zz tq 0 de 0 6 #[.int .i64 kd,.int .i64 so,.int .i64 sq,.int .i64 t.epoch,.int .i64 co,.int .i64 ho]) ?_;refine step_cons ?_ ?_
  ·intro ail Gm Q2 anh abx;have Qe:ail 47=.agg (ak .u8 32 hd):=(Sp.dt (abx 10 47 (by kernel_rfl) (by kernel_rfl))).1;have uK:ail 48=.agg #[.int .i64 kd,.int .i64 so,.int .i64 sq,.int .i64 t.epoch,.int .i64 co,.int .i64 ho]:=(Sp.dt (abx 11 48 (by kernel_rfl) (by kernel_rfl))).1;have AR:=tq.quiet Q2;refine kP ?_;refine mR [(47,.agg (ak .u8 32 hd)),(48,.agg #[.int .i64 kd,.int .i64 so,.int .i64 sq,.int .i64 t.epoch,.int .i64 co,.int .i64 ho])] (eu Qe (eu uK (iy))) ?_;have py:=AR.loc;refine Y.dh 66 #[.agg (ak .u8 32 hd),.agg #[.int .i64 kd,.int .i64 so,.int .i64 sq,.int .i64 t.epoch,.int .i64 co,.int .i64 ho]] ?_;refine(ah4 hd (⟨kd,so,sq,t.epoch,co,ho⟩:Sd.Rec) _ (py.at_ 1 _ rfl)).mono ?_;rintro _ agU ⟨rfl,kH⟩;have Qg:=py.quiet kH;exact⟨Qg.ch,Sp.eO [] (all_nil)⟩
  exact jK
 intro tI Xm JB k_;have XF:tI 0=.pointer (some ⟨jc,0,none⟩):=(Sp.dt (k_ 0 (by kernel_rfl))).1;have lU:tI 1=.pointer (some ⟨jc,0,none⟩):=(Sp.dt (k_ 1 (by kernel_rfl))).1;have uP:tI 2=.pointer (some ⟨jc,0,none⟩):=(Sp.dt (k_ 2 (by kernel_rfl))).1;have yN:tI 3=.pointer (some ⟨bc,0,none⟩):=(Sp.dt (k_ 3 (by kernel_rfl))).1;have AS:tI 4=.pointer (some ⟨jc,0,none⟩):=(Sp.dt (k_ 4 (by kernel_rfl))).1;have uN:tI 5=.pointer (some ⟨jc,0,none⟩):=(Sp.dt (k_ 5 (by kernel_rfl))).1;have wA:tI 6=.pointer (some ⟨jc,0,none⟩):=(Sp.dt (k_ 6 (by kernel_rfl))).1;have uQ:tI 7=.pointer (some ⟨bc,0,none⟩):=(Sp.dt (k_ 7 (by kernel_rfl))).1;have tv:tI 8=.pointer (some ⟨bc,0,none⟩):=(Sp.dt (k_ 8 (by kernel_rfl))).1;have Qw:tI 9=.pointer (some ⟨bc,114,none⟩):=(Sp.dt (k_ 9 (by kernel_rfl))).1;have Qh:tI 10=.agg (ak .u8 32 hd):=(Sp.dt (k_ 10 (by kernel_rfl))).1;have adL:tI 11=.agg #[.int .i64 kd,.int .i64 so,.int .i64 sq,.int .i64 t.epoch,.int .i64 co,.int .i64 ho]:=(Sp.dt (k_ 11 (by kernel_rfl))).1;have adM:tI 12=.agg (ak .u8 32 (qW hd (⟨kd,so,sq,t.epoch,co,ho⟩:Sd.Rec))):=(Sp.dt (k_ 12 (by kernel_rfl))).1;have Dv:=tq.quiet JB;refine⟨[.pointer (some ⟨jc,0,none⟩),.pointer (some ⟨jc,0,none⟩),.pointer (some ⟨jc,0,none⟩),.pointer (some ⟨bc,0,none⟩),.pointer (some ⟨jc,0,none⟩),.pointer (some ⟨jc,0,none⟩),.pointer (some ⟨jc,0,none⟩),.pointer (some ⟨bc,0,none⟩),.pointer (some ⟨bc,0,none⟩),.pointer (some ⟨bc,114,none⟩),.agg (ak .u8 32 hd),.agg #[.int .i64 kd,.int .i64 so,.int .i64 sq,.int .i64 t.epoch,.int .i64 co,.int .i64 ho],.agg (ak .u8 32 (qW hd (⟨kd,so,sq,t.epoch,co,ho⟩:Sd.Rec)))],by kernel_rfl,aL XF (aL lU (aL uP (aL yN (aL AS (aL uN (aL wA (aL uQ (aL tv (aL Qw (aL Qh (aL adL (aL adM (sO))))))))))))),?_⟩;refine aa (.pointer (some ⟨bc,0,none⟩)) ?_;refine aa (.pointer (some ⟨bc,114,none⟩)) ?_;refine store_ Dv 3 (.agg (ak .u8 32 (qW hd (⟨kd,so,sq,t.epoch,co,ho⟩:Sd.Rec)))) bc 114 ?_;intro alO X1;refine aw ?_;refine end_ rfl (fY [] [] (.tuple #[]) trivial) ?_;exact⟨zx8,zc9,aik,rfl,Nh rl _▸oD,X1.re (R:=bs) [[⟨de,true,.cells #[.int .i64 kd,.int .i64 so,.int .i64 sq,.int .i64 t.epoch,.int .i64 co,.int .i64 ho] 75 (0,0)⟩],[⟨1,false,.cells (ak .u32 64 aX) tG (0,0)⟩],[⟨jc,true,.cells #[.pointer (some ⟨bc,0,none⟩),.slice xs ns cs,.slice zx8 (n+1) zc9] 128 (0,0)⟩],[⟨bc,true,.cells (mz p ka kn kc t bq D bt sa be mo mb pt (qW hd (⟨kd,so,sq,t.epoch,co,ho⟩:Sd.Rec))) 105 (0,0)⟩],aik] [1,2,3,4]⟩
end Go.Proofs.YtggfpcggakghnaaGreatDoor
