/- Part 15 of the proof. -/
import Derived.Test.YtlkpikfddnjilaaGreatDoorProg
import Derived.Test.YtlkpikfddnjilaaGreatDoorQ14
set_option linter.all false
set_option maxRecDepth 100000
set_option maxHeartbeats 4000000
open Go.Proofs.Tryz
open Go.IntKind (u8 u16 u32 u64 i64)
namespace Go.Proofs.YtlkpikfddnjilaaGreatDoor
open Go Go.RowKit Go.BigFrame Sx Vx
structure One where
 a:Sd.Ask
 came:Int
def bP:List One->Prop
 |[]=>True
 |[_]=>True
 |[x,y]=>x.a.aU<y.a.aU/\¬x.a.source=y.a.source
 |[x,y,z]=>(x.a.aU<y.a.aU/\x.a.aU<z.a.aU/\¬y.a.aU=z.a.aU)/\¬x.a.source=y.a.source/\¬x.a.source=z.a.source/\¬y.a.source=z.a.source
 |_=>False
def bC:List One->List Sd.Ask
 |[]=>[]
 |[x]=>[x.a]
 |[x,y]=>[x.a,y.a]
 |[x,y,z]=>if y.a.aU<z.a.aU then[x.a,y.a,z.a]else[x.a,z.a,y.a]
 |_=>[]
def ajm (t:One):Array Value:=#[.int .i64 t.a.source,.int .i64 t.a.aU,.int .i64 t.a.gu.n,.int .i64 t.a.gu.most,.int .u64 t.came]
def dM:List One->List Value
 |[]=>[]
 |e::es=>(ajm e).toList++dM es
def kP:List Sd.Ask->List Value
 |[]=>[]
 |e::es=>(U7 e).toList++kP es
def QS (bq:Nat) (most:Int) (L:List Sd.Ask) (bl:List ax):Prop:=∃es x c came rows,bl=⟨bq,true,.cells #[.slice x es.length c,.int .i64 most,.int .u64 came] 132 (0,0)⟩::rows/\eH 5 146 (dM es) x es.length c rows/\bP es/\bC es=L
def mQ (e:One):List V:=[.int .i64 e.a.source,.int .i64 e.a.aU,.int .i64 e.a.gu.n,.int .i64 e.a.gu.most,.int .u64 e.came]
def j6 (a:Sd.Ask):List V:=[.int .i64 a.source,.int .i64 a.aU,.int .i64 a.gu.n,.int .i64 a.gu.most]
def bT:List One->List V
 |[]=>[]
 |e::l=>mQ e++bT l
def c9 (l:List One) (t:List Value):VB:=⟨true,⟨146,(0,0)⟩,bT l++[.rest t]⟩
def bF (v:V) (most came:Int):VB:=⟨true,⟨132,(0,0)⟩,[v,.int .i64 most,.int .u64 came]⟩
theorem eM (ids:List Nat):∀l:List One,af ids (bT l)=dM l
 |[]=>rfl
 |a::l=>by rw[bT,bj,eM ids l];rfl
theorem sE:∀l:List One,(dM l).length=l.length*5
 |[]=>rfl
 |a::l=>by simp only[dM,List.length_append,sE l,List.length_cons,Nat.add_mul];show 5+_=_;omega
def pL (n:Nat) (f:FuncId) (args:List V) (bl:List VB) (K:VK Empty):Prop:=cI (nz prog (λ_=>none) ([]:List (dF Empty)) (NQ prog) ub) n f args bl [] K
theorem nE {n f n0:Nat} {args:List V} {bl:List VB} {K:VK Empty} (h:pL n f args bl (du n0 K)) {ids:List Nat} (hl:ids.length=bl.length) (hn:n0<=ids.length) {bs:List ax} {ms:List Nat} {w0 w:World} (S:St ms w0 (lits ids ids bl++bs) w):
 ak prog f (aq ids args).toArray w λv w1=>∃x more b,v=den (ids.take n0++more) x/\(ids.take n0++more).length=b.length/\St ms w0 (lits (ids.take n0++more) (ids.take n0++more) b++bs) w1/\K x b []:=by
 refine(bw (ah.nil (G:=Empty) (P:=prog) (gl:=λ_=>none)).T (ah.nil (G:=Empty) (P:=prog) (gl:=λ_=>none)).Q n (C:=nz prog (λ_=>none) ([]:List (dF Empty)) (NQ prog) ub) (ids:=ids) (bl:=bl) (ch:=[]) (R:=bs) Gl.none hl S h).mono ?_;rintro v w' ⟨y,more,bl',ch',rfl,h1,S',hK⟩
 match ch',S',hK with
 |[],S',hK=>
  obtain⟨v2,aS,bl2,e,gH,S2,hK⟩:=dr (n0:=n0) h1 (by simp;omega) S' hK;rw[List.take_append_of_le_length hn]at e gH S2;exact⟨v2,aS,bl2,e,gH,S2,hK⟩
 |e::_,_,_=>nomatch e
def KP (most:Int) (y:V) (M:List Sd.Ask):VK Empty:=λx b _=>x=y/\∃es cm,bP es/\bC es=M/\((es=[]/\b=[bF (.raw (.slice none 0 0)) most cm])\/∃c t,b=[bF (.sl 1 0 es.length c) most cm,⟨true,⟨146,(0,0)⟩,bT es++t⟩]/\cG 0 t=true/\es.length<=c/\eF (bT es++t)=c*5)
theorem Pv {f:Nat} {ar:List V} {most came:Int} {y:V} {M:List Sd.Ask} {es:List One} {x:Option Addr} {c bq:Nat} {rows bs:List ax} {ms:List Nat} {w0 w:World} (hy:fu 0 y=true) (hr:eH 5 146 (dM es) x es.length c rows)
 (hz:es=[]->pL 90 f (.ptr 0 0::ar) [bF (.raw (.slice none 0 0)) most came] (du 1 (KP most y M)))
 (h:∀t,es.length<=c->eF (bT es++[.rest t])=c*5->pL 90 f (.ptr 0 0::ar) [bF (.sl 1 0 es.length c) most came,c9 es t] (du 1 (KP most y M)))
 (has:∀ids,aq ids ar=aq [] ar) (S:St ms w0 (⟨bq,true,.cells #[.slice x es.length c,.int .i64 most,.int .u64 came] 132 (0,0)⟩::(rows++bs)) w):
 ak prog f (#[.pointer (some ⟨bq,0,none⟩)]++(aq [] ar).toArray) w λv w1=>∃bl',v=den [] y/\QS bq most M bl'/\St ms w0 (bl'++bs) w1:=by
 have fin:∀ids:List Nat,(∃r,ids=bq::r)->ak prog f (aq ids (.ptr 0 0::ar)).toArray w (λv w1=>∃x more b,v=den (ids.take 1++more) x/\(ids.take 1++more).length=b.length/\St ms w0 (lits (ids.take 1++more) (ids.take 1++more) b++bs) w1/\KP most y M x b [])->
  ak prog f (#[.pointer (some ⟨bq,0,none⟩)]++(aq [] ar).toArray) w λv w1=>∃bl',v=den [] y/\QS bq most M bl'/\St ms w0 (bl'++bs) w1:=by
  rintro ids ⟨r,rfl⟩ hg;have e0:(aq (bq::r) (.ptr 0 0::ar)).toArray=#[.pointer (some ⟨bq,0,none⟩)]++(aq [] ar).toArray:=by
   apply Array.ext';simp only[aq,den,has,Array.toList_append];rfl
  rw[e0]at hg;refine hg.mono ?_;rintro v w1 ⟨v2,more,b,rfl,hl,S1,rfl,MS,cm,hH,hA,hb⟩;simp only[List.take_succ_cons,List.take_zero,List.singleton_append]at hl S1⊢;have ey:den (bq::more) v2=den [] v2:=bx (ids:=[]) (more:=bq::more) v2 hy;rcases hb with⟨rfl,rfl⟩|⟨c',t,rfl,ht,hc,hs⟩
  ·obtain rfl:more=[]:=by simpa using hl
   exact⟨_,ey,⟨[],none,0,cm,[],rfl,ib _ _,hH,hA⟩,S1⟩
  ·match more,hl with
   |[b2],_=>
    have e1:af [bq,b2] (bT MS++t)=dM MS++af [] t:=by
     rw[bj,eM];exact congrArg _ (bY (ids:=[]) (more:=[bq,b2]) t ht)
    have e2:lits [bq,b2] [bq,b2] [bF (.sl 1 0 MS.length c') most cm,⟨true,⟨146,(0,0)⟩,bT MS++t⟩]=⟨bq,true,.cells #[.slice (some ⟨b2,0,none⟩) MS.length c',.int .i64 most,.int .u64 cm] 132 (0,0)⟩::[⟨b2,true,.cells (dM MS++af [] t).toArray 146 (0,0)⟩]:=by
     rw[<-e1];rfl
    rw[e2]at S1;refine⟨_,ey,⟨MS,some ⟨b2,0,none⟩,c',cm,_,rfl,⟨sE MS,hc,.inr ⟨b2,af [] t,rfl,rfl,?_⟩⟩,hH,hA⟩,S1⟩;rw[<-e1,cP,hs]
 obtain⟨_,hle,jM⟩:=hr;rcases jM with⟨rfl,h0,rfl,rfl⟩|⟨b,t,rfl,rfl,hlen⟩
 ·obtain rfl:es=[]:=List.eq_nil_of_length_eq_zero h0;exact fin [bq] ⟨[],rfl⟩ (nE (hz rfl) rfl (by simp) S)
 ·have e3:lits [bq,b] [bq,b] [bF (.sl 1 0 es.length c) most came,c9 es t]=⟨bq,true,.cells #[.slice (some ⟨b,0,none⟩) es.length c,.int .i64 most,.int .u64 came] 132 (0,0)⟩::[⟨b,true,.cells (dM es++t).toArray 146 (0,0)⟩]:=by
   simp only[lits,aL,c9,bj,eM,af,cl,List.append_nil];rfl
  refine fin [bq,b] ⟨[b],rfl⟩ (nE (h t hle ?_) rfl (by simp) (by rw[e3];exact S));rw[<-cP (ids:=[]),bj,eM];simpa[af,cl]using hlen
def yj (a b:One) (X Y:Prop):Prop:=cond (a.a.aU !=b.a.aU) (cond (decide (a.a.aU<b.a.aU)) X Y) (cond (decide (a.came<b.came)) X Y)
def tq (a b:One) (X Y:Prop):Prop:=cond (a.a.aU !=b.a.aU) (cond (!decide (a.a.aU<b.a.aU)) Y X) (cond (!decide (a.came<b.came)) Y X)
def vL (s:Int) (Pw:Nat->Prop) (Px:Prop):List One->Nat->Prop
 |[],_=>Px
 |e::l,i=>cond (e.a.source==s) (Pw i) (vL s Pw Px l (i+1))
def rmP (k:List One->Prop):List One->Nat->Prop
 |[a,b],0=>k [b,a]
 |[a,b,c],0=>tq b c (k [b,c,a]) (k [c,b,a])
 |[a,b,c],1=>tq c a (k [c,a,b]) (k [a,c,b])
 |l,_=>k l
def CS (es:List One) (s:Int) (k:Bool->List One->Nat->Prop):Prop:=vL s (λi=>rmP (λl=>k true l (es.length-1)) es i) (k false es es.length) es 0
theorem uf {a b:One} {X Y:Prop} (hr:¬a.a.aU=b.a.aU) (h1:a.a.aU<b.a.aU->X) (h2:b.a.aU<a.a.aU->Y):yj a b X Y:=by
 unfold yj;have e:(a.a.aU !=b.a.aU)=true:=by simpa using hr
 rw[e,cond_true];exact aO (λh=>h1 (of_decide_eq_true h)) λh=>h2 (by have:=of_decide_eq_false h;omega)
theorem qK {a b:One} {X Y:Prop} (hr:¬a.a.aU=b.a.aU) (h1:a.a.aU<b.a.aU->X) (h2:b.a.aU<a.a.aU->Y):tq a b X Y:=by
 unfold tq;have e:(a.a.aU !=b.a.aU)=true:=by simpa using hr
 rw[e,cond_true];exact aO (λh=>h2 (by have:¬a.a.aU<b.a.aU:=by simpa using h
                                      omega)) λh=>h1 (by simpa using h)
theorem Py (s:Int) {k:Bool->List One->Nat->Prop}:∀{es:List One},bP es->(∀b l m,b=Sd.Q.waits (bC es) s->l.length=es.length->bP (l.take m)->bC (l.take m)=Sd.Q.drop (bC es) s->m<=es.length->k b l m)->CS es s k
 |[],hH,h=>h _ [] 0 rfl rfl trivial rfl (by simp)
 |[a],hH,h=>by
  simp only[CS,vL,rmP];refine aO (λh1=>h _ _ _ ?_ rfl ?_ ?_ ?_) (λh1=>h _ _ _ ?_ rfl ?_ ?_ ?_)<;>simp at h1<;>simp[bC,bP,Sd.Q.drop,Sd.Q.waits,h1]
 |[a,b],hH,h=>by
  simp only[CS,vL,rmP];obtain⟨hr,hs⟩:=hH;have w9:¬b.a.source=a.a.source:=λh=>hs h.symm;refine aO (λh1=>?_) (λh1=>aO (λh2=>?_) (λh2=>?_));all_goals
   refine h _ _ _ ?_ rfl ?_ ?_ ?_<;>clear h;all_goals (simp only[beq_iff_eq,beq_eq_false_iff_ne,ne_eq]at*;subst_vars;simp[bC,bP,Sd.Q.drop,Sd.Q.waits, *])
 |[a,b,c],hH,h=>by
  simp only[CS,vL,rmP];obtain⟨⟨r1,r2,r3⟩,s1,s2,s3⟩:=hH;have s1':¬b.a.source=a.a.source:=λh=>s1 h.symm;have s2':¬c.a.source=a.a.source:=λh=>s2 h.symm;have s3':¬c.a.source=b.a.source:=λh=>s3 h.symm;have r4:b.a.aU<c.a.aU\/c.a.aU<b.a.aU:=by omega
  refine aO (λh1=>qK r3 (λh4=>?_) (λh4=>?_)) (λh1=>aO (λh2=>qK (by omega) (λh4=>absurd h4 (by omega)) (λh4=>?_)) (λh2=>aO (λh3=>?_) (λh3=>?_)));all_goals
   refine h _ _ _ ?_ rfl ?_ ?_ ?_<;>clear h;all_goals (rcases r4 with r4|r4<;>have r5:=Int.lt_asymm r4<;>simp only[beq_iff_eq,beq_eq_false_iff_ne,ne_eq]at*<;>subst_vars<;>simp[bC,bP,Sd.Q.drop,Sd.Q.waits, *]<;>omega)
 |_::_::_::_::_,hH,_=>absurd hH (by simp[bP])
def Y6 (x:One) (k:List One->Prop):List One->Prop
 |[]=>k [x]
 |[a]=>tq x a (k [x,a]) (k [a,x])
 |[a,b]=>tq x a (k [x,b,a]) (k [a,b,x])
 |[a,b,c]=>tq x b (tq x a (k [x,a,c,b]) (k [a,x,c,b])) (k [a,b,c,x])
 |_=>False
theorem Pz (x:One) {k:List One->Prop}:∀{es:List One},bP es->es.length<3->(∀e∈bC es,¬e.source=x.a.source/\¬e.aU=x.a.aU)->(∀l,l.length=es.length+1->bP l->bC l=Sd.Q.insert (bC es) x.a->k l)->Y6 x k es
 |[],hH,_,_,h=>h _ rfl trivial rfl
 |[a],hH,_,hr,h=>by
  obtain⟨h1,h2⟩:=hr a.a (by simp[bC]);have h1':¬x.a.source=a.a.source:=λh=>h1 h.symm;refine qK (by omega) (λh4=>h _ rfl ?_ ?_) (λh4=>h _ rfl ?_ ?_)<;>clear h<;>have h5:=Int.lt_asymm h4<;>have h6:=Int.le_of_lt h4<;>have h7:=Int.not_le.2 h4<;>simp[bC,bP,Sd.Q.insert,List.takeWhile,List.dropWhile, *]
 |[a,b],hH,_,hr,h=>by
  obtain⟨r1,s1⟩:=hH;obtain⟨h1,h2⟩:=hr a.a (by simp[bC]);obtain⟨g1,g2⟩:=hr b.a (by simp[bC]);have h1':¬x.a.source=a.a.source:=λh=>h1 h.symm;have g1':¬x.a.source=b.a.source:=λh=>g1 h.symm;have s1':¬b.a.source=a.a.source:=λh=>s1 h.symm;have r4:b.a.aU<x.a.aU\/x.a.aU<b.a.aU:=by omega
  refine qK (by omega) (λh4=>h _ rfl ?_ ?_) (λh4=>h _ rfl ?_ ?_)<;>clear h hr<;>rcases r4 with r4|r4<;>have r5:=Int.lt_asymm r4<;>have r6:=Int.le_of_lt r4<;>have r7:=Int.not_le.2 r4<;>have h5:=Int.lt_asymm h4<;>have h6:=Int.le_of_lt h4<;>have h7:=Int.not_le.2 h4<;>have r8:=Int.lt_asymm r1<;>
   simp[bC,bP,Sd.Q.insert,List.takeWhile,List.dropWhile, *]<;>omega
 |_::_::_::_,_,hl,_,_=>absurd hl (by simp)
def Y7 (k:List One->Prop):List One->Prop
 |[a,b]=>yj b a (k [b,a]) (k [a,b])
 |[a,b,c]=>yj b a (S b a c) (S a b c)
 |l=>k l
where S (p q c:One):Prop:=yj c q (yj c p (k [c,p,q]) (k [p,c,q])) (k [p,q,c])
theorem PA {k:List One->Prop}:∀{es:List One},bP es->(∀l,l.map (·.a)=bC es->l.length=es.length->k l)->Y7 k es
 |[],hH,h=>h _ rfl rfl
 |[a],hH,h=>h _ rfl rfl
 |[a,b],hH,h=>uf (by obtain⟨r,_⟩:=hH;omega) (λh4=>absurd h4 (by obtain⟨r,_⟩:=hH;omega)) λ_=>h _ rfl rfl
 |[a,b,c],hH,h=>by
  obtain⟨⟨r1,r2,r3⟩,_⟩:=hH;refine uf (by omega) (λh4=>absurd h4 (by omega)) λ_=>uf (by omega) (λh4=>uf (by omega) (λh5=>absurd h5 (by omega)) λ_=>h _ ?_ rfl) λh4=>h _ ?_ rfl
  ·simp[bC,Int.lt_asymm h4]
  ·simp[bC,h4]
 |_::_::_::_::_,hH,_=>absurd hH (by simp[bP])
theorem CT {most cm:Int} {y:V} {M:List Sd.Ask} {l:List One} {m c:Nat} {t:List Value} (hm:m<=l.length) (hc:l.length<=c) (hs:eF (bT l++[.rest t])=c*5) (hH:bP (l.take m)) (hA:bC (l.take m)=M):KP most y M y [bF (.sl 1 0 m c) most cm,c9 l t] []:=by
 have e1:(l.take m).length=m:=by rw[List.length_take];omega
 have e2:∀a b:List One,bT (a++b)=bT a++bT b:=λa b=>by
  induction a with
  |nil=>rfl
  |cons x a ih=>simp only[List.cons_append,bT,ih,List.append_assoc]
 have e3:bT l++[.rest t]=bT (l.take m)++(bT (l.drop m)++[.rest t]):=by
  rw[<-List.append_assoc,<-e2,List.take_append_drop]
 have e4:∀l:List One,cG 0 (bT l++[.rest t])=true:=λl=>by
  induction l with
  |nil=>rfl
  |cons x l ih=>simp only[bT,mQ,List.cons_append,List.nil_append,cG,ih];rfl
 refine⟨rfl,l.take m,cm,hH,hA,.inr ⟨c,bT (l.drop m)++[.rest t],?_,e4 _,by omega,by rw[<-e3];exact hs⟩⟩;rw[e1,<-e3];rfl
theorem gB (t:List Value):∀l:List One,eF (bT l++[.rest t])=l.length*5+t.length
 |[]=>by simp[bT,eF,szV]
 |e::l=>by
  have:=gB t l;simp only[bT,mQ,List.cons_append,List.nil_append,eF,szV,this,List.length_cons];omega
section
variable(e0 e1 e2:One) (n c:Nat) (t:List Value) (most came s:Int) (K:VK Empty)
def dK (l:List One):Prop:=CS l s λr l m=>K (.bool r) [bF (.sl 1 0 m c) most came,c9 l t] []
theorem abQ:pL 90 102 [.ptr 0 0,.int .i64 s] [bF (.raw (.slice none 0 0)) most came] (du 1 K)=K (.bool false) [bF (.raw (.slice none 0 0)) most came] []:=by kernel_rfl
theorem abR:pL 90 102 [.ptr 0 0,.int .i64 s] [bF (.sl 1 0 0 c) most came,c9 [] t] (du 1 K)=dK c t most came s K []:=by kernel_rfl
theorem abS:pL 90 102 [.ptr 0 0,.int .i64 s] [bF (.sl 1 0 [e0].length (c+[e0].length)) most came,c9 [e0] t] (du 1 K)=dK (c+[e0].length) t most came s K [e0]:=by kernel_rfl
theorem abT:pL 90 102 [.ptr 0 0,.int .i64 s] [bF (.sl 1 0 [e0,e1].length (c+[e0,e1].length)) most came,c9 [e0,e1] t] (du 1 K)=dK (c+[e0,e1].length) t most came s K [e0,e1]:=by kernel_rfl
theorem abU:pL 90 102 [.ptr 0 0,.int .i64 s] [bF (.sl 1 0 [e0,e1,e2].length (c+[e0,e1,e2].length)) most came,c9 [e0,e1,e2] t] (du 1 K)=dK (c+[e0,e1,e2].length) t most came s K [e0,e1,e2]:=by kernel_rfl
end
theorem PB {c:Nat} {t:List Value} {most came s:Int} {K:VK Empty}:∀{es:List One},bP es->dK (c+es.length) t most came s K es->Hd (pL 90 102 [.ptr 0 0,.int .i64 s] [bF (.sl 1 0 es.length (c+es.length)) most came,c9 es t] (du 1 K))
 |[],_,h=>⟨by rw[List.length_nil,abR];exact h⟩
 |[e0],_,h=>⟨by rw[abS];exact h⟩
 |[e0,e1],_,h=>⟨by rw[abT];exact h⟩
 |[e0,e1,e2],_,h=>⟨by rw[abU];exact h⟩
 |_::_::_::_::_,hH,_=>absurd hH (by simp[bP])
theorem VJ {es:List One} (hH:bP es) {most came s:Int} {c:Nat} {t:List Value} (hc:es.length<=c) (hs:eF (bT es++[.rest t])=c*5):dK c t most came s (KP most (.bool (Sd.Q.waits (bC es) s)) (Sd.Q.drop (bC es) s)) es:=
 Py s hH λb l m hb hl h1 h2 hm=>by
  subst hb;exact CT (by omega) (by omega) (by rw[<-hs,gB,gB,hl]) h1 h2
theorem abV {bq:Nat} {most:Int} {L:List Sd.Ask} {bl bs:List ax} {ms:List Nat} {w0 w:World} (s:Int) (hQ:QS bq most L bl) (S0:St ms w0 (bl++bs) w):
 ak prog 102 #[.pointer (some ⟨bq,0,none⟩),.int .i64 s] w λv w1=>∃bl',v=.bool (Sd.Q.waits L s)/\QS bq most (Sd.Q.drop L s) bl'/\St ms w0 (bl'++bs) w1:=by
 obtain⟨es,x,c,came,rows,rfl,hr,hH,rfl⟩:=hQ;refine Pv (f:=102) (ar:=[.int .i64 s]) (y:=.bool (Sd.Q.waits (bC es) s)) rfl hr (λh0=>?_) (λt hc hs=>?_) (λ_=>rfl) S0
 ·subst h0;rw[abQ];exact⟨rfl,[],came,trivial,rfl,.inl ⟨rfl,rfl⟩⟩
 ·have h:=VJ hH (most:=most) (came:=came) (s:=s) hc hs;obtain⟨d,hd⟩:∃d,c=d+es.length:=⟨c-es.length,by omega⟩;rw[hd]at h⊢;exact(PB hH h).h
section
variable(e0 e1 e2:One) (a:Sd.Ask) (c:Nat) (t:List Value) (most came:Int) (K:VK Empty)
def pK (es:List One) (n c':Nat) (u:List Value):Prop:=Y6 ⟨a,came⟩ (λl=>K (.int .i64 0) [bF (.sl 1 0 n c') most (u64.wrap (came+1)),c9 l u] []) es
def pX (es:List One):Prop:=vL a.source (λ_=>K (.int .i64 27) [bF (.sl 1 0 es.length c) most came,c9 es t] []) (cond (decide ((es.length:Int)>=most)) (K (.int .i64 3) [bF (.sl 1 0 es.length c) most came,c9 es t] [])
 ((es.length<=c/\eF (bT es++[.rest t])=c*5)/\(∀(c':Nat) (u:List Value),es.length+1<=c'->eF (bT (es++[⟨a,came⟩])++[.rest u])=c'*5->pK a most came K es (es.length+1) c' u)/\
   (∀(c':Nat) (u:List Value),es.length+1<=c'->eF (bT (es++[⟨a,came⟩])++[.rest u])=c'*5->pK a most came K es (es.length+1) c' u))) es 0
theorem abW:pL 90 208 [.ptr 0 0,.agg (j6 a)] [bF (.raw (.slice none 0 0)) most came] (du 1 K)=cond (decide ((0:Int)>=most)) (K (.int .i64 3) [bF (.raw (.slice none 0 0)) most came] [])
 (∀(c':Nat) (u:List Value),1<=c'->eF (bT [⟨a,came⟩]++[.rest u])=c'*5->pK a most came K [] 1 c' u):=by kernel_rfl
theorem abX:pL 90 208 [.ptr 0 0,.agg (j6 a)] [bF (.sl 1 0 0 0) most came,c9 [] t] (du 1 K)=cond (decide ((0:Int)>=most)) (K (.int .i64 3) [bF (.sl 1 0 0 0) most came,c9 [] t] [])
 (∀(c':Nat) (u:List Value),1<=c'->eF (bT [⟨a,came⟩]++[.rest u])=c'*5->pK a most came K [] 1 c' u):=by kernel_rfl
theorem abY:pL 90 208 [.ptr 0 0,.agg (j6 a)] [bF (.sl 1 0 0 (c+1)) most came,c9 [] t] (du 1 K)=pX a (c+1) t most came K []:=by kernel_rfl
theorem abZ:pL 90 208 [.ptr 0 0,.agg (j6 a)] [bF (.sl 1 0 [e0].length c) most came,c9 [e0] t] (du 1 K)=pX a c t most came K [e0]:=by kernel_rfl
theorem ab0:pL 90 208 [.ptr 0 0,.agg (j6 a)] [bF (.sl 1 0 [e0,e1].length c) most came,c9 [e0,e1] t] (du 1 K)=pX a c t most came K [e0,e1]:=by kernel_rfl
theorem ab3:pL 90 208 [.ptr 0 0,.agg (j6 a)] [bF (.sl 1 0 [e0,e1,e2].length c) most came,c9 [e0,e1,e2] t] (du 1 K)=pX a c t most came K [e0,e1,e2]:=by kernel_rfl
end
def KS (n:Nat) (B:List VB) (M:List Sd.Ask):VK Empty:=λx b _=>∃l c u,x=.sl 2 0 n c/\b=B++[c9 l u]/\l.map (·.a)=M/\l.length=n/\n<=c/\eF (bT l++[.rest u])=c*5
section
variable(e0 e1 e2:One) (c:Nat) (t:List Value) (most came:Int) (K:VK Empty)
def sX (es:List One):Prop:=∀(c':Nat) (u:List Value),es.length<=c'->eF (bT es++[.rest u])=c'*5->Y7 (λl=>K (.sl 2 0 es.length c') [bF (.sl 1 0 es.length c) most came,c9 es t,c9 l u] []) es
theorem agb:pL 90 59 [.ptr 0 0] [bF (.raw (.slice none 0 0)) most came] (du 1 K)=K (.raw (.slice none 0 0)) [bF (.raw (.slice none 0 0)) most came] []:=by kernel_rfl
theorem agc:pL 90 59 [.ptr 0 0] [bF (.sl 1 0 0 c) most came,c9 [] t] (du 2 K)=K (.sl 2 0 0 0) [bF (.sl 1 0 0 c) most came,c9 [] t,⟨true,⟨146,(0,0)⟩,[]⟩] []:=by kernel_rfl
theorem agd:pL 90 59 [.ptr 0 0] [bF (.sl 1 0 [e0].length (c+[e0].length)) most came,c9 [e0] t] (du 2 K)=sX (c+[e0].length) t most came K [e0]:=by kernel_rfl
theorem agf:pL 90 59 [.ptr 0 0] [bF (.sl 1 0 [e0,e1].length (c+[e0,e1].length)) most came,c9 [e0,e1] t] (du 2 K)=sX (c+[e0,e1].length) t most came K [e0,e1]:=by kernel_rfl
theorem agh:pL 90 59 [.ptr 0 0] [bF (.sl 1 0 [e0,e1,e2].length (c+[e0,e1,e2].length)) most came,c9 [e0,e1,e2] t] (du 2 K)=sX (c+[e0,e1,e2].length) t most came K [e0,e1,e2]:=by kernel_rfl
def CU (b:VB):VB:=⟨false,b.ty,b.c⟩
def fK:List Sd.Ask->Sd.Ask×Int
 |[]=>(⟨0,0,⟨0,0⟩⟩,2)
 |a::_=>(a,0)
def hV (l:List Sd.Ask):V:=.aC [.agg (j6 (fK l).1),.int .i64 (fK l).2]
theorem ab4:pL 30 197 [.ptr 0 0] [CU (bF (.raw (.slice none 0 0)) most came)] (du 0 K)=K (hV []) [] []:=by kernel_rfl
theorem ab5:pL 30 197 [.ptr 0 0] [CU (bF (.sl 1 0 0 c) most came),CU (c9 [] t)] (du 0 K)=K (hV []) [] []:=by kernel_rfl
theorem ab6:pL 30 197 [.ptr 0 0] [CU (bF (.sl 1 0 [e0].length c) most came),CU (c9 [e0] t)] (du 0 K)=K (hV [e0.a]) [] []:=by kernel_rfl
theorem ab7:pL 30 197 [.ptr 0 0] [CU (bF (.sl 1 0 [e0,e1].length c) most came),CU (c9 [e0,e1] t)] (du 0 K)=K (hV [e0.a]) [] []:=by kernel_rfl
theorem ab8:pL 30 197 [.ptr 0 0] [CU (bF (.sl 1 0 [e0,e1,e2].length c) most came),CU (c9 [e0,e1,e2] t)] (du 0 K)=K (hV [e0.a]) [] []:=by kernel_rfl
end
def PC (n:Nat) (es:List One) (k0:Option Addr->Nat->Prop) (k:Nat->List One->List Value->Prop):Prop:=match n with
 |0=>∀(x:Option Addr) (c:Nat),k0 x c
 |1=>∀(a:One) (c:Nat) (t:List Value),[a.a]=bC es->k c [a] t
 |2=>∀(a b:One) (c:Nat) (t:List Value),[a.a,b.a]=bC es->k c [a,b] t
 |3=>∀(a b d:One) (c:Nat) (t:List Value),[a.a,b.a,d.a]=bC es->k c [a,b,d] t
 |_=>False
def ug (n:Nat) (es:List One) (most came:Int):gZ aE:=λargs bl ch K=>match args,bl,ch with
 |[.ptr 0 0],[b],[g1,g2,g]=>(b=bF g.v most came/\g.T=146/\g.z=5/\g.os=dM es/\g.n=es.length/\es.length=n/\bP es)/\PC n es (λx c=>K (.raw (.slice x 0 c)) bl ch) (λc l t=>K (.sl 1 0 n c) (bl++[c9 l t]) ch)
 |_,_,_=>False
def apps (r:aE) (news:List Value) (k:aE->Prop):Prop:=(r.v=r.v/\r.n+1<=1000000)/\∀(xa:Option Addr) (c:Nat) (bk:List ax) (h:eH r.z r.T (r.os++news) xa (r.n+1) c bk),k ⟨r.T,r.z,r.os++news,xa,r.n+1,c,bk,h⟩
def VL (g:aE) (T z:Nat) (os:List Value) (n:Nat):Prop:=g.T=T/\g.z=z/\g.os=os/\g.n=n
theorem sG:∀a b:List Sd.Ask,kP (a++b)=kP a++kP b
 |[],b=>rfl
 |x::a,b=>by simp only[List.cons_append,kP,sG a b,List.append_assoc]
theorem Ar {r:aE} {news:List Value} {k:aE->Prop} {T z n:Nat} {os:List Value} (h:VL r T z os n) (hn:n<100) (hk:∀r',VL r' T z (os++news) (n+1)->k r'):apps r news k:=by
 obtain⟨rfl,rfl,rfl,rfl⟩:=h;exact⟨⟨rfl,by omega⟩,λxa c bk hh=>hk _ ⟨rfl,rfl,rfl,rfl⟩⟩
theorem vM {es:List One} (h:bP es):(bC es).length=es.length/\es.length<=3:=by
 match es,h with
 |[],_=>simp[bC]
 |[x],_=>simp[bC]
 |[x,y],h=>simp[bC]
 |[x,y,z],h=>simp only[bC];split<;>simp
 |_::_::_::_::_,h=>exact absurd h (by simp[bP])
theorem VM {n:Nat} {es l:List One} {k0:Option Addr->Nat->Prop} {k:Nat->List One->List Value->Prop} (h:PC n es k0 k) (hl:l.length=n) (hm:l.map (·.a)=bC es):(n=0->∀x c,k0 x c)/\(0<n->∀c t,k c l t):=by
 match l,n,hl with
 |[],0,_=>exact⟨λ_=>h,λh=>by omega⟩
 |[a],1,_=>exact⟨λh=>by omega,λ_ c t=>h a c t hm⟩
 |[a,b],2,_=>exact⟨λh=>by omega,λ_ c t=>h a b c t hm⟩
 |[a,b,d],3,_=>exact⟨λh=>by omega,λ_ c t=>h a b d c t hm⟩
 |_::_::_::_::_,n+4,_=>exact h.elim
theorem Ii {n:Nat} {es:List One} {k0:Option Addr->Nat->Prop} {k:Nat->List One->List Value->Prop} (hn:n<=3) (h0:n=0->∀x c,k0 x c) (h:∀l c t,l.map (·.a)=bC es->l.length=n->k c l t):PC n es k0 k:=by
 match n,hn with
 |0,_=>exact h0 rfl
 |1,_=>exact λa c t hm=>h [a] c t hm rfl
 |2,_=>exact λa b c t hm=>h [a,b] c t hm rfl
 |3,_=>exact λa b d c t hm=>h [a,b,d] c t hm rfl
theorem VN {c:Nat} {t:List Value} {most came:Int} {K:VK Empty}:∀{es:List One},bP es->0<es.length->sX (c+es.length) t most came K es->Hd (pL 90 59 [.ptr 0 0] [bF (.sl 1 0 es.length (c+es.length)) most came,c9 es t] (du 2 K))
 |[],_,h0,_=>absurd h0 (by simp)
 |[e0],_,_,h=>⟨by rw[agd];exact h⟩
 |[e0,e1],_,_,h=>⟨by rw[agf];exact h⟩
 |[e0,e1,e2],_,_,h=>⟨by rw[agh];exact h⟩
 |_::_::_::_::_,hH,_,_=>absurd hH (by simp[bP])
theorem PD {es:List One} {x:Option Addr} {c bq:Nat} {most came:Int} {rows bs:List ax} {ms:List Nat} {w0 w:World} (jM:eH 5 146 (dM es) x es.length c rows) (hH:bP es)
 (S0:St ms w0 (⟨bq,true,.cells #[.slice x es.length c,.int .i64 most,.int .u64 came] 132 (0,0)⟩::(rows++bs)) w):
 ak prog 59 #[.pointer (some ⟨bq,0,none⟩)] w λv w1=>∃l xr cr rw,v=.slice xr es.length cr/\l.map (·.a)=bC es/\l.length=es.length/\(es.length=0\/eH 5 146 (dM l) xr es.length cr rw)/\St ms w0 (rw++(⟨bq,true,.cells #[.slice x es.length c,.int .i64 most,.int .u64 came] 132 (0,0)⟩::(rows++bs))) w1:=by
 obtain⟨_,hle,jM⟩:=jM;rcases jM with⟨rfl,h0,rfl,rfl⟩|⟨b,t,rfl,rfl,hlen⟩
 ·obtain rfl:es=[]:=List.eq_nil_of_length_eq_zero h0;refine(nE (f:=59) (n:=90) (args:=[.ptr 0 0]) (n0:=1) (K:=λx b _=>x=.raw (.slice none 0 0)/\b=[bF (.raw (.slice none 0 0)) most came]) (ids:=[bq]) (bl:=[bF (.raw (.slice none 0 0)) most came]) (by rw[agb];exact⟨rfl,rfl⟩) rfl (by simp) S0).mono ?_;rintro v w1 ⟨x,more,b,rfl,hl,S1,rfl,rfl⟩;obtain rfl:more=[]:=by simpa using hl
  exact⟨[],none,0,[],rfl,rfl,rfl,.inl rfl,S1⟩
 ·have e3:lits [bq,b] [bq,b] [bF (.sl 1 0 es.length c) most came,c9 es t]=⟨bq,true,.cells #[.slice (some ⟨b,0,none⟩) es.length c,.int .i64 most,.int .u64 came] 132 (0,0)⟩::[⟨b,true,.cells (dM es++t).toArray 146 (0,0)⟩]:=by
   simp only[lits,aL,c9,bj,eM,af,cl,List.append_nil];rfl
  have S1:St ms w0 (lits [bq,b] [bq,b] [bF (.sl 1 0 es.length c) most came,c9 es t]++bs) w:=by rw[e3];exact S0
  rcases Nat.eq_zero_or_pos es.length with h0|h0
  ·obtain rfl:es=[]:=List.eq_nil_of_length_eq_zero h0;refine(nE (f:=59) (n:=90) (args:=[.ptr 0 0]) (n0:=2) (K:=λx b _=>x=.sl 2 0 0 0/\b=[bF (.sl 1 0 0 c) most came,c9 [] t,⟨true,⟨146,(0,0)⟩,[]⟩]) (ids:=[bq,b]) (by rw[show([]:List One).length=0 from rfl,agc];exact⟨rfl,rfl⟩) rfl (by simp) S1).mono ?_;rintro v w1 ⟨x,more,bl',rfl,hl,S2,rfl,rfl⟩
   match more,hl with
   |[b2],_=>
    refine⟨[],some ⟨b2,0,none⟩,0,[],rfl,rfl,rfl,.inl rfl,?_⟩;have e5:lits [bq,b,b2] [bq,b,b2] [bF (.sl 1 0 0 c) most came,c9 [] t,⟨true,⟨146,(0,0)⟩,[]⟩]=[⟨bq,true,.cells #[.slice (some ⟨b,0,none⟩) 0 c,.int .i64 most,.int .u64 came] 132 (0,0)⟩,⟨b,true,.cells (dM []++t).toArray 146 (0,0)⟩]++[⟨b2,true,.cells #[] 146 (0,0)⟩]:=by
     simp only[List.cons_append,List.nil_append,lits,aL,c9,bT,dM,af,cl,List.append_nil];rfl
    have e4:([bq,b].take 2++[b2]:List Nat)=[bq,b,b2]:=rfl;rw[e4,e5]at S2;have:=S2.sub (List.Sublist.append_right (List.sublist_append_left [_,_] _) bs);exact this
  ·have fI:pL 90 59 [.ptr 0 0] [bF (.sl 1 0 es.length c) most came,c9 es t] (du 2 (KS es.length [bF (.sl 1 0 es.length c) most came,c9 es t] (bC es))):=by
    have h:sX c t most came (KS es.length [bF (.sl 1 0 es.length c) most came,c9 es t] (bC es)) es:=λc' u h1 h2=>PA hH λl hm hl=>⟨l,c',u,rfl,rfl,hm,hl,h1,by rw[<-h2,gB,gB,hl]⟩;clear hlen e3 S0 S1;obtain⟨d,hd⟩:∃d,c=d+es.length:=⟨c-es.length,by omega⟩;rw[hd]at h⊢;exact(VN hH h0 h).h
   refine(nE fI (ids:=[bq,b]) rfl (by simp) S1).mono ?_;rintro v w1 ⟨x,more,bl',rfl,hl,S2,l,c',u,rfl,rfl,hm,hll,Tc,iQ⟩
   match more,hl with
   |[b2],_=>
    have e4:([bq,b].take 2++[b2]:List Nat)=[bq,b,b2]:=rfl;have e5:lits [bq,b,b2] [bq,b,b2] ([bF (.sl 1 0 es.length c) most came,c9 es t]++[c9 l u])=⟨bq,true,.cells #[.slice (some ⟨b,0,none⟩) es.length c,.int .i64 most,.int .u64 came] 132 (0,0)⟩::⟨b,true,.cells (dM es++t).toArray 146 (0,0)⟩::[⟨b2,true,.cells (dM l++u).toArray 146 (0,0)⟩]:=by
     simp only[List.cons_append,List.nil_append,lits,aL,c9,bj,eM,af,cl,List.append_nil];rfl
    rw[e4,e5]at S2;refine⟨l,some ⟨b2,0,none⟩,c',[⟨b2,true,.cells (dM l++u).toArray 146 (0,0)⟩],rfl,hm,hll,.inr ⟨by rw[sE,hll],Tc,.inr ⟨b2,u,rfl,rfl,?_⟩⟩,?_⟩
    ·rw[<-iQ,<-cP (ids:=[]),bj,eM];simp[af,cl]
    ·exact S2.perm ((List.Perm.append_right bs (List.perm_append_comm (l₁:=[_,_]) (l₂:=[_]))))
theorem qM (n:Nat) (es:List One) (most came:Int):Sound prog (λ_=>none) 59 (ug n es most came):=by
 intro args ids bl ch R ms w0 w K hg hl S hc;unfold ug at hc;split at hc
 ·rename_i b g1 g2 g;obtain⟨⟨rfl,hT,hz,hos,hn,rfl,hH⟩,hK⟩:=hc
  match ids,hl with
  |[i],_=>
   have e1:lits [i] [i] [bF g.v most came]=[⟨i,true,.cells #[.slice g.x g.n g.c,.int .i64 most,.int .u64 came] 132 (0,0)⟩]:=rfl;have p1:∀(q:ax) (A B D:List ax),(([q]:List ax)++(A++(B++(D++R)))).Perm (q::(D++(A++(B++R)))):=by
    intro q A B D;refine List.Perm.cons q ?_;have:=List.perm_append_comm_assoc (A++B) D R;simpa[List.append_assoc]using this
   rw[e1]at S;have S1:=S.perm (p1 _ g1.bl g2.bl g.bl);have hr:=g.h;rw[hT,hz,hos,hn]at hr;rw[hn]at S1;refine(PD hr hH S1).mono ?_;rintro v w1 ⟨l,xr,cr,rw_,rfl,hm,hll,jM,S2⟩;obtain⟨k0,k1⟩:=VM hK hll hm;rcases Nat.eq_zero_or_pos es.length with h0|h0
   ·refine⟨_,[],_,_,?_,rfl,?_,k0 h0 xr cr⟩
    ·simp only[den];rw[h0]
    ·have S3:=S2.sub (List.sublist_append_right rw_ _);rw[<-hn]at S3;have S4:=S3.perm (p1 _ g1.bl g2.bl g.bl).symm;exact S4
   ·rcases jM with h|h
    ·omega
    ·obtain⟨_,_,h3⟩:=h;rcases h3 with⟨_,hz,_⟩|⟨b,t,hx,hbl,_⟩
     ·omega
     ·refine⟨_,[b],_,_,?_,rfl,?_,k1 h0 cr t⟩
      ·simp only[den];rw[hx];rfl
      ·rw[hbl,<-hn]at S2;have e2:lits ([i]++[b]) ([i]++[b]) ([bF g.v most came]++[c9 l t])=[⟨i,true,.cells #[.slice g.x g.n g.c,.int .i64 most,.int .u64 came] 132 (0,0)⟩]++[⟨b,true,.cells (dM l++t).toArray 146 (0,0)⟩]:=by
        simp only[List.singleton_append,lits,aL,c9,bj,eM,af,cl,List.append_nil];rfl
       rw[e2];refine S2.perm ?_;refine(List.Perm.append_left _ (p1 _ g1.bl g2.bl g.bl).symm).trans ?_;rw[List.append_assoc];exact List.perm_append_comm_assoc _ _ _
 ·exact hc.elim
theorem vN {es:List One} (h:bP es) (x:Sd.Ask):x∈bC es↔∃e∈es,e.a=x:=by
 match es,h with
 |[],_=>simp[bC]
 |[a],_=>simp[bC,eq_comm]
 |[a,b],_=>simp[bC,eq_comm]
 |[a,b,d],_=>
  simp only[bC];split<;>simp[eq_comm];exact or_congr_right or_comm
 |_::_::_::_::_,h=>exact absurd h (by simp[bP])
theorem CV {s:Int} {Pw:Nat->Prop} {Px:Prop}:∀{es:List One} {i:Nat},((∃e∈es,e.a.source=s)->∀i,Pw i)->((∀e∈es,¬e.a.source=s)->Px)->vL s Pw Px es i
 |[],_,_,h2=>h2 (by simp)
 |e::l,i,h1,h2=>aO (λh=>h1 ⟨e,by simp,by simpa using h⟩ i) λh=>CV (λ⟨x,hx,hs⟩=>h1 ⟨x,by simp[hx],hs⟩) λhl=>h2 λx hx=>by
  rcases List.mem_cons.1 hx with rfl|hx
  ·simpa using h
  ·exact hl x hx
theorem VO {es:List One} (hH:bP es) {a:Sd.Ask} {most came:Int} {c:Nat} {t:List Value} (hm:most<=3) (hr:∀e∈bC es,e.source=a.source\/¬e.aU=a.aU) (hc:es.length<=c) (hs:eF (bT es++[.rest t])=c*5):
 pX a c t most came (KP most (.int .i64 (Sd.Q.push most (bC es) a).2) (Sd.Q.push most (bC es) a).1) es:=by
 obtain⟨hal,Ei⟩:=vM hH;have same:∀k:Int,Sd.Q.push most (bC es) a=(bC es,k)->KP most (.int .i64 (Sd.Q.push most (bC es) a).2) (Sd.Q.push most (bC es) a).1 (.int .i64 k) [bF (.sl 1 0 es.length c) most came,c9 es t] []:=λk hk=>by
  rw[hk];exact CT (Nat.le_refl _) hc hs (by rw[List.take_length];exact hH) (by rw[List.take_length])
 refine CV (λ⟨e,he,hse⟩ _=>same 27 ?_) λMv=>aO (λh=>same 3 ?_) λh=>?_
 ·have:Sd.Q.waits (bC es) a.source=true:=List.any_eq_true.2 ⟨e.a,(vN hH _).2 ⟨e,he,rfl⟩,by simpa using hse⟩;simp[Sd.Q.push,this]
 all_goals
  have hw:Sd.Q.waits (bC es) a.source=false:=List.any_eq_false.2 λx hx=>by
   obtain⟨e,he,rfl⟩:=(vN hH _).1 hx;simpa using Mv e he
 ·have h':most<=((bC es).length:Int):=by rw[hal];exact of_decide_eq_true h
  simp[Sd.Q.push,hw,h']
 ·have h':¬most<=(es.length:Int):=of_decide_eq_false h;have e1:Sd.Q.push most (bC es) a=(Sd.Q.insert (bC es) a,0):=by simp[Sd.Q.push,hw,hal,h']
  rw[e1];have X:∀(c':Nat) (u:List Value),es.length+1<=c'->eF (bT (es++[⟨a,came⟩])++[.rest u])=c'*5->pK a most came (KP most (.int .i64 0) (Sd.Q.insert (bC es) a)) es (es.length+1) c' u:=λc' u h1 h2=>by
   refine Pz ⟨a,came⟩ hH (by omega) (λe he=>?_) λl hl hH' hA'=>?_
   ·obtain⟨x,hx,rfl⟩:=(vN hH _).1 he;exact⟨Mv x hx,(hr _ he).resolve_left (Mv x hx)⟩
   ·exact CT (by omega) (by omega) (by rw[<-h2,gB,gB,hl,List.length_append];rfl) (by rw[<-hl,List.take_length];exact hH') (by rw[<-hl,List.take_length];exact hA')
  exact⟨⟨hc,hs⟩,X,X⟩
theorem CW {a:Sd.Ask} {most came:Int} (t:List Value) {B:List VB} (hB:B=[bF (.raw (.slice none 0 0)) most came]\/B=[bF (.sl 1 0 0 0) most came,c9 [] t]/\t.length=0):
 cond (decide ((0:Int)>=most)) (KP most (.int .i64 (Sd.Q.push most (bC []) a).2) (Sd.Q.push most (bC []) a).1 (.int .i64 3) B [])
  (∀(c':Nat) (u:List Value),1<=c'->eF (bT [⟨a,came⟩]++[.rest u])=c'*5->pK a most came (KP most (.int .i64 (Sd.Q.push most (bC []) a).2) (Sd.Q.push most (bC []) a).1) [] 1 c' u):=by
 refine aO (λh=>?_) λh c' u h1 h2=>?_
 ·have h':most<=0:=of_decide_eq_true h;have e1:Sd.Q.push most (bC []) a=([],3):=by simp[Sd.Q.push,Sd.Q.waits,bC,h']
  rw[e1];rcases hB with rfl|⟨rfl,ht⟩
  ·exact⟨rfl,[],came,trivial,rfl,.inl ⟨rfl,rfl⟩⟩
  ·exact CT (l:=[]) (Nat.le_refl _) (Nat.le_refl _) (by rw[gB,ht];rfl) trivial rfl
 ·have h':¬most<=0:=of_decide_eq_false h;have e1:Sd.Q.push most (bC []) a=([a],0):=by simp[Sd.Q.push,Sd.Q.waits,Sd.Q.insert,bC,h']
  rw[e1];exact CT (l:=[⟨a,came⟩]) (m:=1) (Nat.le_refl _) h1 h2 trivial rfl
theorem PE {a:Sd.Ask} {t:List Value} {most came:Int} {K:VK Empty}:∀{es:List One} {c:Nat},bP es->0<es.length+c->pX a c t most came K es->Hd (pL 90 208 [.ptr 0 0,.agg (j6 a)] [bF (.sl 1 0 es.length c) most came,c9 es t] (du 1 K))
 |[],0,_,h0,_=>absurd h0 (by simp)
 |[],c+1,_,_,h=>⟨by rw[List.length_nil,abY];exact h⟩
 |[e0],_,_,_,h=>⟨by rw[abZ];exact h⟩
 |[e0,e1],_,_,_,h=>⟨by rw[ab0];exact h⟩
 |[e0,e1,e2],_,_,_,h=>⟨by rw[ab3];exact h⟩
 |_::_::_::_::_,_,hH,_,_=>absurd hH (by simp[bP])
theorem ab9 {bq:Nat} {most:Int} {L:List Sd.Ask} {bl bs:List ax} {ms:List Nat} {w0 w:World} (a:Sd.Ask) (hQ:QS bq most L bl) (hm:most<=3) (hr:∀e∈L,e.source=a.source\/¬e.aU=a.aU) (S0:St ms w0 (bl++bs) w):
 ak prog 208 #[.pointer (some ⟨bq,0,none⟩),.agg (U7 a)] w λv w1=>∃bl',v=.int .i64 (Sd.Q.push most L a).2/\QS bq most (Sd.Q.push most L a).1 bl'/\St ms w0 (bl'++bs) w1:=by
 obtain⟨es,x,c,came,rows,rfl,oG,hH,rfl⟩:=hQ;refine Pv (f:=208) (ar:=[.agg (j6 a)]) (y:=.int .i64 (Sd.Q.push most (bC es) a).2) rfl oG (λh0=>?_) (λt hc hs=>?_) (λ_=>rfl) S0
 ·subst h0;rw[abW];exact CW [] (.inl rfl)
 ·rcases Nat.eq_zero_or_pos (es.length+c)with h0|h0
  ·obtain rfl:es=[]:=List.eq_nil_of_length_eq_zero (by omega);obtain rfl:c=0:=by simpa using h0
   rw[List.length_nil,abX];exact CW t (.inr ⟨rfl,by rw[gB]at hs;simpa using hs⟩)
  ·exact(PE hH h0 (VO hH (came:=came) hm hr hc hs)).h
theorem PF {c:Nat} {t:List Value} {most came:Int} {K:VK Empty}:∀{es:List One},bP es->K (hV (bC es)) [] []->Hd (pL 30 197 [.ptr 0 0] [CU (bF (.sl 1 0 es.length c) most came),CU (c9 es t)] (du 0 K))
 |[],_,h=>⟨by rw[List.length_nil,ab5];exact h⟩
 |[e0],_,h=>⟨by rw[ab6];exact h⟩
 |[e0,e1],_,h=>⟨by rw[ab7];exact h⟩
 |[e0,e1,e2],_,h=>⟨by
  have e:hV (bC [e0,e1,e2])=hV [e0.a]:=by simp only[bC];split<;>rfl
  rw[e]at h;rw[ab8];exact h⟩
 |_::_::_::_::_,hH,_=>absurd hH (by simp[bP])
theorem ab_ {bq:Nat} {most:Int} {L:List Sd.Ask} {bl bs:List ax} {ms:List Nat} {w0 w:World} (hQ:QS bq most L bl) (S0:St ms w0 (bl++bs) w):
 ak prog 197 #[.pointer (some ⟨bq,0,none⟩)] w λv w1=>v=.tuple #[.agg (U7 (fK L).1),.int .i64 (fK L).2]/\Ch [] w w1:=by
 obtain⟨es,x,c,came,rows,rfl,⟨_,hle,jM⟩,hH,rfl⟩:=hQ;have hq:=S0.at' (x:=⟨bq,true,.cells #[.slice x es.length c,.int .i64 most,.int .u64 came] 132 (0,0)⟩) (by simp);have fin:∀{ids:List Nat} {bl:List VB},(∃r,ids=bq::r)->ids.length=bl.length->pL 30 197 [.ptr 0 0] bl (du 0 λv b _=>v=hV (bC es))->St [] w (lits ids ids bl++[]) w->ak prog 197 #[.pointer (some ⟨bq,0,none⟩)] w λv w1=>v=.tuple #[.agg (U7 (fK (bC es)).1),.int .i64 (fK (bC es)).2]/\Ch [] w w1:=by
  rintro ids bl ⟨r,rfl⟩ hl h S;refine(nE h hl (by simp) S).mono ?_;rintro v w1 ⟨v2,more,b,rfl,_,S1,rfl⟩;exact⟨rfl,S1.ch⟩
 rcases jM with⟨rfl,h0,rfl,rfl⟩|⟨b,t,rfl,rfl,hlen⟩
 ·obtain rfl:es=[]:=List.eq_nil_of_length_eq_zero h0;exact fin (ids:=[bq]) (bl:=[CU (bF (.raw (.slice none 0 0)) most came)]) ⟨[],rfl⟩ rfl (by rw[ab4];rfl) (St.given [(bq,_)] (by intro p hp;simp only[List.mem_singleton]at hp;subst hp;exact hq))
 ·have hb:=S0.at' (x:=⟨b,true,.cells (dM es++t).toArray 146 (0,0)⟩) (by simp);have e3:af [bq,b] (bT es++[.rest t])=dM es++t:=by rw[bj,eM];simp[af,cl]
  have S:St [] w (lits [bq,b] [bq,b] [CU (bF (.sl 1 0 es.length c) most came),CU (c9 es t)]++[]) w:=
   St.given [(bq,.cells (af [bq,b] [.sl 1 0 es.length c,.int .i64 most,.int .u64 came]).toArray 132 (0,0)),(b,.cells (af [bq,b] (bT es++[.rest t])).toArray 146 (0,0))] (by
    intro p hp;simp only[List.mem_cons,List.not_mem_nil,or_false]at hp;rcases hp with rfl|rfl
    ·exact hq
    ·rw[e3];exact hb)
  exact fin ⟨[b],rfl⟩ rfl (PF hH rfl).h S
def ltX (most came:Int) (gq g2:aE) (K:VK aE):List One->List VB->aE->Prop
 |[],j,g1=>K g1.v (bF gq.v most came::j) [g1,g2,gq]
 |e::l,j,g1=>apps g1 (af [] (j6 e.a)) λg1=>ltX most came gq g2 K l (j++[⟨true,⟨146,(0,0)⟩,mQ e⟩,⟨true,⟨101,(0,0)⟩,j6 e.a⟩]) g1
def ltA (n:Nat) (most came:Int) (gq:aE) (es:List One) (K:VK aE):Prop:=
 (bF gq.v most came=bF gq.v most came/\gq.T=146/\gq.z=5/\gq.os=dM es/\gq.n=es.length/\es.length=n/\bP es)/\PC n es (λx c=>ltX most came gq (.nil 146 5) K [] [] (.nil 101 4)) (λc l t=>ltX most came gq (.nil 146 5) K l [c9 l t] (.nil 101 4))
section
variable(most came:Int) (gq:aE) (es:List One) (K:VK aE)
abbrev LL (n:Nat) (es:List One) (most came:Int):List (dF aE):=[⟨59,false,ug n es most came⟩]
theorem aca:cI (Bu prog (λ_=>none) (LL 0 es most came)) 60 32 [.ptr 0 0] [bF gq.v most came] [.nil 101 4,.nil 146 5,gq] K=ltA 0 most came gq es K:=by kernel_rfl
theorem acb:cI (Bu prog (λ_=>none) (LL 1 es most came)) 60 32 [.ptr 0 0] [bF gq.v most came] [.nil 101 4,.nil 146 5,gq] K=ltA 1 most came gq es K:=by kernel_rfl
theorem acd:cI (Bu prog (λ_=>none) (LL 2 es most came)) 60 32 [.ptr 0 0] [bF gq.v most came] [.nil 101 4,.nil 146 5,gq] K=ltA 2 most came gq es K:=by kernel_rfl
theorem ace:cI (Bu prog (λ_=>none) (LL 3 es most came)) 60 32 [.ptr 0 0] [bF gq.v most came] [.nil 101 4,.nil 146 5,gq] K=ltA 3 most came gq es K:=by kernel_rfl
end
def KL (most came:Int) (gq g2:aE) (M:List Sd.Ask):VK aE:=λv bl ch=>∃(j:List VB) (g1:aE),v=g1.v/\bl=bF gq.v most came::j/\ch=[g1,g2,gq]/\VL g1 101 4 (kP M) M.length
theorem FT (most came:Int) (gq g2:aE) {M:List Sd.Ask}:∀(l:List One) (j:List VB) (g1:aE) (G:List Sd.Ask),VL g1 101 4 (kP G) G.length->G.length+l.length<100->G++l.map (·.a)=M->ltX most came gq g2 (KL most came gq g2 M) l j g1
 |[],j,g1,G,h1,_,hM=>⟨j,g1,rfl,rfl,rfl,by rw[<-hM];simpa using h1⟩
 |e::l,j,g1,G,h1,l1,hM=>by
  simp only[List.length_cons]at l1;exact Ar h1 (by omega) λr' hr=>FT most came gq g2 l _ r' (G++[e.a]) (by rw[sG,List.length_append];exact hr) (by simp;omega) (by rw[<-hM];simp)
theorem acf {bq:Nat} {most:Int} {L:List Sd.Ask} {bl bs:List ax} {ms:List Nat} {w0 w:World} (hQ:QS bq most L bl) (S0:St ms w0 (bl++bs) w):
 ak prog 32 #[.pointer (some ⟨bq,0,none⟩)] w λv w1=>∃x c1 rows,v=.slice x L.length c1/\eH 4 101 (kP L) x L.length c1 rows/\St ms w0 (rows++(bl++bs)) w1:=by
 obtain⟨es,x,c,came,rows,rfl,hr,hH,rfl⟩:=hQ;obtain⟨hal,Ei⟩:=vM hH
 let gq:aE:=⟨146,5,dM es,x,es.length,c,rows,hr⟩
 have S1:St ms w0 (lits [bq] [bq] [bF gq.v most came]++ag [aE.nil 101 4,.nil 146 5,gq] bs) w:=by simpa[lits,ag,Bl.B,aE.nil,gq,aL,bF,aE.v,af,cl,den]using S0
 have hA:ltA es.length most came gq es (KL most came gq (.nil 146 5) (bC es)):=
  ⟨⟨rfl,rfl,rfl,rfl,rfl,rfl,hH⟩,Ii Ei (λh0 x c=>FT most came gq _ [] [] _ [] ⟨rfl,rfl,rfl,rfl⟩ (by simp) (by rw[List.eq_nil_of_length_eq_zero h0];rfl)) (λl c t hm hl=>FT most came gq _ l _ _ [] ⟨rfl,rfl,rfl,rfl⟩ (by simp;omega) (by simpa using hm))⟩
 have fI:cI (Bu prog (λ_=>none) (LL es.length es most came)) 60 32 [.ptr 0 0] [bF gq.v most came] [.nil 101 4,.nil 146 5,gq] (KL most came gq (.nil 146 5) (bC es)):=by
  rcases(by omega:es.length=0\/es.length=1\/es.length=2\/es.length=3)with h|h|h|h<;>rw[h]at hA⊢
  ·rw[aca];exact hA
  ·rw[acb];exact hA
  ·rw[acd];exact hA
  ·rw[ace];exact hA
 have cT:ah prog (λ_=>none) (LL es.length es most came):=ah.cons ⟨qM _ es most came,λe=>by cases e⟩ ah.nil;refine(bw cT.TR cT.QR 60 (C:=Bu prog (λ_=>none) (LL es.length es most came)) (args:=[.ptr 0 0]) (λg i h=>by cases h) rfl S1 fI).mono ?_;rintro _ w' ⟨xx,more,bl',ch',rfl,Em,S3,j,g1,rfl,rfl,rfl,t1,t2,t3,t4⟩;have uh:=g1.h;rw[t1,t2,t3,t4]at uh;refine⟨g1.x,g1.c,g1.bl,by simp only[aE.v,den];rw[t4],uh,?_⟩;have e1:lits ([bq]++more) ([bq]++more) (bF gq.v most came::j)=⟨bq,true,.cells #[.slice x es.length c,.int .i64 most,.int .u64 came] 132 (0,0)⟩::lits ([bq]++more) more j:=rfl;rw[e1]at S3;have S4:=S3.sub (bs':=⟨bq,true,.cells #[.slice x es.length c,.int .i64 most,.int .u64 came] 132 (0,0)⟩::(g1.bl++(rows++bs))) (by
  rw[List.cons_append];exact List.Sublist.cons_cons _ (List.sublist_append_right _ _))
 exact S4.perm List.perm_middle.symm
structure LK where
 ka:Nat->Option Addr
 kn:Nat->Nat
 kc:Nat->Nat
 kf:Nat->Nat->Int
 bq:Nat
 tg:TypeId
 tc:TypeId
 most:Int
 px:Option Addr
 pn:Nat
 pc:Nat
 pf:Sd.Byt
structure FD where
 k:LK
 q:List Sd.Ask
 sent:List (Int×Sd.Reply)
 recs:List Sd.Rec
inductive vO (fr:Sd.Reply->Nat×Sd.Byt):List (Int×Sd.Reply)->List Value->List ax->Prop
 |nil:vO fr [] [] []
 |snoc {l olds bl} (h:vO fr l olds bl) (k:Int) (r:Sd.Reply) (x:Option Addr) (c:Nat) (b:List ax) (hb:dG 5 (fr r).1 (fr r).2 x c b):vO fr (l++[(k,r)]) (olds++[.int .i64 k,.slice x (fr r).1 c]) (bl++b)
structure cw (fr:Sd.Reply->Nat×Sd.Byt) (d:FD) where
 xs:Option Addr
 cs:Nat
 xr:Option Addr
 cr:Nat
 Bq:List ax
 Br:List ax
 Bs:List ax
 Bf:List ax
 Bk:List ax
 so:List Value
 hq:QS d.k.bq d.k.most d.q Bq
 hr:eH 6 65 (mP d.recs) xr d.recs.length cr Br
 hs:eH 2 69 so xs d.sent.length cs Bs
 hf:vO fr d.sent so Bf
 hk:∃b0 b1 b2 b3 b4,Bk=b0++(b1++(b2++(b3++b4)))/\dG 5 (d.k.kn 0) (d.k.kf 0) (d.k.ka 0) (d.k.kc 0) b0/\dG 5 (d.k.kn 1) (d.k.kf 1) (d.k.ka 1) (d.k.kc 1) b1/\dG 5 (d.k.kn 2) (d.k.kf 2) (d.k.ka 2) (d.k.kc 2) b2/\dG 5 (d.k.kn 3) (d.k.kf 3) (d.k.ka 3) (d.k.kc 3) b3/\dG 5 d.k.pn d.k.pf d.k.px d.k.pc b4
variable{fr:Sd.Reply->Nat×Sd.Byt}
def cw.B {d:FD} (F:cw fr d):List ax:=F.Br++(F.Bs++(F.Bf++(F.Bq++F.Bk)))
def cw.vs {d:FD} (F:cw fr d):Value:=.slice F.xs d.sent.length F.cs
def cw.vr {d:FD} (F:cw fr d):Value:=.slice F.xr d.recs.length F.cr
structure Gh (fr:Sd.Reply->Nat×Sd.Byt) where
 d:FD
 dx:Nat->Sd.dR
 sx:Nat->Sd.br
 F:cw fr d
instance:Bl (Gh fr):=⟨λg=>g.F.B⟩
def r3 {α:Type} (a b c:α) (f:Nat->α):Nat->α:=λj=>match j with|0=>a|1=>b|2=>c|j+3=>f (j+3)
theorem ui {α:Type} (f:Nat->α):r3 (f 0) (f 1) (f 2) f=f:=by funext j;match j with|0=>rfl|1=>rfl|2=>rfl|j+3=>rfl
structure CC where
 p:Sd.Pol
 ka:Nat->Option Addr
 kn:Nat->Nat
 kc:Nat->Nat
 t:Sd.Tok
 vq:Value
 d0:Sd.dR
 d1:Sd.dR
 d2:Sd.dR
 it:Nat
 sa:Int
 be:Int
 mo:Int
 mb:Sd.Label
 pt:Sd.Point
 hd:Nat->Int
def yk (x:CC):List V:=[.jN x.p x.ka x.kn x.kc,.int .i64 x.t.holder,.int .i64 x.t.epoch,.int .i64 x.t.offer,.int .i64 x.t.oa.n,.int .i64 x.t.oa.most,.int .i64 x.t.la.n,.int .i64 x.t.la.most,.bool x.t.bad,.raw x.vq,
 .int .i64 x.d0.many,.bool x.d0.kz,.dS .u8 8 x.d0.ab,.int .i64 x.d1.many,.bool x.d1.kz,.dS .u8 8 x.d1.ab,.int .i64 x.d2.many,.bool x.d2.kz,.dS .u8 8 x.d2.ab,.ptr x.it 0,.int .i64 x.sa,.int .i64 x.be,.int .i64 x.mo,
 .int .i64 x.mb.l5,.int .i64 x.mb.source,.int .i64 x.mb.seq,.int .i64 x.pt.cls,.int .i64 x.pt.bZ.a,.int .i64 x.pt.bZ.b,.int .i64 x.pt.bZ.c,.int .i64 x.pt.bZ.d,.int .i64 x.pt.now.a,.int .i64 x.pt.now.b,.int .i64 x.pt.now.c,.int .i64 x.pt.now.d,
 .int .i64 x.pt.eo.l5,.int .i64 x.pt.eo.source,.int .i64 x.pt.eo.seq,.dS .u8 32 x.hd]
def yl:List V->Option CC
 |.jN p ka kn kc::.int .i64 t1::.int .i64 t2::.int .i64 t3::.int .i64 t4::.int .i64 t5::.int .i64 t6::.int .i64 t7::.bool t8::.raw vq::.int .i64 a1::.bool a2::.dS .u8 8 a3::.int .i64 b1::.bool b2::.dS .u8 8 b3::.int .i64 c1::.bool c2::.dS .u8 8 c3::.ptr it 0::.int .i64 sa::.int .i64 be::.int .i64 mo::.int .i64 l1::.int .i64 l2::.int .i64 l3::.int .i64 p1::.int .i64 p2::.int .i64 p3::.int .i64 p4::.int .i64 p5::.int .i64 p6::.int .i64 p7::.int .i64 p8::.int .i64 p9::.int .i64 q1::.int .i64 q2::.int .i64 q3::.dS .u8 32 hd::[]=>some ⟨p,ka,kn,kc,⟨t1,t2,t3,⟨t4,t5⟩,⟨t6,t7⟩,t8⟩,vq,⟨a1,a2,a3⟩,⟨b1,b2,b3⟩,⟨c1,c2,c3⟩,it,sa,be,mo,⟨l1,l2,l3⟩,⟨p1,⟨p2,p3,p4,p5⟩,⟨p6,p7,p8,p9⟩,⟨q1,q2,q3⟩⟩,hd⟩
 |_=>none
theorem qN {l:List V} {x:CC} (h:yl l=some x):l=yk x:=by
 unfold yl at h;split at h
 ·obtain rfl:=Option.some.inj h;rfl
 ·cases h
structure TC where
 s1:Bool
 sn:Int
 sm:Int
 s0:Sd.br
 sa:Sd.br
 sb:Sd.br
 b:Int
 m:Int
def sH (x:Sd.br):List V:=[.bool x.on,.int .i64 x.aN.n,.int .i64 x.aN.most,.int .i64 x.role,.dS .u8 32 x.key,.bool x.seen.any,.int .i64 x.seen.high,.int .u64 x.seen.seen]
def bU (x:TC):List V:=.bool x.s1::.int .i64 x.sn::.int .i64 x.sm::(sH x.s0++(sH x.sa++(sH x.sb++[.int .i64 x.b,.int .i64 x.m])))
def vP:List V->Option TC
 |[.bool s1,.int .i64 sn,.int .i64 sm,.bool a1,.int .i64 a2,.int .i64 a3,.int .i64 a4,.dS .u8 32 a5,.bool a6,.int .i64 a7,.int .u64 a8,.bool b1,.int .i64 b2,.int .i64 b3,.int .i64 b4,.dS .u8 32 b5,.bool b6,.int .i64 b7,.int .u64 b8,
  .bool c1,.int .i64 c2,.int .i64 c3,.int .i64 c4,.dS .u8 32 c5,.bool c6,.int .i64 c7,.int .u64 c8,.int .i64 b,.int .i64 m]=>some ⟨s1,sn,sm,⟨a1,⟨a2,a3⟩,a4,a5,⟨a6,a7,a8⟩⟩,⟨b1,⟨b2,b3⟩,b4,b5,⟨b6,b7,b8⟩⟩,⟨c1,⟨c2,c3⟩,c4,c5,⟨c6,c7,c8⟩⟩,b,m⟩
 |_=>none
theorem j7 {l:List V} {x:TC} (h:vP l=some x):l=bU x:=by
 unfold vP at h;split at h
 ·obtain rfl:=Option.some.inj h;rfl
 ·cases h
def ot (x:CC) (y:TC) (d:FD) (dx:Nat->Sd.dR) (sx:Nat->Sd.br):Sd.Scene:=
 ⟨⟨x.p,x.t,d.q,r3 x.d0 x.d1 x.d2 dx,⟨(y.s1,⟨y.sn,y.sm⟩),r3 y.s0 y.sa y.sb sx⟩,x.sa,x.be,x.mo,x.mb,x.pt,x.hd⟩,d.sent,d.recs⟩
def CX (k:LK) (it:Nat) (s:Sd.Scene):CC:=⟨s.c.p,k.ka,k.kn,k.kc,s.c.t,.pointer (some ⟨k.bq,0,none⟩),s.c.doors 0,s.c.doors 1,s.c.doors 2,it,s.c.samples,s.c.beyond,s.c.mode,s.c.cA,s.c.pt,s.c.head⟩
def VP (s:Sd.Scene):TC:=⟨s.c.tab.aA.1,s.c.tab.aA.2.n,s.c.tab.aA.2.most,s.c.tab.az 0,s.c.tab.az 1,s.c.tab.az 2,s.c.p.bR,s.c.p.bz⟩
def bV (k:LK) (s:Sd.Scene):FD:=⟨k,s.c.q,s.sent,s.recs⟩
def aF (k:LK):VB:=⟨false,k.tg,[.dS .u32 64 aT]⟩
def iq (k:LK):VB:=⟨false,k.tc,[.bool false,.bool false,.bool false,.bool false,.bool false,.bool false,.bool false,.bool false,.bool false,.bool false,.bool true,.bool true]⟩
def vQ (ic:Nat) {d:FD} (F:cw fr d):VB:=⟨true,⟨108,(0,0)⟩,[.ptr ic 0,.raw F.vs,.raw F.vr]⟩
def ee (k:LK) (it:Nat) (s:Sd.Scene):VB:=⟨true,⟨97,(0,0)⟩,yk (CX k it s)⟩
def gp (s:Sd.Scene):VB:=⟨true,⟨143,(0,0)⟩,bU (VP s)⟩
def cO (k:LK) (s:Sd.Scene) (F:cw fr (bV k s)):List VB:=[aF k,iq k,vQ 3 F,ee k 4 s,gp s]
def cx (k:LK) (s:Sd.Scene) (F:cw fr (bV k s)):Gh fr:=⟨bV k s,s.c.doors,s.c.tab.az,F⟩
def gS:Nat->Option Nat
 |0=>some 0
 |2=>some 1
 |_=>none
abbrev SK (fr:Sd.Reply->Nat×Sd.Byt) (k:LK):=V->(s:Sd.Scene)->cw fr (bV k s)->Prop
abbrev SM (fr:Sd.Reply->Nat×Sd.Byt):=List V->(k:LK)->(s:Sd.Scene)->cw fr (bV k s)->SK fr k->Prop
def As (bl:List VB) (is ic it:Nat) (k:LK) (s:Sd.Scene) (F:cw fr (bV k s)):List VB:=((bl.set is (vQ ic F)).set ic (ee k it s)).set it (gp s)
def pj (M:SM fr):gZ (Gh fr):=λargs bl ch K=>match args,ch with
 |.ptr is 0::ar,g::rest=>(match bl[is]?with
  |some ⟨true,⟨108,(0,0)⟩,[.ptr ic 0,.raw vs,.raw vr]⟩=>(match bl[ic]?with
   |some ⟨true,⟨97,(0,0)⟩,cc⟩=>(match yl cc with
    |some x=>(match bl[x.it]?with
     |some ⟨true,⟨143,(0,0)⟩,tc⟩=>(match vP tc with
      |some y=>cond (cG 0 ar&&(Nat.blt 1 is&&(Nat.blt 1 ic&&(Nat.blt 1 x.it&&(!(Nat.beq is ic)&&(!(Nat.beq is x.it)&&!(Nat.beq ic x.it)))))))
       ((vs=g.F.vs/\vr=g.F.vr/\bl[0]?=some (aF g.d.k)/\bl[1]?=some (iq g.d.k)/\x=CX g.d.k x.it (ot x y g.d g.dx g.sx)/\y.b=x.p.bR/\y.m=x.p.bz/\x.p.queue=g.d.k.most)/\
         M ar g.d.k (ot x y g.d g.dx g.sx) g.F λv s' F'=>K v (As bl is ic x.it g.d.k s' F') (cx g.d.k s' F'::rest)) False
      |none=>False)
     |_=>False)
    |none=>False)
   |_=>False)
  |_=>False)
 |_,_=>False
end Go.Proofs.YtlkpikfddnjilaaGreatDoor
namespace Go.Proofs.YtlkpikfddnjilaaGreatDoor
open Go Go.RowKit Go.BigFrame Sx Vx
variable{fr:Sd.Reply->Nat×Sd.Byt}
def g_:VB:=⟨false,⟨0,(0,0)⟩,[]⟩
theorem PG {ids:List Nat}:∀(is:List Nat) (bl:List VB),is.length=bl.length->lits ids is bl=(List.range bl.length).map λj=>aL ids (is.getD j 0) (bl.getD j g_):=by
 intro is bl h;apply List.ext_getElem?;intro j;by_cases hj:j<bl.length
 ·have hb:bl[j]?=some bl[j]:=List.getElem?_eq_getElem hj;rw[zk is bl h hb,List.getElem?_map,List.getElem?_range hj];simp[List.getD,hb]
 ·rw[List.getElem?_eq_none (by rw[ik is bl h];omega),List.getElem?_eq_none (by simp;omega)]
theorem vR {bl:List VB} {ids:List Nat} (h:ids.length=bl.length) {is:List Nat} (hn:is.Nodup) (f_:∀i∈is,i<bl.length):
 ∃r:List Nat,(∀j∈r,j∉is)/\∀bl':List VB,bl'.length=bl.length->(lits ids ids bl').Perm (is.map (λj=>aL ids (ids.getD j 0) (bl'.getD j g_))++r.map λj=>aL ids (ids.getD j 0) (bl'.getD j g_)):=by
 obtain⟨r,hr⟩:=my is (List.range bl.length) hn (λx hx=>List.mem_range.2 (f_ x hx));refine⟨r,?_,?_⟩
 ·intro j hj hji;have Tn:(is++r).Nodup:=hr.nodup_iff.1 List.nodup_range;rw[List.nodup_append]at Tn;exact Tn.2.2 j hji j hj rfl
 ·intro bl' hl;rw[PG ids bl' (by omega),hl,<-List.map_append];exact hr.map _
theorem K1 {bl:List VB} {ids r:List Nat} {a b c:Nat} {x y z:VB} (hr:∀j∈r,j≠a/\j≠b/\j≠c):
 (r.map λj=>aL ids (ids.getD j 0) ((((bl.set a x).set b y).set c z).getD j g_))=r.map λj=>aL ids (ids.getD j 0) (bl.getD j g_):=by
 apply List.map_congr_left;intro j hj;obtain⟨h1,h2,h3⟩:=hr j hj;simp only[List.getD,List.getElem?_set];rw[if_neg (Ne.symm h3),if_neg (Ne.symm h2),if_neg (Ne.symm h1)]
theorem cL {bl:List VB} {i:Nat} {b:VB} (h:bl[i]?=some b):bl.getD i g_=b:=by simp[List.getD,h]
theorem cj {ids ids':List Nat} {n:Nat} {b:VB} (h:cG 0 b.c=true):aL ids n b=aL ids' n b:=by
 have e1:af ids b.c=af [] b.c:=by have:=bY (ids:=[]) (more:=ids) b.c h;simpa using this
 have e2:af ids' b.c=af [] b.c:=by have:=bY (ids:=[]) (more:=ids') b.c h;simpa using this
 unfold aL;rw[e1,e2]
abbrev aX (a b c:Nat):List Nat:=[0,2,a,b,c]
theorem VQ {ids:List Nat} {ic a b c:Nat} (n:Nat) {d:FD} (F:cw fr d) (h:ids.getD ic 0=b):aL ids n (vQ ic F)=aL (aX a b c) n (vQ 3 F):=by
 have e:(aX a b c).getD 3 0=b:=rfl;simp only[aL,vQ,af,cl,den,h,e]
theorem PH {ids:List Nat} {it a b c:Nat} (n:Nat) {k:LK} {s:Sd.Scene} (h:ids.getD it 0=c):aL ids n (ee k it s)=aL (aX a b c) n (ee k 4 s):=by
 have e:(aX a b c).getD 4 0=c:=rfl;simp only[aL,ee,yk,CX,af,cl,den,h,e]
def Body (f:FuncId) (M:SM fr):Prop:=∀(ar:List V) (k:LK) (s:Sd.Scene) (F:cw fr (bV k s)) (Kb:SK fr k) (a b c:Nat) (R:List ax) (ms:List Nat) (w0 w:World),cG 0 ar=true->s.c.p.queue=k.most->M ar k s F Kb->
 St ms w0 (lits (aX a b c) (aX a b c) (cO k s F)++(F.B++R)) w->
 ak prog f (aq (aX a b c) (.ptr 2 0::ar)).toArray w λv w'=>∃x s' F',v=den [] x/\fu 0 x=true/\s'.c.p=s.c.p/\Kb x s' F'/\St ms w0 (lits (aX a b c) (aX a b c) (cO k s' F')++(F'.B++R)) w'
theorem ir (s:Sd.Scene):cG 0 (gp s).c=true:=rfl
theorem gC (k:LK):cG 0 (aF k).c=true:=rfl
theorem tu (k:LK):cG 0 (iq k).c=true:=rfl
structure VR (ids:List Nat) (bl:List VB) (is ic it:Nat) (k:LK) (s:Sd.Scene) (F:cw fr (bV k s)):Prop where
 h0:bl[0]?=some (aF k)
 h1:bl[1]?=some (iq k)
 hs:bl[is]?=some (vQ ic F)
 hc:bl[ic]?=some (ee k it s)
 ht:bl[it]?=some (gp s)
theorem CY {ids:List Nat} {bl:List VB} {is ic it:Nat} {k:LK} {s:Sd.Scene} {F:cw fr (bV k s)} (H:VR ids bl is ic it k s F) (hg:Gl gS ids):
 ([0,1,is,ic,it].map λj=>aL ids (ids.getD j 0) (bl.getD j g_))=lits (aX (ids.getD is 0) (ids.getD ic 0) (ids.getD it 0)) (aX (ids.getD is 0) (ids.getD ic 0) (ids.getD it 0)) (cO k s F):=by
 have g0:=(hg 0 0 rfl).2;have g1:=(hg 2 1 rfl).2;simp only[List.map_cons,List.map_nil,cL H.h0,cL H.h1,cL H.hs,cL H.hc,cL H.ht,g0,g1,cO,lits];rw[cj (ids':=aX (ids.getD is 0) (ids.getD ic 0) (ids.getD it 0)) (gC k),cj (ids':=aX (ids.getD is 0) (ids.getD ic 0) (ids.getD it 0)) (tu k),cj (ids':=aX (ids.getD is 0) (ids.getD ic 0) (ids.getD it 0)) (ir s),
  VQ (a:=ids.getD is 0) (c:=ids.getD it 0) _ F rfl,PH (a:=ids.getD is 0) (b:=ids.getD ic 0) _ rfl]
theorem mR {bl:List VB} {i:Nat} {b:VB} (h:i<bl.length):(bl.set i b)[i]?=some b:=by simp[h]
theorem eN {bl:List VB} {i j:Nat} {b:VB} (h:i≠j):(bl.set i b)[j]?=bl[j]?:=by rw[List.getElem?_set];simp[h]
theorem ck {bl:List VB} {i:Nat} {b:VB} (h:bl[i]?=some b):i<bl.length:=by
 rcases Nat.lt_or_ge i bl.length with h'|h'
 ·exact h'
 ·simp[h']at h
theorem PI {ids:List Nat} {bl:List VB} {is ic it:Nat} {k:LK} {s:Sd.Scene} {F:cw fr (bV k s)} (H:VR ids bl is ic it k s F) (h1:1<is) (h2:1<ic) (h3:1<it) (n1:is≠ic) (n2:is≠it) (n3:ic≠it) {s':Sd.Scene} (F':cw fr (bV k s')):
 VR ids (As bl is ic it k s' F') is ic it k s' F':=by
 have l1:=ck H.hs;have l2:=ck H.hc;have l3:=ck H.ht;unfold As;refine⟨?_,?_,?_,?_,?_⟩
 ·rw[eN (by omega),eN (by omega),eN (by omega)];exact H.h0
 ·rw[eN (by omega),eN (by omega),eN (by omega)];exact H.h1
 ·rw[eN (by omega),eN (by omega),mR l1]
 ·rw[eN (by omega),mR (by simpa using l2)]
 ·rw[mR (by simpa using l3)]
theorem PJ {f:Nat} {M:SM fr} (h:Body f M):Sound prog gS f (pj M):=by
 intro args ids bl ch R ms w0 w K hg hl S hc;unfold pj at hc;split at hc
 ·rename_i is ar g rest;split at hc
  ·rename_i ic vs vr hs;split at hc
   ·rename_i cc Th;split at hc
    ·rename_i x hx;split at hc
     ·rename_i tc Y8;split at hc
      ·rename_i y hy;cases hq:cG 0 ar&&(Nat.blt 1 is&&(Nat.blt 1 ic&&(Nat.blt 1 x.it&&(!(Nat.beq is ic)&&(!(Nat.beq is x.it)&&!(Nat.beq ic x.it))))))with
       |false=>rw[hq]at hc;exact hc.elim
       |true=>
        rw[hq]at hc;simp only[Bool.and_eq_true,Bool.not_eq_true',Nat.blt_eq]at hq;obtain⟨q0,q1,q2,q3,q4,q5,q6⟩:=hq;have n1:is≠ic:=λe=>by rw[e,Nat.beq_refl]at q4;cases q4
        have n2:is≠x.it:=λe=>by rw[e,Nat.beq_refl]at q5;cases q5
        have n3:ic≠x.it:=λe=>by rw[e,Nat.beq_refl]at q6;cases q6
        obtain⟨⟨e1,e2,e3,e4,e5,e6,e7,e8⟩,hM⟩:=hc;obtain rfl:=qN hx;obtain rfl:=j7 hy;subst e1 e2;have H:VR ids bl is ic x.it g.d.k (ot x y g.d g.dx g.sx) (show cw fr (bV g.d.k (ot x y g.d g.dx g.sx))from g.F):=by
         refine⟨e3,e4,hs,?_,?_⟩
         ·rw[Th];congr 1;unfold ee;rw[<-e5]
         ·rw[Y8];congr 1;unfold gp;have:y=VP (ot x y g.d g.dx g.sx):=by
           obtain⟨y1,y2,y3,y4,y5,y6,y7,y8⟩:=y;simp only at e6 e7;subst e6 e7;rfl
          rw[<-this]
        have l1:=ck H.hs;have l2:=ck H.hc;have l3:=ck H.ht;obtain⟨r,hr,hp⟩:=vR (bl:=bl) (ids:=ids) hl (is:=[0,1,is,ic,x.it]) (by simp;omega) (by
         intro i hi;simp only[List.mem_cons,List.not_mem_nil,or_false]at hi;rcases hi with rfl|rfl|rfl|rfl|rfl<;>omega)
        have ef:=hp bl rfl;rw[CY H hg]at ef;have S1:=S.perm (bs':=lits (aX (ids.getD is 0) (ids.getD ic 0) (ids.getD x.it 0)) (aX (ids.getD is 0) (ids.getD ic 0) (ids.getD x.it 0)) (cO g.d.k (ot x y g.d g.dx g.sx) g.F)++(g.F.B++((r.map λj=>aL ids (ids.getD j 0) (bl.getD j g_))++ag rest R))) (by
         refine(ef.append_right _).trans ?_;rw[List.append_assoc];refine List.Perm.append_left _ ?_;simp only[ag,<-List.append_assoc];exact List.Perm.append_right _ List.perm_append_comm)
        have vS:=h ar g.d.k (ot x y g.d g.dx g.sx) g.F _ _ _ _ _ ms w0 w q0 e8 hM S1;have bd:aq ids (.ptr is 0::ar)=aq (aX (ids.getD is 0) (ids.getD ic 0) (ids.getD x.it 0)) (.ptr 2 0::ar):=by
         have a1:aq ids ar=aq [] ar:=by have:=dI (ids:=[]) (more:=ids) ar q0;simpa using this
         have a2:aq (aX (ids.getD is 0) (ids.getD ic 0) (ids.getD x.it 0)) ar=aq [] ar:=by have:=dI (ids:=[]) (more:=aX (ids.getD is 0) (ids.getD ic 0) (ids.getD x.it 0)) ar q0;simpa using this
         simp only[aq,den,a1,a2];rfl
        rw[bd];refine vS.mono ?_;rintro v w' ⟨xv,s',F',rfl,hv,hpp,hK,S2⟩;refine⟨xv,[],As bl is ic x.it g.d.k s' F',cx g.d.k s' F'::rest,?_,?_,?_,hK⟩
        ·have:=bx (ids:=[]) (more:=ids++[]) xv hv;simpa using this.symm
        ·simp[As,hl]
        ·have H':=PI H q1 q2 q3 n1 n2 n3 F';have jG:=hp (As bl is ic x.it g.d.k s' F') (by simp[As]);rw[CY H' hg]at jG;have CZ:(r.map λj=>aL ids (ids.getD j 0) ((As bl is ic x.it g.d.k s' F').getD j g_))=r.map λj=>aL ids (ids.getD j 0) (bl.getD j g_):=by
          unfold As;refine K1 ?_;intro j hj;have:=hr j hj;simp only[List.mem_cons,List.not_mem_nil,or_false,not_or]at this;omega
         rw[CZ]at jG;simp only[List.append_nil];refine S2.perm ?_;refine List.Perm.trans ?_ (jG.symm.append_right _);rw[List.append_assoc];refine List.Perm.append_left _ ?_;simp only[ag,<-List.append_assoc];exact List.Perm.append_right _ List.perm_append_comm
      ·exact hc.elim
     ·exact hc.elim
    ·exact hc.elim
   ·exact hc.elim
  ·exact hc.elim
 ·exact hc.elim
end Go.Proofs.YtlkpikfddnjilaaGreatDoor
