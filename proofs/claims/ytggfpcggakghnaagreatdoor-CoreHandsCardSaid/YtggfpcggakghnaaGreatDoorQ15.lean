/- Part 15 of the proof. -/
import Derived.Test.YtggfpcggakghnaaGreatDoorProg
import Derived.Test.YtggfpcggakghnaaGreatDoorQ14
set_option linter.all false
set_option maxRecDepth 100000
set_option maxHeartbeats 4000000
open Go.Proofs.Tryz
open Go.IntKind (u8 u16 u32 u64 i64)
namespace Go.Proofs.YtggfpcggakghnaaGreatDoor
open Go Go.RowKit Go.BigFrame Sx Vx
structure One where
 a:Sd.Ask
 came:Int
def bS:List One->Prop
 |[]=>True
 |[_]=>True
 |[x,y]=>x.a.aV<y.a.aV/\¬x.a.source=y.a.source
 |[x,y,z]=>(x.a.aV<y.a.aV/\x.a.aV<z.a.aV/\¬y.a.aV=z.a.aV)/\¬x.a.source=y.a.source/\¬x.a.source=z.a.source/\¬y.a.source=z.a.source
 |_=>False
def bD:List One->List Sd.Ask
 |[]=>[]
 |[x]=>[x.a]
 |[x,y]=>[x.a,y.a]
 |[x,y,z]=>if y.a.aV<z.a.aV then[x.a,y.a,z.a]else[x.a,z.a,y.a]
 |_=>[]
def alT (t:One):Array Value:=#[.int .i64 t.a.source,.int .i64 t.a.aV,.int .i64 t.a.gU.n,.int .i64 t.a.gU.most,.int .u64 t.came]
def dY:List One->List Value
 |[]=>[]
 |e::es=>(alT e).toList++dY es
def lb:List Sd.Ask->List Value
 |[]=>[]
 |e::es=>(wJ e).toList++lb es
def QS (bq:Nat) (most:Int) (L:List Sd.Ask) (bl:List av):Prop:=∃es x c came rows,bl=⟨bq,true,.cells #[.slice x es.length c,.int .i64 most,.int .u64 came] 146 (0,0)⟩::rows/\fa 5 162 (dY es) x es.length c rows/\bS es/\bD es=L
def nu (e:One):List V:=[.int .i64 e.a.source,.int .i64 e.a.aV,.int .i64 e.a.gU.n,.int .i64 e.a.gU.most,.int .u64 e.came]
def kx (a:Sd.Ask):List V:=[.int .i64 a.source,.int .i64 a.aV,.int .i64 a.gU.n,.int .i64 a.gU.most]
def b_:List One->List V
 |[]=>[]
 |e::l=>nu e++b_ l
def dm (l:List One) (t:List Value):VB:=⟨true,⟨162,(0,0)⟩,b_ l++[.rest t]⟩
def bE (v:V) (most came:Int):VB:=⟨true,⟨146,(0,0)⟩,[v,.int .i64 most,.int .u64 came]⟩
theorem fi (ids:List Nat):∀l:List One,ab ids (b_ l)=dY l
 |[]=>rfl
 |a::l=>by rw[b_,bo,fi ids l];rfl
theorem tJ:∀l:List One,(dY l).length=l.length*5
 |[]=>rfl
 |a::l=>by simp only[dY,List.length_append,tJ l,List.length_cons,Nat.add_mul];show 5+_=_;omega
def qe (n:Nat) (f:FuncId) (args:List V) (bl:List VB) (K:VK Empty):Prop:=cJ (mL prog (λ_=>none) ([]:List (dI Empty)) (P1 prog) vg) n f args bl [] K
theorem n9 {n f n0:Nat} {args:List V} {bl:List VB} {K:VK Empty} (h:qe n f args bl (cP n0 K)) {ids:List Nat} (hl:ids.length=bl.length) (hn:n0<=ids.length) {bs:List av} {ms:List Nat} {w0 w:World} (S:St ms w0 (lits ids ids bl++bs) w):
 aj prog f (ao ids args).toArray w λv w1=>∃x more b,v=den (ids.take n0++more) x/\(ids.take n0++more).length=b.length/\St ms w0 (lits (ids.take n0++more) (ids.take n0++more) b++bs) w1/\K x b []:=by
 refine(bw (ai.nil (G:=Empty) (P:=prog) (gl:=λ_=>none)).T (ai.nil (G:=Empty) (P:=prog) (gl:=λ_=>none)).Q n (C:=mL prog (λ_=>none) ([]:List (dI Empty)) (P1 prog) vg) (ids:=ids) (bl:=bl) (ch:=[]) (R:=bs) Gl.none hl S h).mono ?_;rintro v w' ⟨y,more,bl',ch',rfl,h1,S',hK⟩
 match ch',S',hK with
 |[],S',hK=>
  obtain⟨v2,aP,bl2,e,gx,S2,hK⟩:=c9 (n0:=n0) h1 (by simp;omega) S' hK;rw[List.take_append_of_le_length hn]at e gx S2;exact⟨v2,aP,bl2,e,gx,S2,hK⟩
 |e::_,_,_=>nomatch e
def KP (most:Int) (y:V) (M:List Sd.Ask):VK Empty:=λx b _=>x=y/\∃es cm,bS es/\bD es=M/\((es=[]/\b=[bE (.raw (.slice none 0 0)) most cm])\/∃c t,b=[bE (.sl 1 0 es.length c) most cm,⟨true,⟨162,(0,0)⟩,b_ es++t⟩]/\cH 0 t=true/\es.length<=c/\eL (b_ es++t)=c*5)
theorem RH {f:Nat} {ar:List V} {most came:Int} {y:V} {M:List Sd.Ask} {es:List One} {x:Option Addr} {c bq:Nat} {rows bs:List av} {ms:List Nat} {w0 w:World} (hy:fK 0 y=true) (hr:fa 5 162 (dY es) x es.length c rows)
 (hz:es=[]->qe 90 f (.ptr 0 0::ar) [bE (.raw (.slice none 0 0)) most came] (cP 1 (KP most y M)))
 (h:∀t,es.length<=c->eL (b_ es++[.rest t])=c*5->qe 90 f (.ptr 0 0::ar) [bE (.sl 1 0 es.length c) most came,dm es t] (cP 1 (KP most y M)))
 (has:∀ids,ao ids ar=ao [] ar) (S:St ms w0 (⟨bq,true,.cells #[.slice x es.length c,.int .i64 most,.int .u64 came] 146 (0,0)⟩::(rows++bs)) w):
 aj prog f (#[.pointer (some ⟨bq,0,none⟩)]++(ao [] ar).toArray) w λv w1=>∃bl',v=den [] y/\QS bq most M bl'/\St ms w0 (bl'++bs) w1:=by
 have fin:∀ids:List Nat,(∃r,ids=bq::r)->aj prog f (ao ids (.ptr 0 0::ar)).toArray w (λv w1=>∃x more b,v=den (ids.take 1++more) x/\(ids.take 1++more).length=b.length/\St ms w0 (lits (ids.take 1++more) (ids.take 1++more) b++bs) w1/\KP most y M x b [])->
  aj prog f (#[.pointer (some ⟨bq,0,none⟩)]++(ao [] ar).toArray) w λv w1=>∃bl',v=den [] y/\QS bq most M bl'/\St ms w0 (bl'++bs) w1:=by
  rintro ids ⟨r,rfl⟩ hg;have e0:(ao (bq::r) (.ptr 0 0::ar)).toArray=#[.pointer (some ⟨bq,0,none⟩)]++(ao [] ar).toArray:=by
   apply Array.ext';simp only[ao,den,has,Array.toList_append];rfl
  rw[e0]at hg;refine hg.mono ?_;rintro v w1 ⟨v2,more,b,rfl,hl,S1,rfl,O5,cm,hH,hA,hb⟩;simp only[List.take_succ_cons,List.take_zero,List.singleton_append]at hl S1⊢;have ey:den (bq::more) v2=den [] v2:=bC (ids:=[]) (more:=bq::more) v2 hy;rcases hb with⟨rfl,rfl⟩|⟨c',t,rfl,ht,hc,hs⟩
  ·obtain rfl:more=[]:=by simpa using hl
   exact⟨_,ey,⟨[],none,0,cm,[],rfl,iO _ _,hH,hA⟩,S1⟩
  ·match more,hl with
   |[b2],_=>
    have e1:ab [bq,b2] (b_ O5++t)=dY O5++ab [] t:=by
     rw[bo,fi];exact congrArg _ (bU (ids:=[]) (more:=[bq,b2]) t ht)
    have e2:lits [bq,b2] [bq,b2] [bE (.sl 1 0 O5.length c') most cm,⟨true,⟨162,(0,0)⟩,b_ O5++t⟩]=⟨bq,true,.cells #[.slice (some ⟨b2,0,none⟩) O5.length c',.int .i64 most,.int .u64 cm] 146 (0,0)⟩::[⟨b2,true,.cells (dY O5++ab [] t).toArray 162 (0,0)⟩]:=by
     rw[<-e1];rfl
    rw[e2]at S1;refine⟨_,ey,⟨O5,some ⟨b2,0,none⟩,c',cm,_,rfl,⟨tJ O5,hc,.inr ⟨b2,ab [] t,rfl,rfl,?_⟩⟩,hH,hA⟩,S1⟩;rw[<-e1,cL,hs]
 obtain⟨_,hle,j7⟩:=hr;rcases j7 with⟨rfl,h0,rfl,rfl⟩|⟨b,t,rfl,rfl,hlen⟩
 ·obtain rfl:es=[]:=List.eq_nil_of_length_eq_zero h0;exact fin [bq] ⟨[],rfl⟩ (n9 (hz rfl) rfl (by simp) S)
 ·have e3:lits [bq,b] [bq,b] [bE (.sl 1 0 es.length c) most came,dm es t]=⟨bq,true,.cells #[.slice (some ⟨b,0,none⟩) es.length c,.int .i64 most,.int .u64 came] 146 (0,0)⟩::[⟨b,true,.cells (dY es++t).toArray 162 (0,0)⟩]:=by
   simp only[lits,aE,dm,bo,fi,ab,cl,List.append_nil];rfl
  refine fin [bq,b] ⟨[b],rfl⟩ (n9 (h t hle ?_) rfl (by simp) (by rw[e3];exact S));rw[<-cL (ids:=[]),bo,fi];simpa[ab,cl]using hlen
def zA (a b:One) (X Y:Prop):Prop:=cond (a.a.aV !=b.a.aV) (cond (decide (a.a.aV<b.a.aV)) X Y) (cond (decide (a.came<b.came)) X Y)
def uw (a b:One) (X Y:Prop):Prop:=cond (a.a.aV !=b.a.aV) (cond (!decide (a.a.aV<b.a.aV)) Y X) (cond (!decide (a.came<b.came)) Y X)
def wW (s:Int) (RI:Nat->Prop) (RJ:Prop):List One->Nat->Prop
 |[],_=>RJ
 |e::l,i=>cond (e.a.source==s) (RI i) (wW s RI RJ l (i+1))
def rmP (k:List One->Prop):List One->Nat->Prop
 |[a,b],0=>k [b,a]
 |[a,b,c],0=>uw b c (k [b,c,a]) (k [c,b,a])
 |[a,b,c],1=>uw c a (k [c,a,b]) (k [a,c,b])
 |l,_=>k l
def D4 (es:List One) (s:Int) (k:Bool->List One->Nat->Prop):Prop:=wW s (λi=>rmP (λl=>k true l (es.length-1)) es i) (k false es es.length) es 0
theorem vj {a b:One} {X Y:Prop} (hr:¬a.a.aV=b.a.aV) (h1:a.a.aV<b.a.aV->X) (h2:b.a.aV<a.a.aV->Y):zA a b X Y:=by
 unfold zA;have e:(a.a.aV !=b.a.aV)=true:=by simpa using hr
 rw[e,cond_true];exact aU (λh=>h1 (of_decide_eq_true h)) λh=>h2 (by have:=of_decide_eq_false h;omega)
theorem rv {a b:One} {X Y:Prop} (hr:¬a.a.aV=b.a.aV) (h1:a.a.aV<b.a.aV->X) (h2:b.a.aV<a.a.aV->Y):uw a b X Y:=by
 unfold uw;have e:(a.a.aV !=b.a.aV)=true:=by simpa using hr
 rw[e,cond_true];exact aU (λh=>h2 (by have:¬a.a.aV<b.a.aV:=by simpa using h
                                      omega)) λh=>h1 (by simpa using h)
theorem RK (s:Int) {k:Bool->List One->Nat->Prop}:∀{es:List One},bS es->(∀b l m,b=Sd.Q.waits (bD es) s->l.length=es.length->bS (l.take m)->bD (l.take m)=Sd.Q.drop (bD es) s->m<=es.length->k b l m)->D4 es s k
 |[],hH,h=>h _ [] 0 rfl rfl trivial rfl (by simp)
 |[a],hH,h=>by
  simp only[D4,wW,rmP];refine aU (λh1=>h _ _ _ ?_ rfl ?_ ?_ ?_) (λh1=>h _ _ _ ?_ rfl ?_ ?_ ?_)<;>simp at h1<;>simp[bD,bS,Sd.Q.drop,Sd.Q.waits,h1]
 |[a,b],hH,h=>by
  simp only[D4,wW,rmP];obtain⟨hr,hs⟩:=hH;have uZ:¬b.a.source=a.a.source:=λh=>hs h.symm;refine aU (λh1=>?_) (λh1=>aU (λh2=>?_) (λh2=>?_));all_goals
   refine h _ _ _ ?_ rfl ?_ ?_ ?_<;>clear h;all_goals (simp only[beq_iff_eq,beq_eq_false_iff_ne,ne_eq]at*;subst_vars;simp[bD,bS,Sd.Q.drop,Sd.Q.waits, *])
 |[a,b,c],hH,h=>by
  simp only[D4,wW,rmP];obtain⟨⟨r1,r2,r3⟩,s1,s2,s3⟩:=hH;have s1':¬b.a.source=a.a.source:=λh=>s1 h.symm;have s2':¬c.a.source=a.a.source:=λh=>s2 h.symm;have s3':¬c.a.source=b.a.source:=λh=>s3 h.symm;have r4:b.a.aV<c.a.aV\/c.a.aV<b.a.aV:=by omega
  refine aU (λh1=>rv r3 (λh4=>?_) (λh4=>?_)) (λh1=>aU (λh2=>rv (by omega) (λh4=>absurd h4 (by omega)) (λh4=>?_)) (λh2=>aU (λh3=>?_) (λh3=>?_)));all_goals
   refine h _ _ _ ?_ rfl ?_ ?_ ?_<;>clear h;all_goals (rcases r4 with r4|r4<;>have r5:=Int.lt_asymm r4<;>simp only[beq_iff_eq,beq_eq_false_iff_ne,ne_eq]at*<;>subst_vars<;>simp[bD,bS,Sd.Q.drop,Sd.Q.waits, *]<;>omega)
 |_::_::_::_::_,hH,_=>absurd hH (by simp[bS])
def aby (x:One) (k:List One->Prop):List One->Prop
 |[]=>k [x]
 |[a]=>uw x a (k [x,a]) (k [a,x])
 |[a,b]=>uw x a (k [x,b,a]) (k [a,b,x])
 |[a,b,c]=>uw x b (uw x a (k [x,a,c,b]) (k [a,x,c,b])) (k [a,b,c,x])
 |_=>False
theorem RL (x:One) {k:List One->Prop}:∀{es:List One},bS es->es.length<3->(∀e∈bD es,¬e.source=x.a.source/\¬e.aV=x.a.aV)->(∀l,l.length=es.length+1->bS l->bD l=Sd.Q.insert (bD es) x.a->k l)->aby x k es
 |[],hH,_,_,h=>h _ rfl trivial rfl
 |[a],hH,_,hr,h=>by
  obtain⟨h1,h2⟩:=hr a.a (by simp[bD]);have h1':¬x.a.source=a.a.source:=λh=>h1 h.symm;refine rv (by omega) (λh4=>h _ rfl ?_ ?_) (λh4=>h _ rfl ?_ ?_)<;>clear h<;>have h5:=Int.lt_asymm h4<;>have h6:=Int.le_of_lt h4<;>have h7:=Int.not_le.2 h4<;>simp[bD,bS,Sd.Q.insert,List.takeWhile,List.dropWhile, *]
 |[a,b],hH,_,hr,h=>by
  obtain⟨r1,s1⟩:=hH;obtain⟨h1,h2⟩:=hr a.a (by simp[bD]);obtain⟨g1,g2⟩:=hr b.a (by simp[bD]);have h1':¬x.a.source=a.a.source:=λh=>h1 h.symm;have g1':¬x.a.source=b.a.source:=λh=>g1 h.symm;have s1':¬b.a.source=a.a.source:=λh=>s1 h.symm;have r4:b.a.aV<x.a.aV\/x.a.aV<b.a.aV:=by omega
  refine rv (by omega) (λh4=>h _ rfl ?_ ?_) (λh4=>h _ rfl ?_ ?_)<;>clear h hr<;>rcases r4 with r4|r4<;>have r5:=Int.lt_asymm r4<;>have r6:=Int.le_of_lt r4<;>have r7:=Int.not_le.2 r4<;>have h5:=Int.lt_asymm h4<;>have h6:=Int.le_of_lt h4<;>have h7:=Int.not_le.2 h4<;>have r8:=Int.lt_asymm r1<;>
   simp[bD,bS,Sd.Q.insert,List.takeWhile,List.dropWhile, *]<;>omega
 |_::_::_::_,_,hl,_,_=>absurd hl (by simp)
def abz (k:List One->Prop):List One->Prop
 |[a,b]=>zA b a (k [b,a]) (k [a,b])
 |[a,b,c]=>zA b a (S b a c) (S a b c)
 |l=>k l
where S (p q c:One):Prop:=zA c q (zA c p (k [c,p,q]) (k [p,c,q])) (k [p,q,c])
theorem RM {k:List One->Prop}:∀{es:List One},bS es->(∀l,l.map (·.a)=bD es->l.length=es.length->k l)->abz k es
 |[],hH,h=>h _ rfl rfl
 |[a],hH,h=>h _ rfl rfl
 |[a,b],hH,h=>vj (by obtain⟨r,_⟩:=hH;omega) (λh4=>absurd h4 (by obtain⟨r,_⟩:=hH;omega)) λ_=>h _ rfl rfl
 |[a,b,c],hH,h=>by
  obtain⟨⟨r1,r2,r3⟩,_⟩:=hH;refine vj (by omega) (λh4=>absurd h4 (by omega)) λ_=>vj (by omega) (λh4=>vj (by omega) (λh5=>absurd h5 (by omega)) λ_=>h _ ?_ rfl) λh4=>h _ ?_ rfl
  ·simp[bD,Int.lt_asymm h4]
  ·simp[bD,h4]
 |_::_::_::_::_,hH,_=>absurd hH (by simp[bS])
theorem D5 {most cm:Int} {y:V} {M:List Sd.Ask} {l:List One} {m c:Nat} {t:List Value} (hm:m<=l.length) (hc:l.length<=c) (hs:eL (b_ l++[.rest t])=c*5) (hH:bS (l.take m)) (hA:bD (l.take m)=M):KP most y M y [bE (.sl 1 0 m c) most cm,dm l t] []:=by
 have e1:(l.take m).length=m:=by rw[List.length_take];omega
 have e2:∀a b:List One,b_ (a++b)=b_ a++b_ b:=λa b=>by
  induction a with
  |nil=>rfl
  |cons x a ih=>simp only[List.cons_append,b_,ih,List.append_assoc]
 have e3:b_ l++[.rest t]=b_ (l.take m)++(b_ (l.drop m)++[.rest t]):=by
  rw[<-List.append_assoc,<-e2,List.take_append_drop]
 have e4:∀l:List One,cH 0 (b_ l++[.rest t])=true:=λl=>by
  induction l with
  |nil=>rfl
  |cons x l ih=>simp only[b_,nu,List.cons_append,List.nil_append,cH,ih];rfl
 refine⟨rfl,l.take m,cm,hH,hA,.inr ⟨c,b_ (l.drop m)++[.rest t],?_,e4 _,by omega,by rw[<-e3];exact hs⟩⟩;rw[e1,<-e3];rfl
theorem g_ (t:List Value):∀l:List One,eL (b_ l++[.rest t])=l.length*5+t.length
 |[]=>by simp[b_,eL,szV]
 |e::l=>by
  have:=g_ t l;simp only[b_,nu,List.cons_append,List.nil_append,eL,szV,this,List.length_cons];omega
section
variable(e0 e1 e2:One) (n c:Nat) (t:List Value) (most came s:Int) (K:VK Empty)
def dK (l:List One):Prop:=D4 l s λr l m=>K (.bool r) [bE (.sl 1 0 m c) most came,dm l t] []
theorem ad0:qe 90 86 [.ptr 0 0,.int .i64 s] [bE (.raw (.slice none 0 0)) most came] (cP 1 K)=K (.bool false) [bE (.raw (.slice none 0 0)) most came] []:=by kernel_rfl
theorem ad1:qe 90 86 [.ptr 0 0,.int .i64 s] [bE (.sl 1 0 0 c) most came,dm [] t] (cP 1 K)=dK c t most came s K []:=by kernel_rfl
theorem ad2:qe 90 86 [.ptr 0 0,.int .i64 s] [bE (.sl 1 0 [e0].length (c+[e0].length)) most came,dm [e0] t] (cP 1 K)=dK (c+[e0].length) t most came s K [e0]:=by kernel_rfl
theorem ad3:qe 90 86 [.ptr 0 0,.int .i64 s] [bE (.sl 1 0 [e0,e1].length (c+[e0,e1].length)) most came,dm [e0,e1] t] (cP 1 K)=dK (c+[e0,e1].length) t most came s K [e0,e1]:=by kernel_rfl
theorem ad4:qe 90 86 [.ptr 0 0,.int .i64 s] [bE (.sl 1 0 [e0,e1,e2].length (c+[e0,e1,e2].length)) most came,dm [e0,e1,e2] t] (cP 1 K)=dK (c+[e0,e1,e2].length) t most came s K [e0,e1,e2]:=by kernel_rfl
end
theorem RN {c:Nat} {t:List Value} {most came s:Int} {K:VK Empty}:∀{es:List One},bS es->dK (c+es.length) t most came s K es->Hd (qe 90 86 [.ptr 0 0,.int .i64 s] [bE (.sl 1 0 es.length (c+es.length)) most came,dm es t] (cP 1 K))
 |[],_,h=>⟨by rw[List.length_nil,ad1];exact h⟩
 |[e0],_,h=>⟨by rw[ad2];exact h⟩
 |[e0,e1],_,h=>⟨by rw[ad3];exact h⟩
 |[e0,e1,e2],_,h=>⟨by rw[ad4];exact h⟩
 |_::_::_::_::_,hH,_=>absurd hH (by simp[bS])
theorem Yk {es:List One} (hH:bS es) {most came s:Int} {c:Nat} {t:List Value} (hc:es.length<=c) (hs:eL (b_ es++[.rest t])=c*5):dK c t most came s (KP most (.bool (Sd.Q.waits (bD es) s)) (Sd.Q.drop (bD es) s)) es:=
 RK s hH λb l m hb hl h1 h2 hm=>by
  subst hb;exact D5 (by omega) (by omega) (by rw[<-hs,g_,g_,hl]) h1 h2
theorem ad5 {bq:Nat} {most:Int} {L:List Sd.Ask} {bl bs:List av} {ms:List Nat} {w0 w:World} (s:Int) (hQ:QS bq most L bl) (S0:St ms w0 (bl++bs) w):
 aj prog 86 #[.pointer (some ⟨bq,0,none⟩),.int .i64 s] w λv w1=>∃bl',v=.bool (Sd.Q.waits L s)/\QS bq most (Sd.Q.drop L s) bl'/\St ms w0 (bl'++bs) w1:=by
 obtain⟨es,x,c,came,rows,rfl,hr,hH,rfl⟩:=hQ;refine RH (f:=86) (ar:=[.int .i64 s]) (y:=.bool (Sd.Q.waits (bD es) s)) rfl hr (λh0=>?_) (λt hc hs=>?_) (λ_=>rfl) S0
 ·subst h0;rw[ad0];exact⟨rfl,[],came,trivial,rfl,.inl ⟨rfl,rfl⟩⟩
 ·have h:=Yk hH (most:=most) (came:=came) (s:=s) hc hs;obtain⟨d,hd⟩:∃d,c=d+es.length:=⟨c-es.length,by omega⟩;rw[hd]at h⊢;exact(RN hH h).h
section
variable(e0 e1 e2:One) (a:Sd.Ask) (c:Nat) (t:List Value) (most came:Int) (K:VK Empty)
def pK (es:List One) (n c':Nat) (u:List Value):Prop:=aby ⟨a,came⟩ (λl=>K (.int .i64 0) [bE (.sl 1 0 n c') most (u64.wrap (came+1)),dm l u] []) es
def pX (es:List One):Prop:=wW a.source (λ_=>K (.int .i64 27) [bE (.sl 1 0 es.length c) most came,dm es t] []) (cond (decide ((es.length:Int)>=most)) (K (.int .i64 3) [bE (.sl 1 0 es.length c) most came,dm es t] [])
 ((es.length<=c/\eL (b_ es++[.rest t])=c*5)/\(∀(c':Nat) (u:List Value),es.length+1<=c'->eL (b_ (es++[⟨a,came⟩])++[.rest u])=c'*5->pK a most came K es (es.length+1) c' u)/\
   (∀(c':Nat) (u:List Value),es.length+1<=c'->eL (b_ (es++[⟨a,came⟩])++[.rest u])=c'*5->pK a most came K es (es.length+1) c' u))) es 0
theorem ad6:qe 90 216 [.ptr 0 0,.agg (kx a)] [bE (.raw (.slice none 0 0)) most came] (cP 1 K)=cond (decide ((0:Int)>=most)) (K (.int .i64 3) [bE (.raw (.slice none 0 0)) most came] [])
 (∀(c':Nat) (u:List Value),1<=c'->eL (b_ [⟨a,came⟩]++[.rest u])=c'*5->pK a most came K [] 1 c' u):=by kernel_rfl
theorem ad7:qe 90 216 [.ptr 0 0,.agg (kx a)] [bE (.sl 1 0 0 0) most came,dm [] t] (cP 1 K)=cond (decide ((0:Int)>=most)) (K (.int .i64 3) [bE (.sl 1 0 0 0) most came,dm [] t] [])
 (∀(c':Nat) (u:List Value),1<=c'->eL (b_ [⟨a,came⟩]++[.rest u])=c'*5->pK a most came K [] 1 c' u):=by kernel_rfl
theorem ad8:qe 90 216 [.ptr 0 0,.agg (kx a)] [bE (.sl 1 0 0 (c+1)) most came,dm [] t] (cP 1 K)=pX a (c+1) t most came K []:=by kernel_rfl
theorem ad9:qe 90 216 [.ptr 0 0,.agg (kx a)] [bE (.sl 1 0 [e0].length c) most came,dm [e0] t] (cP 1 K)=pX a c t most came K [e0]:=by kernel_rfl
theorem ad_:qe 90 216 [.ptr 0 0,.agg (kx a)] [bE (.sl 1 0 [e0,e1].length c) most came,dm [e0,e1] t] (cP 1 K)=pX a c t most came K [e0,e1]:=by kernel_rfl
theorem aea:qe 90 216 [.ptr 0 0,.agg (kx a)] [bE (.sl 1 0 [e0,e1,e2].length c) most came,dm [e0,e1,e2] t] (cP 1 K)=pX a c t most came K [e0,e1,e2]:=by kernel_rfl
end
def KS (n:Nat) (B:List VB) (M:List Sd.Ask):VK Empty:=λx b _=>∃l c u,x=.sl 2 0 n c/\b=B++[dm l u]/\l.map (·.a)=M/\l.length=n/\n<=c/\eL (b_ l++[.rest u])=c*5
section
variable(e0 e1 e2:One) (c:Nat) (t:List Value) (most came:Int) (K:VK Empty)
def sX (es:List One):Prop:=∀(c':Nat) (u:List Value),es.length<=c'->eL (b_ es++[.rest u])=c'*5->abz (λl=>K (.sl 2 0 es.length c') [bE (.sl 1 0 es.length c) most came,dm es t,dm l u] []) es
theorem aim:qe 90 68 [.ptr 0 0] [bE (.raw (.slice none 0 0)) most came] (cP 1 K)=K (.raw (.slice none 0 0)) [bE (.raw (.slice none 0 0)) most came] []:=by kernel_rfl
theorem ain:qe 90 68 [.ptr 0 0] [bE (.sl 1 0 0 c) most came,dm [] t] (cP 2 K)=K (.sl 2 0 0 0) [bE (.sl 1 0 0 c) most came,dm [] t,⟨true,⟨162,(0,0)⟩,[]⟩] []:=by kernel_rfl
theorem aio:qe 90 68 [.ptr 0 0] [bE (.sl 1 0 [e0].length (c+[e0].length)) most came,dm [e0] t] (cP 2 K)=sX (c+[e0].length) t most came K [e0]:=by kernel_rfl
theorem aip:qe 90 68 [.ptr 0 0] [bE (.sl 1 0 [e0,e1].length (c+[e0,e1].length)) most came,dm [e0,e1] t] (cP 2 K)=sX (c+[e0,e1].length) t most came K [e0,e1]:=by kernel_rfl
theorem aiq:qe 90 68 [.ptr 0 0] [bE (.sl 1 0 [e0,e1,e2].length (c+[e0,e1,e2].length)) most came,dm [e0,e1,e2] t] (cP 2 K)=sX (c+[e0,e1,e2].length) t most came K [e0,e1,e2]:=by kernel_rfl
def Cy (b:VB):VB:=⟨false,b.ty,b.c⟩
def gb:List Sd.Ask->Sd.Ask×Int
 |[]=>(⟨0,0,⟨0,0⟩⟩,2)
 |a::_=>(a,0)
def hV (l:List Sd.Ask):V:=.az [.agg (kx (gb l).1),.int .i64 (gb l).2]
theorem aeb:qe 30 213 [.ptr 0 0] [Cy (bE (.raw (.slice none 0 0)) most came)] (cP 0 K)=K (hV []) [] []:=by kernel_rfl
theorem aec:qe 30 213 [.ptr 0 0] [Cy (bE (.sl 1 0 0 c) most came),Cy (dm [] t)] (cP 0 K)=K (hV []) [] []:=by kernel_rfl
theorem aed:qe 30 213 [.ptr 0 0] [Cy (bE (.sl 1 0 [e0].length c) most came),Cy (dm [e0] t)] (cP 0 K)=K (hV [e0.a]) [] []:=by kernel_rfl
theorem aee:qe 30 213 [.ptr 0 0] [Cy (bE (.sl 1 0 [e0,e1].length c) most came),Cy (dm [e0,e1] t)] (cP 0 K)=K (hV [e0.a]) [] []:=by kernel_rfl
theorem aef:qe 30 213 [.ptr 0 0] [Cy (bE (.sl 1 0 [e0,e1,e2].length c) most came),Cy (dm [e0,e1,e2] t)] (cP 0 K)=K (hV [e0.a]) [] []:=by kernel_rfl
end
def RO (n:Nat) (es:List One) (k0:Option Addr->Nat->Prop) (k:Nat->List One->List Value->Prop):Prop:=match n with
 |0=>∀(x:Option Addr) (c:Nat),k0 x c
 |1=>∀(a:One) (c:Nat) (t:List Value),[a.a]=bD es->k c [a] t
 |2=>∀(a b:One) (c:Nat) (t:List Value),[a.a,b.a]=bD es->k c [a,b] t
 |3=>∀(a b d:One) (c:Nat) (t:List Value),[a.a,b.a,d.a]=bD es->k c [a,b,d] t
 |_=>False
def vl (n:Nat) (es:List One) (most came:Int):gm aC:=λargs bl ch K=>match args,bl,ch with
 |[.ptr 0 0],[b],[g1,g2,g]=>(b=bE g.v most came/\g.T=162/\g.z=5/\g.os=dY es/\g.n=es.length/\es.length=n/\bS es)/\RO n es (λx c=>K (.raw (.slice x 0 c)) bl ch) (λc l t=>K (.sl 1 0 n c) (bl++[dm l t]) ch)
 |_,_,_=>False
def apps (r:aC) (news:List Value) (k:aC->Prop):Prop:=(r.v=r.v/\r.n+1<=1000000)/\∀(xa:Option Addr) (c:Nat) (bk:List av) (h:fa r.z r.T (r.os++news) xa (r.n+1) c bk),k ⟨r.T,r.z,r.os++news,xa,r.n+1,c,bk,h⟩
def Yl (g:aC) (T z:Nat) (os:List Value) (n:Nat):Prop:=g.T=T/\g.z=z/\g.os=os/\g.n=n
theorem tK:∀a b:List Sd.Ask,lb (a++b)=lb a++lb b
 |[],b=>rfl
 |x::a,b=>by simp only[List.cons_append,lb,tK a b,List.append_assoc]
theorem Bm {r:aC} {news:List Value} {k:aC->Prop} {T z n:Nat} {os:List Value} (h:Yl r T z os n) (hn:n<100) (hk:∀r',Yl r' T z (os++news) (n+1)->k r'):apps r news k:=by
 obtain⟨rfl,rfl,rfl,rfl⟩:=h;exact⟨⟨rfl,by omega⟩,λxa c bk hh=>hk _ ⟨rfl,rfl,rfl,rfl⟩⟩
theorem wY {es:List One} (h:bS es):(bD es).length=es.length/\es.length<=3:=by
 match es,h with
 |[],_=>simp[bD]
 |[x],_=>simp[bD]
 |[x,y],h=>simp[bD]
 |[x,y,z],h=>simp only[bD];split<;>simp
 |_::_::_::_::_,h=>exact absurd h (by simp[bS])
theorem Ym {n:Nat} {es l:List One} {k0:Option Addr->Nat->Prop} {k:Nat->List One->List Value->Prop} (h:RO n es k0 k) (hl:l.length=n) (hm:l.map (·.a)=bD es):(n=0->∀x c,k0 x c)/\(0<n->∀c t,k c l t):=by
 match l,n,hl with
 |[],0,_=>exact⟨λ_=>h,λh=>by omega⟩
 |[a],1,_=>exact⟨λh=>by omega,λ_ c t=>h a c t hm⟩
 |[a,b],2,_=>exact⟨λh=>by omega,λ_ c t=>h a b c t hm⟩
 |[a,b,d],3,_=>exact⟨λh=>by omega,λ_ c t=>h a b d c t hm⟩
 |_::_::_::_::_,n+4,_=>exact h.elim
theorem JU {n:Nat} {es:List One} {k0:Option Addr->Nat->Prop} {k:Nat->List One->List Value->Prop} (hn:n<=3) (h0:n=0->∀x c,k0 x c) (h:∀l c t,l.map (·.a)=bD es->l.length=n->k c l t):RO n es k0 k:=by
 match n,hn with
 |0,_=>exact h0 rfl
 |1,_=>exact λa c t hm=>h [a] c t hm rfl
 |2,_=>exact λa b c t hm=>h [a,b] c t hm rfl
 |3,_=>exact λa b d c t hm=>h [a,b,d] c t hm rfl
theorem Yn {c:Nat} {t:List Value} {most came:Int} {K:VK Empty}:∀{es:List One},bS es->0<es.length->sX (c+es.length) t most came K es->Hd (qe 90 68 [.ptr 0 0] [bE (.sl 1 0 es.length (c+es.length)) most came,dm es t] (cP 2 K))
 |[],_,h0,_=>absurd h0 (by simp)
 |[e0],_,_,h=>⟨by rw[aio];exact h⟩
 |[e0,e1],_,_,h=>⟨by rw[aip];exact h⟩
 |[e0,e1,e2],_,_,h=>⟨by rw[aiq];exact h⟩
 |_::_::_::_::_,hH,_,_=>absurd hH (by simp[bS])
theorem RP {es:List One} {x:Option Addr} {c bq:Nat} {most came:Int} {rows bs:List av} {ms:List Nat} {w0 w:World} (j7:fa 5 162 (dY es) x es.length c rows) (hH:bS es)
 (S0:St ms w0 (⟨bq,true,.cells #[.slice x es.length c,.int .i64 most,.int .u64 came] 146 (0,0)⟩::(rows++bs)) w):
 aj prog 68 #[.pointer (some ⟨bq,0,none⟩)] w λv w1=>∃l xr cr rw,v=.slice xr es.length cr/\l.map (·.a)=bD es/\l.length=es.length/\(es.length=0\/fa 5 162 (dY l) xr es.length cr rw)/\St ms w0 (rw++(⟨bq,true,.cells #[.slice x es.length c,.int .i64 most,.int .u64 came] 146 (0,0)⟩::(rows++bs))) w1:=by
 obtain⟨_,hle,j7⟩:=j7;rcases j7 with⟨rfl,h0,rfl,rfl⟩|⟨b,t,rfl,rfl,hlen⟩
 ·obtain rfl:es=[]:=List.eq_nil_of_length_eq_zero h0;refine(n9 (f:=68) (n:=90) (args:=[.ptr 0 0]) (n0:=1) (K:=λx b _=>x=.raw (.slice none 0 0)/\b=[bE (.raw (.slice none 0 0)) most came]) (ids:=[bq]) (bl:=[bE (.raw (.slice none 0 0)) most came]) (by rw[aim];exact⟨rfl,rfl⟩) rfl (by simp) S0).mono ?_;rintro v w1 ⟨x,more,b,rfl,hl,S1,rfl,rfl⟩;obtain rfl:more=[]:=by simpa using hl
  exact⟨[],none,0,[],rfl,rfl,rfl,.inl rfl,S1⟩
 ·have e3:lits [bq,b] [bq,b] [bE (.sl 1 0 es.length c) most came,dm es t]=⟨bq,true,.cells #[.slice (some ⟨b,0,none⟩) es.length c,.int .i64 most,.int .u64 came] 146 (0,0)⟩::[⟨b,true,.cells (dY es++t).toArray 162 (0,0)⟩]:=by
   simp only[lits,aE,dm,bo,fi,ab,cl,List.append_nil];rfl
  have S1:St ms w0 (lits [bq,b] [bq,b] [bE (.sl 1 0 es.length c) most came,dm es t]++bs) w:=by rw[e3];exact S0
  rcases Nat.eq_zero_or_pos es.length with h0|h0
  ·obtain rfl:es=[]:=List.eq_nil_of_length_eq_zero h0;refine(n9 (f:=68) (n:=90) (args:=[.ptr 0 0]) (n0:=2) (K:=λx b _=>x=.sl 2 0 0 0/\b=[bE (.sl 1 0 0 c) most came,dm [] t,⟨true,⟨162,(0,0)⟩,[]⟩]) (ids:=[bq,b]) (by rw[show([]:List One).length=0 from rfl,ain];exact⟨rfl,rfl⟩) rfl (by simp) S1).mono ?_;rintro v w1 ⟨x,more,bl',rfl,hl,S2,rfl,rfl⟩
   match more,hl with
   |[b2],_=>
    refine⟨[],some ⟨b2,0,none⟩,0,[],rfl,rfl,rfl,.inl rfl,?_⟩;have e5:lits [bq,b,b2] [bq,b,b2] [bE (.sl 1 0 0 c) most came,dm [] t,⟨true,⟨162,(0,0)⟩,[]⟩]=[⟨bq,true,.cells #[.slice (some ⟨b,0,none⟩) 0 c,.int .i64 most,.int .u64 came] 146 (0,0)⟩,⟨b,true,.cells (dY []++t).toArray 162 (0,0)⟩]++[⟨b2,true,.cells #[] 162 (0,0)⟩]:=by
     simp only[List.cons_append,List.nil_append,lits,aE,dm,b_,dY,ab,cl,List.append_nil];rfl
    have e4:([bq,b].take 2++[b2]:List Nat)=[bq,b,b2]:=rfl;rw[e4,e5]at S2;have:=S2.sub (List.Sublist.append_right (List.sublist_append_left [_,_] _) bs);exact this
  ·have fU:qe 90 68 [.ptr 0 0] [bE (.sl 1 0 es.length c) most came,dm es t] (cP 2 (KS es.length [bE (.sl 1 0 es.length c) most came,dm es t] (bD es))):=by
    have h:sX c t most came (KS es.length [bE (.sl 1 0 es.length c) most came,dm es t] (bD es)) es:=λc' u h1 h2=>RM hH λl hm hl=>⟨l,c',u,rfl,rfl,hm,hl,h1,by rw[<-h2,g_,g_,hl]⟩;clear hlen e3 S0 S1;obtain⟨d,hd⟩:∃d,c=d+es.length:=⟨c-es.length,by omega⟩;rw[hd]at h⊢;exact(Yn hH h0 h).h
   refine(n9 fU (ids:=[bq,b]) rfl (by simp) S1).mono ?_;rintro v w1 ⟨x,more,bl',rfl,hl,S2,l,c',u,rfl,rfl,hm,hll,Tt,iM⟩
   match more,hl with
   |[b2],_=>
    have e4:([bq,b].take 2++[b2]:List Nat)=[bq,b,b2]:=rfl;have e5:lits [bq,b,b2] [bq,b,b2] ([bE (.sl 1 0 es.length c) most came,dm es t]++[dm l u])=⟨bq,true,.cells #[.slice (some ⟨b,0,none⟩) es.length c,.int .i64 most,.int .u64 came] 146 (0,0)⟩::⟨b,true,.cells (dY es++t).toArray 162 (0,0)⟩::[⟨b2,true,.cells (dY l++u).toArray 162 (0,0)⟩]:=by
     simp only[List.cons_append,List.nil_append,lits,aE,dm,bo,fi,ab,cl,List.append_nil];rfl
    rw[e4,e5]at S2;refine⟨l,some ⟨b2,0,none⟩,c',[⟨b2,true,.cells (dY l++u).toArray 162 (0,0)⟩],rfl,hm,hll,.inr ⟨by rw[tJ,hll],Tt,.inr ⟨b2,u,rfl,rfl,?_⟩⟩,?_⟩
    ·rw[<-iM,<-cL (ids:=[]),bo,fi];simp[ab,cl]
    ·exact S2.perm ((List.Perm.append_right bs (List.perm_append_comm (l₁:=[_,_]) (l₂:=[_]))))
theorem ry (n:Nat) (es:List One) (most came:Int):Sound prog (λ_=>none) 68 (vl n es most came):=by
 intro args ids bl ch R ms w0 w K hg hl S hc;unfold vl at hc;split at hc
 ·rename_i b g1 g2 g;obtain⟨⟨rfl,hT,hz,rO,hn,rfl,hH⟩,hK⟩:=hc
  match ids,hl with
  |[i],_=>
   have e1:lits [i] [i] [bE g.v most came]=[⟨i,true,.cells #[.slice g.x g.n g.c,.int .i64 most,.int .u64 came] 146 (0,0)⟩]:=rfl;have p1:∀(q:av) (A B D:List av),(([q]:List av)++(A++(B++(D++R)))).Perm (q::(D++(A++(B++R)))):=by
    intro q A B D;refine List.Perm.cons q ?_;have:=List.perm_append_comm_assoc (A++B) D R;simpa[List.append_assoc]using this
   rw[e1]at S;have S1:=S.perm (p1 _ g1.bl g2.bl g.bl);have hr:=g.h;rw[hT,hz,rO,hn]at hr;rw[hn]at S1;refine(RP hr hH S1).mono ?_;rintro v w1 ⟨l,xr,cr,rw_,rfl,hm,hll,j7,S2⟩;obtain⟨k0,k1⟩:=Ym hK hll hm;rcases Nat.eq_zero_or_pos es.length with h0|h0
   ·refine⟨_,[],_,_,?_,rfl,?_,k0 h0 xr cr⟩
    ·simp only[den];rw[h0]
    ·have S3:=S2.sub (List.sublist_append_right rw_ _);rw[<-hn]at S3;have S4:=S3.perm (p1 _ g1.bl g2.bl g.bl).symm;exact S4
   ·rcases j7 with h|h
    ·omega
    ·obtain⟨_,_,h3⟩:=h;rcases h3 with⟨_,hz,_⟩|⟨b,t,hx,hbl,_⟩
     ·omega
     ·refine⟨_,[b],_,_,?_,rfl,?_,k1 h0 cr t⟩
      ·simp only[den];rw[hx];rfl
      ·rw[hbl,<-hn]at S2;have e2:lits ([i]++[b]) ([i]++[b]) ([bE g.v most came]++[dm l t])=[⟨i,true,.cells #[.slice g.x g.n g.c,.int .i64 most,.int .u64 came] 146 (0,0)⟩]++[⟨b,true,.cells (dY l++t).toArray 162 (0,0)⟩]:=by
        simp only[List.singleton_append,lits,aE,dm,bo,fi,ab,cl,List.append_nil];rfl
       rw[e2];refine S2.perm ?_;refine(List.Perm.append_left _ (p1 _ g1.bl g2.bl g.bl).symm).trans ?_;rw[List.append_assoc];exact List.perm_append_comm_assoc _ _ _
 ·exact hc.elim
theorem wZ {es:List One} (h:bS es) (x:Sd.Ask):x∈bD es↔∃e∈es,e.a=x:=by
 match es,h with
 |[],_=>simp[bD]
 |[a],_=>simp[bD,eq_comm]
 |[a,b],_=>simp[bD,eq_comm]
 |[a,b,d],_=>
  simp only[bD];split<;>simp[eq_comm];exact or_congr_right or_comm
 |_::_::_::_::_,h=>exact absurd h (by simp[bS])
theorem D6 {s:Int} {RI:Nat->Prop} {RJ:Prop}:∀{es:List One} {i:Nat},((∃e∈es,e.a.source=s)->∀i,RI i)->((∀e∈es,¬e.a.source=s)->RJ)->wW s RI RJ es i
 |[],_,_,h2=>h2 (by simp)
 |e::l,i,h1,h2=>aU (λh=>h1 ⟨e,by simp,by simpa using h⟩ i) λh=>D6 (λ⟨x,hx,hs⟩=>h1 ⟨x,by simp[hx],hs⟩) λhl=>h2 λx hx=>by
  rcases List.mem_cons.1 hx with rfl|hx
  ·simpa using h
  ·exact hl x hx
theorem Yo {es:List One} (hH:bS es) {a:Sd.Ask} {most came:Int} {c:Nat} {t:List Value} (hm:most<=3) (hr:∀e∈bD es,e.source=a.source\/¬e.aV=a.aV) (hc:es.length<=c) (hs:eL (b_ es++[.rest t])=c*5):
 pX a c t most came (KP most (.int .i64 (Sd.Q.push most (bD es) a).2) (Sd.Q.push most (bD es) a).1) es:=by
 obtain⟨hal,Fx⟩:=wY hH;have same:∀k:Int,Sd.Q.push most (bD es) a=(bD es,k)->KP most (.int .i64 (Sd.Q.push most (bD es) a).2) (Sd.Q.push most (bD es) a).1 (.int .i64 k) [bE (.sl 1 0 es.length c) most came,dm es t] []:=λk hk=>by
  rw[hk];exact D5 (Nat.le_refl _) hc hs (by rw[List.take_length];exact hH) (by rw[List.take_length])
 refine D6 (λ⟨e,he,hse⟩ _=>same 27 ?_) λOJ=>aU (λh=>same 3 ?_) λh=>?_
 ·have:Sd.Q.waits (bD es) a.source=true:=List.any_eq_true.2 ⟨e.a,(wZ hH _).2 ⟨e,he,rfl⟩,by simpa using hse⟩;simp[Sd.Q.push,this]
 all_goals
  have hw:Sd.Q.waits (bD es) a.source=false:=List.any_eq_false.2 λx hx=>by
   obtain⟨e,he,rfl⟩:=(wZ hH _).1 hx;simpa using OJ e he
 ·have h':most<=((bD es).length:Int):=by rw[hal];exact of_decide_eq_true h
  simp[Sd.Q.push,hw,h']
 ·have h':¬most<=(es.length:Int):=of_decide_eq_false h;have e1:Sd.Q.push most (bD es) a=(Sd.Q.insert (bD es) a,0):=by simp[Sd.Q.push,hw,hal,h']
  rw[e1];have X:∀(c':Nat) (u:List Value),es.length+1<=c'->eL (b_ (es++[⟨a,came⟩])++[.rest u])=c'*5->pK a most came (KP most (.int .i64 0) (Sd.Q.insert (bD es) a)) es (es.length+1) c' u:=λc' u h1 h2=>by
   refine RL ⟨a,came⟩ hH (by omega) (λe he=>?_) λl hl hH' hA'=>?_
   ·obtain⟨x,hx,rfl⟩:=(wZ hH _).1 he;exact⟨OJ x hx,(hr _ he).resolve_left (OJ x hx)⟩
   ·exact D5 (by omega) (by omega) (by rw[<-h2,g_,g_,hl,List.length_append];rfl) (by rw[<-hl,List.take_length];exact hH') (by rw[<-hl,List.take_length];exact hA')
  exact⟨⟨hc,hs⟩,X,X⟩
theorem D7 {a:Sd.Ask} {most came:Int} (t:List Value) {B:List VB} (hB:B=[bE (.raw (.slice none 0 0)) most came]\/B=[bE (.sl 1 0 0 0) most came,dm [] t]/\t.length=0):
 cond (decide ((0:Int)>=most)) (KP most (.int .i64 (Sd.Q.push most (bD []) a).2) (Sd.Q.push most (bD []) a).1 (.int .i64 3) B [])
  (∀(c':Nat) (u:List Value),1<=c'->eL (b_ [⟨a,came⟩]++[.rest u])=c'*5->pK a most came (KP most (.int .i64 (Sd.Q.push most (bD []) a).2) (Sd.Q.push most (bD []) a).1) [] 1 c' u):=by
 refine aU (λh=>?_) λh c' u h1 h2=>?_
 ·have h':most<=0:=of_decide_eq_true h;have e1:Sd.Q.push most (bD []) a=([],3):=by simp[Sd.Q.push,Sd.Q.waits,bD,h']
  rw[e1];rcases hB with rfl|⟨rfl,ht⟩
  ·exact⟨rfl,[],came,trivial,rfl,.inl ⟨rfl,rfl⟩⟩
  ·exact D5 (l:=[]) (Nat.le_refl _) (Nat.le_refl _) (by rw[g_,ht];rfl) trivial rfl
 ·have h':¬most<=0:=of_decide_eq_false h;have e1:Sd.Q.push most (bD []) a=([a],0):=by simp[Sd.Q.push,Sd.Q.waits,Sd.Q.insert,bD,h']
  rw[e1];exact D5 (l:=[⟨a,came⟩]) (m:=1) (Nat.le_refl _) h1 h2 trivial rfl
theorem RQ {a:Sd.Ask} {t:List Value} {most came:Int} {K:VK Empty}:∀{es:List One} {c:Nat},bS es->0<es.length+c->pX a c t most came K es->Hd (qe 90 216 [.ptr 0 0,.agg (kx a)] [bE (.sl 1 0 es.length c) most came,dm es t] (cP 1 K))
 |[],0,_,h0,_=>absurd h0 (by simp)
 |[],c+1,_,_,h=>⟨by rw[List.length_nil,ad8];exact h⟩
 |[e0],_,_,_,h=>⟨by rw[ad9];exact h⟩
 |[e0,e1],_,_,_,h=>⟨by rw[ad_];exact h⟩
 |[e0,e1,e2],_,_,_,h=>⟨by rw[aea];exact h⟩
 |_::_::_::_::_,_,hH,_,_=>absurd hH (by simp[bS])
theorem aeg {bq:Nat} {most:Int} {L:List Sd.Ask} {bl bs:List av} {ms:List Nat} {w0 w:World} (a:Sd.Ask) (hQ:QS bq most L bl) (hm:most<=3) (hr:∀e∈L,e.source=a.source\/¬e.aV=a.aV) (S0:St ms w0 (bl++bs) w):
 aj prog 216 #[.pointer (some ⟨bq,0,none⟩),.agg (wJ a)] w λv w1=>∃bl',v=.int .i64 (Sd.Q.push most L a).2/\QS bq most (Sd.Q.push most L a).1 bl'/\St ms w0 (bl'++bs) w1:=by
 obtain⟨es,x,c,came,rows,rfl,mT,hH,rfl⟩:=hQ;refine RH (f:=216) (ar:=[.agg (kx a)]) (y:=.int .i64 (Sd.Q.push most (bD es) a).2) rfl mT (λh0=>?_) (λt hc hs=>?_) (λ_=>rfl) S0
 ·subst h0;rw[ad6];exact D7 [] (.inl rfl)
 ·rcases Nat.eq_zero_or_pos (es.length+c)with h0|h0
  ·obtain rfl:es=[]:=List.eq_nil_of_length_eq_zero (by omega);obtain rfl:c=0:=by simpa using h0
   rw[List.length_nil,ad7];exact D7 t (.inr ⟨rfl,by rw[g_]at hs;simpa using hs⟩)
  ·exact(RQ hH h0 (Yo hH (came:=came) hm hr hc hs)).h
theorem RR {c:Nat} {t:List Value} {most came:Int} {K:VK Empty}:∀{es:List One},bS es->K (hV (bD es)) [] []->Hd (qe 30 213 [.ptr 0 0] [Cy (bE (.sl 1 0 es.length c) most came),Cy (dm es t)] (cP 0 K))
 |[],_,h=>⟨by rw[List.length_nil,aec];exact h⟩
 |[e0],_,h=>⟨by rw[aed];exact h⟩
 |[e0,e1],_,h=>⟨by rw[aee];exact h⟩
 |[e0,e1,e2],_,h=>⟨by
  have e:hV (bD [e0,e1,e2])=hV [e0.a]:=by simp only[bD];split<;>rfl
  rw[e]at h;rw[aef];exact h⟩
 |_::_::_::_::_,hH,_=>absurd hH (by simp[bS])
theorem aeh {bq:Nat} {most:Int} {L:List Sd.Ask} {bl bs:List av} {ms:List Nat} {w0 w:World} (hQ:QS bq most L bl) (S0:St ms w0 (bl++bs) w):
 aj prog 213 #[.pointer (some ⟨bq,0,none⟩)] w λv w1=>v=.tuple #[.agg (wJ (gb L).1),.int .i64 (gb L).2]/\Ch [] w w1:=by
 obtain⟨es,x,c,came,rows,rfl,⟨_,hle,j7⟩,hH,rfl⟩:=hQ;have hq:=S0.at' (x:=⟨bq,true,.cells #[.slice x es.length c,.int .i64 most,.int .u64 came] 146 (0,0)⟩) (by simp);have fin:∀{ids:List Nat} {bl:List VB},(∃r,ids=bq::r)->ids.length=bl.length->qe 30 213 [.ptr 0 0] bl (cP 0 λv b _=>v=hV (bD es))->St [] w (lits ids ids bl++[]) w->aj prog 213 #[.pointer (some ⟨bq,0,none⟩)] w λv w1=>v=.tuple #[.agg (wJ (gb (bD es)).1),.int .i64 (gb (bD es)).2]/\Ch [] w w1:=by
  rintro ids bl ⟨r,rfl⟩ hl h S;refine(n9 h hl (by simp) S).mono ?_;rintro v w1 ⟨v2,more,b,rfl,_,S1,rfl⟩;exact⟨rfl,S1.ch⟩
 rcases j7 with⟨rfl,h0,rfl,rfl⟩|⟨b,t,rfl,rfl,hlen⟩
 ·obtain rfl:es=[]:=List.eq_nil_of_length_eq_zero h0;exact fin (ids:=[bq]) (bl:=[Cy (bE (.raw (.slice none 0 0)) most came)]) ⟨[],rfl⟩ rfl (by rw[aeb];rfl) (St.given [(bq,_)] (by intro p hp;simp only[List.mem_singleton]at hp;subst hp;exact hq))
 ·have hb:=S0.at' (x:=⟨b,true,.cells (dY es++t).toArray 162 (0,0)⟩) (by simp);have e3:ab [bq,b] (b_ es++[.rest t])=dY es++t:=by rw[bo,fi];simp[ab,cl]
  have S:St [] w (lits [bq,b] [bq,b] [Cy (bE (.sl 1 0 es.length c) most came),Cy (dm es t)]++[]) w:=
   St.given [(bq,.cells (ab [bq,b] [.sl 1 0 es.length c,.int .i64 most,.int .u64 came]).toArray 146 (0,0)),(b,.cells (ab [bq,b] (b_ es++[.rest t])).toArray 162 (0,0))] (by
    intro p hp;simp only[List.mem_cons,List.not_mem_nil,or_false]at hp;rcases hp with rfl|rfl
    ·exact hq
    ·rw[e3];exact hb)
  exact fin ⟨[b],rfl⟩ rfl (RR hH rfl).h S
def ltX (most came:Int) (gq g2:aC) (K:VK aC):List One->List VB->aC->Prop
 |[],j,g1=>K g1.v (bE gq.v most came::j) [g1,g2,gq]
 |e::l,j,g1=>apps g1 (ab [] (kx e.a)) λg1=>ltX most came gq g2 K l (j++[⟨true,⟨162,(0,0)⟩,nu e⟩,⟨true,⟨112,(0,0)⟩,kx e.a⟩]) g1
def ltA (n:Nat) (most came:Int) (gq:aC) (es:List One) (K:VK aC):Prop:=
 (bE gq.v most came=bE gq.v most came/\gq.T=162/\gq.z=5/\gq.os=dY es/\gq.n=es.length/\es.length=n/\bS es)/\RO n es (λx c=>ltX most came gq (.nil 162 5) K [] [] (.nil 112 4)) (λc l t=>ltX most came gq (.nil 162 5) K l [dm l t] (.nil 112 4))
section
variable(most came:Int) (gq:aC) (es:List One) (K:VK aC)
abbrev LL (n:Nat) (es:List One) (most came:Int):List (dI aC):=[⟨68,false,vl n es most came⟩]
theorem aei:cJ (Cw prog (λ_=>none) (LL 0 es most came)) 60 39 [.ptr 0 0] [bE gq.v most came] [.nil 112 4,.nil 162 5,gq] K=ltA 0 most came gq es K:=by kernel_rfl
theorem aej:cJ (Cw prog (λ_=>none) (LL 1 es most came)) 60 39 [.ptr 0 0] [bE gq.v most came] [.nil 112 4,.nil 162 5,gq] K=ltA 1 most came gq es K:=by kernel_rfl
theorem aek:cJ (Cw prog (λ_=>none) (LL 2 es most came)) 60 39 [.ptr 0 0] [bE gq.v most came] [.nil 112 4,.nil 162 5,gq] K=ltA 2 most came gq es K:=by kernel_rfl
theorem ael:cJ (Cw prog (λ_=>none) (LL 3 es most came)) 60 39 [.ptr 0 0] [bE gq.v most came] [.nil 112 4,.nil 162 5,gq] K=ltA 3 most came gq es K:=by kernel_rfl
end
def KL (most came:Int) (gq g2:aC) (M:List Sd.Ask):VK aC:=λv bl ch=>∃(j:List VB) (g1:aC),v=g1.v/\bl=bE gq.v most came::j/\ch=[g1,g2,gq]/\Yl g1 112 4 (lb M) M.length
theorem Hj (most came:Int) (gq g2:aC) {M:List Sd.Ask}:∀(l:List One) (j:List VB) (g1:aC) (G:List Sd.Ask),Yl g1 112 4 (lb G) G.length->G.length+l.length<100->G++l.map (·.a)=M->ltX most came gq g2 (KL most came gq g2 M) l j g1
 |[],j,g1,G,h1,_,hM=>⟨j,g1,rfl,rfl,rfl,by rw[<-hM];simpa using h1⟩
 |e::l,j,g1,G,h1,l1,hM=>by
  simp only[List.length_cons]at l1;exact Bm h1 (by omega) λr' hr=>Hj most came gq g2 l _ r' (G++[e.a]) (by rw[tK,List.length_append];exact hr) (by simp;omega) (by rw[<-hM];simp)
theorem aem {bq:Nat} {most:Int} {L:List Sd.Ask} {bl bs:List av} {ms:List Nat} {w0 w:World} (hQ:QS bq most L bl) (S0:St ms w0 (bl++bs) w):
 aj prog 39 #[.pointer (some ⟨bq,0,none⟩)] w λv w1=>∃x c1 rows,v=.slice x L.length c1/\fa 4 112 (lb L) x L.length c1 rows/\St ms w0 (rows++(bl++bs)) w1:=by
 obtain⟨es,x,c,came,rows,rfl,hr,hH,rfl⟩:=hQ;obtain⟨hal,Fx⟩:=wY hH
 let gq:aC:=⟨162,5,dY es,x,es.length,c,rows,hr⟩
 have S1:St ms w0 (lits [bq] [bq] [bE gq.v most came]++af [aC.nil 112 4,.nil 162 5,gq] bs) w:=by simpa[lits,af,Bl.B,aC.nil,gq,aE,bE,aC.v,ab,cl,den]using S0
 have hA:ltA es.length most came gq es (KL most came gq (.nil 162 5) (bD es)):=
  ⟨⟨rfl,rfl,rfl,rfl,rfl,rfl,hH⟩,JU Fx (λh0 x c=>Hj most came gq _ [] [] _ [] ⟨rfl,rfl,rfl,rfl⟩ (by simp) (by rw[List.eq_nil_of_length_eq_zero h0];rfl)) (λl c t hm hl=>Hj most came gq _ l _ _ [] ⟨rfl,rfl,rfl,rfl⟩ (by simp;omega) (by simpa using hm))⟩
 have fU:cJ (Cw prog (λ_=>none) (LL es.length es most came)) 60 39 [.ptr 0 0] [bE gq.v most came] [.nil 112 4,.nil 162 5,gq] (KL most came gq (.nil 162 5) (bD es)):=by
  rcases(by omega:es.length=0\/es.length=1\/es.length=2\/es.length=3)with h|h|h|h<;>rw[h]at hA⊢
  ·rw[aei];exact hA
  ·rw[aej];exact hA
  ·rw[aek];exact hA
  ·rw[ael];exact hA
 have di:ai prog (λ_=>none) (LL es.length es most came):=ai.cons ⟨ry _ es most came,λe=>by cases e⟩ ai.nil;refine(bw di.TR di.QR 60 (C:=Cw prog (λ_=>none) (LL es.length es most came)) (args:=[.ptr 0 0]) (λg i h=>by cases h) rfl S1 fU).mono ?_;rintro _ w' ⟨xx,more,bl',ch',rfl,D8,S3,j,g1,rfl,rfl,rfl,t1,t2,t3,t4⟩;have vm:=g1.h;rw[t1,t2,t3,t4]at vm;refine⟨g1.x,g1.c,g1.bl,by simp only[aC.v,den];rw[t4],vm,?_⟩;have e1:lits ([bq]++more) ([bq]++more) (bE gq.v most came::j)=⟨bq,true,.cells #[.slice x es.length c,.int .i64 most,.int .u64 came] 146 (0,0)⟩::lits ([bq]++more) more j:=rfl;rw[e1]at S3;have S4:=S3.sub (bs':=⟨bq,true,.cells #[.slice x es.length c,.int .i64 most,.int .u64 came] 146 (0,0)⟩::(g1.bl++(rows++bs))) (by
  rw[List.cons_append];exact List.Sublist.cons_cons _ (List.sublist_append_right _ _))
 exact S4.perm List.perm_middle.symm
structure LK where
 ka:Nat->Option Addr
 kn:Nat->Nat
 kc:Nat->Nat
 kf:Nat->Nat->Int
 bq:Nat
 tg:TypeId
 tc:TypeId
 most:Int
 px:Option Addr
 pn:Nat
 pc:Nat
 pf:Sd.Byt
structure FD where
 k:LK
 q:List Sd.Ask
 sent:List (Int×Sd.Reply)
 recs:List Sd.Rec
inductive w5 (fr:Sd.Reply->Nat×Sd.Byt):List (Int×Sd.Reply)->List Value->List av->Prop
 |nil:w5 fr [] [] []
 |snoc {l olds bl} (h:w5 fr l olds bl) (k:Int) (r:Sd.Reply) (x:Option Addr) (c:Nat) (b:List av) (hb:eK 5 (fr r).1 (fr r).2 x c b):w5 fr (l++[(k,r)]) (olds++[.int .i64 k,.slice x (fr r).1 c]) (bl++b)
structure bN (fr:Sd.Reply->Nat×Sd.Byt) (d:FD) where
 xs:Option Addr
 cs:Nat
 xr:Option Addr
 cr:Nat
 Bq:List av
 Br:List av
 Bs:List av
 Bf:List av
 Bk:List av
 so:List Value
 hq:QS d.k.bq d.k.most d.q Bq
 hr:fa 6 75 (oT d.recs) xr d.recs.length cr Br
 hs:fa 2 85 so xs d.sent.length cs Bs
 hf:w5 fr d.sent so Bf
 hk:∃b0 b1 b2 b3 b4,Bk=b0++(b1++(b2++(b3++b4)))/\eK 5 (d.k.kn 0) (d.k.kf 0) (d.k.ka 0) (d.k.kc 0) b0/\eK 5 (d.k.kn 1) (d.k.kf 1) (d.k.ka 1) (d.k.kc 1) b1/\eK 5 (d.k.kn 2) (d.k.kf 2) (d.k.ka 2) (d.k.kc 2) b2/\eK 5 (d.k.kn 3) (d.k.kf 3) (d.k.ka 3) (d.k.kc 3) b3/\eK 5 d.k.pn d.k.pf d.k.px d.k.pc b4
variable{fr:Sd.Reply->Nat×Sd.Byt}
def bN.B {d:FD} (F:bN fr d):List av:=F.Br++(F.Bs++(F.Bf++(F.Bq++F.Bk)))
def bN.vs {d:FD} (F:bN fr d):Value:=.slice F.xs d.sent.length F.cs
def bN.vr {d:FD} (F:bN fr d):Value:=.slice F.xr d.recs.length F.cr
structure Gh (fr:Sd.Reply->Nat×Sd.Byt) where
 d:FD
 dx:Nat->Sd.dQ
 sx:Nat->Sd.bm
 F:bN fr d
instance:Bl (Gh fr):=⟨λg=>g.F.B⟩
def r3 {α:Type} (a b c:α) (f:Nat->α):Nat->α:=λj=>match j with|0=>a|1=>b|2=>c|j+3=>f (j+3)
theorem vn {α:Type} (f:Nat->α):r3 (f 0) (f 1) (f 2) f=f:=by funext j;match j with|0=>rfl|1=>rfl|2=>rfl|j+3=>rfl
structure CC where
 p:Sd.Pol
 ka:Nat->Option Addr
 kn:Nat->Nat
 kc:Nat->Nat
 t:Sd.Tok
 vq:Value
 d0:Sd.dQ
 d1:Sd.dQ
 d2:Sd.dQ
 it:Nat
 sa:Int
 be:Int
 mo:Int
 mb:Sd.Label
 pt:Sd.Point
 hd:Nat->Int
def zB (x:CC):List V:=[.j8 x.p x.ka x.kn x.kc,.int .i64 x.t.holder,.int .i64 x.t.epoch,.int .i64 x.t.offer,.int .i64 x.t.oa.n,.int .i64 x.t.oa.most,.int .i64 x.t.la.n,.int .i64 x.t.la.most,.bool x.t.bad,.raw x.vq,
 .int .i64 x.d0.many,.bool x.d0.sG,.dC .u8 8 x.d0.ae,.int .i64 x.d1.many,.bool x.d1.sG,.dC .u8 8 x.d1.ae,.int .i64 x.d2.many,.bool x.d2.sG,.dC .u8 8 x.d2.ae,.ptr x.it 0,.int .i64 x.sa,.int .i64 x.be,.int .i64 x.mo,
 .int .i64 x.mb.mD,.int .i64 x.mb.source,.int .i64 x.mb.seq,.int .i64 x.pt.cls,.int .i64 x.pt.bx.a,.int .i64 x.pt.bx.b,.int .i64 x.pt.bx.c,.int .i64 x.pt.bx.d,.int .i64 x.pt.now.a,.int .i64 x.pt.now.b,.int .i64 x.pt.now.c,.int .i64 x.pt.now.d,
 .int .i64 x.pt.cX.mD,.int .i64 x.pt.cX.source,.int .i64 x.pt.cX.seq,.dC .u8 32 x.hd]
def w6:List V->Option CC
 |.j8 p ka kn kc::.int .i64 t1::.int .i64 t2::.int .i64 t3::.int .i64 t4::.int .i64 t5::.int .i64 t6::.int .i64 t7::.bool t8::.raw vq::.int .i64 a1::.bool a2::.dC .u8 8 a3::.int .i64 b1::.bool b2::.dC .u8 8 b3::.int .i64 c1::.bool c2::.dC .u8 8 c3::.ptr it 0::.int .i64 sa::.int .i64 be::.int .i64 mo::.int .i64 l1::.int .i64 l2::.int .i64 l3::.int .i64 p1::.int .i64 p2::.int .i64 p3::.int .i64 p4::.int .i64 p5::.int .i64 p6::.int .i64 p7::.int .i64 p8::.int .i64 p9::.int .i64 q1::.int .i64 q2::.int .i64 q3::.dC .u8 32 hd::[]=>some ⟨p,ka,kn,kc,⟨t1,t2,t3,⟨t4,t5⟩,⟨t6,t7⟩,t8⟩,vq,⟨a1,a2,a3⟩,⟨b1,b2,b3⟩,⟨c1,c2,c3⟩,it,sa,be,mo,⟨l1,l2,l3⟩,⟨p1,⟨p2,p3,p4,p5⟩,⟨p6,p7,p8,p9⟩,⟨q1,q2,q3⟩⟩,hd⟩
 |_=>none
theorem nv {l:List V} {x:CC} (h:w6 l=some x):l=zB x:=by
 unfold w6 at h;split at h
 ·obtain rfl:=Option.some.inj h;rfl
 ·cases h
structure TC where
 s1:Bool
 sn:Int
 sm:Int
 s0:Sd.bm
 sa:Sd.bm
 sb:Sd.bm
 b:Int
 m:Int
def tL (x:Sd.bm):List V:=[.bool x.on,.int .i64 x.aH.n,.int .i64 x.aH.most,.int .i64 x.role,.dC .u8 32 x.key,.bool x.seen.any,.int .i64 x.seen.high,.int .u64 x.seen.seen]
def cd (x:TC):List V:=.bool x.s1::.int .i64 x.sn::.int .i64 x.sm::(tL x.s0++(tL x.sa++(tL x.sb++[.int .i64 x.b,.int .i64 x.m])))
def uR:List V->Option TC
 |[.bool s1,.int .i64 sn,.int .i64 sm,.bool a1,.int .i64 a2,.int .i64 a3,.int .i64 a4,.dC .u8 32 a5,.bool a6,.int .i64 a7,.int .u64 a8,.bool b1,.int .i64 b2,.int .i64 b3,.int .i64 b4,.dC .u8 32 b5,.bool b6,.int .i64 b7,.int .u64 b8,
  .bool c1,.int .i64 c2,.int .i64 c3,.int .i64 c4,.dC .u8 32 c5,.bool c6,.int .i64 c7,.int .u64 c8,.int .i64 b,.int .i64 m]=>some ⟨s1,sn,sm,⟨a1,⟨a2,a3⟩,a4,a5,⟨a6,a7,a8⟩⟩,⟨b1,⟨b2,b3⟩,b4,b5,⟨b6,b7,b8⟩⟩,⟨c1,⟨c2,c3⟩,c4,c5,⟨c6,c7,c8⟩⟩,b,m⟩
 |_=>none
theorem jz {l:List V} {x:TC} (h:uR l=some x):l=cd x:=by
 unfold uR at h;split at h
 ·obtain rfl:=Option.some.inj h;rfl
 ·cases h
def lP (x:CC) (y:TC) (d:FD) (dx:Nat->Sd.dQ) (sx:Nat->Sd.bm):Sd.Scene:=
 ⟨⟨x.p,x.t,d.q,r3 x.d0 x.d1 x.d2 dx,⟨(y.s1,⟨y.sn,y.sm⟩),r3 y.s0 y.sa y.sb sx⟩,x.sa,x.be,x.mo,x.mb,x.pt,x.hd⟩,d.sent,d.recs⟩
def Cz (k:LK) (it:Nat) (s:Sd.Scene):CC:=⟨s.c.p,k.ka,k.kn,k.kc,s.c.t,.pointer (some ⟨k.bq,0,none⟩),s.c.doors 0,s.c.doors 1,s.c.doors 2,it,s.c.samples,s.c.beyond,s.c.mode,s.c.bj,s.c.pt,s.c.head⟩
def VV (s:Sd.Scene):TC:=⟨s.c.tab.aA.1,s.c.tab.aA.2.n,s.c.tab.aA.2.most,s.c.tab.ay 0,s.c.tab.ay 1,s.c.tab.ay 2,s.c.p.bh,s.c.p.aR⟩
def bA (k:LK) (s:Sd.Scene):FD:=⟨k,s.c.q,s.sent,s.recs⟩
def aG (k:LK):VB:=⟨false,k.tg,[.dC .u32 64 aX]⟩
def iA (k:LK):VB:=⟨false,k.tc,[.bool false,.bool false,.bool false,.bool false,.bool false,.bool false,.bool false,.bool false,.bool false,.bool false,.bool true,.bool true]⟩
def w7 (ic:Nat) {d:FD} (F:bN fr d):VB:=⟨true,⟨128,(0,0)⟩,[.ptr ic 0,.raw F.vs,.raw F.vr]⟩
def ew (k:LK) (it:Nat) (s:Sd.Scene):VB:=⟨true,⟨105,(0,0)⟩,zB (Cz k it s)⟩
def gP (s:Sd.Scene):VB:=⟨true,⟨157,(0,0)⟩,cd (VV s)⟩
def cS (k:LK) (s:Sd.Scene) (F:bN fr (bA k s)):List VB:=[aG k,iA k,w7 3 F,ew k 4 s,gP s]
def cB (k:LK) (s:Sd.Scene) (F:bN fr (bA k s)):Gh fr:=⟨bA k s,s.c.doors,s.c.tab.ay,F⟩
def gS:Nat->Option Nat
 |1=>some 0
 |0=>some 1
 |_=>none
abbrev SK (fr:Sd.Reply->Nat×Sd.Byt) (k:LK):=V->(s:Sd.Scene)->bN fr (bA k s)->Prop
abbrev SM (fr:Sd.Reply->Nat×Sd.Byt):=List V->(k:LK)->(s:Sd.Scene)->bN fr (bA k s)->SK fr k->Prop
def Bn (bl:List VB) (is ic it:Nat) (k:LK) (s:Sd.Scene) (F:bN fr (bA k s)):List VB:=((bl.set is (w7 ic F)).set ic (ew k it s)).set it (gP s)
def pP (M:SM fr):gm (Gh fr):=λargs bl ch K=>match args,ch with
 |.ptr is 0::ar,g::rest=>(match bl[is]?with
  |some ⟨true,⟨128,(0,0)⟩,[.ptr ic 0,.raw vs,.raw vr]⟩=>(match bl[ic]?with
   |some ⟨true,⟨105,(0,0)⟩,cc⟩=>(match w6 cc with
    |some x=>(match bl[x.it]?with
     |some ⟨true,⟨157,(0,0)⟩,tc⟩=>(match uR tc with
      |some y=>cond (cH 0 ar&&(Nat.blt 1 is&&(Nat.blt 1 ic&&(Nat.blt 1 x.it&&(!(Nat.beq is ic)&&(!(Nat.beq is x.it)&&!(Nat.beq ic x.it)))))))
       ((vs=g.F.vs/\vr=g.F.vr/\bl[0]?=some (aG g.d.k)/\bl[1]?=some (iA g.d.k)/\x=Cz g.d.k x.it (lP x y g.d g.dx g.sx)/\y.b=x.p.bh/\y.m=x.p.aR/\x.p.queue=g.d.k.most)/\
         M ar g.d.k (lP x y g.d g.dx g.sx) g.F λv s' F'=>K v (Bn bl is ic x.it g.d.k s' F') (cB g.d.k s' F'::rest)) False
      |none=>False)
     |_=>False)
    |none=>False)
   |_=>False)
  |_=>False)
 |_,_=>False
end Go.Proofs.YtggfpcggakghnaaGreatDoor
namespace Go.Proofs.YtggfpcggakghnaaGreatDoor
open Go Go.RowKit Go.BigFrame Sx Vx
variable{fr:Sd.Reply->Nat×Sd.Byt}
def gK:VB:=⟨false,⟨0,(0,0)⟩,[]⟩
theorem RT {ids:List Nat}:∀(is:List Nat) (bl:List VB),is.length=bl.length->lits ids is bl=(List.range bl.length).map λj=>aE ids (is.getD j 0) (bl.getD j gK):=by
 intro is bl h;apply List.ext_getElem?;intro j;by_cases hj:j<bl.length
 ·have hb:bl[j]?=some bl[j]:=List.getElem?_eq_getElem hj;rw[u_ is bl h hb,List.getElem?_map,List.getElem?_range hj];simp[List.getD,hb]
 ·rw[List.getElem?_eq_none (by rw[iQ is bl h];omega),List.getElem?_eq_none (by simp;omega)]
theorem ux {bl:List VB} {ids:List Nat} (h:ids.length=bl.length) {is:List Nat} (hn:is.Nodup) (iK:∀i∈is,i<bl.length):
 ∃r:List Nat,(∀j∈r,j∉is)/\∀bl':List VB,bl'.length=bl.length->(lits ids ids bl').Perm (is.map (λj=>aE ids (ids.getD j 0) (bl'.getD j gK))++r.map λj=>aE ids (ids.getD j 0) (bl'.getD j gK)):=by
 obtain⟨r,hr⟩:=mW is (List.range bl.length) hn (λx hx=>List.mem_range.2 (iK x hx));refine⟨r,?_,?_⟩
 ·intro j hj hji;have VP:(is++r).Nodup:=hr.nodup_iff.1 List.nodup_range;rw[List.nodup_append]at VP;exact VP.2.2 j hji j hj rfl
 ·intro bl' hl;rw[RT ids bl' (by omega),hl,<-List.map_append];exact hr.map _
theorem Ni {bl:List VB} {ids r:List Nat} {a b c:Nat} {x y z:VB} (hr:∀j∈r,j≠a/\j≠b/\j≠c):
 (r.map λj=>aE ids (ids.getD j 0) ((((bl.set a x).set b y).set c z).getD j gK))=r.map λj=>aE ids (ids.getD j 0) (bl.getD j gK):=by
 apply List.map_congr_left;intro j hj;obtain⟨h1,h2,h3⟩:=hr j hj;simp only[List.getD,List.getElem?_set];rw[if_neg (Ne.symm h3),if_neg (Ne.symm h2),if_neg (Ne.symm h1)]
theorem cG {bl:List VB} {i:Nat} {b:VB} (h:bl[i]?=some b):bl.getD i gK=b:=by simp[List.getD,h]
theorem cF {ids ids':List Nat} {n:Nat} {b:VB} (h:cH 0 b.c=true):aE ids n b=aE ids' n b:=by
 have e1:ab ids b.c=ab [] b.c:=by have:=bU (ids:=[]) (more:=ids) b.c h;simpa using this
 have e2:ab ids' b.c=ab [] b.c:=by have:=bU (ids:=[]) (more:=ids') b.c h;simpa using this
 unfold aE;rw[e1,e2]
abbrev a_ (a b c:Nat):List Nat:=[1,0,a,b,c]
theorem Yp {ids:List Nat} {ic a b c:Nat} (n:Nat) {d:FD} (F:bN fr d) (h:ids.getD ic 0=b):aE ids n (w7 ic F)=aE (a_ a b c) n (w7 3 F):=by
 have e:(a_ a b c).getD 3 0=b:=rfl;simp only[aE,w7,ab,cl,den,h,e]
theorem RU {ids:List Nat} {it a b c:Nat} (n:Nat) {k:LK} {s:Sd.Scene} (h:ids.getD it 0=c):aE ids n (ew k it s)=aE (a_ a b c) n (ew k 4 s):=by
 have e:(a_ a b c).getD 4 0=c:=rfl;simp only[aE,ew,zB,Cz,ab,cl,den,h,e]
def Body (f:FuncId) (M:SM fr):Prop:=∀(ar:List V) (k:LK) (s:Sd.Scene) (F:bN fr (bA k s)) (Kb:SK fr k) (a b c:Nat) (R:List av) (ms:List Nat) (w0 w:World),cH 0 ar=true->s.c.p.queue=k.most->M ar k s F Kb->
 St ms w0 (lits (a_ a b c) (a_ a b c) (cS k s F)++(F.B++R)) w->
 aj prog f (ao (a_ a b c) (.ptr 2 0::ar)).toArray w λv w'=>∃x s' F',v=den [] x/\fK 0 x=true/\s'.c.p=s.c.p/\Kb x s' F'/\St ms w0 (lits (a_ a b c) (a_ a b c) (cS k s' F')++(F'.B++R)) w'
theorem iW (s:Sd.Scene):cH 0 (gP s).c=true:=rfl
theorem hJ (k:LK):cH 0 (aG k).c=true:=rfl
theorem uy (k:LK):cH 0 (iA k).c=true:=rfl
structure Yq (ids:List Nat) (bl:List VB) (is ic it:Nat) (k:LK) (s:Sd.Scene) (F:bN fr (bA k s)):Prop where
 h0:bl[0]?=some (aG k)
 h1:bl[1]?=some (iA k)
 hs:bl[is]?=some (w7 ic F)
 hc:bl[ic]?=some (ew k it s)
 ht:bl[it]?=some (gP s)
theorem D9 {ids:List Nat} {bl:List VB} {is ic it:Nat} {k:LK} {s:Sd.Scene} {F:bN fr (bA k s)} (H:Yq ids bl is ic it k s F) (hg:Gl gS ids):
 ([0,1,is,ic,it].map λj=>aE ids (ids.getD j 0) (bl.getD j gK))=lits (a_ (ids.getD is 0) (ids.getD ic 0) (ids.getD it 0)) (a_ (ids.getD is 0) (ids.getD ic 0) (ids.getD it 0)) (cS k s F):=by
 have g0:=(hg 1 0 rfl).2;have g1:=(hg 0 1 rfl).2;simp only[List.map_cons,List.map_nil,cG H.h0,cG H.h1,cG H.hs,cG H.hc,cG H.ht,g0,g1,cS,lits];rw[cF (ids':=a_ (ids.getD is 0) (ids.getD ic 0) (ids.getD it 0)) (hJ k),cF (ids':=a_ (ids.getD is 0) (ids.getD ic 0) (ids.getD it 0)) (uy k),cF (ids':=a_ (ids.getD is 0) (ids.getD ic 0) (ids.getD it 0)) (iW s),
  Yp (a:=ids.getD is 0) (c:=ids.getD it 0) _ F rfl,RU (a:=ids.getD is 0) (b:=ids.getD ic 0) _ rfl]
theorem nx {bl:List VB} {i:Nat} {b:VB} (h:i<bl.length):(bl.set i b)[i]?=some b:=by simp[h]
theorem eG {bl:List VB} {i j:Nat} {b:VB} (h:i≠j):(bl.set i b)[j]?=bl[j]?:=by rw[List.getElem?_set];simp[h]
theorem bO {bl:List VB} {i:Nat} {b:VB} (h:bl[i]?=some b):i<bl.length:=by
 rcases Nat.lt_or_ge i bl.length with h'|h'
 ·exact h'
 ·simp[h']at h
theorem RV {ids:List Nat} {bl:List VB} {is ic it:Nat} {k:LK} {s:Sd.Scene} {F:bN fr (bA k s)} (H:Yq ids bl is ic it k s F) (h1:1<is) (h2:1<ic) (h3:1<it) (n1:is≠ic) (n2:is≠it) (n3:ic≠it) {s':Sd.Scene} (F':bN fr (bA k s')):
 Yq ids (Bn bl is ic it k s' F') is ic it k s' F':=by
 have l1:=bO H.hs;have l2:=bO H.hc;have l3:=bO H.ht;unfold Bn;refine⟨?_,?_,?_,?_,?_⟩
 ·rw[eG (by omega),eG (by omega),eG (by omega)];exact H.h0
 ·rw[eG (by omega),eG (by omega),eG (by omega)];exact H.h1
 ·rw[eG (by omega),eG (by omega),nx l1]
 ·rw[eG (by omega),nx (by simpa using l2)]
 ·rw[nx (by simpa using l3)]
theorem RW {f:Nat} {M:SM fr} (h:Body f M):Sound prog gS f (pP M):=by
 intro args ids bl ch R ms w0 w K hg hl S hc;unfold pP at hc;split at hc
 ·rename_i is ar g rest;split at hc
  ·rename_i ic vs vr hs;split at hc
   ·rename_i cc OG;split at hc
    ·rename_i x hx;split at hc
     ·rename_i tc VW;split at hc
      ·rename_i y hy;cases hq:cH 0 ar&&(Nat.blt 1 is&&(Nat.blt 1 ic&&(Nat.blt 1 x.it&&(!(Nat.beq is ic)&&(!(Nat.beq is x.it)&&!(Nat.beq ic x.it))))))with
       |false=>rw[hq]at hc;exact hc.elim
       |true=>
        rw[hq]at hc;simp only[Bool.and_eq_true,Bool.not_eq_true',Nat.blt_eq]at hq;obtain⟨q0,q1,q2,q3,q4,q5,q6⟩:=hq;have n1:is≠ic:=λe=>by rw[e,Nat.beq_refl]at q4;cases q4
        have n2:is≠x.it:=λe=>by rw[e,Nat.beq_refl]at q5;cases q5
        have n3:ic≠x.it:=λe=>by rw[e,Nat.beq_refl]at q6;cases q6
        obtain⟨⟨e1,e2,e3,e4,e5,e6,e7,e8⟩,hM⟩:=hc;obtain rfl:=nv hx;obtain rfl:=jz hy;subst e1 e2;have H:Yq ids bl is ic x.it g.d.k (lP x y g.d g.dx g.sx) (show bN fr (bA g.d.k (lP x y g.d g.dx g.sx))from g.F):=by
         refine⟨e3,e4,hs,?_,?_⟩
         ·rw[OG];congr 1;unfold ew;rw[<-e5]
         ·rw[VW];congr 1;unfold gP;have:y=VV (lP x y g.d g.dx g.sx):=by
           obtain⟨y1,y2,y3,y4,y5,y6,y7,y8⟩:=y;simp only at e6 e7;subst e6 e7;rfl
          rw[<-this]
        have l1:=bO H.hs;have l2:=bO H.hc;have l3:=bO H.ht;obtain⟨r,hr,hp⟩:=ux (bl:=bl) (ids:=ids) hl (is:=[0,1,is,ic,x.it]) (by simp;omega) (by
         intro i hi;simp only[List.mem_cons,List.not_mem_nil,or_false]at hi;rcases hi with rfl|rfl|rfl|rfl|rfl<;>omega)
        have dP:=hp bl rfl;rw[D9 H hg]at dP;have S1:=S.perm (bs':=lits (a_ (ids.getD is 0) (ids.getD ic 0) (ids.getD x.it 0)) (a_ (ids.getD is 0) (ids.getD ic 0) (ids.getD x.it 0)) (cS g.d.k (lP x y g.d g.dx g.sx) g.F)++(g.F.B++((r.map λj=>aE ids (ids.getD j 0) (bl.getD j gK))++af rest R))) (by
         refine(dP.append_right _).trans ?_;rw[List.append_assoc];refine List.Perm.append_left _ ?_;simp only[af,<-List.append_assoc];exact List.Perm.append_right _ List.perm_append_comm)
        have D_:=h ar g.d.k (lP x y g.d g.dx g.sx) g.F _ _ _ _ _ ms w0 w q0 e8 hM S1;have a9:ao ids (.ptr is 0::ar)=ao (a_ (ids.getD is 0) (ids.getD ic 0) (ids.getD x.it 0)) (.ptr 2 0::ar):=by
         have a1:ao ids ar=ao [] ar:=by have:=dW (ids:=[]) (more:=ids) ar q0;simpa using this
         have a2:ao (a_ (ids.getD is 0) (ids.getD ic 0) (ids.getD x.it 0)) ar=ao [] ar:=by have:=dW (ids:=[]) (more:=a_ (ids.getD is 0) (ids.getD ic 0) (ids.getD x.it 0)) ar q0;simpa using this
         simp only[ao,den,a1,a2];rfl
        rw[a9];refine D_.mono ?_;rintro v w' ⟨xv,s',F',rfl,hv,SS,hK,S2⟩;refine⟨xv,[],Bn bl is ic x.it g.d.k s' F',cB g.d.k s' F'::rest,?_,?_,?_,hK⟩
        ·have:=bC (ids:=[]) (more:=ids++[]) xv hv;simpa using this.symm
        ·simp[Bn,hl]
        ·have H':=RV H q1 q2 q3 n1 n2 n3 F';have gy:=hp (Bn bl is ic x.it g.d.k s' F') (by simp[Bn]);rw[D9 H' hg]at gy;have w8:(r.map λj=>aE ids (ids.getD j 0) ((Bn bl is ic x.it g.d.k s' F').getD j gK))=r.map λj=>aE ids (ids.getD j 0) (bl.getD j gK):=by
          unfold Bn;refine Ni ?_;intro j hj;have:=hr j hj;simp only[List.mem_cons,List.not_mem_nil,or_false,not_or]at this;omega
         rw[w8]at gy;simp only[List.append_nil];refine S2.perm ?_;refine List.Perm.trans ?_ (gy.symm.append_right _);rw[List.append_assoc];refine List.Perm.append_left _ ?_;simp only[af,<-List.append_assoc];exact List.Perm.append_right _ List.perm_append_comm
      ·exact hc.elim
     ·exact hc.elim
    ·exact hc.elim
   ·exact hc.elim
  ·exact hc.elim
 ·exact hc.elim
end Go.Proofs.YtggfpcggakghnaaGreatDoor
