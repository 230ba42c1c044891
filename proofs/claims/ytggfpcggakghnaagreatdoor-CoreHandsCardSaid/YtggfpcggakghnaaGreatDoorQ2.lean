/- Part 2 of the proof. -/
import Derived.Test.YtggfpcggakghnaaGreatDoorQ1
set_option linter.all false
set_option maxRecDepth 100000
set_option maxHeartbeats 4000000
namespace Sx
open Go Go.RowKit Go.BigFrame
def nM (n:Nat) (l:List Oper):Bool:=l.all (λo=>match o.dst with|some d=>Nat.blt d n|none=>true)&&vL (l.map (·.dst))
theorem yZ (vs:Nat->Value):∀(m:List Oper) (k:Nat) (a:Act),(∀o∈m,∀d,o.dst=some d->d<a.tmps.size)->(m.map (·.dst)).Nodup->
 (bK vs k m a).tmps.size=a.tmps.size/\(bK vs k m a).defers=a.defers/\(∀t,(∀o∈m,o.dst≠some t)->fI (bK vs k m a) t=fI a t)/\∀i o d,m[i]?=some o->o.dst=some d->fI (bK vs k m a) d=vs (k+i)
 |[],k,a,_,_=>⟨rfl,rfl,λ_ _=>rfl,λi o d h=>by simp at h⟩
 |x::rest,k,a,hd,hn=>by
  simp only[List.map_cons,List.nodup_cons]at hn;obtain⟨h1,h2,h3,h4⟩:=yZ vs rest (k+1) (a.put x.dst (vs k)) (λo ho d e=>by
   rw[size_put];exact hd o (by simp[ho]) d e) hn.2
  refine⟨by simp only[bK];rw[h1,size_put],by simp only[bK];rw[h2,gp],?_,?_⟩
  ·intro t ht;simp only[bK];rw[h3 t (λo ho=>ht o (by simp[ho]))];cases hx:x.dst with
   |none=>rfl
   |some dx=>
    rw[kh _ _ _ _ (hd x (by simp) dx hx),if_neg];intro e;subst e;exact ht x (by simp) hx
  ·intro i o d hi ho;cases i with
   |zero=>
    obtain rfl:x=o:=by simpa using hi
    simp only[bK];rw[h3 d (λo' yD e=>hn.1 (by rw[ho,<-e];exact List.mem_map_of_mem (f:=λx=>x.dst) yD)),ho,kh _ _ _ _ (hd x (by simp) d ho),if_pos rfl];rfl
   |succ i=>
    simp only[bK];rw[h4 i o d (by simpa using hi) ho];congr 1;omega
def preB (pre:List (List Nat)) (i:Nat):Bool:=pre.any λp=>match p.getLast? with|some j=>Nat.beq j i|none=>false
def CJ (l:List Oper) (k0:Nat) (pre:List (List Nat)):Bool:=pre.all λp=>yY l p&&(match p.head? with|some k=>Nat.beq k k0|none=>false)&&Nat.blt 1 p.length
def gk (P:Program) (k0:Nat) (pre:List (List Nat)) (es:List Nat) (H:Nat->Value->World->Prop) (lf l:List Oper) (y0:Nat->Value) (w:World) (i:Nat) (o:Oper):Prop:=
 ∀(y:Nat->Value) (w':World),(i=k0\/preB pre i=true->Ch [] w w')->Ch es w w'->(∀t,qj l i t=true->y t=y0 t)->
  (∀j d,gD o j=true->(l[j]?).bind (·.dst)=some d->H j (y d) w')->
  (fe lf o y=true->Yields P o (We y) w' λv mN=>(i=k0->Ch es w' mN)/\(i≠k0->Ch [] w' mN)/\H i v mN)/\(fe lf o y=false->H i undef w')
def eQ (P:Program) (k0:Nat) (pre:List (List Nat)) (es:List Nat) (H:Nat->Value->World->Prop) (lf l:List Oper) (y0:Nat->Value) (w:World):Nat->List Oper->Prop
 |_,[]=>True
 |i,o::rest=>gk P k0 pre es H lf l y0 w i o/\eQ P k0 pre es H lf l y0 w (i+1) rest
theorem eQ.get {P:Program} {k0:Nat} {pre:List (List Nat)} {es:List Nat} {H:Nat->Value->World->Prop} {lf l:List Oper} {y0:Nat->Value} {w:World}:∀{k:Nat} {m:List Oper},eQ P k0 pre es H lf l y0 w k m->∀(i:Nat) o,m[i]?=some o->gk P k0 pre es H lf l y0 w (k+i) o
 |_,[],_,i,o,h=>by simp at h
 |k,x::rest,⟨h1,h2⟩,0,o,h=>by obtain rfl:x=o:=by simpa using h
                              exact h1
 |k,x::rest,⟨h1,h2⟩,i+1,o,h=>by
  have:=eQ.get h2 i o (by simpa using h)
  rwa [show k+1+i=k+(i+1) by omega]at this
structure ab6 (k0:Nat) (es:List Nat) (H:Nat->Value->World->Prop) (l:List Oper) (n2:Nat) (a0:Act) (w0:World) (vs:Nat->Value) (listed:Array Bool) (a:Act) (w:World):Prop where
 ls:listed.size=l.length+n2
 off:∀i,l.length<=i->i<l.length+n2->listed[i]?=some false
 size:a.tmps.size=a0.tmps.size
 defers:a.defers=a0.defers
 ch:if listed[k0]?=some true then Ch es w0 w else Ch [] w0 w
 done:∀(i:Nat) (o:Oper),l[i]?=some o->listed[i]?=some true->(∀d,o.dst=some d->fI a d=vs i)/\H i (vs i) w
 rest:∀(t:Nat),(∀(i:Nat) (o:Oper),l[i]?=some o->o.dst=some t->listed[i]?=some false)->fI a t=fI a0 t
 back:∀(i:Nat) (o:Oper),l[i]?=some o->listed[i]?=some true->∀j,gD o j=true->listed[j]?=some true
section
variable{P:Program} {l:List Oper} {k0:Nat} {pre:List (List Nat)} {es:List Nat} {H:Nat->Value->World->Prop} {a0:Act} {w0:World} {Q:Exit->Act->World->Prop}
theorem FJ (mK:∀i v w w',Ch [] w w'->H i v w->H i v w') (agt:CJ l k0 pre=true) (ab7:∀i v w w',i≠k0->w0.heap.size<=w.heap.size->Ch es w w'->H i v w->H i v w') (l2:List Oper) (paths:List (List Nat)) (ht:jd (l++l2) l.length paths=true) (kB:nM a0.tmps.size l=true) (dN:fE 0 (l++l2)=true) (hs:eQ P k0 pre es H (l++l2) l (fI a0) w0 0 l)
 (hq:∀(vs:Nat->Value) w',Ch es w0 w'->(∀i o,l[i]?=some o->H i (vs i) w')->wpList P (l++l2).toArray Q l2 (bK vs 0 l a0) w'):
 ∀(fuel:Nat) (vs:Nat->Value) (listed:Array Bool) (a:Act) (w:World),ab6 k0 es H l l2.length a0 w0 vs listed a w->listed.toList.count false=fuel+l2.length->wpAny P .any (l++l2).toArray Q (fuel+l2.length) listed a w:=by
 have inl:∀{i:Nat} {o:Oper},(l++l2)[i]?=some o->i<l.length->l[i]?=some o:=λh hi=>by rwa [List.getElem?_append_left hi]at h
 have inr:∀{i:Nat} {o:Oper},l[i]?=some o->(l++l2)[i]?=some o:=λ{i o} h=>by rwa [List.getElem?_append_left (by rcases Nat.lt_or_ge i l.length with h'|h';exact h';simp[h']at h)]
 simp only[nM,Bool.and_eq_true,List.all_eq_true]at kB;have hd:∀o∈l,∀d,o.dst=some d->d<a0.tmps.size:=by
  intro o ho d hx;have:=kB.1 o ho;simpa[hx,Nat.blt_eq]using this
 have hn:=oZ kB.2;have uniq:∀(i j:Nat) o p d,l[i]?=some o->l[j]?=some p->o.dst=some d->p.dst=some d->i=j:=by
  intro i j o p d hi hj ho hp;have sL:i<(l.map (·.dst)).length:=by simp;rcases Nat.lt_or_ge i l.length with h|h;exact h;simp[h]at hi
  refine(List.getElem?_inj sL hn).1 ?_;simp[hi,hj,ho,hp]
 have fin:∀vs listed a w,ab6 k0 es H l l2.length a0 w0 vs listed a w->(∀i,i<l.length->listed[i]?=some true)->wpAny P .any (l++l2).toArray Q l2.length listed a w:=by
  intro vs listed a w I di;obtain⟨h1,h2,h3,h4⟩:=yZ vs l 0 a0 hd hn;have:a=bK vs 0 l a0:=by
   refine Af (by rw[I.size,h1]) (by rw[I.defers,h2]) ?_;intro t;by_cases ht:∃(i:Nat) (o:Oper),l[i]?=some o/\o.dst=some t
   ·obtain⟨i,o,hi,ho⟩:=ht;rw[h4 i o t hi ho,Nat.zero_add];exact(I.done i o hi (di i (by rcases Nat.lt_or_ge i l.length with h|h;exact h;simp[h]at hi))).1 t ho
   ·rw[h3 t (λo ho e=>ht (by obtain⟨i,hi⟩:=List.getElem?_of_mem ho;exact⟨i,o,hi,e⟩))];exact I.rest t (λi o hi ho=>absurd ⟨i,o,hi,ho⟩ ht)
  rw[this];refine CH l2 dN paths ht l2 0 rfl listed _ w I.ls (λi hi=>di i (by omega)) (λi h1 h2=>I.off i (by omega) h2) ?_;exact hq vs w (by have:=I.ch;split at this;exact this;exact this.mono (by simp)) λi o hi=>(I.done i o hi (di i (by rcases Nat.lt_or_ge i l.length with h|h;exact h;simp[h]at hi))).2
 have tl:∀vs listed a w,ab6 k0 es H l l2.length a0 w0 vs listed a w->∀i,i∈Region.ready .any (l++l2).toArray listed->l.length<=i->∀j,j<l.length->listed[j]?=some true:=by
  intro vs listed a w I i hi jI j hj;obtain⟨oi,Lv,hf,gh⟩:=(eb _ listed i).1 hi;have sL:i<(l++l2).length:=by rcases Nat.lt_or_ge i (l++l2).length with h|h;exact h;simp[List.getElem?_eq_none h]at Lv
  obtain⟨p,q1,q2,q3,q4⟩:=mO ht i sL jI j (by omega);refine iL (l:=l++l2) ?_ p i j q1 q2 q3 q4 ?_
  ·intro x o hx OB k hk;rcases Nat.lt_or_ge x l.length with h|h
   ·exact I.back x o (inl hx h) OB k hk
   ·have Wf:x<(l++l2).length:=by rcases Nat.lt_or_ge x (l++l2).length with h'|h';exact h';simp[List.getElem?_eq_none h']at hx
    have:=I.off x h (by simpa using Wf);rw[OB]at this;simp at this
  ·intro o ho k hk;obtain rfl:oi=o:=by rw[Lv]at ho;simpa using ho
   obtain⟨e,he,rfl,hbd⟩:=kN.1 hk;have h3:=gh e he hbd;have h4:=dM dN i oi Lv e he hbd;rcases d_ I.ls (show e.on<l.length+l2.length by simp at sL;omega)with hx|hx
   ·exact hx
   ·simp[Array.getD_eq_getD_getElem?,hx]at h3
 intro fuel;induction fuel with
 |zero=>
  intro vs listed a w I hc;have di:∀i,i<l.length->listed[i]?=some true:=by
   intro i hi;rcases d_ I.ls (show i<l.length+l2.length by omega)with hb|hb
   ·exact hb
   ·exfalso;have h4:=sJ listed.toList l.length l2.length (by simpa using I.ls) (λj h1 h2=>by simpa using I.off j h1 h2) i hi (by simpa using hb);omega
  rw[Nat.zero_add];exact fin vs listed a w I di
 |succ fuel ih=>
  intro vs listed a w I hc;by_cases vN:∀i,i<l.length->listed[i]?=some true
  ·exfalso;have:=nL listed.toList l.length l2.length (by simpa using I.ls) (λj h1=>by simpa using vN j h1);omega
  rw[show fuel+1+l2.length=(fuel+l2.length)+1 by omega];refine⟨λhr=>?_,?_⟩
  ·
   exfalso;refine vN ?_;intro i;induction i using Nat.strongRecOn with
   |_ i ih2=>
    intro hi;rcases d_ I.ls (show i<l.length+l2.length by omega)with hb|hb
    ·exact hb
    ·exfalso;have:i∈Region.ready .any (l++l2).toArray listed:=(eb _ listed i).2 ⟨l[i],inr (by simp),by simp[Array.getD_eq_getD_getElem?,hb],λe he O2=>by
      have iK:=dM dN i l[i] (inr (by simp)) e he O2;have:=ih2 e.on (by omega) (by omega);simp[Array.getD_eq_getD_getElem?,this]⟩
     rw[hr]at this;simp at this
  ·intro i hi;have sL:i<l.length:=by
    rcases Nat.lt_or_ge i l.length with h|h
    ·exact h
    ·exact absurd (tl vs listed a w I i hi h) vN
   obtain⟨o,CI,h2,h3⟩:=(eb _ listed i).1 hi;have ho:=inl CI sL;have O3:listed[i]?=some false:=by
    rcases d_ I.ls (show i<l.length+l2.length by omega)with hb|hb
    ·simp[Array.getD_eq_getD_getElem?,hb]at h2
    ·exact hb
   have ab0:=hd o (List.mem_of_getElem? ho);have gh:∀j,gD o j=true->listed[j]?=some true:=by
    intro j hj;unfold gD at hj;rw[<-Array.any_toList,List.any_eq_true]at hj;obtain⟨e,he,hj⟩:=hj;simp only[Bool.and_eq_true,beq_iff_eq]at hj;obtain⟨rfl,hb⟩:=hj;have he:=Array.mem_toList_iff.1 he;have h4:=h3 e he hb;have iK:=dM dN i o CI e he hb;rcases d_ I.ls (show e.on<l.length+l2.length by omega)with hb|hb
    ·exact hb
    ·simp[Array.getD_eq_getD_getElem?,hb]at h4
   have ab8:i=k0\/preB pre i=true->Ch [] w0 w:=λe=>by
    have hk:¬listed[k0]?=some true:=by
     rcases e with e|e
     ·rw[<-e,O3];simp
     ·intro hl;unfold preB at e;obtain⟨p,hp,he⟩:=List.any_eq_true.1 e;have g1:=List.all_eq_true.1 agt p hp;simp only[Bool.and_eq_true]at g1;obtain⟨⟨g2,g3⟩,g4⟩:=g1;cases hh:p.head? with
      |none=>rw[hh]at g3;simp at g3
      |some k=>
       rw[hh]at g3;have ek:=Nat.eq_of_beq_eq_true g3;cases O7:p.getLast? with
       |none=>rw[O7]at he;simp at he
       |some j=>
        rw[O7]at he;have ej:=Nat.eq_of_beq_eq_true he;have:=iL I.back p k j g2 hh O7 (by unfold Nat.blt at g4;exact Nat.le_of_ble_eq_true g4) (λo ho j hj=>I.back k o ho (by rw[ek];exact hl) j hj);rw[ej,O3]at this;simp at this
    have:=I.ch;rw[if_neg hk]at this;exact this
   have step:=(eQ.get hs i o ho) (fI a) w (by rw[Nat.zero_add];exact ab8) (by have:=I.ch;split at this;exact this;exact this.mono (by simp)) (λt ht=>by
    refine I.rest t λk ok hk hok=>?_;rw[qj,List.all_eq_true]at ht;have:=ht ok (List.mem_of_getElem? hk);simp only[hok,bne_self_eq_false,Bool.false_or]at this;have HP:k<l.length:=by rcases Nat.lt_or_ge k l.length with h|h;exact h;simp[h]at hk
    rcases d_ I.ls (show k<l.length+l2.length by omega)with hb|hb
    ·have:=I.back k ok hk hb i (by simpa using this);rw[O3]at this;simp at this
    ·exact hb)
    (λj dj hj FF=>by
     cases jJ:l[j]?with
     |none=>simp[jJ]at FF
     |some oj=>
      have:=I.done j oj jJ (gh j hj);rw[this.1 dj (by simpa[jJ]using FF)];exact this.2)
   have next:∀v w',(i=k0->Ch es w w')->(i≠k0->Ch [] w w')->H i v w'->wpAny P .any (l++l2).toArray Q (fuel+l2.length) (listed.setIfInBounds i true) (a.put o.dst v) w':=by
    intro v w' VE Ly hv;refine ih (λj=>if j=i then v else vs j) _ _ _ ?_ ?_
    ·have gl:∀j b,(listed.setIfInBounds i true)[j]?=some b->(j=i/\b=true)\/(j≠i/\listed[j]?=some b):=by
      intro j b hj;rw[Array.getElem?_setIfInBounds]at hj;by_cases h:i=j
      ·subst h;have:i<l.length+l2.length:=by omega
       simp[I.ls,this]at hj;exact Or.inl ⟨rfl,hj⟩
      ·rw[if_neg h]at hj;exact Or.inr ⟨λe=>h e.symm,hj⟩
     have yp:∀t,(o.dst≠some t->fI (a.put o.dst v) t=fI a t)/\(o.dst=some t->fI (a.put o.dst v) t=v):=λt=>by
      cases NC:o.dst with
      |none=>exact⟨λ_=>rfl,λh=>by cases h⟩
      |some d=>
       have:=kh a d v t (by rw[I.size];exact ab0 d NC);refine⟨λh=>?_,λh=>?_⟩
       ·rw[this,if_neg (λe=>h (by rw[e]))]
       ·rw[this,if_pos (by simpa using h.symm)]
     refine⟨by simp[I.ls],λj h1 h2=>by
      rw[Array.getElem?_setIfInBounds,if_neg (by omega)];exact I.off j h1 h2,by rw[size_put,I.size],by rw[gp,I.defers],?_,?_,?_,?_⟩
     ·by_cases oJ:i=k0
      ·have hk:(listed.setIfInBounds i true)[k0]?=some true:=by
        rw[<-oJ,Array.getElem?_setIfInBounds,if_pos rfl,if_pos (by rw[I.ls];omega)]
       rw[if_pos hk];exact((ab8 (.inl oJ)).mono (by simp)).trans (VE oJ) (λx hx=>.inl hx)
      ·have hk:(listed.setIfInBounds i true)[k0]?=listed[k0]?:=by
        rw[Array.getElem?_setIfInBounds,if_neg oJ]
       rw[hk];have h1:=I.ch;split at h1
       ·rename_i h2;rw[if_pos h2];exact h1.trans (Ly oJ) (by simp)
       ·rename_i h2;rw[if_neg h2];exact h1.trans (Ly oJ) (by simp)
     ·intro j oj hj jJ;rcases gl j true jJ with⟨rfl,_⟩|⟨e_,jJ⟩
      ·obtain rfl:o=oj:=by rw[ho]at hj;simpa using hj
       simp only[if_true];exact⟨λdj FF=>(yp dj).2 FF,hv⟩
      ·have:=I.done j oj hj jJ;simp only[if_neg e_];refine⟨λdj FF=>?_,?_⟩
       ·rw[(yp dj).1 (λe=>e_ (uniq j i oj o dj hj ho FF e))];exact this.1 dj FF
       ·by_cases oJ:i=k0
        ·exact ab7 _ _ _ _ (λe=>e_ (by rw[oJ];exact e)) (by have:=I.ch;split at this;exact this.size;exact this.size) (VE oJ) this.2
        ·exact mK _ _ _ _ (Ly oJ) this.2
     ·intro t ht;have e_:o.dst≠some t:=λe=>by
       have:=ht i o ho e;rcases gl i false this with⟨_,h⟩|⟨h,_⟩
       ·cases h
       ·exact h rfl
      rw[(yp t).1 e_];refine I.rest t λk ok hk hok=>?_;have:=ht k ok hk hok;rcases gl k false this with⟨_,h⟩|⟨_,h⟩
      ·cases h
      ·exact h
     ·intro k ok hk Cu j hj;have hb:listed[j]?=some true:=by
       rcases gl k true Cu with⟨rfl,_⟩|⟨e_,Cu⟩
       ·obtain rfl:o=ok:=by rw[ho]at hk;simpa using hk
        exact gh j hj
       ·exact I.back k ok hk Cu j hj
      rw[Array.getElem?_setIfInBounds];split
      ·rename_i h;subst h;rw[O3]at hb;simp at hb
      ·exact hb
    ·have h2:listed[i]?=some false:=O3;have ab3:=count_set listed.toList i (by simpa using h2);simp only[Array.toList_setIfInBounds];omega
   unfold wpOp;simp only[List.getElem?_toArray,CI];rw[vK];cases hw:fe (l++l2) o (fI a)with
   |true=>
    rw[if_pos rfl];refine Or.inl ?_;have hy:=step.1 hw;rw[IZ]at hy;exact Yields.wp hy λv w' ⟨VE,Ly,hv⟩=>next v w' (by rw[Nat.zero_add]at VE;exact VE) (by rw[Nat.zero_add]at Ly;exact Ly) (by rw[Nat.zero_add]at hv;exact hv)
   |false=>
    rw[if_neg (by simp)];exact next undef w (λ_=>Ch.refl _ _) (λ_=>Ch.refl _ _) (by have:=step.2 hw;rw[Nat.zero_add]at this;exact this)
theorem Wg {id:Nat} (l l2:List Oper) (mK:∀i v w w',Ch [] w w'->H i v w->H i v w') (gh:CJ l k0 pre=true) (ab7:∀i v w w',i≠k0->w0.heap.size<=w.heap.size->Ch es w w'->H i v w->H i v w') (paths:List (List Nat)) (hm:P.follows .mixedOrders=true) (ht:jd (l++l2) l.length paths=true) (kB:nM a0.tmps.size l=true) (dN:fE 0 (l++l2)=true) (hs:eQ P k0 pre es H (l++l2) l (fI a0) w0 0 l)
 (hq:∀(vs:Nat->Value) w',Ch es w0 w'->(∀i o,l[i]?=some o->H i (vs i) w')->wpList P (l++l2).toArray Q l2 (bK vs 0 l a0) w'):(Code.region id (l++l2).toArray true).wp P Q a0 w0:=by
 refine wp_region_any hm ?_;have h:=FJ mK gh ab7 l2 paths ht kB dN hs hq l.length (λ_=>undef) (Array.replicate (l++l2).toArray.size false) a0 {w0 with drawn:=w0.drawn+1} ?_ ?_
 ·rw[show(l++l2).toArray.size=l.length+l2.length by simp];rw[show(l++l2).toArray.size=l.length+l2.length by simp]at h;exact h
 ·refine⟨by simp,λi h1 h2=>by simp[Array.getElem?_replicate];omega,rfl,rfl,?_,?_,λ_ _=>rfl,?_⟩
  ·split
   ·exact(Ch.refl _ _).drew
   ·exact(Ch.refl _ _).drew
  ·intro i o _ h;simp[Array.getElem?_replicate]at h
  ·intro i o _ h;simp[Array.getElem?_replicate]at h
 ·simp[List.count_replicate_self]
end
section
variable{ms:List Nat} {w0 w w':World} {bs:List av}
theorem oK {α:Type}:∀{l:List α} {i:Nat} {x:α},l[i]?=some x->l.Perm (x::l.eraseIdx i)
 |[],i,x,h=>by simp at h
 |y::l,0,x,h=>by obtain rfl:y=x:=by simpa using h
                 exact List.Perm.refl _
 |y::l,i+1,x,h=>by
  have:=oK (l:=l) (i:=i) (x:=x) (by simpa using h);exact(List.Perm.cons y this).trans (List.Perm.swap _ _ _)
end
section
variable{P:Program} {w w0:World} {ms:List Nat} {bs:List av}
theorem bP {ρ:Operand->Value} {o:Oper} {w':World} {s x:Operand} {t tx:TypeId} {sv xv v:Value} (ho:o.op=.call ⟨.builtin .append,#[s,x],#[t,tx]⟩) (hs:ρ s=sv) (hx:ρ x=xv)
 (aY:(Builtin.append_ #[t,tx] o.type #[sv,xv]).run P w=.ok v w'):(execOp ρ o).run P w=.ok (.value v) w':=by
 simp[execOp,ho,resolve,invoke,builtin,hs,hx,aY,Result.andThen]
theorem akx (S:St ms w0 bs w) (i m z:Nat) (news:List Value) {b off c:Nat} {tx e':TypeId} (hk:P.underlying tx=some (.slice e')) (hb:HR bs i off (m*z)=some (b,news.toArray)) (h1:news.all (·.oneCell')=true) (hl:news.length=m*z):
 Src P z tx (.slice (some ⟨b,off,none⟩) m c) m news w:=by
 obtain⟨wr,cs,t,fr,hbi,hc,hv⟩:=Aa hb;refine Src.ofSlice w hk ⟨b,off,none⟩ m c news hl (λj u hj=>?_) (λu hu=>List.all_eq_true.1 h1 u hu);rw[Addr.add_lit,cell_of (S.at_ i _ hbi)];have h2:(cs.extract off (off+m*z))[j]?=some u:=by rw[hc];simpa using hj
 rw[Array.getElem?_extract]at h2;split at h2
 ·exact h2
 ·exact absurd h2 (by simp)
section
variable{ops:Array Oper} {rest:List Oper} {o:Oper} {a:Act} {Q:Exit->Act->World->Prop} {z T n c m bytes:Nat} {olds news tail:List Value} {s x:Operand} {t tx:TypeId} {xv:Value}
theorem O8 {A bl R:List av} {xs:Option Addr} (S:St ms w0 (A++(bl++R)) w) (hr:fa z T olds xs n c bl) (hs:Src P z tx xv m news w) (bytes:Nat) (ho:o.op=.call ⟨.builtin .append,#[s,x],#[t,tx]⟩:=by rfl) (hbd:(n+m)*bytes<=140737488355328) (h63:n+m<=maxLen)
 (k:∀x' c' bl' w',fa z T (olds++news) x' (n+m) c' bl'->St ms w0 (A++(bl'++R)) w'->WL P ops Q rest (a.put o.dst (.slice x' (n+m) c')) w')
 (hw:Region.wanted o (yielded ops a.tmps)=true:=by kernel_rfl) (BL:a.eval s=.slice xs n c:=by kernel_rfl) (BO:a.eval x=xv:=by kernel_rfl)
 (ht:P.underlying t=some (.slice T):=by kernel_rfl) (aF:(P.info? T).map (λi=>(i.zero.map (·.cells.size),i.size,i.bytes))=some (some z,z,bytes):=by kernel_rfl):WL P ops Q (o::rest) a w:=
 WL.want hw λK hK=>by
  obtain⟨v,w',aY,hc,x',c',bl',rfl,mT,ba⟩:=gE (P:=P) (ty:=o.type) hr (λy hy=>S.at' (by simp[hy])) bytes hs ht aF hbd h63;have S2:=S.yE hr.wr hc (λy hy=>(ba y hy).1) (λy hy=>(ba y hy).2) mT.pw;unfold Oper.wp;rw[bP ho BL BO aY];exact hK _ _ (k x' c' bl' w' mT S2)
end
end
def s0 (v:Value):Sp:=⟨0,λ_=>v,λ_=>[]⟩
def qm (l:List Oper) (o:Oper) (t:Nat):Option Nat:=o.after.toList.findSome? λe=>bif Region.binds .any e&&(match(l[e.on]?).bind (·.dst)with|some d=>Nat.beq d t|none=>false)then some e.on else none
def valOf (l:List Oper) (sp:Nat->Sp) (a0:Act) (o:Oper) (t:Nat):Value:=match qm l o t with|some j=>(sp j).f []|none=>fI a0 t
def eH (l:List Oper) (sp:Nat->Sp) (a0:Act) (o:Oper):List (Nat×Value):=o.op.operands.toList.filterMap λx=>match x with|.tmp t=>some (t,valOf l sp a0 o t)|_=>none
def lF (l:List Oper) (sp:Nat->Sp) (i:Nat) (o:Oper):Bool:=o.guard.isNone&&Nat.beq (sp i).k 0&&(sp i).bl [] matches[]&&ue (eH l sp ⟨#[],[]⟩ o) o&&
 o.op.operands.toList.all λx=>match x with|.tmp t=>(match qm l o t with|some j=>Nat.beq (sp j).k 0|none=>qj l i t)|_=>true
theorem o8 {y:Nat->Value}:∀{env:List (Nat×Value)},(∀p∈env,y p.1=p.2)->mQ y env
 |[],_=>trivial
 |p::env,h=>⟨h p (by simp),o8 λq hq=>h q (by simp[hq])⟩
theorem lG {l:List Oper} {o:Oper} {t j:Nat} (h:qm l o t=some j):gD o j=true/\(l[j]?).bind (·.dst)=some t:=by
 obtain⟨e,he,h⟩:=List.exists_of_findSome?_eq_some h;cases hd:(l[e.on]?).bind (·.dst)with
 |none=>simp[hd]at h
 |some d=>
  simp only[hd]at h;cases hb:Region.binds .any e with
  |false=>simp[hb]at h
  |true=>
   cases hc:Nat.beq d t with
   |false=>simp[hb,hc]at h
   |true=>
    simp only[hb,hc,Bool.and_self,cond_true,Option.some.injEq]at h;subst h;exact⟨kN.2 ⟨e,Array.mem_toList_iff.1 he,rfl,hb⟩,by rw[hd,Nat.eq_of_beq_eq_true hc]⟩
theorem qn {l:List Oper} {sp sp':Nat->Sp} {a0 a1:Act} {o:Oper}:ue (eH l sp a0 o) o=true->ue (eH l sp' a1 o) o=true:=by
 intro h;unfold ue at*;simp only[Bool.and_eq_true]at*;refine⟨?_,h.2⟩;rw[Array.all_eq_true_iff_forall_mem]at*;intro x hx;cases x with
 |tmp t=>
  simp only;have hm:∀(env:List Operand) (g:Nat->Value),Operand.tmp t∈env->((env.filterMap λx=>match x with|.tmp t=>some (t,g t)|_=>none).lookup t).isSome=true:=by
   intro env g;induction env with
   |nil=>intro h;simp at h
   |cons y env ih=>
    intro hm;rcases List.mem_cons.1 hm with h|h
    ·subst h;simp
    ·cases y with
     |tmp s=>
      simp only[List.filterMap_cons,List.lookup_cons];split
      ·rfl
      ·exact ih h
     |_=>simp only[List.filterMap_cons];exact ih h
  exact hm _ _ (Array.mem_toList_iff.2 hx)
 |_=>rfl
section
variable{P:Program} {lf l:List Oper} {sp:Nat->Sp} {a0:Act} {w:World} {i:Nat} {o:Oper}
theorem FK (hs:lF l sp i o=true) (h:∀w',Ch [] w w'->Yields P o (j6 (eH l sp a0 o)) w' λv mN=>Ch [] w' mN/\v=(sp i).f []):lC P lf l sp (fI a0) w i o:=by
 simp only[lF,Bool.and_eq_true]at hs;obtain⟨⟨⟨⟨hg,hk⟩,hb⟩,Fv⟩,di⟩:=hs;have Zy:o.guard=none:=by cases hx:o.guard<;>simp_all
 have Ej:(sp i).k=0:=Nat.eq_of_beq_eq_true hk;have Wh:(sp i).bl []=[]:=by
  revert hb;cases(sp i).bl []<;>simp
 intro y w' hc mU gh;refine⟨λ_=>?_,λhw=>by simp[fe,Zy]at hw⟩;refine mR (eH l sp a0 o) (o8 λp hp=>?_) ?_ (qn Fv)
 ·simp only[eH,List.mem_filterMap]at hp;obtain⟨x,hx,hp⟩:=hp;cases x with
  |tmp t=>
   simp only[Option.some.injEq]at hp;subst hp;have h1:=List.all_eq_true.1 di _ hx;simp only at h1;unfold valOf;cases fZ:qm l o t with
   |some j=>
    rw[fZ]at h1;obtain⟨he,hd⟩:=lG fZ;obtain⟨ids,h2,h3,_⟩:=gh j t he hd;have h4:(sp j).k=0:=Nat.eq_of_beq_eq_true h1;obtain rfl:ids=[]:=List.eq_nil_of_length_eq_zero (by rw[h2,h4]);exact h3
   |none=>
    rw[fZ]at h1;exact mU t h1
  |_=>simp at hp
 ·have:=h w' hc;unfold Yields at this⊢;split at this
  ·exact⟨this.1,[],by simp[Ej],this.2,by rw[Wh];simp⟩
  ·exact⟨this.1,[],by simp[Ej],this.2,by rw[Wh];simp⟩
  ·exact this.mono λv mN h=>⟨h.1,[],by simp[Ej],h.2,by rw[Wh];simp⟩
  ·exact this.elim
theorem sD (hs:lF l sp i o=true:=by kernel_rfl) (h:(λw=>(execOp (j6 (eH l sp a0 o)) o).run P w)=(λw=>.ok (.value ((sp i).f [])) w):=by kernel_rfl):lC P lf l sp (fI a0) w i o:=
 FK hs λw' _=>by
  have h2:(execOp (j6 (eH l sp a0 o)) o).run P w'=.ok (.value ((sp i).f [])) w':=congrFun h w';unfold Yields;rw[h2];exact⟨Ch.refl _ _,rfl⟩
theorem qE_ (v0:Value) (he:v0=(sp i).f []) (hs:lF l sp i o=true:=by kernel_rfl) (h:(λw=>(execOp (j6 (eH l sp a0 o)) o).run P w)=(λw=>.ok (.value v0) w):=by kernel_rfl):lC P lf l sp (fI a0) w i o:=by
 subst he;exact sD hs h
theorem qS_ (kd:IntKind) (e:Int) (he:kd.wrap e=e) (hv:(sp i).f []=.int kd e:=by kernel_rfl) (hs:lF l sp i o=true:=by kernel_rfl) (h:(λw=>(execOp (j6 (eH l sp a0 o)) o).run P w)=(λw=>.ok (.value (.int kd (kd.wrap e))) w):=by kernel_rfl):lC P lf l sp (fI a0) w i o:=
 qE_ (.int kd (kd.wrap e)) (by rw[he,hv]) hs h
variable{ms:List Nat} {w0:World} {bs:List av}
theorem qL_ (S:St ms w0 bs w) (j b off:Nat) {x:Operand} {ty:TypeId} (ho:o.op=.load ty x:=by rfl) (hs:lF l sp i o=true:=by kernel_rfl) (hx:j6 (eH l sp a0 o) x=.pointer (some ⟨b,off,none⟩):=by kernel_rfl)
 (ha:(P.underlying ty).map jt=some false:=by kernel_rfl) (hb:lk bs j off=some (b,(sp i).f []):=by kernel_rfl):lC P lf l sp (fI a0) w i o:=
 FK hs λw' hc=>Y.ir (S.quiet hc) j _ b off ⟨Ch.refl _ _,rfl⟩ ho hx ha hb
theorem Zz (S:St ms w0 bs w) (j b off n:Nat) (vs:Array Value) {x:Operand} {ty:TypeId} (ho:o.op=.load ty x:=by rfl) (hv:(sp i).f []=.agg vs:=by kernel_rfl) (hs:lF l sp i o=true:=by kernel_rfl) (hx:j6 (eH l sp a0 o) x=.pointer (some ⟨b,off,none⟩):=by kernel_rfl)
 (ha:(P.underlying ty).map jt=some true:=by kernel_rfl) (hn:(P.info? ty).map (·.size)=some n:=by kernel_rfl) (hb:HR bs j off n=some (b,vs):=by kernel_rfl):lC P lf l sp (fI a0) w i o:=
 FK hs λw' hc=>Y.eC (S.quiet hc) j n vs b off ⟨Ch.refl _ _,hv.symm⟩ ho hx ha hn hb
end
theorem vS {vs:Nat->Value}:∀{dA:List Value} {k:Nat},(∀i v,dA[i]?=some v->vs (k+i)=v)->lD vs k dA
 |[],_,_=>trivial
 |v::dA,k,h=>⟨by have:=h 0 v rfl;simpa using this,vS λi u hu=>by
  have:=h (i+1) u (by simpa using hu)
  rwa [show k+(i+1)=k+1+i by omega]at this⟩
theorem Wi {P:Program} {a0:Act} {w0:World} {Q:Exit->Act->World->Prop} {id:Nat} {L:List Oper} (m:Nat) (dA:List Value) (paths:List (List Nat))
 (hs:gj P L (L.take m) (OC (dA.map s0)) (fI a0) w0 0 (L.take m))
 (hq:∀w',Ch [] w0 w'->WL P L.toArray Q (L.drop m) (mP dA (L.take m) a0) w')
 (hvl:dA.length=m:=by kernel_rfl)
 (hm:P.follows .mixedOrders=true:=by kernel_rfl) (hl:Nat.ble m L.length=true:=by kernel_rfl) (ht:jd L m paths=true:=by kernel_rfl) (kB:vM a0.tmps.size (L.take m)=true:=by kernel_rfl) (dN:fE 0 L=true:=by kernel_rfl):(Code.region id L.toArray true).wp P Q a0 w0:=by
 refine lE m (dA.map s0) paths hs (λvs w' hc di=>⟨dA,hvl,vS λi v hv=>?_,hq w' hc⟩) hm hl ht kB dN;have hi:i<m:=by
  rcases Nat.lt_or_ge i dA.length with h|h
  ·omega
  ·simp[h]at hv
 obtain⟨ids,h1,h2,_⟩:=di i (by unfold Nat.blt;exact Nat.ble_eq_true_of_le hi);have h3:OC (dA.map s0) i=s0 v:=by
  unfold OC;rw[List.getD_eq_getElem?_getD,List.getElem?_map,hv];rfl
 rw[h3]at h1 h2;obtain rfl:ids=[]:=List.eq_nil_of_length_eq_zero (by simpa[s0]using h1);rw[Nat.zero_add,h2];rfl
end Sx
namespace Sx
open Go Go.RowKit Go.BigFrame
section
variable{P:Program} {ops:Array Oper} {rest:List Oper} {o:Oper} {a:Act} {w:World} {Q:Exit->Act->World->Prop}
end
section
variable{P:Program} {lf l:List Oper} {sp:Nat->Sp} {y0:Nat->Value} {w:World} {i:Nat} {o:Oper}
end
end Sx
namespace Sx
open Go Go.RowKit Go.BigFrame
def HQ (k0:Nat) (pv:Value->World->Prop) (sp:Nat->Sp) (B:Nat) (i:Nat) (v:Value) (w:World):Prop:=match Nat.beq i k0 with|true=>pv v w|false=>(sp i).holds B v w
def mV (k0:Nat) (l:List Oper) (sp:Nat->Sp) (i:Nat) (o:Oper):Bool:=o.guard.isNone&&ue (eH l sp ⟨#[],[]⟩ o) o&&
 o.op.operands.toList.all λx=>match x with|.tmp t=>(match qm l o t with|some j=>!(Nat.beq j k0)&&Nat.beq (sp j).k 0|none=>qj l i t)|_=>true
section
variable{P:Program} {lf l:List Oper} {sp:Nat->Sp} {a0:Act} {w:World} {i k0:Nat} {pre:List (List Nat)} {o:Oper} {es:List Nat} {pv:Value->World->Prop}
theorem O9 {H:Nat->Value->World->Prop} (hs:mV k0 l sp i o=true) {B:Nat} {y:Nat->Value} {w':World} (mU:∀t,qj l i t=true->y t=fI a0 t) (gh:∀j d,gD o j=true->(l[j]?).bind (·.dst)=some d->HQ k0 pv sp B j (y d) w'):
 mQ y (eH l sp a0 o)/\ue (eH l sp a0 o) o=true/\o.guard=none:=by
 simp only[mV,Bool.and_eq_true]at hs;obtain⟨⟨hg,Fv⟩,di⟩:=hs;refine⟨o8 λp hp=>?_,qn Fv,by cases hx:o.guard<;>simp_all⟩;simp only[eH,List.mem_filterMap]at hp;obtain⟨x,hx,hp⟩:=hp;cases x with
 |tmp t=>
  simp only[Option.some.injEq]at hp;subst hp;have h1:=List.all_eq_true.1 di _ hx;simp only at h1;unfold valOf;cases fZ:qm l o t with
  |some j=>
   rw[fZ]at h1;obtain⟨he,hd⟩:=lG fZ;simp only[Bool.and_eq_true,Bool.not_eq_true']at h1;have h2:=gh j t he hd;unfold HQ at h2;rw[h1.1]at h2;obtain⟨ids,h3,h4,_⟩:=h2;have h5:(sp j).k=0:=Nat.eq_of_beq_eq_true h1.2;obtain rfl:ids=[]:=List.eq_nil_of_length_eq_zero (by rw[h3,h5]);exact h4
  |none=>
   rw[fZ]at h1;exact mU t h1
 |_=>simp at hp
theorem Ai (e_:Nat.beq i k0=false) (hk:(sp i).k=0) (hb:(sp i).bl []=[]) (hs:mV k0 l sp i o=true) (h:∀w',Ch es w w'->Yields P o (j6 (eH l sp a0 o)) w' λv mN=>Ch [] w' mN/\v=(sp i).f []):
 gk P k0 pre es (HQ k0 pv sp w.heap.size) lf l (fI a0) w i o:=by
 intro y w' _ hc mU gh;obtain⟨ZA,Fv,hg⟩:=O9 (H:=λ_ _ _=>True) hs mU gh;have oJ:i≠k0:=λe=>by rw[e]at e_;simp at e_
 have hH:∀v mN,v=(sp i).f []->HQ k0 pv sp w.heap.size i v mN:=λv mN e=>by
  unfold HQ;rw[e_];exact⟨[],by simp[hk],e,by rw[hb];simp⟩
 refine⟨λ_=>?_,λhw=>by simp[fe,hg]at hw⟩;refine mR _ ZA ?_ Fv;have:=h w' hc;unfold Yields at this⊢;split at this
 ·exact⟨λe'=>absurd e' oJ,λ_=>this.1,hH _ _ this.2⟩
 ·exact⟨λe'=>absurd e' oJ,λ_=>this.1,hH _ _ this.2⟩
 ·exact this.mono λv mN h=>⟨λe'=>absurd e' oJ,λ_=>h.1,hH _ _ h.2⟩
 ·exact this.elim
def NF (k0:Nat) (l:List Oper) (sp:Nat->Sp) (i:Nat) (o:Oper):Bool:=!(Nat.beq i k0)&&Nat.beq (sp i).k 0&&(sp i).bl [] matches[]&&mV k0 l sp i o
theorem u5 (h:NF k0 l sp i o=true):Nat.beq i k0=false/\(sp i).k=0/\(sp i).bl []=[]/\mV k0 l sp i o=true:=by
 simp only[NF,Bool.and_eq_true,Bool.not_eq_true']at h;refine⟨h.1.1.1,Nat.eq_of_beq_eq_true h.1.1.2,?_,h.2⟩;have:=h.1.2;revert this;cases(sp i).bl []<;>simp
theorem NN (hs:NF k0 l sp i o=true:=by kernel_rfl) (h:(λw=>(execOp (j6 (eH l sp a0 o)) o).run P w)=(λw=>.ok (.value ((sp i).f [])) w):=by kernel_rfl):gk P k0 pre es (HQ k0 pv sp w.heap.size) lf l (fI a0) w i o:=by
 obtain⟨h1,h2,h3,h4⟩:=u5 hs;refine Ai h1 h2 h3 h4 λw' _=>?_;have h2:(execOp (j6 (eH l sp a0 o)) o).run P w'=.ok (.value ((sp i).f [])) w':=congrFun h w';unfold Yields;rw[h2];exact⟨Ch.refl _ _,rfl⟩
theorem eC_ (f:FuncId) (args:Array Value) (hg:∀w',aj P f args w' λv mN=>v=(sp i).f []/\Ch [] w' mN) (hs:NF k0 l sp i o=true:=by kernel_rfl) (h:(λw=>(execOp (j6 (eH l sp a0 o)) o).run P w)=(λw=>.ok (.enter f args) w):=by kernel_rfl):gk P k0 pre es (HQ k0 pv sp w.heap.size) lf l (fI a0) w i o:=by
 obtain⟨h1,h2,h3,h4⟩:=u5 hs;refine Ai h1 h2 h3 h4 λw' _=>?_;have h2:(execOp (j6 (eH l sp a0 o)) o).run P w'=.ok (.enter f args) w':=congrFun h w';unfold Yields;rw[h2];exact(hg w').mono λv mN h=>⟨h.2,h.1⟩
variable{ms:List Nat} {w0:World} {bs:List av}
theorem eL_ (S:∀w',Ch es w w'->St ms w0 bs w') (j b off:Nat) {x:Operand} {ty:TypeId} (ho:o.op=.load ty x:=by rfl) (hs:NF k0 l sp i o=true:=by kernel_rfl) (hx:j6 (eH l sp a0 o) x=.pointer (some ⟨b,off,none⟩):=by kernel_rfl)
 (ha:(P.underlying ty).map jt=some false:=by kernel_rfl) (hb:lk bs j off=some (b,(sp i).f []):=by kernel_rfl):gk P k0 pre es (HQ k0 pv sp w.heap.size) lf l (fI a0) w i o:=by
 obtain⟨h1,h2,h3,h4⟩:=u5 hs;exact Ai h1 h2 h3 h4 λw' hc=>Y.ir (S w' hc) j _ b off ⟨Ch.refl _ _,rfl⟩ ho hx ha hb
theorem ZB (S:∀w',Ch es w w'->St ms w0 bs w') (j b off n:Nat) (vs:Array Value) {x:Operand} {ty:TypeId} (ho:o.op=.load ty x:=by rfl) (hv:(sp i).f []=.agg vs:=by kernel_rfl) (hs:NF k0 l sp i o=true:=by kernel_rfl) (hx:j6 (eH l sp a0 o) x=.pointer (some ⟨b,off,none⟩):=by kernel_rfl)
 (ha:(P.underlying ty).map jt=some true:=by kernel_rfl) (hn:(P.info? ty).map (·.size)=some n:=by kernel_rfl) (hb:HR bs j off n=some (b,vs):=by kernel_rfl):gk P k0 pre es (HQ k0 pv sp w.heap.size) lf l (fI a0) w i o:=by
 obtain⟨h1,h2,h3,h4⟩:=u5 hs;exact Ai h1 h2 h3 h4 λw' hc=>Y.eC (S w' hc) j n vs b off ⟨Ch.refl _ _,hv.symm⟩ ho hx ha hn hb
theorem Wj (he:Nat.beq i k0=true) (hs:mV k0 l sp i o=true) (h:∀w',Ch [] w w'->Yields P o (j6 (eH l sp a0 o)) w' λv mN=>Ch es w' mN/\pv v mN):
 gk P k0 pre es (HQ k0 pv sp w.heap.size) lf l (fI a0) w i o:=by
 intro y w' SC _ mU gh;obtain⟨ZA,Fv,hg⟩:=O9 (H:=λ_ _ _=>True) hs mU gh;have oJ:i=k0:=Nat.eq_of_beq_eq_true he;refine⟨λ_=>?_,λhw=>by simp[fe,hg]at hw⟩;refine mR _ ZA ?_ Fv;have:=h w' (SC (.inl oJ));have hH:∀v mN,pv v mN->HQ k0 pv sp w.heap.size i v mN:=λv mN e=>by unfold HQ;rw[he];exact e
 unfold Yields at this⊢;split at this
 ·exact⟨λ_=>this.1,λe=>absurd oJ e,hH _ _ this.2⟩
 ·exact⟨λ_=>this.1,λe=>absurd oJ e,hH _ _ this.2⟩
 ·exact this.mono λv mN e=>⟨λ_=>e.1,λe'=>absurd oJ e',hH _ _ e.2⟩
 ·exact this.elim
def pvS (b:Nat) (bs:List av) (j off:Nat) (vs:List Value) (_:Value) (w:World):Prop:=∃x,(Wd bs j off vs)[j]?=some x/\w.heap[b]?=some x.obj
theorem eW_ (S:St ms w0 bs w) (j:Nat) (v:Value) (b off:Nat) {x y:Operand} {ty:TypeId} (ho:o.op=.store ty x y:=by rfl) (hs:mV k0 l sp i o=true:=by kernel_rfl) (he:Nat.beq i k0=true:=by kernel_rfl) (hx:j6 (eH l sp a0 o) x=.pointer (some ⟨b,off,none⟩):=by kernel_rfl) (hy:j6 (eH l sp a0 o) y=v:=by kernel_rfl)
 (hn:(P.info? ty).map (·.size)=some v.cells.toList.length:=by kernel_rfl) (h1:v.cells.toList.all (·.oneCell')=true:=by kernel_rfl) (hb:Ib bs j off v.cells.toList.length=some b:=by kernel_rfl):gk P k0 pre [b] (HQ k0 (pvS b bs j off v.cells.toList) sp w.heap.size) lf l (fI a0) w i o:=by
 refine Wj he hs λw' hc=>?_;obtain⟨cs,t,VF,hl⟩:=Ab hb;have ba:=(S.quiet hc).at_ j _ VF;unfold Yields execOp;simp only[ho,hx,hy,Instr.storeAt,Instr.sureAddr,Sem.run_bind,Sem.run_pure,Result.andThen_ok,ly (P:=P) ba rfl hn hl h1];refine⟨Ch.setRow w' b _,⟨b,true,.cells (splice cs off v.cells.toList) t (0,0)⟩,?_,setRow_heap w' b cs _ t (0,0) ba⟩;have hj:j<bs.length:=by
  rcases Nat.lt_or_ge j bs.length with h|h
  ·exact h
  ·simp[h]at VF
 simp only[Wd,VF];rw[List.getElem?_set_self hj]
theorem St.aa6 (S:St ms w0 bs w) (j off n:Nat) {b:Nat} (hb:Ib bs j off n=some b):∀w',Ch [b] w w'->St ms w0 (bs.eraseIdx j) w':=by
 intro w' hc;obtain⟨cs,t,VF,_⟩:=Ab hb;have S1:St ms w0 ([]++([⟨b,true,.cells cs t (0,0)⟩]++bs.eraseIdx j)) w:=S.perm (oK VF);exact S1.less (by simp) (by simpa using hc)
end
theorem sQ {P:Program} {k0:Nat} {pre:List (List Nat)} {es:List Nat} {H:Nat->Value->World->Prop} {lf l:List Oper} {y0:Nat->Value} {w:World} {i:Nat}:eQ P k0 pre es H lf l y0 w i []:=trivial
theorem bZ {P:Program} {k0:Nat} {pre:List (List Nat)} {es:List Nat} {H:Nat->Value->World->Prop} {lf l:List Oper} {y0:Nat->Value} {w:World} {i:Nat} {o:Oper} {rest:List Oper} (h:gk P k0 pre es H lf l y0 w i o) (k:eQ P k0 pre es H lf l y0 w (i+1) rest):eQ P k0 pre es H lf l y0 w i (o::rest):=⟨h,k⟩
theorem vT {vs:Nat->Value}:∀{l:List Oper} {dA:List Value} {k:Nat} {a:Act},dA.length=l.length->(∀i o v,l[i]?=some o->dA[i]?=some v->o.dst=none\/vs (k+i)=v)->bK vs k l a=mP dA l a
 |[],[],_,_,_,_=>rfl
 |o::rest,v::dA,k,a,h,hv=>by
  simp only[bK,mP];have h0:=hv 0 o v rfl rfl;have e:a.put o.dst (vs k)=a.put o.dst v:=by
   rcases h0 with h0|h0
   ·rw[h0];rfl
   ·rw[Nat.add_zero]at h0;rw[h0]
  rw[e];exact vT (by simpa using h) λi o' v' h1 h2=>by
   have:=hv (i+1) o' v' (by simpa using h1) (by simpa using h2)
   rwa [show k+(i+1)=k+1+i by omega]at this
 |[],_::_,_,_,h,_=>by simp at h
 |_::_,[],_,_,h,_=>by simp at h
section
variable{P:Program} {a0:Act} {w w0:World} {Q:Exit->Act->World->Prop} {id:Nat} {L:List Oper} {ms:List Nat} {bs:List av}
theorem I0 (m k0:Nat) (pre:List (List Nat)) (es:List Nat) (pv:Value->World->Prop) (dA:List Value) (paths:List (List Nat)) (sp:Nat->Sp)
 (gh:CJ (L.take m) k0 pre=true) (hpv:∀v w w',Ch [] w w'->pv v w->pv v w') (qc:∀x∈es,x<w.heap.size)
 (hs:eQ P k0 pre es (HQ k0 pv sp w.heap.size) L (L.take m) (fI a0) w 0 (L.take m))
 (hq:∀(vs:Nat->Value) w',Ch es w w'->(∀i,i<m->HQ k0 pv sp w.heap.size i (vs i) w')->WL P L.toArray Q (L.drop m) (bK vs 0 (L.take m) a0) w')
 (hm:P.follows .mixedOrders=true) (hl:Nat.ble m L.length=true) (ht:jd L m paths=true) (kB:nM a0.tmps.size (L.take m)=true) (dN:fE 0 L=true):(Code.region id L.toArray true).wp P Q a0 w:=by
 have OE:(L.take m).length=m:=by have:=Nat.le_of_ble_eq_true hl;simp;omega
 have h:=Wg (id:=id) (Q:=Q) (P:=P) (k0:=k0) (es:=es) (H:=HQ k0 pv sp w.heap.size) (a0:=a0) (w0:=w) (L.take m) (L.drop m) ?_ gh ?_ paths hm (by rw[List.take_append_drop,OE];exact ht) kB (by rw[List.take_append_drop];exact dN) (by rw[List.take_append_drop];exact hs) ?_
 ·rwa [List.take_append_drop]at h
 ·intro i v w1 w2 hc hH;unfold HQ at*;split at hH
  ·exact hpv _ _ _ hc hH
  ·exact hH.O1 hc
 ·intro i v w1 w2 oJ hle hc hH;unfold HQ at*;split at hH
  ·rename_i h;exact absurd (Nat.eq_of_beq_eq_true h) oJ
  ·obtain⟨ids,h1,h2,h3⟩:=hH;refine⟨ids,h1,h2,λp hp=>⟨(h3 p hp).1,(hc.block _ (fW (h3 p hp).2) (λhx=>?_)).trans (h3 p hp).2⟩⟩;have:=qc _ hx;have:=(h3 p hp).1;omega
 ·intro vs w' hc di;rw[List.take_append_drop];exact(hq vs w' hc λi hi=>di i _ (List.getElem?_eq_getElem (by omega))).out
theorem I1 (S:St ms w0 bs w) (m k0 j b off:Nat) (pre:List (List Nat)) (v:Value) (dA:List Value) (paths:List (List Nat))
 (hs:eQ P k0 pre [b] (HQ k0 (pvS b bs j off v.cells.toList) (OC (dA.map s0)) w.heap.size) L (L.take m) (fI a0) w 0 (L.take m))
 (hq:∀w',St ms w0 (Wd bs j off v.cells.toList) w'->WL P L.toArray Q (L.drop m) (mP dA (L.take m) a0) w')
 (hb:Ib bs j off v.cells.toList.length=some b:=by kernel_rfl) (hk:((L.take m)[k0]?).map (·.dst)=some none:=by kernel_rfl) (hvl:dA.length=m:=by kernel_rfl) (gh:CJ (L.take m) k0 pre=true:=by kernel_rfl)
 (hm:P.follows .mixedOrders=true:=by kernel_rfl) (hl:Nat.ble m L.length=true:=by kernel_rfl) (ht:jd L m paths=true:=by kernel_rfl) (kB:nM a0.tmps.size (L.take m)=true:=by kernel_rfl) (dN:fE 0 L=true:=by kernel_rfl):(Code.region id L.toArray true).wp P Q a0 w:=by
 obtain⟨cs,t,VF,hle⟩:=Ab hb;have OE:(L.take m).length=m:=by have:=Nat.le_of_ble_eq_true hl;simp;omega
 have hj:j<bs.length:=by
  rcases Nat.lt_or_ge j bs.length with h|h
  ·exact h
  ·simp[h]at VF
 have mK:Wd bs j off v.cells.toList=bs.set j ⟨b,true,.cells (splice cs off v.cells.toList) t (0,0)⟩:=by simp only[Wd,VF]
 refine I0 m k0 pre [b] _ dA paths _ gh ?_ ?_ hs ?_ hm hl ht kB dN
 ·rintro v' w1 w2 hc ⟨x,h1,h2⟩;exact⟨x,h1,(hc.block _ (fW h2) (by simp)).trans h2⟩
 ·intro x hx;obtain rfl:=List.mem_singleton.1 hx;exact S.lt VF
 ·intro vs w' hc di;obtain⟨ok,hok,hdk⟩:=Option.map_eq_some_iff.1 hk;have OF:k0<m:=by
   rcases Nat.lt_or_ge k0 m with h|h
   ·exact h
   ·rw[List.getElem?_eq_none (by omega)]at hok;simp at hok
  have hp:bK vs 0 (L.take m) a0=mP dA (L.take m) a0:=vT (by omega) λi o u ho hu=>by
   have hi:i<m:=by
    rcases Nat.lt_or_ge i dA.length with h|h
    ·omega
    ·simp[h]at hu
   by_cases oJ:i=k0
   ·subst oJ;rw[hok]at ho;exact .inl (by rw[<-Option.some.inj ho];exact hdk)
   ·have hH:=di i hi;unfold HQ at hH;have e_:Nat.beq i k0=false:=by
     cases hx:Nat.beq i k0
     ·rfl
     ·exact absurd (Nat.eq_of_beq_eq_true hx) oJ
    rw[e_]at hH;obtain⟨ids,h1,h2,_⟩:=hH;have h3:OC (dA.map s0) i=s0 u:=by
     unfold OC;rw[List.getD_eq_getElem?_getD,List.getElem?_map,hu];rfl
    rw[h3]at h1 h2;obtain rfl:ids=[]:=List.eq_nil_of_length_eq_zero (by simpa[s0]using h1);refine .inr ?_;rw[Nat.zero_add,h2];rfl
  rw[hp];refine hq w' ?_;have hH:=di k0 OF;unfold HQ at hH;rw[show Nat.beq k0 k0=true from Nat.beq_refl k0]at hH;obtain⟨x,hx,hxo⟩:=hH;rw[mK,List.getElem?_set_self hj]at hx;obtain rfl:=Option.some.inj hx;rw[mK];exact S.step VF rfl (by simpa using hc) hxo
end
end Sx
namespace Sx
open Go Go.RowKit Go.BigFrame
section
variable{P:Program} {ops:Array Oper} {rest:List Oper} {o:Oper} {a:Act} {w w0:World} {ms:List Nat} {bs:List av} {Q:Exit->Act->World->Prop}
end
end Sx
namespace Sx
open Go Go.RowKit Go.BigFrame
section
variable{P:Program} {a:Act} {w:World} {Q:Exit->Act->World->Prop}
end
section
variable{P:Program} {ops:Array Oper} {rest:List Oper} {o:Oper} {a:Act} {w:World} {Q:Exit->Act->World->Prop}
end
end Sx
namespace Sx
open Go Go.RowKit Go.BigFrame
section
variable{P:Program} {ops:Array Oper} {rest:List Oper} {o:Oper} {a:Act} {w:World} {Q:Exit->Act->World->Prop} {z T m n c:Nat} {news:List Value} {s x:Operand} {t tx:TypeId} {xv:Value}
end
end Sx
namespace Sx.Y
open Go Go.RowKit Go.BigFrame
variable{P:Program} {w:World} {o:Oper} {R:Value->World->Prop} {ρ:Operand->Value}
end Sx.Y
namespace Sx
open Go Go.RowKit Go.BigFrame
section
variable{P:Program} {ops:Array Oper} {rest:List Oper} {o:Oper} {a:Act} {w w0:World} {ms:List Nat} {bs:List av} {Q:Exit->Act->World->Prop}
end
end Sx
namespace Sx
open Go Go.RowKit Go.BigFrame
theorem mS.le {z T olds n bl B B' v} {w:World} (h:mS z T olds n bl B v w) (hb:B'<=B):mS z T olds n bl B' v w:=by
 obtain⟨x,c,bl',h1,h2,h3⟩:=h;exact⟨x,c,bl',h1,h2,λy hy=>⟨(h3 y hy).1,(h3 y hy).2.imp id (λh=>Nat.le_trans hb h)⟩⟩
def sB (m:Nat) (news:List Value) (T:TypeId):Sp:=⟨1,λids=>.slice (some ⟨ids.getD 0 0,0,none⟩) m m,λids=>[(ids.getD 0 0,.cells news.toArray T (0,0))]⟩
section
variable{P:Program} {lf l:List Oper} {sp:Nat->Sp} {a0:Act} {w:World} {i k0:Nat} {pre:List (List Nat)} {o:Oper} {es:List Nat} {pv:Value->World->Prop}
theorem eB_ (m:Nat) (news:List Value) (T:TypeId) (OD:sp i=sB m news T:=by rfl) (e_:Nat.beq i k0=false:=by kernel_rfl) (hs:mV k0 l sp i o=true:=by kernel_rfl)
 (h:(λw=>(execOp (j6 (eH l sp a0 o)) o).run P w)=(λw=>.ok (.value (.slice (some ⟨w.heap.size,0,none⟩) m m)) (w.alloc (.cells news.toArray T (0,0)))):=by kernel_rfl):
 gk P k0 pre es (HQ k0 pv sp w.heap.size) lf l (fI a0) w i o:=by
 intro y w' _ hc mU gh;obtain⟨ZA,Fv,hg⟩:=O9 (H:=λ_ _ _=>True) hs mU gh;have oJ:i≠k0:=λe=>by rw[e]at e_;simp at e_
 refine⟨λ_=>?_,λhw=>by simp[fe,hg]at hw⟩;refine mR _ ZA ?_ Fv;have h2:(execOp (j6 (eH l sp a0 o)) o).run P w'=_:=congrFun h w';unfold Yields;rw[h2];refine⟨λe=>absurd e oJ,λ_=>Ch.alloc _ _ _,?_⟩;unfold HQ;rw[e_,OD];refine⟨[w'.heap.size],rfl,rfl,λp hp=>?_⟩;obtain rfl:=List.mem_singleton.1 hp;exact⟨hc.size,heap_alloc_new w' _⟩
variable{ms:List Nat} {w0:World}
theorem eA_ {A bl R:List av} {xs:Option Addr} {z n c:Nat} {T T':TypeId} {olds:List Value} (S:St ms w0 (A++(bl++R)) w) (hr:fa z T olds xs n c bl) (d1 d2 j2 m:Nat) (news:List Value) (bytes:Nat) {t tx e':TypeId}
 (hbd:(n+m)*bytes<=140737488355328) (h63:n+m<=maxLen) (ho:o.op=.call ⟨.builtin .append,#[.tmp d1,.tmp d2],#[t,tx]⟩:=by rfl) (Lw:news.length=m*z:=by rfl) (h1:news.all (·.oneCell')=true:=by kernel_rfl)
 (hg:o.guard.isNone=true:=by kernel_rfl) (he:Nat.beq i k0=true:=by kernel_rfl)
 (sE:(match qm l o d1 with|some j=>!(Nat.beq j k0)&&Nat.beq (sp j).k 0|none=>qj l i d1)=true:=by kernel_rfl) (VG:valOf l sp a0 o d1=.slice xs n c:=by kernel_rfl)
 (Wk:qm l o d2=some j2:=by kernel_rfl) (Of:Nat.beq j2 k0=false:=by kernel_rfl) (OD:sp j2=sB m news T':=by rfl)
 (ht:P.underlying t=some (.slice T):=by kernel_rfl) (o9:P.underlying tx=some (.slice e'):=by kernel_rfl) (aF:(P.info? T).map (λi=>(i.zero.map (·.cells.size),i.size,i.bytes))=some (some z,z,bytes):=by kernel_rfl):
 gk P k0 pre (bl.map av.id) (HQ k0 (mS z T (olds++news) (n+m) bl w.heap.size) sp w.heap.size) lf l (fI a0) w i o:=by
 intro y w' SC hc mU gh;have oJ:i=k0:=Nat.eq_of_beq_eq_true he;have Zy:o.guard=none:=by cases hx:o.guard<;>simp_all
 have hy1:y d1=.slice xs n c:=by
  unfold valOf at VG;cases fZ:qm l o d1 with
  |some j=>
   rw[fZ]at VG sE;obtain⟨ZC,hd⟩:=lG fZ;simp only[Bool.and_eq_true,Bool.not_eq_true']at sE;have h2:=gh j d1 ZC hd;unfold HQ at h2;rw[sE.1]at h2;obtain⟨ids,h3,h4,_⟩:=h2;have h5:(sp j).k=0:=Nat.eq_of_beq_eq_true sE.2;obtain rfl:ids=[]:=List.eq_nil_of_length_eq_zero (by rw[h3,h5]);rw[h4];exact VG
  |none=>
   rw[fZ]at VG sE;rw[mU d1 sE];exact VG
 obtain⟨b,hy2,hb⟩:∃b,y d2=.slice (some ⟨b,0,none⟩) m m/\w'.heap[b]?=some (.cells news.toArray T' (0,0)):=by
  obtain⟨ZC,hd⟩:=lG Wk;have h2:=gh j2 d2 ZC hd;unfold HQ at h2;rw[Of,OD]at h2;obtain⟨ids,h3,h4,h5⟩:=h2
  match ids,h3 with
  |[b],_=>exact⟨b,h4,(h5 (b,.cells news.toArray T' (0,0)) (List.mem_singleton.2 rfl)).2⟩
 have fZ:Src P z tx (.slice (some ⟨b,0,none⟩) m m) m news w':=by
  refine Src.ofSlice w' o9 ⟨b,0,none⟩ m m news Lw (λj u hj=>?_) (λu hu=>List.all_eq_true.1 h1 u hu);rw[Addr.add_lit,cell_of hb];simpa using hj
 have Sq:=S.quiet (SC (.inl oJ));obtain⟨v,mN,aY,hc2,hR⟩:=gE (P:=P) (ty:=o.type) (w:=w') hr (λy hy=>Sq.at' (by simp[hy])) bytes fZ ht aF hbd h63;refine⟨λ_=>?_,λhw=>by simp[fe,Zy]at hw⟩;unfold Yields;rw[bP (ρ:=We y) ho (sv:=.slice xs n c) (xv:=.slice (some ⟨b,0,none⟩) m m) hy1 hy2 aY];refine⟨λ_=>hc2,λe=>absurd oJ e,?_⟩;unfold HQ;rw[he];exact hR.le hc.size
end
section
variable{P:Program} {a0:Act} {w w0:World} {Q:Exit->Act->World->Prop} {id:Nat} {L:List Oper} {ms:List Nat}
theorem agu {A bl R:List av} {xs:Option Addr} {z n c:Nat} {T T':TypeId} {olds:List Value} (S:St ms w0 (A++(bl++R)) w) (hr:fa z T olds xs n c bl) (m k0 i1 mm:Nat) (news:List Value) (pre:List (List Nat)) (dA:List Value) (paths:List (List Nat))
 (hs:eQ P k0 pre (bl.map av.id) (HQ k0 (mS z T (olds++news) (n+mm) bl w.heap.size) (OC ((dA.map s0).set i1 (sB mm news T'))) w.heap.size) L (L.take m) (fI a0) w 0 (L.take m))
 (hq:∀x' c' bl' u w',fa z T (olds++news) x' (n+mm) c' bl'->St ms w0 (A++(bl'++R)) w'->WL P L.toArray Q (L.drop m) (mP ((dA.set k0 (.slice x' (n+mm) c')).set i1 u) (L.take m) a0) w')
 (hk:Nat.blt k0 m=true:=by kernel_rfl) (hi:Nat.blt i1 m=true:=by kernel_rfl) (oJ:Nat.beq i1 k0=false:=by kernel_rfl) (hvl:dA.length=m:=by kernel_rfl) (gh:CJ (L.take m) k0 pre=true:=by kernel_rfl)
 (hm:P.follows .mixedOrders=true:=by kernel_rfl) (hl:Nat.ble m L.length=true:=by kernel_rfl) (ht:jd L m paths=true:=by kernel_rfl) (kB:nM a0.tmps.size (L.take m)=true:=by kernel_rfl) (dN:fE 0 L=true:=by kernel_rfl):(Code.region id L.toArray true).wp P Q a0 w:=by
 have OE:(L.take m).length=m:=by have:=Nat.le_of_ble_eq_true hl;simp;omega
 have Ej:k0<m:=by simpa[Nat.blt_eq]using hk
 have uD:i1<m:=by simpa[Nat.blt_eq]using hi
 have e_:i1≠k0:=λe=>by rw[e]at oJ;simp at oJ
 refine I0 m k0 pre (bl.map av.id) (mS z T (olds++news) (n+mm) bl w.heap.size) dA paths _ gh (λv w1 w2 hc h=>mS.O1 h hc) ?_ hs ?_ hm hl ht kB dN
 ·intro x hx;obtain⟨y,hy,rfl⟩:=List.mem_map.1 hx;exact S.ge (by simp[hy])
 ·intro vs w' hc di;have hK:=di k0 Ej;unfold HQ at hK;rw[show Nat.beq k0 k0=true from Nat.beq_refl k0]at hK;obtain⟨x',c',bl',hv,mT,ba⟩:=hK;have S2:=S.yE hr.wr hc (λy hy=>(ba y hy).1) (λy hy=>(ba y hy).2) mT.pw;have hp:bK vs 0 (L.take m) a0=mP ((dA.set k0 (.slice x' (n+mm) c')).set i1 (vs i1)) (L.take m) a0:=vT (by rw[List.length_set,List.length_set];omega) λi o u ho hu=>by
   have hi2:i<m:=by
    rcases Nat.lt_or_ge i m with h|h
    ·exact h
    ·rw[List.getElem?_eq_none (by simp;omega)]at hu;simp at hu
   refine .inr ?_;rw[Nat.zero_add];by_cases h1:i=i1
   ·subst h1;rw[List.getElem?_set_self (by simp;omega)]at hu;exact Option.some.inj hu
   ·rw[List.getElem?_set_ne (λe=>h1 e.symm)]at hu;by_cases h2:i=k0
    ·subst h2;rw[List.getElem?_set_self (by omega)]at hu;rw[hv];exact Option.some.inj hu
    ·rw[List.getElem?_set_ne (λe=>h2 e.symm)]at hu;have hH:=di i hi2;unfold HQ at hH;have hb:Nat.beq i k0=false:=by
      cases hx:Nat.beq i k0
      ·rfl
      ·exact absurd (Nat.eq_of_beq_eq_true hx) h2
     rw[hb]at hH;obtain⟨ids,g1,g2,_⟩:=hH;have h3:OC ((dA.map s0).set i1 (sB mm news T')) i=s0 u:=by
      unfold OC;rw[List.getD_eq_getElem?_getD,List.getElem?_set_ne (λe=>h1 e.symm),List.getElem?_map,hu];rfl
     rw[h3]at g1 g2;obtain rfl:ids=[]:=List.eq_nil_of_length_eq_zero (by simpa[s0]using g1);rw[g2];rfl
  rw[hp];exact hq x' c' bl' (vs i1) w' mT S2
end
def SD (val:Value) (Q:List av->Prop) (bl:List av) (B:Nat) (v:Value) (w:World):Prop:=
 v=val/\∃bl',Q bl'/\(∀y∈bl',w.heap[y.id]?=some y.obj/\(y.wr=true->(∃u∈bl,y.id=u.id)\/B<=y.id))/\bl'.Pairwise vP
theorem SD.O1 {val Q bl B v} {w w':World} (h:SD val Q bl B v w) (hc:Ch [] w w'):SD val Q bl B v w':=by
 obtain⟨h1,bl',h2,h3,h4⟩:=h;exact⟨h1,bl',h2,λy hy=>⟨(hc.block _ (fW (h3 y hy).1) (by simp)).trans (h3 y hy).1,(h3 y hy).2⟩,h4⟩
section
variable{P:Program} {lf l:List Oper} {sp:Nat->Sp} {a0:Act} {w:World} {i k0:Nat} {pre:List (List Nat)} {o:Oper} {es:List Nat} {pv:Value->World->Prop}
variable{ms:List Nat} {w0:World} {bs:List av}
end
section
variable{P:Program} {a0:Act} {w w0:World} {Q:Exit->Act->World->Prop} {id:Nat} {L:List Oper} {ms:List Nat}
end
def cat (ie:List (List av)) (R:List av):List av:=ie.foldr (·++·) R
theorem ab9 (ie:List (List av)) (R:List av):cat ie R=ie.flatten++R:=by
 induction ie with
 |nil=>rfl
 |cons a l ih=>simp[cat]at ih⊢;exact ih
def Wl (n:Nat) (is:List Nat):Bool:=is.all (λi=>Nat.blt i n)&&qo is
where qo:List Nat->Bool
 |[]=>true
 |i::l=>!(l.any (Nat.beq i))&&qo l
theorem qp:∀{l:List Nat},Wl.qo l=true->l.Nodup
 |[],_=>List.nodup_nil
 |i::l,h=>by
  simp only[Wl.qo,Bool.and_eq_true,Bool.not_eq_true']at h;refine List.nodup_cons.2 ⟨λhm=>?_,qp h.2⟩;have:l.any (Nat.beq i)=true:=List.any_eq_true.2 ⟨i,hm,by simp⟩;rw[this]at h;exact absurd h.1 (by simp)
section
variable{ms:List Nat} {w0 w:World}
theorem mW:∀(is l:List Nat),is.Nodup->(∀i∈is,i∈l)->∃r,l.Perm (is++r)
 |[],l,_,_=>⟨l,List.Perm.refl _⟩
 |i::is,l,hn,hm=>by
  have OZ:=List.nodup_cons.1 hn;obtain⟨r,hr⟩:=mW is (l.erase i) OZ.2 (λj hj=>(List.mem_erase_of_ne (λe=>OZ.1 (by rw[<-e];exact hj))).2 (hm j (by simp[hj])));exact⟨r,(List.perm_cons_erase (hm i (by simp))).trans (by simpa using hr.cons i)⟩
theorem Wm {α:Type} (ie:List α) (d:α) (is:List Nat) (hn:is.Nodup) (iK:∀i∈is,i<ie.length):∃rest,ie.Perm (is.map (λi=>ie.getD i d)++rest):=by
 have hr:(List.range ie.length).map (λi=>ie.getD i d)=ie:=by
  apply List.ext_getElem
  ·simp
  ·intro i h1 h2;simp[List.getD_eq_getElem?_getD,h2]
 obtain⟨r,Og⟩:=mW is (List.range ie.length) hn (λi hi=>List.mem_range.2 (iK i hi));refine⟨r.map λi=>ie.getD i d,?_⟩;rw[<-List.map_append];have:=Og.map (λi=>ie.getD i d)
 rwa [hr]at this
theorem St.re {bs bs' R:List av} (S:St ms w0 bs w) (ie:List (List av)) (is:List Nat) (h1:bs=cat ie R:=by kernel_rfl) (h2:Wl ie.length is=true:=by kernel_rfl) (h3:cat (is.map λi=>ie.getD i []) R=bs':=by kernel_rfl):St ms w0 bs' w:=by
 subst h1 h3;simp only[Wl,Bool.and_eq_true]at h2;obtain⟨rest,hp⟩:=Wm ie [] is (qp h2.2) (λi hi=>by have:=List.all_eq_true.1 h2.1 i hi;unfold Nat.blt at this;exact Nat.le_of_ble_eq_true this);rw[ab9]at S⊢;have h4:St ms w0 ((is.map λi=>ie.getD i []).flatten++(rest.flatten++R)) w:=S.perm (by
  rw[<-List.append_assoc,<-List.flatten_append];exact List.Perm.append_right R hp.flatten)
 exact h4.sub (List.Sublist.append_left (List.sublist_append_right _ _) _)
end
def SE:Obj->Option TypeId
 |.cells _ t _=>some t
 |_=>none
def sA (obj:Obj):Sp:=⟨1,λids=>.pointer (some ⟨ids.getD 0 0,0,none⟩),λids=>[(ids.getD 0 0,obj)]⟩
inductive VX where
 |v (x:Value)
 |a (obj:Obj)
def VX.sp:VX->Sp
 |.v x=>s0 x
 |.a o=>sA o
def VX.val (id:Nat):VX->Value
 |.v x=>x
 |.a _=>.pointer (some ⟨id,0,none⟩)
def O_ (ids:Nat->Nat):Nat->List VX->List av
 |_,[]=>[]
 |i,.v _::xs=>O_ ids (i+1) xs
 |i,.a o::xs=>⟨ids i,true,o⟩::O_ ids (i+1) xs
section
variable{ms:List Nat} {w0 w:World} {bs:List av}
end
section
variable{P:Program} {lf l:List Oper} {sp:Nat->Sp} {a0:Act} {w:World} {i k0:Nat} {pre:List (List Nat)} {o:Oper} {es:List Nat} {pv:Value->World->Prop}
variable{ms:List Nat} {w0:World} {bs:List av}
end
section
variable{P:Program} {a0:Act} {w w0:World} {Q:Exit->Act->World->Prop} {id:Nat} {L:List Oper} {ms:List Nat}
end
theorem Lz (ie:List (List av)) (R:List av):cat ie R=cat ie []++R:=by
 induction ie with
 |nil=>rfl
 |cons a l ih=>show a++cat l R=(a++cat l [])++R;rw[ih,List.append_assoc]
section
variable{ms:List Nat} {w0 w:World}
theorem St.split {A B R bs:List av} (S:St ms w0 bs w) (ie:List (List av)) (h1:bs=A++cat ie R:=by kernel_rfl) (h2:cat ie []=B:=by kernel_rfl):St ms w0 (A++(B++R)) w:=by
 subst h2;rw[<-Lz,<-h1];exact S
end
section
variable{P:Program} {lf l:List Oper} {sp:Nat->Sp} {a0:Act} {w:World} {i k0:Nat} {pre:List (List Nat)} {o:Oper} {es:List Nat} {pv:Value->World->Prop}
variable{ms:List Nat} {w0:World} {bs:List av}
end
def ak (kd:IntKind) (n:Nat) (f:Nat->Int):Array Value:=((List.range n).map λi=>Value.int kd (f i)).toArray
def o_ (f:Nat->Int) (i:Nat) (v:Int):Nat->Int:=λj=>bif Nat.beq j i then v else f j
theorem kQ (kd:IntKind) (n:Nat) (f:Nat->Int):(ak kd n f).size=n:=by simp[ak]
theorem I2 (kd:IntKind) {n:Nat} (f:Nat->Int) {i:Nat} (h:i<n):(ak kd n f)[i]?=some (.int kd (f i)):=by simp[ak,h]
theorem I3 (f:Nat->Int) (i:Nat) (v:Int):o_ f i v i=v:=by simp[o_]
theorem Aj (f:Nat->Int) {i j:Nat} (v:Int) (h:j≠i):o_ f i v j=f j:=by
 have:Nat.beq j i=false:=by
  cases hb:Nat.beq j i
  ·rfl
  ·exact absurd (Nat.eq_of_beq_eq_true hb) h
 simp[o_,this]
theorem Pa (kd:IntKind) {n:Nat} (f:Nat->Int) {i:Nat} (h:i<n) (v:Int):splice (ak kd n f) i [.int kd v]=ak kd n (o_ f i v):=by
 apply Array.ext';show((ak kd n f).toList.take i++[Value.int kd v]++(ak kd n f).toList.drop (i+1))=_;simp only[ak];apply List.ext_getElem
 ·simp;omega
 ·intro j h1 h2;simp only[List.length_append,List.length_take,List.length_map,List.length_range,List.length_drop,List.length_cons,List.length_nil]at h1 h2;rcases Nat.lt_trichotomy j i with hj|hj|hj
  ·rw[List.getElem_append_left (by simp;omega),List.getElem_append_left (by simp;omega)];simp[Aj _ _ (Nat.ne_of_lt hj)]
  ·subst hj;rw[List.getElem_append_left (by simp;omega),List.getElem_append_right (by simp;omega)];simp[I3]
  ·rw[List.getElem_append_right (by simp;omega)];simp only[List.length_append,List.length_take,List.length_map,List.length_range,List.length_cons,List.length_nil,List.getElem_drop,List.getElem_map,List.getElem_range];rw[Aj _ _ (by omega)];congr 2;omega
theorem FL (kd:IntKind) {n:Nat} {f g:Nat->Int} (h:∀i,i<n->f i=g i):ak kd n f=ak kd n g:=by
 unfold ak;congr 1;apply List.map_congr_left;intro i hi;rw[h i (List.mem_range.1 hi)]
section
variable{ms:List Nat} {w0 w:World} {bs:List av}
theorem ckF {kd:IntKind} {n:Nat} {f:Nat->Int} {i off b:Nat} {t:TypeId} (ho:off<n) (hb:bs[i]?=some ⟨b,true,.cells (ak kd n f) t (0,0)⟩:=by kernel_rfl):Ib bs i off 1=some b:=by
 have h2:Nat.ble (off+1) (ak kd n f).size=true:=by rw[kQ];exact Nat.ble_eq_true_of_le ho
 unfold Ib;rw[hb];simp only[h2]
theorem St.stF {kd:IntKind} {n:Nat} {f:Nat->Int} {i off b:Nat} {t:TypeId} {v:Int} (S:St ms w0 (Wd bs i off [.int kd v]) w) (ho:off<n) {bs':List av} (hb:bs[i]?=some ⟨b,true,.cells (ak kd n f) t (0,0)⟩:=by kernel_rfl)
 (h2:bs.set i ⟨b,true,.cells (ak kd n (o_ f off v)) t (0,0)⟩=bs':=by kernel_rfl):St ms w0 bs' w:=by
 unfold Wd at S;rw[hb]at S;simp only at S;rw[Pa kd f ho,h2]at S;exact S
end
section
variable{P:Program} {lf l:List Oper} {sp:Nat->Sp} {a0:Act} {w:World} {i k0:Nat} {pre:List (List Nat)} {o:Oper} {es:List Nat} {pv:Value->World->Prop}
variable{ms:List Nat} {w0:World} {bs:List av}
end
end Sx
namespace Sx
open Go Go.RowKit Go.BigFrame
def Wr (bl:List av):Prop:=∀x∈bl,x.wr=true
theorem Wr.nil:Wr []:=λx h=>by cases h
theorem Wr.cons {b:av} {l:List av} (h:b.wr=true) (k:Wr l):Wr (b::l):=λx hx=>by
 rcases List.mem_cons.1 hx with rfl|hx
 ·exact h
 ·exact k x hx
theorem Wr.app {a b:List av} (h:Wr a) (k:Wr b):Wr (a++b):=λx hx=>by
 rcases List.mem_append.1 hx with hx|hx
 ·exact h x hx
 ·exact k x hx
def Ty (L:List Nat) (bl:List av):Prop:=∀x∈bl,∃t,SE x.obj=some t/\t∈L
theorem Ty.nil:Ty [] []:=λx h=>by cases h
theorem Ty.cons {b:av} {l:List av} {t:Nat} {L:List Nat} (h:SE b.obj=some t) (k:Ty L l):Ty (t::L) (b::l):=λx hx=>by
 rcases List.mem_cons.1 hx with rfl|hx
 ·exact⟨t,h,by simp⟩
 ·obtain⟨u,h1,h2⟩:=k x hx;exact⟨u,h1,by simp[h2]⟩
theorem Ty.app {a b:List av} {L M:List Nat} (h:Ty L a) (k:Ty M b):Ty (L++M) (a++b):=λx hx=>by
 rcases List.mem_append.1 hx with hx|hx
 ·obtain⟨u,h1,h2⟩:=h x hx;exact⟨u,h1,by simp[h2]⟩
 ·obtain⟨u,h1,h2⟩:=k x hx;exact⟨u,h1,by simp[h2]⟩
def aa7 (L:List Nat) (ys:List (Option TypeId)):Bool:=ys.all λy=>match y with|some t=>L.all λu=>!(Nat.beq u t)|none=>true
theorem Ty.ne {L:List Nat} {bl:List av} {ys:List (Option TypeId)} (h:Ty L bl) (hd:aa7 L ys=true:=by kernel_rfl):∀x∈bl,∀t∈ys,SE x.obj≠t:=λx hx t ht e=>by
 obtain⟨u,h1,h2⟩:=h x hx;have h3:=List.all_eq_true.1 hd t ht;rw[h1]at e;subst e;simp only at h3;have h4:=List.all_eq_true.1 h3 u h2;simp at h4
theorem fa.ty {z T olds x n c bl} (h:fa z T olds x n c bl):Ty [T] bl:=by
 rcases h.2.2 with⟨_,_,_,rfl⟩|⟨b,tail,_,rfl,_⟩
 ·intro x hx;cases hx
 ·exact Ty.cons rfl Ty.nil
end Sx
namespace Sx
open Go Go.RowKit Go.BigFrame
section
variable{P:Program} {a:Act} {w:World} {Q:Exit->Act->World->Prop}
theorem vU {K:Act->World->Prop} (h:∀a',a'=a->K a' w):Exit.then K Q .normal a w:=h a rfl
theorem Ak {c:Code} (I:Nat->Act->World->Prop) (n:Nat) (h:∀a',a'=a->I n a' w)
 (hs:∀m a w,I m a w->c.wp P (Exit.then (λa' w'=>∃k,k<m/\I k a' w') Q) a w):(Code.loop c).wp P Q a w:=ab5 I n (h a rfl) hs
end
end Sx
namespace Sx
open Go
end Sx
