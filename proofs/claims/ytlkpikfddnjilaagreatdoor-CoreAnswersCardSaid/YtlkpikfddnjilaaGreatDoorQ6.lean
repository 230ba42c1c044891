/- Part 6 of the proof. -/
import Derived.Test.YtlkpikfddnjilaaGreatDoorQ5
set_option linter.all false
set_option maxRecDepth 100000
set_option maxHeartbeats 4000000
namespace Vx
open Go Go.RowKit Go.BigFrame Sx
variable{G:Type} [Bl G]
structure DI (C:Ctx G) (call:gb G) (q:Nat->Bool) (l:List Oper) (pm:List Nat) (R:List ax) (ms:List Nat) (w0:World) (k:xp G) (i_:List V) (dT:List Nat)
 (bS rest:List Nat) (fr:List V) (ids:List Nat) (bl:List VB) (ch:List G) (Z:List (Nat×ax)) (listed:Array Bool) (a:Act) (w:World):Prop where
 gd:eB (lq q l pm) (bS++rest)=true
 Ue:YE l pm rest=true
 BU:∀i,i<l.length->i∈bS++rest
 BV:∀i∈bS++rest,i<l.length
 nd:(bS++rest).Nodup
 oO:l.all (Hy C fr.length)=true
 Uf:∀i∈bS++rest,nk pm i i=false
 ls:listed.size=l.length
 Mt:∀i∈bS,xd (aG l i)=false->listed[i]?=some true
 l6:∀i∈rest,om (aG l i)=false->listed[i]?=some false
 back:∀j,listed[j]?=some true->∀i,nk pm i j=true->listed[i]?=some true
 vc:tI C call l.toArray (Tj l rest) fr bl ch k
 sz:a.tmps.size=fr.length
 df:a.defers=[]
 slot:∀t,(∀i∈bS,(aG l i).dst=some t->listed[i]?=some true)->(∀i∈rest,(aG l i).dst=some t->listed[i]?=some false)->eY a t=den ids (nth fr t)
 old:∀i∈bS,listed[i]?=some false->∀t,(aG l i).dst=some t->eY a t=den ids (nth i_ t)
 uY:∀t,(∀i∈bS,(aG l i).dst≠some t)->nth fr t=nth i_ t
 recs:∀i∈bS,listed[i]?=some false->∃uW v b,Rec C l pm i_ fr bl i uW v b
 Mu:∀i∈rest,listed[i]?=some true->∃b t z d,(i,(⟨b,true,.cells (af [] z).toArray t (0,0)⟩:ax))∈Z/\(aG l i).op=.alloc t/\iS C.P t=some z/\(aG l i).dst=some d/\eY a d=.pointer (some ⟨b,0,none⟩)
 nT:∀p∈Z,p.1∈rest/\listed[p.1]?=some true
 znd:(Z.map (·.1)).Nodup
 S:St ms w0 (lits ids ids bl++ag ch (Z.map (·.2)++R)) w
 hl:ids.length=bl.length
 gl:Gl C.gl ids
 wf0:cG ids.length i_=true
 idp:∃m,ids=dT++m
section
variable{C:Ctx G} {call:gb G} {q:Nat->Bool} {l:List Oper} {pm:List Nat} {R:List ax} {ms:List Nat} {w0:World} {k:xp G} {i_ fr:List V} {dT:List Nat}
 {bS rest:List Nat} {ids:List Nat} {bl:List VB} {ch:List G} {Z:List (Nat×ax)} {listed:Array Bool} {a:Act} {w:World} {Q:Exit->Act->World->Prop}
theorem BW:∀(fr:List V) (t:Nat) (x:V),(jO fr t x).length=fr.length
 |[],_,_=>rfl
 |_::_,0,_=>rfl
 |_::l,t+1,x=>by simp[jO,BW l t x]
theorem nr (d:Option Tmp) (x:V):(put fr d x).length=fr.length:=by cases d<;>simp[put,BW]
theorem uZ:∀(fr:List V) (t u:Nat) (x:V),t<fr.length->nth (jO fr t x) u=if u=t then x else nth fr u
 |[],t,u,x,h=>by simp at h
 |v::l,0,0,x,_=>by simp[jO,nth]
 |v::l,0,u+1,x,_=>by simp[jO,nth]
 |v::l,t+1,0,x,_=>by simp[jO,nth]
 |v::l,t+1,u+1,x,h=>by simp[jO,nth,uZ l t u x (by simpa using h)]
theorem zt {d:Option Tmp} {x:V} (t:Tmp) (hd:∀u,d=some u->u<fr.length):(d=some t->nth (put fr d x) t=x)/\(d≠some t->nth (put fr d x) t=nth fr t):=by
 cases d with
 |none=>exact⟨λh=>(nomatch h),λ_=>rfl⟩
 |some u=>
  refine⟨λh=>?_,λh=>?_⟩
  ·cases h;simp only[put];rw[uZ _ _ _ _ (hd _ rfl),if_pos rfl]
  ·simp only[put];rw[uZ _ _ _ _ (hd u rfl),if_neg (λe=>h (by rw[e]))]
theorem mF {n:Nat} (h:l.all (Hy C n)=true) {i:Nat} {o:Oper} (ho:l[i]?=some o):(∀t,o.dst=some t->t<n)/\(∀cs b,o.op≠.select cs b)/\
 (om o=true->o.guard=none/\∃d t z,o.dst=some d/\o.op=.alloc t/\iS C.P t=some z):=by
 have h1:=List.all_eq_true.1 h o (List.mem_of_getElem? ho);unfold Hy at h1;simp only[Bool.and_eq_true]at h1;obtain⟨⟨a1,a2⟩,a3⟩:=h1;refine⟨?_,?_,?_⟩
 ·intro t ht;rw[ht]at a1;rw[Nat.blt_eq]at a1;exact a1
 ·intro cs b e;rw[e]at a2;cases a2
 ·intro ha;rw[ha]at a3;simp only[cond_true]at a3;split at a3
  ·rename_i d t hg hd ho;split at a3
   ·rename_i z hz;exact⟨hg,d,t,z,hd,ho,hz⟩
   ·cases a3
  ·cases a3
namespace DI
theorem at_ (D:DI C call q l pm R ms w0 k i_ dT bS rest fr ids bl ch Z listed a w) {i:Nat} (h:i∈bS++rest):l[i]?=some (aG l i):=by
 have:=D.BV i h;rw[List.getElem?_eq_getElem this];rw[nq (List.getElem?_eq_getElem this)]
theorem mem_of (D:DI C call q l pm R ms w0 k i_ dT bS rest fr ids bl ch Z listed a w) {i t:Nat} (h:(aG l i).dst=some t):i∈bS++rest:=by
 have:=Nv h;exact D.BU i (by rcases Nat.lt_or_ge i l.length with h'|h';exact h';simp[h']at this)
theorem bit (D:DI C call q l pm R ms w0 k i_ dT bS rest fr ids bl ch Z listed a w) {i:Nat} (h:i∈bS++rest):listed[i]?=some true\/listed[i]?=some false:=dO D.ls (D.BV i h)
theorem uniq (D:DI C call q l pm R ms w0 k i_ dT bS rest fr ids bl ch Z listed a w) {i j t:Nat} (hi:(aG l i).dst=some t) (hj:(aG l j).dst=some t):i=j:=by
 refine Classical.byContradiction λeS=>?_;rcases rV D.gd i (D.mem_of hi) j (D.mem_of hj) eS with h|h
 ·exact(mE h).ww t hi hj
 ·exact(mE h).ww t hj hi
theorem ahead (D:DI C call q l pm R ms w0 k i_ dT bS rest fr ids bl ch Z listed a w) {i j:Nat} (hi:i∈bS) (hj:j∈rest):Nw q l pm i j:=mE ((fV D.gd).1 i hi j hj)
theorem apart (D:DI C call q l pm R ms w0 k i_ dT bS rest fr ids bl ch Z listed a w) {i:Nat} (hi:i∈bS) (hj:i∈rest):False:=(List.nodup_append.1 D.nd).2.2 i hi i hj rfl
theorem u5 (D:DI C call q l pm R ms w0 k i_ dT bS rest fr ids bl ch Z listed a w) {i:Nat} (hi:i∈bS) (hu:listed[i]?=some false) (hp:∀h,nk pm h i=true->listed[h]?=some true) {uW:List V} {v:V} {b:Bool}
 (r:Rec C l pm i_ fr bl i uW v b):∀t∈looks l i,eY a t=den ids (nth uW t):=by
 intro t ht;by_cases hw:∃h,(aG l h).dst=some t
 ·obtain⟨h,hd⟩:=hw;cases hb:nk pm h i with
  |true=>
   rw[r.w1 t ht h hd hb];refine D.slot t ?_ ?_
   ·intro i' w8 nt;rw[D.uniq nt hd];exact hp h hb
   ·intro i' w8 nt;have:=(D.ahead hi (D.uniq nt hd▸w8)).nb;rw[hb]at this;cases this
  |false=>
   rw[r.w0 t ht (λh' nt=>by rw[D.uniq nt hd];exact hb)];by_cases he:h=i
   ·subst he;exact D.old h hi hu t hd
   ·have hm:=D.mem_of hd;have hbi:nk pm i h=true:=by
     rcases rV D.gd h hm i (by simp[hi]) he with p|p
     ·have:=(mE p).wi t hd ht;rw[hb]at this;cases this
     ·exact(mE p).wj t hd ht
    have hun:listed[h]?=some false:=by
     rcases D.bit hm with e|e
     ·have:=D.back h e i hbi;rw[hu]at this;cases this
     ·exact e
    rcases List.mem_append.1 hm with hm|hm
    ·exact D.old h hm hun t hd
    ·rw[<-D.uY t (λi' w8 nt=>D.apart w8 (D.uniq nt hd▸hm))];refine D.slot t ?_ ?_
     ·intro i' w8 nt;exact(D.apart w8 (D.uniq nt hd▸hm)).elim
     ·intro i' w8 nt;rw[D.uniq nt hd];exact hun
 ·rw[r.w0 t ht (λh hd=>(hw ⟨h,hd⟩).elim),<-D.uY t (λi' _ nt=>hw ⟨i',nt⟩)];exact D.slot t (λi' _ nt=>(hw ⟨i',nt⟩).elim) (λi' _ nt=>(hw ⟨i',nt⟩).elim)
theorem JG (D:DI C call q l pm R ms w0 k i_ dT bS rest fr ids bl ch Z listed a w) {i:Nat} {r:List Nat} (hr:rest=i::r) (hu:listed[i]?=some false) (hp:∀h,nk pm h i=true->listed[h]?=some true):
 ∀t∈looks l i,eY a t=den ids (nth fr t):=by
 intro t ht;refine D.slot t ?_ ?_
 ·intro h hh hd;exact hp h ((D.ahead hh (by rw[hr];simp)).wi t hd ht)
 ·intro h hh hd;rcases D.bit (i:=h) (by simp[hh])with e|e
  ·exfalso;rw[hr]at hh;rcases List.mem_cons.1 hh with rfl|hh
   ·rw[hu]at e;cases e
   ·have Nz:=(fV D.gd).2.2;rw[hr]at Nz;simp only[eB,Bool.and_eq_true,List.all_eq_true]at Nz;have:=(mE (Nz.1 h hh)).wj t hd ht;have:=D.back h e i this;rw[hu]at this;cases this
  ·exact e
end DI
end
section
variable{C:Ctx G} {call:gb G} {q:Nat->Bool} {l:List Oper} {pm:List Nat} {R:List ax} {ms:List Nat} {w0:World} {k:xp G} {i_ fr:List V} {dT:List Nat}
 {bS rest:List Nat} {ids:List Nat} {bl:List VB} {ch:List G} {Z:List (Nat×ax)} {listed:Array Bool} {a:Act} {w:World} {Q:Exit->Act->World->Prop}
theorem zu {i j:Nat} {b:Bool} (hi:i<listed.size):(listed.setIfInBounds i true)[j]?=some b↔(j=i/\b=true)\/(j≠i/\listed[j]?=some b):=by
 rw[Array.getElem?_setIfInBounds];by_cases h:i=j
 ·subst h;simp[hi]
 ·rw[if_neg h];constructor
  ·intro e;exact .inr ⟨λx=>h x.symm,e⟩
  ·rintro(⟨e,_⟩|⟨_,e⟩)
   ·exact absurd e.symm h
   ·exact e
theorem u6 {a:Act} {d:Option Tmp} {v:Value} (hd:∀u,d=some u->u<a.tmps.size) (t:Tmp):(d=some t->eY (a.put d v) t=v)/\(d≠some t->eY (a.put d v) t=eY a t):=by
 cases d with
 |none=>exact⟨λh=>(nomatch h),λ_=>rfl⟩
 |some u=>
  refine⟨λh=>?_,λh=>?_⟩
  ·cases h;rw[jU _ _ _ _ (hd _ rfl),if_pos rfl]
  ·rw[jU _ _ _ _ (hd u rfl),if_neg (λe=>h (by rw[e]))]
namespace DI
theorem did (D:DI C call q l pm R ms w0 k i_ dT bS rest fr ids bl ch Z listed a w) {i:Nat} (hi:i∈bS) (hu:listed[i]?=some false) (hp:∀h,nk pm h i=true->listed[h]?=some true) {uW:List V} {v:V} {b:Bool}
 (r:Rec C l pm i_ fr bl i uW v b):DI C call q l pm R ms w0 k i_ dT bS rest fr ids bl ch Z (listed.setIfInBounds i true) (a.put (aG l i).dst (den ids v)) w:=by
 have rL:i<listed.size:=by rw[D.ls];exact D.BV i (by simp[hi])
 have sg:=λj b=>zu (listed:=listed) (j:=j) (b:=b) rL;have hd:∀u,(aG l i).dst=some u->u<a.tmps.size:=λu hu=>by rw[D.sz];exact(mF D.oO (D.at_ (by simp[hi]))).1 u hu
 have yp:=u6 (v:=den ids v) hd;refine{D with ls:=by simpa using D.ls,Mt:=?_,l6:=?_,back:=?_,sz:=by rw[size_put];exact D.sz,df:=by rw[fU];exact D.df,slot:=?_,old:=?_,recs:=?_,Mu:=?_,nT:=λp hp=>⟨(D.nT p hp).1,(sg _ _).2 (.inr ⟨λe=>D.apart hi (e▸(D.nT p hp).1),(D.nT p hp).2⟩)⟩}
 ·intro j hj hf;exact(sg _ _).2 (by by_cases e:j=i;exact .inl ⟨e,rfl⟩;exact .inr ⟨e,D.Mt j hj hf⟩)
 ·intro j hj hf;exact(sg _ _).2 (.inr ⟨λe=>D.apart hi (e▸hj),D.l6 j hj hf⟩)
 ·intro j hj h hb;refine(sg _ _).2 ?_;rcases(sg _ _).1 hj with⟨rfl,_⟩|⟨eS,hj⟩
  ·by_cases e:h=j
   ·exact .inl ⟨e,rfl⟩
   ·exact .inr ⟨e,hp h hb⟩
  ·by_cases e:h=i
   ·exact .inl ⟨e,rfl⟩
   ·exact .inr ⟨e,D.back j hj h hb⟩
 ·intro t h1 h2;by_cases e:(aG l i).dst=some t
  ·rw[(yp t).1 e,r.val t e]
  ·rw[(yp t).2 e];refine D.slot t ?_ ?_
   ·intro j hj nt;rcases(sg _ _).1 (h1 j hj nt)with⟨rfl,_⟩|⟨_,h⟩
    ·exact absurd nt e
    ·exact h
   ·intro j hj nt;rcases(sg _ _).1 (h2 j hj nt)with⟨_,h⟩|⟨_,h⟩
    ·cases h
    ·exact h
 ·intro j hj jn t ht;rcases(sg _ _).1 jn with⟨_,h⟩|⟨eS,h⟩
  ·cases h
  ·rw[(yp t).2 (λe=>eS (D.uniq ht e))];exact D.old j hj h t ht
 ·intro j hj jn;rcases(sg _ _).1 jn with⟨_,h⟩|⟨eS,h⟩
  ·cases h
  ·exact D.recs j hj h
 ·intro j hj jn;rcases(sg _ _).1 jn with⟨rfl,_⟩|⟨eS,h⟩
  ·exact(D.apart hi hj).elim
  ·obtain⟨b,t,z,d,h1,h2,h3,h4,h5⟩:=D.Mu j hj h;exact⟨b,t,z,d,h1,h2,h3,h4,by rw[(yp d).2 (λe=>eS (D.uniq h4 e))];exact h5⟩
theorem oP (b:ax) (X:List ax):∀ch:List G,(b::ag ch X).Perm (ag ch (b::X))
 |[]=>List.Perm.refl _
 |c::ch=>by
  simp only[ag];exact(List.perm_middle.symm).trans (List.Perm.append_left (Bl.B c) (oP b X ch))
theorem JH {P:Program} {t:TypeId} {z:List V} (h:iS P t=some z) (ids:List Nat):af ids z=af [] z:=by
 unfold iS at h;split at h
 ·split at h
  ·rename_i v hv;simp only[Option.some.injEq]at h;subst h;rw[uQ,uQ];cases v<;>simp[xQ,dJ,af,cl,den,qa]
  ·cases h
 ·cases h
theorem Ug (D:DI C call q l pm R ms w0 k i_ dT bS rest fr ids bl ch Z listed a w) {i d:Nat} {t:TypeId} {z:List V} (hi:i∈rest) (hu:listed[i]?=some false) (hp:∀h,nk pm h i=true->listed[h]?=some true)
 (ho:(aG l i).op=.alloc t) (hz:iS C.P t=some z) (hd:(aG l i).dst=some d):
 DI C call q l pm R ms w0 k i_ dT bS rest fr ids bl ch ((i,⟨w.heap.size,true,.cells (af [] z).toArray t (0,0)⟩)::Z) (listed.setIfInBounds i true) (a.put (aG l i).dst (.pointer (some ⟨w.heap.size,0,none⟩))) (w.alloc (.cells (af [] z).toArray t)):=by
 have rL:i<listed.size:=by rw[D.ls];exact D.BV i (by simp[hi])
 have sg:=λj b=>zu (listed:=listed) (j:=j) (b:=b) rL;have YG:∀u,(aG l i).dst=some u->u<a.tmps.size:=λu hu=>by rw[D.sz];exact(mF D.oO (D.at_ (by simp[hi]))).1 u hu
 have yp:=u6 (v:=(.pointer (some ⟨w.heap.size,0,none⟩):Value)) YG;have hA:om (aG l i)=true:=by simp[om,YD,ho]
 have hF:xd (aG l i)=false:=by simp[xd,YD,ho]
 refine{D with ls:=by simpa using D.ls,Mt:=?_,l6:=?_,back:=?_,sz:=by rw[size_put];exact D.sz,df:=by rw[fU];exact D.df,slot:=?_,old:=?_,recs:=?_,Mu:=?_,nT:=?_,znd:=?_,S:=?_}
 ·intro j hj hf;exact(sg _ _).2 (by by_cases e:j=i;exact .inl ⟨e,rfl⟩;exact .inr ⟨e,D.Mt j hj hf⟩)
 ·intro j hj hf;exact(sg _ _).2 (.inr ⟨λe=>(by rw[e,hA]at hf;cases hf),D.l6 j hj hf⟩)
 ·intro j hj h hb;refine(sg _ _).2 ?_;rcases(sg _ _).1 hj with⟨rfl,_⟩|⟨eS,hj⟩
  ·by_cases e:h=j
   ·exact .inl ⟨e,rfl⟩
   ·exact .inr ⟨e,hp h hb⟩
  ·by_cases e:h=i
   ·exact .inl ⟨e,rfl⟩
   ·exact .inr ⟨e,D.back j hj h hb⟩
 ·intro t h1 h2;by_cases e:(aG l i).dst=some t
  ·rcases(sg _ _).1 (h2 i hi e)with⟨_,h⟩|⟨h,_⟩
   ·cases h
   ·exact absurd rfl h
  ·rw[(yp t).2 e];refine D.slot t ?_ ?_
   ·intro j hj nt;rcases(sg _ _).1 (h1 j hj nt)with⟨rfl,_⟩|⟨_,h⟩
    ·exact absurd nt e
    ·exact h
   ·intro j hj nt;rcases(sg _ _).1 (h2 j hj nt)with⟨_,h⟩|⟨_,h⟩
    ·cases h
    ·exact h
 ·intro j hj jn t ht;rcases(sg _ _).1 jn with⟨_,h⟩|⟨eS,h⟩
  ·cases h
  ·rw[(yp t).2 (λe=>eS (D.uniq ht e))];exact D.old j hj h t ht
 ·intro j hj jn;rcases(sg _ _).1 jn with⟨_,h⟩|⟨eS,h⟩
  ·cases h
  ·exact D.recs j hj h
 ·intro j hj jn;rcases(sg _ _).1 jn with⟨rfl,_⟩|⟨eS,h⟩
  ·exact⟨_,_,_,_,List.mem_cons_self ..,ho,hz,hd,(yp d).1 hd⟩
  ·obtain⟨b,t,z,d,h1,h2,h3,h4,h5⟩:=D.Mu j hj h;exact⟨b,t,z,d,List.mem_cons_of_mem _ h1,h2,h3,h4,by rw[(yp d).2 (λe=>eS (D.uniq h4 e))];exact h5⟩
 ·intro p hp;rcases List.mem_cons.1 hp with rfl|hp
  ·exact⟨hi,(sg _ _).2 (.inl ⟨rfl,rfl⟩)⟩
  ·exact⟨(D.nT p hp).1,(sg _ _).2 (by by_cases e:p.1=i;exact .inl ⟨e,rfl⟩;exact .inr ⟨e,(D.nT p hp).2⟩)⟩
 ·simp only[List.map_cons,List.nodup_cons];refine⟨?_,D.znd⟩;intro hm;obtain⟨p,hp,e⟩:=List.mem_map.1 hm;have:=(D.nT p hp).2;rw[e,hu]at this;cases this
 ·have h:=D.S.new (Ch.alloc [] w (.cells (af [] z).toArray t)) (Nat.le_refl _) (heap_alloc_new w _);refine h.perm ?_;simp only[List.map_cons,List.cons_append];exact(List.perm_middle.symm).trans (List.Perm.append_left _ (oP _ _ _))
end DI
end
mutual
theorem BX {n m:Nat} (YH:n<=m):∀v:V,fu n v=true->fu m v=true
 |.int _ _,_=>by simp[fu]
 |.bool _,_=>by simp[fu]
 |.ptr i _,h=>by simp only[fu,Nat.blt_eq]at h⊢;omega
 |.sl i _ _ _,h=>by simp only[fu,Nat.blt_eq]at h⊢;omega
 |.ij i _ _ _ _,h=>by simp only[fu,Nat.blt_eq]at h⊢;omega
 |.fn _ a b,h=>by simp only[fu,Bool.and_eq_true]at h⊢;exact⟨gx YH a h.1,gx YH b h.2⟩
 |.BF _ v,h=>by simp only[fu]at h⊢;exact BX YH v h
 |.agg l,h=>by simp only[fu]at h⊢;exact gx YH l h
 |.aC l,h=>by simp only[fu]at h⊢;exact gx YH l h
 |.dS _ _ _,_=>by simp[fu]
 |.arr _ _ _,_=>by simp[fu]
 |.jN _ _ _ _,_=>by simp[fu]
 |.rest _,_=>by simp[fu]
 |.fN _ _ _,_=>by simp[fu]
 |.pe i _ _ _ _,h=>by simp only[fu,Nat.blt_eq]at h⊢;omega
 |.raw _,_=>by simp[fu]
theorem gx {n m:Nat} (YH:n<=m):∀l:List V,cG n l=true->cG m l=true
 |[],_=>by simp[cG]
 |v::l,h=>by simp only[cG,Bool.and_eq_true]at h⊢;exact⟨BX YH v h.1,gx YH l h.2⟩
end
theorem u7 {n:Nat}:∀{fr:List V} (t:Nat),cG n fr=true->fu n (nth fr t)=true
 |[],_,_=>by simp[nth,cD,fu]
 |v::l,0,h=>by simp only[cG,Bool.and_eq_true]at h;exact h.1
 |v::l,t+1,h=>by simp only[cG,Bool.and_eq_true]at h;exact u7 t h.2
theorem Uh {P:Program} {bl e:List VB} {t:TypeId} {x v:V} (h:Tg P bl t x=some v):Tg P (bl++e) t x=some v:=by
 unfold Tg at h⊢;split at h
 ·rename_i i off;split at h
  ·rename_i b hb;have hi:i<bl.length:=by rcases Nat.lt_or_ge i bl.length with h'|h';exact h';simp[h']at hb
   simp only[List.getElem?_append_left hi,hb];exact h
  ·cases h
 ·cases h
theorem HB {P:Program} {bl e:List VB} {t:TypeId} {x v:V} (h:LdS P bl t x v):LdS P (bl++e) t x v:=by
 rcases h with h|⟨p,h,hp⟩
 ·exact .inl (Uh h)
 ·exact .inr ⟨p,T9 h,hp⟩
theorem td {X Y:List ax} (h:X.Perm Y):∀ch:List G,(ag ch X).Perm (ag ch Y)
 |[]=>h
 |c::ch=>List.Perm.append_left (Bl.B c) (td h ch)
section
variable{C:Ctx G} {call:gb G} {q:Nat->Bool} {l:List Oper} {pm:List Nat} {R:List ax} {ms:List Nat} {w0:World} {k:xp G} {i_ fr:List V} {dT:List Nat}
 {bS rest:List Nat} {ids:List Nat} {bl:List VB} {ch:List G} {Z:List (Nat×ax)} {listed:Array Bool} {a:Act} {w:World} {Q:Exit->Act->World->Prop}
theorem BY {o:Oper} {L:List Oper} (h:tI C call l.toArray (o::L) fr bl ch k):∃b,gOK l fr o b/\(if b then kI C call o fr bl ch (λfr bl ch=>tI C call l.toArray L fr bl ch k)else tI C call l.toArray L (put fr o.dst cD) bl ch k):=by
 simp only[tI]at h;unfold gOK;split at h
 ·rename_i hg;(try rw[hg]);exact⟨true,rfl,h⟩
 ·rename_i j want hg;try rw[hg]
  split at h
  ·exact h.elim
  ·rename_i t hd;split at h
   ·rename_i c hc;have hs:=qe fr t;rw[hc]at hs;refine⟨c==want,⟨t,hd,.inl ⟨c,hc,rfl⟩⟩,?_⟩;cases c<;>(rw[hs]at h;cases want<;>exact h)
   ·rename_i vs hc;exact⟨false,⟨t,hd,.inr ⟨vs,hc,rfl⟩⟩,h⟩
   ·exact h.elim
theorem Rec.frame {i:Nat} {uW:List V} {v:V} {b:Bool} (r:Rec C l pm i_ fr bl i uW v b) {fr':List V} {bl':List VB}
 (h1:∀t∈looks l i,∀h,(aG l h).dst=some t->nk pm h i=true->nth fr' t=nth fr t) (h2:∀d,(aG l i).dst=some d->nth fr' d=nth fr d)
 (h3:∀t x v,(aG l i).op=.load t x->LdS C.P bl t (ev C.gl uW x) v->LdS C.P bl' t (ev C.gl uW x) v):Rec C l pm i_ fr' bl' i uW v b:=by
 refine⟨λt ht h hd hb=>(r.w1 t ht h hd hb).trans (h1 t ht h hd hb).symm,r.w0,λd hd=>(h2 d hd).trans (r.val d hd),r.g,?_⟩;have e:=r.e;cases b with
 |false=>exact e
 |true=>
  rcases e with e|⟨t,x,ho,e⟩
  ·exact .inl e
  ·exact .inr ⟨t,x,ho,h3 t x v ho e⟩
namespace DI
theorem Ui {i:Nat} {r:List Nat} (D:DI C call q l pm R ms w0 k i_ dT bS (i::r) fr ids bl ch Z listed a w) (hf:xd (aG l i)=true):∃fr',DI C call q l pm R ms w0 k i_ dT (bS++[i]) r fr' ids bl ch Z listed a w:=by
 have mG:(bS++[i])++r=bS++(i::r):=by simp
 have hA:om (aG l i)=false:=by rcases gw (aG l i)with h|h|h<;>simp_all
 have hu:listed[i]?=some false:=D.l6 i (by simp) hA;have ho:=D.at_ (i:=i) (by simp);have YG:=(mF D.oO ho).1;obtain⟨b,hg,hb⟩:=BY D.vc;obtain⟨v,hv,fI⟩:∃v,(if b then EvS C bl fr (aG l i) v else v=cD)/\tI C call l.toArray (Tj l r) (put fr (aG l i).dst v) bl ch k:=by
  cases b with
  |true=>rw[if_pos rfl]at hb;exact aep hf hb
  |false=>rw[if_neg (by simp)]at hb;exact⟨cD,rfl,hb⟩
 have np:=λt=>zt (fr:=fr) (x:=v) t YG;have Uj:∀{j},j∈bS->j≠i:=λhj e=>D.apart hj (by rw[e];simp);refine⟨put fr (aG l i).dst v,{D with gd:=by rw[mG];exact D.gd,Ue:=?_,BU:=by rw[mG];exact D.BU,BV:=by rw[mG];exact D.BV,nd:=by rw[mG];exact D.nd,oO:=by rw[nr];exact D.oO,Uf:=by rw[mG];exact D.Uf,Mt:=?_,l6:=λj hj=>D.l6 j (by simp[hj]),vc:=fI,sz:=by rw[nr];exact D.sz,slot:=?_,old:=?_,uY:=?_,recs:=?_,Mu:=λj hj=>D.Mu j (by simp[hj]),nT:=?_}⟩
 ·have:=D.Ue;simp only[YE,Bool.and_eq_true]at this;exact this.2
 ·intro j hj Uk;rcases List.mem_append.1 hj with hj|hj
  ·exact D.Mt j hj Uk
  ·obtain rfl:j=i:=by simpa using hj
   rw[hf]at Uk;cases Uk
 ·intro t h1 h2;by_cases e:(aG l i).dst=some t
  ·have:=h1 i (by simp) e;rw[hu]at this;cases this
  ·rw[(np t).2 e];refine D.slot t (λj hj=>h1 j (by simp[hj])) ?_;intro j hj hd;rcases List.mem_cons.1 hj with rfl|hj
   ·exact absurd hd e
   ·exact h2 j hj hd
 ·intro j hj jn t ht;rcases List.mem_append.1 hj with hj|hj
  ·exact D.old j hj jn t ht
  ·obtain rfl:j=i:=by simpa using hj
   rw[<-D.uY t (λh hh hd=>Uj hh (D.uniq hd ht))];refine D.slot t (λh hh hd=>(Uj hh (D.uniq hd ht)).elim) ?_;intro h hh hd;rw[D.uniq hd ht];exact hu
 ·intro t h;rw[(np t).2 (h i (by simp))];exact D.uY t (λj hj=>h j (by simp[hj]))
 ·intro j hj jn;rcases List.mem_append.1 hj with hj|hj
  ·obtain⟨uW,v',b',rr⟩:=D.recs j hj jn;refine⟨uW,v',b',rr.frame ?_ ?_ (λ_ _ _ _ h=>h)⟩
   ·intro t ht h hd EM;refine(np t).2 (λe=>?_);have:=(D.ahead hj (show i∈i::r by simp)).nb;rw[D.uniq hd e]at EM;rw[EM]at this;cases this
   ·intro d hd;exact(np d).2 (λe=>Uj hj (D.uniq hd e))
  ·obtain rfl:j=i:=by simpa using hj
   refine⟨fr,v,b,⟨?_,?_,λd hd=>(np d).1 hd,hg,hv⟩⟩
   ·intro t ht h hd EM;refine((np t).2 (λe=>?_)).symm;rw[D.uniq hd e,D.Uf j (by simp)]at EM;cases EM
   ·intro t ht Mv;exact D.uY t (λh hh hd=>by
     have:=(D.ahead hh (show j∈j::r by simp)).wi t hd ht;rw[Mv h hd]at this;cases this)
 ·intro p hp;obtain⟨h1,h2⟩:=D.nT p hp;rcases List.mem_cons.1 h1 with e|h1
  ·rw[e,hu]at h2;cases h2
  ·exact⟨h1,h2⟩
theorem mH:∀(r:List Nat) {bS:List Nat} {fr:List V},DI C call q l pm R ms w0 k i_ dT bS r fr ids bl ch Z listed a w->∃qf r' fr',DI C call q l pm R ms w0 k i_ dT qf r' fr' ids bl ch Z listed a w/\(r'=[]\/∃i s,r'=i::s/\xd (aG l i)=false)
 |[],bS,fr,D=>⟨bS,[],fr,D,.inl rfl⟩
 |i::r,bS,fr,D=>by
  cases hf:xd (aG l i)with
  |false=>exact⟨bS,i::r,fr,D,.inr ⟨i,r,rfl,hf⟩⟩
  |true=>
   obtain⟨fr',D'⟩:=D.Ui hf;exact mH r D'
theorem Ul {i:Nat} {r:List Nat} (D:DI C call q l pm R ms w0 k i_ dT bS (i::r) fr ids bl ch Z listed a w) (ha:om (aG l i)=true) (hi:listed[i]?=some true):∃fr' ids' bl' Z',DI C call q l pm R ms w0 k i_ dT (bS++[i]) r fr' ids' bl' ch Z' listed a w:=by
 have mG:(bS++[i])++r=bS++(i::r):=by simp
 have ho:=D.at_ (i:=i) (by simp);have YG:=(mF D.oO ho).1;obtain⟨YC,_⟩:=(mF D.oO ho).2.2 ha;obtain⟨b,t,z,d,hz,xb,hzt,hd,hy⟩:=D.Mu i (by simp) hi;obtain⟨Z1,Z2,rfl⟩:=List.append_of_mem hz;have fI:=D.vc;simp only[Tj,List.map_cons,tI,YC,kI,xb,hfN,evQ,BL,hzt]at fI;cases hq:cG bl.length fr&&(dE bl.length bl&&cG bl.length z)with
 |false=>rw[hq]at fI;exact fI.elim
 |true=>
  rw[hq]at fI;simp only[Bool.and_eq_true,<-D.hl]at hq;have fI:tI C call l.toArray (Tj l r) (put fr (aG l i).dst (.ptr bl.length 0)) (bl++[⟨true,t,z⟩]) ch k:=fI;have np:=λt=>zt (fr:=fr) (x:=V.ptr bl.length 0) t YG;have Uj:∀{j},j∈bS->j≠i:=λhj e=>D.apart hj (by rw[e];simp);refine⟨_,ids++[b],_,Z1++Z2,{D with gd:=by rw[mG];exact D.gd,Ue:=?_,BU:=by rw[mG];exact D.BU,BV:=by rw[mG];exact D.BV,nd:=by rw[mG];exact D.nd,oO:=by rw[nr];exact D.oO,Uf:=by rw[mG];exact D.Uf,Mt:=?_,l6:=λj hj=>D.l6 j (by simp[hj]),vc:=fI,sz:=by rw[nr];exact D.sz,slot:=?_,old:=?_,uY:=?_,recs:=?_,Mu:=?_,nT:=?_,znd:=?_,S:=?_,hl:=by simp[D.hl],gl:=D.gl.app _,wf0:=gx (by simp) _ D.wf0,idp:=by obtain⟨m,e⟩:=D.idp;exact⟨m++[b],by rw[e,List.append_assoc]⟩}⟩
  ·have:=D.Ue;simp only[YE,Bool.and_eq_true]at this;exact this.2
  ·intro j hj Uk;rcases List.mem_append.1 hj with hj|hj
   ·exact D.Mt j hj Uk
   ·obtain rfl:j=i:=by simpa using hj
    exact hi
  ·intro u h1 h2;by_cases e:(aG l i).dst=some u
   ·rw[(np u).1 e];obtain rfl:d=u:=by rw[hd]at e;simpa using e
    rw[hy];simp only[den,<-D.hl,cv]
   ·rw[(np u).2 e,bx _ (u7 u hq.1)];refine D.slot u (λj hj=>h1 j (by simp[hj])) ?_;intro j hj nt;rcases List.mem_cons.1 hj with rfl|hj
    ·exact absurd nt e
    ·exact h2 j hj nt
  ·intro j hj jn u hu;rcases List.mem_append.1 hj with hj|hj
   ·rw[bx _ (u7 u D.wf0)];exact D.old j hj jn u hu
   ·obtain rfl:j=i:=by simpa using hj
    rw[hi]at jn;cases jn
  ·intro u h;rw[(np u).2 (h i (by simp))];exact D.uY u (λj hj=>h j (by simp[hj]))
  ·intro j hj jn;rcases List.mem_append.1 hj with hj|hj
   ·obtain⟨uW,v',b',rr⟩:=D.recs j hj jn;refine⟨uW,v',b',rr.frame ?_ ?_ (λ_ _ _ _ h=>HB h)⟩
    ·intro u hu h hd EM;refine(np u).2 (λe=>?_);have:=(D.ahead hj (show i∈i::r by simp)).nb;rw[D.uniq hd e]at EM;rw[EM]at this;cases this
    ·intro u hd;exact(np u).2 (λe=>Uj hj (D.uniq hd e))
   ·obtain rfl:j=i:=by simpa using hj
    rw[hi]at jn;cases jn
  ·intro j hj jn;obtain⟨b',t',z',d',h1,h2⟩:=D.Mu j (by simp[hj]) jn;refine⟨b',t',z',d',?_,h2⟩;rcases List.mem_append.1 h1 with h1|h1
   ·simp[h1]
   ·rcases List.mem_cons.1 h1 with e|h1
    ·exfalso;have:j=i:=by simpa using congrArg Prod.fst e
     have hn:=(List.nodup_append.1 D.nd).2.1;rw[List.nodup_cons]at hn;exact hn.1 (this▸hj)
    ·simp[h1]
  ·intro p hp;obtain⟨h1,h2⟩:=D.nT p (by rcases List.mem_append.1 hp with h|h<;>simp[h]);rcases List.mem_cons.1 h1 with e|h1
   ·exfalso;have hn:=D.znd;simp only[List.map_append,List.map_cons]at hn;have MM:=(List.perm_middle.nodup_iff.1 hn);rw[List.nodup_cons]at MM;refine MM.1 ?_;rw[<-e];rcases List.mem_append.1 hp with h|h
    ·exact List.mem_append_left _ (List.mem_map.2 ⟨p,h,rfl⟩)
    ·exact List.mem_append_right _ (List.mem_map.2 ⟨p,h,rfl⟩)
   ·exact⟨h1,h2⟩
  ·have hn:=D.znd;simp only[List.map_append,List.map_cons]at hn⊢;have MM:=(List.perm_middle.nodup_iff.1 hn);exact(List.nodup_cons.1 MM).2
  ·refine D.S.perm ?_;rw[aQ _ _ _ _ D.hl,aR _ _ hq.2.1];simp only[lits,aL,JH hzt (ids++[b])];rw[List.append_assoc];refine List.Perm.append_left _ ?_;simp only[List.map_append,List.map_cons,List.cons_append,List.nil_append,List.append_assoc];exact(td List.perm_middle ch).trans (oP _ _ ch).symm
end DI
end
end Vx
namespace Vx
open Go Go.RowKit Go.BigFrame Sx
variable{G:Type} [Bl G]
def u9 (q:Nat->Bool) (call:gb G):Prop:=∀f,q f=true->∀args bl ch K,call f args bl ch K->call f args bl ch λv bl' ch'=>K v bl' ch'/\∃e,bl'=bl++e
section
variable{C:Ctx G} {call:gb G} {q:Nat->Bool} {l:List Oper} {pm:List Nat} {R:List ax} {ms:List Nat} {w0:World} {k:xp G} {i_ fr:List V} {dT:List Nat}
 {bS rest:List Nat} {ids:List Nat} {bl:List VB} {ch:List G} {Z:List (Nat×ax)} {listed:Array Bool} {a:Act} {w:World} {Q:Exit->Act->World->Prop}
theorem BZ (hq:u9 q call) {o:Oper} (ho:kg q o=true) {k:xp G} (h:kI C call o fr bl ch k):kI C call o fr bl ch λfr' bl' ch'=>k fr' bl' ch'/\∃e,bl'=bl++e:=by
 unfold kI at h⊢;split at h
 ·rename_i t x e;simp[kg,e]at ho
 ·rename_i t x y e;simp[kg,e]at ho
 ·rename_i op h1 h2;split at h
  ·exact⟨h.1,h.2,[],by simp⟩
  split at h
  ·exact⟨h,[],by simp⟩
  ·split at h
   ·cases hb:cG bl.length fr&&(dE bl.length bl&&cG bl.length _)with
    |false=>rw[hb]at h;exact h.elim
    |true=>rw[hb]at h;exact⟨h,_,rfl⟩
   ·split at h
    ·rename_i f args hc;cases hb:cG bl.length fr with
     |false=>rw[hb]at h;exact h.elim
     |true=>
      rw[hb]at h;have hqf:q f=true:=by
       unfold kg at ho;unfold callee at hc;split at ho
       ·rename_i e;simp[e]at hc
       ·rename_i e;simp[e]at hc
       ·rename_i g a1 a2 e;rw[e]at hc;simp only[ev]at hc;cases hk:okF C.P g with
        |false=>rw[hk]at hc;simp at hc
        |true=>
         rw[hk]at hc;simp only[cond_true,Option.some.injEq,Prod.mk.injEq]at hc;rw[<-hc.1];exact ho
       ·cases ho
      exact hq f hqf _ _ _ _ h
    ·cases hk:kH o.op with
     |false=>rw[hk]at h;exact h.elim
     |true=>
      exfalso;unfold kg at ho;unfold kH at hk;split at hk<;>simp_all
namespace DI
theorem Um {i:Nat} {r:List Nat} (D:DI C call q l pm R ms w0 k i_ dT bS (i::r) fr ids bl ch Z listed a w) (hx:xU (aG l i)=true) (hp:∀h,nk pm h i=true->listed[h]?=some true) {x:V} {more:List Nat} {bl':List VB} {ch':List G} {w':World}
 (fI:tI C call l.toArray (Tj l r) (put fr (aG l i).dst x) bl' ch' k) (hl:(ids++more).length=bl'.length) (S:St ms w0 (lits (ids++more) (ids++more) bl'++ag ch' (Z.map (·.2)++R)) w') (hw:more=[]\/cG ids.length fr=true) (hq:kg q (aG l i)=true->∃e,bl'=bl++e):
 DI C call q l pm R ms w0 k i_ dT (bS++[i]) r (put fr (aG l i).dst x) (ids++more) bl' ch' Z (listed.setIfInBounds i true) (a.put (aG l i).dst (den (ids++more) x)) w':=by
 have mG:(bS++[i])++r=bS++(i::r):=by simp
 have hA:om (aG l i)=false:=by rcases gw (aG l i)with h|h|h<;>simp_all
 have hu:listed[i]?=some false:=D.l6 i (by simp) hA;have ho:=D.at_ (i:=i) (by simp);have YG:=(mF D.oO ho).1;have rL:i<listed.size:=by rw[D.ls];exact D.BV i (by simp)
 have sg:=λj b=>zu (listed:=listed) (j:=j) (b:=b) rL;have np:=λt=>zt (fr:=fr) (x:=x) t YG;have yp:=u6 (a:=a) (v:=den (ids++more) x) (d:=(aG l i).dst) (λu hu=>by rw[D.sz];exact YG u hu);have Uj:∀{j},j∈bS->j≠i:=λhj e=>D.apart hj (by rw[e];simp);have hnr:∀{j},j∈r->j≠i:=λhj e=>by
  have hn:=(List.nodup_append.1 D.nd).2.1;rw[List.nodup_cons]at hn;exact hn.1 (e▸hj)
 have dn:∀u,den (ids++more) (nth fr u)=den ids (nth fr u):=λu=>by
  rcases hw with rfl|hw
  ·simp
  ·exact bx _ (u7 u hw)
 refine{D with gd:=by rw[mG];exact D.gd,Ue:=?_,BU:=by rw[mG];exact D.BU,BV:=by rw[mG];exact D.BV,nd:=by rw[mG];exact D.nd,oO:=by rw[nr];exact D.oO,Uf:=by rw[mG];exact D.Uf,ls:=by simpa using D.ls,Mt:=?_,l6:=?_,back:=?_,vc:=fI,sz:=by rw[nr,size_put];exact D.sz,df:=by rw[fU];exact D.df,slot:=?_,old:=?_,uY:=?_,recs:=?_,Mu:=?_,nT:=?_,S:=S,hl:=hl,gl:=D.gl.app _,wf0:=gx (by simp) _ D.wf0,idp:=by obtain⟨m,e⟩:=D.idp;exact⟨m++more,by rw[e,List.append_assoc]⟩}
 ·have:=D.Ue;simp only[YE,Bool.and_eq_true]at this;exact this.2
 ·intro j hj Uk;refine(sg _ _).2 ?_;rcases List.mem_append.1 hj with hj|hj
  ·exact .inr ⟨Uj hj,D.Mt j hj Uk⟩
  ·exact .inl ⟨by simpa using hj,rfl⟩
 ·intro j hj Uk;exact(sg _ _).2 (.inr ⟨hnr hj,D.l6 j (by simp[hj]) Uk⟩)
 ·intro j hj h hb;refine(sg _ _).2 ?_;rcases(sg _ _).1 hj with⟨rfl,_⟩|⟨eS,hj⟩
  ·by_cases e:h=j
   ·exact .inl ⟨e,rfl⟩
   ·exact .inr ⟨e,hp h hb⟩
  ·by_cases e:h=i
   ·exact .inl ⟨e,rfl⟩
   ·exact .inr ⟨e,D.back j hj h hb⟩
 ·intro t h1 h2;by_cases e:(aG l i).dst=some t
  ·rw[(yp t).1 e,(np t).1 e]
  ·rw[(yp t).2 e,(np t).2 e,dn];refine D.slot t ?_ ?_
   ·intro j hj hd;rcases(sg _ _).1 (h1 j (by simp[hj]) hd)with⟨h,_⟩|⟨_,h⟩
    ·exact absurd h (Uj hj)
    ·exact h
   ·intro j hj hd;rcases List.mem_cons.1 hj with rfl|hj
    ·exact absurd hd e
    ·rcases(sg _ _).1 (h2 j hj hd)with⟨_,h⟩|⟨_,h⟩
     ·cases h
     ·exact h
 ·intro j hj jn t ht;rcases(sg _ _).1 jn with⟨_,h⟩|⟨eS,h⟩
  ·cases h
  ·rcases List.mem_append.1 hj with hj|hj
   ·rw[(yp t).2 (λe=>eS (D.uniq ht e)),bx _ (u7 t D.wf0)];exact D.old j hj h t ht
   ·exact absurd (by simpa using hj) eS
 ·intro t h;rw[(np t).2 (h i (by simp))];exact D.uY t (λj hj=>h j (by simp[hj]))
 ·intro j hj jn;rcases(sg _ _).1 jn with⟨_,h⟩|⟨eS,h⟩
  ·cases h
  ·rcases List.mem_append.1 hj with hj|hj
   ·obtain⟨uW,v',b',rr⟩:=D.recs j hj h;have P:=D.ahead hj (show i∈i::r by simp);refine⟨uW,v',b',rr.frame ?_ ?_ ?_⟩
    ·intro t ht h hd EM;refine(np t).2 (λe=>?_);have:=P.nb;rw[D.uniq hd e]at EM;rw[EM]at this;cases this
    ·intro d hd;exact(np d).2 (λe=>Uj hj (D.uniq hd e))
    ·intro t y v xb hld;rcases P.ld hx (by simp[aaj,xb])with hb|hb
     ·have:=hp j hb;rw[h]at this;cases this
     ·obtain⟨e,rfl⟩:=hq hb;exact HB hld
   ·exact absurd (by simpa using hj) eS
 ·intro j hj jn;rcases(sg _ _).1 jn with⟨h,_⟩|⟨eS,h⟩
  ·exact absurd h (hnr hj)
  ·obtain⟨b,t,z,d,h1,h2,h3,h4,h5⟩:=D.Mu j (by simp[hj]) h;exact⟨b,t,z,d,h1,h2,h3,h4,by rw[(yp d).2 (λe=>eS (D.uniq h4 e))];exact h5⟩
 ·intro p hp';obtain⟨h1,h2⟩:=D.nT p hp';rcases List.mem_cons.1 h1 with e|h1
  ·rw[e,hu]at h2;cases h2
  ·exact⟨h1,(sg _ _).2 (.inr ⟨hnr h1,h2⟩)⟩
theorem B2:∀(r:List Nat) {bS:List Nat} {fr:List V} {ids:List Nat} {bl:List VB} {Z:List (Nat×ax)} {i:Nat},DI C call q l pm R ms w0 k i_ dT bS r fr ids bl ch Z listed a w->jw l r=some i->(∀h,nk pm h i=true->listed[h]?=some true)->
 ∃qf r' fr' ids' bl' Z',DI C call q l pm R ms w0 k i_ dT qf (i::r') fr' ids' bl' ch Z' listed a w
 |[],_,_,_,_,_,_,_,h,_=>by simp[jw]at h
 |j::r,bS,fr,ids,bl,Z,i,D,h,hp=>by
  have JI:=D.Ue;simp only[YE,Bool.and_eq_true]at JI;unfold jw at h;cases hA:om (aG l j)with
  |false=>
   rw[hA]at h;obtain rfl:j=i:=by simpa using h
   exact⟨bS,r,fr,ids,bl,Z,D⟩
  |true=>
   rw[hA]at h JI;simp only[cond_true]at h JI;rw[h]at JI;simp only[Bool.and_eq_true]at JI;obtain⟨fr',ids',bl',Z',D'⟩:=D.Ul hA (hp j JI.1.2);exact B2 r D' h hp
theorem xW (D:DI C call q l pm R ms w0 k i_ dT bS rest fr ids bl ch Z listed a w) (h:rest=[]\/∃i s,rest=i::s/\xd (aG l i)=false):rest=[]\/∃x,jw l rest=some x/\x∈rest/\xU (aG l x)=true:=by
 rcases h with h|⟨i,s,rfl,hf⟩
 ·exact .inl h
 ·refine .inr ?_;have nm:∀(r:List Nat) x,jw l r=some x->x∈r:=by
   intro r;induction r with
   |nil=>intro x h;simp[jw]at h
   |cons y r ih=>
    intro x h;unfold jw at h;cases hA:om (aG l y)with
    |true=>rw[hA]at h;exact List.mem_cons_of_mem _ (ih x h)
    |false=>rw[hA]at h;simp at h;simp[h]
  rcases gw (aG l i)with⟨h1,h2,h3⟩|⟨h1,h2,h3⟩|⟨h1,h2,h3⟩
  ·rw[hf]at h1;cases h1
  ·have JI:=D.Ue;simp only[YE,Bool.and_eq_true,h2,cond_true]at JI;cases hn:jw l s with
   |none=>rw[hn]at JI;simp at JI
   |some x=>
    rw[hn]at JI;simp only[Bool.and_eq_true]at JI;exact⟨x,by unfold jw;rw[h2];exact hn,List.mem_cons_of_mem _ (nm s x hn),JI.1.1⟩
  ·exact⟨i,by unfold jw;rw[h2];rfl,by simp,h3⟩
end DI
end
section
variable{C:Ctx G} {call:gb G} {q:Nat->Bool} {l:List Oper} {pm:List Nat} {R:List ax} {ms:List Nat} {w0:World} {k:xp G} {i_ fr:List V} {dT:List Nat}
 {bS rest:List Nat} {ids:List Nat} {bl:List VB} {ch:List G} {Z:List (Nat×ax)} {listed:Array Bool} {a:Act} {w:World} {Q:Exit->Act->World->Prop}
namespace DI
theorem first (h:eB (lq q l pm) rest=true) {x:Nat} (hn:jw l rest=some x):∀i∈rest,om (aG l i)=false->i=x\/Nw q l pm x i:=by
 induction rest with
 |nil=>simp[jw]at hn
 |cons y r ih=>
  intro i hi ha;simp only[eB,Bool.and_eq_true,List.all_eq_true]at h;unfold jw at hn;cases hA:om (aG l y)with
  |true=>
   rw[hA]at hn;rcases List.mem_cons.1 hi with rfl|hi
   ·rw[hA]at ha;cases ha
   ·exact ih h.2 hn i hi ha
  |false=>
   rw[hA]at hn;obtain rfl:y=x:=by simpa using hn
   rcases List.mem_cons.1 hi with e|hi
   ·exact .inl e
   ·exact .inr (mE (h.1 i hi))
theorem mI (h:jZ l l.length=true) {i:Nat} {o:Oper} (ho:l[i]?=some o) {e:Edge} (he:e∈o.after) (hb:Region.binds .any e=true):e.on<l.length:=by
 have h1:=List.all_eq_true.1 h o (List.mem_of_getElem? ho);have h2:=Array.all_eq_true_iff_forall_mem.1 h1 e he;rw[hb]at h2;simpa[Nat.blt_eq]using h2
theorem stuck (D:DI C call q l pm R ms w0 k i_ dT bS rest fr ids bl ch Z listed a w) (hpm:xq l pm=true) (dm:jZ l l.length=true) (hr:Region.ready .any l.toArray listed=[]):
 ∀(b c:List Nat),bS++rest=c++b->(∀i∈c,listed[i]?=some true)->∀i∈b,listed[i]?=some true:=by
 intro b;induction b with
 |nil=>intro c _ _ i hi;cases hi
 |cons x b ih=>
  intro c hc hl;have hx:x∈bS++rest:=by rw[hc];simp
  have h1:listed[x]?=some true:=by
   rcases D.bit hx with h|h
   ·exact h
   ·exfalso;have ho:=D.at_ hx;have hm:x∈Region.ready .any l.toArray listed:=(dP _ listed x).2 ⟨aG l x,ho,by simp[Array.getD_eq_getD_getElem?,h],λe he hb=>by
     have f_:=mI dm ho he hb;have EM:nk pm e.on x=true:=by
      unfold nk;rw[YF hpm ho];exact(tY pm _ _).2 ⟨e,by simpa using he,hb,.inl rfl⟩
     have hem:=D.BU e.on f_;rw[hc]at hem;have hle:listed[e.on]?=some true:=by
      rcases List.mem_append.1 hem with hm|hm
      ·exact hl _ hm
      ·exfalso;rcases List.mem_cons.1 hm with h2|h2
       ·have:=D.Uf x hx;rw[h2,this]at EM;cases EM
       ·have hp:=D.gd;rw[hc]at hp;have:=(fV hp).2.2;simp only[eB,Bool.and_eq_true,List.all_eq_true]at this;have:=(mE (this.1 _ h2)).nb;rw[EM]at this;cases this
     simp[Array.getD_eq_getD_getElem?,hle]⟩
    rw[hr]at hm;cases hm
  intro i hi;rcases List.mem_cons.1 hi with rfl|hi
  ·exact h1
  ·refine ih (c++[x]) (by rw[hc];simp) (λj hj=>?_) i hi;rcases List.mem_append.1 hj with hj|hj
   ·exact hl j hj
   ·obtain rfl:j=x:=by simpa using hj
    exact h1
theorem fin (D:DI C call q l pm R ms w0 k i_ dT bS rest fr ids bl ch Z listed a w) (hh:rest=[]\/∃i s,rest=i::s/\xd (aG l i)=false) (cT:∀i,i<l.length->listed[i]?=some true):
 k fr bl ch/\a=act ids fr/\St ms w0 (lits ids ids bl++ag ch R) w:=by
 rcases D.xW hh with rfl|⟨x,hx,hm,hX⟩
 ·have hZ:Z=[]:=by
   cases Z with
   |nil=>rfl
   |cons p Z=>have:=(D.nT p (by simp)).1;cases this
  refine⟨D.vc,?_,by have:=D.S;rw[hZ]at this;simpa using this⟩;refine yQ (by rw[D.sz];simp[act,jX]) (by rw[D.df];rfl) ?_;intro t;rw[zq];exact D.slot t (λi hi _=>cT i (D.BV i (by simp[hi]))) (λi hi=>nomatch hi)
 ·have h1:om (aG l x)=false:=by rcases gw (aG l x)with h|h|h<;>simp_all
  have:=D.l6 x hm h1;rw[cT x (D.BV x (by simp[hm]))]at this;cases this
end DI
theorem kC (hc:rS C.P C.gl call) (hqk:u9 q call) (hpm:xq l pm=true) (dm:jZ l l.length=true)
 (hk:∀fr' m bl' ch' w',(dT++m).length=bl'.length->St ms w0 (lits (dT++m) (dT++m) bl'++ag ch' R) w'->k fr' bl' ch'->Q .normal (act (dT++m) fr') w'):
 ∀(fuel:Nat) {bS rest:List Nat} {fr:List V} {ids:List Nat} {bl:List VB} {ch:List G} {Z:List (Nat×ax)} {listed:Array Bool} {a:Act} {w:World},
  DI C call q l pm R ms w0 k i_ dT bS rest fr ids bl ch Z listed a w->(rest=[]\/∃i s,rest=i::s/\xd (aG l i)=false)->listed.toList.count false=fuel->wpAny C.P .any l.toArray Q fuel listed a w:=by
 have fin:∀{bS rest:List Nat} {fr:List V} {ids:List Nat} {bl:List VB} {ch:List G} {Z:List (Nat×ax)} {listed:Array Bool} {a:Act} {w:World},
  DI C call q l pm R ms w0 k i_ dT bS rest fr ids bl ch Z listed a w->(rest=[]\/∃i s,rest=i::s/\xd (aG l i)=false)->(∀i,i<l.length->listed[i]?=some true)->Q .normal a w:=by
  intro bS rest fr ids bl ch Z listed a w D hh cT;obtain⟨h1,rfl,h3⟩:=D.fin hh cT;obtain⟨m,rfl⟩:=D.idp;exact hk _ _ _ _ _ D.hl h3 h1
 intro fuel;induction fuel with
 |zero=>
  intro bS rest fr ids bl ch Z listed a w D hh NA;have cT:∀i,i<l.length->listed[i]?=some true:=by
   intro i hi;rcases dO D.ls hi with h|h
   ·exact h
   ·exfalso;have:=count_set listed.toList i (by simpa using h);omega
  refine⟨?_,fin D hh cT⟩;refine List.eq_nil_iff_forall_not_mem.2 λi hi=>?_;obtain⟨o,ho,h2,_⟩:=(dP l listed i).1 hi;have rL:i<l.length:=by rcases Nat.lt_or_ge i l.length with h|h;exact h;simp[h]at ho
  simp[Array.getD_eq_getD_getElem?,cT i rL]at h2
 |succ fuel ih=>
  intro bS rest fr ids bl ch Z listed a w D hh NA;refine⟨λhr=>?_,?_⟩
  ·exfalso;have cT:∀i,i<l.length->listed[i]?=some true:=λi hi=>D.stuck hpm dm hr (bS++rest) [] rfl (λ_ h=>nomatch h) i (D.BU i hi);have:=nf listed.toList l.length 0 (by simpa using D.ls) (λj hj=>by simpa using cT j hj);omega
  ·intro i hi;obtain⟨o,ho,h2,h3⟩:=(dP l listed i).1 hi;have rL:i<l.length:=by rcases Nat.lt_or_ge i l.length with h|h;exact h;simp[h]at ho
   have BC:=nq ho;have hu:listed[i]?=some false:=by
    rcases dO D.ls rL with hb|hb
    ·simp[Array.getD_eq_getD_getElem?,hb]at h2
    ·exact hb
   have hp:∀h,nk pm h i=true->listed[h]?=some true:=by
    intro h hb;obtain⟨e,he,hbd,HC⟩:=xV hpm ho hb;have f_:=DI.mI dm ho he hbd;have hl:listed[e.on]?=some true:=by
     have:=h3 e he hbd;rcases dO D.ls (show e.on<l.length by omega)with hb|hb
     ·exact hb
     ·simp[Array.getD_eq_getD_getElem?,hb]at this
    rcases HC with rfl|HC
    ·exact hl
    ·exact D.back _ hl h HC
   have u_:(listed.setIfInBounds i true).toList.count false=fuel:=by
    have:=count_set listed.toList i (by simpa using hu);simp only[Array.toList_setIfInBounds];omega
   have zv:=mF D.oO ho;have hAt:l.toArray[i]?=some o:=by simpa using ho
   unfold wpOp;rw[hAt];simp only;have hm:=D.BU i rL;rcases List.mem_append.1 hm with hm|hm
   ·obtain⟨uW,v,b,r⟩:=D.recs i hm hu;have Bm:=D.u5 hm hu hp r;unfold looks at Bm;have D':=D.did hm hu hp r;have rg:=r.g;have re:=r.e;rw[BC]at Bm D' rg re;rw[lr Bm rg];cases b with
    |true=>
     rw[if_pos rfl]at re;rw[if_pos rfl];refine .inl ?_;unfold Oper.wp;rw[jx zv.2.1 Bm,zr D.gl D.hl D.S re];simp only[Oper.upon_value];exact ih D' hh u_
    |false=>
     rw[if_neg (by simp)]at re;rw[if_neg (by simp)];subst re;rw[show(undef:Value)=den ids cD by simp[cD,den]];exact ih D' hh u_
   ·rcases D.xW hh with rfl|⟨x,hx,hxm,hX⟩
    ·cases hm
    have hxA:om (aG l x)=false:=by rcases gw (aG l x)with h|h|h<;>simp_all
    have hxu:=D.l6 x hxm hxA;have aak:=DI.first (fV D.gd).2.2 hx;cases hA:om (aG l i)with
    |true=>
     obtain⟨YC,d,t,z,hd,xb,hz⟩:=zv.2.2 (by rw[<-BC];exact hA);have D':=D.Ug hm hu hp (by rw[BC];exact xb) hz (by rw[BC];exact hd);rw[BC]at D';rw[if_pos (by simp[Region.wanted,YC])];refine .inl ?_;have a_:(execOp a.eval o).run C.P w=.ok (.value (.pointer (some ⟨w.heap.size,0,none⟩))) (w.alloc (.cells (af [] z).toArray t)):=by
      obtain⟨v0,z1,z2⟩:=ju (P:=C.P) (w:=w) (ids:=[]) hz;have hz3:v0.cells=(af [] z).toArray:=by apply Array.ext';simpa using z2
      unfold execOp;simp only[xb,Instr.alloc,Sem.run_bind,z1,Result.andThen_ok,newVar,newRow,hz3];rfl
     unfold Oper.wp;rw[a_];simp only[Oper.upon_value];exact ih D' hh u_
    |false=>
     have rP:i=x:=by
      rcases aak i hm hA with h|h
      ·exact h
      ·have:=hp x (h.xj hX hA);rw[hxu]at this;cases this
     subst rP;obtain⟨qf,r',fr',ids',bl',Z',D1⟩:=D.B2 rest hx hp;have Bm:=D1.JG rfl hu hp;unfold looks at Bm;obtain⟨b,hg,hb⟩:=BY D1.vc;rw[BC]at Bm hg hb;rw[lr Bm hg];have nxt:∀{x:V} {more:List Nat} {bl2:List VB} {ch2:List G} {w':World},tI C call l.toArray (Tj l r') (put fr' o.dst x) bl2 ch2 k->(ids'++more).length=bl2.length->St ms w0 (lits (ids'++more) (ids'++more) bl2++ag ch2 (Z'.map (·.2)++R)) w'->
      (more=[]\/cG ids'.length fr'=true)->(kg q o=true->∃e,bl2=bl'++e)->wpAny C.P .any l.toArray Q fuel (listed.setIfInBounds i true) (a.put o.dst (den (ids'++more) x)) w':=by
      intro x more bl2 ch2 w' g1 g2 g3 g4 g5;have D2:=D1.Um hX hp (x:=x) (more:=more) (by rw[BC];exact g1) g2 g3 g4 (by rw[BC];exact g5);rw[BC]at D2;obtain⟨akm,r3,fr3,D3,hh3⟩:=D2.mH r';exact ih D3 hh3 u_
     cases b with
     |true=>
      rw[if_pos rfl]at hb;rw[if_pos rfl];refine .inl ?_;cases hqo:kg q o with
      |true=>
       refine uT hc D1.gl D1.hl D1.S (BZ hqk hqo hb) (jx zv.2.1 Bm) ?_;intro x more bl2 ch2 w' g1 g2 g3 g4;exact nxt g3.1 g1 g2 g4 (λ_=>g3.2)
      |false=>
       refine uT hc D1.gl D1.hl D1.S hb (jx zv.2.1 Bm) ?_;intro x more bl2 ch2 w' g1 g2 g3 g4;exact nxt g3 g1 g2 g4 (λe=>by rw[hqo]at e;cases e)
     |false=>
      rw[if_neg (by simp)]at hb;rw[if_neg (by simp)];have:=nxt (x:=cD) (more:=[]) (bl2:=bl') (ch2:=ch) (w':=w) hb (by simpa using D1.hl) (by simpa using D1.S) (.inl rfl) (λ_=>⟨[],by simp⟩);simpa[cD,den]using this
theorem nu {i j:Nat} (m:Nat):(eE l i j)[m]?=(l[m]?).map λo=>if m=j then upE i o else o:=by
 unfold eE;split
 ·rename_i o ho;have hj:j<l.length:=by rcases Nat.lt_or_ge j l.length with h|h;exact h;simp[h]at ho
  by_cases e:m=j
  ·subst e;simp[hj,ho];have:l[m]?=some o:=ho;rw[List.getElem?_eq_getElem hj]at this;rw[Option.some.inj this]
  ·rw[List.getElem?_set_ne (λh=>e h.symm)];cases l[m]?<;>simp[e]
 ·rename_i ho;by_cases e:m=j
  ·subst e;rw[ho];rfl
  ·cases l[m]?<;>simp[e]
theorem qg {i j:Nat}:(eE l i j).length=l.length:=by unfold eE;split<;>simp
theorem HD {i j m:Nat} (h:m≠j):aG (eE l i j) m=aG l m:=by
 unfold aG;rw[nu];cases l[m]?<;>simp[h]
theorem B3 {i j m:Nat} (h:m∈Region.ready .any (eE l i j).toArray listed):m∈Region.ready .any l.toArray listed:=by
 obtain⟨o,ho,h2,h3⟩:=(dP _ _ _).1 h;rw[nu]at ho;obtain⟨o',xm,e⟩:=Option.map_eq_some_iff.1 ho;refine(dP _ _ _).2 ⟨o',xm,h2,λe' he hb=>h3 e' ?_ hb⟩;subst e;split
 ·simp[upE,he]
 ·exact he
theorem nv {i j m:Nat} (hm:m≠j\/listed[i]?=some true) (h:m∈Region.ready .any l.toArray listed):m∈Region.ready .any (eE l i j).toArray listed:=by
 obtain⟨o,ho,h2,h3⟩:=(dP _ _ _).1 h;refine(dP _ _ _).2 ⟨_,by rw[nu,ho];rfl,h2,λe he hb=>?_⟩;split at he
 ·rename_i e1;simp only[upE,Array.mem_push]at he;rcases he with he|rfl
  ·exact h3 e he hb
  ·rcases hm with hm|hm
   ·exact absurd e1 hm
   ·simp[Array.getD_eq_getD_getElem?,hm]
 ·exact h3 e he hb
theorem NB {i j:Nat} (ts:Array Value):yielded (eE l i j).toArray ts=yielded l.toArray ts:=by
 funext n;have:((eE l i j).toArray[n]?).bind (·.dst)=(l.toArray[n]?).bind (·.dst):=by
  simp only[List.getElem?_toArray,nu];cases l[n]?with
  |none=>rfl
  |some o=>simp only[Option.map_some,Option.bind_some];split<;>rfl
 unfold yielded;rw[this]
theorem zx {P:Program} {i j m:Nat} {K:Act->World->Prop} (h:wpOp P (eE l i j).toArray Q m K a w):wpOp P l.toArray Q m K a w:=by
 unfold wpOp at h⊢;simp only[List.getElem?_toArray,nu,NB]at h⊢;cases ho:l[m]?with
 |none=>rw[ho]at h;exact h
 |some o=>
  rw[ho]at h;simp only[Option.map_some]at h⊢;by_cases e:m=j
  ·rw[if_pos e]at h;cases o;exact h
  ·rw[if_neg e]at h;exact h
theorem B4 {P:Program} {i j:Nat}:∀(fuel:Nat) {listed:Array Bool} {a:Act} {w:World},listed[i]?=some true->wpAny P .any (eE l i j).toArray Q fuel listed a w->wpAny P .any l.toArray Q fuel listed a w:=by
 intro fuel;induction fuel with
 |zero=>intro listed a w hi h;exact⟨List.eq_nil_iff_forall_not_mem.2 λm hm=>(by have:=nv (j:=j) (.inr hi) hm;rw[h.1]at this;cases this),h.2⟩
 |succ fuel ih=>
  intro listed a w hi h;refine⟨λhr=>h.1 (List.eq_nil_iff_forall_not_mem.2 λm hm=>by have:=B3 hm;rw[hr]at this;cases this),λm hm=>?_⟩;refine wpOp_mono (λa w h=>ih ?_ h) (zx (h.2 m (nv (.inr hi) hm)));have hs:i<listed.size:=by rcases Nat.lt_or_ge i listed.size with h|h;exact h;simp[h]at hi
  rw[Array.getElem?_setIfInBounds];split
  ·simp[*]
  ·exact hi
theorem lu {l:List Oper} (h:(l.all λo=>!(om o))=true) (m:Nat):om (aG l m)=false:=by
 unfold aG;split
 ·rename_i o ho;have:=List.all_eq_true.1 h o (List.mem_of_getElem? ho);simpa using this
 ·rfl
theorem JJ {i j:Nat} {Tk Tl:List Nat} (hc:rS C.P C.gl call) (hqk:u9 q call) (Mo:i≠j) (aeq:xq (eE l i j) Tk=true) (aer:jZ (eE l i j) (eE l i j).length=true) (aes:xq (eE l j i) Tl=true) (aet:jZ (eE l j i) (eE l j i).length=true)
 (hA1:((eE l i j).all λo=>!(om o))=true) (hA2:((eE l j i).all λo=>!(om o))=true)
 (hk:∀fr' m bl' ch' w',(dT++m).length=bl'.length->St ms w0 (lits (dT++m) (dT++m) bl'++ag ch' R) w'->k fr' bl' ch'->Q .normal (act (dT++m) fr') w'):
 ∀(fuel:Nat) {NC s1 ND s2:List Nat} {fr1 Ti:List V} {listed:Array Bool} {a:Act} {w:World},
  DI C call q (eE l i j) Tk R ms w0 k i_ dT NC (i::s1) fr1 ids bl ch Z listed a w->xd (aG (eE l i j) i)=false->DI C call q (eE l j i) Tl R ms w0 k i_ dT ND (j::s2) Ti ids bl ch Z listed a w->xd (aG (eE l j i) j)=false->
  listed.toList.count false=fuel->wpAny C.P .any l.toArray Q fuel listed a w:=by
 intro fuel;induction fuel with
 |zero=>
  intro NC s1 ND s2 fr1 Ti listed a w D1 hf1 D2 hf2 NA;exfalso;have hu:=D1.l6 i (by simp) (lu hA1 i);have:=count_set listed.toList i (by simpa using hu);omega
 |succ fuel ih=>
  intro NC s1 ND s2 fr1 Ti listed a w D1 hf1 D2 hf2 NA;have W1:=kC hc hqk aeq aer hk (fuel+1) D1 (.inr ⟨i,s1,rfl,hf1⟩) NA;have W2:=kC hc hqk aes aet hk (fuel+1) D2 (.inr ⟨j,s2,rfl,hf2⟩) NA;have hX1:xU (aG (eE l i j) i)=true:=by have:=lu hA1 i;rcases gw (aG (eE l i j) i)with h|h|h<;>simp_all
  have hX2:xU (aG (eE l j i) j)=true:=by have:=lu hA2 j;rcases gw (aG (eE l j i) j)with h|h|h<;>simp_all
  have hui:=D1.l6 i (by simp) (lu hA1 i);have huj:=D2.l6 j (by simp) (lu hA2 j);have BM:∀{m:Nat},listed[m]?=some false->(listed.setIfInBounds m true)[m]?=some true:=λ{m} h=>by
   have hs:m<listed.size:=by rcases Nat.lt_or_ge m listed.size with h'|h';exact h';simp[h']at h
   simp[hs]
  refine⟨λhr=>W1.1 (List.eq_nil_iff_forall_not_mem.2 λm hm=>by have:=B3 hm;rw[hr]at this;cases this),λm hm=>?_⟩;by_cases e1:m=i
  ·subst e1;exact wpOp_mono (λa w h=>B4 fuel (BM hui) h) (zx (W1.2 m (nv (.inl Mo) hm)))
  by_cases e2:m=j
  ·subst e2;exact wpOp_mono (λa w h=>B4 fuel (BM huj) h) (zx (W2.2 m (nv (.inl (λh=>Mo h.symm)) hm)))
  obtain⟨o,ho,h2,_⟩:=(dP l listed m).1 hm;have Jo:m<l.length:=by rcases Nat.lt_or_ge m l.length with h|h;exact h;simp[h]at ho
  have hu:listed[m]?=some false:=by
   rcases D1.bit (D1.BU m (by rw[qg];exact Jo))with hb|hb
   ·simp[Array.getD_eq_getD_getElem?,hb]at h2
   ·exact hb
  have YI:∀{l':List Oper} {YJ:List Nat},xq l' YJ=true->jZ l' l'.length=true->m∈Region.ready .any l'.toArray listed->(∀jj,listed[jj]?=some true->∀h,nk YJ h jj=true->listed[h]?=some true)->listed.size=l'.length->∀h,nk YJ h m=true->listed[h]?=some true:=by
   intro l' YJ hpm TO Ni back hls h hb;obtain⟨o',xm,_,h3⟩:=(dP l' listed m).1 Ni;obtain⟨e,he,hbd,HC⟩:=xV hpm xm hb;have f_:=DI.mI TO xm he hbd;have hl:listed[e.on]?=some true:=by
    have:=h3 e he hbd;rcases dO hls f_ with hb|hb
    ·exact hb
    ·simp[Array.getD_eq_getD_getElem?,hb]at this
   rcases HC with rfl|HC
   ·exact hl
   ·exact back _ hl h HC
  have hp1:=YI aeq aer (nv (.inl e2) hm) D1.back D1.ls;have Nz:=YI aes aet (nv (.inl e1) hm) D2.back D2.ls;have inA:∀{l':List Oper} {YJ s qf:List Nat} {x:Nat},eB (lq q l' YJ) (qf++(x::s))=true->xU (aG l' x)=true->om (aG l' m)=false->listed[x]?=some false->(∀h,nk YJ h m=true->listed[h]?=some true)->m∈qf++(x::s)->m≠x->m∈qf:=by
   intro l' YJ s qf x hp hx ha hux hpp hmm eS;rcases List.mem_append.1 hmm with h|h
   ·exact h
   ·exfalso;rcases List.mem_cons.1 h with h|h
    ·exact eS h
    ·have JK:=(fV hp).2.2;simp only[eB,Bool.and_eq_true,List.all_eq_true]at JK;have:=hpp x ((mE (JK.1 m h)).xj hx ha);rw[hux]at this;cases this
  have m1:=inA D1.gd hX1 (lu hA1 m) hui hp1 (D1.BU m (by rw[qg];exact Jo)) e1;have m2:=inA D2.gd hX2 (lu hA2 m) huj Nz (D2.BU m (by rw[qg];exact Jo)) e2;obtain⟨f1,v1,b1,r1⟩:=D1.recs m m1 hu;obtain⟨f2,v2,b2,r2⟩:=D2.recs m m2 hu;have o1:aG (eE l i j) m=o:=by rw[HD e2];exact nq ho
  have o2:aG (eE l j i) m=o:=by rw[HD e1];exact nq ho
  have k1:=D1.u5 m1 hu hp1 r1;have k2:=D2.u5 m2 hu Nz r2;have D1':=D1.did m1 hu hp1 r1;have D2':=D2.did m2 hu Nz r2;have g1:=r1.g;have g2:=r2.g;have q1:=r1.e;have q2:=r2.e;unfold looks at k1 k2;rw[o1]at k1 D1' g1 q1;rw[o2]at k2 D2' g2 q2;have w1:=lr k1 g1;have w2:=lr k2 g2;rw[NB]at w1 w2;obtain rfl:b1=b2:=by rw[<-w1,<-w2]
  have zv:=mF D1.oO (show(eE l i j)[m]?=some o by rw[nu,ho];simp[e2]);have u_:(listed.setIfInBounds m true).toList.count false=fuel:=by
   have:=count_set listed.toList m (by simpa using hu);simp only[Array.toList_setIfInBounds];omega
  unfold wpOp;rw[show l.toArray[m]?=some o by simpa using ho];simp only;rw[w1];cases b1 with
  |true=>
   rw[if_pos rfl]at q1 q2;rw[if_pos rfl];refine .inl ?_;have JL:(execOp a.eval o).run C.P w=.ok (.value (den ids v1)) w:=by rw[jx zv.2.1 k1,zr D1.gl D1.hl D1.S q1]
   have aeu:(execOp a.eval o).run C.P w=.ok (.value (den ids v2)) w:=by rw[jx zv.2.1 k2,zr D2.gl D2.hl D2.S q2]
   have hv:den ids v2=den ids v1:=by rw[JL]at aeu;simpa using aeu.symm
   rw[hv]at D2';unfold Oper.wp;rw[JL];simp only[Oper.upon_value];exact ih D1' hf1 D2' hf2 u_
  |false=>
   rw[if_neg (by simp)]at q1 q2;rw[if_neg (by simp)];subst q1 q2;rw[show(undef:Value)=den ids cD by simp[cD,den]];exact ih D1' hf1 D2' hf2 u_
end
end Vx
