/- Part 6 of the proof. -/
import Derived.Test.YtlkpikfddnjilaaGreatDoorE5
set_option linter.all false
set_option maxRecDepth 100000
set_option maxHeartbeats 4000000
namespace Vx
open Go Go.RowKit Go.BigFrame Sx
variable{G:Type} [Bl G]
structure DI (C:Ctx G) (call:gv G) (q:Nat->Bool) (l:List Oper) (pm:List Nat) (R:List aC) (ms:List Nat) (w0:World) (k:wQ G) (jf:List V) (dZ:List Nat)
 (bV rest:List Nat) (fr:List V) (ids:List Nat) (bl:List VB) (ch:List G) (Z:List (Nat×aC)) (listed:Array Bool) (a:Act) (w:World):Prop where
 gw:eF (lN q l pm) (bV++rest)=true
 Sj:WQ l pm rest=true
 Be:∀i,i<l.length->i∈bV++rest
 Bg:∀i∈bV++rest,i<l.length
 nd:(bV++rest).Nodup
 oI:l.all (GK C fr.length)=true
 Sk:∀i∈bV++rest,nt pm i i=false
 ls:listed.size=l.length
 KO:∀i∈bV,wF (aJ l i)=false->listed[i]?=some true
 mj:∀i∈rest,n_ (aJ l i)=false->listed[i]?=some false
 back:∀j,listed[j]?=some true->∀i,nt pm i j=true->listed[i]?=some true
 vc:tf C call l.toArray (Rt l rest) fr bl ch k
 sz:a.tmps.size=fr.length
 df:a.defers=[]
 slot:∀t,(∀i∈bV,(aJ l i).dst=some t->listed[i]?=some true)->(∀i∈rest,(aJ l i).dst=some t->listed[i]?=some false)->fg a t=den ids (nth fr t)
 old:∀i∈bV,listed[i]?=some false->∀t,(aJ l i).dst=some t->fg a t=den ids (nth jf t)
 uF:∀t,(∀i∈bV,(aJ l i).dst≠some t)->nth fr t=nth jf t
 recs:∀i∈bV,listed[i]?=some false->∃uD v b,Rec C l pm jf fr bl i uD v b
 KR:∀i∈rest,listed[i]?=some true->∃b t z d,(i,(⟨b,true,.cells (ai [] z).toArray t (0,0)⟩:aC))∈Z/\(aJ l i).op=.alloc t/\j9 C.P t=some z/\(aJ l i).dst=some d/\fg a d=.pointer (some ⟨b,0,none⟩)
 nO:∀p∈Z,p.1∈rest/\listed[p.1]?=some true
 znd:(Z.map (·.1)).Nodup
 S:St ms w0 (lits ids ids bl++ak ch (Z.map (·.2)++R)) w
 hl:ids.length=bl.length
 gl:Gl C.gl ids
 Yy:cK ids.length jf=true
 idp:∃m,ids=dZ++m
section
variable{C:Ctx G} {call:gv G} {q:Nat->Bool} {l:List Oper} {pm:List Nat} {R:List aC} {ms:List Nat} {w0:World} {k:wQ G} {jf fr:List V} {dZ:List Nat}
 {bV rest:List Nat} {ids:List Nat} {bl:List VB} {ch:List G} {Z:List (Nat×aC)} {listed:Array Bool} {a:Act} {w:World} {Q:Exit->Act->World->Prop}
theorem Bh:∀(fr:List V) (t:Nat) (x:V),(jT fr t x).length=fr.length
 |[],_,_=>rfl
 |_::_,0,_=>rfl
 |_::l,t+1,x=>by simp[jT,Bh l t x]
theorem nx (d:Option Tmp) (x:V):(put fr d x).length=fr.length:=by cases d<;>simp[put,Bh]
theorem uG:∀(fr:List V) (t u:Nat) (x:V),t<fr.length->nth (jT fr t x) u=if u=t then x else nth fr u
 |[],t,u,x,h=>by simp at h
 |v::l,0,0,x,_=>by simp[jT,nth]
 |v::l,0,u+1,x,_=>by simp[jT,nth]
 |v::l,t+1,0,x,_=>by simp[jT,nth]
 |v::l,t+1,u+1,x,h=>by simp[jT,nth,uG l t u x (by simpa using h)]
theorem yP {d:Option Tmp} {x:V} (t:Tmp) (hd:∀u,d=some u->u<fr.length):(d=some t->nth (put fr d x) t=x)/\(d≠some t->nth (put fr d x) t=nth fr t):=by
 cases d with
 |none=>exact⟨λh=>(nomatch h),λ_=>rfl⟩
 |some u=>
  refine⟨λh=>?_,λh=>?_⟩
  ·cases h;simp only[put];rw[uG _ _ _ _ (hd _ rfl),if_pos rfl]
  ·simp only[put];rw[uG _ _ _ _ (hd u rfl),if_neg (λe=>h (by rw[e]))]
theorem mO {n:Nat} (h:l.all (GK C n)=true) {i:Nat} {o:Oper} (ho:l[i]?=some o):(∀t,o.dst=some t->t<n)/\(∀cs b,o.op≠.select cs b)/\
 (n_ o=true->o.guard=none/\∃d t z,o.dst=some d/\o.op=.alloc t/\j9 C.P t=some z):=by
 have h1:=List.all_eq_true.1 h o (List.mem_of_getElem? ho);unfold GK at h1;simp only[Bool.and_eq_true]at h1;obtain⟨⟨a1,a2⟩,a3⟩:=h1;refine⟨?_,?_,?_⟩
 ·intro t ht;rw[ht]at a1;rw[Nat.blt_eq]at a1;exact a1
 ·intro cs b e;rw[e]at a2;cases a2
 ·intro ha;rw[ha]at a3;simp only[cond_true]at a3;split at a3
  ·rename_i d t hg hd ho;split at a3
   ·rename_i z hz;exact⟨hg,d,t,z,hd,ho,hz⟩
   ·cases a3
  ·cases a3
namespace DI
theorem at_ (D:DI C call q l pm R ms w0 k jf dZ bV rest fr ids bl ch Z listed a w) {i:Nat} (h:i∈bV++rest):l[i]?=some (aJ l i):=by
 have:=D.Bg i h;rw[List.getElem?_eq_getElem this];rw[XP (List.getElem?_eq_getElem this)]
theorem mem_of (D:DI C call q l pm R ms w0 k jf dZ bV rest fr ids bl ch Z listed a w) {i t:Nat} (h:(aJ l i).dst=some t):i∈bV++rest:=by
 have:=Mg h;exact D.Be i (by rcases Nat.lt_or_ge i l.length with h'|h';exact h';simp[h']at this)
theorem bit (D:DI C call q l pm R ms w0 k jf dZ bV rest fr ids bl ch Z listed a w) {i:Nat} (h:i∈bV++rest):listed[i]?=some true\/listed[i]?=some false:=dU D.ls (D.Bg i h)
theorem uniq (D:DI C call q l pm R ms w0 k jf dZ bV rest fr ids bl ch Z listed a w) {i j t:Nat} (hi:(aJ l i).dst=some t) (hj:(aJ l j).dst=some t):i=j:=by
 refine Classical.byContradiction λfc=>?_;rcases rL D.gw i (D.mem_of hi) j (D.mem_of hj) fc with h|h
 ·exact(mN h).ww t hi hj
 ·exact(mN h).ww t hj hi
theorem ahead (D:DI C call q l pm R ms w0 k jf dZ bV rest fr ids bl ch Z listed a w) {i j:Nat} (hi:i∈bV) (hj:j∈rest):Mh q l pm i j:=mN ((gk D.gw).1 i hi j hj)
theorem apart (D:DI C call q l pm R ms w0 k jf dZ bV rest fr ids bl ch Z listed a w) {i:Nat} (hi:i∈bV) (hj:i∈rest):False:=(List.nodup_append.1 D.nd).2.2 i hi i hj rfl
theorem uH (D:DI C call q l pm R ms w0 k jf dZ bV rest fr ids bl ch Z listed a w) {i:Nat} (hi:i∈bV) (hu:listed[i]?=some false) (hp:∀h,nt pm h i=true->listed[h]?=some true) {uD:List V} {v:V} {b:Bool}
 (r:Rec C l pm jf fr bl i uD v b):∀t∈looks l i,fg a t=den ids (nth uD t):=by
 intro t ht;by_cases hw:∃h,(aJ l h).dst=some t
 ·obtain⟨h,hd⟩:=hw;cases hb:nt pm h i with
  |true=>
   rw[r.w1 t ht h hd hb];refine D.slot t ?_ ?_
   ·intro i' wz ny;rw[D.uniq ny hd];exact hp h hb
   ·intro i' wz ny;have:=(D.ahead hi (D.uniq ny hd▸wz)).nb;rw[hb]at this;cases this
  |false=>
   rw[r.w0 t ht (λh' ny=>by rw[D.uniq ny hd];exact hb)];by_cases he:h=i
   ·subst he;exact D.old h hi hu t hd
   ·have hm:=D.mem_of hd;have hbi:nt pm i h=true:=by
     rcases rL D.gw h hm i (by simp[hi]) he with p|p
     ·have:=(mN p).wi t hd ht;rw[hb]at this;cases this
     ·exact(mN p).wj t hd ht
    have hun:listed[h]?=some false:=by
     rcases D.bit hm with e|e
     ·have:=D.back h e i hbi;rw[hu]at this;cases this
     ·exact e
    rcases List.mem_append.1 hm with hm|hm
    ·exact D.old h hm hun t hd
    ·rw[<-D.uF t (λi' wz ny=>D.apart wz (D.uniq ny hd▸hm))];refine D.slot t ?_ ?_
     ·intro i' wz ny;exact(D.apart wz (D.uniq ny hd▸hm)).elim
     ·intro i' wz ny;rw[D.uniq ny hd];exact hun
 ·rw[r.w0 t ht (λh hd=>(hw ⟨h,hd⟩).elim),<-D.uF t (λi' _ ny=>hw ⟨i',ny⟩)];exact D.slot t (λi' _ ny=>(hw ⟨i',ny⟩).elim) (λi' _ ny=>(hw ⟨i',ny⟩).elim)
theorem IP (D:DI C call q l pm R ms w0 k jf dZ bV rest fr ids bl ch Z listed a w) {i:Nat} {r:List Nat} (hr:rest=i::r) (hu:listed[i]?=some false) (hp:∀h,nt pm h i=true->listed[h]?=some true):
 ∀t∈looks l i,fg a t=den ids (nth fr t):=by
 intro t ht;refine D.slot t ?_ ?_
 ·intro h hh hd;exact hp h ((D.ahead hh (by rw[hr];simp)).wi t hd ht)
 ·intro h hh hd;rcases D.bit (i:=h) (by simp[hh])with e|e
  ·exfalso;rw[hr]at hh;rcases List.mem_cons.1 hh with rfl|hh
   ·rw[hu]at e;cases e
   ·have KU:=(gk D.gw).2.2;rw[hr]at KU;simp only[eF,Bool.and_eq_true,List.all_eq_true]at KU;have:=(mN (KU.1 h hh)).wj t hd ht;have:=D.back h e i this;rw[hu]at this;cases this
  ·exact e
end DI
end
section
variable{C:Ctx G} {call:gv G} {q:Nat->Bool} {l:List Oper} {pm:List Nat} {R:List aC} {ms:List Nat} {w0:World} {k:wQ G} {jf fr:List V} {dZ:List Nat}
 {bV rest:List Nat} {ids:List Nat} {bl:List VB} {ch:List G} {Z:List (Nat×aC)} {listed:Array Bool} {a:Act} {w:World} {Q:Exit->Act->World->Prop}
theorem yQ {i j:Nat} {b:Bool} (hi:i<listed.size):(listed.setIfInBounds i true)[j]?=some b↔(j=i/\b=true)\/(j≠i/\listed[j]?=some b):=by
 rw[Array.getElem?_setIfInBounds];by_cases h:i=j
 ·subst h;simp[hi]
 ·rw[if_neg h];constructor
  ·intro e;exact .inr ⟨λx=>h x.symm,e⟩
  ·rintro(⟨e,_⟩|⟨_,e⟩)
   ·exact absurd e.symm h
   ·exact e
theorem uI {a:Act} {d:Option Tmp} {v:Value} (hd:∀u,d=some u->u<a.tmps.size) (t:Tmp):(d=some t->fg (a.put d v) t=v)/\(d≠some t->fg (a.put d v) t=fg a t):=by
 cases d with
 |none=>exact⟨λh=>(nomatch h),λ_=>rfl⟩
 |some u=>
  refine⟨λh=>?_,λh=>?_⟩
  ·cases h;rw[jZ _ _ _ _ (hd _ rfl),if_pos rfl]
  ·rw[jZ _ _ _ _ (hd u rfl),if_neg (λe=>h (by rw[e]))]
namespace DI
theorem did (D:DI C call q l pm R ms w0 k jf dZ bV rest fr ids bl ch Z listed a w) {i:Nat} (hi:i∈bV) (hu:listed[i]?=some false) (hp:∀h,nt pm h i=true->listed[h]?=some true) {uD:List V} {v:V} {b:Bool}
 (r:Rec C l pm jf fr bl i uD v b):DI C call q l pm R ms w0 k jf dZ bV rest fr ids bl ch Z (listed.setIfInBounds i true) (a.put (aJ l i).dst (den ids v)) w:=by
 have rA:i<listed.size:=by rw[D.ls];exact D.Bg i (by simp[hi])
 have sg:=λj b=>yQ (listed:=listed) (j:=j) (b:=b) rA;have hd:∀u,(aJ l i).dst=some u->u<a.tmps.size:=λu hu=>by rw[D.sz];exact(mO D.oI (D.at_ (by simp[hi]))).1 u hu
 have yp:=uI (v:=den ids v) hd;refine{D with ls:=by simpa using D.ls,KO:=?_,mj:=?_,back:=?_,sz:=by rw[size_put];exact D.sz,df:=by rw[gi];exact D.df,slot:=?_,old:=?_,recs:=?_,KR:=?_,nO:=λp hp=>⟨(D.nO p hp).1,(sg _ _).2 (.inr ⟨λe=>D.apart hi (e▸(D.nO p hp).1),(D.nO p hp).2⟩)⟩}
 ·intro j hj hf;exact(sg _ _).2 (by by_cases e:j=i;exact .inl ⟨e,rfl⟩;exact .inr ⟨e,D.KO j hj hf⟩)
 ·intro j hj hf;exact(sg _ _).2 (.inr ⟨λe=>D.apart hi (e▸hj),D.mj j hj hf⟩)
 ·intro j hj h hb;refine(sg _ _).2 ?_;rcases(sg _ _).1 hj with⟨rfl,_⟩|⟨fc,hj⟩
  ·by_cases e:h=j
   ·exact .inl ⟨e,rfl⟩
   ·exact .inr ⟨e,hp h hb⟩
  ·by_cases e:h=i
   ·exact .inl ⟨e,rfl⟩
   ·exact .inr ⟨e,D.back j hj h hb⟩
 ·intro t h1 h2;by_cases e:(aJ l i).dst=some t
  ·rw[(yp t).1 e,r.val t e]
  ·rw[(yp t).2 e];refine D.slot t ?_ ?_
   ·intro j hj ny;rcases(sg _ _).1 (h1 j hj ny)with⟨rfl,_⟩|⟨_,h⟩
    ·exact absurd ny e
    ·exact h
   ·intro j hj ny;rcases(sg _ _).1 (h2 j hj ny)with⟨_,h⟩|⟨_,h⟩
    ·cases h
    ·exact h
 ·intro j hj jx t ht;rcases(sg _ _).1 jx with⟨_,h⟩|⟨fc,h⟩
  ·cases h
  ·rw[(yp t).2 (λe=>fc (D.uniq ht e))];exact D.old j hj h t ht
 ·intro j hj jx;rcases(sg _ _).1 jx with⟨_,h⟩|⟨fc,h⟩
  ·cases h
  ·exact D.recs j hj h
 ·intro j hj jx;rcases(sg _ _).1 jx with⟨rfl,_⟩|⟨fc,h⟩
  ·exact(D.apart hi hj).elim
  ·obtain⟨b,t,z,d,h1,h2,h3,h4,h5⟩:=D.KR j hj h;exact⟨b,t,z,d,h1,h2,h3,h4,by rw[(yp d).2 (λe=>fc (D.uniq h4 e))];exact h5⟩
theorem oJ (b:aC) (X:List aC):∀ch:List G,(b::ak ch X).Perm (ak ch (b::X))
 |[]=>List.Perm.refl _
 |c::ch=>by
  simp only[ak];exact(List.perm_middle.symm).trans (List.Perm.append_left (Bl.B c) (oJ b X ch))
theorem IQ {P:Program} {t:TypeId} {z:List V} (h:j9 P t=some z) (ids:List Nat):ai ids z=ai [] z:=by
 unfold j9 at h;split at h
 ·split at h
  ·rename_i v hv;simp only[Option.some.injEq]at h;subst h;rw[uv,uv];cases v<;>simp[xm,dP,ai,cl,den,pT]
  ·cases h
 ·cases h
theorem Sl (D:DI C call q l pm R ms w0 k jf dZ bV rest fr ids bl ch Z listed a w) {i d:Nat} {t:TypeId} {z:List V} (hi:i∈rest) (hu:listed[i]?=some false) (hp:∀h,nt pm h i=true->listed[h]?=some true)
 (ho:(aJ l i).op=.alloc t) (hz:j9 C.P t=some z) (hd:(aJ l i).dst=some d):
 DI C call q l pm R ms w0 k jf dZ bV rest fr ids bl ch ((i,⟨w.heap.size,true,.cells (ai [] z).toArray t (0,0)⟩)::Z) (listed.setIfInBounds i true) (a.put (aJ l i).dst (.pointer (some ⟨w.heap.size,0,none⟩))) (w.alloc (.cells (ai [] z).toArray t)):=by
 have rA:i<listed.size:=by rw[D.ls];exact D.Bg i (by simp[hi])
 have sg:=λj b=>yQ (listed:=listed) (j:=j) (b:=b) rA;have WS:∀u,(aJ l i).dst=some u->u<a.tmps.size:=λu hu=>by rw[D.sz];exact(mO D.oI (D.at_ (by simp[hi]))).1 u hu
 have yp:=uI (v:=(.pointer (some ⟨w.heap.size,0,none⟩):Value)) WS;have hA:n_ (aJ l i)=true:=by simp[n_,WO,ho]
 have hF:wF (aJ l i)=false:=by simp[wF,WO,ho]
 refine{D with ls:=by simpa using D.ls,KO:=?_,mj:=?_,back:=?_,sz:=by rw[size_put];exact D.sz,df:=by rw[gi];exact D.df,slot:=?_,old:=?_,recs:=?_,KR:=?_,nO:=?_,znd:=?_,S:=?_}
 ·intro j hj hf;exact(sg _ _).2 (by by_cases e:j=i;exact .inl ⟨e,rfl⟩;exact .inr ⟨e,D.KO j hj hf⟩)
 ·intro j hj hf;exact(sg _ _).2 (.inr ⟨λe=>(by rw[e,hA]at hf;cases hf),D.mj j hj hf⟩)
 ·intro j hj h hb;refine(sg _ _).2 ?_;rcases(sg _ _).1 hj with⟨rfl,_⟩|⟨fc,hj⟩
  ·by_cases e:h=j
   ·exact .inl ⟨e,rfl⟩
   ·exact .inr ⟨e,hp h hb⟩
  ·by_cases e:h=i
   ·exact .inl ⟨e,rfl⟩
   ·exact .inr ⟨e,D.back j hj h hb⟩
 ·intro t h1 h2;by_cases e:(aJ l i).dst=some t
  ·rcases(sg _ _).1 (h2 i hi e)with⟨_,h⟩|⟨h,_⟩
   ·cases h
   ·exact absurd rfl h
  ·rw[(yp t).2 e];refine D.slot t ?_ ?_
   ·intro j hj ny;rcases(sg _ _).1 (h1 j hj ny)with⟨rfl,_⟩|⟨_,h⟩
    ·exact absurd ny e
    ·exact h
   ·intro j hj ny;rcases(sg _ _).1 (h2 j hj ny)with⟨_,h⟩|⟨_,h⟩
    ·cases h
    ·exact h
 ·intro j hj jx t ht;rcases(sg _ _).1 jx with⟨_,h⟩|⟨fc,h⟩
  ·cases h
  ·rw[(yp t).2 (λe=>fc (D.uniq ht e))];exact D.old j hj h t ht
 ·intro j hj jx;rcases(sg _ _).1 jx with⟨_,h⟩|⟨fc,h⟩
  ·cases h
  ·exact D.recs j hj h
 ·intro j hj jx;rcases(sg _ _).1 jx with⟨rfl,_⟩|⟨fc,h⟩
  ·exact⟨_,_,_,_,List.mem_cons_self ..,ho,hz,hd,(yp d).1 hd⟩
  ·obtain⟨b,t,z,d,h1,h2,h3,h4,h5⟩:=D.KR j hj h;exact⟨b,t,z,d,List.mem_cons_of_mem _ h1,h2,h3,h4,by rw[(yp d).2 (λe=>fc (D.uniq h4 e))];exact h5⟩
 ·intro p hp;rcases List.mem_cons.1 hp with rfl|hp
  ·exact⟨hi,(sg _ _).2 (.inl ⟨rfl,rfl⟩)⟩
  ·exact⟨(D.nO p hp).1,(sg _ _).2 (by by_cases e:p.1=i;exact .inl ⟨e,rfl⟩;exact .inr ⟨e,(D.nO p hp).2⟩)⟩
 ·simp only[List.map_cons,List.nodup_cons];refine⟨?_,D.znd⟩;intro hm;obtain⟨p,hp,e⟩:=List.mem_map.1 hm;have:=(D.nO p hp).2;rw[e,hu]at this;cases this
 ·have h:=D.S.new (Ch.alloc [] w (.cells (ai [] z).toArray t)) (Nat.le_refl _) (heap_alloc_new w _);refine h.perm ?_;simp only[List.map_cons,List.cons_append];exact(List.perm_middle.symm).trans (List.Perm.append_left _ (oJ _ _ _))
end DI
end
mutual
theorem Bi {n m:Nat} (WT:n<=m):∀v:V,fR n v=true->fR m v=true
 |.int _ _,_=>by simp[fR]
 |.bool _,_=>by simp[fR]
 |.ptr i _,h=>by simp only[fR,Nat.blt_eq]at h⊢;omega
 |.sl i _ _ _,h=>by simp only[fR,Nat.blt_eq]at h⊢;omega
 |.je i _ _ _ _,h=>by simp only[fR,Nat.blt_eq]at h⊢;omega
 |.fn _ a b,h=>by simp only[fR,Bool.and_eq_true]at h⊢;exact⟨gH WT a h.1,gH WT b h.2⟩
 |.A0 _ v,h=>by simp only[fR]at h⊢;exact Bi WT v h
 |.agg l,h=>by simp only[fR]at h⊢;exact gH WT l h
 |.aI l,h=>by simp only[fR]at h⊢;exact gH WT l h
 |.ew _ _ _,_=>by simp[fR]
 |.arr _ _ _,_=>by simp[fR]
 |.jS _ _ _ _,_=>by simp[fR]
 |.rest _,_=>by simp[fR]
 |.fY _ _ _,_=>by simp[fR]
 |.pe i _ _ _ _,h=>by simp only[fR,Nat.blt_eq]at h⊢;omega
 |.raw _,_=>by simp[fR]
theorem gH {n m:Nat} (WT:n<=m):∀l:List V,cK n l=true->cK m l=true
 |[],_=>by simp[cK]
 |v::l,h=>by simp only[cK,Bool.and_eq_true]at h⊢;exact⟨Bi WT v h.1,gH WT l h.2⟩
end
theorem uJ {n:Nat}:∀{fr:List V} (t:Nat),cK n fr=true->fR n (nth fr t)=true
 |[],_,_=>by simp[nth,cG,fR]
 |v::l,0,h=>by simp only[cK,Bool.and_eq_true]at h;exact h.1
 |v::l,t+1,h=>by simp only[cK,Bool.and_eq_true]at h;exact uJ t h.2
theorem Sn {P:Program} {bl e:List VB} {t:TypeId} {x v:V} (h:Rq P bl t x=some v):Rq P (bl++e) t x=some v:=by
 unfold Rq at h⊢;split at h
 ·rename_i i off;split at h
  ·rename_i b hb;have hi:i<bl.length:=by rcases Nat.lt_or_ge i bl.length with h'|h';exact h';simp[h']at hb
   simp only[List.getElem?_append_left hi,hb];exact h
  ·cases h
 ·cases h
theorem GM {P:Program} {bl e:List VB} {t:TypeId} {x v:V} (h:Yu P bl t x v):Yu P (bl++e) t x v:=by
 rcases h with h|⟨p,h,hp⟩
 ·exact .inl (Sn h)
 ·exact .inr ⟨p,Sc h,hp⟩
theorem sS {X Y:List aC} (h:X.Perm Y):∀ch:List G,(ak ch X).Perm (ak ch Y)
 |[]=>h
 |c::ch=>List.Perm.append_left (Bl.B c) (sS h ch)
section
variable{C:Ctx G} {call:gv G} {q:Nat->Bool} {l:List Oper} {pm:List Nat} {R:List aC} {ms:List Nat} {w0:World} {k:wQ G} {jf fr:List V} {dZ:List Nat}
 {bV rest:List Nat} {ids:List Nat} {bl:List VB} {ch:List G} {Z:List (Nat×aC)} {listed:Array Bool} {a:Act} {w:World} {Q:Exit->Act->World->Prop}
theorem Bj {o:Oper} {L:List Oper} (h:tf C call l.toArray (o::L) fr bl ch k):∃b,gOK l fr o b/\(if b then k8 C call o fr bl ch (λfr bl ch=>tf C call l.toArray L fr bl ch k)else tf C call l.toArray L (put fr o.dst cG) bl ch k):=by
 simp only[tf]at h;unfold gOK;split at h
 ·rename_i hg;(try rw[hg]);exact⟨true,rfl,h⟩
 ·rename_i j want hg;try rw[hg]
  split at h
  ·exact h.elim
  ·rename_i t hd;split at h
   ·rename_i c hc;have hs:=pV fr t;rw[hc]at hs;refine⟨c==want,⟨t,hd,.inl ⟨c,hc,rfl⟩⟩,?_⟩;cases c<;>(rw[hs]at h;cases want<;>exact h)
   ·rename_i vs hc;exact⟨false,⟨t,hd,.inr ⟨vs,hc,rfl⟩⟩,h⟩
   ·exact h.elim
theorem Rec.frame {i:Nat} {uD:List V} {v:V} {b:Bool} (r:Rec C l pm jf fr bl i uD v b) {fr':List V} {bl':List VB}
 (h1:∀t∈looks l i,∀h,(aJ l h).dst=some t->nt pm h i=true->nth fr' t=nth fr t) (h2:∀d,(aJ l i).dst=some d->nth fr' d=nth fr d)
 (h3:∀t x v,(aJ l i).op=.load t x->Yu C.P bl t (ev C.gl uD x) v->Yu C.P bl' t (ev C.gl uD x) v):Rec C l pm jf fr' bl' i uD v b:=by
 refine⟨λt ht h hd hb=>(r.w1 t ht h hd hb).trans (h1 t ht h hd hb).symm,r.w0,λd hd=>(h2 d hd).trans (r.val d hd),r.g,?_⟩;have e:=r.e;cases b with
 |false=>exact e
 |true=>
  rcases e with e|⟨t,x,ho,e⟩
  ·exact .inl e
  ·exact .inr ⟨t,x,ho,h3 t x v ho e⟩
namespace DI
theorem So {i:Nat} {r:List Nat} (D:DI C call q l pm R ms w0 k jf dZ bV (i::r) fr ids bl ch Z listed a w) (hf:wF (aJ l i)=true):∃fr',DI C call q l pm R ms w0 k jf dZ (bV++[i]) r fr' ids bl ch Z listed a w:=by
 have mP:(bV++[i])++r=bV++(i::r):=by simp
 have hA:n_ (aJ l i)=false:=by rcases gG (aJ l i)with h|h|h<;>simp_all
 have hu:listed[i]?=some false:=D.mj i (by simp) hA;have ho:=D.at_ (i:=i) (by simp);have WS:=(mO D.oI ho).1;obtain⟨b,hg,hb⟩:=Bj D.vc;obtain⟨v,hv,fW⟩:∃v,(if b then EvS C bl fr (aJ l i) v else v=cG)/\tf C call l.toArray (Rt l r) (put fr (aJ l i).dst v) bl ch k:=by
  cases b with
  |true=>rw[if_pos rfl]at hb;exact acy hf hb
  |false=>rw[if_neg (by simp)]at hb;exact⟨cG,rfl,hb⟩
 have np:=λt=>yP (fr:=fr) (x:=v) t WS;have Sr:∀{j},j∈bV->j≠i:=λhj e=>D.apart hj (by rw[e];simp);refine⟨put fr (aJ l i).dst v,{D with gw:=by rw[mP];exact D.gw,Sj:=?_,Be:=by rw[mP];exact D.Be,Bg:=by rw[mP];exact D.Bg,nd:=by rw[mP];exact D.nd,oI:=by rw[nx];exact D.oI,Sk:=by rw[mP];exact D.Sk,KO:=?_,mj:=λj hj=>D.mj j (by simp[hj]),vc:=fW,sz:=by rw[nx];exact D.sz,slot:=?_,old:=?_,uF:=?_,recs:=?_,KR:=λj hj=>D.KR j (by simp[hj]),nO:=?_}⟩
 ·have:=D.Sj;simp only[WQ,Bool.and_eq_true]at this;exact this.2
 ·intro j hj Ss;rcases List.mem_append.1 hj with hj|hj
  ·exact D.KO j hj Ss
  ·obtain rfl:j=i:=by simpa using hj
   rw[hf]at Ss;cases Ss
 ·intro t h1 h2;by_cases e:(aJ l i).dst=some t
  ·have:=h1 i (by simp) e;rw[hu]at this;cases this
  ·rw[(np t).2 e];refine D.slot t (λj hj=>h1 j (by simp[hj])) ?_;intro j hj hd;rcases List.mem_cons.1 hj with rfl|hj
   ·exact absurd hd e
   ·exact h2 j hj hd
 ·intro j hj jx t ht;rcases List.mem_append.1 hj with hj|hj
  ·exact D.old j hj jx t ht
  ·obtain rfl:j=i:=by simpa using hj
   rw[<-D.uF t (λh hh hd=>Sr hh (D.uniq hd ht))];refine D.slot t (λh hh hd=>(Sr hh (D.uniq hd ht)).elim) ?_;intro h hh hd;rw[D.uniq hd ht];exact hu
 ·intro t h;rw[(np t).2 (h i (by simp))];exact D.uF t (λj hj=>h j (by simp[hj]))
 ·intro j hj jx;rcases List.mem_append.1 hj with hj|hj
  ·obtain⟨uD,v',b',rr⟩:=D.recs j hj jx;refine⟨uD,v',b',rr.frame ?_ ?_ (λ_ _ _ _ h=>h)⟩
   ·intro t ht h hd Ea;refine(np t).2 (λe=>?_);have:=(D.ahead hj (show i∈i::r by simp)).nb;rw[D.uniq hd e]at Ea;rw[Ea]at this;cases this
   ·intro d hd;exact(np d).2 (λe=>Sr hj (D.uniq hd e))
  ·obtain rfl:j=i:=by simpa using hj
   refine⟨fr,v,b,⟨?_,?_,λd hd=>(np d).1 hd,hg,hv⟩⟩
   ·intro t ht h hd Ea;refine((np t).2 (λe=>?_)).symm;rw[D.uniq hd e,D.Sk j (by simp)]at Ea;cases Ea
   ·intro t ht KV;exact D.uF t (λh hh hd=>by
     have:=(D.ahead hh (show j∈j::r by simp)).wi t hd ht;rw[KV h hd]at this;cases this)
 ·intro p hp;obtain⟨h1,h2⟩:=D.nO p hp;rcases List.mem_cons.1 h1 with e|h1
  ·rw[e,hu]at h2;cases h2
  ·exact⟨h1,h2⟩
theorem mQ:∀(r:List Nat) {bV:List Nat} {fr:List V},DI C call q l pm R ms w0 k jf dZ bV r fr ids bl ch Z listed a w->∃pW r' fr',DI C call q l pm R ms w0 k jf dZ pW r' fr' ids bl ch Z listed a w/\(r'=[]\/∃i s,r'=i::s/\wF (aJ l i)=false)
 |[],bV,fr,D=>⟨bV,[],fr,D,.inl rfl⟩
 |i::r,bV,fr,D=>by
  cases hf:wF (aJ l i)with
  |false=>exact⟨bV,i::r,fr,D,.inr ⟨i,r,rfl,hf⟩⟩
  |true=>
   obtain⟨fr',D'⟩:=D.So hf;exact mQ r D'
theorem Su {i:Nat} {r:List Nat} (D:DI C call q l pm R ms w0 k jf dZ bV (i::r) fr ids bl ch Z listed a w) (ha:n_ (aJ l i)=true) (hi:listed[i]?=some true):∃fr' ids' bl' Z',DI C call q l pm R ms w0 k jf dZ (bV++[i]) r fr' ids' bl' ch Z' listed a w:=by
 have mP:(bV++[i])++r=bV++(i::r):=by simp
 have ho:=D.at_ (i:=i) (by simp);have WS:=(mO D.oI ho).1;obtain⟨WN,_⟩:=(mO D.oI ho).2.2 ha;obtain⟨b,t,z,d,hz,wP,hzt,hd,hy⟩:=D.KR i (by simp) hi;obtain⟨Z1,Z2,rfl⟩:=List.append_of_mem hz;have fW:=D.vc;simp only[Rt,List.map_cons,tf,WN,k8,wP,hfN,evQ,A6,hzt]at fW;cases hq:cK bl.length fr&&(ez bl.length bl&&cK bl.length z)with
 |false=>rw[hq]at fW;exact fW.elim
 |true=>
  rw[hq]at fW;simp only[Bool.and_eq_true,<-D.hl]at hq;have fW:tf C call l.toArray (Rt l r) (put fr (aJ l i).dst (.ptr bl.length 0)) (bl++[⟨true,t,z⟩]) ch k:=fW;have np:=λt=>yP (fr:=fr) (x:=V.ptr bl.length 0) t WS;have Sr:∀{j},j∈bV->j≠i:=λhj e=>D.apart hj (by rw[e];simp);refine⟨_,ids++[b],_,Z1++Z2,{D with gw:=by rw[mP];exact D.gw,Sj:=?_,Be:=by rw[mP];exact D.Be,Bg:=by rw[mP];exact D.Bg,nd:=by rw[mP];exact D.nd,oI:=by rw[nx];exact D.oI,Sk:=by rw[mP];exact D.Sk,KO:=?_,mj:=λj hj=>D.mj j (by simp[hj]),vc:=fW,sz:=by rw[nx];exact D.sz,slot:=?_,old:=?_,uF:=?_,recs:=?_,KR:=?_,nO:=?_,znd:=?_,S:=?_,hl:=by simp[D.hl],gl:=D.gl.app _,Yy:=gH (by simp) _ D.Yy,idp:=by obtain⟨m,e⟩:=D.idp;exact⟨m++[b],by rw[e,List.append_assoc]⟩}⟩
  ·have:=D.Sj;simp only[WQ,Bool.and_eq_true]at this;exact this.2
  ·intro j hj Ss;rcases List.mem_append.1 hj with hj|hj
   ·exact D.KO j hj Ss
   ·obtain rfl:j=i:=by simpa using hj
    exact hi
  ·intro u h1 h2;by_cases e:(aJ l i).dst=some u
   ·rw[(np u).1 e];obtain rfl:d=u:=by rw[hd]at e;simpa using e
    rw[hy];simp only[den,<-D.hl,cQ]
   ·rw[(np u).2 e,bR _ (uJ u hq.1)];refine D.slot u (λj hj=>h1 j (by simp[hj])) ?_;intro j hj ny;rcases List.mem_cons.1 hj with rfl|hj
    ·exact absurd ny e
    ·exact h2 j hj ny
  ·intro j hj jx u hu;rcases List.mem_append.1 hj with hj|hj
   ·rw[bR _ (uJ u D.Yy)];exact D.old j hj jx u hu
   ·obtain rfl:j=i:=by simpa using hj
    rw[hi]at jx;cases jx
  ·intro u h;rw[(np u).2 (h i (by simp))];exact D.uF u (λj hj=>h j (by simp[hj]))
  ·intro j hj jx;rcases List.mem_append.1 hj with hj|hj
   ·obtain⟨uD,v',b',rr⟩:=D.recs j hj jx;refine⟨uD,v',b',rr.frame ?_ ?_ (λ_ _ _ _ h=>GM h)⟩
    ·intro u hu h hd Ea;refine(np u).2 (λe=>?_);have:=(D.ahead hj (show i∈i::r by simp)).nb;rw[D.uniq hd e]at Ea;rw[Ea]at this;cases this
    ·intro u hd;exact(np u).2 (λe=>Sr hj (D.uniq hd e))
   ·obtain rfl:j=i:=by simpa using hj
    rw[hi]at jx;cases jx
  ·intro j hj jx;obtain⟨b',t',z',d',h1,h2⟩:=D.KR j (by simp[hj]) jx;refine⟨b',t',z',d',?_,h2⟩;rcases List.mem_append.1 h1 with h1|h1
   ·simp[h1]
   ·rcases List.mem_cons.1 h1 with e|h1
    ·exfalso;have:j=i:=by simpa using congrArg Prod.fst e
     have hn:=(List.nodup_append.1 D.nd).2.1;rw[List.nodup_cons]at hn;exact hn.1 (this▸hj)
    ·simp[h1]
  ·intro p hp;obtain⟨h1,h2⟩:=D.nO p (by rcases List.mem_append.1 hp with h|h<;>simp[h]);rcases List.mem_cons.1 h1 with e|h1
   ·exfalso;have hn:=D.znd;simp only[List.map_append,List.map_cons]at hn;have La:=(List.perm_middle.nodup_iff.1 hn);rw[List.nodup_cons]at La;refine La.1 ?_;rw[<-e];rcases List.mem_append.1 hp with h|h
    ·exact List.mem_append_left _ (List.mem_map.2 ⟨p,h,rfl⟩)
    ·exact List.mem_append_right _ (List.mem_map.2 ⟨p,h,rfl⟩)
   ·exact⟨h1,h2⟩
  ·have hn:=D.znd;simp only[List.map_append,List.map_cons]at hn⊢;have La:=(List.perm_middle.nodup_iff.1 hn);exact(List.nodup_cons.1 La).2
  ·refine D.S.perm ?_;rw[aY _ _ _ _ D.hl,a_ _ _ hq.2.1];simp only[lits,aW,IQ hzt (ids++[b])];rw[List.append_assoc];refine List.Perm.append_left _ ?_;simp only[List.map_append,List.map_cons,List.cons_append,List.nil_append,List.append_assoc];exact(sS List.perm_middle ch).trans (oJ _ _ ch).symm
end DI
end
end Vx
namespace Vx
open Go Go.RowKit Go.BigFrame Sx
variable{G:Type} [Bl G]
def uK (q:Nat->Bool) (call:gv G):Prop:=∀f,q f=true->∀args bl ch K,call f args bl ch K->call f args bl ch λv bl' ch'=>K v bl' ch'/\∃e,bl'=bl++e
section
variable{C:Ctx G} {call:gv G} {q:Nat->Bool} {l:List Oper} {pm:List Nat} {R:List aC} {ms:List Nat} {w0:World} {k:wQ G} {jf fr:List V} {dZ:List Nat}
 {bV rest:List Nat} {ids:List Nat} {bl:List VB} {ch:List G} {Z:List (Nat×aC)} {listed:Array Bool} {a:Act} {w:World} {Q:Exit->Act->World->Prop}
theorem Bm (hq:uK q call) {o:Oper} (ho:kr q o=true) {k:wQ G} (h:k8 C call o fr bl ch k):k8 C call o fr bl ch λfr' bl' ch'=>k fr' bl' ch'/\∃e,bl'=bl++e:=by
 unfold k8 at h⊢;split at h
 ·rename_i t x e;simp[kr,e]at ho
 ·rename_i t x y e;simp[kr,e]at ho
 ·rename_i op h1 h2;split at h
  ·exact⟨h.1,h.2,[],by simp⟩
  split at h
  ·exact⟨h,[],by simp⟩
  ·split at h
   ·cases hb:cK bl.length fr&&(ez bl.length bl&&cK bl.length _)with
    |false=>rw[hb]at h;exact h.elim
    |true=>rw[hb]at h;exact⟨h,_,rfl⟩
   ·split at h
    ·rename_i f args hc;cases hb:cK bl.length fr with
     |false=>rw[hb]at h;exact h.elim
     |true=>
      rw[hb]at h;have hqf:q f=true:=by
       unfold kr at ho;unfold callee at hc;split at ho
       ·rename_i e;simp[e]at hc
       ·rename_i e;simp[e]at hc
       ·rename_i g a1 a2 e;rw[e]at hc;simp only[ev]at hc;cases hk:okF C.P g with
        |false=>rw[hk]at hc;simp at hc
        |true=>
         rw[hk]at hc;simp only[cond_true,Option.some.injEq,Prod.mk.injEq]at hc;rw[<-hc.1];exact ho
       ·cases ho
      exact hq f hqf _ _ _ _ h
    ·cases hk:k7 o.op with
     |false=>rw[hk]at h;exact h.elim
     |true=>
      exfalso;unfold kr at ho;unfold k7 at hk;split at hk<;>simp_all
namespace DI
theorem Sv {i:Nat} {r:List Nat} (D:DI C call q l pm R ms w0 k jf dZ bV (i::r) fr ids bl ch Z listed a w) (hx:xw (aJ l i)=true) (hp:∀h,nt pm h i=true->listed[h]?=some true) {x:V} {more:List Nat} {bl':List VB} {ch':List G} {w':World}
 (fW:tf C call l.toArray (Rt l r) (put fr (aJ l i).dst x) bl' ch' k) (hl:(ids++more).length=bl'.length) (S:St ms w0 (lits (ids++more) (ids++more) bl'++ak ch' (Z.map (·.2)++R)) w') (hw:more=[]\/cK ids.length fr=true) (hq:kr q (aJ l i)=true->∃e,bl'=bl++e):
 DI C call q l pm R ms w0 k jf dZ (bV++[i]) r (put fr (aJ l i).dst x) (ids++more) bl' ch' Z (listed.setIfInBounds i true) (a.put (aJ l i).dst (den (ids++more) x)) w':=by
 have mP:(bV++[i])++r=bV++(i::r):=by simp
 have hA:n_ (aJ l i)=false:=by rcases gG (aJ l i)with h|h|h<;>simp_all
 have hu:listed[i]?=some false:=D.mj i (by simp) hA;have ho:=D.at_ (i:=i) (by simp);have WS:=(mO D.oI ho).1;have rA:i<listed.size:=by rw[D.ls];exact D.Bg i (by simp)
 have sg:=λj b=>yQ (listed:=listed) (j:=j) (b:=b) rA;have np:=λt=>yP (fr:=fr) (x:=x) t WS;have yp:=uI (a:=a) (v:=den (ids++more) x) (d:=(aJ l i).dst) (λu hu=>by rw[D.sz];exact WS u hu);have Sr:∀{j},j∈bV->j≠i:=λhj e=>D.apart hj (by rw[e];simp);have hnr:∀{j},j∈r->j≠i:=λhj e=>by
  have hn:=(List.nodup_append.1 D.nd).2.1;rw[List.nodup_cons]at hn;exact hn.1 (e▸hj)
 have dn:∀u,den (ids++more) (nth fr u)=den ids (nth fr u):=λu=>by
  rcases hw with rfl|hw
  ·simp
  ·exact bR _ (uJ u hw)
 refine{D with gw:=by rw[mP];exact D.gw,Sj:=?_,Be:=by rw[mP];exact D.Be,Bg:=by rw[mP];exact D.Bg,nd:=by rw[mP];exact D.nd,oI:=by rw[nx];exact D.oI,Sk:=by rw[mP];exact D.Sk,ls:=by simpa using D.ls,KO:=?_,mj:=?_,back:=?_,vc:=fW,sz:=by rw[nx,size_put];exact D.sz,df:=by rw[gi];exact D.df,slot:=?_,old:=?_,uF:=?_,recs:=?_,KR:=?_,nO:=?_,S:=S,hl:=hl,gl:=D.gl.app _,Yy:=gH (by simp) _ D.Yy,idp:=by obtain⟨m,e⟩:=D.idp;exact⟨m++more,by rw[e,List.append_assoc]⟩}
 ·have:=D.Sj;simp only[WQ,Bool.and_eq_true]at this;exact this.2
 ·intro j hj Ss;refine(sg _ _).2 ?_;rcases List.mem_append.1 hj with hj|hj
  ·exact .inr ⟨Sr hj,D.KO j hj Ss⟩
  ·exact .inl ⟨by simpa using hj,rfl⟩
 ·intro j hj Ss;exact(sg _ _).2 (.inr ⟨hnr hj,D.mj j (by simp[hj]) Ss⟩)
 ·intro j hj h hb;refine(sg _ _).2 ?_;rcases(sg _ _).1 hj with⟨rfl,_⟩|⟨fc,hj⟩
  ·by_cases e:h=j
   ·exact .inl ⟨e,rfl⟩
   ·exact .inr ⟨e,hp h hb⟩
  ·by_cases e:h=i
   ·exact .inl ⟨e,rfl⟩
   ·exact .inr ⟨e,D.back j hj h hb⟩
 ·intro t h1 h2;by_cases e:(aJ l i).dst=some t
  ·rw[(yp t).1 e,(np t).1 e]
  ·rw[(yp t).2 e,(np t).2 e,dn];refine D.slot t ?_ ?_
   ·intro j hj hd;rcases(sg _ _).1 (h1 j (by simp[hj]) hd)with⟨h,_⟩|⟨_,h⟩
    ·exact absurd h (Sr hj)
    ·exact h
   ·intro j hj hd;rcases List.mem_cons.1 hj with rfl|hj
    ·exact absurd hd e
    ·rcases(sg _ _).1 (h2 j hj hd)with⟨_,h⟩|⟨_,h⟩
     ·cases h
     ·exact h
 ·intro j hj jx t ht;rcases(sg _ _).1 jx with⟨_,h⟩|⟨fc,h⟩
  ·cases h
  ·rcases List.mem_append.1 hj with hj|hj
   ·rw[(yp t).2 (λe=>fc (D.uniq ht e)),bR _ (uJ t D.Yy)];exact D.old j hj h t ht
   ·exact absurd (by simpa using hj) fc
 ·intro t h;rw[(np t).2 (h i (by simp))];exact D.uF t (λj hj=>h j (by simp[hj]))
 ·intro j hj jx;rcases(sg _ _).1 jx with⟨_,h⟩|⟨fc,h⟩
  ·cases h
  ·rcases List.mem_append.1 hj with hj|hj
   ·obtain⟨uD,v',b',rr⟩:=D.recs j hj h;have P:=D.ahead hj (show i∈i::r by simp);refine⟨uD,v',b',rr.frame ?_ ?_ ?_⟩
    ·intro t ht h hd Ea;refine(np t).2 (λe=>?_);have:=P.nb;rw[D.uniq hd e]at Ea;rw[Ea]at this;cases this
    ·intro d hd;exact(np d).2 (λe=>Sr hj (D.uniq hd e))
    ·intro t y v wP hld;rcases P.ld hx (by simp[Yx,wP])with hb|hb
     ·have:=hp j hb;rw[h]at this;cases this
     ·obtain⟨e,rfl⟩:=hq hb;exact GM hld
   ·exact absurd (by simpa using hj) fc
 ·intro j hj jx;rcases(sg _ _).1 jx with⟨h,_⟩|⟨fc,h⟩
  ·exact absurd h (hnr hj)
  ·obtain⟨b,t,z,d,h1,h2,h3,h4,h5⟩:=D.KR j (by simp[hj]) h;exact⟨b,t,z,d,h1,h2,h3,h4,by rw[(yp d).2 (λe=>fc (D.uniq h4 e))];exact h5⟩
 ·intro p hp';obtain⟨h1,h2⟩:=D.nO p hp';rcases List.mem_cons.1 h1 with e|h1
  ·rw[e,hu]at h2;cases h2
  ·exact⟨h1,(sg _ _).2 (.inr ⟨hnr h1,h2⟩)⟩
theorem Bn:∀(r:List Nat) {bV:List Nat} {fr:List V} {ids:List Nat} {bl:List VB} {Z:List (Nat×aC)} {i:Nat},DI C call q l pm R ms w0 k jf dZ bV r fr ids bl ch Z listed a w->jE l r=some i->(∀h,nt pm h i=true->listed[h]?=some true)->
 ∃pW r' fr' ids' bl' Z',DI C call q l pm R ms w0 k jf dZ pW (i::r') fr' ids' bl' ch Z' listed a w
 |[],_,_,_,_,_,_,_,h,_=>by simp[jE]at h
 |j::r,bV,fr,ids,bl,Z,i,D,h,hp=>by
  have IS:=D.Sj;simp only[WQ,Bool.and_eq_true]at IS;unfold jE at h;cases hA:n_ (aJ l j)with
  |false=>
   rw[hA]at h;obtain rfl:j=i:=by simpa using h
   exact⟨bV,r,fr,ids,bl,Z,D⟩
  |true=>
   rw[hA]at h IS;simp only[cond_true]at h IS;rw[h]at IS;simp only[Bool.and_eq_true]at IS;obtain⟨fr',ids',bl',Z',D'⟩:=D.Su hA (hp j IS.1.2);exact Bn r D' h hp
theorem xz (D:DI C call q l pm R ms w0 k jf dZ bV rest fr ids bl ch Z listed a w) (h:rest=[]\/∃i s,rest=i::s/\wF (aJ l i)=false):rest=[]\/∃x,jE l rest=some x/\x∈rest/\xw (aJ l x)=true:=by
 rcases h with h|⟨i,s,rfl,hf⟩
 ·exact .inl h
 ·refine .inr ?_;have nm:∀(r:List Nat) x,jE l r=some x->x∈r:=by
   intro r;induction r with
   |nil=>intro x h;simp[jE]at h
   |cons y r ih=>
    intro x h;unfold jE at h;cases hA:n_ (aJ l y)with
    |true=>rw[hA]at h;exact List.mem_cons_of_mem _ (ih x h)
    |false=>rw[hA]at h;simp at h;simp[h]
  rcases gG (aJ l i)with⟨h1,h2,h3⟩|⟨h1,h2,h3⟩|⟨h1,h2,h3⟩
  ·rw[hf]at h1;cases h1
  ·have IS:=D.Sj;simp only[WQ,Bool.and_eq_true,h2,cond_true]at IS;cases hn:jE l s with
   |none=>rw[hn]at IS;simp at IS
   |some x=>
    rw[hn]at IS;simp only[Bool.and_eq_true]at IS;exact⟨x,by unfold jE;rw[h2];exact hn,List.mem_cons_of_mem _ (nm s x hn),IS.1.1⟩
  ·exact⟨i,by unfold jE;rw[h2];rfl,by simp,h3⟩
end DI
end
section
variable{C:Ctx G} {call:gv G} {q:Nat->Bool} {l:List Oper} {pm:List Nat} {R:List aC} {ms:List Nat} {w0:World} {k:wQ G} {jf fr:List V} {dZ:List Nat}
 {bV rest:List Nat} {ids:List Nat} {bl:List VB} {ch:List G} {Z:List (Nat×aC)} {listed:Array Bool} {a:Act} {w:World} {Q:Exit->Act->World->Prop}
namespace DI
theorem first (h:eF (lN q l pm) rest=true) {x:Nat} (hn:jE l rest=some x):∀i∈rest,n_ (aJ l i)=false->i=x\/Mh q l pm x i:=by
 induction rest with
 |nil=>simp[jE]at hn
 |cons y r ih=>
  intro i hi ha;simp only[eF,Bool.and_eq_true,List.all_eq_true]at h;unfold jE at hn;cases hA:n_ (aJ l y)with
  |true=>
   rw[hA]at hn;rcases List.mem_cons.1 hi with rfl|hi
   ·rw[hA]at ha;cases ha
   ·exact ih h.2 hn i hi ha
  |false=>
   rw[hA]at hn;obtain rfl:y=x:=by simpa using hn
   rcases List.mem_cons.1 hi with e|hi
   ·exact .inl e
   ·exact .inr (mN (h.1 i hi))
theorem mR (h:j_ l l.length=true) {i:Nat} {o:Oper} (ho:l[i]?=some o) {e:Edge} (he:e∈o.after) (hb:Region.binds .any e=true):e.on<l.length:=by
 have h1:=List.all_eq_true.1 h o (List.mem_of_getElem? ho);have h2:=Array.all_eq_true_iff_forall_mem.1 h1 e he;rw[hb]at h2;simpa[Nat.blt_eq]using h2
theorem stuck (D:DI C call q l pm R ms w0 k jf dZ bV rest fr ids bl ch Z listed a w) (hpm:wR l pm=true) (dA:j_ l l.length=true) (hr:Region.ready .any l.toArray listed=[]):
 ∀(b c:List Nat),bV++rest=c++b->(∀i∈c,listed[i]?=some true)->∀i∈b,listed[i]?=some true:=by
 intro b;induction b with
 |nil=>intro c _ _ i hi;cases hi
 |cons x b ih=>
  intro c hc hl;have hx:x∈bV++rest:=by rw[hc];simp
  have h1:listed[x]?=some true:=by
   rcases D.bit hx with h|h
   ·exact h
   ·exfalso;have ho:=D.at_ hx;have hm:x∈Region.ready .any l.toArray listed:=(dV _ listed x).2 ⟨aJ l x,ho,by simp[Array.getD_eq_getD_getElem?,h],λe he hb=>by
     have im:=mR dA ho he hb;have Ea:nt pm e.on x=true:=by
      unfold nt;rw[WR hpm ho];exact(tH pm _ _).2 ⟨e,by simpa using he,hb,.inl rfl⟩
     have hem:=D.Be e.on im;rw[hc]at hem;have hle:listed[e.on]?=some true:=by
      rcases List.mem_append.1 hem with hm|hm
      ·exact hl _ hm
      ·exfalso;rcases List.mem_cons.1 hm with h2|h2
       ·have:=D.Sk x hx;rw[h2,this]at Ea;cases Ea
       ·have hp:=D.gw;rw[hc]at hp;have:=(gk hp).2.2;simp only[eF,Bool.and_eq_true,List.all_eq_true]at this;have:=(mN (this.1 _ h2)).nb;rw[Ea]at this;cases this
     simp[Array.getD_eq_getD_getElem?,hle]⟩
    rw[hr]at hm;cases hm
  intro i hi;rcases List.mem_cons.1 hi with rfl|hi
  ·exact h1
  ·refine ih (c++[x]) (by rw[hc];simp) (λj hj=>?_) i hi;rcases List.mem_append.1 hj with hj|hj
   ·exact hl j hj
   ·obtain rfl:j=x:=by simpa using hj
    exact h1
theorem fin (D:DI C call q l pm R ms w0 k jf dZ bV rest fr ids bl ch Z listed a w) (hh:rest=[]\/∃i s,rest=i::s/\wF (aJ l i)=false) (dc:∀i,i<l.length->listed[i]?=some true):
 k fr bl ch/\a=act ids fr/\St ms w0 (lits ids ids bl++ak ch R) w:=by
 rcases D.xz hh with rfl|⟨x,hx,hm,hX⟩
 ·have hZ:Z=[]:=by
   cases Z with
   |nil=>rfl
   |cons p Z=>have:=(D.nO p (by simp)).1;cases this
  refine⟨D.vc,?_,by have:=D.S;rw[hZ]at this;simpa using this⟩;refine yn (by rw[D.sz];simp[act,j7]) (by rw[D.df];rfl) ?_;intro t;rw[yN];exact D.slot t (λi hi _=>dc i (D.Bg i (by simp[hi]))) (λi hi=>nomatch hi)
 ·have h1:n_ (aJ l x)=false:=by rcases gG (aJ l x)with h|h|h<;>simp_all
  have:=D.mj x hm h1;rw[dc x (D.Bg x (by simp[hm]))]at this;cases this
end DI
theorem kQ (hc:rI C.P C.gl call) (Yz:uK q call) (hpm:wR l pm=true) (dA:j_ l l.length=true)
 (hk:∀fr' m bl' ch' w',(dZ++m).length=bl'.length->St ms w0 (lits (dZ++m) (dZ++m) bl'++ak ch' R) w'->k fr' bl' ch'->Q .normal (act (dZ++m) fr') w'):
 ∀(fuel:Nat) {bV rest:List Nat} {fr:List V} {ids:List Nat} {bl:List VB} {ch:List G} {Z:List (Nat×aC)} {listed:Array Bool} {a:Act} {w:World},
  DI C call q l pm R ms w0 k jf dZ bV rest fr ids bl ch Z listed a w->(rest=[]\/∃i s,rest=i::s/\wF (aJ l i)=false)->listed.toList.count false=fuel->wpAny C.P .any l.toArray Q fuel listed a w:=by
 have fin:∀{bV rest:List Nat} {fr:List V} {ids:List Nat} {bl:List VB} {ch:List G} {Z:List (Nat×aC)} {listed:Array Bool} {a:Act} {w:World},
  DI C call q l pm R ms w0 k jf dZ bV rest fr ids bl ch Z listed a w->(rest=[]\/∃i s,rest=i::s/\wF (aJ l i)=false)->(∀i,i<l.length->listed[i]?=some true)->Q .normal a w:=by
  intro bV rest fr ids bl ch Z listed a w D hh dc;obtain⟨h1,rfl,h3⟩:=D.fin hh dc;obtain⟨m,rfl⟩:=D.idp;exact hk _ _ _ _ _ D.hl h3 h1
 intro fuel;induction fuel with
 |zero=>
  intro bV rest fr ids bl ch Z listed a w D hh Mk;have dc:∀i,i<l.length->listed[i]?=some true:=by
   intro i hi;rcases dU D.ls hi with h|h
   ·exact h
   ·exfalso;have:=count_set listed.toList i (by simpa using h);omega
  refine⟨?_,fin D hh dc⟩;refine List.eq_nil_iff_forall_not_mem.2 λi hi=>?_;obtain⟨o,ho,h2,_⟩:=(dV l listed i).1 hi;have rA:i<l.length:=by rcases Nat.lt_or_ge i l.length with h|h;exact h;simp[h]at ho
  simp[Array.getD_eq_getD_getElem?,dc i rA]at h2
 |succ fuel ih=>
  intro bV rest fr ids bl ch Z listed a w D hh Mk;refine⟨λhr=>?_,?_⟩
  ·exfalso;have dc:∀i,i<l.length->listed[i]?=some true:=λi hi=>D.stuck hpm dA hr (bV++rest) [] rfl (λ_ h=>nomatch h) i (D.Be i hi);have:=ni listed.toList l.length 0 (by simpa using D.ls) (λj hj=>by simpa using dc j hj);omega
  ·intro i hi;obtain⟨o,ho,h2,h3⟩:=(dV l listed i).1 hi;have rA:i<l.length:=by rcases Nat.lt_or_ge i l.length with h|h;exact h;simp[h]at ho
   have AY:=XP ho;have hu:listed[i]?=some false:=by
    rcases dU D.ls rA with hb|hb
    ·simp[Array.getD_eq_getD_getElem?,hb]at h2
    ·exact hb
   have hp:∀h,nt pm h i=true->listed[h]?=some true:=by
    intro h hb;obtain⟨e,he,hbd,GN⟩:=xy hpm ho hb;have im:=DI.mR dA ho he hbd;have hl:listed[e.on]?=some true:=by
     have:=h3 e he hbd;rcases dU D.ls (show e.on<l.length by omega)with hb|hb
     ·exact hb
     ·simp[Array.getD_eq_getD_getElem?,hb]at this
    rcases GN with rfl|GN
    ·exact hl
    ·exact D.back _ hl h GN
   have uL:(listed.setIfInBounds i true).toList.count false=fuel:=by
    have:=count_set listed.toList i (by simpa using hu);simp only[Array.toList_setIfInBounds];omega
   have Eb:=mO D.oI ho;have hAt:l.toArray[i]?=some o:=by simpa using ho
   unfold wpOp;rw[hAt];simp only;have hm:=D.Be i rA;rcases List.mem_append.1 hm with hm|hm
   ·obtain⟨uD,v,b,r⟩:=D.recs i hm hu;have AQ:=D.uH hm hu hp r;unfold looks at AQ;have D':=D.did hm hu hp r;have rg:=r.g;have re:=r.e;rw[AY]at AQ D' rg re;rw[lO AQ rg];cases b with
    |true=>
     rw[if_pos rfl]at re;rw[if_pos rfl];refine .inl ?_;unfold Oper.wp;rw[jF Eb.2.1 AQ,yO D.gl D.hl D.S re];simp only[Oper.upon_value];exact ih D' hh uL
    |false=>
     rw[if_neg (by simp)]at re;rw[if_neg (by simp)];subst re;rw[show(undef:Value)=den ids cG by simp[cG,den]];exact ih D' hh uL
   ·rcases D.xz hh with rfl|⟨x,hx,hxm,hX⟩
    ·cases hm
    have hxA:n_ (aJ l x)=false:=by rcases gG (aJ l x)with h|h|h<;>simp_all
    have hxu:=D.mj x hxm hxA;have YA:=DI.first (gk D.gw).2.2 hx;cases hA:n_ (aJ l i)with
    |true=>
     obtain⟨WN,d,t,z,hd,wP,hz⟩:=Eb.2.2 (by rw[<-AY];exact hA);have D':=D.Sl hm hu hp (by rw[AY];exact wP) hz (by rw[AY];exact hd);rw[AY]at D';rw[if_pos (by simp[Region.wanted,WN])];refine .inl ?_;have bO:(execOp a.eval o).run C.P w=.ok (.value (.pointer (some ⟨w.heap.size,0,none⟩))) (w.alloc (.cells (ai [] z).toArray t)):=by
      obtain⟨v0,z1,z2⟩:=kZ (P:=C.P) (w:=w) (ids:=[]) hz;have Yq:v0.cells=(ai [] z).toArray:=by apply Array.ext';simpa using z2
      unfold execOp;simp only[wP,Instr.alloc,Sem.run_bind,z1,Result.andThen_ok,newVar,newRow,Yq];rfl
     unfold Oper.wp;rw[bO];simp only[Oper.upon_value];exact ih D' hh uL
    |false=>
     have rH:i=x:=by
      rcases YA i hm hA with h|h
      ·exact h
      ·have:=hp x (h.xj hX hA);rw[hxu]at this;cases this
     subst rH;obtain⟨pW,r',fr',ids',bl',Z',D1⟩:=D.Bn rest hx hp;have AQ:=D1.IP rfl hu hp;unfold looks at AQ;obtain⟨b,hg,hb⟩:=Bj D1.vc;rw[AY]at AQ hg hb;rw[lO AQ hg];have nxt:∀{x:V} {more:List Nat} {bl2:List VB} {ch2:List G} {w':World},tf C call l.toArray (Rt l r') (put fr' o.dst x) bl2 ch2 k->(ids'++more).length=bl2.length->St ms w0 (lits (ids'++more) (ids'++more) bl2++ak ch2 (Z'.map (·.2)++R)) w'->
      (more=[]\/cK ids'.length fr'=true)->(kr q o=true->∃e,bl2=bl'++e)->wpAny C.P .any l.toArray Q fuel (listed.setIfInBounds i true) (a.put o.dst (den (ids'++more) x)) w':=by
      intro x more bl2 ch2 w' g1 g2 g3 g4 g5;have D2:=D1.Sv hX hp (x:=x) (more:=more) (by rw[AY];exact g1) g2 g3 g4 (by rw[AY];exact g5);rw[AY]at D2;obtain⟨ahZ,r3,fr3,D3,hh3⟩:=D2.mQ r';exact ih D3 hh3 uL
     cases b with
     |true=>
      rw[if_pos rfl]at hb;rw[if_pos rfl];refine .inl ?_;cases hqo:kr q o with
      |true=>
       refine uA hc D1.gl D1.hl D1.S (Bm Yz hqo hb) (jF Eb.2.1 AQ) ?_;intro x more bl2 ch2 w' g1 g2 g3 g4;exact nxt g3.1 g1 g2 g4 (λ_=>g3.2)
      |false=>
       refine uA hc D1.gl D1.hl D1.S hb (jF Eb.2.1 AQ) ?_;intro x more bl2 ch2 w' g1 g2 g3 g4;exact nxt g3 g1 g2 g4 (λe=>by rw[hqo]at e;cases e)
     |false=>
      rw[if_neg (by simp)]at hb;rw[if_neg (by simp)];have:=nxt (x:=cG) (more:=[]) (bl2:=bl') (ch2:=ch) (w':=w) hb (by simpa using D1.hl) (by simpa using D1.S) (.inl rfl) (λ_=>⟨[],by simp⟩);simpa[cG,den]using this
theorem nz {i j:Nat} (m:Nat):(eL l i j)[m]?=(l[m]?).map λo=>if m=j then upE i o else o:=by
 unfold eL;split
 ·rename_i o ho;have hj:j<l.length:=by rcases Nat.lt_or_ge j l.length with h|h;exact h;simp[h]at ho
  by_cases e:m=j
  ·subst e;simp[hj,ho];have:l[m]?=some o:=ho;rw[List.getElem?_eq_getElem hj]at this;rw[Option.some.inj this]
  ·rw[List.getElem?_set_ne (λh=>e h.symm)];cases l[m]?<;>simp[e]
 ·rename_i ho;by_cases e:m=j
  ·subst e;rw[ho];rfl
  ·cases l[m]?<;>simp[e]
theorem pZ {i j:Nat}:(eL l i j).length=l.length:=by unfold eL;split<;>simp
theorem GO {i j m:Nat} (h:m≠j):aJ (eL l i j) m=aJ l m:=by
 unfold aJ;rw[nz];cases l[m]?<;>simp[h]
theorem Bo {i j m:Nat} (h:m∈Region.ready .any (eL l i j).toArray listed):m∈Region.ready .any l.toArray listed:=by
 obtain⟨o,ho,h2,h3⟩:=(dV _ _ _).1 h;rw[nz]at ho;obtain⟨o',wL,e⟩:=Option.map_eq_some_iff.1 ho;refine(dV _ _ _).2 ⟨o',wL,h2,λe' he hb=>h3 e' ?_ hb⟩;subst e;split
 ·simp[upE,he]
 ·exact he
theorem nA {i j m:Nat} (hm:m≠j\/listed[i]?=some true) (h:m∈Region.ready .any l.toArray listed):m∈Region.ready .any (eL l i j).toArray listed:=by
 obtain⟨o,ho,h2,h3⟩:=(dV _ _ _).1 h;refine(dV _ _ _).2 ⟨_,by rw[nz,ho];rfl,h2,λe he hb=>?_⟩;split at he
 ·rename_i e1;simp only[upE,Array.mem_push]at he;rcases he with he|rfl
  ·exact h3 e he hb
  ·rcases hm with hm|hm
   ·exact absurd e1 hm
   ·simp[Array.getD_eq_getD_getElem?,hm]
 ·exact h3 e he hb
theorem Ml {i j:Nat} (ts:Array Value):yielded (eL l i j).toArray ts=yielded l.toArray ts:=by
 funext n;have:((eL l i j).toArray[n]?).bind (·.dst)=(l.toArray[n]?).bind (·.dst):=by
  simp only[List.getElem?_toArray,nz];cases l[n]?with
  |none=>rfl
  |some o=>simp only[Option.map_some,Option.bind_some];split<;>rfl
 unfold yielded;rw[this]
theorem yR {P:Program} {i j m:Nat} {K:Act->World->Prop} (h:wpOp P (eL l i j).toArray Q m K a w):wpOp P l.toArray Q m K a w:=by
 unfold wpOp at h⊢;simp only[List.getElem?_toArray,nz,Ml]at h⊢;cases ho:l[m]?with
 |none=>rw[ho]at h;exact h
 |some o=>
  rw[ho]at h;simp only[Option.map_some]at h⊢;by_cases e:m=j
  ·rw[if_pos e]at h;cases o;exact h
  ·rw[if_neg e]at h;exact h
theorem Bp {P:Program} {i j:Nat}:∀(fuel:Nat) {listed:Array Bool} {a:Act} {w:World},listed[i]?=some true->wpAny P .any (eL l i j).toArray Q fuel listed a w->wpAny P .any l.toArray Q fuel listed a w:=by
 intro fuel;induction fuel with
 |zero=>intro listed a w hi h;exact⟨List.eq_nil_iff_forall_not_mem.2 λm hm=>(by have:=nA (j:=j) (.inr hi) hm;rw[h.1]at this;cases this),h.2⟩
 |succ fuel ih=>
  intro listed a w hi h;refine⟨λhr=>h.1 (List.eq_nil_iff_forall_not_mem.2 λm hm=>by have:=Bo hm;rw[hr]at this;cases this),λm hm=>?_⟩;refine wpOp_mono (λa w h=>ih ?_ h) (yR (h.2 m (nA (.inr hi) hm)));have hs:i<listed.size:=by rcases Nat.lt_or_ge i listed.size with h|h;exact h;simp[h]at hi
  rw[Array.getElem?_setIfInBounds];split
  ·simp[*]
  ·exact hi
theorem lP {l:List Oper} (h:(l.all λo=>!(n_ o))=true) (m:Nat):n_ (aJ l m)=false:=by
 unfold aJ;split
 ·rename_i o ho;have:=List.all_eq_true.1 h o (List.mem_of_getElem? ho);simpa using this
 ·rfl
theorem IT {i j:Nat} {Rv Rw:List Nat} (hc:rI C.P C.gl call) (Yz:uK q call) (KE:i≠j) (acz:wR (eL l i j) Rv=true) (acA:j_ (eL l i j) (eL l i j).length=true) (acB:wR (eL l j i) Rw=true) (acC:j_ (eL l j i) (eL l j i).length=true)
 (hA1:((eL l i j).all λo=>!(n_ o))=true) (hA2:((eL l j i).all λo=>!(n_ o))=true)
 (hk:∀fr' m bl' ch' w',(dZ++m).length=bl'.length->St ms w0 (lits (dZ++m) (dZ++m) bl'++ak ch' R) w'->k fr' bl' ch'->Q .normal (act (dZ++m) fr') w'):
 ∀(fuel:Nat) {Mm s1 Mn s2:List Nat} {fr1 Rs:List V} {listed:Array Bool} {a:Act} {w:World},
  DI C call q (eL l i j) Rv R ms w0 k jf dZ Mm (i::s1) fr1 ids bl ch Z listed a w->wF (aJ (eL l i j) i)=false->DI C call q (eL l j i) Rw R ms w0 k jf dZ Mn (j::s2) Rs ids bl ch Z listed a w->wF (aJ (eL l j i) j)=false->
  listed.toList.count false=fuel->wpAny C.P .any l.toArray Q fuel listed a w:=by
 intro fuel;induction fuel with
 |zero=>
  intro Mm s1 Mn s2 fr1 Rs listed a w D1 YB D2 YC Mk;exfalso;have hu:=D1.mj i (by simp) (lP hA1 i);have:=count_set listed.toList i (by simpa using hu);omega
 |succ fuel ih=>
  intro Mm s1 Mn s2 fr1 Rs listed a w D1 YB D2 YC Mk;have W1:=kQ hc Yz acz acA hk (fuel+1) D1 (.inr ⟨i,s1,rfl,YB⟩) Mk;have W2:=kQ hc Yz acB acC hk (fuel+1) D2 (.inr ⟨j,s2,rfl,YC⟩) Mk;have hX1:xw (aJ (eL l i j) i)=true:=by have:=lP hA1 i;rcases gG (aJ (eL l i j) i)with h|h|h<;>simp_all
  have hX2:xw (aJ (eL l j i) j)=true:=by have:=lP hA2 j;rcases gG (aJ (eL l j i) j)with h|h|h<;>simp_all
  have hui:=D1.mj i (by simp) (lP hA1 i);have huj:=D2.mj j (by simp) (lP hA2 j);have A7:∀{m:Nat},listed[m]?=some false->(listed.setIfInBounds m true)[m]?=some true:=λ{m} h=>by
   have hs:m<listed.size:=by rcases Nat.lt_or_ge m listed.size with h'|h';exact h';simp[h']at h
   simp[hs]
  refine⟨λhr=>W1.1 (List.eq_nil_iff_forall_not_mem.2 λm hm=>by have:=Bo hm;rw[hr]at this;cases this),λm hm=>?_⟩;by_cases e1:m=i
  ·subst e1;exact wpOp_mono (λa w h=>Bp fuel (A7 hui) h) (yR (W1.2 m (nA (.inl KE) hm)))
  by_cases e2:m=j
  ·subst e2;exact wpOp_mono (λa w h=>Bp fuel (A7 huj) h) (yR (W2.2 m (nA (.inl (λh=>KE h.symm)) hm)))
  obtain⟨o,ho,h2,_⟩:=(dV l listed m).1 hm;have Ix:m<l.length:=by rcases Nat.lt_or_ge m l.length with h|h;exact h;simp[h]at ho
  have hu:listed[m]?=some false:=by
   rcases D1.bit (D1.Be m (by rw[pZ];exact Ix))with hb|hb
   ·simp[Array.getD_eq_getD_getElem?,hb]at h2
   ·exact hb
  have WU:∀{l':List Oper} {WV:List Nat},wR l' WV=true->j_ l' l'.length=true->m∈Region.ready .any l'.toArray listed->(∀jj,listed[jj]?=some true->∀h,nt WV h jj=true->listed[h]?=some true)->listed.size=l'.length->∀h,nt WV h m=true->listed[h]?=some true:=by
   intro l' WV hpm RV LU back hls h hb;obtain⟨o',wL,_,h3⟩:=(dV l' listed m).1 LU;obtain⟨e,he,hbd,GN⟩:=xy hpm wL hb;have im:=DI.mR RV wL he hbd;have hl:listed[e.on]?=some true:=by
    have:=h3 e he hbd;rcases dU hls im with hb|hb
    ·exact hb
    ·simp[Array.getD_eq_getD_getElem?,hb]at this
   rcases GN with rfl|GN
   ·exact hl
   ·exact back _ hl h GN
  have hp1:=WU acz acA (nA (.inl e2) hm) D1.back D1.ls;have KU:=WU acB acC (nA (.inl e1) hm) D2.back D2.ls;have inA:∀{l':List Oper} {WV s pW:List Nat} {x:Nat},eF (lN q l' WV) (pW++(x::s))=true->xw (aJ l' x)=true->n_ (aJ l' m)=false->listed[x]?=some false->(∀h,nt WV h m=true->listed[h]?=some true)->m∈pW++(x::s)->m≠x->m∈pW:=by
   intro l' WV s pW x hp hx ha hux hpp hmm fc;rcases List.mem_append.1 hmm with h|h
   ·exact h
   ·exfalso;rcases List.mem_cons.1 h with h|h
    ·exact fc h
    ·have Mo:=(gk hp).2.2;simp only[eF,Bool.and_eq_true,List.all_eq_true]at Mo;have:=hpp x ((mN (Mo.1 m h)).xj hx ha);rw[hux]at this;cases this
  have m1:=inA D1.gw hX1 (lP hA1 m) hui hp1 (D1.Be m (by rw[pZ];exact Ix)) e1;have m2:=inA D2.gw hX2 (lP hA2 m) huj KU (D2.Be m (by rw[pZ];exact Ix)) e2;obtain⟨f1,v1,b1,r1⟩:=D1.recs m m1 hu;obtain⟨f2,v2,b2,r2⟩:=D2.recs m m2 hu;have o1:aJ (eL l i j) m=o:=by rw[GO e2];exact XP ho
  have o2:aJ (eL l j i) m=o:=by rw[GO e1];exact XP ho
  have k1:=D1.uH m1 hu hp1 r1;have k2:=D2.uH m2 hu KU r2;have D1':=D1.did m1 hu hp1 r1;have YD:=D2.did m2 hu KU r2;have g1:=r1.g;have g2:=r2.g;have q1:=r1.e;have q2:=r2.e;unfold looks at k1 k2;rw[o1]at k1 D1' g1 q1;rw[o2]at k2 YD g2 q2;have w1:=lO k1 g1;have w2:=lO k2 g2;rw[Ml]at w1 w2;obtain rfl:b1=b2:=by rw[<-w1,<-w2]
  have Eb:=mO D1.oI (show(eL l i j)[m]?=some o by rw[nz,ho];simp[e2]);have uL:(listed.setIfInBounds m true).toList.count false=fuel:=by
   have:=count_set listed.toList m (by simpa using hu);simp only[Array.toList_setIfInBounds];omega
  unfold wpOp;rw[show l.toArray[m]?=some o by simpa using ho];simp only;rw[w1];cases b1 with
  |true=>
   rw[if_pos rfl]at q1 q2;rw[if_pos rfl];refine .inl ?_;have IU:(execOp a.eval o).run C.P w=.ok (.value (den ids v1)) w:=by rw[jF Eb.2.1 k1,yO D1.gl D1.hl D1.S q1]
   have acD:(execOp a.eval o).run C.P w=.ok (.value (den ids v2)) w:=by rw[jF Eb.2.1 k2,yO D2.gl D2.hl D2.S q2]
   have hv:den ids v2=den ids v1:=by rw[IU]at acD;simpa using acD.symm
   rw[hv]at YD;unfold Oper.wp;rw[IU];simp only[Oper.upon_value];exact ih D1' YB YD YC uL
  |false=>
   rw[if_neg (by simp)]at q1 q2;rw[if_neg (by simp)];subst q1 q2;rw[show(undef:Value)=den ids cG by simp[cG,den]];exact ih D1' YB YD YC uL
end
end Vx
