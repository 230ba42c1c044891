/- Part 6 of the proof. -/
import Derived.Test.YtggfpcggakghnaaGreatDoorQ5
set_option linter.all false
set_option maxRecDepth 100000
set_option maxHeartbeats 4000000
namespace Vx
open Go Go.RowKit Go.BigFrame Sx
variable{G:Type} [Bl G]
structure DI (C:Ctx G) (call:gG G) (q:Nat->Bool) (l:List Oper) (pm:List Nat) (R:List av) (ms:List Nat) (w0:World) (k:yG G) (jv:List V) (eg:List Nat)
 (b9 rest:List Nat) (fr:List V) (ids:List Nat) (bl:List VB) (ch:List G) (Z:List (Nat×av)) (listed:Array Bool) (a:Act) (w:World):Prop where
 gH:eT (lL q l pm) (b9++rest)=true
 WN:fR l pm rest=true
 C0:∀i,i<l.length->i∈b9++rest
 C1:∀i∈b9++rest,i<l.length
 nd:(b9++rest).Nodup
 pg:l.all (Ja C fr.length)=true
 WO:∀i∈b9++rest,nO pm i i=false
 ls:listed.size=l.length
 OH:∀i∈b9,yz (aK l i)=false->listed[i]?=some true
 mE:∀i∈rest,oO (aK l i)=false->listed[i]?=some false
 back:∀j,listed[j]?=some true->∀i,nO pm i j=true->listed[i]?=some true
 vc:uH C call l.toArray (VL l rest) fr bl ch k
 sz:a.tmps.size=fr.length
 df:a.defers=[]
 slot:∀t,(∀i∈b9,(aK l i).dst=some t->listed[i]?=some true)->(∀i∈rest,(aK l i).dst=some t->listed[i]?=some false)->fI a t=den ids (nth fr t)
 old:∀i∈b9,listed[i]?=some false->∀t,(aK l i).dst=some t->fI a t=den ids (nth jv t)
 we:∀t,(∀i∈b9,(aK l i).dst≠some t)->nth fr t=nth jv t
 recs:∀i∈b9,listed[i]?=some false->∃wb v b,Rec C l pm jv fr bl i wb v b
 OI:∀i∈rest,listed[i]?=some true->∃b t z d,(i,(⟨b,true,.cells (ab [] z).toArray t (0,0)⟩:av))∈Z/\(aK l i).op=.alloc t/\jo C.P t=some z/\(aK l i).dst=some d/\fI a d=.pointer (some ⟨b,0,none⟩)
 oB:∀p∈Z,p.1∈rest/\listed[p.1]?=some true
 SL:(Z.map (·.1)).Nodup
 S:St ms w0 (lits ids ids bl++af ch (Z.map (·.2)++R)) w
 hl:ids.length=bl.length
 gl:Gl C.gl ids
 EG:cH ids.length jv=true
 SN:∃m,ids=eg++m
section
variable{C:Ctx G} {call:gG G} {q:Nat->Bool} {l:List Oper} {pm:List Nat} {R:List av} {ms:List Nat} {w0:World} {k:yG G} {jv fr:List V} {eg:List Nat}
 {b9 rest:List Nat} {ids:List Nat} {bl:List VB} {ch:List G} {Z:List (Nat×av)} {listed:Array Bool} {a:Act} {w:World} {Q:Exit->Act->World->Prop}
theorem C2:∀(fr:List V) (t:Nat) (x:V),(j9 fr t x).length=fr.length
 |[],_,_=>rfl
 |_::_,0,_=>rfl
 |_::l,t+1,x=>by simp[j9,C2 l t x]
theorem nT (d:Option Tmp) (x:V):(put fr d x).length=fr.length:=by cases d<;>simp[put,C2]
theorem wg:∀(fr:List V) (t u:Nat) (x:V),t<fr.length->nth (j9 fr t x) u=if u=t then x else nth fr u
 |[],t,u,x,h=>by simp at h
 |v::l,0,0,x,_=>by simp[j9,nth]
 |v::l,0,u+1,x,_=>by simp[j9,nth]
 |v::l,t+1,0,x,_=>by simp[j9,nth]
 |v::l,t+1,u+1,x,h=>by simp[j9,nth,wg l t u x (by simpa using h)]
theorem Aw {d:Option Tmp} {x:V} (t:Tmp) (hd:∀u,d=some u->u<fr.length):(d=some t->nth (put fr d x) t=x)/\(d≠some t->nth (put fr d x) t=nth fr t):=by
 cases d with
 |none=>exact⟨λh=>(nomatch h),λ_=>rfl⟩
 |some u=>
  refine⟨λh=>?_,λh=>?_⟩
  ·cases h;simp only[put];rw[wg _ _ _ _ (hd _ rfl),if_pos rfl]
  ·simp only[put];rw[wg _ _ _ _ (hd u rfl),if_neg (λe=>h (by rw[e]))]
theorem ng {n:Nat} (h:l.all (Ja C n)=true) {i:Nat} {o:Oper} (ho:l[i]?=some o):(∀t,o.dst=some t->t<n)/\(∀cs b,o.op≠.select cs b)/\
 (oO o=true->o.guard=none/\∃d t z,o.dst=some d/\o.op=.alloc t/\jo C.P t=some z):=by
 have h1:=List.all_eq_true.1 h o (List.mem_of_getElem? ho);unfold Ja at h1;simp only[Bool.and_eq_true]at h1;obtain⟨⟨a1,a2⟩,a3⟩:=h1;refine⟨?_,?_,?_⟩
 ·intro t ht;rw[ht]at a1;rw[Nat.blt_eq]at a1;exact a1
 ·intro cs b e;rw[e]at a2;cases a2
 ·intro ha;rw[ha]at a3;simp only[cond_true]at a3;split at a3
  ·rename_i d t hg hd ho;split at a3
   ·rename_i z hz;exact⟨hg,d,t,z,hd,ho,hz⟩
   ·cases a3
  ·cases a3
namespace DI
theorem at_ (D:DI C call q l pm R ms w0 k jv eg b9 rest fr ids bl ch Z listed a w) {i:Nat} (h:i∈b9++rest):l[i]?=some (aK l i):=by
 have:=D.C1 i h;rw[List.getElem?_eq_getElem this];rw[nR (List.getElem?_eq_getElem this)]
theorem mem_of (D:DI C call q l pm R ms w0 k jv eg b9 rest fr ids bl ch Z listed a w) {i t:Nat} (h:(aK l i).dst=some t):i∈b9++rest:=by
 have:=PG h;exact D.C0 i (by rcases Nat.lt_or_ge i l.length with h'|h';exact h';simp[h']at this)
theorem bit (D:DI C call q l pm R ms w0 k jv eg b9 rest fr ids bl ch Z listed a w) {i:Nat} (h:i∈b9++rest):listed[i]?=some true\/listed[i]?=some false:=d_ D.ls (D.C1 i h)
theorem uniq (D:DI C call q l pm R ms w0 k jv eg b9 rest fr ids bl ch Z listed a w) {i j t:Nat} (hi:(aK l i).dst=some t) (hj:(aK l j).dst=some t):i=j:=by
 refine Classical.byContradiction λe_=>?_;rcases s_ D.gH i (D.mem_of hi) j (D.mem_of hj) e_ with h|h
 ·exact(nf h).ww t hi hj
 ·exact(nf h).ww t hj hi
theorem ahead (D:DI C call q l pm R ms w0 k jv eg b9 rest fr ids bl ch Z listed a w) {i j:Nat} (hi:i∈b9) (hj:j∈rest):PH q l pm i j:=nf ((gu D.gH).1 i hi j hj)
theorem apart (D:DI C call q l pm R ms w0 k jv eg b9 rest fr ids bl ch Z listed a w) {i:Nat} (hi:i∈b9) (hj:i∈rest):False:=(List.nodup_append.1 D.nd).2.2 i hi i hj rfl
theorem wk (D:DI C call q l pm R ms w0 k jv eg b9 rest fr ids bl ch Z listed a w) {i:Nat} (hi:i∈b9) (hu:listed[i]?=some false) (hp:∀h,nO pm h i=true->listed[h]?=some true) {wb:List V} {v:V} {b:Bool}
 (r:Rec C l pm jv fr bl i wb v b):∀t∈looks l i,fI a t=den ids (nth wb t):=by
 intro t ht;by_cases hw:∃h,(aK l h).dst=some t
 ·obtain⟨h,hd⟩:=hw;cases hb:nO pm h i with
  |true=>
   rw[r.w1 t ht h hd hb];refine D.slot t ?_ ?_
   ·intro i' uD nU;rw[D.uniq nU hd];exact hp h hb
   ·intro i' uD nU;have:=(D.ahead hi (D.uniq nU hd▸uD)).nb;rw[hb]at this;cases this
  |false=>
   rw[r.w0 t ht (λh' nU=>by rw[D.uniq nU hd];exact hb)];by_cases he:h=i
   ·subst he;exact D.old h hi hu t hd
   ·have hm:=D.mem_of hd;have hbi:nO pm i h=true:=by
     rcases s_ D.gH h hm i (by simp[hi]) he with p|p
     ·have:=(nf p).wi t hd ht;rw[hb]at this;cases this
     ·exact(nf p).wj t hd ht
    have hun:listed[h]?=some false:=by
     rcases D.bit hm with e|e
     ·have:=D.back h e i hbi;rw[hu]at this;cases this
     ·exact e
    rcases List.mem_append.1 hm with hm|hm
    ·exact D.old h hm hun t hd
    ·rw[<-D.we t (λi' uD nU=>D.apart uD (D.uniq nU hd▸hm))];refine D.slot t ?_ ?_
     ·intro i' uD nU;exact(D.apart uD (D.uniq nU hd▸hm)).elim
     ·intro i' uD nU;rw[D.uniq nU hd];exact hun
 ·rw[r.w0 t ht (λh hd=>(hw ⟨h,hd⟩).elim),<-D.we t (λi' _ nU=>hw ⟨i',nU⟩)];exact D.slot t (λi' _ nU=>(hw ⟨i',nU⟩).elim) (λi' _ nU=>(hw ⟨i',nU⟩).elim)
theorem LZ (D:DI C call q l pm R ms w0 k jv eg b9 rest fr ids bl ch Z listed a w) {i:Nat} {r:List Nat} (hr:rest=i::r) (hu:listed[i]?=some false) (hp:∀h,nO pm h i=true->listed[h]?=some true):
 ∀t∈looks l i,fI a t=den ids (nth fr t):=by
 intro t ht;refine D.slot t ?_ ?_
 ·intro h hh hd;exact hp h ((D.ahead hh (by rw[hr];simp)).wi t hd ht)
 ·intro h hh hd;rcases D.bit (i:=h) (by simp[hh])with e|e
  ·exfalso;rw[hr]at hh;rcases List.mem_cons.1 hh with rfl|hh
   ·rw[hu]at e;cases e
   ·have WQ:=(gu D.gH).2.2;rw[hr]at WQ;simp only[eT,Bool.and_eq_true,List.all_eq_true]at WQ;have:=(nf (WQ.1 h hh)).wj t hd ht;have:=D.back h e i this;rw[hu]at this;cases this
  ·exact e
end DI
end
section
variable{C:Ctx G} {call:gG G} {q:Nat->Bool} {l:List Oper} {pm:List Nat} {R:List av} {ms:List Nat} {w0:World} {k:yG G} {jv fr:List V} {eg:List Nat}
 {b9 rest:List Nat} {ids:List Nat} {bl:List VB} {ch:List G} {Z:List (Nat×av)} {listed:Array Bool} {a:Act} {w:World} {Q:Exit->Act->World->Prop}
theorem Ax {i j:Nat} {b:Bool} (hi:i<listed.size):(listed.setIfInBounds i true)[j]?=some b↔(j=i/\b=true)\/(j≠i/\listed[j]?=some b):=by
 rw[Array.getElem?_setIfInBounds];by_cases h:i=j
 ·subst h;simp[hi]
 ·rw[if_neg h];constructor
  ·intro e;exact .inr ⟨λx=>h x.symm,e⟩
  ·rintro(⟨e,_⟩|⟨_,e⟩)
   ·exact absurd e.symm h
   ·exact e
theorem wm {a:Act} {d:Option Tmp} {v:Value} (hd:∀u,d=some u->u<a.tmps.size) (t:Tmp):(d=some t->fI (a.put d v) t=v)/\(d≠some t->fI (a.put d v) t=fI a t):=by
 cases d with
 |none=>exact⟨λh=>(nomatch h),λ_=>rfl⟩
 |some u=>
  refine⟨λh=>?_,λh=>?_⟩
  ·cases h;rw[kh _ _ _ _ (hd _ rfl),if_pos rfl]
  ·rw[kh _ _ _ _ (hd u rfl),if_neg (λe=>h (by rw[e]))]
namespace DI
theorem did (D:DI C call q l pm R ms w0 k jv eg b9 rest fr ids bl ch Z listed a w) {i:Nat} (hi:i∈b9) (hu:listed[i]?=some false) (hp:∀h,nO pm h i=true->listed[h]?=some true) {wb:List V} {v:V} {b:Bool}
 (r:Rec C l pm jv fr bl i wb v b):DI C call q l pm R ms w0 k jv eg b9 rest fr ids bl ch Z (listed.setIfInBounds i true) (a.put (aK l i).dst (den ids v)) w:=by
 have sL:i<listed.size:=by rw[D.ls];exact D.C1 i (by simp[hi])
 have sg:=λj b=>Ax (listed:=listed) (j:=j) (b:=b) sL;have hd:∀u,(aK l i).dst=some u->u<a.tmps.size:=λu hu=>by rw[D.sz];exact(ng D.pg (D.at_ (by simp[hi]))).1 u hu
 have yp:=wm (v:=den ids v) hd;refine{D with ls:=by simpa using D.ls,OH:=?_,mE:=?_,back:=?_,sz:=by rw[size_put];exact D.sz,df:=by rw[gp];exact D.df,slot:=?_,old:=?_,recs:=?_,OI:=?_,oB:=λp hp=>⟨(D.oB p hp).1,(sg _ _).2 (.inr ⟨λe=>D.apart hi (e▸(D.oB p hp).1),(D.oB p hp).2⟩)⟩}
 ·intro j hj hf;exact(sg _ _).2 (by by_cases e:j=i;exact .inl ⟨e,rfl⟩;exact .inr ⟨e,D.OH j hj hf⟩)
 ·intro j hj hf;exact(sg _ _).2 (.inr ⟨λe=>D.apart hi (e▸hj),D.mE j hj hf⟩)
 ·intro j hj h hb;refine(sg _ _).2 ?_;rcases(sg _ _).1 hj with⟨rfl,_⟩|⟨e_,hj⟩
  ·by_cases e:h=j
   ·exact .inl ⟨e,rfl⟩
   ·exact .inr ⟨e,hp h hb⟩
  ·by_cases e:h=i
   ·exact .inl ⟨e,rfl⟩
   ·exact .inr ⟨e,D.back j hj h hb⟩
 ·intro t h1 h2;by_cases e:(aK l i).dst=some t
  ·rw[(yp t).1 e,r.val t e]
  ·rw[(yp t).2 e];refine D.slot t ?_ ?_
   ·intro j hj nU;rcases(sg _ _).1 (h1 j hj nU)with⟨rfl,_⟩|⟨_,h⟩
    ·exact absurd nU e
    ·exact h
   ·intro j hj nU;rcases(sg _ _).1 (h2 j hj nU)with⟨_,h⟩|⟨_,h⟩
    ·cases h
    ·exact h
 ·intro j hj jJ t ht;rcases(sg _ _).1 jJ with⟨_,h⟩|⟨e_,h⟩
  ·cases h
  ·rw[(yp t).2 (λe=>e_ (D.uniq ht e))];exact D.old j hj h t ht
 ·intro j hj jJ;rcases(sg _ _).1 jJ with⟨_,h⟩|⟨e_,h⟩
  ·cases h
  ·exact D.recs j hj h
 ·intro j hj jJ;rcases(sg _ _).1 jJ with⟨rfl,_⟩|⟨e_,h⟩
  ·exact(D.apart hi hj).elim
  ·obtain⟨b,t,z,d,h1,h2,h3,h4,h5⟩:=D.OI j hj h;exact⟨b,t,z,d,h1,h2,h3,h4,by rw[(yp d).2 (λe=>e_ (D.uniq h4 e))];exact h5⟩
theorem ph (b:av) (X:List av):∀ch:List G,(b::af ch X).Perm (af ch (b::X))
 |[]=>List.Perm.refl _
 |c::ch=>by
  simp only[af];exact(List.perm_middle.symm).trans (List.Perm.append_left (Bl.B c) (ph b X ch))
theorem L_ {P:Program} {t:TypeId} {z:List V} (h:jo P t=some z) (ids:List Nat):ab ids z=ab [] z:=by
 unfold jo at h;split at h
 ·split at h
  ·rename_i v hv;simp only[Option.some.injEq]at h;subst h;rw[vZ,vZ];cases v<;>simp[zd,dX,ab,cl,den,qy]
  ·cases h
 ·cases h
theorem WR (D:DI C call q l pm R ms w0 k jv eg b9 rest fr ids bl ch Z listed a w) {i d:Nat} {t:TypeId} {z:List V} (hi:i∈rest) (hu:listed[i]?=some false) (hp:∀h,nO pm h i=true->listed[h]?=some true)
 (ho:(aK l i).op=.alloc t) (hz:jo C.P t=some z) (hd:(aK l i).dst=some d):
 DI C call q l pm R ms w0 k jv eg b9 rest fr ids bl ch ((i,⟨w.heap.size,true,.cells (ab [] z).toArray t (0,0)⟩)::Z) (listed.setIfInBounds i true) (a.put (aK l i).dst (.pointer (some ⟨w.heap.size,0,none⟩))) (w.alloc (.cells (ab [] z).toArray t)):=by
 have sL:i<listed.size:=by rw[D.ls];exact D.C1 i (by simp[hi])
 have sg:=λj b=>Ax (listed:=listed) (j:=j) (b:=b) sL;have j1:∀u,(aK l i).dst=some u->u<a.tmps.size:=λu hu=>by rw[D.sz];exact(ng D.pg (D.at_ (by simp[hi]))).1 u hu
 have yp:=wm (v:=(.pointer (some ⟨w.heap.size,0,none⟩):Value)) j1;have hA:oO (aK l i)=true:=by simp[oO,fH,ho]
 have hF:yz (aK l i)=false:=by simp[yz,fH,ho]
 refine{D with ls:=by simpa using D.ls,OH:=?_,mE:=?_,back:=?_,sz:=by rw[size_put];exact D.sz,df:=by rw[gp];exact D.df,slot:=?_,old:=?_,recs:=?_,OI:=?_,oB:=?_,SL:=?_,S:=?_}
 ·intro j hj hf;exact(sg _ _).2 (by by_cases e:j=i;exact .inl ⟨e,rfl⟩;exact .inr ⟨e,D.OH j hj hf⟩)
 ·intro j hj hf;exact(sg _ _).2 (.inr ⟨λe=>(by rw[e,hA]at hf;cases hf),D.mE j hj hf⟩)
 ·intro j hj h hb;refine(sg _ _).2 ?_;rcases(sg _ _).1 hj with⟨rfl,_⟩|⟨e_,hj⟩
  ·by_cases e:h=j
   ·exact .inl ⟨e,rfl⟩
   ·exact .inr ⟨e,hp h hb⟩
  ·by_cases e:h=i
   ·exact .inl ⟨e,rfl⟩
   ·exact .inr ⟨e,D.back j hj h hb⟩
 ·intro t h1 h2;by_cases e:(aK l i).dst=some t
  ·rcases(sg _ _).1 (h2 i hi e)with⟨_,h⟩|⟨h,_⟩
   ·cases h
   ·exact absurd rfl h
  ·rw[(yp t).2 e];refine D.slot t ?_ ?_
   ·intro j hj nU;rcases(sg _ _).1 (h1 j hj nU)with⟨rfl,_⟩|⟨_,h⟩
    ·exact absurd nU e
    ·exact h
   ·intro j hj nU;rcases(sg _ _).1 (h2 j hj nU)with⟨_,h⟩|⟨_,h⟩
    ·cases h
    ·exact h
 ·intro j hj jJ t ht;rcases(sg _ _).1 jJ with⟨_,h⟩|⟨e_,h⟩
  ·cases h
  ·rw[(yp t).2 (λe=>e_ (D.uniq ht e))];exact D.old j hj h t ht
 ·intro j hj jJ;rcases(sg _ _).1 jJ with⟨_,h⟩|⟨e_,h⟩
  ·cases h
  ·exact D.recs j hj h
 ·intro j hj jJ;rcases(sg _ _).1 jJ with⟨rfl,_⟩|⟨e_,h⟩
  ·exact⟨_,_,_,_,List.mem_cons_self ..,ho,hz,hd,(yp d).1 hd⟩
  ·obtain⟨b,t,z,d,h1,h2,h3,h4,h5⟩:=D.OI j hj h;exact⟨b,t,z,d,List.mem_cons_of_mem _ h1,h2,h3,h4,by rw[(yp d).2 (λe=>e_ (D.uniq h4 e))];exact h5⟩
 ·intro p hp;rcases List.mem_cons.1 hp with rfl|hp
  ·exact⟨hi,(sg _ _).2 (.inl ⟨rfl,rfl⟩)⟩
  ·exact⟨(D.oB p hp).1,(sg _ _).2 (by by_cases e:p.1=i;exact .inl ⟨e,rfl⟩;exact .inr ⟨e,(D.oB p hp).2⟩)⟩
 ·simp only[List.map_cons,List.nodup_cons];refine⟨?_,D.SL⟩;intro hm;obtain⟨p,hp,e⟩:=List.mem_map.1 hm;have:=(D.oB p hp).2;rw[e,hu]at this;cases this
 ·have h:=D.S.new (Ch.alloc [] w (.cells (ab [] z).toArray t)) (Nat.le_refl _) (heap_alloc_new w _);refine h.perm ?_;simp only[List.map_cons,List.cons_append];exact(List.perm_middle.symm).trans (List.Perm.append_left _ (ph _ _ _))
end DI
end
mutual
theorem C3 {n m:Nat} (j3:n<=m):∀v:V,fK n v=true->fK m v=true
 |.int _ _,_=>by simp[fK]
 |.bool _,_=>by simp[fK]
 |.ptr i _,h=>by simp only[fK,Nat.blt_eq]at h⊢;omega
 |.sl i _ _ _,h=>by simp only[fK,Nat.blt_eq]at h⊢;omega
 |.oN i _ _ _ _,h=>by simp only[fK,Nat.blt_eq]at h⊢;omega
 |.fn _ a b,h=>by simp only[fK,Bool.and_eq_true]at h⊢;exact⟨gY j3 a h.1,gY j3 b h.2⟩
 |.CM _ v,h=>by simp only[fK]at h⊢;exact C3 j3 v h
 |.agg l,h=>by simp only[fK]at h⊢;exact gY j3 l h
 |.az l,h=>by simp only[fK]at h⊢;exact gY j3 l h
 |.dC _ _ _,_=>by simp[fK]
 |.arr _ _ _,_=>by simp[fK]
 |.j8 _ _ _ _,_=>by simp[fK]
 |.rest _,_=>by simp[fK]
 |.fp _ _ _,_=>by simp[fK]
 |.pe i _ _ _ _,h=>by simp only[fK,Nat.blt_eq]at h⊢;omega
 |.raw _,_=>by simp[fK]
theorem gY {n m:Nat} (j3:n<=m):∀l:List V,cH n l=true->cH m l=true
 |[],_=>by simp[cH]
 |v::l,h=>by simp only[cH,Bool.and_eq_true]at h⊢;exact⟨C3 j3 v h.1,gY j3 l h.2⟩
end
theorem wo {n:Nat}:∀{fr:List V} (t:Nat),cH n fr=true->fK n (nth fr t)=true
 |[],_,_=>by simp[nth,cE,fK]
 |v::l,0,h=>by simp only[cH,Bool.and_eq_true]at h;exact h.1
 |v::l,t+1,h=>by simp only[cH,Bool.and_eq_true]at h;exact wo t h.2
theorem WS {P:Program} {bl e:List VB} {t:TypeId} {x v:V} (h:VI P bl t x=some v):VI P (bl++e) t x=some v:=by
 unfold VI at h⊢;split at h
 ·rename_i i off;split at h
  ·rename_i b hb;have hi:i<bl.length:=by rcases Nat.lt_or_ge i bl.length with h'|h';exact h';simp[h']at hb
   simp only[List.getElem?_append_left hi,hb];exact h
  ·cases h
 ·cases h
theorem Jc {P:Program} {bl e:List VB} {t:TypeId} {x v:V} (h:EF P bl t x v):EF P (bl++e) t x v:=by
 rcases h with h|⟨p,h,hp⟩
 ·exact .inl (WS h)
 ·exact .inr ⟨p,WE h,hp⟩
theorem uj {X Y:List av} (h:X.Perm Y):∀ch:List G,(af ch X).Perm (af ch Y)
 |[]=>h
 |c::ch=>List.Perm.append_left (Bl.B c) (uj h ch)
section
variable{C:Ctx G} {call:gG G} {q:Nat->Bool} {l:List Oper} {pm:List Nat} {R:List av} {ms:List Nat} {w0:World} {k:yG G} {jv fr:List V} {eg:List Nat}
 {b9 rest:List Nat} {ids:List Nat} {bl:List VB} {ch:List G} {Z:List (Nat×av)} {listed:Array Bool} {a:Act} {w:World} {Q:Exit->Act->World->Prop}
theorem C4 {o:Oper} {L:List Oper} (h:uH C call l.toArray (o::L) fr bl ch k):∃b,gOK l fr o b/\(if b then kW C call o fr bl ch (λfr bl ch=>uH C call l.toArray L fr bl ch k)else uH C call l.toArray L (put fr o.dst cE) bl ch k):=by
 simp only[uH]at h;unfold gOK;split at h
 ·rename_i hg;(try rw[hg]);exact⟨true,rfl,h⟩
 ·rename_i j want hg;try rw[hg]
  split at h
  ·exact h.elim
  ·rename_i t hd;split at h
   ·rename_i c hc;have hs:=qB fr t;rw[hc]at hs;refine⟨c==want,⟨t,hd,.inl ⟨c,hc,rfl⟩⟩,?_⟩;cases c<;>(rw[hs]at h;cases want<;>exact h)
   ·rename_i vs hc;exact⟨false,⟨t,hd,.inr ⟨vs,hc,rfl⟩⟩,h⟩
   ·exact h.elim
theorem Rec.frame {i:Nat} {wb:List V} {v:V} {b:Bool} (r:Rec C l pm jv fr bl i wb v b) {fr':List V} {bl':List VB}
 (h1:∀t∈looks l i,∀h,(aK l h).dst=some t->nO pm h i=true->nth fr' t=nth fr t) (h2:∀d,(aK l i).dst=some d->nth fr' d=nth fr d)
 (h3:∀t x v,(aK l i).op=.load t x->EF C.P bl t (ev C.gl wb x) v->EF C.P bl' t (ev C.gl wb x) v):Rec C l pm jv fr' bl' i wb v b:=by
 refine⟨λt ht h hd hb=>(r.w1 t ht h hd hb).trans (h1 t ht h hd hb).symm,r.w0,λd hd=>(h2 d hd).trans (r.val d hd),r.g,?_⟩;have e:=r.e;cases b with
 |false=>exact e
 |true=>
  rcases e with e|⟨t,x,ho,e⟩
  ·exact .inl e
  ·exact .inr ⟨t,x,ho,h3 t x v ho e⟩
namespace DI
theorem WT {i:Nat} {r:List Nat} (D:DI C call q l pm R ms w0 k jv eg b9 (i::r) fr ids bl ch Z listed a w) (hf:yz (aK l i)=true):∃fr',DI C call q l pm R ms w0 k jv eg (b9++[i]) r fr' ids bl ch Z listed a w:=by
 have nh:(b9++[i])++r=b9++(i::r):=by simp
 have hA:oO (aK l i)=false:=by rcases gX (aK l i)with h|h|h<;>simp_all
 have hu:listed[i]?=some false:=D.mE i (by simp) hA;have ho:=D.at_ (i:=i) (by simp);have j1:=(ng D.pg ho).1;obtain⟨b,hg,hb⟩:=C4 D.vc;obtain⟨v,hv,fU⟩:∃v,(if b then EvS C bl fr (aK l i) v else v=cE)/\uH C call l.toArray (VL l r) (put fr (aK l i).dst v) bl ch k:=by
  cases b with
  |true=>rw[if_pos rfl]at hb;exact agB hf hb
  |false=>rw[if_neg (by simp)]at hb;exact⟨cE,rfl,hb⟩
 have np:=λt=>Aw (fr:=fr) (x:=v) t j1;have WU:∀{j},j∈b9->j≠i:=λhj e=>D.apart hj (by rw[e];simp);refine⟨put fr (aK l i).dst v,{D with gH:=by rw[nh];exact D.gH,WN:=?_,C0:=by rw[nh];exact D.C0,C1:=by rw[nh];exact D.C1,nd:=by rw[nh];exact D.nd,pg:=by rw[nT];exact D.pg,WO:=by rw[nh];exact D.WO,OH:=?_,mE:=λj hj=>D.mE j (by simp[hj]),vc:=fU,sz:=by rw[nT];exact D.sz,slot:=?_,old:=?_,we:=?_,recs:=?_,OI:=λj hj=>D.OI j (by simp[hj]),oB:=?_}⟩
 ·have:=D.WN;simp only[fR,Bool.and_eq_true]at this;exact this.2
 ·intro j hj WV;rcases List.mem_append.1 hj with hj|hj
  ·exact D.OH j hj WV
  ·obtain rfl:j=i:=by simpa using hj
   rw[hf]at WV;cases WV
 ·intro t h1 h2;by_cases e:(aK l i).dst=some t
  ·have:=h1 i (by simp) e;rw[hu]at this;cases this
  ·rw[(np t).2 e];refine D.slot t (λj hj=>h1 j (by simp[hj])) ?_;intro j hj hd;rcases List.mem_cons.1 hj with rfl|hj
   ·exact absurd hd e
   ·exact h2 j hj hd
 ·intro j hj jJ t ht;rcases List.mem_append.1 hj with hj|hj
  ·exact D.old j hj jJ t ht
  ·obtain rfl:j=i:=by simpa using hj
   rw[<-D.we t (λh hh hd=>WU hh (D.uniq hd ht))];refine D.slot t (λh hh hd=>(WU hh (D.uniq hd ht)).elim) ?_;intro h hh hd;rw[D.uniq hd ht];exact hu
 ·intro t h;rw[(np t).2 (h i (by simp))];exact D.we t (λj hj=>h j (by simp[hj]))
 ·intro j hj jJ;rcases List.mem_append.1 hj with hj|hj
  ·obtain⟨wb,v',b',rr⟩:=D.recs j hj jJ;refine⟨wb,v',b',rr.frame ?_ ?_ (λ_ _ _ _ h=>h)⟩
   ·intro t ht h hd F9;refine(np t).2 (λe=>?_);have:=(D.ahead hj (show i∈i::r by simp)).nb;rw[D.uniq hd e]at F9;rw[F9]at this;cases this
   ·intro d hd;exact(np d).2 (λe=>WU hj (D.uniq hd e))
  ·obtain rfl:j=i:=by simpa using hj
   refine⟨fr,v,b,⟨?_,?_,λd hd=>(np d).1 hd,hg,hv⟩⟩
   ·intro t ht h hd F9;refine((np t).2 (λe=>?_)).symm;rw[D.uniq hd e,D.WO j (by simp)]at F9;cases F9
   ·intro t ht OJ;exact D.we t (λh hh hd=>by
     have:=(D.ahead hh (show j∈j::r by simp)).wi t hd ht;rw[OJ h hd]at this;cases this)
 ·intro p hp;obtain⟨h1,h2⟩:=D.oB p hp;rcases List.mem_cons.1 h1 with e|h1
  ·rw[e,hu]at h2;cases h2
  ·exact⟨h1,h2⟩
theorem ni:∀(r:List Nat) {b9:List Nat} {fr:List V},DI C call q l pm R ms w0 k jv eg b9 r fr ids bl ch Z listed a w->∃qD r' fr',DI C call q l pm R ms w0 k jv eg qD r' fr' ids bl ch Z listed a w/\(r'=[]\/∃i s,r'=i::s/\yz (aK l i)=false)
 |[],b9,fr,D=>⟨b9,[],fr,D,.inl rfl⟩
 |i::r,b9,fr,D=>by
  cases hf:yz (aK l i)with
  |false=>exact⟨b9,i::r,fr,D,.inr ⟨i,r,rfl,hf⟩⟩
  |true=>
   obtain⟨fr',D'⟩:=D.WT hf;exact ni r D'
theorem WW {i:Nat} {r:List Nat} (D:DI C call q l pm R ms w0 k jv eg b9 (i::r) fr ids bl ch Z listed a w) (ha:oO (aK l i)=true) (hi:listed[i]?=some true):∃fr' ids' bl' Z',DI C call q l pm R ms w0 k jv eg (b9++[i]) r fr' ids' bl' ch Z' listed a w:=by
 have nh:(b9++[i])++r=b9++(i::r):=by simp
 have ho:=D.at_ (i:=i) (by simp);have j1:=(ng D.pg ho).1;obtain⟨U8,_⟩:=(ng D.pg ho).2.2 ha;obtain⟨b,t,z,d,hz,uh,hzt,hd,hy⟩:=D.OI i (by simp) hi;obtain⟨Z1,Z2,rfl⟩:=List.append_of_mem hz;have fU:=D.vc;simp only[VL,List.map_cons,uH,U8,kW,uh,hfN,evQ,CS,hzt]at fU;cases hq:cH bl.length fr&&(dk bl.length bl&&cH bl.length z)with
 |false=>rw[hq]at fU;exact fU.elim
 |true=>
  rw[hq]at fU;simp only[Bool.and_eq_true,<-D.hl]at hq;have fU:uH C call l.toArray (VL l r) (put fr (aK l i).dst (.ptr bl.length 0)) (bl++[⟨true,t,z⟩]) ch k:=fU;have np:=λt=>Aw (fr:=fr) (x:=V.ptr bl.length 0) t j1;have WU:∀{j},j∈b9->j≠i:=λhj e=>D.apart hj (by rw[e];simp);refine⟨_,ids++[b],_,Z1++Z2,{D with gH:=by rw[nh];exact D.gH,WN:=?_,C0:=by rw[nh];exact D.C0,C1:=by rw[nh];exact D.C1,nd:=by rw[nh];exact D.nd,pg:=by rw[nT];exact D.pg,WO:=by rw[nh];exact D.WO,OH:=?_,mE:=λj hj=>D.mE j (by simp[hj]),vc:=fU,sz:=by rw[nT];exact D.sz,slot:=?_,old:=?_,we:=?_,recs:=?_,OI:=?_,oB:=?_,SL:=?_,S:=?_,hl:=by simp[D.hl],gl:=D.gl.app _,EG:=gY (by simp) _ D.EG,SN:=by obtain⟨m,e⟩:=D.SN;exact⟨m++[b],by rw[e,List.append_assoc]⟩}⟩
  ·have:=D.WN;simp only[fR,Bool.and_eq_true]at this;exact this.2
  ·intro j hj WV;rcases List.mem_append.1 hj with hj|hj
   ·exact D.OH j hj WV
   ·obtain rfl:j=i:=by simpa using hj
    exact hi
  ·intro u h1 h2;by_cases e:(aK l i).dst=some u
   ·rw[(np u).1 e];obtain rfl:d=u:=by rw[hd]at e;simpa using e
    rw[hy];simp only[den,<-D.hl,cy]
   ·rw[(np u).2 e,bC _ (wo u hq.1)];refine D.slot u (λj hj=>h1 j (by simp[hj])) ?_;intro j hj nU;rcases List.mem_cons.1 hj with rfl|hj
    ·exact absurd nU e
    ·exact h2 j hj nU
  ·intro j hj jJ u hu;rcases List.mem_append.1 hj with hj|hj
   ·rw[bC _ (wo u D.EG)];exact D.old j hj jJ u hu
   ·obtain rfl:j=i:=by simpa using hj
    rw[hi]at jJ;cases jJ
  ·intro u h;rw[(np u).2 (h i (by simp))];exact D.we u (λj hj=>h j (by simp[hj]))
  ·intro j hj jJ;rcases List.mem_append.1 hj with hj|hj
   ·obtain⟨wb,v',b',rr⟩:=D.recs j hj jJ;refine⟨wb,v',b',rr.frame ?_ ?_ (λ_ _ _ _ h=>Jc h)⟩
    ·intro u hu h hd F9;refine(np u).2 (λe=>?_);have:=(D.ahead hj (show i∈i::r by simp)).nb;rw[D.uniq hd e]at F9;rw[F9]at this;cases this
    ·intro u hd;exact(np u).2 (λe=>WU hj (D.uniq hd e))
   ·obtain rfl:j=i:=by simpa using hj
    rw[hi]at jJ;cases jJ
  ·intro j hj jJ;obtain⟨b',t',z',d',h1,h2⟩:=D.OI j (by simp[hj]) jJ;refine⟨b',t',z',d',?_,h2⟩;rcases List.mem_append.1 h1 with h1|h1
   ·simp[h1]
   ·rcases List.mem_cons.1 h1 with e|h1
    ·exfalso;have:j=i:=by simpa using congrArg Prod.fst e
     have hn:=(List.nodup_append.1 D.nd).2.1;rw[List.nodup_cons]at hn;exact hn.1 (this▸hj)
    ·simp[h1]
  ·intro p hp;obtain⟨h1,h2⟩:=D.oB p (by rcases List.mem_append.1 hp with h|h<;>simp[h]);rcases List.mem_cons.1 h1 with e|h1
   ·exfalso;have hn:=D.SL;simp only[List.map_append,List.map_cons]at hn;have OZ:=(List.perm_middle.nodup_iff.1 hn);rw[List.nodup_cons]at OZ;refine OZ.1 ?_;rw[<-e];rcases List.mem_append.1 hp with h|h
    ·exact List.mem_append_left _ (List.mem_map.2 ⟨p,h,rfl⟩)
    ·exact List.mem_append_right _ (List.mem_map.2 ⟨p,h,rfl⟩)
   ·exact⟨h1,h2⟩
  ·have hn:=D.SL;simp only[List.map_append,List.map_cons]at hn⊢;have OZ:=(List.perm_middle.nodup_iff.1 hn);exact(List.nodup_cons.1 OZ).2
  ·refine D.S.perm ?_;rw[aI _ _ _ _ D.hl,aJ _ _ hq.2.1];simp only[lits,aE,L_ hzt (ids++[b])];rw[List.append_assoc];refine List.Perm.append_left _ ?_;simp only[List.map_append,List.map_cons,List.cons_append,List.nil_append,List.append_assoc];exact(uj List.perm_middle ch).trans (ph _ _ ch).symm
end DI
end
end Vx
namespace Vx
open Go Go.RowKit Go.BigFrame Sx
variable{G:Type} [Bl G]
def wq (q:Nat->Bool) (call:gG G):Prop:=∀f,q f=true->∀args bl ch K,call f args bl ch K->call f args bl ch λv bl' ch'=>K v bl' ch'/\∃e,bl'=bl++e
section
variable{C:Ctx G} {call:gG G} {q:Nat->Bool} {l:List Oper} {pm:List Nat} {R:List av} {ms:List Nat} {w0:World} {k:yG G} {jv fr:List V} {eg:List Nat}
 {b9 rest:List Nat} {ids:List Nat} {bl:List VB} {ch:List G} {Z:List (Nat×av)} {listed:Array Bool} {a:Act} {w:World} {Q:Exit->Act->World->Prop}
theorem C5 (hq:wq q call) {o:Oper} (ho:kD q o=true) {k:yG G} (h:kW C call o fr bl ch k):kW C call o fr bl ch λfr' bl' ch'=>k fr' bl' ch'/\∃e,bl'=bl++e:=by
 unfold kW at h⊢;split at h
 ·rename_i t x e;simp[kD,e]at ho
 ·rename_i t x y e;simp[kD,e]at ho
 ·rename_i op h1 h2;split at h
  ·exact⟨h.1,h.2,[],by simp⟩
  split at h
  ·exact⟨h,[],by simp⟩
  ·split at h
   ·cases hb:cH bl.length fr&&(dk bl.length bl&&cH bl.length _)with
    |false=>rw[hb]at h;exact h.elim
    |true=>rw[hb]at h;exact⟨h,_,rfl⟩
   ·split at h
    ·rename_i f args hc;cases hb:cH bl.length fr with
     |false=>rw[hb]at h;exact h.elim
     |true=>
      rw[hb]at h;have hqf:q f=true:=by
       unfold kD at ho;unfold callee at hc;split at ho
       ·rename_i e;simp[e]at hc
       ·rename_i e;simp[e]at hc
       ·rename_i g a1 a2 e;rw[e]at hc;simp only[ev]at hc;cases hk:okF C.P g with
        |false=>rw[hk]at hc;simp at hc
        |true=>
         rw[hk]at hc;simp only[cond_true,Option.some.injEq,Prod.mk.injEq]at hc;rw[<-hc.1];exact ho
       ·cases ho
      exact hq f hqf _ _ _ _ h
    ·cases hk:kV o.op with
     |false=>rw[hk]at h;exact h.elim
     |true=>
      exfalso;unfold kD at ho;unfold kV at hk;split at hk<;>simp_all
namespace DI
theorem WX {i:Nat} {r:List Nat} (D:DI C call q l pm R ms w0 k jv eg b9 (i::r) fr ids bl ch Z listed a w) (hx:zi (aK l i)=true) (hp:∀h,nO pm h i=true->listed[h]?=some true) {x:V} {more:List Nat} {bl':List VB} {ch':List G} {w':World}
 (fU:uH C call l.toArray (VL l r) (put fr (aK l i).dst x) bl' ch' k) (hl:(ids++more).length=bl'.length) (S:St ms w0 (lits (ids++more) (ids++more) bl'++af ch' (Z.map (·.2)++R)) w') (hw:more=[]\/cH ids.length fr=true) (hq:kD q (aK l i)=true->∃e,bl'=bl++e):
 DI C call q l pm R ms w0 k jv eg (b9++[i]) r (put fr (aK l i).dst x) (ids++more) bl' ch' Z (listed.setIfInBounds i true) (a.put (aK l i).dst (den (ids++more) x)) w':=by
 have nh:(b9++[i])++r=b9++(i::r):=by simp
 have hA:oO (aK l i)=false:=by rcases gX (aK l i)with h|h|h<;>simp_all
 have hu:listed[i]?=some false:=D.mE i (by simp) hA;have ho:=D.at_ (i:=i) (by simp);have j1:=(ng D.pg ho).1;have sL:i<listed.size:=by rw[D.ls];exact D.C1 i (by simp)
 have sg:=λj b=>Ax (listed:=listed) (j:=j) (b:=b) sL;have np:=λt=>Aw (fr:=fr) (x:=x) t j1;have yp:=wm (a:=a) (v:=den (ids++more) x) (d:=(aK l i).dst) (λu hu=>by rw[D.sz];exact j1 u hu);have WU:∀{j},j∈b9->j≠i:=λhj e=>D.apart hj (by rw[e];simp);have hnr:∀{j},j∈r->j≠i:=λhj e=>by
  have hn:=(List.nodup_append.1 D.nd).2.1;rw[List.nodup_cons]at hn;exact hn.1 (e▸hj)
 have dn:∀u,den (ids++more) (nth fr u)=den ids (nth fr u):=λu=>by
  rcases hw with rfl|hw
  ·simp
  ·exact bC _ (wo u hw)
 refine{D with gH:=by rw[nh];exact D.gH,WN:=?_,C0:=by rw[nh];exact D.C0,C1:=by rw[nh];exact D.C1,nd:=by rw[nh];exact D.nd,pg:=by rw[nT];exact D.pg,WO:=by rw[nh];exact D.WO,ls:=by simpa using D.ls,OH:=?_,mE:=?_,back:=?_,vc:=fU,sz:=by rw[nT,size_put];exact D.sz,df:=by rw[gp];exact D.df,slot:=?_,old:=?_,we:=?_,recs:=?_,OI:=?_,oB:=?_,S:=S,hl:=hl,gl:=D.gl.app _,EG:=gY (by simp) _ D.EG,SN:=by obtain⟨m,e⟩:=D.SN;exact⟨m++more,by rw[e,List.append_assoc]⟩}
 ·have:=D.WN;simp only[fR,Bool.and_eq_true]at this;exact this.2
 ·intro j hj WV;refine(sg _ _).2 ?_;rcases List.mem_append.1 hj with hj|hj
  ·exact .inr ⟨WU hj,D.OH j hj WV⟩
  ·exact .inl ⟨by simpa using hj,rfl⟩
 ·intro j hj WV;exact(sg _ _).2 (.inr ⟨hnr hj,D.mE j (by simp[hj]) WV⟩)
 ·intro j hj h hb;refine(sg _ _).2 ?_;rcases(sg _ _).1 hj with⟨rfl,_⟩|⟨e_,hj⟩
  ·by_cases e:h=j
   ·exact .inl ⟨e,rfl⟩
   ·exact .inr ⟨e,hp h hb⟩
  ·by_cases e:h=i
   ·exact .inl ⟨e,rfl⟩
   ·exact .inr ⟨e,D.back j hj h hb⟩
 ·intro t h1 h2;by_cases e:(aK l i).dst=some t
  ·rw[(yp t).1 e,(np t).1 e]
  ·rw[(yp t).2 e,(np t).2 e,dn];refine D.slot t ?_ ?_
   ·intro j hj hd;rcases(sg _ _).1 (h1 j (by simp[hj]) hd)with⟨h,_⟩|⟨_,h⟩
    ·exact absurd h (WU hj)
    ·exact h
   ·intro j hj hd;rcases List.mem_cons.1 hj with rfl|hj
    ·exact absurd hd e
    ·rcases(sg _ _).1 (h2 j hj hd)with⟨_,h⟩|⟨_,h⟩
     ·cases h
     ·exact h
 ·intro j hj jJ t ht;rcases(sg _ _).1 jJ with⟨_,h⟩|⟨e_,h⟩
  ·cases h
  ·rcases List.mem_append.1 hj with hj|hj
   ·rw[(yp t).2 (λe=>e_ (D.uniq ht e)),bC _ (wo t D.EG)];exact D.old j hj h t ht
   ·exact absurd (by simpa using hj) e_
 ·intro t h;rw[(np t).2 (h i (by simp))];exact D.we t (λj hj=>h j (by simp[hj]))
 ·intro j hj jJ;rcases(sg _ _).1 jJ with⟨_,h⟩|⟨e_,h⟩
  ·cases h
  ·rcases List.mem_append.1 hj with hj|hj
   ·obtain⟨wb,v',b',rr⟩:=D.recs j hj h;have P:=D.ahead hj (show i∈i::r by simp);refine⟨wb,v',b',rr.frame ?_ ?_ ?_⟩
    ·intro t ht h hd F9;refine(np t).2 (λe=>?_);have:=P.nb;rw[D.uniq hd e]at F9;rw[F9]at this;cases this
    ·intro d hd;exact(np d).2 (λe=>WU hj (D.uniq hd e))
    ·intro t y v uh hld;rcases P.ld hx (by simp[acq,uh])with hb|hb
     ·have:=hp j hb;rw[h]at this;cases this
     ·obtain⟨e,rfl⟩:=hq hb;exact Jc hld
   ·exact absurd (by simpa using hj) e_
 ·intro j hj jJ;rcases(sg _ _).1 jJ with⟨h,_⟩|⟨e_,h⟩
  ·exact absurd h (hnr hj)
  ·obtain⟨b,t,z,d,h1,h2,h3,h4,h5⟩:=D.OI j (by simp[hj]) h;exact⟨b,t,z,d,h1,h2,h3,h4,by rw[(yp d).2 (λe=>e_ (D.uniq h4 e))];exact h5⟩
 ·intro p hp';obtain⟨h1,h2⟩:=D.oB p hp';rcases List.mem_cons.1 h1 with e|h1
  ·rw[e,hu]at h2;cases h2
  ·exact⟨h1,(sg _ _).2 (.inr ⟨hnr h1,h2⟩)⟩
theorem C6:∀(r:List Nat) {b9:List Nat} {fr:List V} {ids:List Nat} {bl:List VB} {Z:List (Nat×av)} {i:Nat},DI C call q l pm R ms w0 k jv eg b9 r fr ids bl ch Z listed a w->jN l r=some i->(∀h,nO pm h i=true->listed[h]?=some true)->
 ∃qD r' fr' ids' bl' Z',DI C call q l pm R ms w0 k jv eg qD (i::r') fr' ids' bl' ch Z' listed a w
 |[],_,_,_,_,_,_,_,h,_=>by simp[jN]at h
 |j::r,b9,fr,ids,bl,Z,i,D,h,hp=>by
  have Ma:=D.WN;simp only[fR,Bool.and_eq_true]at Ma;unfold jN at h;cases hA:oO (aK l j)with
  |false=>
   rw[hA]at h;obtain rfl:j=i:=by simpa using h
   exact⟨b9,r,fr,ids,bl,Z,D⟩
  |true=>
   rw[hA]at h Ma;simp only[cond_true]at h Ma;rw[h]at Ma;simp only[Bool.and_eq_true]at Ma;obtain⟨fr',ids',bl',Z',D'⟩:=D.WW hA (hp j Ma.1.2);exact C6 r D' h hp
theorem zk (D:DI C call q l pm R ms w0 k jv eg b9 rest fr ids bl ch Z listed a w) (h:rest=[]\/∃i s,rest=i::s/\yz (aK l i)=false):rest=[]\/∃x,jN l rest=some x/\x∈rest/\zi (aK l x)=true:=by
 rcases h with h|⟨i,s,rfl,hf⟩
 ·exact .inl h
 ·refine .inr ?_;have nm:∀(r:List Nat) x,jN l r=some x->x∈r:=by
   intro r;induction r with
   |nil=>intro x h;simp[jN]at h
   |cons y r ih=>
    intro x h;unfold jN at h;cases hA:oO (aK l y)with
    |true=>rw[hA]at h;exact List.mem_cons_of_mem _ (ih x h)
    |false=>rw[hA]at h;simp at h;simp[h]
  rcases gX (aK l i)with⟨h1,h2,h3⟩|⟨h1,h2,h3⟩|⟨h1,h2,h3⟩
  ·rw[hf]at h1;cases h1
  ·have Ma:=D.WN;simp only[fR,Bool.and_eq_true,h2,cond_true]at Ma;cases hn:jN l s with
   |none=>rw[hn]at Ma;simp at Ma
   |some x=>
    rw[hn]at Ma;simp only[Bool.and_eq_true]at Ma;exact⟨x,by unfold jN;rw[h2];exact hn,List.mem_cons_of_mem _ (nm s x hn),Ma.1.1⟩
  ·exact⟨i,by unfold jN;rw[h2];rfl,by simp,h3⟩
end DI
end
section
variable{C:Ctx G} {call:gG G} {q:Nat->Bool} {l:List Oper} {pm:List Nat} {R:List av} {ms:List Nat} {w0:World} {k:yG G} {jv fr:List V} {eg:List Nat}
 {b9 rest:List Nat} {ids:List Nat} {bl:List VB} {ch:List G} {Z:List (Nat×av)} {listed:Array Bool} {a:Act} {w:World} {Q:Exit->Act->World->Prop}
namespace DI
theorem first (h:eT (lL q l pm) rest=true) {x:Nat} (hn:jN l rest=some x):∀i∈rest,oO (aK l i)=false->i=x\/PH q l pm x i:=by
 induction rest with
 |nil=>simp[jN]at hn
 |cons y r ih=>
  intro i hi ha;simp only[eT,Bool.and_eq_true,List.all_eq_true]at h;unfold jN at hn;cases hA:oO (aK l y)with
  |true=>
   rw[hA]at hn;rcases List.mem_cons.1 hi with rfl|hi
   ·rw[hA]at ha;cases ha
   ·exact ih h.2 hn i hi ha
  |false=>
   rw[hA]at hn;obtain rfl:y=x:=by simpa using hn
   rcases List.mem_cons.1 hi with e|hi
   ·exact .inl e
   ·exact .inr (nf (h.1 i hi))
theorem nj (h:kp l l.length=true) {i:Nat} {o:Oper} (ho:l[i]?=some o) {e:Edge} (he:e∈o.after) (hb:Region.binds .any e=true):e.on<l.length:=by
 have h1:=List.all_eq_true.1 h o (List.mem_of_getElem? ho);have h2:=Array.all_eq_true_iff_forall_mem.1 h1 e he;rw[hb]at h2;simpa[Nat.blt_eq]using h2
theorem stuck (D:DI C call q l pm R ms w0 k jv eg b9 rest fr ids bl ch Z listed a w) (SO:yH l pm=true) (dN:kp l l.length=true) (hr:Region.ready .any l.toArray listed=[]):
 ∀(b c:List Nat),b9++rest=c++b->(∀i∈c,listed[i]?=some true)->∀i∈b,listed[i]?=some true:=by
 intro b;induction b with
 |nil=>intro c _ _ i hi;cases hi
 |cons x b ih=>
  intro c hc hl;have hx:x∈b9++rest:=by rw[hc];simp
  have h1:listed[x]?=some true:=by
   rcases D.bit hx with h|h
   ·exact h
   ·exfalso;have ho:=D.at_ hx;have hm:x∈Region.ready .any l.toArray listed:=(eb _ listed x).2 ⟨aK l x,ho,by simp[Array.getD_eq_getD_getElem?,h],λe he hb=>by
     have iK:=nj dN ho he hb;have F9:nO pm e.on x=true:=by
      unfold nO;rw[aa_ SO ho];exact(vb pm _ _).2 ⟨e,by simpa using he,hb,.inl rfl⟩
     have hem:=D.C0 e.on iK;rw[hc]at hem;have hle:listed[e.on]?=some true:=by
      rcases List.mem_append.1 hem with hm|hm
      ·exact hl _ hm
      ·exfalso;rcases List.mem_cons.1 hm with h2|h2
       ·have:=D.WO x hx;rw[h2,this]at F9;cases F9
       ·have hp:=D.gH;rw[hc]at hp;have:=(gu hp).2.2;simp only[eT,Bool.and_eq_true,List.all_eq_true]at this;have:=(nf (this.1 _ h2)).nb;rw[F9]at this;cases this
     simp[Array.getD_eq_getD_getElem?,hle]⟩
    rw[hr]at hm;cases hm
  intro i hi;rcases List.mem_cons.1 hi with rfl|hi
  ·exact h1
  ·refine ih (c++[x]) (by rw[hc];simp) (λj hj=>?_) i hi;rcases List.mem_append.1 hj with hj|hj
   ·exact hl j hj
   ·obtain rfl:j=x:=by simpa using hj
    exact h1
theorem fin (D:DI C call q l pm R ms w0 k jv eg b9 rest fr ids bl ch Z listed a w) (hh:rest=[]\/∃i s,rest=i::s/\yz (aK l i)=false) (di:∀i,i<l.length->listed[i]?=some true):
 k fr bl ch/\a=act ids fr/\St ms w0 (lits ids ids bl++af ch R) w:=by
 rcases D.zk hh with rfl|⟨x,hx,hm,hX⟩
 ·have hZ:Z=[]:=by
   cases Z with
   |nil=>rfl
   |cons p Z=>have:=(D.oB p (by simp)).1;cases this
  refine⟨D.vc,?_,by have:=D.S;rw[hZ]at this;simpa using this⟩;refine Af (by rw[D.sz];simp[act,kj]) (by rw[D.df];rfl) ?_;intro t;rw[Au];exact D.slot t (λi hi _=>di i (D.C1 i (by simp[hi]))) (λi hi=>nomatch hi)
 ·have h1:oO (aK l x)=false:=by rcases gX (aK l x)with h|h|h<;>simp_all
  have:=D.mE x hm h1;rw[di x (D.C1 x (by simp[hm]))]at this;cases this
end DI
theorem kO (hc:sY C.P C.gl call) (EH:wq q call) (SO:yH l pm=true) (dN:kp l l.length=true)
 (hk:∀fr' m bl' ch' w',(eg++m).length=bl'.length->St ms w0 (lits (eg++m) (eg++m) bl'++af ch' R) w'->k fr' bl' ch'->Q .normal (act (eg++m) fr') w'):
 ∀(fuel:Nat) {b9 rest:List Nat} {fr:List V} {ids:List Nat} {bl:List VB} {ch:List G} {Z:List (Nat×av)} {listed:Array Bool} {a:Act} {w:World},
  DI C call q l pm R ms w0 k jv eg b9 rest fr ids bl ch Z listed a w->(rest=[]\/∃i s,rest=i::s/\yz (aK l i)=false)->listed.toList.count false=fuel->wpAny C.P .any l.toArray Q fuel listed a w:=by
 have fin:∀{b9 rest:List Nat} {fr:List V} {ids:List Nat} {bl:List VB} {ch:List G} {Z:List (Nat×av)} {listed:Array Bool} {a:Act} {w:World},
  DI C call q l pm R ms w0 k jv eg b9 rest fr ids bl ch Z listed a w->(rest=[]\/∃i s,rest=i::s/\yz (aK l i)=false)->(∀i,i<l.length->listed[i]?=some true)->Q .normal a w:=by
  intro b9 rest fr ids bl ch Z listed a w D hh di;obtain⟨h1,rfl,h3⟩:=D.fin hh di;obtain⟨m,rfl⟩:=D.SN;exact hk _ _ _ _ _ D.hl h3 h1
 intro fuel;induction fuel with
 |zero=>
  intro b9 rest fr ids bl ch Z listed a w D hh PK;have di:∀i,i<l.length->listed[i]?=some true:=by
   intro i hi;rcases d_ D.ls hi with h|h
   ·exact h
   ·exfalso;have:=count_set listed.toList i (by simpa using h);omega
  refine⟨?_,fin D hh di⟩;refine List.eq_nil_iff_forall_not_mem.2 λi hi=>?_;obtain⟨o,ho,h2,_⟩:=(eb l listed i).1 hi;have sL:i<l.length:=by rcases Nat.lt_or_ge i l.length with h|h;exact h;simp[h]at ho
  simp[Array.getD_eq_getD_getElem?,di i sL]at h2
 |succ fuel ih=>
  intro b9 rest fr ids bl ch Z listed a w D hh PK;refine⟨λhr=>?_,?_⟩
  ·exfalso;have di:∀i,i<l.length->listed[i]?=some true:=λi hi=>D.stuck SO dN hr (b9++rest) [] rfl (λ_ h=>nomatch h) i (D.C0 i hi);have:=nL listed.toList l.length 0 (by simpa using D.ls) (λj hj=>by simpa using di j hj);omega
  ·intro i hi;obtain⟨o,ho,h2,h3⟩:=(eb l listed i).1 hi;have sL:i<l.length:=by rcases Nat.lt_or_ge i l.length with h|h;exact h;simp[h]at ho
   have CI:=nR ho;have hu:listed[i]?=some false:=by
    rcases d_ D.ls sL with hb|hb
    ·simp[Array.getD_eq_getD_getElem?,hb]at h2
    ·exact hb
   have hp:∀h,nO pm h i=true->listed[h]?=some true:=by
    intro h hb;obtain⟨e,he,hbd,Jd⟩:=zj SO ho hb;have iK:=DI.nj dN ho he hbd;have hl:listed[e.on]?=some true:=by
     have:=h3 e he hbd;rcases d_ D.ls (show e.on<l.length by omega)with hb|hb
     ·exact hb
     ·simp[Array.getD_eq_getD_getElem?,hb]at this
    rcases Jd with rfl|Jd
    ·exact hl
    ·exact D.back _ hl h Jd
   have wu:(listed.setIfInBounds i true).toList.count false=fuel:=by
    have:=count_set listed.toList i (by simpa using hu);simp only[Array.toList_setIfInBounds];omega
   have Ay:=ng D.pg ho;have hAt:l.toArray[i]?=some o:=by simpa using ho
   unfold wpOp;rw[hAt];simp only;have hm:=D.C0 i sL;rcases List.mem_append.1 hm with hm|hm
   ·obtain⟨wb,v,b,r⟩:=D.recs i hm hu;have Cu:=D.wk hm hu hp r;unfold looks at Cu;have D':=D.did hm hu hp r;have rg:=r.g;have re:=r.e;rw[CI]at Cu D' rg re;rw[lM Cu rg];cases b with
    |true=>
     rw[if_pos rfl]at re;rw[if_pos rfl];refine .inl ?_;unfold Oper.wp;rw[jO Ay.2.1 Cu,Av D.gl D.hl D.S re];simp only[Oper.upon_value];exact ih D' hh wu
    |false=>
     rw[if_neg (by simp)]at re;rw[if_neg (by simp)];subst re;rw[show(undef:Value)=den ids cE by simp[cE,den]];exact ih D' hh wu
   ·rcases D.zk hh with rfl|⟨x,hx,hxm,hX⟩
    ·cases hm
    have hxA:oO (aK l x)=false:=by rcases gX (aK l x)with h|h|h<;>simp_all
    have hxu:=D.mE x hxm hxA;have acr:=DI.first (gu D.gH).2.2 hx;cases hA:oO (aK l i)with
    |true=>
     obtain⟨U8,d,t,z,hd,uh,hz⟩:=Ay.2.2 (by rw[<-CI];exact hA);have D':=D.WR hm hu hp (by rw[CI];exact uh) hz (by rw[CI];exact hd);rw[CI]at D';rw[if_pos (by simp[Region.wanted,U8])];refine .inl ?_;have aY:(execOp a.eval o).run C.P w=.ok (.value (.pointer (some ⟨w.heap.size,0,none⟩))) (w.alloc (.cells (ab [] z).toArray t)):=by
      obtain⟨v0,z1,z2⟩:=jM (P:=C.P) (w:=w) (ids:=[]) hz;have Eu:v0.cells=(ab [] z).toArray:=by apply Array.ext';simpa using z2
      unfold execOp;simp only[uh,Instr.alloc,Sem.run_bind,z1,Result.andThen_ok,newVar,newRow,Eu];rfl
     unfold Oper.wp;rw[aY];simp only[Oper.upon_value];exact ih D' hh wu
    |false=>
     have sV:i=x:=by
      rcases acr i hm hA with h|h
      ·exact h
      ·have:=hp x (h.xj hX hA);rw[hxu]at this;cases this
     subst sV;obtain⟨qD,r',fr',ids',bl',Z',D1⟩:=D.C6 rest hx hp;have Cu:=D1.LZ rfl hu hp;unfold looks at Cu;obtain⟨b,hg,hb⟩:=C4 D1.vc;rw[CI]at Cu hg hb;rw[lM Cu hg];have nxt:∀{x:V} {more:List Nat} {bl2:List VB} {ch2:List G} {w':World},uH C call l.toArray (VL l r') (put fr' o.dst x) bl2 ch2 k->(ids'++more).length=bl2.length->St ms w0 (lits (ids'++more) (ids'++more) bl2++af ch2 (Z'.map (·.2)++R)) w'->
      (more=[]\/cH ids'.length fr'=true)->(kD q o=true->∃e,bl2=bl'++e)->wpAny C.P .any l.toArray Q fuel (listed.setIfInBounds i true) (a.put o.dst (den (ids'++more) x)) w':=by
      intro x more bl2 ch2 w' g1 g2 g3 g4 g5;have D2:=D1.WX hX hp (x:=x) (more:=more) (by rw[CI];exact g1) g2 g3 g4 (by rw[CI];exact g5);rw[CI]at D2;obtain⟨amY,r3,fr3,D3,hh3⟩:=D2.ni r';exact ih D3 hh3 wu
     cases b with
     |true=>
      rw[if_pos rfl]at hb;rw[if_pos rfl];refine .inl ?_;cases hqo:kD q o with
      |true=>
       refine v8 hc D1.gl D1.hl D1.S (C5 EH hqo hb) (jO Ay.2.1 Cu) ?_;intro x more bl2 ch2 w' g1 g2 g3 g4;exact nxt g3.1 g1 g2 g4 (λ_=>g3.2)
      |false=>
       refine v8 hc D1.gl D1.hl D1.S hb (jO Ay.2.1 Cu) ?_;intro x more bl2 ch2 w' g1 g2 g3 g4;exact nxt g3 g1 g2 g4 (λe=>by rw[hqo]at e;cases e)
     |false=>
      rw[if_neg (by simp)]at hb;rw[if_neg (by simp)];have:=nxt (x:=cE) (more:=[]) (bl2:=bl') (ch2:=ch) (w':=w) hb (by simpa using D1.hl) (by simpa using D1.S) (.inl rfl) (λ_=>⟨[],by simp⟩);simpa[cE,den]using this
theorem nV {i j:Nat} (m:Nat):(fb l i j)[m]?=(l[m]?).map λo=>if m=j then upE i o else o:=by
 unfold fb;split
 ·rename_i o ho;have hj:j<l.length:=by rcases Nat.lt_or_ge j l.length with h|h;exact h;simp[h]at ho
  by_cases e:m=j
  ·subst e;simp[hj,ho];have:l[m]?=some o:=ho;rw[List.getElem?_eq_getElem hj]at this;rw[Option.some.inj this]
  ·rw[List.getElem?_set_ne (λh=>e h.symm)];cases l[m]?<;>simp[e]
 ·rename_i ho;by_cases e:m=j
  ·subst e;rw[ho];rfl
  ·cases l[m]?<;>simp[e]
theorem qG {i j:Nat}:(fb l i j).length=l.length:=by unfold fb;split<;>simp
theorem Je {i j m:Nat} (h:m≠j):aK (fb l i j) m=aK l m:=by
 unfold aK;rw[nV];cases l[m]?<;>simp[h]
theorem C7 {i j m:Nat} (h:m∈Region.ready .any (fb l i j).toArray listed):m∈Region.ready .any l.toArray listed:=by
 obtain⟨o,ho,h2,h3⟩:=(eb _ _ _).1 h;rw[nV]at ho;obtain⟨o',yD,e⟩:=Option.map_eq_some_iff.1 ho;refine(eb _ _ _).2 ⟨o',yD,h2,λe' he hb=>h3 e' ?_ hb⟩;subst e;split
 ·simp[upE,he]
 ·exact he
theorem nW {i j m:Nat} (hm:m≠j\/listed[i]?=some true) (h:m∈Region.ready .any l.toArray listed):m∈Region.ready .any (fb l i j).toArray listed:=by
 obtain⟨o,ho,h2,h3⟩:=(eb _ _ _).1 h;refine(eb _ _ _).2 ⟨_,by rw[nV,ho];rfl,h2,λe he hb=>?_⟩;split at he
 ·rename_i e1;simp only[upE,Array.mem_push]at he;rcases he with he|rfl
  ·exact h3 e he hb
  ·rcases hm with hm|hm
   ·exact absurd e1 hm
   ·simp[Array.getD_eq_getD_getElem?,hm]
 ·exact h3 e he hb
theorem PL {i j:Nat} (ts:Array Value):yielded (fb l i j).toArray ts=yielded l.toArray ts:=by
 funext n;have:((fb l i j).toArray[n]?).bind (·.dst)=(l.toArray[n]?).bind (·.dst):=by
  simp only[List.getElem?_toArray,nV];cases l[n]?with
  |none=>rfl
  |some o=>simp only[Option.map_some,Option.bind_some];split<;>rfl
 unfold yielded;rw[this]
theorem Az {P:Program} {i j m:Nat} {K:Act->World->Prop} (h:wpOp P (fb l i j).toArray Q m K a w):wpOp P l.toArray Q m K a w:=by
 unfold wpOp at h⊢;simp only[List.getElem?_toArray,nV,PL]at h⊢;cases ho:l[m]?with
 |none=>rw[ho]at h;exact h
 |some o=>
  rw[ho]at h;simp only[Option.map_some]at h⊢;by_cases e:m=j
  ·rw[if_pos e]at h;cases o;exact h
  ·rw[if_neg e]at h;exact h
theorem C8 {P:Program} {i j:Nat}:∀(fuel:Nat) {listed:Array Bool} {a:Act} {w:World},listed[i]?=some true->wpAny P .any (fb l i j).toArray Q fuel listed a w->wpAny P .any l.toArray Q fuel listed a w:=by
 intro fuel;induction fuel with
 |zero=>intro listed a w hi h;exact⟨List.eq_nil_iff_forall_not_mem.2 λm hm=>(by have:=nW (j:=j) (.inr hi) hm;rw[h.1]at this;cases this),h.2⟩
 |succ fuel ih=>
  intro listed a w hi h;refine⟨λhr=>h.1 (List.eq_nil_iff_forall_not_mem.2 λm hm=>by have:=C7 hm;rw[hr]at this;cases this),λm hm=>?_⟩;refine wpOp_mono (λa w h=>ih ?_ h) (Az (h.2 m (nW (.inr hi) hm)));have hs:i<listed.size:=by rcases Nat.lt_or_ge i listed.size with h|h;exact h;simp[h]at hi
  rw[Array.getElem?_setIfInBounds];split
  ·simp[*]
  ·exact hi
theorem lN {l:List Oper} (h:(l.all λo=>!(oO o))=true) (m:Nat):oO (aK l m)=false:=by
 unfold aK;split
 ·rename_i o ho;have:=List.all_eq_true.1 h o (List.mem_of_getElem? ho);simpa using this
 ·rfl
theorem Mb {i j:Nat} {VM VN:List Nat} (hc:sY C.P C.gl call) (EH:wq q call) (Cc:i≠j) (agC:yH (fb l i j) VM=true) (agD:kp (fb l i j) (fb l i j).length=true) (agE:yH (fb l j i) VN=true) (agF:kp (fb l j i) (fb l j i).length=true)
 (hA1:((fb l i j).all λo=>!(oO o))=true) (hA2:((fb l j i).all λo=>!(oO o))=true)
 (hk:∀fr' m bl' ch' w',(eg++m).length=bl'.length->St ms w0 (lits (eg++m) (eg++m) bl'++af ch' R) w'->k fr' bl' ch'->Q .normal (act (eg++m) fr') w'):
 ∀(fuel:Nat) {PM s1 PN s2:List Nat} {fr1 VJ:List V} {listed:Array Bool} {a:Act} {w:World},
  DI C call q (fb l i j) VM R ms w0 k jv eg PM (i::s1) fr1 ids bl ch Z listed a w->yz (aK (fb l i j) i)=false->DI C call q (fb l j i) VN R ms w0 k jv eg PN (j::s2) VJ ids bl ch Z listed a w->yz (aK (fb l j i) j)=false->
  listed.toList.count false=fuel->wpAny C.P .any l.toArray Q fuel listed a w:=by
 intro fuel;induction fuel with
 |zero=>
  intro PM s1 PN s2 fr1 VJ listed a w D1 WY D2 WZ PK;exfalso;have hu:=D1.mE i (by simp) (lN hA1 i);have:=count_set listed.toList i (by simpa using hu);omega
 |succ fuel ih=>
  intro PM s1 PN s2 fr1 VJ listed a w D1 WY D2 WZ PK;have W1:=kO hc EH agC agD hk (fuel+1) D1 (.inr ⟨i,s1,rfl,WY⟩) PK;have W2:=kO hc EH agE agF hk (fuel+1) D2 (.inr ⟨j,s2,rfl,WZ⟩) PK;have hX1:zi (aK (fb l i j) i)=true:=by have:=lN hA1 i;rcases gX (aK (fb l i j) i)with h|h|h<;>simp_all
  have hX2:zi (aK (fb l j i) j)=true:=by have:=lN hA2 j;rcases gX (aK (fb l j i) j)with h|h|h<;>simp_all
  have hui:=D1.mE i (by simp) (lN hA1 i);have huj:=D2.mE j (by simp) (lN hA2 j);have CT:∀{m:Nat},listed[m]?=some false->(listed.setIfInBounds m true)[m]?=some true:=λ{m} h=>by
   have hs:m<listed.size:=by rcases Nat.lt_or_ge m listed.size with h'|h';exact h';simp[h']at h
   simp[hs]
  refine⟨λhr=>W1.1 (List.eq_nil_iff_forall_not_mem.2 λm hm=>by have:=C7 hm;rw[hr]at this;cases this),λm hm=>?_⟩;by_cases e1:m=i
  ·subst e1;exact wpOp_mono (λa w h=>C8 fuel (CT hui) h) (Az (W1.2 m (nW (.inl Cc) hm)))
  by_cases e2:m=j
  ·subst e2;exact wpOp_mono (λa w h=>C8 fuel (CT huj) h) (Az (W2.2 m (nW (.inl (λh=>Cc h.symm)) hm)))
  obtain⟨o,ho,h2,_⟩:=(eb l listed m).1 hm;have OE:m<l.length:=by rcases Nat.lt_or_ge m l.length with h|h;exact h;simp[h]at ho
  have hu:listed[m]?=some false:=by
   rcases D1.bit (D1.C0 m (by rw[qG];exact OE))with hb|hb
   ·simp[Array.getD_eq_getD_getElem?,hb]at h2
   ·exact hb
  have aba:∀{l':List Oper} {ko:List Nat},yH l' ko=true->kp l' l'.length=true->m∈Region.ready .any l'.toArray listed->(∀jj,listed[jj]?=some true->∀h,nO ko h jj=true->listed[h]?=some true)->listed.size=l'.length->∀h,nO ko h m=true->listed[h]?=some true:=by
   intro l' ko SO ZC Wz back hls h hb;obtain⟨o',yD,_,h3⟩:=(eb l' listed m).1 Wz;obtain⟨e,he,hbd,Jd⟩:=zj SO yD hb;have iK:=DI.nj ZC yD he hbd;have hl:listed[e.on]?=some true:=by
    have:=h3 e he hbd;rcases d_ hls iK with hb|hb
    ·exact hb
    ·simp[Array.getD_eq_getD_getElem?,hb]at this
   rcases Jd with rfl|Jd
   ·exact hl
   ·exact back _ hl h Jd
  have hp1:=aba agC agD (nW (.inl e2) hm) D1.back D1.ls;have WQ:=aba agE agF (nW (.inl e1) hm) D2.back D2.ls;have inA:∀{l':List Oper} {ko s qD:List Nat} {x:Nat},eT (lL q l' ko) (qD++(x::s))=true->zi (aK l' x)=true->oO (aK l' m)=false->listed[x]?=some false->(∀h,nO ko h m=true->listed[h]?=some true)->m∈qD++(x::s)->m≠x->m∈qD:=by
   intro l' ko s qD x hp hx ha hux SS hmm e_;rcases List.mem_append.1 hmm with h|h
   ·exact h
   ·exfalso;rcases List.mem_cons.1 h with h|h
    ·exact e_ h
    ·have Mc:=(gu hp).2.2;simp only[eT,Bool.and_eq_true,List.all_eq_true]at Mc;have:=SS x ((nf (Mc.1 m h)).xj hx ha);rw[hux]at this;cases this
  have m1:=inA D1.gH hX1 (lN hA1 m) hui hp1 (D1.C0 m (by rw[qG];exact OE)) e1;have m2:=inA D2.gH hX2 (lN hA2 m) huj WQ (D2.C0 m (by rw[qG];exact OE)) e2;obtain⟨f1,v1,b1,r1⟩:=D1.recs m m1 hu;obtain⟨f2,v2,b2,r2⟩:=D2.recs m m2 hu;have o1:aK (fb l i j) m=o:=by rw[Je e2];exact nR ho
  have o2:aK (fb l j i) m=o:=by rw[Je e1];exact nR ho
  have k1:=D1.wk m1 hu hp1 r1;have k2:=D2.wk m2 hu WQ r2;have SU:=D1.did m1 hu hp1 r1;have HC:=D2.did m2 hu WQ r2;have g1:=r1.g;have g2:=r2.g;have q1:=r1.e;have q2:=r2.e;unfold looks at k1 k2;rw[o1]at k1 SU g1 q1;rw[o2]at k2 HC g2 q2;have w1:=lM k1 g1;have w2:=lM k2 g2;rw[PL]at w1 w2;obtain rfl:b1=b2:=by rw[<-w1,<-w2]
  have Ay:=ng D1.pg (show(fb l i j)[m]?=some o by rw[nV,ho];simp[e2]);have wu:(listed.setIfInBounds m true).toList.count false=fuel:=by
   have:=count_set listed.toList m (by simpa using hu);simp only[Array.toList_setIfInBounds];omega
  unfold wpOp;rw[show l.toArray[m]?=some o by simpa using ho];simp only;rw[w1];cases b1 with
  |true=>
   rw[if_pos rfl]at q1 q2;rw[if_pos rfl];refine .inl ?_;have Md:(execOp a.eval o).run C.P w=.ok (.value (den ids v1)) w:=by rw[jO Ay.2.1 k1,Av D1.gl D1.hl D1.S q1]
   have agG:(execOp a.eval o).run C.P w=.ok (.value (den ids v2)) w:=by rw[jO Ay.2.1 k2,Av D2.gl D2.hl D2.S q2]
   have hv:den ids v2=den ids v1:=by rw[Md]at agG;simpa using agG.symm
   rw[hv]at HC;unfold Oper.wp;rw[Md];simp only[Oper.upon_value];exact ih SU WY HC WZ wu
  |false=>
   rw[if_neg (by simp)]at q1 q2;rw[if_neg (by simp)];subst q1 q2;rw[show(undef:Value)=den ids cE by simp[cE,den]];exact ih SU WY HC WZ wu
end
end Vx
