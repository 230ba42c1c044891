/- Part 8 of the proof. -/
import Derived.Test.YtggfpcggakghnaaGreatDoorS7
set_option linter.all false
set_option maxRecDepth 100000
set_option maxHeartbeats 4000000
open Go.Proofs.Tryz
open Go.IntKind (u8 u16 u32 u64 i64)
namespace Go.Proofs.YtggfpcggakghnaaGreatDoor
open Go Go.RowKit Go.BigFrame Sx Vx
variable{fr:Sd.Reply->Nat×Sd.Byt}
def gK:VB:=⟨false,⟨0,(0,0)⟩,[]⟩
theorem RT {ids:List Nat}:∀(is:List Nat) (bl:List VB),is.length=bl.length->lits ids is bl=(List.range bl.length).map λj=>aE ids (is.getD j 0) (bl.getD j gK):=by
 intro is bl h;apply List.ext_getElem?;intro j;by_cases hj:j<bl.length
 ·have hb:bl[j]?=some bl[j]:=List.getElem?_eq_getElem hj;rw[u_ is bl h hb,List.getElem?_map,List.getElem?_range hj];simp[List.getD,hb]
 ·rw[List.getElem?_eq_none (by rw[iQ is bl h];omega),List.getElem?_eq_none (by simp;omega)]
theorem ux {bl:List VB} {ids:List Nat} (h:ids.length=bl.length) {is:List Nat} (hn:is.Nodup) (iK:∀i∈is,i<bl.length):
 ∃r:List Nat,(∀j∈r,j∉is)/\∀bl':List VB,bl'.length=bl.length->(lits ids ids bl').Perm (is.map (λj=>aE ids (ids.getD j 0) (bl'.getD j gK))++r.map λj=>aE ids (ids.getD j 0) (bl'.getD j gK)):=by
 obtain⟨r,hr⟩:=mW is (List.range bl.length) hn (λx hx=>List.mem_range.2 (iK x hx));refine⟨r,?_,?_⟩
 ·intro j hj hji;have VP:(is++r).Nodup:=hr.nodup_iff.1 List.nodup_range;rw[List.nodup_append]at VP;exact VP.2.2 j hji j hj rfl
 ·intro bl' hl;rw[RT ids bl' (by omega),hl,<-List.map_append];exact hr.map _
theorem Ni {bl:List VB} {ids r:List Nat} {a b c:Nat} {x y z:VB} (hr:∀j∈r,j≠a/\j≠b/\j≠c):
 (r.map λj=>aE ids (ids.getD j 0) ((((bl.set a x).set b y).set c z).getD j gK))=r.map λj=>aE ids (ids.getD j 0) (bl.getD j gK):=by
 apply List.map_congr_left;intro j hj;obtain⟨h1,h2,h3⟩:=hr j hj;simp only[List.getD,List.getElem?_set];rw[if_neg (Ne.symm h3),if_neg (Ne.symm h2),if_neg (Ne.symm h1)]
theorem cG {bl:List VB} {i:Nat} {b:VB} (h:bl[i]?=some b):bl.getD i gK=b:=by simp[List.getD,h]
theorem cF {ids ids':List Nat} {n:Nat} {b:VB} (h:cH 0 b.c=true):aE ids n b=aE ids' n b:=by
 have e1:ab ids b.c=ab [] b.c:=by have:=bU (ids:=[]) (more:=ids) b.c h;simpa using this
 have e2:ab ids' b.c=ab [] b.c:=by have:=bU (ids:=[]) (more:=ids') b.c h;simpa using this
 unfold aE;rw[e1,e2]
abbrev a_ (a b c:Nat):List Nat:=[1,0,a,b,c]
theorem Yp {ids:List Nat} {ic a b c:Nat} (n:Nat) {d:FD} (F:bN fr d) (h:ids.getD ic 0=b):aE ids n (w7 ic F)=aE (a_ a b c) n (w7 3 F):=by
 have e:(a_ a b c).getD 3 0=b:=rfl;simp only[aE,w7,ab,cl,den,h,e]
theorem RU {ids:List Nat} {it a b c:Nat} (n:Nat) {k:LK} {s:Sd.Scene} (h:ids.getD it 0=c):aE ids n (ew k it s)=aE (a_ a b c) n (ew k 4 s):=by
 have e:(a_ a b c).getD 4 0=c:=rfl;simp only[aE,ew,zB,Cz,ab,cl,den,h,e]
def Body (f:FuncId) (M:SM fr):Prop:=∀(ar:List V) (k:LK) (s:Sd.Scene) (F:bN fr (bA k s)) (Kb:SK fr k) (a b c:Nat) (R:List av) (ms:List Nat) (w0 w:World),cH 0 ar=true->s.c.p.queue=k.most->M ar k s F Kb->
 St ms w0 (lits (a_ a b c) (a_ a b c) (cS k s F)++(F.B++R)) w->
 aj prog f (ao (a_ a b c) (.ptr 2 0::ar)).toArray w λv w'=>∃x s' F',v=den [] x/\fK 0 x=true/\s'.c.p=s.c.p/\Kb x s' F'/\St ms w0 (lits (a_ a b c) (a_ a b c) (cS k s' F')++(F'.B++R)) w'
theorem iW (s:Sd.Scene):cH 0 (gP s).c=true:=rfl
theorem hJ (k:LK):cH 0 (aG k).c=true:=rfl
theorem uy (k:LK):cH 0 (iA k).c=true:=rfl
structure Yq (ids:List Nat) (bl:List VB) (is ic it:Nat) (k:LK) (s:Sd.Scene) (F:bN fr (bA k s)):Prop where
 h0:bl[0]?=some (aG k)
 h1:bl[1]?=some (iA k)
 hs:bl[is]?=some (w7 ic F)
 hc:bl[ic]?=some (ew k it s)
 ht:bl[it]?=some (gP s)
theorem D9 {ids:List Nat} {bl:List VB} {is ic it:Nat} {k:LK} {s:Sd.Scene} {F:bN fr (bA k s)} (H:Yq ids bl is ic it k s F) (hg:Gl gS ids):
 ([0,1,is,ic,it].map λj=>aE ids (ids.getD j 0) (bl.getD j gK))=lits (a_ (ids.getD is 0) (ids.getD ic 0) (ids.getD it 0)) (a_ (ids.getD is 0) (ids.getD ic 0) (ids.getD it 0)) (cS k s F):=by
 have g0:=(hg 1 0 rfl).2;have g1:=(hg 0 1 rfl).2;simp only[List.map_cons,List.map_nil,cG H.h0,cG H.h1,cG H.hs,cG H.hc,cG H.ht,g0,g1,cS,lits];rw[cF (ids':=a_ (ids.getD is 0) (ids.getD ic 0) (ids.getD it 0)) (hJ k),cF (ids':=a_ (ids.getD is 0) (ids.getD ic 0) (ids.getD it 0)) (uy k),cF (ids':=a_ (ids.getD is 0) (ids.getD ic 0) (ids.getD it 0)) (iW s),
  Yp (a:=ids.getD is 0) (c:=ids.getD it 0) _ F rfl,RU (a:=ids.getD is 0) (b:=ids.getD ic 0) _ rfl]
theorem nx {bl:List VB} {i:Nat} {b:VB} (h:i<bl.length):(bl.set i b)[i]?=some b:=by simp[h]
theorem eG {bl:List VB} {i j:Nat} {b:VB} (h:i≠j):(bl.set i b)[j]?=bl[j]?:=by rw[List.getElem?_set];simp[h]
theorem bO {bl:List VB} {i:Nat} {b:VB} (h:bl[i]?=some b):i<bl.length:=by
 rcases Nat.lt_or_ge i bl.length with h'|h'
 ·exact h'
 ·simp[h']at h
theorem RV {ids:List Nat} {bl:List VB} {is ic it:Nat} {k:LK} {s:Sd.Scene} {F:bN fr (bA k s)} (H:Yq ids bl is ic it k s F) (h1:1<is) (h2:1<ic) (h3:1<it) (n1:is≠ic) (n2:is≠it) (n3:ic≠it) {s':Sd.Scene} (F':bN fr (bA k s')):
 Yq ids (Bn bl is ic it k s' F') is ic it k s' F':=by
 have l1:=bO H.hs;have l2:=bO H.hc;have l3:=bO H.ht;unfold Bn;refine⟨?_,?_,?_,?_,?_⟩
 ·rw[eG (by omega),eG (by omega),eG (by omega)];exact H.h0
 ·rw[eG (by omega),eG (by omega),eG (by omega)];exact H.h1
 ·rw[eG (by omega),eG (by omega),nx l1]
 ·rw[eG (by omega),nx (by simpa using l2)]
 ·rw[nx (by simpa using l3)]
theorem RW {f:Nat} {M:SM fr} (h:Body f M):Sound prog gS f (pP M):=by
 intro args ids bl ch R ms w0 w K hg hl S hc;unfold pP at hc;split at hc
 ·rename_i is ar g rest;split at hc
  ·rename_i ic vs vr hs;split at hc
   ·rename_i cc OG;split at hc
    ·rename_i x hx;split at hc
     ·rename_i tc VW;split at hc
      ·rename_i y hy;cases hq:cH 0 ar&&(Nat.blt 1 is&&(Nat.blt 1 ic&&(Nat.blt 1 x.it&&(!(Nat.beq is ic)&&(!(Nat.beq is x.it)&&!(Nat.beq ic x.it))))))with
       |false=>rw[hq]at hc;exact hc.elim
       |true=>
        rw[hq]at hc;simp only[Bool.and_eq_true,Bool.not_eq_true',Nat.blt_eq]at hq;obtain⟨q0,q1,q2,q3,q4,q5,q6⟩:=hq;have n1:is≠ic:=λe=>by rw[e,Nat.beq_refl]at q4;cases q4
        have n2:is≠x.it:=λe=>by rw[e,Nat.beq_refl]at q5;cases q5
        have n3:ic≠x.it:=λe=>by rw[e,Nat.beq_refl]at q6;cases q6
        obtain⟨⟨e1,e2,e3,e4,e5,e6,e7,e8⟩,hM⟩:=hc;obtain rfl:=nv hx;obtain rfl:=jz hy;subst e1 e2;have H:Yq ids bl is ic x.it g.d.k (lP x y g.d g.dx g.sx) (show bN fr (bA g.d.k (lP x y g.d g.dx g.sx))from g.F):=by
         refine⟨e3,e4,hs,?_,?_⟩
         ·rw[OG];congr 1;unfold ew;rw[<-e5]
         ·rw[VW];congr 1;unfold gP;have:y=VV (lP x y g.d g.dx g.sx):=by
           obtain⟨y1,y2,y3,y4,y5,y6,y7,y8⟩:=y;simp only at e6 e7;subst e6 e7;rfl
          rw[<-this]
        have l1:=bO H.hs;have l2:=bO H.hc;have l3:=bO H.ht;obtain⟨r,hr,hp⟩:=ux (bl:=bl) (ids:=ids) hl (is:=[0,1,is,ic,x.it]) (by simp;omega) (by
         intro i hi;simp only[List.mem_cons,List.not_mem_nil,or_false]at hi;rcases hi with rfl|rfl|rfl|rfl|rfl<;>omega)
        have dP:=hp bl rfl;rw[D9 H hg]at dP;have S1:=S.perm (bs':=lits (a_ (ids.getD is 0) (ids.getD ic 0) (ids.getD x.it 0)) (a_ (ids.getD is 0) (ids.getD ic 0) (ids.getD x.it 0)) (cS g.d.k (lP x y g.d g.dx g.sx) g.F)++(g.F.B++((r.map λj=>aE ids (ids.getD j 0) (bl.getD j gK))++af rest R))) (by
         refine(dP.append_right _).trans ?_;rw[List.append_assoc];refine List.Perm.append_left _ ?_;simp only[af,<-List.append_assoc];exact List.Perm.append_right _ List.perm_append_comm)
        have D_:=h ar g.d.k (lP x y g.d g.dx g.sx) g.F _ _ _ _ _ ms w0 w q0 e8 hM S1;have a9:ao ids (.ptr is 0::ar)=ao (a_ (ids.getD is 0) (ids.getD ic 0) (ids.getD x.it 0)) (.ptr 2 0::ar):=by
         have a1:ao ids ar=ao [] ar:=by have:=dW (ids:=[]) (more:=ids) ar q0;simpa using this
         have a2:ao (a_ (ids.getD is 0) (ids.getD ic 0) (ids.getD x.it 0)) ar=ao [] ar:=by have:=dW (ids:=[]) (more:=a_ (ids.getD is 0) (ids.getD ic 0) (ids.getD x.it 0)) ar q0;simpa using this
         simp only[ao,den,a1,a2];rfl
        rw[a9];refine D_.mono ?_;rintro v w' ⟨xv,s',F',rfl,hv,SS,hK,S2⟩;refine⟨xv,[],Bn bl is ic x.it g.d.k s' F',cB g.d.k s' F'::rest,?_,?_,?_,hK⟩
        ·have:=bC (ids:=[]) (more:=ids++[]) xv hv;simpa using this.symm
        ·simp[Bn,hl]
        ·have H':=RV H q1 q2 q3 n1 n2 n3 F';have gy:=hp (Bn bl is ic x.it g.d.k s' F') (by simp[Bn]);rw[D9 H' hg]at gy;have w8:(r.map λj=>aE ids (ids.getD j 0) ((Bn bl is ic x.it g.d.k s' F').getD j gK))=r.map λj=>aE ids (ids.getD j 0) (bl.getD j gK):=by
          unfold Bn;refine Ni ?_;intro j hj;have:=hr j hj;simp only[List.mem_cons,List.not_mem_nil,or_false,not_or]at this;omega
         rw[w8]at gy;simp only[List.append_nil];refine S2.perm ?_;refine List.Perm.trans ?_ (gy.symm.append_right _);rw[List.append_assoc];refine List.Perm.append_left _ ?_;simp only[af,<-List.append_assoc];exact List.Perm.append_right _ List.perm_append_comm
      ·exact hc.elim
     ·exact hc.elim
    ·exact hc.elim
   ·exact hc.elim
  ·exact hc.elim
 ·exact hc.elim
def ah (tk:Nat->Sd.Byt->Option Sd.bW):Sd.Crypt:=⟨tk,λk s n=>dq k.1 k.2 s n,λk s r nc pf=>lY k.1 k.2 s r nc pf,λk s r nc=>jl k.1 k.2 s r nc,λk s n f=>eV k s (n-8) f,qW,dD⟩
def aO (k:LK) (s:Sd.Scene) (Kb:SK fr k):V->List VB->List (Gh fr)->Prop:=λv bl ch=>∃s' F',fK 0 v=true/\s'.c.p=s.c.p/\Kb v s' F'/\bl.take 5=cS k s' F'/\ch=[cB k s' F']
theorem dJ {f n:Nat} {M:SM fr} {L:List (dI (Gh fr))} (hL:ai prog gS L)
 (h:∀(ar:List V) (k:LK) (s:Sd.Scene) (F:bN fr (bA k s)) (Kb:SK fr k),cH 0 ar=true->s.c.p.queue=k.most->M ar k s F Kb->cJ (dR prog gS L) n f (.ptr 2 0::ar) (cS k s F) [cB k s F] (aO k s Kb)):Body f M:=by
 intro ar k s F Kb a b c R ms w0 w h0 hq hM S;have hg:Gl gS (a_ a b c):=by
  intro g i iX;unfold gS at iX;split at iX
  ·obtain rfl:=Option.some.inj iX;exact⟨by simp,rfl⟩
  ·obtain rfl:=Option.some.inj iX;exact⟨by simp,rfl⟩
  ·cases iX
 refine(bw hL.T hL.Q n (C:=dR prog gS L) (ids:=a_ a b c) (bl:=cS k s F) (ch:=[cB k s F]) (R:=R) (ms:=ms) (w0:=w0) (w:=w) hg rfl (by
  have e:af [cB k s F] R=F.B++R:=rfl;rw[e];exact S) (h ar k s F Kb h0 hq hM)).mono ?_
 rintro v w' ⟨x,more,bl',ch',rfl,h1,S',s',F',hv,hp,hK,hb,rfl⟩;have ev:den (a_ a b c++more) x=den [] x:=by have:=bC (ids:=[]) (more:=a_ a b c++more) x hv;simpa using this
 refine⟨x,s',F',ev,hv,hp,hK,?_⟩;have hl5:(cS k s' F').length=5:=rfl;have gz:bl'=cS k s' F'++bl'.drop 5:=by rw[<-hb,List.take_append_drop]
 rw[gz]at S';have e2:lits (a_ a b c++more) (a_ a b c++more) (cS k s' F'++bl'.drop 5)=lits (a_ a b c) (a_ a b c) (cS k s' F')++lits (a_ a b c++more) more (bl'.drop 5):=by
  rw[aI _ _ _ _ (by rw[hl5];rfl)];rw[aJ (ids:=a_ a b c) (more:=more) (a_ a b c) (cS k s' F') rfl]
 rw[e2]at S';refine S'.sub ?_;have e3:af [cB k s' F'] R=F'.B++R:=rfl;rw[e3,List.append_assoc];exact List.Sublist.append_left (List.sublist_append_right _ _) _
theorem c_ {f:Nat} {M:SM fr} (h:Body f M):oP prog gS ⟨f,false,pP M⟩:=⟨RW h,λe=>by cases e⟩
def dv (s:Sd.Scene):Sd.Scene:={s with c:={s.c with doors:=r3 (s.c.doors 0) (s.c.doors 1) (s.c.doors 2) s.c.doors,tab:=⟨s.c.tab.aA,r3 (s.c.tab.ay 0) (s.c.tab.ay 1) (s.c.tab.ay 2) s.c.tab.ay⟩}}
theorem iB (s:Sd.Scene):dv s=s:=by
 unfold dv;rw[vn,vn]
theorem H7 {k:LK} {s s':Sd.Scene} {M:(s:Sd.Scene)->bN fr (bA k s)->Prop} (e:s'=s) (F:bN fr (bA k s)) (h:M s F) (hx:bA k s=bA k s':=by rfl):M s' (hx▸F):=by
 subst e;exact h
theorem fC {ar:List V} {k:LK} {s:Sd.Scene} {M:SM fr} {F:bN fr (bA k s)} {K:SK fr k} (h:M ar k s F K):M ar k (dv s) F K:=H7 (M:=λs F=>M ar k s F K) (iB s) F h
def hU (C:Sd.Crypt):SM fr:=λar k s F K=>match ar with
 |[.int .i64 kd,.int .i64 so,.int .i64 sq,.int .i64 co,.int .i64 ho]=>s.recs.length<=1000/\∀F',K (.az []) (s.record C kd so sq co ho) F'
 |_=>False
theorem Ea (r c s k t:av) (B X R:List av):([r,c,s,k,t]++((B++X)++R)).Perm ([r,s,k]++(B++(c::t::(X++R)))):=by
 refine List.Perm.cons r ?_;have h1:(c::s::k::t::((B++X)++R)).Perm (s::k::c::t::((B++X)++R)):=
  (List.Perm.swap s c _).trans (List.Perm.cons s (List.Perm.swap k c _))
 refine h1.trans (List.Perm.cons s (List.Perm.cons k ?_));have h2:([c,t]++(B++(X++R))).Perm (B++([c,t]++(X++R))):=by
  rw[<-List.append_assoc,<-List.append_assoc B];exact List.Perm.append_right _ List.perm_append_comm
 simpa[List.append_assoc]using h2
theorem aen {k:LK} {s:Sd.Scene} (F:bN fr (bA k s)):F.B=F.Br++(F.Bs++(F.Bf++(F.Bq++F.Bk))):=rfl
theorem Eb (tk:Nat->Sd.Byt->Option Sd.bW):Body (fr:=fr) 90 (hU (ah tk)):=by
 intro ar k s F Kb a b c R ms w0 w h0 hq hM S;unfold hU at hM;split at hM
 ·rename_i kd so sq co ho;obtain⟨hn,hK⟩:=hM;have e1:lits (a_ a b c) (a_ a b c) (cS k s F)=[⟨1,false,.cells (ak .u32 64 aX) k.tg (0,0)⟩,aE (a_ a b c) 0 (iA k),⟨a,true,.cells #[.pointer (some ⟨b,0,none⟩),F.vs,F.vr] 128 (0,0)⟩,⟨b,true,.cells (mz s.c.p k.ka k.kn k.kc s.c.t k.bq s.c.doors c s.c.samples s.c.beyond s.c.mode s.c.bj s.c.pt s.c.head) 105 (0,0)⟩,aE (a_ a b c) c (gP s)]:=by kernel_rfl
  rw[e1,aen]at S;have S1:=S.perm (Ea _ _ _ _ _ _ _ _);have e2:(ao (a_ a b c) (.ptr 2 0::[.int .i64 kd,.int .i64 so,.int .i64 sq,.int .i64 co,.int .i64 ho])).toArray=#[.pointer (some ⟨a,0,none⟩),.int .i64 kd,.int .i64 so,.int .i64 sq,.int .i64 co,.int .i64 ho]:=by kernel_rfl
  rw[e2];refine(Yj _ _ _ _ _ _ _ _ _ _ _ _ _ _ _ _ _ _ _ _ _ _ _ _ kd so sq co ho w S1 F.hr hn).mono ?_;rintro v w1 ⟨x1,c1,yA,rfl,vm,S2⟩;have hl:(s.record (ah tk) kd so sq co ho).recs.length=s.recs.length+1:=by simp[Sd.Scene.record]
  have mT:fa 6 75 (oT (s.record (ah tk) kd so sq co ho).recs) x1 (s.record (ah tk) kd so sq co ho).recs.length c1 yA:=by rw[hl];exact vm
  let F':bN fr (bA k (s.record (ah tk) kd so sq co ho)):={F with xr:=x1,cr:=c1,Br:=yA,hr:=mT}
  refine⟨.az [],_,F',rfl,rfl,rfl,hK F',?_⟩;have e3:lits (a_ a b c) (a_ a b c) (cS k (s.record (ah tk) kd so sq co ho) F')=[⟨1,false,.cells (ak .u32 64 aX) k.tg (0,0)⟩,aE (a_ a b c) 0 (iA k),⟨a,true,.cells #[.pointer (some ⟨b,0,none⟩),F.vs,.slice x1 (s.record (ah tk) kd so sq co ho).recs.length c1] 128 (0,0)⟩,⟨b,true,.cells (mz s.c.p k.ka k.kn k.kc s.c.t k.bq s.c.doors c s.c.samples s.c.beyond s.c.mode s.c.bj s.c.pt (qW s.c.head ⟨kd,so,sq,s.c.t.epoch,co,ho⟩)) 105 (0,0)⟩,aE (a_ a b c) c (gP s)]:=by kernel_rfl
  rw[e3,aen,hl];exact S2.perm (Ea _ _ _ _ _ _ _ _).symm
 ·exact hM.elim
def ez (k:LK) (s:Sd.Scene) (F:bN fr (bA k s)):Prop:=F.vs=F.vs/\F.vr=F.vr/\some (aG k)=some (aG k)/\some (iA k)=some (iA k)/\Cz k 4 s=Cz k 4 (dv s)/\s.c.p.bh=s.c.p.bh/\s.c.p.aR=s.c.p.aR/\s.c.p.queue=k.most
theorem eY {k:LK} {s:Sd.Scene} {F:bN fr (bA k s)} (h:s.c.p.queue=k.most):ez k s F:=⟨rfl,rfl,rfl,rfl,rfl,rfl,rfl,h⟩
def L0 (fr:Sd.Reply->Nat×Sd.Byt) (C:Sd.Crypt):List (dI (Gh fr)):=⟨90,false,pP (hU C)⟩::qL (Gh fr) QV
theorem abA (tk:Nat->Sd.Byt->Option Sd.bW):ai prog gS (L0 fr (ah tk)):=ai.cons (c_ (Eb tk)) (f_ (uq gS))
def tM (C:Sd.Crypt):SM fr:=λar k s F K=>match ar with
 |[.int .i64 l,.int .i64 co]=>s.recs.length<=1000/\∀F',K (.az []) (s.dp C l co) F'
 |_=>False
theorem Nj (C:Sd.Crypt) (k:LK) (s:Sd.Scene) (F:bN fr (bA k s)) (Kb:SK fr k) (l co:Int):cJ (dR prog gS (L0 fr C)) 40 96 [.ptr 2 0,.int .i64 l,.int .i64 co] (cS k s F) [cB k s F] (aO k s Kb)
 =(ez k s F/\hU C [.int .i64 1,.int .i64 l,.int .i64 0,.int .i64 co,.int .i64 0] k (dv s) F (λv s' F'=>aO k s Kb (.az []) (cS k s' F') [cB k s' F'])):=by kernel_rfl
theorem Ec (tk:Nat->Sd.Byt->Option Sd.bW):Body (fr:=fr) 96 (tM (ah tk)):=by
 refine dJ (n:=40) (abA tk) ?_;intro ar k s F Kb h0 hq hM;unfold tM at hM;split at hM
 ·rename_i l co;rw[Nj];refine⟨eY hq,fC ⟨hM.1,λF'=>?_⟩⟩;exact⟨_,F',rfl,rfl,hM.2 F',rfl,rfl⟩
 ·exact hM.elim
end Go.Proofs.YtggfpcggakghnaaGreatDoor
namespace Go.Proofs.YtggfpcggakghnaaGreatDoor
open Go Go.RowKit Go.BigFrame Sx Vx
def vo (L:List QF) (n:Nat) (f:FuncId) (args:List V) (bl:List VB) (K:VK Empty):Prop:=cJ (dR prog (λ_=>none) (qL Empty L)) n f args bl [] K
theorem pQ {L:List QF} (hL:aZ prog (λ_=>none) L) {n f:Nat} {args:List V} {v:V} {c:List V} {T:BT} {bt:Nat} {w:World} (h:vo L n f args [⟨false,T,c⟩] λx _ _=>x=v)
 (hT:w.heap[bt]?=some (.cells (ab [] c).toArray T.t T.fz)) (hc:cH 0 c=true) (hv:fK 1 v=true):aj prog f (ao [bt] args).toArray w λx w1=>x=den [bt] v/\Ch [] w w1:=by
 have e1:ab [bt] c=ab [] c:=bU (ids:=[]) (more:=[bt]) c hc;have S:=St.given (w:=w) [(bt,.cells (ab [bt] c).toArray T.t T.fz)] (by intro p hp;simp only[List.mem_singleton]at hp;subst hp;rw[e1];exact hT);refine(bw (f_ hL).T (f_ hL).Q n (C:=dR prog (λ_=>none) (qL Empty L)) (ids:=[bt]) (bl:=[⟨false,T,c⟩]) (ch:=[]) (R:=[]) Gl.none rfl S h).mono ?_;rintro x w' ⟨y,more,bl',ch',rfl,h1,S',rfl⟩;exact⟨bC (ids:=[bt]) _ hv,S'.ch⟩
theorem Bo {L:List QF} (hL:aZ prog (λ_=>none) L) {n f:Nat} {args:List V} {v:V} {B0:VB} {wr:Bool} {o:Obj} {bt:Nat} {bs:List av} {ms:List Nat} {w0 w:World}
 (h:vo L n f args [B0] (cP 1 λx b _=>x=v/\∃B,b=[B]/\aE [0] 0 B=⟨0,wr,o⟩/\cH 0 B.c=true)) (hv:fK 0 v=true) (S:St ms w0 ([aE [bt] bt B0]++bs) w):
 aj prog f (ao [bt] args).toArray w λy w1=>y=den [] v/\St ms w0 ([⟨bt,wr,o⟩]++bs) w1:=by
 refine(bw (f_ hL).T (f_ hL).Q n (C:=dR prog (λ_=>none) (qL Empty L)) (ids:=[bt]) (bl:=[B0]) (ch:=[]) (R:=bs) Gl.none rfl S h).mono ?_;rintro x w' ⟨y,more,bl',ch',rfl,h1,S',hK⟩;obtain⟨v2,aP,bl2,e,gx,S2,rfl,B,rfl,hB,hw⟩:=c9 (n0:=1) h1 (by simp) S' hK;have hm:aP=[]:=by simpa using gx
 subst hm;refine⟨by rw[e];exact bC (ids:=[]) _ hv,?_⟩;have q:aE [bt] bt B=aE [0] bt B:=cF hw;have q2:aE [0] bt B=⟨bt,wr,o⟩:=by
  unfold aE at hB⊢;simp only[av.mk.injEq]at hB⊢;exact⟨trivial,hB.2⟩
 have S3:St ms w0 ([aE [bt] bt B]++bs) w':=match ch',S2 with
  |[],S2=>S2
  |e::_,_=>nomatch e
 rw[q,q2]at S3;exact S3
def dw (t:Sd.Tab):Sd.Tab:=⟨t.aA,r3 (t.ay 0) (t.ay 1) (t.ay 2) λ_=>.zero⟩
def aN (y:TC):Sd.Tab:=⟨(y.s1,⟨y.sn,y.sm⟩),r3 y.s0 y.sa y.sb λ_=>.zero⟩
def Hk (bl:List VB) (it:Nat):Option TC:=match bl[it]?with
 |some ⟨_,⟨157,(0,0)⟩,tc⟩=>uR tc
 |_=>none
theorem Yr {ids:List Nat} {bl:List VB} {w:World} (hm:Mem ids bl w) {it:Nat} {y:TC} (h:Hk bl it=some y):w.heap[ids.getD it 0]?=some (.cells (jy (aN y).aA (aN y).ay y.b y.m) 157 (0,0)):=by
 unfold Hk at h;split at h
 ·rename_i wr tc hb;obtain rfl:=jz h;have h1:=hm.2 it _ hb;have e:(ab ids (cd y)).toArray=jy (aN y).aA (aN y).ay y.b y.m:=by kernel_rfl
  rw[<-e];exact h1
 ·cases h
def VY (y:TC):Nat->Sd.bm
 |0=>y.s0
 |1=>y.sa
 |_=>y.sb
def Hl:Int->Option Nat
 |.ofNat 1=>some 0
 |.ofNat 2=>some 1
 |.ofNat 3=>some 2
 |_=>none
theorem vt {s:Int} {i:Nat} (h:Hl s=some i):s=.ofNat (i+1)/\i<3:=by
 unfold Hl at h;split at h<;>first|cases h;exact⟨rfl,by omega⟩|cases h
def tE (b:Bool) (y:TC):List VB:=[⟨b,⟨157,(0,0)⟩,cd y⟩]
theorem Bp {s:Int} (h:Hl s=none):s<1\/3<s:=by
 rcases(by omega:s=1\/s=2\/s=3\/s<1\/3<s)with rfl|rfl|rfl|h|h
 ·cases h
 ·cases h
 ·cases h
 ·exact .inl h
 ·exact .inr h
def Nk:QF:=⟨69,λargs bl=>match args with
 |[.ptr it 0,.int .i64 s]=>(match Hk bl it with
  |some y=>(match Hl s with
   |some i=>(match(VY y i).on with
    |true=>some (True,.ptr it (3+39*i))
    |false=>some (True,.raw (.pointer none)))
   |none=>none)
  |none=>none)
 |_=>none⟩
def rC:QF:=⟨69,λargs bl=>match args with
 |[.ptr it 0,.int .i64 s]=>some (s<1\/3<s,.raw (.pointer none))
 |_=>none⟩
theorem RX (y:TC) (K:VK Empty):∀i:Nat,i<3->vo [] 30 69 [.ptr 0 0,.int .i64 (.ofNat (i+1))] (tE false y) K=cond (!(VY y i).on) (K (.raw (.pointer none)) (tE false y) []) (K (.ptr 0 (3+39*i)) (tE false y) [])
 |0,_=>by kernel_rfl
 |1,_=>by kernel_rfl
 |2,_=>by kernel_rfl
 |n+3,h=>absurd h (by omega)
theorem Ys (b:Nat) (s:Int) (X:V->Prop):jQ prog [] 30 69 [.raw (.pointer (some ⟨b,0,none⟩)),.int .i64 s] X=cond (decide (s<1)) (X (.raw (.pointer none))) (cond (decide (s>3)) (X (.raw (.pointer none))) False):=by kernel_rfl
theorem Bt {ids:List Nat} {bl:List VB} {w:World} (hm:Mem ids bl w) {it:Nat} {y:TC} (h:Hk bl it=some y):w.heap[ids.getD it 0]?=some (.cells (ab [] (cd y)).toArray 157 (0,0)):=by
 rw[Yr hm h];have e:(ab [] (cd y)).toArray=jy (aN y).aA (aN y).ay y.b y.m:=by kernel_rfl
 rw[e]
theorem Yt (gl:Nat->Option Nat):Nk.Ok prog gl:=by
 intro args bl p_ v_ h hp ids w _ hm;unfold Nk at h;dsimp only at h;split at h
 ·rename_i it s;split at h
  ·rename_i y hy;have hT:=Bt hm hy;split at h
   ·rename_i i hi;obtain⟨rfl,h3⟩:=vt hi;split at h
    ·rename_i ho;simp only[Option.some.injEq,Prod.mk.injEq]at h;obtain⟨rfl,rfl⟩:=h;refine told (pQ aZ.nil (n:=30) (args:=[.ptr 0 0,.int .i64 (.ofNat (i+1))]) (v:=.ptr 0 (3+39*i)) (T:=⟨157,(0,0)⟩) ?_ hT rfl rfl);show vo [] 30 69 [.ptr 0 0,.int .i64 (.ofNat (i+1))] (tE false y) _;rw[RX y _ i h3,ho];rfl
    ·rename_i ho;simp only[Option.some.injEq,Prod.mk.injEq]at h;obtain⟨rfl,rfl⟩:=h;refine told (pQ aZ.nil (n:=30) (args:=[.ptr 0 0,.int .i64 (.ofNat (i+1))]) (v:=.raw (.pointer none)) (T:=⟨157,(0,0)⟩) ?_ hT rfl rfl);show vo [] 30 69 [.ptr 0 0,.int .i64 (.ofNat (i+1))] (tE false y) _;rw[RX y _ i h3,ho];rfl
   ·cases h
  ·cases h
 ·cases h
theorem RY (gl:Nat->Option Nat):rC.Ok prog gl:=by
 intro args bl p_ v_ h hp ids w _ hm;unfold rC at h;dsimp only at h;split at h
 ·rename_i it s;simp only[Option.some.injEq,Prod.mk.injEq]at h;obtain⟨rfl,rfl⟩:=h;refine told (ta aZ.nil 30 (args:=[.raw (.pointer (some ⟨ids.getD it 0,0,none⟩)),.int .i64 s]) (v:=.raw (.pointer none)) ?_ rfl rfl [] w);show jQ prog [] 30 69 _ _;rw[Ys];refine aU (λh=>rfl) (λh=>aU (λh=>rfl) λh'=>?_);simp only[decide_eq_false_iff_not]at h h';omega
 ·cases h
theorem RZ:aZ prog (λ_=>none) [rC]:=aZ.cons (RY _) aZ.nil
theorem air (y:TC) (K:VK Empty):∀i:Nat,i<3->vo [] 30 40 [.ptr 0 0,.int .i64 (.ofNat (i+1))] (tE false y) K=cond (!(VY y i).on) (K (.bool false) (tE false y) []) (K (.bool true) (tE false y) [])
 |0,_=>by kernel_rfl
 |1,_=>by kernel_rfl
 |2,_=>by kernel_rfl
 |n+3,h=>absurd h (by omega)
theorem aeo (y:TC) (s:Int) (K:VK Empty):vo [rC] 30 40 [.ptr 0 0,.int .i64 s] (tE false y) K=cond (s==4) (K (.bool true) (tE false y) []) (cond (s==0) (K (.bool y.s1) (tE false y) []) ((s<1\/3<s)/\K (.bool false) (tE false y) [])):=by kernel_rfl
theorem Yu (y:TC) (K:VK Empty):∀i:Nat,i<3->vo [] 30 41 [.ptr 0 0,.int .i64 (.ofNat (i+1))] (tE false y) K=cond (!(VY y i).on) (K (.int .i64 0) (tE false y) []) (K (.int .i64 (VY y i).role) (tE false y) [])
 |0,_=>by kernel_rfl
 |1,_=>by kernel_rfl
 |2,_=>by kernel_rfl
 |n+3,h=>absurd h (by omega)
theorem R1 (y:TC) (s:Int) (K:VK Empty):vo [rC] 30 41 [.ptr 0 0,.int .i64 s] (tE false y) K=((s<1\/3<s)/\K (.int .i64 0) (tE false y) []):=by kernel_rfl
theorem vu (y:TC):∀i:Nat,i<3->(aN y).cZ (.ofNat (i+1))=(VY y i).on
 |0,_=>rfl
 |1,_=>rfl
 |2,_=>rfl
 |n+3,h=>absurd h (by omega)
theorem Bu (t:Sd.Tab) {s:Int} (h:s<1\/3<s):t.cZ s=false:=by
 unfold Sd.Tab.cZ;have:(decide (1<=s)&&decide (s<=3))=false:=by simp;omega
 rw[this];rfl
theorem aep (y:TC):∀i:Nat,i<3->(aN y).ay ((Int.ofNat (i+1)).toNat-1)=VY y i
 |0,_=>rfl
 |1,_=>rfl
 |2,_=>rfl
 |n+3,h=>absurd h (by omega)
theorem ais (y:TC):∀i:Nat,i<3->(aN y).on (.ofNat (i+1))=(VY y i).on
 |0,_=>rfl
 |1,_=>rfl
 |2,_=>rfl
 |n+3,h=>absurd h (by omega)
theorem alU (y:TC) (s:Int) {bt:Nat} {w:World} (hT:w.heap[bt]?=some (.cells (ab [] (cd y)).toArray 157 (0,0))):aj prog 40 (ao [bt] [.ptr 0 0,.int .i64 s]).toArray w λx w1=>x=den [bt] (.bool ((aN y).on s))/\Ch [] w w1:=by
 cases h:Hl s with
 |some i=>
  obtain⟨rfl,h3⟩:=vt h;refine pQ aZ.nil (n:=30) (T:=⟨157,(0,0)⟩) ?_ hT rfl rfl;show vo [] 30 40 [.ptr 0 0,.int .i64 (.ofNat (i+1))] (tE false y) _;rw[air y _ i h3,ais y i h3];exact aU (λh=>by simp at h;rw[h]) (λh=>by simp at h;rw[h])
 |none=>
  have hs:=Bp h;refine pQ RZ (n:=30) (T:=⟨157,(0,0)⟩) ?_ hT rfl rfl;show vo [rC] 30 40 [.ptr 0 0,.int .i64 s] (tE false y) _;rw[aeo];unfold Sd.Tab.on;rw[Bu _ hs];refine aU (λh=>?_) (λh=>aU (λh'=>?_) λh'=>⟨hs,?_⟩)
  ·rw[if_pos (by simpa using h)]
  ·rw[if_neg (by simpa using h),if_pos (by simpa using h')];rfl
  ·rw[if_neg (by simpa using h),if_neg (by simpa using h')]
theorem aeq (y:TC) (s:Int) {bt:Nat} {w:World} (hT:w.heap[bt]?=some (.cells (ab [] (cd y)).toArray 157 (0,0))):aj prog 41 (ao [bt] [.ptr 0 0,.int .i64 s]).toArray w λx w1=>x=den [bt] (.int .i64 ((aN y).role s))/\Ch [] w w1:=by
 unfold Sd.Tab.role;cases h:Hl s with
 |some i=>
  obtain⟨rfl,h3⟩:=vt h;refine pQ aZ.nil (n:=30) (T:=⟨157,(0,0)⟩) ?_ hT rfl rfl;show vo [] 30 41 [.ptr 0 0,.int .i64 (.ofNat (i+1))] (tE false y) _;rw[Yu y _ i h3,vu y i h3,aep y i h3];exact aU (λh=>by simp at h;rw[h];rfl) (λh=>by simp at h;rw[h];rfl)
 |none=>
  have hs:=Bp h;refine pQ RZ (n:=30) (T:=⟨157,(0,0)⟩) ?_ hT rfl rfl;show vo [rC] 30 41 [.ptr 0 0,.int .i64 s] (tE false y) _;rw[R1,Bu _ hs];exact⟨hs,rfl⟩
def qon:QF:=⟨40,λargs bl=>match args with
 |[.ptr it 0,.int .i64 s]=>(match Hk bl it with|some y=>some (True,.bool ((aN y).on s))|none=>none)
 |_=>none⟩
theorem aer (gl:Nat->Option Nat):qon.Ok prog gl:=by
 intro args bl p_ v_ h hp ids w _ hm;unfold qon at h;dsimp only at h;split at h
 ·rename_i it s;split at h
  ·rename_i y hy;simp only[Option.some.injEq,Prod.mk.injEq]at h;obtain⟨rfl,rfl⟩:=h;exact told (alU y s (Bt hm hy))
  ·cases h
 ·cases h
def R2:QF:=⟨41,λargs bl=>match args with
 |[.ptr it 0,.int .i64 s]=>(match Hk bl it with|some y=>some (True,.int .i64 ((aN y).role s))|none=>none)
 |_=>none⟩
theorem R3 (gl:Nat->Option Nat):R2.Ok prog gl:=by
 intro args bl p_ v_ h hp ids w _ hm;unfold R2 at h;dsimp only at h;split at h
 ·rename_i it s;split at h
  ·rename_i y hy;simp only[Option.some.injEq,Prod.mk.injEq]at h;obtain⟨rfl,rfl⟩:=h;exact told (aeq y s (Bt hm hy))
  ·cases h
 ·cases h
def zS:List V:=.bool false::.int .i64 0::.int .i64 0::.int .i64 0::(lK [.int .u8 0] 32++[.bool false,.int .i64 0,.int .u64 0])
def rP (y:TC) (i:Nat) (x:List V):List V:=.bool y.s1::.int .i64 y.sn::.int .i64 y.sm::((bif Nat.beq i 0 then x else tL y.s0)++((bif Nat.beq i 1 then x else tL y.sa)++((bif Nat.beq i 2 then x else tL y.sb)++[.int .i64 y.b,.int .i64 y.m])))
def wE (l:List V):List VB:=[⟨true,⟨157,(0,0)⟩,l⟩]
theorem aes (y:TC) (K:VK Empty):∀i:Nat,i<3->vo [] 30 196 [.ptr 0 0,.int .i64 (.ofNat (i+1))] (tE true y) (cP 1 K)=cond (!(VY y i).on) (K (.bool false) (tE true y) []) (K (.bool true) (wE (rP y i zS)) [])
 |0,_=>by kernel_rfl
 |1,_=>by kernel_rfl
 |2,_=>by kernel_rfl
 |n+3,h=>absurd h (by omega)
theorem Yv (y:TC) (s:Int) (K:VK Empty):vo [rC] 30 196 [.ptr 0 0,.int .i64 s] (tE true y) (cP 1 K)=((s<1\/3<s)/\K (.bool false) (tE true y) []):=by kernel_rfl
theorem exE (y:TC):∀i:Nat,i<3->aE [0] 0 ⟨true,⟨157,(0,0)⟩,rP y i zS⟩=⟨0,true,.cells (jy ((aN y).dT ((Int.ofNat (i+1)).toNat-1) .zero).aA ((aN y).dT ((Int.ofNat (i+1)).toNat-1) .zero).ay y.b y.m) 157 (0,0)⟩
 |0,_=>by kernel_rfl
 |1,_=>by kernel_rfl
 |2,_=>by kernel_rfl
 |n+3,h=>absurd h (by omega)
theorem vw (y:TC):aE [0] 0 ⟨true,⟨157,(0,0)⟩,cd y⟩=⟨0,true,.cells (jy (aN y).aA (aN y).ay y.b y.m) 157 (0,0)⟩:=by kernel_rfl
theorem Bv (y:TC) (bt:Nat):aE [bt] bt ⟨true,⟨157,(0,0)⟩,cd y⟩=⟨bt,true,.cells (jy (aN y).aA (aN y).ay y.b y.m) 157 (0,0)⟩:=by kernel_rfl
theorem ait (y:TC):∀i:Nat,cH 0 (rP y i zS)=true
 |0=>by kernel_rfl
 |1=>by kernel_rfl
 |2=>by kernel_rfl
 |n+3=>by kernel_rfl
theorem aiu (y:TC) (s:Int) {bt:Nat} {bs:List av} {ms:List Nat} {w0 w:World} (S:St ms w0 ([⟨bt,true,.cells (jy (aN y).aA (aN y).ay y.b y.m) 157 (0,0)⟩]++bs) w):
 aj prog 196 (ao [bt] [.ptr 0 0,.int .i64 s]).toArray w λu w1=>u=den [] (.bool ((aN y).cZ s))/\St ms w0 ([⟨bt,true,.cells (jy ((aN y).end_ s).aA ((aN y).end_ s).ay y.b y.m) 157 (0,0)⟩]++bs) w1:=by
 rw[<-Bv]at S;unfold Sd.Tab.end_;cases h:Hl s with
 |some i=>
  obtain⟨rfl,h3⟩:=vt h;refine Bo aZ.nil (n:=30) (B0:=⟨true,⟨157,(0,0)⟩,cd y⟩) ?_ rfl S;show vo [] 30 196 [.ptr 0 0,.int .i64 (.ofNat (i+1))] (tE true y) _;rw[aes y _ i h3,vu y i h3];refine aU (λh=>?_) (λh=>?_)
  ·simp only[Bool.not_eq_true']at h;rw[h];exact⟨rfl,_,rfl,vw y,rfl⟩
  ·simp only[Bool.not_eq_false']at h;rw[h];exact⟨rfl,_,rfl,exE y i h3,ait y i⟩
 |none=>
  have hs:=Bp h;refine Bo RZ (n:=30) (B0:=⟨true,⟨157,(0,0)⟩,cd y⟩) ?_ rfl S;show vo [rC] 30 196 [.ptr 0 0,.int .i64 s] (tE true y) _;rw[Yv,Bu _ hs];exact⟨hs,rfl,_,rfl,vw y,rfl⟩
def smL (y:TC):List V:=.bool true::.int .i64 0::.int .i64 (if 0>y.b then 0 else y.b)::(tL y.s0++(tL y.sa++(tL y.sb++[.int .i64 y.b,.int .i64 y.m])))
theorem aet (y:TC) (K:VK Empty):vo [] 30 79 [.ptr 0 0] (tE true y) (cP 1 K)=K (.az []) (wE (smL y)) []:=by kernel_rfl
theorem aiv (y:TC) (hb:0<=y.b/\y.b<=1000) {bt:Nat} {bs:List av} {ms:List Nat} {w0 w:World} (S:St ms w0 ([⟨bt,true,.cells (jy (aN y).aA (aN y).ay y.b y.m) 157 (0,0)⟩]++bs) w):
 aj prog 79 (ao [bt] [.ptr 0 0]).toArray w λu w1=>u=den [] (.az [])/\St ms w0 ([⟨bt,true,.cells (jy (true,.start y.b) (aN y).ay y.b y.m) 157 (0,0)⟩]++bs) w1:=by
 rw[<-Bv]at S;refine Bo aZ.nil (n:=30) (B0:=⟨true,⟨157,(0,0)⟩,cd y⟩) ?_ rfl S;show vo [] 30 79 [.ptr 0 0] (tE true y) _;rw[aet];refine⟨rfl,_,rfl,?_,rfl⟩;have q:aE [0] 0 ⟨true,⟨157,(0,0)⟩,smL y⟩=⟨0,true,.cells (jy (true,⟨0,if 0>y.b then 0 else y.b⟩) (aN y).ay y.b y.m) 157 (0,0)⟩:=by kernel_rfl
 rw[q,nq]
def zC:QF:=⟨193,λargs bl=>match args with
 |[.ptr it 0]=>(match Hk bl it with
  |some y=>some (True,.int .i64 ((aN y).many))
  |none=>none)
 |_=>none⟩
theorem Yw (y:TC) (K:VK Empty):vo [] 30 193 [.ptr 0 0] (tE false y) K=
 let k:Int->Prop:=λn=>K (.int .i64 n) (tE false y) []
 cond y.s0.on (cond y.sa.on (cond y.sb.on (k 3) (k 2)) (cond y.sb.on (k 2) (k 1))) (cond y.sa.on (cond y.sb.on (k 2) (k 1)) (cond y.sb.on (k 1) (k 0))):=by kernel_rfl
theorem R4 (gl:Nat->Option Nat):zC.Ok prog gl:=by
 intro args bl p_ v_ h hp ids w _ hm;unfold zC at h;dsimp only at h;split at h
 ·rename_i it;split at h
  ·rename_i y hy;simp only[Option.some.injEq,Prod.mk.injEq]at h;obtain⟨rfl,rfl⟩:=h;refine told (pQ aZ.nil (n:=30) (args:=[.ptr 0 0]) (v:=.int .i64 ((aN y).many)) (T:=⟨157,(0,0)⟩) ?_ (Bt hm hy) rfl rfl);show vo [] 30 193 [.ptr 0 0] (tE false y) _;rw[Yw];have e:(aN y).many=(if y.s0.on then 1 else 0)+(if y.sa.on then 1 else 0)+(if y.sb.on then 1 else 0):=rfl;rw[e];cases y.s0.on<;>cases y.sa.on<;>cases y.sb.on<;>rfl
  ·cases h
 ·cases h
theorem aiw:aZ prog (λ_=>none) [Nk,zC]:=aZ.cons (Yt _) (aZ.cons (R4 _) aZ.nil)
def onS (k:Sd.bm) (o:Bool):Sd.bm:=⟨o,k.aH,k.role,k.key,k.seen⟩
def Kd (y:TC) (i:Nat) (o:Bool):TC:=match i with
 |0=>{y with s0:=onS y.s0 o}
 |1=>{y with sa:=onS y.sa o}
 |_=>{y with sb:=onS y.sb o}
def nS (b r:Int) (key:Nat->Int):List V:=[.bool true,.int .i64 0,.int .i64 (if 0>b then 0 else b),.int .i64 r,.dC .u8 32 key,.bool false,.int .i64 0,.int .u64 0]
def stX (y:TC) (r:Int) (K:VK Empty) (X:Prop):Prop:=cond (decide (r<0)) (K (.int .i64 1) (tE true y) []) (cond (decide (r>=4)) (K (.int .i64 1) (tE true y) []) X)
theorem aix (y:TC) (r:Int) (key:Nat->Int) (K:VK Empty):∀i:Nat,i<3->
 vo [Nk,zC] 60 149 [.ptr 0 0,.int .i64 (.ofNat (i+1)),.int .i64 r,.agg [.dC .u8 32 key]] (tE true (Kd y i true)) (cP 1 K)=stX (Kd y i true) r K (True/\K (.int .i64 0) (wE (rP y i (nS y.b r key))) [])/\
 vo [Nk,zC] 60 149 [.ptr 0 0,.int .i64 (.ofNat (i+1)),.int .i64 r,.agg [.dC .u8 32 key]] (tE true (Kd y i false)) (cP 1 K)=stX (Kd y i false) r K (True/\True/\cond (decide ((aN (Kd y i false)).many>=y.m)) (K (.int .i64 19) (tE true (Kd y i false)) []) (K (.int .i64 0) (wE (rP y i (nS y.b r key))) []))
 |0,_=>⟨by kernel_rfl,by kernel_rfl⟩
 |1,_=>⟨by kernel_rfl,by kernel_rfl⟩
 |2,_=>⟨by kernel_rfl,by kernel_rfl⟩
 |n+3,h=>absurd h (by omega)
theorem exN (y:TC) (r:Int) (key:Nat->Int):∀i:Nat,i<3->aE [0] 0 ⟨true,⟨157,(0,0)⟩,rP y i (nS y.b r key)⟩=⟨0,true,.cells (jy ((aN y).dT ((Int.ofNat (i+1)).toNat-1) ⟨true,⟨0,if 0>y.b then 0 else y.b⟩,r,key,⟨false,0,0⟩⟩).aA ((aN y).dT ((Int.ofNat (i+1)).toNat-1) ⟨true,⟨0,if 0>y.b then 0 else y.b⟩,r,key,⟨false,0,0⟩⟩).ay y.b y.m) 157 (0,0)⟩/\cH 0 (rP y i (nS y.b r key))=true
 |0,_=>⟨by kernel_rfl,by kernel_rfl⟩
 |1,_=>⟨by kernel_rfl,by kernel_rfl⟩
 |2,_=>⟨by kernel_rfl,by kernel_rfl⟩
 |n+3,h=>absurd h (by omega)
theorem aeu (y:TC):∀i:Nat,i<3->∃o,(VY y i).on=o/\y=Kd y i o
 |0,_=>⟨_,rfl,rfl⟩
 |1,_=>⟨_,rfl,rfl⟩
 |2,_=>⟨_,rfl,rfl⟩
 |n+3,h=>absurd h (by omega)
theorem Bw (y:TC) (i:Nat) (h3:i<3) (r:Int) (key:Nat->Int) (p:Sd.Pol) (e1:p.bh=y.b) (e2:p.aR=y.m) {bt:Nat} {bs:List av} {ms:List Nat} {w0 w:World} (S:St ms w0 ([⟨bt,true,.cells (jy (aN y).aA (aN y).ay y.b y.m) 157 (0,0)⟩]++bs) w):
 aj prog 149 (ao [bt] [.ptr 0 0,.int .i64 (.ofNat (i+1)),.int .i64 r,.agg [.dC .u8 32 key]]).toArray w λu w1=>u=den [] (.int .i64 (Sd.Tab.br p (aN y) (.ofNat (i+1)) r key).2)/\
  St ms w0 ([⟨bt,true,.cells (jy (Sd.Tab.br p (aN y) (.ofNat (i+1)) r key).1.aA (Sd.Tab.br p (aN y) (.ofNat (i+1)) r key).1.ay y.b y.m) 157 (0,0)⟩]++bs) w1:=by
 obtain⟨o,ho,hy⟩:=aeu y i h3;rw[<-Bv]at S;refine Bo (args:=[.ptr 0 0,.int .i64 (.ofNat (i+1)),.int .i64 r,.agg [.dC .u8 32 key]]) (v:=.int .i64 (Sd.Tab.br p (aN y) (.ofNat (i+1)) r key).2) (wr:=true) (o:=.cells (jy (Sd.Tab.br p (aN y) (.ofNat (i+1)) r key).1.aA (Sd.Tab.br p (aN y) (.ofNat (i+1)) r key).1.ay y.b y.m) 157 (0,0)) aiw (n:=60) (B0:=⟨true,⟨157,(0,0)⟩,cd y⟩) ?_ rfl S;generalize hK:(λ(x:V) (b:List VB) (_:List Empty)=>x=V.int i64 (Sd.Tab.br p (aN y) (Int.ofNat (i+1)) r key).2/\∃B,b=[B]/\aE [0] 0 B=⟨0,true,.cells (jy (Sd.Tab.br p (aN y) (Int.ofNat (i+1)) r key).1.aA (Sd.Tab.br p (aN y) (Int.ofNat (i+1)) r key).1.ay y.b y.m) 157 (0,0)⟩/\cH 0 B.c=true)=K;show vo [Nk,zC] 60 149 [.ptr 0 0,.int .i64 (.ofNat (i+1)),.int .i64 r,.agg [.dC .u8 32 key]] (tE true y) (cP 1 K);have hN:=exN y r key i h3;have hi:(Int.ofNat (i+1))=(i:Int)+1:=rfl;have k1:r<0\/4<=r->K (.int .i64 1) (tE true y) []:=λh=>by
  rw[<-hK];have e:Sd.Tab.br p (aN y) (Int.ofNat (i+1)) r key=(aN y,1):=by unfold Sd.Tab.br;rw[if_pos (by omega)]
  rw[e];exact⟨rfl,_,rfl,vw y,rfl⟩
 have k0:0<=r->r<4->o=true\/¬y.m<=(aN y).many->K (.int .i64 0) (wE (rP y i (nS y.b r key))) []:=λh h' h4=>by
  rw[<-hK];have e:Sd.Tab.br p (aN y) (Int.ofNat (i+1)) r key=((aN y).dT ((Int.ofNat (i+1)).toNat-1) ⟨true,⟨0,if 0>y.b then 0 else y.b⟩,r,key,⟨false,0,0⟩⟩,0):=by
   unfold Sd.Tab.br;rw[if_neg (by omega),if_neg,e1,nq];rw[vu y i h3,ho,e2];rintro⟨rfl,h5⟩;exact h4.elim (λh=>nomatch h) λh=>h h5
  rw[e];exact⟨rfl,_,rfl,hN.1,hN.2⟩
 have k2:0<=r->r<4->o=false->y.m<=(aN y).many->K (.int .i64 19) (tE true y) []:=λh h' h4 h5=>by
  rw[<-hK];have e:Sd.Tab.br p (aN y) (Int.ofNat (i+1)) r key=(aN y,19):=by
   unfold Sd.Tab.br;rw[if_neg (by omega),if_pos];rw[vu y i h3,ho,e2];exact⟨h4,h5⟩
  rw[e];exact⟨rfl,_,rfl,vw y,rfl⟩
 have mK:=aix y r key K i h3;cases o with
 |true=>
  have hv:=mK.1;rw[<-hy]at hv;rw[hv];unfold stX;refine aU (λh=>k1 (.inl (by simpa using h))) (λh=>aU (λh'=>k1 (.inr (by simpa using h'))) λh'=>⟨trivial,?_⟩);exact k0 (by simpa using h) (by simpa using h') (.inl rfl)
 |false=>
  have hv:=mK.2;rw[<-hy]at hv;rw[hv];unfold stX;refine aU (λh=>k1 (.inl (by simpa using h))) (λh=>aU (λh'=>k1 (.inr (by simpa using h'))) λh'=>⟨trivial,trivial,aU (λh5=>?_) λh5=>?_⟩)
  ·exact k2 (by simpa using h) (by simpa using h') rfl (by simpa using h5)
  ·exact k0 (by simpa using h) (by simpa using h') (.inr (by simpa using h5))
variable{fr:Sd.Reply->Nat×Sd.Byt}
def Bx:QF:=⟨55,λargs _=>match args with
 |[.int .i64 l]=>some (True,.bool (Sd.linked l))
 |_=>none⟩
theorem Nl (l:Int) (X:V->Prop):jQ prog [] 20 55 [.int .i64 l] X=(cond (decide (l>=1)) (X (.bool (decide (l<=3)))) (X (.bool false))):=by kernel_rfl
theorem Hm (gl:Nat->Option Nat):Bx.Ok prog gl:=by
 intro args bl p_ v_ h hp ids w _ _;unfold Bx at h;dsimp only at h;split at h
 ·rename_i l;simp only[Option.some.injEq,Prod.mk.injEq]at h;obtain⟨rfl,rfl⟩:=h;refine ta aZ.nil 20 ?_ rfl rfl ids w;show jQ prog [] 20 55 _ _;rw[Nl];have e:Sd.linked l=(decide (l>=1)&&decide (l<=3)):=rfl;refine aU (λh=>?_) (λh=>?_)
  ·rw[e,h];rfl
  ·rw[e,h];rfl
 ·cases h
theorem w9 (t:Sd.Tab) (s:Int):(dw t).cZ s=t.cZ s:=by
 unfold Sd.Tab.cZ;by_cases h1:1<=s
 ·by_cases h2:s<=3
  ·have:s=1\/s=2\/s=3:=by omega
   rcases this with rfl|rfl|rfl<;>rfl
  ·simp[h2]
 ·simp[h1]
theorem aev (t:Sd.Tab) (s:Int):(dw t).on s=t.on s:=by
 unfold Sd.Tab.on;rw[w9];rfl
theorem aew (t:Sd.Tab) (s:Int):(dw t).role s=t.role s:=by
 unfold Sd.Tab.role;rw[w9];by_cases h:t.cZ s=true
 ·rw[if_pos h,if_pos h];unfold Sd.Tab.cZ at h;simp only[Bool.and_eq_true,decide_eq_true_eq]at h;have:s=1\/s=2\/s=3:=by omega
  rcases this with rfl|rfl|rfl<;>rfl
 ·rw[if_neg h,if_neg h]
def bN.bH {d:FD} (F:bN fr d) (q:List Sd.Ask) (B:List av) (h:QS d.k.bq d.k.most q B):bN fr {d with q:=q}:={F with Bq:=B,hq:=h}
def vq (k:LK):Value:=.pointer (some ⟨k.bq,0,none⟩)
structure QG where
 f:Nat
 pos:Nat
 m:List V->Int->List Sd.Ask->Option (Prop×V×List Sd.Ask)
def Ke (x:QG):gm (Gh fr):=λargs bl ch K=>match ch with
 |g::rest=>(match args[x.pos]?with
  |some (.raw vp)=>(match x.m (args.eraseIdx x.pos) g.d.k.most g.d.q with
   |some (p,v,q')=>cond (cH 0 args&&fK 0 v) ((vp=vq g.d.k/\p)/\∀B (h:QS g.d.k.bq g.d.k.most q' B),K v bl (⟨{g.d with q:=q'},g.dx,g.sx,g.F.bH q' B h⟩::rest)) False
   |none=>False)
  |_=>False)
 |[]=>False
def QG.Ok (x:QG):Prop:=∀(args:List V) (k:LK) (q:List Sd.Ask) (p:Prop) (v:V) (q':List Sd.Ask),args[x.pos]?=some (.raw (vq k))->x.m (args.eraseIdx x.pos) k.most q=some (p,v,q')->p->∀(B:List av),QS k.bq k.most q B->∀(bs:List av) (ms:List Nat) (w0 w:World),St ms w0 (B++bs) w->
 aj prog x.f (ao [] args).toArray w λy w1=>∃B',y=den [] v/\QS k.bq k.most q' B'/\St ms w0 (B'++bs) w1
theorem uS {d:FD} (F:bN fr d):F.B=F.Br++(F.Bs++(F.Bf++(F.Bq++F.Bk))):=rfl
theorem pS (A a b c q e R:List av):(A++((a++(b++(c++(q++e))))++R)).Perm (q++(A++(a++(b++(c++(e++R)))))):=by
 have h:(A++((a++(b++(c++(q++e))))++R))=(A++(a++(b++c)))++(q++(e++R)):=by simp[List.append_assoc]
 have h2:(q++(A++(a++(b++(c++(e++R))))))=q++((A++(a++(b++c)))++(e++R)):=by simp[List.append_assoc]
 rw[h,h2,<-List.append_assoc,<-List.append_assoc q];exact List.Perm.append_right _ List.perm_append_comm
theorem R5 {x:QG} (h:x.Ok) (gl:Nat->Option Nat):Sound prog gl x.f (Ke (fr:=fr) x):=by
 intro args ids bl ch R ms w0 w K hg hl S hc;unfold Ke at hc;split at hc
 ·rename_i g rest;split at hc
  ·rename_i vp hvp;split at hc
   ·rename_i p v q' hm;cases hq:cH 0 args&&fK 0 v with
    |false=>rw[hq]at hc;exact hc.elim
    |true=>
     rw[hq]at hc;simp only[Bool.and_eq_true]at hq;obtain⟨⟨rfl,hp⟩,hK⟩:=hc;have a1:ao ids args=ao [] args:=by have:=dW (ids:=[]) (more:=ids) args hq.1;simpa using this
     have e0:af (g::rest) R=g.F.B++af rest R:=rfl;rw[e0,uS]at S;rw[a1];refine(h args g.d.k g.d.q p v q' hvp hm hp _ g.F.hq _ ms w0 w (S.perm (pS _ _ _ _ _ _ _))).mono ?_;rintro y w1 ⟨B',rfl,hB,S1⟩;refine⟨v,[],bl,_,?_,by simpa using hl,?_,hK B' hB⟩
     ·have:=bC (ids:=[]) (more:=ids++[]) v hq.2;simpa using this.symm
     ·have e1:af (⟨{g.d with q:=q'},g.dx,g.sx,g.F.bH q' B' hB⟩::rest:List (Gh fr)) R=(g.F.Br++(g.F.Bs++(g.F.Bf++(B'++g.F.Bk))))++af rest R:=rfl;rw[e1,List.append_nil];exact S1.perm (pS _ _ _ _ _ _ _).symm
   ·exact hc.elim
  ·exact hc.elim
 ·exact hc.elim
theorem Bz {x:QG} (h:x.Ok):oP (G:=Gh fr) prog gS ⟨x.f,false,Ke x⟩:=⟨R5 h gS,λe=>by cases e⟩
def JV:QG:=⟨86,0,λargs _ q=>match args with
 |[.int .i64 s]=>some (True,.bool (Sd.Q.waits q s),Sd.Q.drop q s)
 |_=>none⟩
theorem Ed:JV.Ok:=by
 intro args k q p v q' hv hm hp B hB bs ms w0 w S
 match args,hv,hm with
 |a::l,hv,hm=>
  have ha:a=.raw (vq k):=by simpa[JV]using hv
  subst ha;replace hm:(match(generalizing:=false) l with
   |[.int .i64 s]=>some (True,V.bool (Sd.Q.waits q s),Sd.Q.drop q s)
   |_=>none)=some (p,v,q'):=hm
  split at hm
  ·simp only[Option.some.injEq,Prod.mk.injEq]at hm;obtain⟨rfl,rfl,rfl⟩:=hm;exact ad5 _ hB S
  ·cases hm
def il (a b c d e f:Int):List V:=[.int .i64 a,.int .i64 b,.int .i64 c,.int .i64 d,.int .i64 e,.int .i64 f,.int .u8 0,.int .u8 0,.int .u8 0,.int .u8 0,.int .u8 0,.int .u8 0,.int .u8 0,.int .u8 0]
def aex:List V->Option Sd.Reply
 |.int .i64 a::.int .i64 b::.int .i64 c::.int .i64 d::.int .i64 e::.int .i64 f::l=>(match l with
  |[.dC .u8 8 n]=>some ⟨a,b,c,d,e,f,n⟩
  |[.int .u8 (.ofNat 0),.int .u8 (.ofNat 0),.int .u8 (.ofNat 0),.int .u8 (.ofNat 0),.int .u8 (.ofNat 0),.int .u8 (.ofNat 0),.int .u8 (.ofNat 0),.int .u8 (.ofNat 0)]=>some ⟨a,b,c,d,e,f,λ_=>0⟩
  |_=>none)
 |_=>none
def R6:List V->Option Sd.Reply
 |[.int .i64 a,.int .i64 b,.int .i64 c,.int .i64 d,.int .i64 e,.int .i64 f,.int .u8 (.ofNat 0),.int .u8 (.ofNat 0),.int .u8 (.ofNat 0),.int .u8 (.ofNat 0),.int .u8 (.ofNat 0),.int .u8 (.ofNat 0),.int .u8 (.ofNat 0),.int .u8 (.ofNat 0)]=>some ⟨a,b,c,d,e,f,λ_=>0⟩
 |_=>none
theorem R7 {l:List V} {r:Sd.Reply} (h:R6 l=some r):∃a b c d e f,l=il a b c d e f/\r=⟨a,b,c,d,e,f,λ_=>0⟩:=by
 unfold R6 at h;split at h
 ·obtain rfl:=Option.some.inj h;exact⟨_,_,_,_,_,_,rfl,rfl⟩
 ·cases h
def Rm (s:Sd.Scene) (n:Nat):Prop:=s.sent.length+n<=1000/\s.recs.length+n<=1000
def N8 (n:Int):Prop:=0<=n/\n<=255
def N4 (n:Int):Prop:=0<=n/\n<=4
def VZ (n:Int):Prop:=0<=n/\n<=65535
def V0 (n:Int):Prop:=0<=n/\n<=4294967295
structure RB (r:Sd.Reply):Prop where
 kind:129<=r.kind/\r.kind<=136
 seq:V0 r.seq/\((r.kind=131\/r.kind=132)\/r.seq=0)
 role:(0<=r.role/\r.role<=3)/\(r.kind=130\/r.role=0)
 fT:N4 r.fT/\((r.kind=130\/r.kind=134\/r.kind=135\/r.kind=136)\/r.fT=0)
 epoch:VZ r.epoch/\((r.kind=130\/r.kind=133\/r.kind=134\/r.kind=135)\/r.epoch=0)
 code:N8 r.code/\((r.kind=132\/r.kind=136)\/r.code=0)
 ae:By r.ae/\(r.kind=129\/r.ae=λ_=>0)
def bV:SM fr:=λar k s F K=>match ar with
 |[.int .i64 l,.agg rl]=>(match aex rl with
  |some r=>(Rm s 1/\RB r)/\∀F',K (.az []) (s.tell l r) F'
  |none=>False)
 |_=>False
def oU:SM fr:=λar k s F K=>match ar with
 |[.int .i64 l,.agg rl]=>(match R6 rl with
  |some r=>(Rm s 1/\RB r)/\∀F',K (.az []) (s.hear l r) F'
  |none=>False)
 |_=>False
def rp (C:Sd.Crypt):SM fr:=λar k s F K=>match ar with
 |[.int .i64 l,.int .i64 n,.int .i64 c]=>(Rm s 1/\V0 n/\N8 c)/\∀F',K (.az []) (s.refuse C l n c) F'
 |_=>False
def jq:SM fr:=λar k s F K=>match ar with
 |[.int .i64 l,.int .i64 n]=>(Rm s 1/\V0 n)/\∀F',K (.az []) (s.done l n) F'
 |_=>False
def ny:SM fr:=λar k s F K=>match ar with
 |[.int .i64 l,.int .i64 w,.int .i64 c]=>(Rm s 1/\N4 w/\N8 c)/\∀F',K (.az []) (s.gone l w c) F'
 |_=>False
def L1 (fr:Sd.Reply->Nat×Sd.Byt) (C:Sd.Crypt):List (dI (Gh fr)):=⟨147,false,pP bV⟩::⟨96,false,pP (tM C)⟩::⟨86,false,Ke JV⟩::qE (Gh fr) Bx::qE (Gh fr) qon::qE (Gh fr) R2::L0 fr C
theorem JW {q:QF} (h:∀gl,q.Ok prog gl):oP (G:=Gh fr) prog gS (qE (Gh fr) q):=⟨qI (h gS),λ_=>qH q.F⟩
theorem JX (tk:Nat->Sd.Byt->Option Sd.bW) (ht:Body (fr:=fr) 147 bV):ai prog gS (L1 fr (ah tk)):=
 ai.cons (c_ ht) (ai.cons (c_ (Ec tk)) (ai.cons (Bz Ed) (ai.cons (JW Hm) (ai.cons (JW aer) (ai.cons (JW R3) (abA tk))))))
theorem Nm (C:Sd.Crypt) (k:LK) (s:Sd.Scene) (F:bN fr (bA k s)) (Kb:SK fr k) (l n c:Int):cJ (dR prog gS (L1 fr C)) 40 145 [.ptr 2 0,.int .i64 l,.int .i64 n,.int .i64 c] (cS k s F) [cB k s F] (aO k s Kb)
 =(ez k s F/\bV [.int .i64 l,.agg (il 132 n 0 0 0 c)] k (dv s) F λv s1 F1=>ez k s1 F1/\hU C [.int .i64 7,.int .i64 l,.int .i64 n,.int .i64 c,.int .i64 0] k (dv s1) F1 (λv s' F'=>aO k s Kb (.az []) (cS k s' F') [cB k s' F'])):=by kernel_rfl
theorem Yx (C:Sd.Crypt) (k:LK) (s:Sd.Scene) (F:bN fr (bA k s)) (Kb:SK fr k) (l n:Int):cJ (dR prog gS (L1 fr C)) 40 195 [.ptr 2 0,.int .i64 l,.int .i64 n] (cS k s F) [cB k s F] (aO k s Kb)
 =(ez k s F/\bV [.int .i64 l,.agg (il 131 n 0 0 0 0)] k (dv s) F λv s' F'=>aO k s Kb (.az []) (cS k s' F') [cB k s' F']):=by kernel_rfl
theorem Yy (C:Sd.Crypt) (k:LK) (s:Sd.Scene) (F:bN fr (bA k s)) (Kb:SK fr k) (l a b c d e f:Int):cJ (dR prog gS (L1 fr C)) 40 131 [.ptr 2 0,.int .i64 l,.agg (il a b c d e f)] (cS k s F) [cB k s F] (aO k s Kb)
 =(True/\cond (Sd.linked l) (True/\cond ((dw s.c.tab).on l) (ez k s F/\bV [.int .i64 l,.agg (il a b c d e f)] k (dv s) F λv s' F'=>aO k s Kb (.az []) (cS k s' F'++[⟨true,⟨40,(0,0)⟩,il a b c d e f⟩]) [cB k s' F']) (aO k s Kb (.az []) (cS k s F++[⟨true,⟨40,(0,0)⟩,il a b c d e f⟩]) [cB k s F]))
  (aO k s Kb (.az []) (cS k s F++[⟨true,⟨40,(0,0)⟩,il a b c d e f⟩]) [cB k s F])):=by kernel_rfl
theorem by0:By (λ_=>0):=λj=>⟨Int.le_refl 0,by show(0:Int)<=255;decide⟩
theorem rb {a b d e f:Int} (h1:129<=a/\a<=136) (h2:V0 b) (h4:N4 d) (h5:VZ e) (h6:N8 f) (k2:(a=131\/a=132)\/b=0:=by simp) (k4:(a=130\/a=134\/a=135\/a=136)\/d=0:=by simp)
 (k5:(a=130\/a=133\/a=134\/a=135)\/e=0:=by simp) (k6:(a=132\/a=136)\/f=0:=by simp):RB ⟨a,b,0,d,e,f,λ_=>0⟩:=⟨h1,⟨h2,k2⟩,⟨show(0:Int)<=0/\(0:Int)<=3 by decide,.inr rfl⟩,⟨h4,k4⟩,⟨h5,k5⟩,⟨h6,k6⟩,⟨by0,.inr rfl⟩⟩
theorem z4:N4 0:=⟨by decide,by decide⟩
theorem z8:N8 0:=⟨by decide,by decide⟩
theorem z16:VZ 0:=⟨by decide,by decide⟩
theorem Yz:V0 0:=⟨by decide,by decide⟩
theorem aM {k:LK} {s0:Sd.Scene} {Kb:SK fr k} {v:V} {s s':Sd.Scene} (e:s'=s) {bl:List VB} (hK:∀F,Kb v s F) (F':bN fr (bA k s')) (hv:fK 0 v=true:=by rfl) (hp:s'.c.p=s0.c.p:=by rfl) (hb:bl.take 5=cS k s' F':=by kernel_rfl):aO k s0 Kb v bl [cB k s' F']:=by
 subst e;exact⟨s',F',hv,hp,hK F',hb,rfl⟩
section
variable{k:LK} {s:Sd.Scene} {F:bN fr (bA k s)} {K:SK fr k}
theorem BA {l a b c d e f:Int} (h:Rm s 1/\RB ⟨a,b,c,d,e,f,λ_=>0⟩) (hK:∀F',K (.az []) (s.tell l ⟨a,b,c,d,e,f,λ_=>0⟩) F'):bV [.int .i64 l,.agg (il a b c d e f)] k (dv s) F K:=by
 have e:bV [.int .i64 l,.agg (il a b c d e f)] k s F K=((Rm s 1/\RB ⟨a,b,c,d,e,f,λ_=>0⟩)/\∀F',K (.az []) (s.tell l ⟨a,b,c,d,e,f,λ_=>0⟩) F'):=by kernel_rfl
 exact fC (M:=bV) (e▸⟨h,hK⟩)
theorem vx {l a b c d e f:Int} (h:Rm s 1/\RB ⟨a,b,c,d,e,f,λ_=>0⟩) (hK:∀F',K (.az []) (s.hear l ⟨a,b,c,d,e,f,λ_=>0⟩) F'):oU [.int .i64 l,.agg (il a b c d e f)] k (dv s) F K:=by
 have e:oU [.int .i64 l,.agg (il a b c d e f)] k s F K=((Rm s 1/\RB ⟨a,b,c,d,e,f,λ_=>0⟩)/\∀F',K (.az []) (s.hear l ⟨a,b,c,d,e,f,λ_=>0⟩) F'):=by kernel_rfl
 exact fC (M:=oU) (e▸⟨h,hK⟩)
theorem fD {C:Sd.Crypt} {a b c d e:Int} (h:s.recs.length<=1000) (hK:∀F',K (.az []) (s.record C a b c d e) F'):hU C [.int .i64 a,.int .i64 b,.int .i64 c,.int .i64 d,.int .i64 e] k (dv s) F K:=by
 have e:hU C [.int .i64 a,.int .i64 b,.int .i64 c,.int .i64 d,.int .i64 e] k s F K=(s.recs.length<=1000/\∀F',K (.az []) (s.record C a b c d e) F'):=by kernel_rfl
 exact fC (M:=hU C) (e▸⟨h,hK⟩)
end
theorem Ee (tk:Nat->Sd.Byt->Option Sd.bW) (ht:Body (fr:=fr) 147 bV):Body (fr:=fr) 145 (rp (ah tk)):=by
 refine dJ (n:=40) (JX tk ht) ?_;intro ar k s F Kb h0 hq hM;unfold rp at hM;split at hM
 ·rename_i l n c;have h1:=hM.1.1;have h2:=hM.1.2.1;have h3:=hM.1.2.2;have hK:=hM.2;rw[Nm];refine⟨eY hq,BA ⟨h1,rb (by decide) h2 z4 z16 h3⟩ λF1=>⟨eY hq,fD ?_ λF2=>aM rfl hK F2⟩⟩;have:=h1.2;simp only[Sd.Scene.tell];omega
 ·exact hM.elim
theorem Nn (tk:Nat->Sd.Byt->Option Sd.bW) (ht:Body (fr:=fr) 147 bV):Body (fr:=fr) 195 jq:=by
 refine dJ (n:=40) (JX tk ht) ?_;intro ar k s F Kb h0 hq hM;unfold jq at hM;split at hM
 ·rename_i l n;have h1:=hM.1.1;have h2:=hM.1.2;have hK:=hM.2;rw[Yx];exact⟨eY hq,BA ⟨h1,rb (by decide) h2 z4 z16 z8⟩ λF1=>aM rfl hK F1⟩
 ·exact hM.elim
theorem No (tk:Nat->Sd.Byt->Option Sd.bW) (ht:Body (fr:=fr) 147 bV):Body (fr:=fr) 131 oU:=by
 refine dJ (n:=40) (JX tk ht) ?_;intro ar k s F Kb h0 hq hM;unfold oU at hM;split at hM
 ·rename_i l rl;split at hM
  ·rename_i r hr;obtain⟨a,b,c,d,e,f,rfl,rfl⟩:=R7 hr;have h1:=hM.1.1;have h2:=hM.1.2;have hK:=hM.2;rw[Yy,aev];refine⟨trivial,aU (λe1=>⟨trivial,aU (λe2=>?_) (λe2=>?_)⟩) (λe1=>?_)⟩
   ·refine⟨eY hq,BA ⟨h1,h2⟩ λF1=>aM ?_ hK F1⟩;simp only[Sd.Scene.hear,e1,e2,Bool.and_self,if_true]
   ·refine aM ?_ hK F;simp[Sd.Scene.hear,e1,e2]
   ·refine aM ?_ hK F;simp[Sd.Scene.hear,e1]
  ·exact hM.elim
 ·exact hM.elim
def L2 (fr:Sd.Reply->Nat×Sd.Byt) (C:Sd.Crypt):List (dI (Gh fr)):=⟨145,false,pP (rp C)⟩::⟨195,false,pP jq⟩::⟨131,false,pP oU⟩::L1 fr C
theorem JY (tk:Nat->Sd.Byt->Option Sd.bW) (ht:Body (fr:=fr) 147 bV):ai prog gS (L2 fr (ah tk)):=
 ai.cons (c_ (Ee tk ht)) (ai.cons (c_ (Nn tk ht)) (ai.cons (c_ (No tk ht)) (JX tk ht)))
section
variable(C:Sd.Crypt) (k:LK) (s:Sd.Scene) (F:bN fr (bA k s)) (Kb:SK fr k)
theorem YA (l n c:Int):cJ (dR prog gS (L2 fr C)) 40 87 [.ptr 2 0,.int .i64 l,.int .i64 n,.int .i64 c] (cS k s F) [cB k s F] (aO k s Kb)
 =(ez k s F/\oU [.int .i64 l,.agg (il 136 0 0 n 0 c)] k (dv s) F λv s' F'=>aO k s Kb (.az []) (cS k s' F') [cB k s' F']):=by kernel_rfl
theorem YB (m:Int) (b:Sd.Label):cJ (dR prog gS (L2 fr C)) 40 88 [.ptr 2 0,.int .i64 m,.agg (oF b)] (cS k s F) [cB k s F] (aO k s Kb)
 =(True/\aO k s Kb (.az []) (cS k (s.dH m b) F++[⟨true,⟨44,(0,0)⟩,oF b⟩]) [cB k s F]):=by kernel_rfl
def gs1 (s:Sd.Scene) (t:Sd.Tok):Sd.Scene:={s with c:={s.c with t:=t,q:=Sd.Q.drop s.c.q t.holder}}
theorem YC (t:Sd.Tok) (h n:Int):cJ (dR prog gS (L2 fr C)) 60 85 [.ptr 2 0,.agg (cI t),.int .i64 h,.int .i64 n] (cS k s F) [cB k s F] (aO k s Kb)
 =((vq k=vq k/\True)/\∀B (hB:QS k.bq k.most (Sd.Q.drop s.c.q t.holder) B),
  ez k (gs1 s t) (F.bH _ B hB)/\oU [.int .i64 s.c.t.holder,.agg (il 134 0 0 t.holder t.epoch 0)] k (dv (gs1 s t)) (F.bH _ B hB) λv s2 F2=>
  ez k s2 F2/\oU [.int .i64 t.holder,.agg (il 133 0 0 0 t.epoch 0)] k (dv s2) F2 λv s3 F3=>
  ez k s3 F3/\hU C [.int .i64 8,.int .i64 t.holder,.int .i64 n,.int .i64 0,.int .i64 h] k (dv s3) F3 λv s' F'=>aO k s Kb (.az []) (cS k s' F'++[⟨true,⟨95,(0,0)⟩,cI t⟩]) [cB k s' F']):=by kernel_rfl
def qd (s:Sd.Scene) (l:Int):Sd.Scene:={s with c:={s.c with q:=Sd.Q.drop s.c.q l}}
def fQ (s:Sd.Scene) (t:Sd.Tok):Sd.Scene:={s with c:={s.c with t:=t}}
end
theorem hear_c (s:Sd.Scene) (l:Int) (r:Sd.Reply):(s.hear l r).c=s.c:=by unfold Sd.Scene.hear;split<;>rfl
theorem hear_recs (s:Sd.Scene) (l:Int) (r:Sd.Reply):(s.hear l r).recs=s.recs:=by unfold Sd.Scene.hear;split<;>rfl
theorem Np (s:Sd.Scene) (l:Int) (r:Sd.Reply):(s.hear l r).sent.length<=s.sent.length+1:=by unfold Sd.Scene.hear Sd.Scene.tell;split<;>simp
theorem Rm.hear {s:Sd.Scene} {l:Int} {r:Sd.Reply} {n:Nat} (h:Rm s (n+1)):Rm (s.hear l r) n:=by
 have h1:=Np s l r;have h2:=hear_recs s l r;have:=h.1;have:=h.2
 exact⟨by omega,by rw[h2];omega⟩
theorem Rm.rec {s:Sd.Scene} {C:Sd.Crypt} {a b c d e:Int} {n:Nat} (h:Rm s (n+1)):Rm (s.record C a b c d e) n:=by
 have:=h.1;have:=h.2
 exact⟨by simp only[Sd.Scene.record];omega,by simp only[Sd.Scene.record,List.length_append,List.length_singleton];omega⟩
theorem Rm.le {s:Sd.Scene} {n m:Nat} (h:Rm s n) (hm:m<=n):Rm s m:=⟨by have:=h.1;omega,by have:=h.2;omega⟩
theorem Rm.r1 {s:Sd.Scene} {n:Nat} (h:Rm s n):s.recs.length<=1000:=by have:=h.2;omega
section
variable(tk:Nat->Sd.Byt->Option Sd.bW)
include tk
theorem Nq (ht:Body (fr:=fr) 147 bV):Body (fr:=fr) 87 ny:=by
 refine dJ (n:=40) (JY tk ht) ?_;intro ar k s F Kb h0 hq hM;unfold ny at hM;split at hM
 ·rename_i l n c;have h1:=hM.1.1;have h2:=hM.1.2.1;have h3:=hM.1.2.2;have hK:=hM.2;rw[YA];exact⟨eY hq,vx ⟨h1,rb (by decide) Yz h2 z16 h3⟩ λF1=>aM rfl hK F1 (hp:=by unfold Sd.Scene.gone;rw[hear_c])⟩
 ·exact hM.elim
def rD:SM fr:=λar k s F K=>match ar with
 |[.int .i64 m,.agg bl]=>(match Rl bl with
  |some b=>∀F',K (.az []) (s.dH m b) F'
  |none=>False)
 |_=>False
theorem Nr (ht:Body (fr:=fr) 147 bV):Body (fr:=fr) 88 rD:=by
 refine dJ (n:=40) (JY tk ht) ?_;intro ar k s F Kb h0 hq hM;unfold rD at hM;split at hM
 ·rename_i m bl;split at hM
  ·rename_i b hb;obtain rfl:=A6 hb;rw[YB (ah tk)];exact⟨trivial,aM (s':=s.dH m b) rfl hM F⟩
  ·exact hM.elim
 ·exact hM.elim
def lg (C:Sd.Crypt):SM fr:=λar k s F K=>match ar with
 |[.agg tl,.int .i64 h,.int .i64 n]=>(match kK tl with
  |some t=>(Rm s 4/\N4 t.holder/\VZ t.epoch)/\∀F',K (.az []) (s.goes C t h n) F'
  |none=>False)
 |_=>False
theorem Ns (ht:Body (fr:=fr) 147 bV):Body (fr:=fr) 85 (lg (ah tk)):=by
 refine dJ (n:=60) (JY tk ht) ?_;intro ar k s F Kb h0 hq hM;unfold lg at hM;split at hM
 ·rename_i tl h n;split at hM
  ·rename_i t hb;obtain rfl:=fh hb;have h1:Rm (gs1 s t) 4:=hM.1.1;have h2:=hM.1.2.1;have h3:=hM.1.2.2;have hK:=hM.2;rw[YC];refine⟨⟨rfl,trivial⟩,λB hB=>⟨eY hq,vx ⟨h1.le (by decide),rb (by decide) Yz h2 h3 z8⟩ λF2=>⟨eY ?_,vx ⟨h1.hear.le (by decide),rb (by decide) Yz z4 h3 z8⟩ λF3=>⟨eY ?_,fD h1.hear.hear.r1 λF4=>aM rfl hK F4 (hp:=?_)⟩⟩⟩⟩
   ·rw[hear_c];exact hq
   ·rw[hear_c,hear_c];exact hq
   ·show(Sd.Scene.hear _ _ _).c.p=_;rw[hear_c,hear_c]
  ·exact hM.elim
 ·exact hM.elim
end
def L3 (fr:Sd.Reply->Nat×Sd.Byt) (C:Sd.Crypt):List (dI (Gh fr)):=⟨87,false,pP ny⟩::⟨88,false,pP rD⟩::⟨85,false,pP (lg C)⟩::L2 fr C
theorem abB (tk:Nat->Sd.Byt->Option Sd.bW) (ht:Body (fr:=fr) 147 bV):ai prog gS (L3 fr (ah tk)):=
 ai.cons (c_ (Nq tk ht)) (ai.cons (c_ (Nr tk ht)) (ai.cons (c_ (Ns tk ht)) (JY tk ht)))
theorem R9 (C:Sd.Crypt) (k:LK) (s:Sd.Scene) (F:bN fr (bA k s)) (Kb:SK fr k) (l:Int):cJ (dR prog gS (L3 fr C)) 60 91 [.ptr 2 0,.int .i64 l] (cS k s F) [cB k s F] (aO k s Kb)
 =((vq k=vq k/\True)/\∀B (hB:QS k.bq k.most (Sd.Q.drop s.c.q l) B),True/\cond (!(s.c.t.drop l).2) (aO k s Kb (.az []) (cS k (qd s l) (F.bH _ B hB)++[⟨true,⟨95,(0,0)⟩,cI (s.c.t.drop l).1⟩]) [cB k (qd s l) (F.bH _ B hB)])
  (ez k (fQ (qd s l) (s.c.t.drop l).1) (F.bH _ B hB)/\ny [.int .i64 (s.c.t.drop l).1.holder,.int .i64 l,.int .i64 16] k (dv (fQ (qd s l) (s.c.t.drop l).1)) (F.bH _ B hB) λv s2 F2=>
   ez k s2 F2/\hU C [.int .i64 12,.int .i64 l,.int .i64 0,.int .i64 16,.int .i64 0] k (dv s2) F2 λv s' F'=>aO k s Kb (.az []) (cS k s' F'++[⟨true,⟨95,(0,0)⟩,cI (s.c.t.drop l).1⟩]) [cB k s' F'])):=by kernel_rfl
theorem gone_c (s:Sd.Scene) (l w c:Int):(s.gone l w c).c=s.c:=hear_c _ _ _
theorem gone_recs (s:Sd.Scene) (l w c:Int):(s.gone l w c).recs=s.recs:=hear_recs _ _ _
theorem Rm.gone {s:Sd.Scene} {l w c:Int} {n:Nat} (h:Rm s (n+1)):Rm (s.gone l w c) n:=h.hear
section
variable{k:LK} {s:Sd.Scene} {F:bN fr (bA k s)} {K:SK fr k}
theorem rF {l w c:Int} (h:Rm s 1/\N4 w/\N8 c) (hK:∀F',K (.az []) (s.gone l w c) F'):ny [.int .i64 l,.int .i64 w,.int .i64 c] k (dv s) F K:=by
 have e:ny [.int .i64 l,.int .i64 w,.int .i64 c] k s F K=((Rm s 1/\N4 w/\N8 c)/\∀F',K (.az []) (s.gone l w c) F'):=by kernel_rfl
 exact fC (M:=ny) (e▸⟨h,hK⟩)
theorem iH {l n:Int} (h:Rm s 1/\V0 n) (hK:∀F',K (.az []) (s.done l n) F'):jq [.int .i64 l,.int .i64 n] k (dv s) F K:=by
 have e:jq [.int .i64 l,.int .i64 n] k s F K=((Rm s 1/\V0 n)/\∀F',K (.az []) (s.done l n) F'):=by kernel_rfl
 exact fC (M:=jq) (e▸⟨h,hK⟩)
theorem gL {C:Sd.Crypt} {l n c:Int} (h:Rm s 1/\V0 n/\N8 c) (hK:∀F',K (.az []) (s.refuse C l n c) F'):rp C [.int .i64 l,.int .i64 n,.int .i64 c] k (dv s) F K:=by
 have e:rp C [.int .i64 l,.int .i64 n,.int .i64 c] k s F K=((Rm s 1/\V0 n/\N8 c)/\∀F',K (.az []) (s.refuse C l n c) F'):=by kernel_rfl
 exact fC (M:=rp C) (e▸⟨h,hK⟩)
theorem w_ {C:Sd.Crypt} {l c:Int} (h:s.recs.length<=1000) (hK:∀F',K (.az []) (s.dp C l c) F'):tM C [.int .i64 l,.int .i64 c] k (dv s) F K:=by
 have e:tM C [.int .i64 l,.int .i64 c] k s F K=(s.recs.length<=1000/\∀F',K (.az []) (s.dp C l c) F'):=by kernel_rfl
 exact fC (M:=tM C) (e▸⟨h,hK⟩)
theorem l9 {C:Sd.Crypt} {t:Sd.Tok} {h n:Int} (hh:Rm s 4/\N4 t.holder/\VZ t.epoch) (hK:∀F',K (.az []) (s.goes C t h n) F'):lg C [.agg (cI t),.int .i64 h,.int .i64 n] k (dv s) F K:=by
 have e:lg C [.agg (cI t),.int .i64 h,.int .i64 n] k s F K=((Rm s 4/\N4 t.holder/\VZ t.epoch)/\∀F',K (.az []) (s.goes C t h n) F'):=by kernel_rfl
 exact fC (M:=lg C) (e▸⟨hh,hK⟩)
theorem BB {m:Int} {b:Sd.Label} (hK:∀F',K (.az []) (s.dH m b) F'):rD [.int .i64 m,.agg (oF b)] k (dv s) F K:=by
 have e:rD [.int .i64 m,.agg (oF b)] k s F K=(∀F',K (.az []) (s.dH m b) F'):=by kernel_rfl
 exact fC (M:=rD) (e▸hK)
end
def jY (C:Sd.Crypt):SM fr:=λar k s F K=>match ar with
 |[.int .i64 l]=>(Rm s 2/\N4 l)/\∀F',K (.az []) (s.leave C l) F'
 |_=>False
theorem Hn (tk:Nat->Sd.Byt->Option Sd.bW) (ht:Body (fr:=fr) 147 bV):Body (fr:=fr) 91 (jY (ah tk)):=by
 refine dJ (n:=60) (abB tk ht) ?_;intro ar k s F Kb h0 hq hM;unfold jY at hM;split at hM
 ·rename_i l;have h1:Rm (fQ (qd s l) (s.c.t.drop l).1) 2:=hM.1.1;have h2:=hM.1.2;have hK:=hM.2;rw[R9];refine⟨⟨rfl,trivial⟩,λB hB=>⟨trivial,aU (λe=>?_) (λe=>?_)⟩⟩
  ·refine aM (s':=qd s l) ?_ hK (F.bH (Sd.Q.drop s.c.q l) B hB);simp only[Bool.not_eq_true']at e;exact(if_pos e).symm
  ·refine⟨eY hq,rF ⟨h1.le (by decide),h2,⟨by decide,by decide⟩⟩ λF2=>⟨eY ?_,fD h1.gone.r1 λF3=>aM ?_ hK F3 (hp:=?_)⟩⟩
   ·rw[gone_c];exact hq
   ·simp only[Bool.not_eq_false']at e;have e_:¬(s.c.t.drop l).2=false:=by rw[e];decide
    exact(if_neg e_).symm
   ·show(Sd.Scene.gone _ _ _ _).c.p=_;rw[gone_c];rfl
 ·exact hM.elim
end Go.Proofs.YtggfpcggakghnaaGreatDoor
namespace Go.Proofs.YtggfpcggakghnaaGreatDoor
open Go Go.RowKit Go.BigFrame Sx Vx
def db (n:Int):Prop:=-9223372036854775808<=n/\n<=9223372036854775807
theorem cj {a b:List av} (h:∀f:av->Bool,a.countP f=b.countP f):a.Perm b:=by
 classical
 refine List.perm_iff_count.2 λx=>?_;exact h _
structure QH where
 k:LK
 q:List Sd.Ask
 B:List av
 h:QS k.bq k.most q B
instance:Bl QH:=⟨λg=>g.B⟩
def qhC (x:QG):gm QH:=λargs bl ch K=>match ch with
 |[g]=>(match args[x.pos]?with
  |some (.raw vp)=>(match x.m (args.eraseIdx x.pos) g.k.most g.q with
   |some (p,v,q')=>cond (cH 0 args&&fK 0 v) ((vp=vq g.k/\p)/\∀B (h:QS g.k.bq g.k.most q' B),K v bl [⟨g.k,q',B,h⟩]) False
   |none=>False)
  |_=>False)
 |_=>False
theorem R_ {x:QG} (h:x.Ok) (gl:Nat->Option Nat):Sound prog gl x.f (qhC x):=by
 intro args ids bl ch R ms w0 w K hg hl S hc;unfold qhC at hc;split at hc
 ·rename_i g;split at hc
  ·rename_i vp hvp;split at hc
   ·rename_i p v q' hm;cases hq:cH 0 args&&fK 0 v with
    |false=>rw[hq]at hc;exact hc.elim
    |true=>
     rw[hq]at hc;simp only[Bool.and_eq_true]at hq;obtain⟨⟨rfl,hp⟩,hK⟩:=hc;have a1:ao ids args=ao [] args:=by have:=dW (ids:=[]) (more:=ids) args hq.1;simpa using this
     have e0:∀(B:List av) (h:QS g.k.bq g.k.most q' B),af ([⟨g.k,q',B,h⟩]:List QH) R=B++R:=λ_ _=>rfl;have S1:St ms w0 (g.B++(lits ids ids bl++R)) w:=S.perm (by show List.Perm (lits ids ids bl++(g.B++R)) _;exact cj λf=>by simp only[List.countP_append];omega);rw[a1];refine(h args g.k g.q p v q' hvp hm hp _ g.h _ ms w0 w S1).mono ?_;rintro y w1 ⟨B',rfl,hB,S2⟩;refine⟨v,[],bl,_,?_,by simpa using hl,?_,hK B' hB⟩
     ·have:=bC (ids:=[]) (more:=ids++[]) v hq.2;simpa using this.symm
     ·rw[e0,List.append_nil];exact S2.perm (cj λf=>by simp only[List.countP_append];omega)
   ·exact hc.elim
  ·exact hc.elim
 ·exact hc.elim
def qhE (x:QG):dI QH:=⟨x.f,false,qhC x⟩
theorem BC {x:QG} (h:x.Ok) {gl:Nat->Option Nat}:oP (G:=QH) prog gl (qhE x):=⟨R_ h gl,λe=>by cases e⟩
theorem Sa {L:List (dI QH)} (hL:ai prog (λ_=>none) L) (n:Nat) {f:Nat} {args:List V} {v:V} {k:LK} {q q':List Sd.Ask} {B:List av} (hB:QS k.bq k.most q B) (h:cJ (dR prog (λ_=>none) L) n f args [] [⟨k,q,B,hB⟩] (cP 0 λx b c=>x=v/\b=[]/\∃B h,c=[⟨k,q',B,h⟩])) (hv:fK 0 v=true)
 {bs:List av} {ms:List Nat} {w0 w:World} (S:St ms w0 (B++bs) w):aj prog f (ao [] args).toArray w λy w1=>∃B',y=den [] v/\QS k.bq k.most q' B'/\St ms w0 (B'++bs) w1:=by
 refine(bw hL.T hL.Q n (C:=dR prog (λ_=>none) L) (ids:=[]) (bl:=[]) (ch:=[⟨k,q,B,hB⟩]) (R:=bs) Gl.none rfl S h).mono ?_;rintro x w' ⟨y,more,bl',ch',rfl,h1,S',hK⟩;obtain⟨v2,aP,bl2,e,gx,S2,rfl,rfl,B1,Xj,rfl⟩:=c9 (n0:=0) h1 (by simp) S' hK;have hm:aP=[]:=by simpa using gx
 subst hm;exact⟨B1,e,Xj,S2⟩
def Sb:QG:=⟨213,0,λargs _ q=>match args with
 |[]=>some (True,.az [.agg (Rn (gb q).1),.int .i64 (gb q).2],q)
 |_=>none⟩
theorem Sc:Sb.Ok:=by
 intro args k q p v q' hv hm hp B hB bs ms w0 w S
 match args,hv,hm with
 |[a],hv,hm=>
  have ha:a=.raw (vq k):=by simpa[Sb]using hv
  subst ha;replace hm:some (True,V.az [.agg (Rn (gb q).1),.int .i64 (gb q).2],q)=some (p,v,q'):=hm;simp only[Option.some.injEq,Prod.mk.injEq]at hm;obtain⟨rfl,rfl,rfl⟩:=hm;exact(aeh hB S).mono (by rintro y w1 ⟨rfl,h⟩;exact⟨B,rfl,hB,S.quiet h⟩)
 |_::_::_,_,hm=>cases hm
def Se:QG:=⟨216,0,λargs most q=>match args with
 |[.agg al]=>(match Yc al with|some a=>some (most<=3/\(∀e∈q,e.source=a.source\/¬e.aV=a.aV),.int .i64 (Sd.Q.push most q a).2,(Sd.Q.push most q a).1)|none=>none)
 |_=>none⟩
theorem Sf:Se.Ok:=by
 intro args k q p v q' hv hm hp B hB bs ms w0 w S
 match args,hv,hm with
 |a::l,hv,hm=>
  have ha:a=.raw (vq k):=by simpa[Se]using hv
  subst ha;replace hm:(match(generalizing:=false) l with
   |[.agg al]=>(match Yc al with|some a=>some (k.most<=3/\(∀e∈q,e.source=a.source\/¬e.aV=a.aV),V.int .i64 (Sd.Q.push k.most q a).2,(Sd.Q.push k.most q a).1)|none=>none)
   |_=>none)=some (p,v,q'):=hm
  split at hm
  ·split at hm
   ·rename_i a ha;obtain rfl:=Yd ha;simp only[Option.some.injEq,Prod.mk.injEq]at hm;obtain⟨rfl,rfl,rfl⟩:=hm;exact aeg a hB hp.1 hp.2 S
   ·cases hm
  ·cases hm
theorem Ho (t:Sd.Tok) (q:List Sd.Ask):Sd.bg t q=if(gb q).2≠0 then(t,(gb q).2,q)else if(t.bz (gb q).1.source).2≠0 then(t,(t.bz (gb q).1.source).2,q)else((t.bz (gb q).1.source).1,0,Sd.Q.drop q (gb q).1.source):=by
 cases q with
 |nil=>rfl
 |cons a q=>rfl
def LA:List (dI QH):=qhE JV::qhE Sb::qL QH QV
theorem abC:ai prog (λ_=>none) LA:=ai.cons (BC Ed) (ai.cons (BC Sc) (f_ (uq _)))
def one (g:QH) (q:List Sd.Ask) (X:List QH->Prop):Prop:=∀B (h:QS g.k.bq g.k.most q B),X [⟨g.k,q,B,h⟩]
def nz (t:Sd.Tok) (n:Int):V:=.az [.agg (cI t),.int .i64 n]
theorem Sg (g:QH) (t:Sd.Tok) (K:VK QH):cJ (dR prog (λ_=>none) LA) 60 180 [.agg (cI t),.raw (vq g.k)] [] [g] (cP 0 K)=
 ((vq g.k=vq g.k/\True)/\one g g.q λc=>cond ((gb g.q).2!=0) (K (nz t (gb g.q).2) [] c) (db t.epoch/\cond ((t.bz (gb g.q).1.source).2!=0) (K (nz t (t.bz (gb g.q).1.source).2) [] c)
   ((vq g.k=vq g.k/\True)/\one g (Sd.Q.drop g.q (gb g.q).1.source) λc=>K (nz (t.bz (gb g.q).1.source).1 0) [] c))):=by kernel_rfl
def BD:QG:=⟨180,1,λargs _ q=>match args with
 |[.agg tl]=>(match kK tl with|some t=>some (db t.epoch,nz (Sd.bg t q).1 (Sd.bg t q).2.1,(Sd.bg t q).2.2)|none=>none)
 |_=>none⟩
theorem Nt:BD.Ok:=by
 intro args k q p v q' hv hm hp B hB bs ms w0 w S
 match args,hv,hm with
 |a::b::l,hv,hm=>
  have ha:b=.raw (vq k):=by simpa[BD]using hv
  subst ha;replace hm:(match(generalizing:=false) a::l with
   |[.agg tl]=>(match kK tl with|some t=>some (db t.epoch,nz (Sd.bg t q).1 (Sd.bg t q).2.1,(Sd.bg t q).2.2)|none=>none)
   |_=>none)=some (p,v,q'):=hm
  split at hm
  ·rename_i tl heq;obtain⟨rfl,rfl⟩:=List.cons.inj heq;split at hm
   ·rename_i t ht;obtain rfl:=fh ht;simp only[Option.some.injEq,Prod.mk.injEq]at hm;obtain⟨rfl,rfl,rfl⟩:=hm;refine Sa abC 60 hB ?_ rfl S;rw[show cJ (dR prog (λ_=>none) LA) 60 BD.f=cJ (dR prog (λ_=>none) LA) 60 180 from rfl,Sg ⟨k,q,B,hB⟩,Ho];refine⟨⟨rfl,trivial⟩,λB h=>aU (λh1=>?_) (λh1=>⟨hp,aU (λh2=>?_) λh2=>⟨⟨rfl,trivial⟩,λB h=>?_⟩⟩)⟩
    ·rw[if_pos (by simpa using h1)];exact⟨rfl,rfl,B,h,rfl⟩
    ·rw[if_neg (by simpa using h1),if_pos (by simpa using h2)];exact⟨rfl,rfl,B,h,rfl⟩
    ·rw[if_neg (by simpa using h1),if_neg (by simpa using h2)];exact⟨rfl,rfl,B,h,rfl⟩
   ·cases hm
  ·cases hm
def LB:List (dI QH):=qhE BD::qhE Se::LA
theorem aiy:ai prog (λ_=>none) LB:=ai.cons (BC Nt) (ai.cons (BC Sf) abC)
def vcB (f:FuncId) (args:List V) (g:QH) (K:VK QH):Prop:=cJ (dR prog (λ_=>none) LB) 60 f args [] [g] (cP 0 K)
theorem BE {f:Nat} {args:List V} {v:V} {k:LK} {q q':List Sd.Ask} {B:List av} (hB:QS k.bq k.most q B) (h:vcB f args ⟨k,q,B,hB⟩ λx b c=>x=v/\b=[]/\∃B h,c=[⟨k,q',B,h⟩]) (hv:fK 0 v=true)
 {bs:List av} {ms:List Nat} {w0 w:World} (S:St ms w0 (B++bs) w):aj prog f (ao [] args).toArray w λy w1=>∃B',y=den [] v/\QS k.bq k.most q' B'/\St ms w0 (B'++bs) w1:=Sa aiy 60 hB h hv S
theorem aey (g:QH) (t:Sd.Tok) (f:Int) (K:VK QH):vcB 127 [.agg (cI t),.raw (vq g.k),.int .i64 f] g K=
 cond (f !=t.holder) (K (nz t 20) [] [g]) (cond (decide (t.epoch>=65535)) (K (nz t 24) [] [g]) ((vq g.k=vq g.k/\db t.epoch)/\one g (Sd.bg t g.q).2.2 λc=>K (nz (Sd.bg t g.q).1 (Sd.bg t g.q).2.1) [] c)):=by kernel_rfl
theorem alV {k:LK} {q:List Sd.Ask} {B:List av} (hB:QS k.bq k.most q B) {t:Sd.Tok} (he:db t.epoch) (f:Int) {bs:List av} {ms:List Nat} {w0 w:World} (S:St ms w0 (B++bs) w):
 aj prog 127 (ao [] [.agg (cI t),.raw (vq k),.int .i64 f]).toArray w λy w1=>∃B',y=den [] (nz (Sd.dy t q f).1 (Sd.dy t q f).2.1)/\QS k.bq k.most (Sd.dy t q f).2.2 B'/\St ms w0 (B'++bs) w1:=by
 refine BE hB ?_ rfl S;rw[aey ⟨k,q,B,hB⟩];unfold Sd.dy;refine aU (λh=>?_) (λh=>aU (λh2=>?_) λh2=>⟨⟨rfl,he⟩,λB h3=>?_⟩)
 ·rw[if_pos (by simpa using h)];exact⟨rfl,rfl,B,hB,rfl⟩
 ·rw[if_neg (by simpa using h),if_pos (by simpa using h2)];exact⟨rfl,rfl,B,hB,rfl⟩
 ·rw[if_neg (by simpa using h),if_neg (by simpa using h2)];exact⟨rfl,rfl,B,h3,rfl⟩
def loT (g:QH) (t:Sd.Tok) (la:Sd.Timer) (K:VK QH):Prop:=
 let t1:Sd.Tok:={t with la:=la.step}
 (db la.n/\db la.most)/\True/\cond (!la.step.due) (K (nz t1 0) [] [g]) (cond (decide (t.epoch>=65535)) (db t.epoch/\K (nz t1.dO 6) [] [g]) ((vq g.k=vq g.k/\db t.epoch)/\one g (Sd.bg t1 g.q).2.2 λc=>
  cond ((Sd.bg t1 g.q).2.1!=0) (db t.epoch/\K (nz (t1.bz 4).1 5) [] c) (K (nz (Sd.bg t1 g.q).1 5) [] c)))
theorem aez (g:QH) (p:Sd.Pol) (ka:Nat->Option Addr) (kn kc:Nat->Nat) (t:Sd.Tok) (th:Bool) (K:VK QH):vcB 141 [.agg [.j8 p ka kn kc],.agg (cI t),.raw (vq g.k),.bool th] g K=
 cond (t.holder==4) (K (nz {t with la:=.zero} 0) [] [g]) (cond th (K (nz {t with la:=.zero} 0) [] [g]) (cond (t.la.most==0) (db (p.i 43)/\loT g t (.start (p.i 43)) K) (loT g t t.la K))):=by kernel_rfl
def Sh (t:Sd.Tok) (a n:Int):V:=.az [.agg (cI t),.int .i64 a,.int .i64 n]
def akG (g:QH) (t:Sd.Tok) (f:Int) (K:VK QH):Prop:=db t.epoch/\cond ((t.bz f).2!=0) (K (Sh t 0 (t.bz f).2) [] [g]) ((vq g.k=vq g.k/\True)/\one g (Sd.Q.drop g.q f) λc=>K (Sh (t.bz f).1 3 0) [] c)
def akP (g:QH) (p:Sd.Pol) (t:Sd.Tok) (f:Int) (K:VK QH):Prop:=
 let a:Sd.Ask:=⟨f,Sd.placeOf p f,.start (p.i 45)⟩
 True/\db (p.i 45)/\(vq g.k=vq g.k/\g.k.most<=3/\∀e∈g.q,e.source=f\/¬e.aV=Sd.placeOf p f)/\one g (Sd.Q.push g.k.most g.q a).1 λc=>K (Sh t 0 (Sd.Q.push g.k.most g.q a).2) [] c
theorem aiz (g:QH) (p:Sd.Pol) (ka:Nat->Option Addr) (kn kc:Nat->Nat) (t:Sd.Tok) (f:Int) (nw:Bool) (K:VK QH):vcB 197 [.agg [.j8 p ka kn kc],.agg (cI t),.raw (vq g.k),.int .i64 f,.bool nw] g K=
 cond t.bad (K (Sh t 0 29) [] [g]) (cond (f==t.holder) (K (Sh t 0 25) [] [g]) (cond (decide (t.epoch>=65535)) (K (Sh t 0 24) [] [g]) (cond (t.holder==4) (akG g t f K)
  (cond nw (True/\cond (Sd.cu p f t.holder) (akG g t f K) (cond nw (K (Sh t 0 26) [] [g]) (akP g p t f K))) (cond nw (K (Sh t 0 26) [] [g]) (akP g p t f K)))))):=by kernel_rfl
def loB (t:Sd.Tok) (la:Sd.Timer) (q:List Sd.Ask):Sd.Tok×Int×List Sd.Ask:=
 let t1:Sd.Tok:={t with la:=la.step}
 if la.step.due=false then(t1,0,q)else if 65535<=t.epoch then(t1.dO,6,q)else if(Sd.bg t1 q).2.1≠0 then((t1.bz 4).1,5,(Sd.bg t1 q).2.2)else((Sd.bg t1 q).1,5,(Sd.bg t1 q).2.2)
theorem Si {k:LK} {q:List Sd.Ask} {B:List av} (hB:QS k.bq k.most q B) {t:Sd.Tok} (he:db t.epoch) {la:Sd.Timer} (O7:db la.n/\db la.most):
 loT ⟨k,q,B,hB⟩ t la λx b c=>x=nz (loB t la q).1 (loB t la q).2.1/\b=[]/\∃B h,c=[⟨k,(loB t la q).2.2,B,h⟩]:=by
 unfold loT loB;refine⟨O7,trivial,aU (λh=>?_) (λh=>aU (λh2=>⟨he,?_⟩) λh2=>⟨⟨rfl,he⟩,λB1 h1=>aU (λh3=>⟨he,?_⟩) λh3=>?_⟩)⟩
 ·rw[if_pos (by simpa using h)];exact⟨rfl,rfl,B,hB,rfl⟩
 ·rw[if_neg (by simpa using h),if_pos (by simpa using h2)];exact⟨rfl,rfl,B,hB,rfl⟩
 ·rw[if_neg (by simpa using h),if_neg (by simpa using h2),if_pos (by simpa using h3)];exact⟨rfl,rfl,B1,h1,rfl⟩
 ·rw[if_neg (by simpa using h),if_neg (by simpa using h2),if_neg (by simpa using h3)];exact⟨rfl,rfl,B1,h1,rfl⟩
theorem alW {k:LK} {q:List Sd.Ask} {B:List av} (hB:QS k.bq k.most q B) (p:Sd.Pol) (ka:Nat->Option Addr) (kn kc:Nat->Nat) {t:Sd.Tok} (th:Bool) (he:db t.epoch) (O7:db t.la.n/\db t.la.most) (hp:1<=p.i 43/\p.i 43<=1000) {bs:List av} {ms:List Nat} {w0 w:World} (S:St ms w0 (B++bs) w):
 aj prog 141 (ao [] [.agg [.j8 p ka kn kc],.agg (cI t),.raw (vq k),.bool th]).toArray w λy w1=>∃B',y=den [] (nz (Sd.bM p t q th).1 (Sd.bM p t q th).2.1)/\QS k.bq k.most (Sd.bM p t q th).2.2 B'/\St ms w0 (B'++bs) w1:=by
 refine BE hB ?_ rfl S;rw[aez ⟨k,q,B,hB⟩];have e:Sd.bM p t q th=if t.holder=4\/th=true then({t with la:=.zero},0,q)else loB t (if t.la.most=0 then .start (p.i 43)else t.la) q:=rfl
 rw[e];refine aU (λh=>?_) (λh=>aU (λh2=>?_) λh2=>?_)
 ·rw[if_pos (.inl (by simpa using h))];exact⟨rfl,rfl,B,hB,rfl⟩
 ·rw[if_pos (.inr h2)];exact⟨rfl,rfl,B,hB,rfl⟩
 ·rw[if_neg (by simp at h;simp[h,h2])];refine aU (λh3=>⟨by unfold db;omega,?_⟩) (λh3=>?_)
  ·rw[if_pos (by simpa using h3)];refine Si hB he ?_;rw[nq,if_neg (by omega)];exact⟨⟨by show(-9223372036854775808:Int)<=0;omega,by show(0:Int)<=9223372036854775807;omega⟩,by unfold db;show _<=p.i 43/\p.i 43<=_;omega⟩
  ·rw[if_neg (by simpa using h3)];exact Si hB he O7
theorem Sj {k:LK} {q:List Sd.Ask} {B:List av} (hB:QS k.bq k.most q B) {t:Sd.Tok} (he:db t.epoch) {f:Int} {R:Sd.Tok×Int×Int×List Sd.Ask} (e:R=if(t.bz f).2≠0 then(t,0,(t.bz f).2,q)else((t.bz f).1,3,0,Sd.Q.drop q f)):
 akG ⟨k,q,B,hB⟩ t f λx b c=>x=Sh R.1 R.2.1 R.2.2.1/\b=[]/\∃B h,c=[⟨k,R.2.2.2,B,h⟩]:=by
 unfold akG;subst e;refine⟨he,aU (λh=>?_) (λh=>⟨⟨rfl,trivial⟩,λB1 h1=>?_⟩)⟩
 ·rw[if_pos (by simpa using h)];exact⟨rfl,rfl,B,hB,rfl⟩
 ·rw[if_neg (by simpa using h)];exact⟨rfl,rfl,B1,h1,rfl⟩
theorem alX {k:LK} {q:List Sd.Ask} {B:List av} (hB:QS k.bq k.most q B) (p:Sd.Pol) (ka:Nat->Option Addr) (kn kc:Nat->Nat) {t:Sd.Tok} (f:Int) (nw:Bool) (he:db t.epoch) (hm:k.most<=3) (hr:∀e∈q,e.source=f\/¬e.aV=Sd.placeOf p f) (hp:1<=p.i 45/\p.i 45<=1000) {bs:List av} {ms:List Nat} {w0 w:World} (S:St ms w0 (B++bs) w):
 aj prog 197 (ao [] [.agg [.j8 p ka kn kc],.agg (cI t),.raw (vq k),.int .i64 f,.bool nw]).toArray w λy w1=>∃B',y=den [] (Sh (Sd.cv p t k.most q f nw).1 (Sd.cv p t k.most q f nw).2.1 (Sd.cv p t k.most q f nw).2.2.1)/\QS k.bq k.most (Sd.cv p t k.most q f nw).2.2.2 B'/\St ms w0 (B'++bs) w1:=by
 refine BE hB ?_ rfl S;rw[aiz ⟨k,q,B,hB⟩];have hP:∀R:Sd.Tok×Int×Int×List Sd.Ask,R=(t,0,(Sd.Q.push k.most q ⟨f,Sd.aV p f,.start p.ask⟩).2,(Sd.Q.push k.most q ⟨f,Sd.aV p f,.start p.ask⟩).1)->akP ⟨k,q,B,hB⟩ p t f λx b c=>x=Sh R.1 R.2.1 R.2.2.1/\b=[]/\∃B h,c=[⟨k,R.2.2.2,B,h⟩]:=by
  rintro R rfl;exact⟨trivial,by unfold db;omega,⟨rfl,hm,hr⟩,λB1 h1=>⟨rfl,rfl,B1,h1,rfl⟩⟩
 unfold Sd.cv;refine aU (λh=>?_) (λh=>?_)
 ·rw[if_pos h];exact⟨rfl,rfl,B,hB,rfl⟩
 rw[if_neg (by simp[h])];refine aU (λh=>?_) (λh=>?_)
 ·rw[if_pos (by simpa using h)];exact⟨rfl,rfl,B,hB,rfl⟩
 rw[if_neg (by simpa using h)];refine aU (λh=>?_) (λh=>?_)
 ·rw[if_pos (by simpa using h)];exact⟨rfl,rfl,B,hB,rfl⟩
 rw[if_neg (by simpa using h)];refine aU (λh=>?_) (λh4=>aU (λh5=>⟨trivial,aU (λh6=>?_) λh6=>aU (λh7=>?_) λh7=>?_⟩) λh5=>aU (λh7=>?_) λh7=>?_)
 ·rw[if_pos (.inl (by simpa using h))];exact Sj hB he rfl
 ·rw[if_pos (.inr ⟨h5,h6⟩)];exact Sj hB he rfl
 ·rw[if_neg (by simp at h4;simp[h4,h6]),if_pos h7];exact⟨rfl,rfl,B,hB,rfl⟩
 ·rw[h5]at h7;cases h7
 ·rw[h5]at h7;cases h7
 ·rw[if_neg (by simp at h4;simp[h4,h5]),if_neg (by simp[h5])];exact hP _ rfl
variable{fr:Sd.Reply->Nat×Sd.Byt}
def aeA:QG:=⟨127,1,λargs _ q=>match args with
 |[.agg tl,.int .i64 f]=>(match kK tl with|some t=>some (db t.epoch,.az [.agg (cI (Sd.dy t q f).1),.int .i64 (Sd.dy t q f).2.1],(Sd.dy t q f).2.2)|none=>none)
 |_=>none⟩
theorem YD:aeA.Ok:=by
 intro args k q p v q' hv hm hp B hB bs ms w0 w S
 match args,hv,hm with
 |a::b::l,hv,hm=>
  have ha:b=.raw (vq k):=by simpa[aeA]using hv
  subst ha;replace hm:(match(generalizing:=false) a::l with
   |[.agg tl,.int .i64 f]=>(match kK tl with|some t=>some (db t.epoch,V.az [.agg (cI (Sd.dy t q f).1),.int .i64 (Sd.dy t q f).2.1],(Sd.dy t q f).2.2)|none=>none)
   |_=>none)=some (p,v,q'):=hm
  split at hm
  ·rename_i tl f heq;obtain⟨rfl,rfl⟩:=List.cons.inj heq;split at hm
   ·rename_i t ht;obtain rfl:=fh ht;simp only[Option.some.injEq,Prod.mk.injEq]at hm;obtain⟨rfl,rfl,rfl⟩:=hm;exact alV hB hp f S
   ·cases hm
  ·cases hm
def aeB:QG:=⟨197,2,λargs most q=>match args with
 |[.agg [.j8 p ka kn kc],.agg tl,.int .i64 f,.bool nw]=>(match kK tl with|some t=>some (db t.epoch/\most<=3/\(∀e∈q,e.source=f\/¬e.aV=Sd.placeOf p f)/\(1<=p.i 45/\p.i 45<=1000),.az [.agg (cI (Sd.cv p t most q f nw).1),.int .i64 (Sd.cv p t most q f nw).2.1,.int .i64 (Sd.cv p t most q f nw).2.2.1],(Sd.cv p t most q f nw).2.2.2)|none=>none)
 |_=>none⟩
theorem YE:aeB.Ok:=by
 intro args k q p v q' hv hm hp B hB bs ms w0 w S
 match args,hv,hm with
 |a::b::c::l,hv,hm=>
  have ha:c=.raw (vq k):=by simpa[aeB]using hv
  subst ha;replace hm:(match(generalizing:=false) a::b::l with
   |[.agg [.j8 p ka kn kc],.agg tl,.int .i64 f,.bool nw]=>(match kK tl with|some t=>some (db t.epoch/\k.most<=3/\(∀e∈q,e.source=f\/¬e.aV=Sd.placeOf p f)/\(1<=p.i 45/\p.i 45<=1000),V.az [.agg (cI (Sd.cv p t k.most q f nw).1),.int .i64 (Sd.cv p t k.most q f nw).2.1,.int .i64 (Sd.cv p t k.most q f nw).2.2.1],(Sd.cv p t k.most q f nw).2.2.2)|none=>none)
   |_=>none)=some (p,v,q'):=hm
  split at hm
  ·rename_i p' ka kn kc tl f nw heq;obtain⟨rfl,h2⟩:=List.cons.inj heq;obtain⟨rfl,rfl⟩:=List.cons.inj h2;split at hm
   ·rename_i t ht;obtain rfl:=fh ht;simp only[Option.some.injEq,Prod.mk.injEq]at hm;obtain⟨rfl,rfl,rfl⟩:=hm;exact alX hB p' ka kn kc f nw hp.1 hp.2.1 hp.2.2.1 hp.2.2.2 S
   ·cases hm
  ·cases hm
def bH (s:Sd.Scene) (q:List Sd.Ask):Sd.Scene:={s with c:={s.c with q:=q}}
def L4 (fr:Sd.Reply->Nat×Sd.Byt) (C:Sd.Crypt):List (dI (Gh fr)):=⟨91,false,pP (jY C)⟩::⟨127,false,Ke aeA⟩::⟨197,false,Ke aeB⟩::L3 fr C
theorem xb (tk:Nat->Sd.Byt->Option Sd.bW) (ht:Body (fr:=fr) 147 bV):ai prog gS (L4 fr (ah tk)):=
 ai.cons (c_ (Hn tk ht)) (ai.cons (Bz YD) (ai.cons (Bz YE) (abB tk ht)))
section
variable(C:Sd.Crypt) (k:LK) (s:Sd.Scene) (F:bN fr (bA k s)) (Kb:SK fr k)
theorem YF (l:Int) (m:Sd.bW):cJ (dR prog gS (L4 fr C)) 60 152 [.ptr 2 0,.int .i64 l,.agg (cw m)] (cS k s F) [cB k s F] (aO k s Kb)
 =(ez k s F/\jq [.int .i64 l,.int .i64 m.seq] k (dv s) F λv s' F'=>aO k s Kb (.az []) (cS k s' F'++[⟨true,⟨66,(0,0)⟩,cw m⟩]) [cB k s' F']):=by kernel_rfl
theorem Nu (l:Int) (m:Sd.bW):cJ (dR prog gS (L4 fr C)) 60 156 [.ptr 2 0,.int .i64 l,.agg (cw m)] (cS k s F) [cB k s F] (aO k s Kb)
 =(db s.c.t.epoch/\cond ((s.c.t.accept l m.epoch).2!=0) (ez k s F/\rp C [.int .i64 l,.int .i64 m.seq,.int .i64 (s.c.t.accept l m.epoch).2] k (dv s) F λv s' F'=>aO k s Kb (.az []) (cS k s' F'++[⟨true,⟨66,(0,0)⟩,cw m⟩,⟨true,⟨95,(0,0)⟩,cI (s.c.t.accept l m.epoch).1⟩]) [cB k s' F'])
  (ez k s F/\lg C [.agg (cI (s.c.t.accept l m.epoch).1),.int .i64 1,.int .i64 m.seq] k (dv s) F λv s2 F2=>ez k s2 F2/\jq [.int .i64 l,.int .i64 m.seq] k (dv s2) F2 λv s' F'=>aO k s Kb (.az []) (cS k s' F'++[⟨true,⟨66,(0,0)⟩,cw m⟩,⟨true,⟨95,(0,0)⟩,cI (s.c.t.accept l m.epoch).1⟩]) [cB k s' F'])):=by kernel_rfl
theorem YG (l:Int) (m:Sd.bW):cJ (dR prog gS (L4 fr C)) 60 157 [.ptr 2 0,.int .i64 l,.agg (cw m)] (cS k s F) [cB k s F] (aO k s Kb)
 =(True/\cond ((s.c.t.fJ l).2!=0) (ez k s F/\rp C [.int .i64 l,.int .i64 m.seq,.int .i64 (s.c.t.fJ l).2] k (dv s) F λv s' F'=>aO k s Kb (.az []) (cS k s' F'++[⟨true,⟨66,(0,0)⟩,cw m⟩,⟨true,⟨95,(0,0)⟩,cI (s.c.t.fJ l).1⟩]) [cB k s' F'])
  (ez k (fQ s (s.c.t.fJ l).1) F/\ny [.int .i64 (s.c.t.fJ l).1.holder,.int .i64 l,.int .i64 0] k (dv (fQ s (s.c.t.fJ l).1)) F λv s2 F2=>ez k s2 F2/\hU C [.int .i64 11,.int .i64 l,.int .i64 m.seq,.int .i64 0,.int .i64 0] k (dv s2) F2 λv s3 F3=>
   ez k s3 F3/\jq [.int .i64 l,.int .i64 m.seq] k (dv s3) F3 λv s' F'=>aO k s Kb (.az []) (cS k s' F'++[⟨true,⟨66,(0,0)⟩,cw m⟩,⟨true,⟨95,(0,0)⟩,cI (s.c.t.fJ l).1⟩]) [cB k s' F'])):=by kernel_rfl
theorem Sk (l:Int) (m:Sd.bW):cJ (dR prog gS (L4 fr C)) 60 155 [.ptr 2 0,.int .i64 l,.agg (cw m)] (cS k s F) [cB k s F] (aO k s Kb)
 =(True/\Sd.cK s.c.p/\cond ((Sd.Tok.make s.c.p s.c.t l m.bx ((dw s.c.tab).on m.bx)).2!=0) (ez k s F/\rp C [.int .i64 l,.int .i64 m.seq,.int .i64 (Sd.Tok.make s.c.p s.c.t l m.bx ((dw s.c.tab).on m.bx)).2] k (dv s) F λv s' F'=>aO k s Kb (.az []) (cS k s' F'++[⟨true,⟨66,(0,0)⟩,cw m⟩,⟨true,⟨95,(0,0)⟩,cI (Sd.Tok.make s.c.p s.c.t l m.bx ((dw s.c.tab).on m.bx)).1⟩]) [cB k s' F'])
  (ez k (fQ s (Sd.Tok.make s.c.p s.c.t l m.bx ((dw s.c.tab).on m.bx)).1) F/\oU [.int .i64 m.bx,.agg (il 135 0 0 l (Sd.Tok.make s.c.p s.c.t l m.bx ((dw s.c.tab).on m.bx)).1.epoch 0)] k (dv (fQ s (Sd.Tok.make s.c.p s.c.t l m.bx ((dw s.c.tab).on m.bx)).1)) F λv s2 F2=>
   ez k s2 F2/\hU C [.int .i64 9,.int .i64 l,.int .i64 m.seq,.int .i64 0,.int .i64 m.bx] k (dv s2) F2 λv s3 F3=>
   ez k s3 F3/\jq [.int .i64 l,.int .i64 m.seq] k (dv s3) F3 λv s' F'=>aO k s Kb (.az []) (cS k s' F'++[⟨true,⟨66,(0,0)⟩,cw m⟩,⟨true,⟨95,(0,0)⟩,cI (Sd.Tok.make s.c.p s.c.t l m.bx ((dw s.c.tab).on m.bx)).1⟩]) [cB k s' F'])):=by kernel_rfl
theorem Hp (l:Int) (m:Sd.bW):cJ (dR prog gS (L4 fr C)) 60 158 [.ptr 2 0,.int .i64 l,.agg (cw m)] (cS k s F) [cB k s F] (aO k s Kb)
 =((vq k=vq k/\db s.c.t.epoch)/\∀B (hB:QS k.bq k.most (Sd.dy s.c.t s.c.q l).2.2 B),
  cond ((Sd.dy s.c.t s.c.q l).2.1!=0) (ez k (bH s (Sd.dy s.c.t s.c.q l).2.2) (F.bH (Sd.dy s.c.t s.c.q l).2.2 B hB)/\rp C [.int .i64 l,.int .i64 m.seq,.int .i64 (Sd.dy s.c.t s.c.q l).2.1] k (dv (bH s (Sd.dy s.c.t s.c.q l).2.2)) (F.bH (Sd.dy s.c.t s.c.q l).2.2 B hB) λv s' F'=>aO k s Kb (.az []) (cS k s' F'++[⟨true,⟨66,(0,0)⟩,cw m⟩,⟨true,⟨95,(0,0)⟩,cI (Sd.dy s.c.t s.c.q l).1⟩]) [cB k s' F'])
  (ez k (bH s (Sd.dy s.c.t s.c.q l).2.2) (F.bH (Sd.dy s.c.t s.c.q l).2.2 B hB)/\lg C [.agg (cI (Sd.dy s.c.t s.c.q l).1),.int .i64 2,.int .i64 m.seq] k (dv (bH s (Sd.dy s.c.t s.c.q l).2.2)) (F.bH (Sd.dy s.c.t s.c.q l).2.2 B hB) λv s2 F2=>ez k s2 F2/\jq [.int .i64 l,.int .i64 m.seq] k (dv s2) F2 λv s' F'=>aO k s Kb (.az []) (cS k s' F'++[⟨true,⟨66,(0,0)⟩,cw m⟩,⟨true,⟨95,(0,0)⟩,cI (Sd.dy s.c.t s.c.q l).1⟩]) [cB k s' F'])):=by kernel_rfl
abbrev gQ (s:Sd.Scene) (k:LK) (l:Int) (m:Sd.bW):Sd.Tok×Int×Int×List Sd.Ask:=Sd.cv s.c.p s.c.t k.most s.c.q l m.now
theorem aeC (l:Int) (m:Sd.bW):cJ (dR prog gS (L4 fr C)) 60 154 [.ptr 2 0,.int .i64 l,.agg (cw m)] (cS k s F) [cB k s F] (aO k s Kb)
 =((vq k=vq k/\(db s.c.t.epoch/\k.most<=3/\(∀e∈s.c.q,e.source=l\/¬e.aV=Sd.placeOf s.c.p l)/\(1<=s.c.p.i 45/\s.c.p.i 45<=1000)))/\∀B (hB:QS k.bq k.most (gQ s k l m).2.2.2 B),
  cond ((gQ s k l m).2.2.1!=0) (ez k (bH s (gQ s k l m).2.2.2) (F.bH (gQ s k l m).2.2.2 B hB)/\rp C [.int .i64 l,.int .i64 m.seq,.int .i64 (gQ s k l m).2.2.1] k (dv (bH s (gQ s k l m).2.2.2)) (F.bH (gQ s k l m).2.2.2 B hB) λv s' F'=>aO k s Kb (.az []) (cS k s' F'++[⟨true,⟨66,(0,0)⟩,cw m⟩,⟨true,⟨95,(0,0)⟩,cI (gQ s k l m).1⟩]) [cB k s' F'])
  (cond (decide ((gQ s k l m).2.1>0)) (ez k (bH s (gQ s k l m).2.2.2) (F.bH (gQ s k l m).2.2.2 B hB)/\lg C [.agg (cI (gQ s k l m).1),.int .i64 (gQ s k l m).2.1,.int .i64 m.seq] k (dv (bH s (gQ s k l m).2.2.2)) (F.bH (gQ s k l m).2.2.2 B hB) λv s2 F2=>ez k s2 F2/\jq [.int .i64 l,.int .i64 m.seq] k (dv s2) F2 λv s' F'=>aO k s Kb (.az []) (cS k s' F'++[⟨true,⟨66,(0,0)⟩,cw m⟩,⟨true,⟨95,(0,0)⟩,cI (gQ s k l m).1⟩]) [cB k s' F'])
  (ez k (fQ (bH s (gQ s k l m).2.2.2) (gQ s k l m).1) (F.bH (gQ s k l m).2.2.2 B hB)/\hU C [.int .i64 10,.int .i64 l,.int .i64 m.seq,.int .i64 0,.int .i64 0] k (dv (fQ (bH s (gQ s k l m).2.2.2) (gQ s k l m).1)) (F.bH (gQ s k l m).2.2.2 B hB) λv s2 F2=>ez k s2 F2/\jq [.int .i64 l,.int .i64 m.seq] k (dv s2) F2 λv s' F'=>aO k s Kb (.az []) (cS k s' F'++[⟨true,⟨66,(0,0)⟩,cw m⟩,⟨true,⟨95,(0,0)⟩,cI (gQ s k l m).1⟩]) [cB k s' F']))):=by kernel_rfl
end
structure TB (t:Sd.Tok):Prop where
 h:N4 t.holder
 e:VZ t.epoch
theorem l_ {t:Sd.Tok} (h:TB t) (o:Int):TB (t.bz o).1/\N8 (t.bz o).2:=by
 obtain⟨⟨h1,h2⟩,h3,h4⟩:=h;unfold Sd.Tok.bz;split
 ·exact⟨⟨⟨h1,h2⟩,h3,h4⟩,by simp[N8]⟩
 ·split
  ·exact⟨⟨⟨h1,h2⟩,h3,h4⟩,by simp[N8]⟩
  ·split
   ·exact⟨⟨⟨h1,h2⟩,h3,h4⟩,by simp[N8]⟩
   ·exact⟨⟨⟨by simp only[Sd.Tok.pass];omega,by simp only[Sd.Tok.pass];omega⟩,by simp only[Sd.Tok.pass];omega,by simp only[Sd.Tok.pass];omega⟩,by simp[N8]⟩
theorem Sl {t:Sd.Tok} (h:TB t) (l e:Int):TB (t.accept l e).1/\N8 (t.accept l e).2:=by
 unfold Sd.Tok.accept;split
 ·exact⟨h,by simp[N8]⟩
 ·split
  ·exact⟨h,by simp[N8]⟩
  ·exact l_ h l
theorem aeD {t:Sd.Tok} (h:TB t) (l:Int):TB (t.fJ l).1/\N8 (t.fJ l).2:=by
 unfold Sd.Tok.fJ;split
 ·exact⟨h,by simp[N8]⟩
 ·exact⟨⟨h.h,h.e⟩,by simp[N8]⟩
theorem aeE {t:Sd.Tok} (h:TB t) (p:Sd.Pol) (l o:Int) (b:Bool):TB (Sd.Tok.make p t l o b).1/\N8 (Sd.Tok.make p t l o b).2:=by
 unfold Sd.Tok.make
 repeat' split
 all_goals first|exact⟨h,by simp[N8]⟩|exact⟨⟨h.h,h.e⟩,by simp[N8]⟩
theorem JZ {t:Sd.Tok} (h:TB t) (q:List Sd.Ask):TB (Sd.bg t q).1/\N8 (Sd.bg t q).2.1:=by
 unfold Sd.bg;split
 ·exact⟨h,by simp[N8]⟩
 ·split
  ·exact⟨h,(l_ h _).2⟩
  ·exact⟨(l_ h _).1,by simp[N8]⟩
theorem abD {t:Sd.Tok} (h:TB t) (q:List Sd.Ask) (l:Int):TB (Sd.dy t q l).1/\N8 (Sd.dy t q l).2.1:=by
 unfold Sd.dy;split
 ·exact⟨h,by simp[N8]⟩
 ·split
  ·exact⟨h,by simp[N8]⟩
  ·exact JZ h q
theorem abE {t:Sd.Tok} {q:List Sd.Ask} {l:Int} (h:(Sd.dy t q l).2.1≠0):(Sd.dy t q l).2.2=q:=by
 unfold Sd.dy at h⊢;split
 ·rfl
 ·split
  ·rfl
  ·rename_i h1 h2;rw[if_neg h1,if_neg h2]at h;unfold Sd.bg at h⊢;split
   ·rfl
   ·split
    ·rfl
    ·rename_i a q' h3;simp only[if_neg h3,ne_eq,not_true_eq_false]at h
theorem aeF (most:Int) (q:List Sd.Ask) (a:Sd.Ask):N8 (Sd.Q.push most q a).2:=by
 unfold Sd.Q.push
 repeat' split
 all_goals simp[N8]
theorem aeG {most:Int} {q:List Sd.Ask} {a:Sd.Ask} (h:(Sd.Q.push most q a).2≠0):(Sd.Q.push most q a).1=q:=by
 unfold Sd.Q.push at h⊢;split
 ·rfl
 ·split
  ·rfl
  ·rename_i h1 h2;simp[if_neg h1,if_neg h2]at h
theorem aiA {p:Sd.Pol} {t:Sd.Tok} (h:TB t) (most:Int) (q:List Sd.Ask) (f:Int) (nw:Bool):TB (Sd.cv p t most q f nw).1/\N8 (Sd.cv p t most q f nw).2.2.1:=by
 unfold Sd.cv
 repeat' split
 all_goals first|exact⟨h,(l_ h _).2⟩|exact⟨h,aeF _ _ _⟩|exact⟨(l_ h _).1,show N8 0 from z8⟩|exact⟨h,show 0<=_/\_<=255 by simp⟩
theorem aiB {p:Sd.Pol} {t:Sd.Tok} {most:Int} {q:List Sd.Ask} {f:Int} {nw:Bool} (h:(Sd.cv p t most q f nw).2.2.1≠0):(Sd.cv p t most q f nw).2.2.2=q:=by
 unfold Sd.cv at h⊢
 repeat' split
 all_goals first|rfl|skip
 ·rename_i h1 h2 h3 h4 h5;simp only[if_neg h1,if_neg h2,if_neg h3,if_pos h4,if_neg h5,ne_eq,not_true_eq_false]at h
 ·rename_i h1 h2 h3 h4 h5;simp only[if_neg h1,if_neg h2,if_neg h3,if_neg h4,if_neg h5]at h;exact aeG h
theorem tb {c:Sd.Core} (h:Sd.Inv c):TB c.t:=⟨⟨h.tok.holder.1,by have:=h.tok.holder.2;omega⟩,by have:=h.tok.epoch.1;have:=h.p.epoch.1;omega,h.tok.epoch.2⟩
theorem TB.b {t:Sd.Tok} (h:TB t):db t.epoch:=⟨by have:=h.e.1;omega,by have:=h.e.2;omega⟩
theorem fj (C:Sd.Crypt) (s:Sd.Scene) (t:Sd.Tok) (h n:Int):(s.goes C t h n).c.p=s.c.p:=by
 show(Sd.Scene.hear _ _ _).c.p=_;rw[hear_c,hear_c]
theorem Rm.goes {C:Sd.Crypt} {s:Sd.Scene} {t:Sd.Tok} {h n:Int} {m:Nat} (hh:Rm s (m+3)):Rm (s.goes C t h n) m:=by
 have h1:Rm ({s with c:={s.c with t:=t,q:=Sd.Q.drop s.c.q t.holder}}:Sd.Scene) (m+3):=hh;exact(Rm.hear (Rm.hear h1)).rec
theorem lh {n:Int} (h:(n !=0)=true):n≠0:=by simpa using h
theorem nA {n:Int} (h:(n !=0)=false):¬n≠0:=by simpa using h
structure Sy (s:Sd.Scene) (l:Int) (m:Sd.bW):Prop where
 r:Rm s 8
 i:Sd.Inv s.c
 n:V0 m.seq
 l1:1<=l
 l3:l<=3
def jn (act:Sd.Scene->Int->Sd.bW->Sd.Scene):SM fr:=λar k s F K=>match ar with
 |[.int .i64 l,.agg ml]=>(match DU ml with
  |some m=>Sy s l m/\∀F',K (.az []) (act s l m) F'
  |none=>False)
 |_=>False
theorem jZ {tk:Nat->Sd.Byt->Option Sd.bW} {act:Sd.Scene->Int->Sd.bW->Sd.Scene} {f n:Nat} {L:List (dI (Gh fr))} (hL:ai prog gS L)
 (h:∀(l:Int) (m:Sd.bW) (k:LK) (s:Sd.Scene) (F:bN fr (bA k s)) (Kb:SK fr k),s.c.p.queue=k.most->Sy s l m->(∀F',Kb (.az []) (act s l m) F')->cJ (dR prog gS L) n f [.ptr 2 0,.int .i64 l,.agg (cw m)] (cS k s F) [cB k s F] (aO k s Kb)):Body f (jn (fr:=fr) act):=by
 refine dJ (n:=n) hL ?_;intro ar k s F Kb h0 hq hM;unfold jn at hM;split at hM
 ·rename_i l ml;split at hM
  ·rename_i m hm;obtain rfl:=n8 hm;exact h l m k s F Kb hq hM.1 hM.2
  ·exact hM.elim
 ·exact hM.elim
theorem n_ {s:Sd.Scene} {q:List Sd.Ask} (h:q=s.c.q):bH s q=s:=by subst h;rfl
theorem Hq (C:Sd.Crypt) (s:Sd.Scene) (l:Int) (m:Sd.bW) (R:Sd.Tok×Int×Int×List Sd.Ask) (h:R=Sd.cv s.c.p s.c.t s.c.p.queue s.c.q l m.now):
 s.ask C l m=if R.2.2.1≠0 then s.refuse C l m.seq R.2.2.1 else(if 0<R.2.1 then(bH s R.2.2.2).goes C R.1 R.2.1 m.seq else(fQ (bH s R.2.2.2) R.1).record C 10 l m.seq 0 0).done l m.seq:=by subst h;rfl
section
variable(tk:Nat->Sd.Byt->Option Sd.bW) (ht:Body (fr:=fr) 147 bV)
include tk ht
theorem Nv:Body (fr:=fr) 152 (jn λs l m=>s.done l m.seq):=by
 refine jZ (tk:=tk) (n:=60) (xb tk ht) ?_;intro l m k s F Kb hq hS hK;rw[YF];exact⟨eY hq,iH ⟨hS.r.le (by decide),hS.n⟩ λF1=>aM rfl hK F1⟩
theorem Ef:Body (fr:=fr) 156 (jn λs l m=>s.accept (ah tk) l m):=by
 refine jZ (tk:=tk) (n:=60) (xb tk ht) ?_;intro l m k s F Kb hq hS hK;have hb:=Sl (tb hS.i) l m.epoch;rw[Nu];refine⟨(tb hS.i).b,aU (λe=>⟨eY hq,gL ⟨hS.r.le (by decide),hS.n,hb.2⟩ λF1=>aM (if_pos (lh e)).symm hK F1⟩) (λe=>⟨eY hq,l9 ⟨hS.r.le (by decide),hb.1.h,hb.1.e⟩ λF2=>⟨eY ?_,iH ⟨hS.r.goes.le (by decide),hS.n⟩ λF3=>aM (if_neg (nA e)).symm hK F3 (hp:=fj _ _ _ _ _)⟩⟩)⟩;rw[fj];exact hq
theorem Nw:Body (fr:=fr) 157 (jn λs l m=>s.fJ (ah tk) l m):=by
 refine jZ (tk:=tk) (n:=60) (xb tk ht) ?_;intro l m k s F Kb hq hS hK;have hb:=aeD (tb hS.i) l;have h1:Rm (fQ s (s.c.t.fJ l).1) 8:=hS.r;rw[YG];refine⟨trivial,aU (λe=>⟨eY hq,gL ⟨hS.r.le (by decide),hS.n,hb.2⟩ λF1=>aM (if_pos (lh e)).symm hK F1⟩) (λe=>⟨eY hq,rF ⟨h1.le (by decide),⟨by have:=hS.l1;omega,by have:=hS.l3;omega⟩,z8⟩ λF2=>⟨eY ?_,fD h1.gone.r1 λF3=>⟨eY ?_,iH ⟨(h1.gone.rec).le (by decide),hS.n⟩ λF4=>aM (if_neg (nA e)).symm hK F4 (hp:=?_)⟩⟩⟩)⟩
 ·rw[gone_c];exact hq
 ·show(Sd.Scene.gone _ _ _ _).c.p.queue=_;rw[gone_c];exact hq
 ·show(Sd.Scene.gone _ _ _ _).c.p=_;rw[gone_c];rfl
theorem Hr:Body (fr:=fr) 155 (jn λs l m=>s.offer (ah tk) l m):=by
 refine jZ (tk:=tk) (n:=60) (xb tk ht) ?_;intro l m k s F Kb hq hS hK;have hb:=aeE (tb hS.i) s.c.p l m.bx (s.c.tab.on m.bx);have h1:Rm (fQ s (Sd.Tok.make s.c.p s.c.t l m.bx (s.c.tab.on m.bx)).1) 8:=hS.r;rw[Sk,aev];refine⟨trivial,hS.i.p,aU (λe=>⟨eY hq,gL ⟨hS.r.le (by decide),hS.n,hb.2⟩ λF1=>aM (if_pos (lh e)).symm hK F1⟩) (λe=>⟨eY hq,vx ⟨h1.le (by decide),rb (by decide) Yz ⟨by have:=hS.l1;omega,by have:=hS.l3;omega⟩ hb.1.e z8⟩ λF2=>⟨eY ?_,fD h1.hear.r1 λF3=>⟨eY ?_,iH ⟨(h1.hear.rec).le (by decide),hS.n⟩ λF4=>aM (if_neg (nA e)).symm hK F4 (hp:=?_)⟩⟩⟩)⟩
 ·rw[hear_c];exact hq
 ·show(Sd.Scene.hear _ _ _).c.p.queue=_;rw[hear_c];exact hq
 ·show(Sd.Scene.hear _ _ _).c.p=_;rw[hear_c];rfl
theorem BF:Body (fr:=fr) 158 (jn λs l m=>s.release (ah tk) l m):=by
 refine jZ (tk:=tk) (n:=60) (xb tk ht) ?_;intro l m k s F Kb hq hS hK;have hb:=abD (tb hS.i) s.c.q l;have h1:Rm (bH s (Sd.dy s.c.t s.c.q l).2.2) 8:=hS.r;rw[Hp];refine⟨⟨rfl,(tb hS.i).b⟩,λB hB=>aU (λe=>⟨eY hq,gL ⟨h1.le (by decide),hS.n,hb.2⟩ λF1=>aM ?_ hK F1⟩) (λe=>⟨eY hq,l9 ⟨h1.le (by decide),hb.1.h,hb.1.e⟩ λF2=>⟨eY ?_,iH ⟨h1.goes.le (by decide),hS.n⟩ λF3=>aM (if_neg (nA e)).symm hK F3 (hp:=fj _ _ _ _ _)⟩⟩)⟩
 ·rw[n_ (abE (lh e))];exact(if_pos (lh e)).symm
 ·rw[fj];exact hq
theorem Sn:Body (fr:=fr) 154 (jn λs l m=>s.ask (ah tk) l m):=by
 refine jZ (tk:=tk) (n:=60) (xb tk ht) ?_;intro l m k s F Kb hq hS hK;have hb:=aiA (p:=s.c.p) (tb hS.i) k.most s.c.q l m.now;have h1:Rm (bH s (gQ s k l m).2.2.2) 8:=hS.r;have h2:Rm (fQ (bH s (gQ s k l m).2.2.2) (gQ s k l m).1) 8:=hS.r;have hka:gQ s k l m=Sd.cv s.c.p s.c.t s.c.p.queue s.c.q l m.now:=by rw[gQ,hq]
 rw[aeC];refine⟨⟨rfl,(tb hS.i).b,by rw[<-hq];exact hS.i.p.queue.2,?_,hS.i.p.ask⟩,λB hB=>aU (λe=>⟨eY hq,gL ⟨h1.le (by decide),hS.n,hb.2⟩ λF1=>aM ?_ hK F1⟩) (λe=>aU (λe2=>⟨eY hq,l9 ⟨h1.le (by decide),hb.1.h,hb.1.e⟩ λF2=>⟨eY ?_,iH ⟨h1.goes.le (by decide),hS.n⟩ λF3=>aM ?_ hK F3 (hp:=fj _ _ _ _ _)⟩⟩)
  (λe2=>⟨eY hq,fD h2.r1 λF2=>⟨eY hq,iH ⟨h2.rec.le (by decide),hS.n⟩ λF3=>aM ?_ hK F3⟩⟩))⟩
 ·intro a ha;by_cases hs:a.source=l
  ·exact .inl hs
  ·refine .inr λhr=>hs ?_;have h:=hS.i.q.each a ha;have h1:=hS.l1;have h3:=hS.l3;exact Sd.y_ hS.i.p ⟨by omega,by omega⟩ ⟨by omega,by omega⟩ (by rw[<-hr,h.1];rfl)
 ·rw[n_ (aiB (lh e)),Hq _ _ _ _ _ hka];exact(if_pos (lh e)).symm
 ·rw[fj];exact hq
 ·have e3:0<(gQ s k l m).2.1:=by simpa using e2
  rw[Hq _ _ _ _ _ hka,if_neg (nA e),if_pos e3]
 ·have e3:¬0<(gQ s k l m).2.1:=by simpa using e2
  rw[Hq _ _ _ _ _ hka,if_neg (nA e),if_neg e3]
end
structure QT where
 f:Nat
 m:List V->TC->Option (Prop×V×Sd.Tab)
def Fz (t:Sd.Tab) (b m:Int):TC:=⟨t.aA.1,t.aA.2.n,t.aA.2.most,t.ay 0,t.ay 1,t.ay 2,b,m⟩
def YU (x:QT):gm (Gh fr):=λargs bl ch K=>match args with
 |.ptr it 0::ar=>(match bl[it]?with
  |some ⟨true,⟨157,(0,0)⟩,tc⟩=>(match uR tc with
   |some y=>(match x.m ar y with
    |some (p,v,t)=>cond (cH 0 ar&&fK 0 v) (p/\K v (bl.set it ⟨true,⟨157,(0,0)⟩,cd (Fz t y.b y.m)⟩) ch) False
    |none=>False)
   |none=>False)
  |_=>False)
 |_=>False
def QT.Ok (x:QT):Prop:=∀(ar:List V) (y:TC) (p:Prop) (v:V) (t:Sd.Tab),x.m ar y=some (p,v,t)->p->∀(bt:Nat) (bs:List av) (ms:List Nat) (w0 w:World),St ms w0 ([⟨bt,true,.cells (jy (aN y).aA (aN y).ay y.b y.m) 157 (0,0)⟩]++bs) w->
 aj prog x.f (ao [bt] (.ptr 0 0::ar)).toArray w λu w1=>u=den [] v/\St ms w0 ([⟨bt,true,.cells (jy t.aA t.ay y.b y.m) 157 (0,0)⟩]++bs) w1
theorem So {bl:List VB} {ids:List Nat} (h:ids.length=bl.length) {i:Nat} (hi:i<bl.length):
 ∃r:List Nat,(∀j∈r,j≠i)/\∀bl':List VB,bl'.length=bl.length->(lits ids ids bl').Perm (aE ids (ids.getD i 0) (bl'.getD i gK)::r.map λj=>aE ids (ids.getD j 0) (bl'.getD j gK)):=by
 obtain⟨r,h1,h2⟩:=ux h (is:=[i]) (by simp) (by simp[hi]);exact⟨r,λj hj=>by simpa using h1 j hj,λbl' hl=>by simpa using h2 bl' hl⟩
theorem Sr {x:QT} (h:x.Ok) (gl:Nat->Option Nat):Sound prog gl x.f (YU (fr:=fr) x):=by
 intro args ids bl ch R ms w0 w K hg hl S hc;unfold YU at hc;split at hc
 ·rename_i it ar;split at hc
  ·rename_i tc hb;split at hc
   ·rename_i y hy;split at hc
    ·rename_i p v t hm;cases hq:cH 0 ar&&fK 0 v with
     |false=>rw[hq]at hc;exact hc.elim
     |true=>
      rw[hq]at hc;simp only[Bool.and_eq_true]at hq;obtain⟨hp,hK⟩:=hc;obtain rfl:=jz hy;have hi:=bO hb;obtain⟨r,hr,dP⟩:=So hl hi;have a1:ao ids (.ptr it 0::ar)=ao [ids.getD it 0] (.ptr 0 0::ar):=by
       have b1:ao ids ar=ao [] ar:=by have:=dW (ids:=[]) (more:=ids) ar hq.1;simpa using this
       have b2:ao [ids.getD it 0] ar=ao [] ar:=by have:=dW (ids:=[]) (more:=[ids.getD it 0]) ar hq.1;simpa using this
       simp only[ao,den,b1,b2];rfl
      have e1:aE ids (ids.getD it 0) (bl.getD it gK)=⟨ids.getD it 0,true,.cells (jy (aN y).aA (aN y).ay y.b y.m) 157 (0,0)⟩:=by rw[cG hb];kernel_rfl
      have p1:=dP bl rfl;rw[e1]at p1;have S1:=S.perm (p1.append_right _);rw[a1];refine(h ar y p v t hm hp _ _ ms w0 w S1).mono ?_;rintro u w1 ⟨rfl,S2⟩;refine⟨v,[],_,ch,?_,by simp[hl],?_,hK⟩
      ·have:=bC (ids:=[]) (more:=ids++[]) v hq.2;simpa using this.symm
      ·simp only[List.append_nil];refine S2.perm ?_;have p2:=dP (bl.set it ⟨true,⟨157,(0,0)⟩,cd (Fz t y.b y.m)⟩) (by simp);have e2:aE ids (ids.getD it 0) ((bl.set it ⟨true,⟨157,(0,0)⟩,cd (Fz t y.b y.m)⟩).getD it gK)=⟨ids.getD it 0,true,.cells (jy t.aA t.ay y.b y.m) 157 (0,0)⟩:=by rw[cG (nx hi)];kernel_rfl
       have e3:(r.map λj=>aE ids (ids.getD j 0) ((bl.set it ⟨true,⟨157,(0,0)⟩,cd (Fz t y.b y.m)⟩).getD j gK))=r.map λj=>aE ids (ids.getD j 0) (bl.getD j gK):=by
        apply List.map_congr_left;intro j hj;simp only[List.getD];rw[eG (Ne.symm (hr j hj))]
       rw[e2,e3]at p2;exact p2.symm.append_right _
    ·exact hc.elim
   ·exact hc.elim
  ·exact hc.elim
 ·exact hc.elim
theorem Hs {x:QT} (h:x.Ok):oP (G:=Gh fr) prog gS ⟨x.f,false,YU x⟩:=⟨Sr h gS,λe=>by cases e⟩
def aiC:QT:=⟨196,λar y=>match ar with
 |[.int .i64 s]=>some (True,.bool ((aN y).cZ s),(aN y).end_ s)
 |_=>none⟩
theorem YH:aiC.Ok:=by
 intro ar y p v t hm hp bt bs ms w0 w S;replace hm:(match(generalizing:=false) ar with
  |[.int .i64 s]=>some (True,V.bool ((aN y).cZ s),(aN y).end_ s)
  |_=>none)=some (p,v,t):=hm
 split at hm
 ·simp only[Option.some.injEq,Prod.mk.injEq]at hm;obtain⟨rfl,rfl,rfl⟩:=hm;exact aiu y _ S
 ·cases hm
def aiD:QT:=⟨79,λar y=>match ar with
 |[]=>some (0<=y.b/\y.b<=1000,.az [],{aN y with aA:=(true,.start y.b)})
 |_=>none⟩
theorem YI:aiD.Ok:=by
 intro ar y p v t hm hp bt bs ms w0 w S;replace hm:(match(generalizing:=false) ar with
  |[]=>some (0<=y.b/\y.b<=1000,V.az [],{aN y with aA:=(true,.start y.b)})
  |_=>none)=some (p,v,t):=hm
 split at hm
 ·simp only[Option.some.injEq,Prod.mk.injEq]at hm;obtain⟨rfl,rfl,rfl⟩:=hm;exact aiv y hp S
 ·cases hm
def Y0 (g:Nat):Option Nat:=bif Nat.beq g 0 then some 0 else none
def kLd:List V:=[.bool false,.bool false,.bool false,.bool false,.bool false,.bool false,.bool false,.bool false,.bool false,.bool false,.bool true,.bool true]
def aeH (ka:Nat->Option Addr) (kn kc:Nat->Nat) (T:TypeId) (p:Sd.Pol) (t:Sd.Tok) (s r mo:Int) (m:Sd.bW) (K:VK Empty):Prop:=cJ (dR prog Y0 (qL Empty QV)) 60 128 [.agg [.j8 p ka kn kc],.agg (cI t),.int .i64 s,.int .i64 r,.int .i64 mo,.agg (cw m)] [⟨false,⟨T,(0,0)⟩,kLd⟩] [] K
theorem abF (ka:Nat->Option Addr) (kn kc:Nat->Nat) (T:TypeId) (p:Sd.Pol) (t:Sd.Tok) (s r mo:Int) (m:Sd.bW) (K:VK Empty):
 aeH ka kn kc T p t s r mo {m with kind:=10} (cP 0 K)=cond (s !=t.holder) (K (.int .i64 20) [] []) (cond (m.epoch !=t.epoch) (K (.int .i64 21) [] []) (True/\cond (!Sd.may p mo r 0) (K (.int .i64 22) [] []) (True/\cond (!Sd.goes p mo m.mode) (K (.int .i64 23) [] []) (K (.int .i64 0) [] []))))/\
 aeH ka kn kc T p t s r mo {m with kind:=11} (cP 0 K)=cond (s !=t.holder) (K (.int .i64 20) [] []) (cond (m.epoch !=t.epoch) (K (.int .i64 21) [] []) (True/\cond (!Sd.may p mo r m.cls) (K (.int .i64 22) [] []) (K (.int .i64 0) [] []))):=⟨by kernel_rfl,by kernel_rfl⟩
theorem Ss (ka:Nat->Option Addr) (kn kc:Nat->Nat) {T:TypeId} (p:Sd.Pol) (t:Sd.Tok) (s r mo:Int) (m:Sd.bW) {v:V} (hv:aeH ka kn kc T p t s r mo m (cP 0 λx _ _=>x=v)) (hw:fK 0 v=true) {w:World} (hC:w.heap[0]?=some (.cells (ab [] kLd).toArray T (0,0))):
 aj prog 128 (ao [0] [.agg [.j8 p ka kn kc],.agg (cI t),.int .i64 s,.int .i64 r,.int .i64 mo,.agg (cw m)]).toArray w λx w1=>x=den [] v/\Ch [] w w1:=by
 have S:=St.given (w:=w) [(0,.cells (ab [0] kLd).toArray T (0,0))] (by intro p hp;simp only[List.mem_singleton]at hp;subst hp;exact hC);refine(bw (f_ (uq Y0)).T (f_ (uq Y0)).Q 60 (C:=dR prog Y0 (qL Empty QV)) (ids:=[0]) (bl:=[⟨false,⟨T,(0,0)⟩,kLd⟩]) (ch:=[]) (R:=[]) (λg i h=>?_) rfl S hv).mono ?_
 ·replace h:Y0 g=some i:=h;unfold Y0 at h;cases hg:Nat.beq g 0 with
  |false=>rw[hg]at h;cases h
  |true=>rw[hg]at h;cases h;exact⟨by simp,(Nat.eq_of_beq_eq_true hg).symm⟩
 ·rintro x w' ⟨y,more,bl',ch',rfl,h1,S',hK⟩;obtain⟨v2,aP,bl2,e,gx,S2,rfl⟩:=c9 (n0:=0) h1 (by simp) S' hK;exact⟨e.trans (bC (ids:=[]) _ hw),S'.ch⟩
theorem aeI (p:Sd.Pol) (ka:Nat->Option Addr) (kn kc:Nat->Nat) (t:Sd.Tok) (s r mo:Int) (m:Sd.bW) (hk:m.kind=10\/m.kind=11) {T:TypeId} {w:World} (hC:w.heap[0]?=some (.cells (ab [] kLd).toArray T (0,0))):
 aj prog 128 (ao [0] [.agg [.j8 p ka kn kc],.agg (cI t),.int .i64 s,.int .i64 r,.int .i64 mo,.agg (cw m)]).toArray w λx w1=>x=den [] (.int .i64 (Sd.fM p t s r mo m))/\Ch [] w w1:=by
 rcases hk with hk|hk
 ·have e:m={m with kind:=10}:=by cases m;simp only at hk;subst hk;rfl
  rw[e];refine Ss ka kn kc p t s r mo _ ?_ rfl hC;rw[(abF ka kn kc T p t s r mo m _).1];unfold Sd.fM;rw[if_neg (by simp)];refine aU (λh=>by rw[if_pos (by simpa using h)]) (λh=>?_);rw[if_neg (by simpa using h)];refine aU (λh=>by rw[if_pos (by simpa using h)]) (λh=>⟨trivial,?_⟩);rw[if_neg (by simpa using h)];refine aU (λh=>by rw[if_pos (by simpa using h)]) (λh=>⟨trivial,?_⟩);rw[if_neg (by simpa using h)];exact aU (λh=>by rw[if_pos (by simpa using h)]) (λh=>by rw[if_neg (by simpa using h)])
 ·have e:m={m with kind:=11}:=by cases m;simp only at hk;subst hk;rfl
  rw[e];refine Ss ka kn kc p t s r mo _ ?_ rfl hC;rw[(abF ka kn kc T p t s r mo m _).2];unfold Sd.fM;rw[if_neg (by simp)];refine aU (λh=>by rw[if_pos (by simpa using h)]) (λh=>?_);rw[if_neg (by simpa using h)];refine aU (λh=>by rw[if_pos (by simpa using h)]) (λh=>⟨trivial,?_⟩);rw[if_neg (by simpa using h)];refine aU (λh=>by rw[if_pos (by simpa using h)]) (λh=>?_);rw[if_neg (by simpa using h),if_neg (by simp)]
def BG:QF:=⟨128,λargs bl=>match args with
 |[.agg [.j8 p ka kn kc],.agg tl,.int .i64 s,.int .i64 r,.int .i64 mo,.agg ml]=>(match kK tl,DU ml,bl[1]?with
  |some t,some m,some (VB.mk _ (BT.mk _ (0,0)) bc)=>some ((m.kind=10\/m.kind=11)/\bc=[.bool false,.bool false,.bool false,.bool false,.bool false,.bool false,.bool false,.bool false,.bool false,.bool false,.bool true,.bool true],.int .i64 (Sd.fM p t s r mo m))
  |_,_,_=>none)
 |_=>none⟩
theorem Nx:BG.Ok prog gS:=by
 intro args bl p_ v_ h hp ids w hg hm;unfold BG at h;dsimp only at h;split at h
 ·rename_i p ka kn kc tl s r mo ml;split at h
  ·rename_i t m _ _ bc ht OE hb;simp only[Option.some.injEq,Prod.mk.injEq]at h;obtain⟨rfl,rfl⟩:=h;obtain rfl:=fh ht;obtain rfl:=n8 OE;obtain⟨hk,hc⟩:=hp;have h2:=hm.2 1 _ hb;rw[(hg 0 1 rfl).2,hc]at h2;exact told (aeI p ka kn kc t s r mo m hk h2)
  ·cases h
 ·cases h
def L5 (fr:Sd.Reply->Nat×Sd.Byt) (C:Sd.Crypt):List (dI (Gh fr)):=⟨196,false,YU aiC⟩::⟨79,false,YU aiD⟩::qE (Gh fr) BG::L4 fr C
theorem zE (tk:Nat->Sd.Byt->Option Sd.bW) (ht:Body (fr:=fr) 147 bV):ai prog gS (L5 fr (ah tk)):=
 ai.cons (Hs YH) (ai.cons (Hs YI) (ai.cons ⟨qI Nx,λ_=>qH BG.F⟩ (xb tk ht)))
end Go.Proofs.YtggfpcggakghnaaGreatDoor
namespace Go.Proofs.YtggfpcggakghnaaGreatDoor
open Go Go.RowKit Go.BigFrame Sx Vx
def fdC (d:Fd) (k:Nat):List V:=[.int .i64 d.sz,.int .i64 d.low,.int .i64 d.high,.fn (bif d.b then 166 else 168) [] [.ptr k 0],.fn (bif d.b then 167 else 169) [] [.ptr k 0]]
def Su:List Fd->Nat->List V
 |[],_=>[]
 |d::l,k=>fdC d k++Su l (k+1)
def Ht (i:Nat):List Fd->List VB
 |[]=>[]
 |d::l=>⟨true,bif d.b then 212 else 210,[.ptr i d.at_]⟩::Ht i l
def tlO:Option (List Value)->List V
 |none=>[]
 |some t=>[.rest t]
def Ny (l:List Fd) (u:Option (List Value)) (i b:Nat):List VB:=⟨true,⟨175,(0,0)⟩,Su l (b+1)++tlO u⟩::Ht i l
def YJ (kd:Int) (T11:(Nat->Option (List Value)->Prop)->Prop) (k:List Fd->Nat->Option (List Value)->Prop) (k0:Prop):Prop:=
 cond (kd==1) (k [oS] 1 none) (cond (kd==2) (k [oS] 1 none) (cond (kd==3) (k [ig] 1 none) (cond (kd==4) (k [ig] 1 none) (cond (kd==8) (k [ig] 1 none) (cond (kd==9) (k [ig] 1 none) (cond (kd==5) (k [ig,D0] 2 none) (cond (kd==6) (k [ig,rN] 2 none) (cond (kd==7) (k [ig,gf] 2 none)
  (cond (kd==10) (k [ig,gf,rj] 3 none) (cond (kd==11) (T11 λc u=>k [ig,gf,yQ,fX 0,fX 1,fX 2,fX 3] c u) k0))))))))))
def V1 (n c:Nat) (a:List V) (k:Nat->List Value->Prop):Prop:=(n<=c/\eL a=c*5)/\(∀(c':Nat) (u:List Value),n+1<=c'->eL (uu (n+1)++[.rest u])=c'*5->k c' u)/\(∀(c':Nat) (u:List Value),n+1<=c'->eL (uu (n+1)++[.rest u])=c'*5->k c' u)
def rG (n:Nat) (u:List Value):List V:=uu n++[.rest u]
def aiE (k:Nat->Option (List Value)->Prop):Prop:=V1 3 3 (uu 3) λc u=>V1 4 c (rG 4 u) λc u=>V1 5 c (rG 5 u) λc u=>V1 6 c (rG 6 u) λc u=>k c (some u)
def xd (m:Sd.bW):VB:=⟨true,⟨66,(0,0)⟩,cw m⟩
def aiF (X:VK Empty) (m:Sd.bW) (l:List Fd) (c:Nat) (u:Option (List Value)):Prop:=X (.az [.sl 1 0 l.length c,.bool true]) (xd m::Ny l u 0 1) []
theorem aeJ (m:Sd.bW) (X:VK Empty):cJ (OL prog Cx (qL Empty [])) 60 71 [.ptr 0 0] [xd m] [] (cP 1 X)=YJ m.kind aiE (aiF X m) (X (.az [.raw (.slice none 0 0),.bool false]) [xd m] []):=by kernel_rfl
def aiG (k:Nat->Option (List Value)->Prop):Prop:=∀(c:Nat) (u:List Value),7<=c->k c (some u)
def BH {G:Type}:gm G:=λargs bl ch K=>match args with
 |[.ptr i 0]=>(match bl[i]?with
  |some b=>(match DU b.c with
   |some m=>cond (CR b.ty 66&&(b.wr&&dk bl.length bl)) (YJ m.kind aiG (λl c u=>K (.az [.sl bl.length 0 l.length c,.bool true]) (bl++Ny l u i bl.length) ch) (K (.az [.raw (.slice none 0 0),.bool false]) bl ch)) False
   |none=>False)
  |none=>False)
 |_=>False
theorem Nz {kd:Int} {A B:(Nat->Option (List Value)->Prop)->Prop} {k k':List Fd->Nat->Option (List Value)->Prop} {k0 k0':Prop} (hA:∀q q':Nat->Option (List Value)->Prop,(∀c u,q c u->q' c u)->A q->B q') (hk:∀l c u,k l c u->k' l c u) (h0:k0->k0') (h:YJ kd A k k0):YJ kd B k' k0':=by
 have cm:∀{b:Bool} {X X' Y Y':Prop},(X->X')->(Y->Y')->cond b X Y->cond b X' Y':=by
  intro b X X' Y Y' h1 h2;cases b
  ·exact h2
  ·exact h1
 exact cm (hk _ _ _) (cm (hk _ _ _) (cm (hk _ _ _) (cm (hk _ _ _) (cm (hk _ _ _) (cm (hk _ _ _) (cm (hk _ _ _) (cm (hk _ _ _) (cm (hk _ _ _) (cm (hk _ _ _) (cm (hA _ _ λc u=>hk _ c u) h0)))))))))) h
theorem aeK {q q':Nat->Option (List Value)->Prop} (hq:∀c u,q c u->q' c u) (h:aiG q):aiE q':=by
 refine⟨⟨by decide,rfl⟩,?_⟩;have a4:∀(c':Nat) (u:List Value),3+1<=c'->eL (uu (3+1)++[.rest u])=c'*5->V1 4 c' (rG 4 u) λc u=>V1 5 c (rG 5 u) λc u=>V1 6 c (rG 6 u) λc u=>q' c (some u):=by
  intro c1 u1 h1 s1;have a5:∀(c':Nat) (u:List Value),4+1<=c'->eL (uu (4+1)++[.rest u])=c'*5->V1 5 c' (rG 5 u) λc u=>V1 6 c (rG 6 u) λc u=>q' c (some u):=by
   intro c2 u2 h2 s2;have a6:∀(c':Nat) (u:List Value),5+1<=c'->eL (uu (5+1)++[.rest u])=c'*5->V1 6 c' (rG 6 u) λc u=>q' c (some u):=by
    intro c3 u3 h3 s3;exact⟨⟨h3,s3⟩,λc4 u4 h4 _=>hq _ _ (h c4 u4 h4),λc4 u4 h4 _=>hq _ _ (h c4 u4 h4)⟩
   exact⟨⟨h2,s2⟩,a6,a6⟩
  exact⟨⟨h1,s1⟩,a5,a5⟩
 exact⟨a4,a4⟩
theorem YK {is js:List Nat} (d:Fd) (k k':Nat) (h:is.getD k 0=js.getD k' 0):ab is (fdC d k)=ab js (fdC d k'):=by
 simp only[fdC,ab,cl,den,ao,h]
theorem Eg {is js:List Nat}:∀(l:List Fd) (k k':Nat),(∀j,is.getD (k+j) 0=js.getD (k'+j) 0)->ab is (Su l k)=ab js (Su l k')
 |[],_,_,_=>rfl
 |d::l,k,k',h=>by
  simp only[Su,bo];rw[YK d k k' (by simpa using h 0),Eg l (k+1) (k'+1) (λj=>by have:=h (1+j);rwa [<-Nat.add_assoc,<-Nat.add_assoc]at this)]
theorem Eh {is js:List Nat} {i i':Nat} (h:is.getD i 0=js.getD i' 0):∀(l:List Fd) (more:List Nat),lits is more (Ht i l)=lits js more (Ht i' l)
 |[],more=>by cases more<;>rfl
 |d::l,[]=>rfl
 |d::l,x::more=>by
  simp only[Ht,lits,aE,ab,cl,den,h,Eh h l more]
theorem YL {is js:List Nat} {i i' b b':Nat} (h:is.getD i 0=js.getD i' 0) (hb:∀j,is.getD (b+j) 0=js.getD (b'+j) 0) (l:List Fd) (u:Option (List Value)) (more:List Nat):lits is more (Ny l u i b)=lits js more (Ny l u i' b'):=by
 cases more with
 |nil=>rfl
 |cons x more=>
  have hu:ab is (tlO u)=ab js (tlO u):=by cases u<;>simp[tlO,ab,cl]
  simp only[Ny,lits,aE,bo,hu,Eh h l more];rw[Eg l (b+1) (b'+1) (λj=>by have:=hb (1+j);rwa [<-Nat.add_assoc,<-Nat.add_assoc]at this)]
theorem J0 (l:List Fd) (u:Option (List Value)) (i b:Nat):(Ny l u i b).length=l.length+1:=by
 have:∀l:List Fd,(Ht i l).length=l.length:=by
  intro l;induction l with
  |nil=>rfl
  |cons d l ih=>simp[Ht,ih]
 simp[Ny,this]
def KF (m:Sd.bW) (P:List Fd->Nat->Option (List Value)->Prop) (P0:Prop):VK Empty:=λv bl ch=>ch=[]/\((∃l c u,P l c u/\v=.az [.sl 1 0 l.length c,.bool true]/\bl=xd m::Ny l u 0 1)\/(P0/\v=.az [.raw (.slice none 0 0),.bool false]/\bl=[xd m]))
theorem BI {G:Type} [Bl G] (gl:Nat->Option Nat):Sound (G:=G) prog gl 71 BH:=by
 intro args ids bl ch R ms w0 w K hg hl S hc;unfold BH at hc;split at hc
 ·rename_i i;split at hc
  ·rename_i b hb;split at hc
   ·rename_i m hm;cases hq:CR b.ty 66&&(b.wr&&dk bl.length bl)with
    |false=>rw[hq]at hc;exact hc.elim
    |true=>
     rw[hq]at hc;simp only[cond_true]at hc;simp only[Bool.and_eq_true]at hq;obtain⟨q1,q2,q3⟩:=hq;have q1:=Ar q1;obtain⟨wr,ty,bc⟩:=b;simp only at q1 q2 hm;subst q1 q2;obtain rfl:=n8 hm;have hi:=bO hb;have hbb:=hb;obtain⟨r,hr,dP⟩:=So hl hi;have p1:=dP bl rfl;have S1:=S.perm (p1.append_right _);rw[cG hb]at S1;have em:∀is:List Nat,ab is (cw m)=ab [] (cw m):=λis=>by have:=bU (ids:=[]) (more:=is) (cw m) rfl;simpa using this
     have S2:St ms w0 (lits [ids.getD i 0] [ids.getD i 0] [xd m]++af ([]:List Empty) ((r.map λj=>aE ids (ids.getD j 0) (bl.getD j gK))++af ch R)) w:=by
      have e:lits [ids.getD i 0] [ids.getD i 0] [xd m]=[aE ids (ids.getD i 0) ⟨true,⟨66,(0,0)⟩,cw m⟩]:=by
       simp only[lits,aE,xd,em]
      rw[e];simpa[af]using S1
     have hv:cJ (OL prog Cx (qL Empty [])) 60 71 [.ptr 0 0] [xd m] [] (cP 1 (KF m (λl c u=>K (.az [.sl bl.length 0 l.length c,.bool true]) (bl++Ny l u i bl.length) ch) (K (.az [.raw (.slice none 0 0),.bool false]) bl ch))):=by
      rw[aeJ];exact Nz (λq q' h=>aeK h) (λl c u hP=>⟨rfl,.inl ⟨l,c,u,hP,rfl,rfl⟩⟩) (λhP=>⟨rfl,.inr ⟨hP,rfl,rfl⟩⟩) hc
     have main:=bw (G:=Empty) (ai.nil (P:=prog) (gl:=Cx)).TS (ai.nil).QS 60 (C:=OL prog Cx (qL Empty [])) (args:=[.ptr 0 0]) (λg i h=>by cases h) rfl S2 hv;have a1:(ao ids [.ptr i 0]).toArray=(ao [ids.getD i 0] [.ptr 0 0]).toArray:=rfl;rw[a1];refine main.mono ?_;rintro v w' ⟨x,more,bl',ch',rfl,D8,S3,hgc⟩;obtain⟨v',aP,bl2,ev,gx,S4,rfl,hk⟩:=c9 (n0:=1) D8 (by simp) S3 hgc;rw[ev];have et:List.take 1 ([ids.getD i 0]++more)=[ids.getD i 0]:=rfl;rw[et]at gx S4⊢;simp only[af]at S4;have back:∀(M:List VB),lits ([ids.getD i 0]++aP) ([ids.getD i 0]++aP) (xd m::M)=aE ids (ids.getD i 0) ⟨true,⟨66,(0,0)⟩,cw m⟩::lits ([ids.getD i 0]++aP) aP M:=by
      intro M;simp only[List.singleton_append,lits,aE,xd,em]
     rcases hk with⟨l,c,u,hP,rfl,rfl⟩|⟨hP,rfl,rfl⟩
     ·have hlen:aP.length=(Ny l u i bl.length).length:=by
       rw[J0];rw[List.length_cons,J0]at gx;simpa using gx
      have hb:∀j,([ids.getD i 0]++aP).getD (1+j) 0=(ids++aP).getD (bl.length+j) 0:=by
       intro j;rw[<-hl];simp[List.getD,List.getElem?_append_right,Nat.add_comm 1 j]
      have h0:([ids.getD i 0]++aP).getD 0 0=(ids++aP).getD i 0:=by
       exact(kU (ids:=ids) (more:=aP) (by rw[Nat.blt_eq,hl];exact hi)).symm
      refine⟨_,aP,_,ch,?_,by rw[List.length_append,List.length_append,hl,hlen],?_,hP⟩
      ·have:=hb 0;simp only[Nat.add_zero]at this;simp only[den,ao,this]
      ·rw[back]at S4;have e2:lits (ids++aP) (ids++aP) (bl++Ny l u i bl.length)=lits ids ids bl++lits ([ids.getD i 0]++aP) aP (Ny l u 0 1):=by
        rw[aI _ _ _ _ hl,aJ _ _ (by rw[hl];exact q3),YL (i:=0) (i':=i) (b:=1) (b':=bl.length) h0 hb l u]
       rw[e2];refine S4.perm ?_;have p3:=(p1.symm.append_right (lits ([ids.getD i 0]++aP) aP (Ny l u 0 1))).append_right (af ch R);rw[cG hbb]at p3;refine List.Perm.trans ?_ p3;simp only[List.cons_append,List.append_assoc];refine List.Perm.cons _ ?_;exact List.perm_append_comm_assoc _ _ _
     ·refine⟨_,[],bl,ch,?_,by simpa using hl,?_,hP⟩
      ·simp[den,ao]
      ·rw[List.append_nil];rw[back]at S4;have Ah:aP=[]:=by cases aP with
        |nil=>rfl
        |cons=>simp at gx
       subst Ah;refine S4.perm ?_;have p3:=p1.symm.append_right (af ch R);rw[cG hb]at p3;exact p3
   ·exact hc.elim
  ·exact hc.elim
 ·exact hc.elim
def Y1:List (dI Empty):=⟨71,false,BH⟩::qL Empty LTk
def kL (n e:Nat) (f:Nat->Int) (t:List Value) (X:V->Prop):Prop:=cJ (OL prog Cx Y1) 90 143 [.sl 0 0 n (e+n)] [⟨false,⟨5,(0,0)⟩,[.dC .u8 n f,.rest t]⟩] [] λv _ _=>X v
section
variable(e:Nat) (f:Nat->Int) (t:List Value) (X:V->Prop)
theorem alY:kL 0 e f t X=X pM:=by kernel_rfl
theorem alZ:kL 1 e f t X=gI 1 f X:=by kernel_rfl
theorem al0:kL 2 e f t X=gI 2 f X:=by kernel_rfl
theorem al1:kL 3 e f t X=gI 3 f X:=by kernel_rfl
theorem al2:kL 4 e f t X=gI 4 f X:=by kernel_rfl
theorem al3:kL 5 e f t X=gI 5 f X:=by kernel_rfl
theorem al4:kL 6 e f t X=gI 6 f X:=by kernel_rfl
theorem al5:kL 7 e f t X=gI 7 f X:=by kernel_rfl
theorem al6:kL 8 e f t X=gI 8 f X:=by kernel_rfl
theorem al7:kL 9 e f t X=gI 9 f X:=by kernel_rfl
theorem aiH:kL 10 e f t X=gI 10 f X:=by kernel_rfl
theorem aiI:kL 11 e f t X=gI 11 f X:=by kernel_rfl
theorem aiJ:kL 12 e f t X=gI 12 f X:=by kernel_rfl
theorem aiK:kL 13 e f t X=gI 13 f X:=by kernel_rfl
theorem aiL:kL 14 e f t X=gI 14 f X:=by kernel_rfl
theorem aiM:kL 15 e f t X=gI 15 f X:=by kernel_rfl
theorem aiN:kL 16 e f t X=gI 16 f X:=by kernel_rfl
theorem aiO (m:Nat):kL (m+17) e f t X=gI (m+17) f X:=by kernel_rfl
end
end Go.Proofs.YtggfpcggakghnaaGreatDoor
