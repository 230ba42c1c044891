/- Part 22 of the proof. -/
import Derived.Test.YtlkpikfddnjilaaGreatDoorE21
set_option linter.all false
set_option maxRecDepth 100000
set_option maxHeartbeats 4000000
open Go.Proofs.Tryz
namespace Go.Proofs.YtlkpikfddnjilaaGreatDoor
open Go Go.RowKit Go.BigFrame Sx Vx
variable{fr:Sd.Reply->Nat×Sd.Byt}
theorem PE (fr:Sd.Reply->Nat×Sd.Byt) (C:Sd.Crypt) (a b c d:Bool):fG fr C [a,b,c,d]:=by
 cases a<;>cases b<;>cases c<;>cases d
 ·exact Vg fr C
 ·exact Vh fr C
 ·exact Vi fr C
 ·exact Vj fr C
 ·exact Vk fr C
 ·exact Vl fr C
 ·exact Vm fr C
 ·exact Vn fr C
 ·exact Vo fr C
 ·exact Vp fr C
 ·exact Vq fr C
 ·exact Vr fr C
 ·exact Vs fr C
 ·exact Vt fr C
 ·exact Vu fr C
 ·exact Vv fr C
structure l5 (c:Sd.Core):Prop where
 p:Sd.cP c.p
 t:TB c.t
 o1:dB c.t.oa.n
 o2:dB c.t.oa.most
 l1:dB c.t.la.n
 l2:dB c.t.la.most
 RC:c.t.offer<=4
 q:∀a∈c.q,N4 a.source/\dB a.gF.n/\dB a.gF.most
 pt:PtB c.pt
theorem b0:dB 0:=⟨by decide,by decide⟩
theorem XG {n m:Int} (h1:dB n) (h2:dB m):dB (Sd.sat n m):=by
 obtain⟨a,b⟩:=h1;obtain⟨c,d⟩:=h2;unfold Sd.sat;split
 ·exact⟨by omega,by omega⟩
 ·exact⟨c,d⟩
theorem l5.tok {c:Sd.Core} (h:l5 c) {t:Sd.Tok} (ht:TB t) (o1:dB t.oa.n) (o2:dB t.oa.most) (RC:t.offer<=4) (hl:t.la=c.t.la):l5 {c with t:=t}:=⟨h.p,ht,o1,o2,hl▸h.l1,hl▸h.l2,RC,h.q,h.pt⟩
theorem l5.drop {c:Sd.Core} (h:l5 c) (l:Int):l5 {c with t:=(c.t.drop l).1}:=by
 unfold Sd.Tok.drop;split
 ·exact h
 ·exact h.tok ⟨h.t.h,h.t.e⟩ b0 b0 (by simp[Sd.Tok.bG]) rfl
theorem l5.tick {c:Sd.Core} (h:l5 c):l5 {c with t:=c.t.tick.1}/\c.t.tick.2<=4:=by
 unfold Sd.Tok.tick;split
 ·exact⟨h,by simp⟩
 ·split
  ·exact⟨h.tok ⟨h.t.h,h.t.e⟩ b0 b0 (by simp[Sd.Tok.bG]) rfl,h.RC⟩
  ·exact⟨h.tok ⟨h.t.h,h.t.e⟩ (XG h.o1 h.o2) h.o2 h.RC rfl,by simp⟩
theorem l5.qs {c:Sd.Core} (h:l5 c) {q:List Sd.Ask} (hq:∀a∈q,N4 a.source/\dB a.gF.n/\dB a.gF.most):l5 {c with q:=q}:=⟨h.p,h.t,h.o1,h.o2,h.l1,h.l2,h.RC,hq,h.pt⟩
theorem l5.head {c:Sd.Core} (h:l5 c) (x:Sd.Byt):l5 {c with head:=x}:=⟨h.p,h.t,h.o1,h.o2,h.l1,h.l2,h.RC,h.q,h.pt⟩
theorem l5.rcd {s:Sd.Scene} (h:l5 s.c) (C:Sd.Crypt) (a b c d e:Int):l5 (s.record C a b c d e).c:=h.head _
theorem l5.gone {s:Sd.Scene} (h:l5 s.c) (l w c:Int):l5 (s.gone l w c).c:=by rw[gone_c];exact h
theorem l5.leave {s:Sd.Scene} (h:l5 s.c) (C:Sd.Crypt) (l:Int):l5 (s.leave C l).c:=by
 have h1:l5 (qd s l).c:=h.qs λa ha=>h.q a (List.mem_filter.1 ha).1;rw[vy];split
 ·exact h1
 ·exact((show l5 (fF (qd s l) (s.c.t.drop l).1).c from h1.drop l).gone _ _ _).rcd _ _ _ _ _ _
theorem HS {c:Sd.Core} (h:l5 c):∀a∈Sd.Q.pS c.q,N4 a.source/\dB a.gF.n/\dB a.gF.most:=by
 intro a ha;obtain⟨b,hb,rfl⟩:=List.mem_map.1 ha;obtain⟨h1,h2,h3⟩:=h.q b hb;exact⟨h1,XG h2 h3,h3⟩
def xQ (C:Sd.Crypt) (s:Sd.Scene) (a:Sd.Ask):Sd.Scene:=(s.gone a.source a.source 30).record C 12 a.source 0 30 0
def g_ (C:Sd.Crypt) (s:Sd.Scene) (x:Int):Sd.Scene:=if Sd.linked x then(s.record C 5 x 0 0 0).leave C x else s.record C 5 x 0 0 0
def Kh (C:Sd.Crypt) (s:Sd.Scene):Sd.Scene:=if 0<=s.c.t.tick.2 then((fF s s.c.t.tick.1).gone s.c.t.tick.1.holder s.c.t.tick.2 30).record C 12 s.c.t.tick.2 0 30 0 else fF s s.c.t.tick.1
theorem CY (C:Sd.Crypt) (s:Sd.Scene) (a:Sd.Ask):(xQ C s a).c.p=s.c.p:=by show(Sd.Scene.gone _ _ _ _).c.p=_;rw[gone_c]
theorem ra (C:Sd.Crypt) (s:Sd.Scene) (x:Int):(g_ C s x).c.p=s.c.p:=by
 unfold g_;split
 ·rw[qR];rfl
 ·rfl
theorem CZ (C:Sd.Crypt) (s:Sd.Scene) (t:Sd.Tok) (h n:Int):(s.goes C t h n).c.pt=s.c.pt:=by
 show(Sd.Scene.hear _ _ _).c.pt=_;rw[hear_c,hear_c]
theorem HT (C:Sd.Crypt) (s:Sd.Scene):(s.dg C).c.p=s.c.p:=by
 rw[qT _ _ _ rfl];split
 ·rfl
 ·split
  ·exact tX _ _ _ _ _ _ _
  ·exact tX _ _ _ _ _ _ _
theorem Vw {C:Sd.Crypt} {s:Sd.Scene} (h:PtB s.c.pt):PtB (s.dg C).c.pt:=by
 have hf:∀(t:Sd.Scene) (m:Int) (b:Sd.Label),t.c.pt=s.c.pt->PtB (t.dF m b).c.pt:=by
  intro t m b e;show PtB (t.c.pt.hold b);rw[e];exact⟨b0,b0,b0,b0,h.2.2.2.2⟩
 rw[qT _ _ _ rfl];split
 ·exact h
 ·split
  ·exact hf _ _ _ (CZ _ _ _ _ _)
  ·exact hf _ _ _ (CZ _ _ _ _ _)
section
variable{tk:Nat->Sd.Byt->Option Sd.dw} {k:LK} {s0:Sd.Scene} {Kb:SK fr k}
theorem Vy {C:Sd.Crypt} {s:Sd.Scene} {F:cz fr (b9 k s)} {K:SK fr k} (h:StL s) (hK:∀F',K (.aI []) (s.dg C) F'):vC C [] k (du s) F K:=by
 have e:vC C [] k s F K=(StL s/\∀F',K (.aI []) (s.dg C) F'):=by kernel_rfl
 exact fj (M:=vC C) (e▸⟨h,hK⟩)
theorem PF {C:Sd.Crypt} {s:Sd.Scene} {F:cz fr (b9 k s)} {K:SK fr k} {l:Int} (h:Rm s 2/\N4 l) (hK:∀F',K (.aI []) (s.leave C l) F'):jL C [.int .i64 l] k (du s) F K:=by
 have e:jL C [.int .i64 l] k s F K=((Rm s 2/\N4 l)/\∀F',K (.aI []) (s.leave C l) F'):=by kernel_rfl
 exact fj (M:=jL C) (e▸⟨h,hK⟩)
theorem vR:∀(l:List Sd.Ask) (s:Sd.Scene) (F:cz fr (b9 k s)) (j:List VB),s.c.p=s0.c.p->s.c.p.queue=k.most->l5 s.c->(∀a∈l,N4 a.source)->Rm s (2*l.length+8)->
 (∀F',Kb (.aI []) (pz ((l.foldl (xQ (aq tk)) s).dg (aq tk))) F')->tkL (aq tk) k s0 Kb l s F j
 |[],s,F,j,hp,hq,hT,hl,hr,hK=>⟨eZ hq,Vy ⟨hr,hT.p,hT.t,hT.l1,hT.l2⟩ λF2=>⟨⟨by rw[HT];exact hT.p,Vw hT.pt⟩,aK (s':=pz (s.dg (aq tk))) rfl hK F2 (hp:=by show(Sd.Scene.dg _ _).c.p=_;rw[HT];exact hp) (hb:=by kernel_rfl)⟩⟩
 |a::l,s,F,j,hp,hq,hT,hl,hr,hK=>by
  have ha:=hl a (by simp);have tQ:Rm s (2*l.length+8+1+1):=hr.le (by simp only[List.length_cons];omega);refine⟨eZ hq,qN ⟨hr.le (by omega),ha,⟨by decide,by decide⟩⟩ λF2=>⟨eZ (by rw[gone_c];exact hq),fk tQ.gone.r1 λF3=>vR l (xQ (aq tk) s a) F3 _ (by rw[CY];exact hp) (by rw[CY];exact hq) ((hT.gone _ _ _).rcd _ _ _ _ _ _) (λb hb=>hl b (by simp[hb])) tQ.gone.rec hK⟩⟩
theorem PG (s:Sd.Scene) (F:cz fr (b9 k s)) (j:List VB) (hp:s.c.p=s0.c.p) (hq:s.c.p.queue=k.most) (hT:l5 s.c) (hr:Rm s 14)
 (hK:∀F',Kb (.aI []) (pz (((Sd.Q.gone s.c.q).foldl (xQ (aq tk)) (bI s (Sd.Q.kept s.c.q))).dg (aq tk))) F'):tkQ (aq tk) k s0 Kb s F j:=by
 have RL:l5 (bI s (Sd.Q.kept s.c.q)).c:=hT.qs λa ha=>HS hT a (List.mem_filter.1 ha).1;have hg:∀a∈Sd.Q.gone s.c.q,N4 a.source:=λa ha=>(HS hT a (List.mem_filter.1 ha).1).1;have tQ:Rm (bI s (Sd.Q.kept s.c.q)) 14:=hr;refine⟨⟨rfl,λa ha=>(hT.q a ha).2⟩,λB h=>⟨λe x c=>?_,λa e c t=>?_,λa b e c t=>?_,λa b d e c t=>?_⟩⟩<;>rw[e]at hK hg
 ·exact vR [] _ _ _ hp hq RL hg (tQ.le (by simp)) hK
 ·exact vR [a] _ _ _ hp hq RL hg (tQ.le (by simp)) hK
 ·exact vR [a,b] _ _ _ hp hq RL hg (tQ.le (by simp)) hK
 ·exact vR [a,b,d] _ _ _ hp hq RL hg (tQ.le (by simp)) hK
theorem PH (s:Sd.Scene) (F:cz fr (b9 k s)) (j:List VB) (hp:s.c.p=s0.c.p) (hq:s.c.p.queue=k.most) (hT:l5 s.c) (hr:Rm s 16)
 (hK:∀F',Kb (.aI []) (pz (((Sd.Q.gone (Kh (aq tk) s).c.q).foldl (xQ (aq tk)) (bI (Kh (aq tk) s) (Sd.Q.kept (Kh (aq tk) s).c.q))).dg (aq tk))) F'):tkO (aq tk) k s0 Kb s F j:=by
 have RL:l5 (fF s s.c.t.tick.1).c:=hT.tick.1;have tQ:Rm (fF s s.c.t.tick.1) 16:=hr;refine⟨⟨hT.o1,hT.o2⟩,aS (λe=>?_) (λe=>?_)⟩
 ·have e1:0<=s.c.t.tick.2:=by simpa using e
  have e2:Kh (aq tk) s=((fF s s.c.t.tick.1).gone s.c.t.tick.1.holder s.c.t.tick.2 30).record (aq tk) 12 s.c.t.tick.2 0 30 0:=if_pos e1;rw[e2]at hK;refine⟨eZ hq,qN ⟨tQ.le (by decide),⟨e1,hT.tick.2⟩,⟨by decide,by decide⟩⟩ λF2=>⟨eZ (by rw[gone_c];exact hq),fk tQ.gone.r1 λF3=>PG _ F3 _ ?_ ?_ ((RL.gone _ _ _).rcd _ _ _ _ _ _) (tQ.gone.rec) hK⟩⟩
  ·show(Sd.Scene.gone _ _ _ _).c.p=_;rw[gone_c];exact hp
  ·show(Sd.Scene.gone _ _ _ _).c.p.queue=_;rw[gone_c];exact hq
 ·have e1:¬0<=s.c.t.tick.2:=by simpa using e
  have e2:Kh (aq tk) s=fF s s.c.t.tick.1:=if_neg e1;rw[e2]at hK;exact PG (fF s s.c.t.tick.1) F _ hp hq RL (tQ.le (by decide)) hK
theorem l5.g_ {s:Sd.Scene} (h:l5 s.c) (C:Sd.Crypt) (x:Int):l5 (g_ C s x).c:=by
 unfold Go.Proofs.YtlkpikfddnjilaaGreatDoor.g_;split
 ·exact(h.rcd C _ _ _ _ _).leave C x
 ·exact h.rcd C _ _ _ _ _
theorem Rm.g_ {C:Sd.Crypt} {s:Sd.Scene} {x:Int} {n:Nat} (h:Rm s (n+3)):Rm (g_ C s x) n:=by
 unfold Go.Proofs.YtlkpikfddnjilaaGreatDoor.g_;have h1:Rm (s.record C 5 x 0 0 0) (n+2):=Rm.rec h;split
 ·exact h1.leave
 ·exact h1.le (by omega)
theorem PI {C:Sd.Crypt} {x:Int} {s:Sd.Scene} {X:(s2:Sd.Scene)->cz fr (b9 k s2)->Prop} (hq:s.c.p.queue=k.most) (hr:Rm s 4) (hx:0<=x/\x<=3) (h:∀F3:cz fr (b9 k (g_ C s x)),X (g_ C s x) F3):
 ∀F2:cz fr (b9 k (s.record C 5 x 0 0 0)),True/\lc x (eu k (s.record C 5 x 0 0 0) F2/\jL C [.int .i64 x] k (du (s.record C 5 x 0 0 0)) F2 λv s3 F3=>X s3 F3) (X (s.record C 5 x 0 0 0) F2):=by
 intro F2;refine⟨trivial,aeT (aS (λe=>⟨eZ hq,PF ⟨(Rm.rec hr).le (by decide),⟨hx.1,by omega⟩⟩ λF3=>?_⟩) (λe=>?_))⟩
 ·have e1:g_ C s x=(s.record C 5 x 0 0 0).leave C x:=if_pos e;rw[e1]at h;exact h F3
 ·have e1:g_ C s x=s.record C 5 x 0 0 0:=if_neg (by rw[e];decide);rw[e1]at h;exact h F2
theorem PJ {cont:SC fr k}:∀(l:List Int) (s:Sd.Scene) (F:cz fr (b9 k s)) (j:List VB),s.c.p=s0.c.p->s.c.p.queue=k.most->l5 s.c->(∀x∈l,0<=x/\x<=3)->Rm s (3*l.length+16)->
 (∀s2:Sd.Scene,s2=l.foldl (g_ (aq tk)) s->s2.c.p=s0.c.p->s2.c.p.queue=k.most->l5 s2.c->Rm s2 16->∀F2,cont s2 F2 j)->tkE (aq tk) k cont l s F j
 |[],s,F,j,hp,hq,hT,hl,hr,hc=>hc s rfl hp hq hT (hr.le (by simp)) F
 |x::l,s,F,j,hp,hq,hT,hl,hr,hc=>by
  have tQ:Rm s (3*l.length+16+3):=hr.le (by simp only[List.length_cons];omega);exact⟨eZ hq,fk hr.r1 (PI (X:=λs2 F2=>tkE (aq tk) k cont l s2 F2 j) hq (hr.le (by omega)) (hl x (by simp)) λF3=>PJ l _ F3 j (by rw[ra];exact hp) (by rw[ra];exact hq) (hT.g_ _ _) (λy hy=>hl y (by simp[hy])) tQ.g_ hc)⟩
end
def Hi (s:Sd.Scene):Prop:=∀j,(s.c.tab.aE (j+3)).on=false
theorem xR {s:Sd.Scene} (h:Hi s):qP s (cj s.c.tab).tick=dT s s.c.tab.tick:=by
 refine qQ rfl ?_ ?_
 ·intro j hj;have:j=0\/j=1\/j=2:=by omega
  rcases this with rfl|rfl|rfl<;>rfl
 ·intro j;simp[Sd.Tab.tick,h j]
theorem xS (t:Sd.Tab):mw (oo t) 0=t.ended:=by
 unfold oo Sd.Tab.ended;cases t.fy<;>cases t.dE 0<;>cases t.dE 1<;>cases t.dE 2<;>rfl
theorem XH:∀(bs:List Bool) (n:Int),(∀x∈mw bs n,n<=x/\x<n+bs.length)/\(mw bs n).length<=bs.length
 |[],n=>⟨by simp[mw],by simp[mw]⟩
 |b::l,n=>by
  obtain⟨h1,h2⟩:=XH l (n+1);cases b
  ·refine⟨λx hx=>?_,?_⟩
   ·have:=h1 x hx;simp only[List.length_cons];omega
   ·show(mw l (n+1)).length<=_;simp only[List.length_cons];omega
  ·refine⟨λx hx=>?_,?_⟩
   ·rcases List.mem_cons.1 hx with rfl|hx
    ·simp only[List.length_cons];omega
    ·have:=h1 x hx;simp only[List.length_cons];omega
   ·show(n::mw l (n+1)).length<=_;simp only[List.length_cons];omega
theorem Vz (t:Sd.Tab):(∀x∈t.ended,0<=x/\x<=3)/\t.ended.length<=4:=by
 rw[<-xS];obtain⟨h1,h2⟩:=XH (oo t) 0;have e:(oo t).length=4:=rfl;rw[e]at h1 h2;exact⟨λx hx=>by have:=h1 x hx;omega,h2⟩
def HU (C:Sd.Crypt) (s:Sd.Scene):Sd.Scene:=Kh C (s.c.tab.ended.foldl (g_ C) (dT s s.c.tab.tick))
theorem tZ (C:Sd.Crypt) (s:Sd.Scene):s.tick C=pz (((Sd.Q.gone (HU C s).c.q).foldl (xQ C) (bI (HU C s) (Sd.Q.kept (HU C s).c.q))).dg C):=by kernel_rfl
structure TkP (s:Sd.Scene):Prop where
 c:l5 s.c
 r:Rm s 28
 h:Hi s
 b:TB3 s.c.tab
def C0 (C:Sd.Crypt):SM fr:=λar k s F K=>match ar with
 |[]=>TkP s/\∀F',K (.aI []) (s.tick C) F'
 |_=>False
theorem VA {f:Nat} {M:SM fr} (h:∀s0:Sd.Scene,Body f (λar k s F K=>s=s0/\M ar k s F K)):Body f M:=λar k s F Kb a b c R ms w0 w h0 hq hM S=>h s ar k s F Kb a b c R ms w0 w h0 hq ⟨rfl,hM⟩ S
theorem Ki (tk:Nat->Sd.Byt->Option Sd.dw) (ht:Body (fr:=fr) 130 bN) (h1:∀bs,Sound prog gS 63 (vH (fr:=fr) bs)) (h2:Sound prog gS 68 (vI (fr:=fr))):Body (fr:=fr) 38 (C0 (aq tk)):=by
 refine VA λs0=>dG (n:=90) (aeU tk ht (oo (cj s0.c.tab)) (h1 _) h2) ?_;intro ar k s F Kb h0 hq hM;obtain⟨rfl,hM⟩:=hM;unfold C0 at hM;split at hM
 ·have hP:=hM.1;have hK:=hM.2;rw[tZ]at hK;have hv:=PE fr (aq tk) (cj s.c.tab).fy ((cj s.c.tab).dE 0) ((cj s.c.tab).dE 1) ((cj s.c.tab).dE 2) k s F Kb;refine hv▸⟨⟨hP.b,rfl⟩,?_⟩;have el:mw [(cj s.c.tab).fy,(cj s.c.tab).dE 0,(cj s.c.tab).dE 1,(cj s.c.tab).dE 2] 0=s.c.tab.ended:=xS s.c.tab;rw[el];have tQ:Rm (dT s s.c.tab.tick) 28:=hP.r;have RL:l5 (dT s s.c.tab.tick).c:=⟨hP.c.p,hP.c.t,hP.c.o1,hP.c.o2,hP.c.l1,hP.c.l2,hP.c.RC,hP.c.q,hP.c.pt⟩;obtain⟨hb,hn⟩:=Vz s.c.tab;unfold HU at hK;revert hK hb hn;generalize s.c.tab.ended=l;intro hK hb hn;cases l with
  |nil=>
   intro x c;exact qJ (M:=λs' F=>tkO (aq tk) k s Kb s' F []) (xR hP.h) F (PH _ _ _ rfl hq RL (tQ.le (by decide)) hK)
  |cons a l=>
   intro c t;simp only[List.length_cons]at hn;refine⟨eZ hq,qJ (M:=λs' F=>gT (aq tk) [.int .i64 5,.int .i64 a,.int .i64 0,.int .i64 0,.int .i64 0] k s' F _) (xR hP.h) F ⟨tQ.r1,PI (s:=dT s s.c.tab.tick) (X:=λs2 F2=>tkE (aq tk) k (tkO (aq tk) k s Kb) l s2 F2 [Pf (a::l) t]) hq (tQ.le (by decide)) (hb a (by simp)) λF3=>?_⟩⟩;refine PJ l _ F3 _ (ra _ _ _) (by rw[ra];exact hq) (RL.g_ _ _) (λx hx=>hb x (by simp[hx])) ((Rm.g_ (n:=25) tQ).le (by omega)) ?_;intro s2 e2 KU hq2 hT2 hr2 F2;subst e2;exact PH _ F2 _ KU hq2 hT2 hr2 hK
 ·exact hM.elim
def cJ:Value:=.slice none 0 0
def gz (k:LK) (s:Sd.Scene):List VB:=[aG k,iI k,ei k 3 s,gD s]
def PK (k:LK) (s:Sd.Scene) (F:cz fr (b9 k s)):Prop:=cJ=F.vs/\cJ=F.vr/\some (aG k)=some (aG k)/\some (iI k)=some (iI k)/\Cq k 3 s=Cq k 3 (du s)/\s.c.p.bU=s.c.p.bU/\s.c.p.bx=s.c.p.bx/\s.c.p.queue=k.most
def xT (s:Sd.Scene) (vs vr:Value):List V:=[.int .i64 s.c.mode,.int .i64 s.c.pt.cls,.int .i64 s.c.pt.now.a,.int .i64 s.c.pt.now.b,.int .i64 s.c.pt.now.c,.int .i64 s.c.pt.now.d,.int .i64 s.c.bP.mi,.int .i64 s.c.bP.source,.int .i64 s.c.bP.seq,
 .int .i64 s.c.pt.eJ.mi,.int .i64 s.c.pt.eJ.source,.int .i64 s.c.pt.eJ.seq,.raw vs,.raw vr,.ew .u8 32 s.c.head]
def oq (k:LK) (s:Sd.Scene) (Kb:(s':Sd.Scene)->cz fr (b9 k s')->Prop):VK (Gh fr):=λv bl ch=>∃(s':Sd.Scene) (F':cz fr (b9 k s')),v=.agg (xT s' F'.vs F'.vr)/\bl.take 4=gz k s'/\ch=[cB k s' F']/\Kb s' F'
def LC (fr:Sd.Reply->Nat×Sd.Byt) (C:Sd.Crypt):List (eG (Gh fr)):=[⟨38,false,pk (C0 C)⟩,⟨61,false,pk (O3 C)⟩,⟨62,false,pk (qW C)⟩,⟨49,false,pk (CX C)⟩]
theorem C1 (ht:Body (fr:=fr) 130 bN):ao prog gS (LC fr (aq cu)):=
 ao.cons (dh (Ki cu ht (λbs=>CN bs gS) (CO gS))) (ao.cons (dh (CE cu ht)) (ao.cons (dh (CI cu ht)) (ao.cons (dh (Kg ht)) ao.nil)))
section
variable(C:Sd.Crypt) (k:LK) (s:Sd.Scene) (F:cz fr (b9 k s)) (Kb:(s':Sd.Scene)->cz fr (b9 k s')->Prop)
def lfC (s':Sd.Scene) (F':cz fr (b9 k s')):Prop:=oq k s Kb (.agg (xT s' F'.vs F'.vr)) (gz k s') [cB k s' F']
theorem PL:c_ (dQ prog gS (LC fr C)) 60 15 [.ptr 2 0] (gz k s) [cB k s F] (oq k s Kb)=(PK k s F/\C0 C [] k (du s) F λv s' F'=>lfC k s Kb s' F'):=by kernel_rfl
theorem FO (b:Bool):c_ (dQ prog gS (LC fr C)) 60 36 [.ptr 2 0,.bool b] (gz k s) [cB k s F] (oq k s Kb)=(PK k s F/\qW C [.bool b] k (du s) F λv s' F'=>lfC k s Kb s' F'):=by kernel_rfl
theorem FP (x:Sd.dM):c_ (dQ prog gS (LC fr C)) 60 35 [.ptr 2 0,.agg (pg x)] (gz k s) [cB k s F] (oq k s Kb)=(PK k s F/\O3 C [.agg (pg x)] k (du s) F λv s' F'=>lfC k s Kb s' F'):=by kernel_rfl
def afb (l code:Int):Prop:=
 let no:Prop:=oq k s Kb (.agg (xT s cJ cJ)) (gz k s) [cB k s F]
 cond (decide (l>=1)) (cond (decide (l<=3)) (PK k s F/\CX C [.int .i64 l,.agg [.int .i64 code,.raw (eb k)]] k (du s) F λv s' F'=>lfC k s Kb s' F') no) no
theorem PM (l code:Int):c_ (dQ prog gS (LC fr C)) 60 22 [.ptr 2 0,.int .i64 l,.agg [.int .i64 code,.raw (eb k)]] (gz k s) [cB k s F] (oq k s Kb)=afb C k s F Kb l code:=by kernel_rfl
end
def ot (s:Sd.Scene) (qv:V):List V:=[.int .i64 s.c.t.holder,.int .i64 s.c.t.epoch,.int .i64 s.c.t.offer,.int .i64 s.c.mode]++(mr s.c.bP++(RE s.c.pt++(qv::([.bool ((cj s.c.tab).on 0),.bool ((cj s.c.tab).on 1),.bool ((cj s.c.tab).on 2),.bool ((cj s.c.tab).on 3),.bool ((cj s.c.tab).on 4)]++
 [.int .i64 ((cj s.c.tab).role 0),.int .i64 ((cj s.c.tab).role 1),.int .i64 ((cj s.c.tab).role 2),.int .i64 ((cj s.c.tab).role 3),.int .i64 ((cj s.c.tab).role 4),.bool s.c.t.bad]))))
def vS:List Sd.Ask->List V
 |[]=>[]
 |a::l=>.int .i64 a.source::vS l
def FQ (l:List Sd.Ask) (u:List Value):VB:=⟨true,⟨3,(0,0)⟩,vS l++[.rest u]⟩
def VC:Nat->Nat->Prop->Prop
 |0,_,q=>q
 |n+1,j,q=>True/\(0<=(j:Int)/\(j:Int)<(5:Nat))/\True/\True/\VC n (j+1) q
section
variable(C:Sd.Crypt) (k:LK) (s:Sd.Scene) (F:cz fr (b9 k s)) (K:VK (Gh fr))
def ahJ:Prop:=VC 5 0 (K (.agg (ot s (.raw cJ))) (gz k s) [cB k s F])
def siF (l:List Sd.Ask) (c:Nat) (u:List Value):Prop:=VC 5 0 (K (.agg (ot s (.sl 4 0 l.length c))) (gz k s++[FQ l u]) [cB k s F])
def siA (n:Nat) (l:List Sd.Ask) (P:Prop) (k:Nat->List Value->Prop):Prop:=P/\(∀(c:Nat) (u:List Value),n+1<=c->fb (vS l++[.rest u])=c*1->k c u)/\(∀(c:Nat) (u:List Value),n+1<=c->fb (vS l++[.rest u])=c*1->k c u)
def siN (a:Sd.Ask) (k:Nat->List Value->Prop):Prop:=∀(c:Nat) (u:List Value),0+1<=c->fb (vS [a]++[.rest u])=c*1->k c u
def afc:Prop:=vq k=vq k/\(s.c.q=[]->∀(x:Option Addr) (c:Nat),ahJ k s F K)/\
 (∀a,s.c.q=[a]->∀(c:Nat) (t:List Value),siN a λc u=>siF k s F K [a] c u)/\
 (∀a b,s.c.q=[a,b]->∀(c:Nat) (t:List Value),siN a λc u=>siA 1 [a,b] (1<=c/\fb (vS [a]++[.rest u])=c*1) λc u=>siF k s F K [a,b] c u)/\
 (∀a b d,s.c.q=[a,b,d]->∀(c:Nat) (t:List Value),siN a λc u=>siA 1 [a,b] (1<=c/\fb (vS [a]++[.rest u])=c*1) λc u=>siA 2 [a,b,d] (2<=c/\fb (vS [a,b]++[.rest u])=c*1) λc u=>siF k s F K [a,b,d] c u)
theorem VD:c_ (wU prog gS (L8 fr C) (MA prog) tK) 60 12 [.ptr 2 0] (gz k s) [cB k s F] (eB 4 K)=afc k s F K:=by kernel_rfl
end
end Go.Proofs.YtlkpikfddnjilaaGreatDoor
namespace Sd
variable{C:Crypt} {b:Prop} {s:Scene} {l:Int} {m:dw}
theorem nJ {X:Scene} {k a n e w:Int} (h:Quiet C b s X) (hk:k≠8) (hb:EH b ⟨k,a,n,X.c.t.epoch,e,w⟩):Quiet C b s (X.record C k a n e w):=
 h.trans (Scene.bS hk hb)
theorem Inv.VE {c:Core} (h:Inv c) {n y:Int} (hn:0<=n/\n<=4294967295):Inv {c with samples:=n,tab:=c.tab.dD c.p,beyond:=y}:=by
 have hb:=h.p.bU;have h1:=Inv.Hk (T:=c.tab) (T':=c.tab.dD c.p) h ⟨λ_=>by simp[Tab.dD,Timer.start];omega,h.tab.aE⟩
  (λa ha=>by
   have:=(h.q.each a ha).2.2.2.1;unfold Tab.on at*;split
   ·rfl
   ·rename_i h4;rw[if_neg h4]at this;split
    ·rfl
    ·rename_i h0;rw[if_neg h0]at this;exact this)
  (λho=>by
   have:c.tab.on c.t.offer=true:=by
    rcases h.tok.offer with h1|⟨_,_,_,h1,_⟩
    ·omega
    ·exact h1
   unfold Tab.on at*;split
   ·rfl
   ·rename_i h4;rw[if_neg h4]at this;split
    ·rfl
    ·rename_i h0;rw[if_neg h0]at this;exact this)
 exact⟨h1.p,h1.tok,h1.q,h1.tab,hn,h1.mode,h1.doors⟩
theorem nV.VF {t:Scene} {c:Core} {kind link:Int} (k:nV C b ({s with c:=c}:Scene) t kind link) (h1:c.t=s.c.t) (h2:c.q=s.c.q) (h3:c.p=s.c.p) (h4:c.head=s.c.head):nV C b s t kind link:=by
 have q0:Quiet C b s ({s with c:=c}:Scene):=Scene.aR (by rw[h1]) (by rw[h1]) h3 h4;refine⟨k.inv,?_⟩;rcases k.NK with q|⟨how,g,w⟩
 ·exact .inl (q0.trans q)
 ·refine .inr ⟨how,q0.goes g,?_⟩;unfold xF at*;simpa only[h1,h2,h3]using w
theorem vT {x:dM} (h:Inv s.c):nV C b s (s.dD C x) 1 0:=by
 have e0:=h.eH;unfold Scene.dD;split
 ·exact .cH ⟨h.p,h.tok,h.q,h.tab,h.samples,h.mode,h.doors⟩ (Scene.aR rfl rfl rfl rfl)
 dsimp only;have hn:=Yh h.samples.1 (m:=4294967295) (by omega) h.samples.2;have i1:=h.VE (y:=(n9 s.c.p s.c.beyond x).1) hn;have q1:Quiet C b s ({s with c:={s.c with samples:=sat s.c.samples 4294967295,tab:=s.c.tab.dD s.c.p,beyond:=(n9 s.c.p s.c.beyond x).1}}:Scene):=Scene.aR rfl rfl rfl rfl;split
 ·rename_i hg;split
  ·have h2:=qx s.c.t s.c.q 0;refine .cH (i1.head _) (nJ q1 (by simp) ?_);exact⟨by simp,by simp,hn,e0,λ_=>⟨h2.1,Int.le_trans h2.2 (by decide)⟩,by simp⟩
  ·rename_i hz;obtain⟨g0,a,r,g1,g2,g3,g4,g5,g6⟩:=u6 (by simpa using hz);rw[g2];refine nV.VF (c:={s.c with samples:=sat s.c.samples 4294967295,tab:=s.c.tab.dD s.c.p,beyond:=(n9 s.c.p s.c.beyond x).1}) (mW (s:=⟨_,s.sent,s.recs⟩) i1 ⟨g3,g4⟩ ⟨_,rfl⟩ g5 g6 (by simp) hn ?_) rfl rfl rfl rfl;refine .inr (.inl ⟨rfl,by simp,⟨a,r,g1,by simp[Tok.pass]⟩,?_⟩);simp;exact g0.symm
 split
 ·rename_i h0;split
  ·have h2:=pa s.c.p s.c.t 0 0 s.c.mode {jd 11 with epoch:=s.c.t.epoch,cls:=1};refine .cH (i1.head _) (nJ q1 (by simp) ?_);exact⟨by simp,by simp,hn,e0,λ_=>⟨h2.1,Int.le_trans h2.2 (by decide)⟩,by simp⟩
  ·refine .cH (Inv.head (c:={s.c with samples:=sat s.c.samples 4294967295,tab:=s.c.tab.dD s.c.p,beyond:=(n9 s.c.p s.c.beyond x).1,pt:=s.c.pt.set s.c.p 1 x.x ⟨1,0,sat s.c.samples 4294967295⟩}) ⟨i1.p,i1.tok,i1.q,i1.tab,i1.samples,i1.mode,i1.doors⟩ _) (nJ (q1.trans (Scene.aR rfl rfl rfl rfl)) (by simp) ?_);exact⟨by simp,by simp,hn,e0,by simp,by simp⟩
 split
 ·rename_i h0;split
  ·have h2:=lU s.c.t 0;refine .cH (i1.head _) (nJ q1 (by simp) ?_);exact⟨by simp,by simp,hn,e0,λ_=>⟨h2.1,Int.le_trans h2.2 (by decide)⟩,by simp⟩
  ·rename_i hz;obtain⟨g1,g2,g3,g4,g5⟩:=qt (by simpa using hz);rw[g1];refine⟨Inv.goes (s:=⟨_,s.sent,s.recs⟩) i1 (iB.pass h.p ⟨g2,g3⟩ (by have:=h.tok.epoch;omega)),.inr ⟨4,?_,.inr (.inr (.inr (.inl ⟨rfl,rfl,by simp[Tok.pass]⟩)))⟩⟩;exact q1.goes (Scene.ll (by simp[Tok.pass]) (by simpa[Tok.pass]using g4) rfl (.inl ⟨g5,rfl⟩) e0.1 (by simp) hn)
 ·exact .cH i1 q1
theorem Inv.vU {c:Core} (h:Inv c) {mo:Int} (hm:0<=mo/\mo<=4) (y:Label) (pt:Point):Inv {c with mode:=mo,bP:=y,pt:=pt}:=
 ⟨h.p,h.tok,h.q,h.tab,h.samples,hm,h.doors⟩
theorem gu {mo:Int} {y:Label}:Quiet C b s (s.dF mo y):=Scene.aR rfl rfl rfl rfl
def dC (s:Scene) (a:Ask):Scene:=({s with c:={s.c with q:=Q.drop s.c.q a.source}}:Scene).gone a.source 4 29
theorem vV {a:Ask}:Quiet C b s (dC s a):=
 Quiet.trans (t:=({s with c:={s.c with q:=Q.drop s.c.q a.source}}:Scene)) (Scene.aR rfl rfl rfl rfl) (Scene.fE (Scene.jI (by omega) (by omega)))
theorem l6 {a:Ask}:(dC s a).c={s.c with q:=Q.drop s.c.q a.source}:=by unfold dC;rw[Scene.gone_c]
theorem Inv.dC {a:Ask} (h:Inv s.c):Inv (Sd.dC s a).c:=by
 rw[l6];exact⟨h.p,h.tok,h.q.drop a.source (λx hx _=>(h.q.each x hx).2.2.2.2.1),h.tab,h.samples,h.mode,h.doors⟩
theorem m9 (q:List Ask):∀s:Scene,Inv s.c->Inv (q.foldl dC s).c/\Quiet C b s (q.foldl dC s)/\(q.foldl dC s).c.t=s.c.t/\(q.foldl dC s).c.tab=s.c.tab/\
 (∀x∈(q.foldl dC s).c.q,x∈s.c.q/\∀a∈q,x.source≠a.source)/\∃q',(q.foldl dC s).c={s.c with q:=q'}:=by
 induction q with
 |nil=>intro s h;exact⟨h,Quiet.refl ..,rfl,rfl,λx hx=>⟨hx,by simp⟩,s.c.q,rfl⟩
 |cons a q ih=>
  intro s h;obtain⟨h1,h2,h3,h4,h5,q',h6⟩:=ih (dC s a) h.dC;rw[l6]at h3 h4 h5 h6;refine⟨h1,vV.trans h2,h3,h4,λx hx=>?_,q',h6⟩;obtain⟨h7,h8⟩:=h5 x hx;simp only[Q.drop,List.mem_filter,decide_eq_true_eq]at h7;exact⟨h7.1,λy hy=>by
   rcases List.mem_cons.1 hy with rfl|hy
   ·exact h7.2
   ·exact h8 y hy⟩
theorem xU (bad:Bool) (hb:bad=true):s.h_ C bad=
 ((((if s.c.t.holder≠4 then(s.bb {s.c.t with bad:=bad}).goes C ({s.c.t with bad:=bad}:Tok).dJ 6 0 else(s.bb {s.c.t with bad:=bad}).bb ({s.c.t with bad:=bad}:Tok).dJ):Scene).c.q.foldl dC
   (if s.c.t.holder≠4 then(s.bb {s.c.t with bad:=bad}).goes C ({s.c.t with bad:=bad}:Tok).dJ 6 0 else(s.bb {s.c.t with bad:=bad}).bb ({s.c.t with bad:=bad}:Tok).dJ)).dF
    s.c.p.safe dN):=by
 unfold Scene.h_;rw[if_neg (by simp[hb])];dsimp only;congr 1;have:∀(q:List Ask) (s:Scene),(q.foldl dC s).c.p=s.c.p:=by
  intro q;induction q with
  |nil=>intro s;rfl
  |cons a q ih=>intro s;rw[List.foldl_cons,ih,l6]
 refine Eq.trans (congrArg Pol.safe (this _ _)) ?_;split<;>simp[Scene.bb]
theorem vW {bad:Bool} (h:Inv s.c):nV C b s (s.h_ C bad) 2 0:=by
 have e0:=h.eH;have he:=h.tok.epoch;have hh:=h.tok.holder;have i0:Inv {s.c with t:={s.c.t with bad:=bad}}:=⟨h.p,⟨h.tok.holder,h.tok.epoch,h.tok.offer,h.tok.lost⟩,h.q,h.tab,h.samples,h.mode,h.doors⟩;have q0:Quiet C b s (s.bb {s.c.t with bad:=bad}):=Scene.aR rfl rfl rfl rfl;cases bad
 ·exact .cH i0 q0
 rw[xU true rfl];split
 ·rename_i h4;have hs:sat s.c.t.epoch 65535=if s.c.t.epoch<65535 then s.c.t.epoch+1 else 65535:=rfl
  have et:({s.c.t with bad:=true}:Tok).dJ=Tok.pass {s.c.t with bad:=true} 4 (sat s.c.t.epoch 65535):=by simp[Tok.dJ,h4]
  rw[et];have i1:Inv ((s.bb {s.c.t with bad:=true}).goes C (Tok.pass {s.c.t with bad:=true} 4 (sat s.c.t.epoch 65535)) 6 0).c:=
   Inv.goes (s:=s.bb _) i0 (iB.pass h.p (by omega) (by show s.c.p.epoch<=_/\_;rw[hs];split<;>omega))
  obtain⟨h1,h2,h3,h5,h6,q',h7⟩:=m9 (C:=C) (b:=b) ((s.bb {s.c.t with bad:=true}).goes C (Tok.pass {s.c.t with bad:=true} 4 (sat s.c.t.epoch 65535)) 6 0).c.q _ i1;refine⟨h1.vU h.p.safe _ _,.inr ⟨6,?_,?_⟩⟩
  ·refine zx.quiet (Quiet.goes q0 (Scene.ll (by simp[Tok.pass]) (by simpa[Tok.pass,Scene.bb]using λe=>h4 e.symm) rfl ?_ e0.1 (by simp) (by simp))) (h2.trans gu) ?_
   ·show(s.c.t.epoch<65535/\sat s.c.t.epoch 65535=s.c.t.epoch+1)\/(s.c.t.epoch=65535/\sat s.c.t.epoch 65535=65535/\(6:Int)=6);rw[hs];split<;>omega
   ·show(Scene.dF _ _ _).c.t.offer=-1;simp only[Scene.dF];rw[h3];simp[Tok.pass]
  ·refine .inr (.inr (.inr (.inr (.inr ⟨rfl,?_,.inl ⟨rfl,?_⟩⟩))))
   ·simp only[Scene.dF];rw[h3];simp[Tok.pass]
   ·simp only[Scene.dF];rw[h3];simp[Tok.pass]
 ·rename_i h4;have h4':s.c.t.holder=4:=by simpa using h4
  have et:({s.c.t with bad:=true}:Tok).dJ=Tok.pass {s.c.t with bad:=true} 4 s.c.t.epoch:=by simp[Tok.dJ,h4']
  rw[et];have i1:Inv ((s.bb {s.c.t with bad:=true}).bb (Tok.pass {s.c.t with bad:=true} 4 s.c.t.epoch)).c:=
   ⟨h.p,iB.pass h.p (by omega) he,⟨λa ha=>by have:=h.q.each a ha;simpa[Tok.pass,Scene.bb,h4']using this,h.q.sorted,h.q.len⟩,h.tab,h.samples,h.mode,h.doors⟩
  obtain⟨h1,h2,h3,h5,h6,q',h7⟩:=m9 (C:=C) (b:=b) ((s.bb {s.c.t with bad:=true}).bb (Tok.pass {s.c.t with bad:=true} 4 s.c.t.epoch)).c.q _ i1;refine .cH (h1.vU h.p.safe _ _) ?_;exact Quiet.trans (Quiet.trans (t:=(s.bb {s.c.t with bad:=true}).bb (Tok.pass {s.c.t with bad:=true} 4 s.c.t.epoch)) (Scene.aR (by simp[Tok.pass,h4']) rfl rfl rfl) h2) gu
def gV (C:Crypt) (s:Scene) (x:Int):Scene:=let s:=s.record C 5 x 0 0 0;if linked x then s.leave C x else s
def Aw (q:List Ask) (xs:List Int):List Ask:=xs.foldl (λq x=>if linked x then Q.drop q x else q) q
def lz (t:Tok) (xs:List Int):Tok:=xs.foldl (λt x=>if linked x then(t.drop x).1 else t) t
theorem C2 (C:Crypt) (s:Scene) (x:Int):∃hd,(gV C s x).c={s.c with q:=Aw s.c.q [x],t:=lz s.c.t [x],head:=hd}:=by
 unfold gV Aw lz;simp only[List.foldl_cons,List.foldl_nil];split
 ·obtain⟨hd,e⟩:=zC C (s.record C 5 x 0 0 0) x;exact⟨hd,by rw[e];rfl⟩
 ·exact⟨_,rfl⟩
theorem Ax {x:Int} (hx:0<=x/\x<=3) (he:0<=s.c.t.epoch/\s.c.t.epoch<=65535):Quiet C b s (gV C s x):=by
 unfold gV;have q1:Quiet C b s (s.record C 5 x 0 0 0):=Scene.bS (by simp) ⟨by simp,by simp;omega,by simp,he,by simp,by simp⟩;dsimp only;split
 ·rename_i h;simp[linked]at h;exact q1.trans (sV (by omega) he)
 ·exact q1
theorem Inv.gV {T:Tab} {x:Int} (hx:0<=x/\x<=3) (h:Inv {s.c with tab:=T}):Inv {(Sd.gV C s x).c with tab:=T}:=by
 unfold Sd.gV;dsimp only;split
 ·rcases Inv.leave (C:=C) (s:=s.record C 5 x 0 0 0) (T:=T) (x:=x) (h.head _)with⟨h1,_⟩|h1
  ·exact h1
  ·omega
 ·exact h.head _
theorem vX (xs:List Int):∀t:Tok,(lz t xs).holder=t.holder/\(lz t xs).epoch=t.epoch/\(lz t xs).la=t.la/\(lz t xs).bad=t.bad/\
 (((lz t xs)=t/\∀x∈xs,linked x=true->t.offer≠x)\/(lz t xs=t.bG/\t.offer∈xs)\/t.offer=-1/\lz t xs=t):=by
 induction xs with
 |nil=>intro t;exact⟨rfl,rfl,rfl,rfl,.inl ⟨rfl,by simp⟩⟩
 |cons x xs ih=>
  intro t;unfold lz;simp only[List.foldl_cons];by_cases hl:linked x=true
  ·simp only[hl,if_true];have hd:=qy t x;obtain⟨h1,h2,h3,h4,h5⟩:=ih (t.drop x).1;unfold lz at h1 h2 h3 h4 h5;refine⟨h1.trans hd.1,h2.trans hd.2.1,h3.trans hd.2.2.1,h4.trans hd.2.2.2.1,?_⟩;have hx:1<=x:=by simp[linked]at hl;exact hl.1
   rcases hd.2.2.2.2 with⟨e,_,e2⟩|⟨e,_,e2⟩
   ·rw[e]at h5⊢;rcases h5 with⟨h5,h6⟩|⟨h5,h6⟩|⟨h5,h6⟩
    ·refine .inl ⟨h5,λy hy hyl=>?_⟩;rcases List.mem_cons.1 hy with rfl|hy
     ·omega
     ·exact h6 y hy hyl
    ·exact .inr (.inl ⟨h5,by simp[h6]⟩)
    ·exact .inr (.inr ⟨h5,h6⟩)
   ·rw[e]at h5⊢;refine .inr (.inl ⟨?_,by simp[e2]⟩);rcases h5 with⟨h5,h6⟩|⟨h5,h6⟩|⟨h5,h6⟩
    ·exact h5
    ·rw[h5];rfl
    ·exact h6
  ·simp only[hl];obtain⟨h1,h2,h3,h4,h5⟩:=ih t;unfold lz at h1 h2 h3 h4 h5;refine⟨h1,h2,h3,h4,?_⟩;rcases h5 with⟨h5,h6⟩|⟨h5,h6⟩|⟨h5,h6⟩
   ·refine .inl ⟨h5,λy hy hyl=>?_⟩;rcases List.mem_cons.1 hy with rfl|hy
    ·exact absurd hyl hl
    ·exact h6 y hy hyl
   ·exact .inr (.inl ⟨h5,by simp[h6]⟩)
   ·exact .inr (.inr ⟨h5,h6⟩)
theorem PN (xs:List Int):∀(q:List Ask) (a:Ask),a∈Aw q xs↔a∈q/\∀x∈xs,linked x=true->a.source≠x:=by
 induction xs with
 |nil=>intro q a;simp[Aw]
 |cons x xs ih=>
  intro q a;have:=ih (if linked x then Q.drop q x else q) a;unfold Aw at*;simp only[List.foldl_cons];rw[this];by_cases hl:linked x=true
  ·simp[hl,Q.drop,and_assoc]
  ·simp[hl]
theorem Kj (xs:List Int):∀(s:Scene) (T:Tab),(∀x∈xs,0<=x/\x<=3)->Inv {s.c with tab:=T}->
 Inv {(xs.foldl (gV C) s).c with tab:=T}/\Quiet C b s (xs.foldl (gV C) s)/\∃hd,(xs.foldl (gV C) s).c={s.c with q:=Aw s.c.q xs,t:=lz s.c.t xs,head:=hd}:=by
 induction xs with
 |nil=>intro s T _ h;exact⟨h,Quiet.refl ..,s.c.head,rfl⟩
 |cons x xs ih=>
  intro s T hx h;have hx0:=hx x (by simp);have e0:0<=s.c.t.epoch/\s.c.t.epoch<=65535:=Inv.eH (c:={s.c with tab:=T}) h;obtain⟨h1,h2,hd,h3⟩:=ih (gV C s x) T (λy hy=>hx y (by simp[hy])) (h.gV hx0);obtain⟨hd1,h4⟩:=C2 C s x;refine⟨h1,(Ax hx0 e0).trans h2,hd,?_⟩;simp only[List.foldl_cons];rw[h3,h4];rfl
theorem nK {t:Timer} {m:Int} (h:t.most=m/\0<=t.n/\t.n<m):t.step=⟨t.n+1,m⟩/\(t.step.due=true↔t.n+1=m):=by
 obtain⟨h1,h2,h3⟩:=h;have:t.step=⟨t.n+1,m⟩:=by unfold Timer.step sat;rw[if_pos (by omega),h1]
 rw[this];refine⟨rfl,?_⟩;simp[Timer.due];omega
theorem FR {p:Pol} {t:Tab} (hp:cP p) (h:xk p t):xk p t.tick:=by
 have hb:=hp.bU;constructor
 ·intro ho;unfold Tab.tick at*;dsimp only at*;split at ho
  ·rename_i h1;rw[if_pos h1];obtain⟨h2,h3⟩:=nK (h.aF h1);split at ho
   ·cases ho
   ·rename_i h4;rw[if_neg h4,h2];have:=h.aF h1;simp at h4;have:t.aF.2.n+1≠p.bU:=λe=>by rw[h3.2 e]at h4;cases h4
    dsimp only;omega
  ·rename_i h1;exact absurd ho h1
 ·intro i hi ho;unfold Tab.tick at*;dsimp only at*;split at ho
  ·rename_i h1;rw[if_pos h1];have h0:=h.aE i hi h1;obtain⟨h2,h3⟩:=nK (m:=p.bU) ⟨h0.1,h0.2.1,h0.2.2.1⟩;split at ho
   ·cases ho
   ·rename_i h4;rw[if_neg h4];dsimp only;rw[h2];simp at h4;have:(t.aE i).aP.n+1≠p.bU:=λe=>by rw[h3.2 e]at h4;cases h4
    dsimp only;omega
  ·rename_i h1;exact absurd ho h1
theorem Kk {t:Tab} {x:Int} (h:x∈t.ended):0<=x/\x<=3:=by
 unfold Tab.ended at h;simp only[List.mem_append]at h;rcases h with((h|h)|h)|h<;>split at h<;>simp at h<;>omega
theorem HV {t:Tab} {x:Int} (hx:1<=x/\x<=3) (h:t.on x=true) (hn:x∉t.ended):t.tick.on x=true:=by
 have e:x=1\/x=2\/x=3:=by omega
 rw[zF hx]at*;unfold Tab.fw Tab.tick at*;rcases e with rfl|rfl|rfl<;>simp[Tab.ended,Tab.dE]at*<;>simp[h]<;>simp[h]at hn<;>simp[hn,h]
theorem PO {q:List Ask} {a:Ask} (h:a∈Q.kept q):∃x∈q,a={x with gF:=x.gF.step}/\a.gF.due=false:=by
 unfold Q.kept Q.pS at h;simp only[List.mem_filter,List.mem_map]at h;obtain⟨⟨x,hx,rfl⟩,h2⟩:=h;exact⟨x,hx,rfl,by simpa using h2⟩
theorem PQ {q:List Ask} {a:Ask} (h:a∈Q.gone q):∃x∈q,a={x with gF:=x.gF.step}/\a.gF.due=true:=by
 unfold Q.gone Q.pS at h;simp only[List.mem_filter,List.mem_map]at h;obtain⟨⟨x,hx,rfl⟩,h2⟩:=h;exact⟨x,hx,rfl,by simpa using h2⟩
theorem IG.kept {p:Pol} {t:Tab} {h:Int} {q:List Ask} (k:IG p t h q):IG p t h (Q.kept q) where
 each:=by
  intro a ha;obtain⟨x,hx,rfl,hd⟩:=PO ha;obtain⟨a1,a2,a3,a4,a5,a6,a7,a8⟩:=k.each x hx;obtain⟨e1,e2⟩:=nK ⟨a6,a7,a8⟩;refine⟨a1,a2,a3,a4,a5,by dsimp only;rw[e1],by dsimp only;rw[e1];dsimp only;omega,?_⟩;dsimp only at*;rw[e1];have:x.gF.n+1≠p.ask:=λe=>by rw[e2.2 e]at hd;cases hd
  dsimp only;omega
 sorted:=by
  unfold Q.kept Q.pS;refine List.Pairwise.filter _ ?_;rw[List.pairwise_map];exact k.sorted
 len:=by
  have:=List.length_filter_le (λa:Ask=>!a.gF.due) (Q.pS q);have h2:=k.len;unfold Q.kept;simp only[Q.pS,List.length_map]at*;omega
def km (C:Crypt) (s:Scene) (a:Ask):Scene:=(s.gone a.source a.source 30).record C 12 a.source 0 30 0
theorem FT (q:List Ask):∀s:Scene,(∀a∈q,1<=a.source/\a.source<=3)->0<=s.c.t.epoch/\s.c.t.epoch<=65535->
 Quiet C b s (q.foldl (km C) s)/\∃hd,(q.foldl (km C) s).c={s.c with head:=hd}:=by
 induction q with
 |nil=>intro s _ _;exact⟨Quiet.refl ..,s.c.head,rfl⟩
 |cons a q ih=>
  intro s hq he;have ha:=hq a (by simp);have e1:(km C s a).c={s.c with head:=C.next s.c.head ⟨12,a.source,0,s.c.t.epoch,30,0⟩}:=by
   unfold km;rw[show∀(y:Scene) (k a n e w:Int),(y.record C k a n e w).c={y.c with head:=C.next y.c.head ⟨k,a,n,y.c.t.epoch,e,w⟩}from λ_ _ _ _ _ _=>rfl,Scene.gone_c]
  have q1:Quiet C b s (km C s a):=by
   refine Quiet.trans (Scene.fE (Scene.jI (by omega) (by omega))) (Scene.bS (by simp) ?_);refine⟨by simp,by dsimp only;omega,by simp,?_,by simp,by simp⟩;dsimp only;rw[Scene.hear_c];exact he
  obtain⟨h1,hd,h2⟩:=ih (km C s a) (λx hx=>hq x (by simp[hx])) (by rw[e1];exact he);refine⟨q1.trans h1,hd,?_⟩;simp only[List.foldl_cons];rw[h2,e1]
theorem PR {p:Pol} {tab:Tab} {t:Tok} (h:iB p tab t):t.tick.1.holder=t.holder/\t.tick.1.epoch=t.epoch/\t.tick.1.la=t.la/\t.tick.1.bad=t.bad/\
 iB p tab t.tick.1/\((t.tick.2=-1/\t.tick.1.offer=t.offer)\/(t.tick.2=t.offer/\1<=t.offer/\t.offer<=3/\t.tick.1.offer=-1)):=by
 unfold Tok.tick;rcases h.offer with ho|⟨o1,o2,o3,o4,o5,o6,o7⟩
 ·rw[if_pos (by omega)];exact⟨rfl,rfl,rfl,rfl,h,.inl ⟨rfl,rfl⟩⟩
 ·rw[if_neg (by omega)];obtain⟨e1,e2⟩:=nK ⟨o5,o6,o7⟩;split
  ·exact⟨rfl,rfl,rfl,rfl,⟨h.holder,h.epoch,.inl rfl,h.lost⟩,.inr ⟨rfl,o1,o2,rfl⟩⟩
  ·rename_i hd;refine⟨rfl,rfl,rfl,rfl,⟨h.holder,h.epoch,.inr ⟨o1,o2,o3,o4,?_⟩,h.lost⟩,.inl ⟨rfl,rfl⟩⟩;have:t.oa.n+1≠p.offer:=λe=>hd (e2.2 e);dsimp only;rw[e1];dsimp only;omega
inductive C3 (p:Pol) (t:Tok) (q:List Ask) (there:Bool):Tok->Int->List Ask->Prop
 |here (h:t.holder=4\/there=true):C3 p t q there {t with la:=.zero} 0 q
 |afd (la:Timer) (h1:t.holder≠4) (h2:there=false) (hm:la.most=p.dg) (hn:la.n=t.la.n+1) (im:la.n<p.dg):C3 p t q there {t with la:=la} 0 q
 |safe (h1:t.holder≠4) (h2:there=false) (hn:t.la.n+1=p.dg) (he:t.epoch=65535):C3 p t q there (t.pass 4 65535) 6 q
 |first (a:Ask) (l:List Ask) (h1:t.holder≠4) (h2:there=false) (hn:t.la.n+1=p.dg) (he:t.epoch<65535) (hq:q=a::l):C3 p t q there (t.pass a.source (t.epoch+1)) 5 (Q.drop q a.source)
 |none (h1:t.holder≠4) (h2:there=false) (hn:t.la.n+1=p.dg) (he:t.epoch<65535) (hq:q=[]):C3 p t q there (t.pass 4 (t.epoch+1)) 5 q
theorem Kl {p:Pol} {tab:Tab} {t:Tok} {q:List Ask} {there:Bool} (hp:cP p) (h:iB p tab t) (hq:IG p tab t.holder q):
 C3 p t q there (bM p t q there).1 (bM p t q there).2.1 (bM p t q there).2.2:=by
 unfold bM;have hb:=hp.dg;split
 ·rename_i h1;exact .here h1
 rename_i h1;have h1a:t.holder≠4:=λe=>h1 (.inl e);have h1b:there=false:=by
  cases there
  ·rfl
  ·exact absurd (.inr rfl) h1
 have Lj:∃la:Timer,(if t.la.most=0 then Timer.start p.dg else t.la).step=la/\la.most=p.dg/\la.n=t.la.n+1/\(la.due=true↔t.la.n+1=p.dg):=by
  rcases h.lost with⟨l1,l2⟩|⟨l1,l2,l3⟩
  ·rw[if_pos l1];obtain⟨e1,e2⟩:=nK (t:=Timer.start p.dg) (m:=p.dg) (by simp[Timer.start];omega);have e0:(Timer.start p.dg).n=0:=rfl;refine⟨_,rfl,by rw[e1],by rw[e1,e0,l2],?_⟩;rw[e2,e0,l2]
  ·rw[if_neg (by omega)];obtain⟨e1,e2⟩:=nK ⟨l1,l2,l3⟩;exact⟨_,rfl,by rw[e1],by rw[e1],e2⟩
 obtain⟨la,e0,e1,e2,e3⟩:=Lj;simp only[e0];split
 ·rename_i hd;refine .afd la h1a h1b e1 e2 ?_;have fc:t.la.n+1≠p.dg:=λe=>by rw[e3.2 e]at hd;cases hd
  rcases h.lost with⟨l1,l2⟩|⟨l1,l2,l3⟩<;>omega
 rename_i hd;have hn:t.la.n+1=p.dg:=e3.1 (by simpa using hd);have he:=h.epoch;split
 ·rename_i h6;have h6':t.epoch=65535:=by omega
  have:({t with la:=la}:Tok).dJ=t.pass 4 65535:=by
   simp only[Tok.dJ,Tok.pass];rw[if_pos h1a,h6'];rfl
  rw[this];exact .safe h1a h1b hn h6'
 rename_i h6;have im:t.epoch<65535:=by omega
 have g4:({t with la:=la}:Tok).bz 4=(t.pass 4 (t.epoch+1),0):=by
  unfold Tok.bz;rw[if_neg (by omega),if_neg (λe=>h1a e.symm),if_neg (by dsimp only;omega)];rfl
 cases q with
 |nil=>
  have:(bg ({t with la:=la}:Tok) []).2.1≠0:=by simp[bg]
  rw[if_pos this,g4];exact .none h1a h1b hn im rfl
 |cons a r=>
  have ha:=hq.each a (by simp);have ga:({t with la:=la}:Tok).bz a.source=(t.pass a.source (t.epoch+1),0):=by
   unfold Tok.bz;rw[if_neg (by omega),if_neg ha.2.2.2.2.1,if_neg (by dsimp only;omega)];rfl
  have e:bg ({t with la:=la}:Tok) (a::r)=(t.pass a.source (t.epoch+1),0,Q.drop (a::r) a.source):=by
   unfold bg;simp only[ga];rw[if_neg (by simp)]
  rw[e,if_neg (by simp)];exact .first a r h1a h1b hn im rfl
theorem PS (h:Inv s.c):nV C b s (s.dg C) 3 0/\(s.dg C).c.tab=s.c.tab/\(s.dg C).c.p=s.c.p/\
 C3 s.c.p s.c.t s.c.q (s.c.tab.on s.c.t.holder) (s.dg C).c.t (bM s.c.p s.c.t s.c.q (s.c.tab.on s.c.t.holder)).2.1 (s.dg C).c.q/\
 ((bM s.c.p s.c.t s.c.q (s.c.tab.on s.c.t.holder)).2.1=5->(s.dg C).c.mode=s.c.p.lost/\(s.dg C).c.bP=⟨3,4,0⟩/\(s.dg C).c.pt=s.c.pt.hold ⟨3,4,0⟩)/\
 ((bM s.c.p s.c.t s.c.q (s.c.tab.on s.c.t.holder)).2.1=0->(s.dg C).c.mode=s.c.mode/\(s.dg C).c.bP=s.c.bP/\(s.dg C).c.pt=s.c.pt):=by
 have e0:=h.eH;have he:=h.tok.epoch;have hh:=h.tok.holder;have hb:=h.p.dg;have hL:=Kl (there:=s.c.tab.on s.c.t.holder) h.p h.tok h.q;unfold Scene.dg;dsimp only;generalize ht:(bM s.c.p s.c.t s.c.q (s.c.tab.on s.c.t.holder)).1=t at hL⊢;generalize hw:(bM s.c.p s.c.t s.c.q (s.c.tab.on s.c.t.holder)).2.1=how at hL⊢;generalize hq:(bM s.c.p s.c.t s.c.q (s.c.tab.on s.c.t.holder)).2.2=q at hL⊢;have hL':=hL;cases hL with
 |here h1=>
  rw[if_pos (by omega)];refine⟨.cH ⟨h.p,⟨h.tok.holder,h.tok.epoch,h.tok.offer,.inl ⟨rfl,rfl⟩⟩,h.q,h.tab,h.samples,h.mode,h.doors⟩ (Scene.aR rfl rfl rfl rfl),rfl,rfl,hL',by simp,λ_=>⟨rfl,rfl,rfl⟩⟩
 |afd la h1 h2 hm hn im=>
  rw[if_pos (by omega)];have:0<=la.n:=by rcases h.tok.lost with⟨_,l2⟩|⟨_,l2,_⟩<;>omega
  refine⟨.cH ⟨h.p,⟨h.tok.holder,h.tok.epoch,h.tok.offer,.inr ⟨hm,this,im⟩⟩,h.q,h.tab,h.samples,h.mode,h.doors⟩ (Scene.aR rfl rfl rfl rfl),rfl,rfl,hL',by simp,λ_=>⟨rfl,rfl,rfl⟩⟩
 |safe h1 h2 hn h6=>
  rw[if_neg (by omega),if_neg (by omega)];have i1:Inv (Scene.goes C ({s with c:={s.c with q:=s.c.q}}:Scene) (s.c.t.pass 4 65535) 6 0).c:=Inv.goes (s:=s) h (iB.pass h.p (by omega) (by omega));have hd:Q.drop s.c.q 4=s.c.q:=by
   unfold Q.drop;rw[List.filter_eq_self];intro a ha;have:=(h.q.each a ha).2.2.1;simp;omega
  have eq2:(Scene.goes C ({s with c:={s.c with q:=s.c.q}}:Scene) (s.c.t.pass 4 65535) 6 0).c.q=s.c.q:=by
   rw[Scene.goes_q];exact hd
  refine⟨⟨i1.vU (by simpa using h.p.safe) _ _,.inr ⟨6,?_,?_⟩⟩,by simp[Scene.dF],by simp[Scene.dF],?_,by simp,by simp⟩
  ·refine zx.quiet (Scene.ll (s:=s) (by simp[Tok.pass]) (by simpa[Tok.pass]using λe=>h1 e.symm) rfl (.inr ⟨h6,rfl,rfl⟩) e0.1 (by simp) (by simp)) gu ?_;simp[Scene.dF,Tok.pass]
  ·refine .inr (.inr (.inr (.inr (.inr ⟨rfl,by simp[Scene.dF,Tok.pass],.inr ⟨rfl,h6,?_⟩⟩))));simpa[Scene.dF]using h2
  ·have e1:(Scene.dF (Scene.goes C ({s with c:={s.c with q:=s.c.q}}:Scene) (s.c.t.pass 4 65535) 6 0) (Scene.goes C ({s with c:={s.c with q:=s.c.q}}:Scene) (s.c.t.pass 4 65535) 6 0).c.p.safe dN).c.t=s.c.t.pass 4 65535:=by simp[Scene.dF]
   rw[e1];have e2:(Scene.dF (Scene.goes C ({s with c:={s.c with q:=s.c.q}}:Scene) (s.c.t.pass 4 65535) 6 0) (Scene.goes C ({s with c:={s.c with q:=s.c.q}}:Scene) (s.c.t.pass 4 65535) 6 0).c.p.safe dN).c.q=s.c.q:=eq2;rw[e2];exact hL'
 |first a r h1 h2 hn im hqa=>
  rw[if_neg (by omega),if_pos rfl];have ha:=h.q.each a (by rw[hqa];simp);obtain⟨g1,g2⟩:=mW (C:=C) (b:=b) (s:=s) (kind:=3) (link:=0) (how:=5) (n:=0) (f:=a.source) (q:=Q.drop s.c.q a.source) h (by omega) ⟨_,rfl⟩ ha.2.2.2.2.1 im (by simp) (by simp)
   (.inr (.inr (.inr (.inr (.inl ⟨rfl,rfl,by simpa using h2,by simpa[Tok.pass]using ha.2.2.2.1⟩)))))
  have hdd:Q.drop (Q.drop s.c.q a.source) a.source=Q.drop s.c.q a.source:=by
   unfold Q.drop;rw[List.filter_filter];congr 1;funext x;simp
  have eq2:(Scene.goes C ({s with c:={s.c with q:=Q.drop s.c.q a.source}}:Scene) (s.c.t.pass a.source (s.c.t.epoch+1)) 5 0).c.q=Q.drop s.c.q a.source:=by
   rw[Scene.goes_q];exact hdd
  generalize hX:Scene.goes C ({s with c:={s.c with q:=Q.drop s.c.q a.source}}:Scene) (s.c.t.pass a.source (s.c.t.epoch+1)) 5 0=X at g1 g2 eq2;have eX:X.c.t=s.c.t.pass a.source (s.c.t.epoch+1)/\X.c.p=s.c.p/\X.c.tab=s.c.tab:=by subst hX;simp
  have ept:X.c.pt=s.c.pt:=by
   subst hX;obtain⟨x,e⟩:=Scene.zz C ({s with c:={s.c with q:=Q.drop s.c.q a.source}}:Scene) (s.c.t.pass a.source (s.c.t.epoch+1)) 5 0;rw[e]
  refine⟨⟨g1.vU (by rw[eX.2.1];exact h.p.lost) _ _,?_⟩,by simp[Scene.dF,eX],by simp[Scene.dF,eX],by simpa[Scene.dF,eX,eq2]using hL',λ_=>⟨by simp[Scene.dF,eX],rfl,by simp[Scene.dF,ept]⟩,by simp⟩;rcases g2 with g2|⟨how,g2,g3⟩
  ·exact .inl (g2.trans gu)
  ·exact .inr ⟨how,g2.quiet gu (by simp[Scene.dF,eX,Tok.pass]),by simpa[xF,Scene.dF]using g3⟩
 |none h1 h2 hn im hqa=>
  rw[if_neg (by omega),if_pos rfl];have hq0:s.c.q=Q.drop s.c.q 4:=by rw[hqa];rfl
  obtain⟨g1,g2⟩:=mW (C:=C) (b:=b) (s:=s) (kind:=3) (link:=0) (how:=5) (n:=0) (f:=4) (q:=s.c.q) h (by omega) ⟨4,hq0⟩ (λe=>h1 e.symm) im (by simp) (by simp)
   (.inr (.inr (.inr (.inr (.inl ⟨rfl,rfl,by simpa using h2,by simp[Tok.pass,Tab.on]⟩)))))
  have eq2:(Scene.goes C ({s with c:={s.c with q:=s.c.q}}:Scene) (s.c.t.pass 4 (s.c.t.epoch+1)) 5 0).c.q=s.c.q:=by
   rw[Scene.goes_q];exact hq0.symm
  generalize hX:Scene.goes C ({s with c:={s.c with q:=s.c.q}}:Scene) (s.c.t.pass 4 (s.c.t.epoch+1)) 5 0=X at g1 g2 eq2;have eX:X.c.t=s.c.t.pass 4 (s.c.t.epoch+1)/\X.c.p=s.c.p/\X.c.tab=s.c.tab:=by subst hX;simp
  have ept:X.c.pt=s.c.pt:=by
   subst hX;obtain⟨x,e⟩:=Scene.zz C ({s with c:={s.c with q:=s.c.q}}:Scene) (s.c.t.pass 4 (s.c.t.epoch+1)) 5 0;rw[e]
  refine⟨⟨g1.vU (by rw[eX.2.1];exact h.p.lost) _ _,?_⟩,by simp[Scene.dF,eX],by simp[Scene.dF,eX],by simpa[Scene.dF,eX,eq2]using hL',λ_=>⟨by simp[Scene.dF,eX],rfl,by simp[Scene.dF,ept]⟩,by simp⟩;rcases g2 with g2|⟨how,g2,g3⟩
  ·exact .inl (g2.trans gu)
  ·exact .inr ⟨how,g2.quiet gu (by simp[Scene.dF,eX,Tok.pass]),by simpa[xF,Scene.dF]using g3⟩
structure Mid (c c':Core):Prop where
 inv:Inv c'
 p:c'.p=c.p
 tab:c'.tab=c.tab.tick
 holder:c'.t.holder=c.t.holder
 epoch:c'.t.epoch=c.t.epoch
 la:c'.t.la=c.t.la
 bad:c'.t.bad=c.t.bad
 q:c'.q=Q.kept (Aw c.q c.tab.ended)
 offer:c'.t.offer=(lz c.t c.tab.ended).tick.1.offer
 mode:c'.mode=c.mode/\c'.bP=c.bP/\c'.pt=c.pt
 rest:c'.samples=c.samples/\c'.beyond=c.beyond/\c'.doors=c.doors
def lA (C:Crypt) (s:Scene):Scene:=s.c.tab.ended.foldl (gV C) ({s with c:={s.c with tab:=s.c.tab.tick}}:Scene)
def lB (C:Crypt) (s:Scene):Scene:=
 let s2:=s.bb s.c.t.tick.1
 if 0<=s.c.t.tick.2 then(s2.gone s.c.t.tick.1.holder s.c.t.tick.2 30).record C 12 s.c.t.tick.2 0 30 0 else s2
def rf (C:Crypt) (s:Scene):Scene:=(Q.gone s.c.q).foldl (km C) ({s with c:={s.c with q:=Q.kept s.c.q}}:Scene)
theorem tZ (C:Crypt) (s:Scene):s.tick C=(let s6:=(rf C (lB C (lA C s))).dg C;{s6 with c:={s6.c with pt:=s6.c.pt.step s6.c.p}}):=rfl
theorem PT (h:Inv s.c):Quiet C b s (rf C (lB C (lA C s)))/\Mid s.c (rf C (lB C (lA C s))).c:=by
 have e0:=h.eH;obtain⟨a1,a2,hd1,a3⟩:=Kj (C:=C) (b:=b) s.c.tab.ended ({s with c:={s.c with tab:=s.c.tab.tick}}:Scene) s.c.tab (λx hx=>Kk hx) h;have q1:Quiet C b s (lA C s):=Quiet.trans (t:=({s with c:={s.c with tab:=s.c.tab.tick}}:Scene)) (Scene.aR rfl rfl rfl rfl) a2;have i1:Inv (lA C s).c:=by
  have e3:(lA C s).c={s.c with tab:=s.c.tab.tick,q:=Aw s.c.q s.c.tab.ended,t:=lz s.c.t s.c.tab.ended,head:=hd1}:=a3;refine Inv.rW (T:=s.c.tab.tick) (Inv.Hk (T:=s.c.tab) a1 (by rw[e3];exact FR h.p h.tab) ?_ ?_) (by rw[e3])
  ·rw[e3];intro x hx;obtain⟨RA,YF⟩:=(PN _ _ _).1 hx;have:=h.q.each x RA;refine HV ⟨this.2.1,this.2.2.1⟩ this.2.2.2.1 (λhm=>YF x.source hm ?_ rfl);simp[linked];omega
  ·rw[e3];intro ho;have hf:=vX s.c.tab.ended s.c.t;show s.c.tab.tick.on (lz s.c.t s.c.tab.ended).offer=true;have wL:0<=(lz s.c.t s.c.tab.ended).offer:=ho;rcases hf.2.2.2.2 with⟨e,fc⟩|⟨e,_⟩|⟨e,e'⟩
   ·rw[e]at wL⊢;rcases h.tok.offer with h1|⟨h1,h2,_,h3,_⟩
    ·omega
    ·refine HV ⟨h1,h2⟩ h3 (λhm=>fc _ hm ?_ rfl);simp[linked];omega
   ·rw[e]at wL;simp[Tok.bG]at wL
   ·rw[e',e]at wL;omega
 have e1:(lA C s).c={s.c with tab:=s.c.tab.tick,q:=Aw s.c.q s.c.tab.ended,t:=lz s.c.t s.c.tab.ended,head:=hd1}:=a3;have hf:=vX s.c.tab.ended s.c.t;generalize lA C s=s1 at*;have e10:=i1.eH;have hk:=PR i1.tok;have i2:Inv {s1.c with t:=s1.c.t.tick.1}:=⟨i1.p,hk.2.2.2.2.1,by show IG _ _ s1.c.t.tick.1.holder _;rw[hk.1];exact i1.q,i1.tab,i1.samples,i1.mode,i1.doors⟩;have q2:Quiet C b s1 (lB C s1)/\∃hd,(lB C s1).c={s1.c with t:=s1.c.t.tick.1,head:=hd}:=by
  have q20:Quiet C b s1 (s1.bb s1.c.t.tick.1):=Scene.aR hk.1 hk.2.1 rfl rfl;unfold lB;dsimp only;split
  ·rename_i hw;have hw':1<=s1.c.t.tick.2/\s1.c.t.tick.2<=3:=by rcases hk.2.2.2.2.2 with⟨e,_⟩|⟨e,_,_,_⟩<;>omega
   refine⟨q20.trans (Quiet.trans (Scene.fE (Scene.jI (by omega) (by omega))) (Scene.bS (by simp) ?_)),?_⟩
   ·refine⟨by simp,by dsimp only;omega,by simp,?_,by simp,by simp⟩;dsimp only;rw[Scene.hear_c];show 0<=s1.c.t.tick.1.epoch/\s1.c.t.tick.1.epoch<=65535;rw[hk.2.1];exact e10
   ·refine⟨C.next s1.c.head ⟨12,s1.c.t.tick.2,0,s1.c.t.tick.1.epoch,30,0⟩,?_⟩;rw[show∀(y:Scene) (k a n e w:Int),(y.record C k a n e w).c={y.c with head:=C.next y.c.head ⟨k,a,n,y.c.t.epoch,e,w⟩}from λ_ _ _ _ _ _=>rfl,Scene.gone_c];rfl
  ·exact⟨q20,s1.c.head,rfl⟩
 obtain⟨q2,hd2,e2⟩:=q2;have VG:Inv (lB C s1).c:=by rw[e2];exact i2.head _
 generalize lB C s1=s2 at*;have e20:=VG.eH;obtain⟨a4,hd3,e3⟩:=FT (C:=C) (b:=b) (Q.gone s2.c.q) ({s2 with c:={s2.c with q:=Q.kept s2.c.q}}:Scene)
  (λa ha=>by
   obtain⟨x,hx,rfl,_⟩:=PQ ha;have:=VG.q.each x hx;exact⟨this.2.1,this.2.2.1⟩) e20
 have q3:Quiet C b s2 (rf C s2):=Quiet.trans (t:=({s2 with c:={s2.c with q:=Q.kept s2.c.q}}:Scene)) (Scene.aR rfl rfl rfl rfl) a4;have PU:(rf C s2).c={s2.c with q:=Q.kept s2.c.q,head:=hd3}:=e3;have i3:Inv (rf C s2).c:=by
  rw[PU];exact⟨VG.p,VG.tok,VG.q.kept,VG.tab,VG.samples,VG.mode,VG.doors⟩
 refine⟨q1.trans (q2.trans q3),i3,?_,?_,?_,?_,?_,?_,?_,?_,?_,?_⟩
 ·rw[PU,e2,e1]
 ·rw[PU,e2,e1]
 ·rw[PU,e2];show s1.c.t.tick.1.holder=_;rw[hk.1,e1];exact hf.1
 ·rw[PU,e2];show s1.c.t.tick.1.epoch=_;rw[hk.2.1,e1];exact hf.2.1
 ·rw[PU,e2];show s1.c.t.tick.1.la=_;rw[hk.2.2.1,e1];exact hf.2.2.1
 ·rw[PU,e2];show s1.c.t.tick.1.bad=_;rw[hk.2.2.2.1,e1];exact hf.2.2.2.1
 ·rw[PU,e2,e1]
 ·rw[PU,e2,e1]
 ·rw[PU,e2,e1];exact⟨rfl,rfl,rfl⟩
 ·rw[PU,e2,e1];exact⟨rfl,rfl,rfl⟩
structure abo (c m c':Core) (how:Int):Prop where
 p:c'.p=c.p
 tab:c'.tab=c.tab.tick
 lost:C3 c.p m.t m.q (m.tab.on m.t.holder) c'.t how c'.q
 aci:how=5->c'.mode=c.p.lost/\c'.bP=⟨3,4,0⟩/\c'.pt=(c.pt.hold ⟨3,4,0⟩).step c.p
 stays:how=0->c'.mode=c.mode/\c'.bP=c.bP/\c'.pt=c.pt.step c.p
theorem C4 (h:Inv s.c):nV C b s (s.tick C) 3 0/\∃m how,Mid s.c m/\abo s.c m (s.tick C).c how:=by
 obtain⟨q3,hm⟩:=PT (C:=C) (b:=b) h;rw[tZ];generalize rf C (lB C (lA C s))=s3 at*;obtain⟨⟨i4,w4⟩,t4,p4,l4,r4,gz⟩:=PS (C:=C) (b:=b) hm.inv;generalize hs4:s3.dg C=s4 at*;dsimp only;have i5:Inv {s4.c with pt:=s4.c.pt.step s4.c.p}:=⟨i4.p,i4.tok,i4.q,i4.tab,i4.samples,i4.mode,i4.doors⟩;have q5:Quiet C b s4 ({s4 with c:={s4.c with pt:=s4.c.pt.step s4.c.p}}:Scene):=Scene.aR rfl rfl rfl rfl;refine⟨⟨i5,?_⟩,s3.c,(bM s3.c.p s3.c.t s3.c.q (s3.c.tab.on s3.c.t.holder)).2.1,hm,p4.trans hm.p,t4.trans hm.tab,?_,?_,?_⟩
 ·rcases w4 with w4|⟨how,g4,w4⟩
  ·exact .inl (q3.trans (w4.trans q5))
  ·refine .inr ⟨how,(q3.goes g4).quiet q5 g4.offer,?_⟩;unfold xF at*;simp only[hm.holder,hm.epoch]at w4;rcases w4 with⟨e,k,_⟩|⟨e,k,_⟩|⟨e,k,_⟩|⟨e,k,_⟩|w4|⟨e,k,w4⟩
   ·omega
   ·omega
   ·omega
   ·omega
   ·exact .inr (.inr (.inr (.inr (.inl ⟨w4.1,rfl,w4.2.2⟩))))
   ·refine .inr (.inr (.inr (.inr (.inr ⟨e,k,?_⟩))));rcases w4 with⟨e',_⟩|w4
    ·omega
    ·exact .inr ⟨rfl,w4.2⟩
 ·rw[hm.p]at l4;rw[hm.p];exact l4
 ·intro e;obtain⟨r1,r2,r3⟩:=r4 e;refine⟨by rw[<-hm.p];exact r1,r2,?_⟩;show s4.c.pt.step s4.c.p=_;rw[r3,p4,hm.p,hm.mode.2.2]
 ·intro e;obtain⟨r1,r2,r3⟩:=gz e;refine⟨by rw[<-hm.mode.1];exact r1,by rw[<-hm.mode.2.1];exact r2,?_⟩;show s4.c.pt.step s4.c.p=_;rw[r3,p4,hm.p,hm.mode.2.2]
structure Calm (s s':Scene):Prop where
 recs:∃rs:List Rec,s'.recs=s.recs++rs/\∀r∈rs,r.kind≠1/\r.kind≠7
 sent:∃ts:List (Int×Reply),s'.sent=s.sent++ts/\∀x∈ts,132<x.2.kind
theorem Calm.refl (s:Scene):Calm s s:=⟨⟨[],by simp,by simp⟩,⟨[],by simp,by simp⟩⟩
theorem Calm.trans {s t u:Scene} (h:Calm s t) (k:Calm t u):Calm s u:=by
 obtain⟨⟨rs,r1,r2⟩,⟨ts,t1,t2⟩⟩:=h;obtain⟨⟨qs,q1,q2⟩,⟨us,u1,u2⟩⟩:=k;exact⟨⟨rs++qs,by rw[q1,r1,List.append_assoc],λr hr=>(List.mem_append.1 hr).elim (r2 r) (q2 r)⟩,⟨ts++us,by rw[u1,t1,List.append_assoc],λx hx=>(List.mem_append.1 hx).elim (t2 x) (u2 x)⟩⟩
structure ou (c c':Core):Prop where
 p:c'.p=c.p
 t:c'.t=c.t
 q:c'.q=c.q
 on:∀x,c'.tab.on x=c.tab.on x
 role:∀x,c'.tab.role x=c.tab.role x
 mode:c'.mode=c.mode
 bP:c'.bP=c.bP
 pt:c'.pt=c.pt
inductive Class (s s':Scene) (l:Int):Prop
 |rejected (e:Int) (he:e≠0) (hr:s'.recs=s.recs++[⟨1,l,0,s.c.t.epoch,e,0⟩]) (hs:s'.sent=s.sent) (hc:ou s.c s'.c)
 |refused (n e:Int) (he:e≠0) (hr:s'.recs=s.recs++[⟨7,l,n,s.c.t.epoch,e,0⟩]) (hs:s'.sent=s.sent++[(l,{kind:=132,seq:=n,code:=e})]) (hc:ou s.c s'.c)
 |done (r:Reply) (hr:129<=r.kind/\r.kind<=131) (rs:List Rec) (h1:s'.recs=s.recs++rs) (h2:∀r∈rs,r.kind≠1/\r.kind≠7) (xs ys:List (Int×Reply)) (h3:s'.sent=s.sent++(xs++(l,r)::ys)) (h4:∀x∈xs++ys,132<x.2.kind)
theorem ou.refl (c:Core):ou c c:=⟨rfl,rfl,rfl,λ_=>rfl,λ_=>rfl,rfl,rfl,rfl⟩
theorem Class.rW {T:Tab} {t:Scene} (k:Class ({s with c:={s.c with tab:=T}}:Scene) t l) (tp:∀x,T.on x=s.c.tab.on x) (hr:∀x,T.role x=s.c.tab.role x):Class s t l:=by
 cases k with
 |rejected e he wC hs hc=>exact .rejected e he wC hs ⟨hc.p,hc.t,hc.q,λx=>(hc.on x).trans (tp x),λx=>(hc.role x).trans (hr x),hc.mode,hc.bP,hc.pt⟩
 |refused n e he wC hs hc=>exact .refused n e he wC hs ⟨hc.p,hc.t,hc.q,λx=>(hc.on x).trans (tp x),λx=>(hc.role x).trans (hr x),hc.mode,hc.bP,hc.pt⟩
 |done r hr rs h1 h2 xs ys h3 h4=>exact .done r hr rs h1 h2 xs ys h3 h4
end Sd
namespace Sd
variable{C:Crypt}
end Sd
