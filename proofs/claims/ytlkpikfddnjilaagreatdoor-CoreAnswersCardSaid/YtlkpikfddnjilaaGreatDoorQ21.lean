/- Part 21 of the proof. -/
import Derived.Test.YtlkpikfddnjilaaGreatDoorQ20
set_option linter.all false
set_option maxRecDepth 100000
set_option maxHeartbeats 4000000
open Go.Proofs.Tryz
namespace Go.Proofs.YtlkpikfddnjilaaGreatDoor
open Go Go.RowKit Go.BigFrame Sx Vx
variable{fr:Sd.Reply->Nat×Sd.Byt}
theorem Q0 (fr:Sd.Reply->Nat×Sd.Byt) (C:Sd.Crypt) (a b c d:Bool):fC fr C [a,b,c,d]:=by
 cases a<;>cases b<;>cases c<;>cases d
 ·exact WR fr C
 ·exact WS fr C
 ·exact WT fr C
 ·exact WU fr C
 ·exact WV fr C
 ·exact WW fr C
 ·exact WX fr C
 ·exact WY fr C
 ·exact WZ fr C
 ·exact W0 fr C
 ·exact W3 fr C
 ·exact W4 fr C
 ·exact W5 fr C
 ·exact W6 fr C
 ·exact W7 fr C
 ·exact W8 fr C
structure lL (c:Sd.Core):Prop where
 p:Sd.cJ c.p
 t:TB c.t
 o1:dp c.t.oa.n
 o2:dp c.t.oa.most
 l1:dp c.t.la.n
 l2:dp c.t.la.most
 Tq:c.t.offer<=4
 q:∀a∈c.q,N4 a.source/\dp a.gu.n/\dp a.gu.most
 pt:PtB c.pt
theorem b0:dp 0:=⟨by decide,by decide⟩
theorem Zq {n m:Int} (h1:dp n) (h2:dp m):dp (Sd.sat n m):=by
 obtain⟨a,b⟩:=h1;obtain⟨c,d⟩:=h2;unfold Sd.sat;split
 ·exact⟨by omega,by omega⟩
 ·exact⟨c,d⟩
theorem lL.tok {c:Sd.Core} (h:lL c) {t:Sd.Tok} (ht:TB t) (o1:dp t.oa.n) (o2:dp t.oa.most) (Tq:t.offer<=4) (hl:t.la=c.t.la):lL {c with t:=t}:=⟨h.p,ht,o1,o2,hl▸h.l1,hl▸h.l2,Tq,h.q,h.pt⟩
theorem lL.drop {c:Sd.Core} (h:lL c) (l:Int):lL {c with t:=(c.t.drop l).1}:=by
 unfold Sd.Tok.drop;split
 ·exact h
 ·exact h.tok ⟨h.t.h,h.t.e⟩ b0 b0 (by simp[Sd.Tok.bG]) rfl
theorem lL.tick {c:Sd.Core} (h:lL c):lL {c with t:=c.t.tick.1}/\c.t.tick.2<=4:=by
 unfold Sd.Tok.tick;split
 ·exact⟨h,by simp⟩
 ·split
  ·exact⟨h.tok ⟨h.t.h,h.t.e⟩ b0 b0 (by simp[Sd.Tok.bG]) rfl,h.Tq⟩
  ·exact⟨h.tok ⟨h.t.h,h.t.e⟩ (Zq h.o1 h.o2) h.o2 h.Tq rfl,by simp⟩
theorem lL.qs {c:Sd.Core} (h:lL c) {q:List Sd.Ask} (hq:∀a∈q,N4 a.source/\dp a.gu.n/\dp a.gu.most):lL {c with q:=q}:=⟨h.p,h.t,h.o1,h.o2,h.l1,h.l2,h.Tq,hq,h.pt⟩
theorem lL.head {c:Sd.Core} (h:lL c) (x:Sd.Byt):lL {c with head:=x}:=⟨h.p,h.t,h.o1,h.o2,h.l1,h.l2,h.Tq,h.q,h.pt⟩
theorem lL.rcd {s:Sd.Scene} (h:lL s.c) (C:Sd.Crypt) (a b c d e:Int):lL (s.record C a b c d e).c:=h.head _
theorem lL.gone {s:Sd.Scene} (h:lL s.c) (l w c:Int):lL (s.gone l w c).c:=by rw[gone_c];exact h
theorem lL.leave {s:Sd.Scene} (h:lL s.c) (C:Sd.Crypt) (l:Int):lL (s.leave C l).c:=by
 have h1:lL (qd s l).c:=h.qs λa ha=>h.q a (List.mem_filter.1 ha).1;rw[vY];split
 ·exact h1
 ·exact((show lL (fA (qd s l) (s.c.t.drop l).1).c from h1.drop l).gone _ _ _).rcd _ _ _ _ _ _
theorem IL {c:Sd.Core} (h:lL c):∀a∈Sd.Q.oK c.q,N4 a.source/\dp a.gu.n/\dp a.gu.most:=by
 intro a ha;obtain⟨b,hb,rfl⟩:=List.mem_map.1 ha;obtain⟨h1,h2,h3⟩:=h.q b hb;exact⟨h1,Zq h2 h3,h3⟩
def yu (C:Sd.Crypt) (s:Sd.Scene) (a:Sd.Ask):Sd.Scene:=(s.gone a.source a.source 30).record C 12 a.source 0 30 0
def gO (C:Sd.Crypt) (s:Sd.Scene) (x:Int):Sd.Scene:=if Sd.linked x then(s.record C 5 x 0 0 0).leave C x else s.record C 5 x 0 0 0
def Lu (C:Sd.Crypt) (s:Sd.Scene):Sd.Scene:=if 0<=s.c.t.tick.2 then((fA s s.c.t.tick.1).gone s.c.t.tick.1.holder s.c.t.tick.2 30).record C 12 s.c.t.tick.2 0 30 0 else fA s s.c.t.tick.1
theorem Du (C:Sd.Crypt) (s:Sd.Scene) (a:Sd.Ask):(yu C s a).c.p=s.c.p:=by show(Sd.Scene.gone _ _ _ _).c.p=_;rw[gone_c]
theorem rk (C:Sd.Crypt) (s:Sd.Scene) (x:Int):(gO C s x).c.p=s.c.p:=by
 unfold gO;split
 ·rw[qV];rfl
 ·rfl
theorem Dv (C:Sd.Crypt) (s:Sd.Scene) (t:Sd.Tok) (h n:Int):(s.goes C t h n).c.pt=s.c.pt:=by
 show(Sd.Scene.hear _ _ _).c.pt=_;rw[hear_c,hear_c]
theorem IM (C:Sd.Crypt) (s:Sd.Scene):(s.cM C).c.p=s.c.p:=by
 rw[qX _ _ _ rfl];split
 ·rfl
 ·split
  ·exact uu _ _ _ _ _ _ _
  ·exact uu _ _ _ _ _ _ _
theorem W9 {C:Sd.Crypt} {s:Sd.Scene} (h:PtB s.c.pt):PtB (s.cM C).c.pt:=by
 have hf:∀(t:Sd.Scene) (m:Int) (b:Sd.Label),t.c.pt=s.c.pt->PtB (t.dt m b).c.pt:=by
  intro t m b e;show PtB (t.c.pt.hold b);rw[e];exact⟨b0,b0,b0,b0,h.2.2.2.2⟩
 rw[qX _ _ _ rfl];split
 ·exact h
 ·split
  ·exact hf _ _ _ (Dv _ _ _ _ _)
  ·exact hf _ _ _ (Dv _ _ _ _ _)
section
variable{tk:Nat->Sd.Byt->Option Sd.db} {k:LK} {s0:Sd.Scene} {Kb:SK fr k}
theorem W_ {C:Sd.Crypt} {s:Sd.Scene} {F:cw fr (bV k s)} {K:SK fr k} (h:StL s) (hK:∀F',K (.aC []) (s.cM C) F'):v7 C [] k (dg s) F K:=by
 have e:v7 C [] k s F K=(StL s/\∀F',K (.aC []) (s.cM C) F'):=by kernel_rfl
 exact fc (M:=v7 C) (e▸⟨h,hK⟩)
theorem Q2 {C:Sd.Crypt} {s:Sd.Scene} {F:cw fr (bV k s)} {K:SK fr k} {l:Int} (h:Rm s 2/\N4 l) (hK:∀F',K (.aC []) (s.leave C l) F'):jH C [.int .i64 l] k (dg s) F K:=by
 have e:jH C [.int .i64 l] k s F K=((Rm s 2/\N4 l)/\∀F',K (.aC []) (s.leave C l) F'):=by kernel_rfl
 exact fc (M:=jH C) (e▸⟨h,hK⟩)
theorem wy:∀(l:List Sd.Ask) (s:Sd.Scene) (F:cw fr (bV k s)) (j:List VB),s.c.p=s0.c.p->s.c.p.queue=k.most->lL s.c->(∀a∈l,N4 a.source)->Rm s (2*l.length+8)->
 (∀F',Kb (.aC []) (py ((l.foldl (yu (aj tk)) s).cM (aj tk))) F')->tkL (aj tk) k s0 Kb l s F j
 |[],s,F,j,hp,hq,hT,hl,hr,hK=>⟨eO hq,W_ ⟨hr,hT.p,hT.t,hT.l1,hT.l2⟩ λF2=>⟨⟨by rw[IM];exact hT.p,W9 hT.pt⟩,aH (s':=py (s.cM (aj tk))) rfl hK F2 (hp:=by show(Sd.Scene.cM _ _).c.p=_;rw[IM];exact hp) (hb:=by kernel_rfl)⟩⟩
 |a::l,s,F,j,hp,hq,hT,hl,hr,hK=>by
  have ha:=hl a (by simp);have uh:Rm s (2*l.length+8+1+1):=hr.le (by simp only[List.length_cons];omega);refine⟨eO hq,qR ⟨hr.le (by omega),ha,⟨by decide,by decide⟩⟩ λF2=>⟨eO (by rw[gone_c];exact hq),fe uh.gone.r1 λF3=>wy l (yu (aj tk) s a) F3 _ (by rw[Du];exact hp) (by rw[Du];exact hq) ((hT.gone _ _ _).rcd _ _ _ _ _ _) (λb hb=>hl b (by simp[hb])) uh.gone.rec hK⟩⟩
theorem Q3 (s:Sd.Scene) (F:cw fr (bV k s)) (j:List VB) (hp:s.c.p=s0.c.p) (hq:s.c.p.queue=k.most) (hT:lL s.c) (hr:Rm s 14)
 (hK:∀F',Kb (.aC []) (py (((Sd.Q.gone s.c.q).foldl (yu (aj tk)) (bI s (Sd.Q.kept s.c.q))).cM (aj tk))) F'):tkQ (aj tk) k s0 Kb s F j:=by
 have TA:lL (bI s (Sd.Q.kept s.c.q)).c:=hT.qs λa ha=>IL hT a (List.mem_filter.1 ha).1;have hg:∀a∈Sd.Q.gone s.c.q,N4 a.source:=λa ha=>(IL hT a (List.mem_filter.1 ha).1).1;have uh:Rm (bI s (Sd.Q.kept s.c.q)) 14:=hr;refine⟨⟨rfl,λa ha=>(hT.q a ha).2⟩,λB h=>⟨λe x c=>?_,λa e c t=>?_,λa b e c t=>?_,λa b d e c t=>?_⟩⟩<;>rw[e]at hK hg
 ·exact wy [] _ _ _ hp hq TA hg (uh.le (by simp)) hK
 ·exact wy [a] _ _ _ hp hq TA hg (uh.le (by simp)) hK
 ·exact wy [a,b] _ _ _ hp hq TA hg (uh.le (by simp)) hK
 ·exact wy [a,b,d] _ _ _ hp hq TA hg (uh.le (by simp)) hK
theorem Q4 (s:Sd.Scene) (F:cw fr (bV k s)) (j:List VB) (hp:s.c.p=s0.c.p) (hq:s.c.p.queue=k.most) (hT:lL s.c) (hr:Rm s 16)
 (hK:∀F',Kb (.aC []) (py (((Sd.Q.gone (Lu (aj tk) s).c.q).foldl (yu (aj tk)) (bI (Lu (aj tk) s) (Sd.Q.kept (Lu (aj tk) s).c.q))).cM (aj tk))) F'):tkO (aj tk) k s0 Kb s F j:=by
 have TA:lL (fA s s.c.t.tick.1).c:=hT.tick.1;have uh:Rm (fA s s.c.t.tick.1) 16:=hr;refine⟨⟨hT.o1,hT.o2⟩,aO (λe=>?_) (λe=>?_)⟩
 ·have e1:0<=s.c.t.tick.2:=by simpa using e
  have e2:Lu (aj tk) s=((fA s s.c.t.tick.1).gone s.c.t.tick.1.holder s.c.t.tick.2 30).record (aj tk) 12 s.c.t.tick.2 0 30 0:=if_pos e1;rw[e2]at hK;refine⟨eO hq,qR ⟨uh.le (by decide),⟨e1,hT.tick.2⟩,⟨by decide,by decide⟩⟩ λF2=>⟨eO (by rw[gone_c];exact hq),fe uh.gone.r1 λF3=>Q3 _ F3 _ ?_ ?_ ((TA.gone _ _ _).rcd _ _ _ _ _ _) (uh.gone.rec) hK⟩⟩
  ·show(Sd.Scene.gone _ _ _ _).c.p=_;rw[gone_c];exact hp
  ·show(Sd.Scene.gone _ _ _ _).c.p.queue=_;rw[gone_c];exact hq
 ·have e1:¬0<=s.c.t.tick.2:=by simpa using e
  have e2:Lu (aj tk) s=fA s s.c.t.tick.1:=if_neg e1;rw[e2]at hK;exact Q3 (fA s s.c.t.tick.1) F _ hp hq TA (uh.le (by decide)) hK
theorem lL.gO {s:Sd.Scene} (h:lL s.c) (C:Sd.Crypt) (x:Int):lL (gO C s x).c:=by
 unfold Go.Proofs.YtlkpikfddnjilaaGreatDoor.gO;split
 ·exact(h.rcd C _ _ _ _ _).leave C x
 ·exact h.rcd C _ _ _ _ _
theorem Rm.gO {C:Sd.Crypt} {s:Sd.Scene} {x:Int} {n:Nat} (h:Rm s (n+3)):Rm (gO C s x) n:=by
 unfold Go.Proofs.YtlkpikfddnjilaaGreatDoor.gO;have h1:Rm (s.record C 5 x 0 0 0) (n+2):=Rm.rec h;split
 ·exact h1.leave
 ·exact h1.le (by omega)
theorem Q5 {C:Sd.Crypt} {x:Int} {s:Sd.Scene} {X:(s2:Sd.Scene)->cw fr (bV k s2)->Prop} (hq:s.c.p.queue=k.most) (hr:Rm s 4) (hx:0<=x/\x<=3) (h:∀F3:cw fr (bV k (gO C s x)),X (gO C s x) F3):
 ∀F2:cw fr (bV k (s.record C 5 x 0 0 0)),True/\lc x (eg k (s.record C 5 x 0 0 0) F2/\jH C [.int .i64 x] k (dg (s.record C 5 x 0 0 0)) F2 λv s3 F3=>X s3 F3) (X (s.record C 5 x 0 0 0) F2):=by
 intro F2;refine⟨trivial,agQ (aO (λe=>⟨eO hq,Q2 ⟨(Rm.rec hr).le (by decide),⟨hx.1,by omega⟩⟩ λF3=>?_⟩) (λe=>?_))⟩
 ·have e1:gO C s x=(s.record C 5 x 0 0 0).leave C x:=if_pos e;rw[e1]at h;exact h F3
 ·have e1:gO C s x=s.record C 5 x 0 0 0:=if_neg (by rw[e];decide);rw[e1]at h;exact h F2
theorem Q6 {cont:SC fr k}:∀(l:List Int) (s:Sd.Scene) (F:cw fr (bV k s)) (j:List VB),s.c.p=s0.c.p->s.c.p.queue=k.most->lL s.c->(∀x∈l,0<=x/\x<=3)->Rm s (3*l.length+16)->
 (∀s2:Sd.Scene,s2=l.foldl (gO (aj tk)) s->s2.c.p=s0.c.p->s2.c.p.queue=k.most->lL s2.c->Rm s2 16->∀F2,cont s2 F2 j)->tkE (aj tk) k cont l s F j
 |[],s,F,j,hp,hq,hT,hl,hr,hc=>hc s rfl hp hq hT (hr.le (by simp)) F
 |x::l,s,F,j,hp,hq,hT,hl,hr,hc=>by
  have uh:Rm s (3*l.length+16+3):=hr.le (by simp only[List.length_cons];omega);exact⟨eO hq,fe hr.r1 (Q5 (X:=λs2 F2=>tkE (aj tk) k cont l s2 F2 j) hq (hr.le (by omega)) (hl x (by simp)) λF3=>Q6 l _ F3 j (by rw[rk];exact hp) (by rw[rk];exact hq) (hT.gO _ _) (λy hy=>hl y (by simp[hy])) uh.gO hc)⟩
end
def Hi (s:Sd.Scene):Prop:=∀j,(s.c.tab.az (j+3)).on=false
theorem yv {s:Sd.Scene} (h:Hi s):qT s (dh s.c.tab).tick=dN s s.c.tab.tick:=by
 refine qU rfl ?_ ?_
 ·intro j hj;have:j=0\/j=1\/j=2:=by omega
  rcases this with rfl|rfl|rfl<;>rfl
 ·intro j;simp[Sd.Tab.tick,h j]
theorem yw (t:Sd.Tab):ma (ox t) 0=t.ended:=by
 unfold ox Sd.Tab.ended;cases t.ft<;>cases t.dv 0<;>cases t.dv 1<;>cases t.dv 2<;>rfl
theorem Zr:∀(bs:List Bool) (n:Int),(∀x∈ma bs n,n<=x/\x<n+bs.length)/\(ma bs n).length<=bs.length
 |[],n=>⟨by simp[ma],by simp[ma]⟩
 |b::l,n=>by
  obtain⟨h1,h2⟩:=Zr l (n+1);cases b
  ·refine⟨λx hx=>?_,?_⟩
   ·have:=h1 x hx;simp only[List.length_cons];omega
   ·show(ma l (n+1)).length<=_;simp only[List.length_cons];omega
  ·refine⟨λx hx=>?_,?_⟩
   ·rcases List.mem_cons.1 hx with rfl|hx
    ·simp only[List.length_cons];omega
    ·have:=h1 x hx;simp only[List.length_cons];omega
   ·show(n::ma l (n+1)).length<=_;simp only[List.length_cons];omega
theorem IN (t:Sd.Tab):(∀x∈t.ended,0<=x/\x<=3)/\t.ended.length<=4:=by
 rw[<-yw];obtain⟨h1,h2⟩:=Zr (ox t) 0;have e:(ox t).length=4:=rfl;rw[e]at h1 h2;exact⟨λx hx=>by have:=h1 x hx;omega,h2⟩
def IP (C:Sd.Crypt) (s:Sd.Scene):Sd.Scene:=Lu C (s.c.tab.ended.foldl (gO C) (dN s s.c.tab.tick))
theorem rn (C:Sd.Crypt) (s:Sd.Scene):s.tick C=py (((Sd.Q.gone (IP C s).c.q).foldl (yu C) (bI (IP C s) (Sd.Q.kept (IP C s).c.q))).cM C):=by kernel_rfl
structure TkP (s:Sd.Scene):Prop where
 c:lL s.c
 r:Rm s 28
 h:Hi s
 b:TB3 s.c.tab
def Dw (C:Sd.Crypt):SM fr:=λar k s F K=>match ar with
 |[]=>TkP s/\∀F',K (.aC []) (s.tick C) F'
 |_=>False
theorem Xa {f:Nat} {M:SM fr} (h:∀s0:Sd.Scene,Body f (λar k s F K=>s=s0/\M ar k s F K)):Body f M:=λar k s F Kb a b c R ms w0 w h0 hq hM S=>h s ar k s F Kb a b c R ms w0 w h0 hq ⟨rfl,hM⟩ S
theorem Lv (tk:Nat->Sd.Byt->Option Sd.db) (ht:Body (fr:=fr) 130 bM) (h1:∀bs,Sound prog gS 63 (wc (fr:=fr) bs)) (h2:Sound prog gS 68 (we (fr:=fr))):Body (fr:=fr) 38 (Dw (aj tk)):=by
 refine Xa λs0=>dy (n:=90) (agR tk ht (ox (dh s0.c.tab)) (h1 _) h2) ?_;intro ar k s F Kb h0 hq hM;obtain⟨rfl,hM⟩:=hM;unfold Dw at hM;split at hM
 ·have hP:=hM.1;have hK:=hM.2;rw[rn]at hK;have hv:=Q0 fr (aj tk) (dh s.c.tab).ft ((dh s.c.tab).dv 0) ((dh s.c.tab).dv 1) ((dh s.c.tab).dv 2) k s F Kb;refine hv▸⟨⟨hP.b,rfl⟩,?_⟩;have el:ma [(dh s.c.tab).ft,(dh s.c.tab).dv 0,(dh s.c.tab).dv 1,(dh s.c.tab).dv 2] 0=s.c.tab.ended:=yw s.c.tab;rw[el];have uh:Rm (dN s s.c.tab.tick) 28:=hP.r;have TA:lL (dN s s.c.tab.tick).c:=⟨hP.c.p,hP.c.t,hP.c.o1,hP.c.o2,hP.c.l1,hP.c.l2,hP.c.Tq,hP.c.q,hP.c.pt⟩;obtain⟨hb,hn⟩:=IN s.c.tab;unfold IP at hK;revert hK hb hn;generalize s.c.tab.ended=l;intro hK hb hn;cases l with
  |nil=>
   intro x c;exact qO (M:=λs' F=>tkO (aj tk) k s Kb s' F []) (yv hP.h) F (Q4 _ _ _ rfl hq TA (uh.le (by decide)) hK)
  |cons a l=>
   intro c t;simp only[List.length_cons]at hn;refine⟨eO hq,qO (M:=λs' F=>gD (aj tk) [.int .i64 5,.int .i64 a,.int .i64 0,.int .i64 0,.int .i64 0] k s' F _) (yv hP.h) F ⟨uh.r1,Q5 (s:=dN s s.c.tab.tick) (X:=λs2 F2=>tkE (aj tk) k (tkO (aj tk) k s Kb) l s2 F2 [Qw (a::l) t]) hq (uh.le (by decide)) (hb a (by simp)) λF3=>?_⟩⟩;refine Q6 l _ F3 _ (rk _ _ _) (by rw[rk];exact hq) (TA.gO _ _) (λx hx=>hb x (by simp[hx])) ((Rm.gO (n:=25) uh).le (by omega)) ?_;intro s2 e2 Nz hq2 hT2 Yw F2;subst e2;exact Q4 _ F2 _ Nz hq2 hT2 Yw hK
 ·exact hM.elim
def cF:Value:=.slice none 0 0
def gi (k:LK) (s:Sd.Scene):List VB:=[aF k,iq k,ee k 3 s,gp s]
def Q7 (k:LK) (s:Sd.Scene) (F:cw fr (bV k s)):Prop:=cF=F.vs/\cF=F.vr/\some (aF k)=some (aF k)/\some (iq k)=some (iq k)/\CX k 3 s=CX k 3 (dg s)/\s.c.p.bR=s.c.p.bR/\s.c.p.bz=s.c.p.bz/\s.c.p.queue=k.most
def yx (s:Sd.Scene) (vs vr:Value):List V:=[.int .i64 s.c.mode,.int .i64 s.c.pt.cls,.int .i64 s.c.pt.now.a,.int .i64 s.c.pt.now.b,.int .i64 s.c.pt.now.c,.int .i64 s.c.pt.now.d,.int .i64 s.c.cA.l5,.int .i64 s.c.cA.source,.int .i64 s.c.cA.seq,
 .int .i64 s.c.pt.eo.l5,.int .i64 s.c.pt.eo.source,.int .i64 s.c.pt.eo.seq,.raw vs,.raw vr,.dS .u8 32 s.c.head]
def oz (k:LK) (s:Sd.Scene) (Kb:(s':Sd.Scene)->cw fr (bV k s')->Prop):VK (Gh fr):=λv bl ch=>∃(s':Sd.Scene) (F':cw fr (bV k s')),v=.agg (yx s' F'.vs F'.vr)/\bl.take 4=gi k s'/\ch=[cx k s' F']/\Kb s' F'
def LC (fr:Sd.Reply->Nat×Sd.Byt) (C:Sd.Crypt):List (dF (Gh fr)):=[⟨38,false,pj (Dw C)⟩,⟨61,false,pj (Qi C)⟩,⟨62,false,pj (q_ C)⟩,⟨49,false,pj (Dt C)⟩]
theorem Dx (ht:Body (fr:=fr) 130 bM):ah prog gS (LC fr (aj b_)):=
 ah.cons (cX (Lv b_ ht (λbs=>Di bs gS) (Dj gS))) (ah.cons (cX (C_ b_ ht)) (ah.cons (cX (Dd b_ ht)) (ah.cons (cX (Lt ht)) ah.nil)))
section
variable(C:Sd.Crypt) (k:LK) (s:Sd.Scene) (F:cw fr (bV k s)) (Kb:(s':Sd.Scene)->cw fr (bV k s')->Prop)
def lfC (s':Sd.Scene) (F':cw fr (bV k s')):Prop:=oz k s Kb (.agg (yx s' F'.vs F'.vr)) (gi k s') [cx k s' F']
theorem Q8:cI (dw prog gS (LC fr C)) 60 15 [.ptr 2 0] (gi k s) [cx k s F] (oz k s Kb)=(Q7 k s F/\Dw C [] k (dg s) F λv s' F'=>lfC k s Kb s' F'):=by kernel_rfl
theorem Gy (b:Bool):cI (dw prog gS (LC fr C)) 60 36 [.ptr 2 0,.bool b] (gi k s) [cx k s F] (oz k s Kb)=(Q7 k s F/\q_ C [.bool b] k (dg s) F λv s' F'=>lfC k s Kb s' F'):=by kernel_rfl
theorem Gz (x:Sd.dq):cI (dw prog gS (LC fr C)) 60 35 [.ptr 2 0,.agg (pd x)] (gi k s) [cx k s F] (oz k s Kb)=(Q7 k s F/\Qi C [.agg (pd x)] k (dg s) F λv s' F'=>lfC k s Kb s' F'):=by kernel_rfl
def ag9 (l code:Int):Prop:=
 let no:Prop:=oz k s Kb (.agg (yx s cF cF)) (gi k s) [cx k s F]
 cond (decide (l>=1)) (cond (decide (l<=3)) (Q7 k s F/\Dt C [.int .i64 l,.agg [.int .i64 code,.raw (dX k)]] k (dg s) F λv s' F'=>lfC k s Kb s' F') no) no
theorem Q9 (l code:Int):cI (dw prog gS (LC fr C)) 60 22 [.ptr 2 0,.int .i64 l,.agg [.int .i64 code,.raw (dX k)]] (gi k s) [cx k s F] (oz k s Kb)=ag9 C k s F Kb l code:=by kernel_rfl
end
def oA (s:Sd.Scene) (qv:V):List V:=[.int .i64 s.c.t.holder,.int .i64 s.c.t.epoch,.int .i64 s.c.t.offer,.int .i64 s.c.mode]++(l9 s.c.cA++(Ts s.c.pt++(qv::([.bool ((dh s.c.tab).on 0),.bool ((dh s.c.tab).on 1),.bool ((dh s.c.tab).on 2),.bool ((dh s.c.tab).on 3),.bool ((dh s.c.tab).on 4)]++
 [.int .i64 ((dh s.c.tab).role 0),.int .i64 ((dh s.c.tab).role 1),.int .i64 ((dh s.c.tab).role 2),.int .i64 ((dh s.c.tab).role 3),.int .i64 ((dh s.c.tab).role 4),.bool s.c.t.bad]))))
def wz:List Sd.Ask->List V
 |[]=>[]
 |a::l=>.int .i64 a.source::wz l
def GA (l:List Sd.Ask) (u:List Value):VB:=⟨true,⟨3,(0,0)⟩,wz l++[.rest u]⟩
def Xb:Nat->Nat->Prop->Prop
 |0,_,q=>q
 |n+1,j,q=>True/\(0<=(j:Int)/\(j:Int)<(5:Nat))/\True/\True/\Xb n (j+1) q
section
variable(C:Sd.Crypt) (k:LK) (s:Sd.Scene) (F:cw fr (bV k s)) (K:VK (Gh fr))
def ajR:Prop:=Xb 5 0 (K (.agg (oA s (.raw cF))) (gi k s) [cx k s F])
def siF (l:List Sd.Ask) (c:Nat) (u:List Value):Prop:=Xb 5 0 (K (.agg (oA s (.sl 4 0 l.length c))) (gi k s++[GA l u]) [cx k s F])
def siA (n:Nat) (l:List Sd.Ask) (P:Prop) (k:Nat->List Value->Prop):Prop:=P/\(∀(c:Nat) (u:List Value),n+1<=c->eF (wz l++[.rest u])=c*1->k c u)/\(∀(c:Nat) (u:List Value),n+1<=c->eF (wz l++[.rest u])=c*1->k c u)
def siN (a:Sd.Ask) (k:Nat->List Value->Prop):Prop:=∀(c:Nat) (u:List Value),0+1<=c->eF (wz [a]++[.rest u])=c*1->k c u
def ag_:Prop:=vq k=vq k/\(s.c.q=[]->∀(x:Option Addr) (c:Nat),ajR k s F K)/\
 (∀a,s.c.q=[a]->∀(c:Nat) (t:List Value),siN a λc u=>siF k s F K [a] c u)/\
 (∀a b,s.c.q=[a,b]->∀(c:Nat) (t:List Value),siN a λc u=>siA 1 [a,b] (1<=c/\eF (wz [a]++[.rest u])=c*1) λc u=>siF k s F K [a,b] c u)/\
 (∀a b d,s.c.q=[a,b,d]->∀(c:Nat) (t:List Value),siN a λc u=>siA 1 [a,b] (1<=c/\eF (wz [a]++[.rest u])=c*1) λc u=>siA 2 [a,b,d] (2<=c/\eF (wz [a,b]++[.rest u])=c*1) λc u=>siF k s F K [a,b,d] c u)
theorem Xc:cI (nz prog gS (L8 fr C) (NP prog) ua) 60 12 [.ptr 2 0] (gi k s) [cx k s F] (du 4 K)=ag_ k s F K:=by kernel_rfl
end
end Go.Proofs.YtlkpikfddnjilaaGreatDoor
namespace Sd
variable{C:Crypt} {b:Prop} {s:Scene} {l:Int} {m:db}
theorem nH {X:Scene} {k a n e w:Int} (h:Quiet C b s X) (hk:k≠8) (hb:Fj b ⟨k,a,n,X.c.t.epoch,e,w⟩):Quiet C b s (X.record C k a n e w):=
 h.trans (Scene.bO hk hb)
theorem Inv.Xd {c:Core} (h:Inv c) {n y:Int} (hn:0<=n/\n<=4294967295):Inv {c with samples:=n,tab:=c.tab.cV c.p,beyond:=y}:=by
 have hb:=h.p.bR;have h1:=Inv.Ib (T:=c.tab) (T':=c.tab.cV c.p) h ⟨λ_=>by simp[Tab.cV,Timer.start];omega,h.tab.az⟩
  (λa ha=>by
   have:=(h.q.each a ha).2.2.2.1;unfold Tab.on at*;split
   ·rfl
   ·rename_i h4;rw[if_neg h4]at this;split
    ·rfl
    ·rename_i h0;rw[if_neg h0]at this;exact this)
  (λho=>by
   have:c.tab.on c.t.offer=true:=by
    rcases h.tok.offer with h1|⟨_,_,_,h1,_⟩
    ·omega
    ·exact h1
   unfold Tab.on at*;split
   ·rfl
   ·rename_i h4;rw[if_neg h4]at this;split
    ·rfl
    ·rename_i h0;rw[if_neg h0]at this;exact this)
 exact⟨h1.p,h1.tok,h1.q,h1.tab,hn,h1.mode,h1.doors⟩
theorem lF.Xe {t:Scene} {c:Core} {kind link:Int} (k:lF C b ({s with c:=c}:Scene) t kind link) (h1:c.t=s.c.t) (h2:c.q=s.c.q) (h3:c.p=s.c.p) (h4:c.head=s.c.head):lF C b s t kind link:=by
 have q0:Quiet C b s ({s with c:=c}:Scene):=Scene.aP (by rw[h1]) (by rw[h1]) h3 h4;refine⟨k.inv,?_⟩;rcases k.Fm with q|⟨how,g,w⟩
 ·exact .inl (q0.trans q)
 ·refine .inr ⟨how,q0.goes g,?_⟩;unfold ou at*;simpa only[h1,h2,h3]using w
theorem pz {x:dq} (h:Inv s.c):lF C b s (s.cV C x) 1 0:=by
 have e0:=h.eC;unfold Scene.cV;split
 ·exact .cg ⟨h.p,h.tok,h.q,h.tab,h.samples,h.mode,h.doors⟩ (Scene.aP rfl rfl rfl rfl)
 dsimp only;have hn:=Z8 h.samples.1 (m:=4294967295) (by omega) h.samples.2;have i1:=h.Xd (y:=(oh s.c.p s.c.beyond x).1) hn;have q1:Quiet C b s ({s with c:={s.c with samples:=sat s.c.samples 4294967295,tab:=s.c.tab.cV s.c.p,beyond:=(oh s.c.p s.c.beyond x).1}}:Scene):=Scene.aP rfl rfl rfl rfl;split
 ·rename_i hg;split
  ·have h2:=qB s.c.t s.c.q 0;refine .cg (i1.head _) (nH q1 (by simp) ?_);exact⟨by simp,by simp,hn,e0,λ_=>⟨h2.1,Int.le_trans h2.2 (by decide)⟩,by simp⟩
  ·rename_i hz;obtain⟨g0,a,r,g1,g2,g3,g4,g5,g6⟩:=vD (by simpa using hz);rw[g2];refine lF.Xe (c:={s.c with samples:=sat s.c.samples 4294967295,tab:=s.c.tab.cV s.c.p,beyond:=(oh s.c.p s.c.beyond x).1}) (mO (s:=⟨_,s.sent,s.recs⟩) i1 ⟨g3,g4⟩ ⟨_,rfl⟩ g5 g6 (by simp) hn ?_) rfl rfl rfl rfl;refine .inr (.inl ⟨rfl,by simp,⟨a,r,g1,by simp[Tok.pass]⟩,?_⟩);simp;exact g0.symm
 split
 ·rename_i h0;split
  ·have h2:=o_ s.c.p s.c.t 0 0 s.c.mode {iZ 11 with epoch:=s.c.t.epoch,cls:=1};refine .cg (i1.head _) (nH q1 (by simp) ?_);exact⟨by simp,by simp,hn,e0,λ_=>⟨h2.1,Int.le_trans h2.2 (by decide)⟩,by simp⟩
  ·refine .cg (Inv.head (c:={s.c with samples:=sat s.c.samples 4294967295,tab:=s.c.tab.cV s.c.p,beyond:=(oh s.c.p s.c.beyond x).1,pt:=s.c.pt.set s.c.p 1 x.x ⟨1,0,sat s.c.samples 4294967295⟩}) ⟨i1.p,i1.tok,i1.q,i1.tab,i1.samples,i1.mode,i1.doors⟩ _) (nH (q1.trans (Scene.aP rfl rfl rfl rfl)) (by simp) ?_);exact⟨by simp,by simp,hn,e0,by simp,by simp⟩
 split
 ·rename_i h0;split
  ·have h2:=lE s.c.t 0;refine .cg (i1.head _) (nH q1 (by simp) ?_);exact⟨by simp,by simp,hn,e0,λ_=>⟨h2.1,Int.le_trans h2.2 (by decide)⟩,by simp⟩
  ·rename_i hz;obtain⟨g1,g2,g3,g4,g5⟩:=qz (by simpa using hz);rw[g1];refine⟨Inv.goes (s:=⟨_,s.sent,s.recs⟩) i1 (ig.pass h.p ⟨g2,g3⟩ (by have:=h.tok.epoch;omega)),.inr ⟨4,?_,.inr (.inr (.inr (.inl ⟨rfl,rfl,by simp[Tok.pass]⟩)))⟩⟩;exact q1.goes (Scene.kM (by simp[Tok.pass]) (by simpa[Tok.pass]using g4) rfl (.inl ⟨g5,rfl⟩) e0.1 (by simp) hn)
 ·exact .cg i1 q1
theorem Inv.wA {c:Core} (h:Inv c) {mo:Int} (hm:0<=mo/\mo<=4) (y:Label) (pt:Point):Inv {c with mode:=mo,cA:=y,pt:=pt}:=
 ⟨h.p,h.tok,h.q,h.tab,h.samples,hm,h.doors⟩
theorem fZ {mo:Int} {y:Label}:Quiet C b s (s.dt mo y):=Scene.aP rfl rfl rfl rfl
def cY (s:Scene) (a:Ask):Scene:=({s with c:={s.c with q:=Q.drop s.c.q a.source}}:Scene).gone a.source 4 29
theorem wC {a:Ask}:Quiet C b s (cY s a):=
 Quiet.trans (t:=({s with c:={s.c with q:=Q.drop s.c.q a.source}}:Scene)) (Scene.aP rfl rfl rfl rfl) (Scene.fy (Scene.jE (by omega) (by omega)))
theorem lM {a:Ask}:(cY s a).c={s.c with q:=Q.drop s.c.q a.source}:=by unfold cY;rw[Scene.gone_c]
theorem Inv.cY {a:Ask} (h:Inv s.c):Inv (Sd.cY s a).c:=by
 rw[lM];exact⟨h.p,h.tok,h.q.drop a.source (λx hx _=>(h.q.each x hx).2.2.2.2.1),h.tab,h.samples,h.mode,h.doors⟩
theorem mX (q:List Ask):∀s:Scene,Inv s.c->Inv (q.foldl cY s).c/\Quiet C b s (q.foldl cY s)/\(q.foldl cY s).c.t=s.c.t/\(q.foldl cY s).c.tab=s.c.tab/\
 (∀x∈(q.foldl cY s).c.q,x∈s.c.q/\∀a∈q,x.source≠a.source)/\∃q',(q.foldl cY s).c={s.c with q:=q'}:=by
 induction q with
 |nil=>intro s h;exact⟨h,Quiet.refl ..,rfl,rfl,λx hx=>⟨hx,by simp⟩,s.c.q,rfl⟩
 |cons a q ih=>
  intro s h;obtain⟨h1,h2,h3,h4,h5,q',h6⟩:=ih (cY s a) h.cY;rw[lM]at h3 h4 h5 h6;refine⟨h1,wC.trans h2,h3,h4,λx hx=>?_,q',h6⟩;obtain⟨h7,h8⟩:=h5 x hx;simp only[Q.drop,List.mem_filter,decide_eq_true_eq]at h7;exact⟨h7.1,λy hy=>by
   rcases List.mem_cons.1 hy with rfl|hy
   ·exact h7.2
   ·exact h8 y hy⟩
theorem sT (bad:Bool) (hb:bad=true):s.fM C bad=
 ((((if s.c.t.holder≠4 then(s.aZ {s.c.t with bad:=bad}).goes C ({s.c.t with bad:=bad}:Tok).dB 6 0 else(s.aZ {s.c.t with bad:=bad}).aZ ({s.c.t with bad:=bad}:Tok).dB):Scene).c.q.foldl cY
   (if s.c.t.holder≠4 then(s.aZ {s.c.t with bad:=bad}).goes C ({s.c.t with bad:=bad}:Tok).dB 6 0 else(s.aZ {s.c.t with bad:=bad}).aZ ({s.c.t with bad:=bad}:Tok).dB)).dt
    s.c.p.safe dH):=by
 unfold Scene.fM;rw[if_neg (by simp[hb])];dsimp only;congr 1;have:∀(q:List Ask) (s:Scene),(q.foldl cY s).c.p=s.c.p:=by
  intro q;induction q with
  |nil=>intro s;rfl
  |cons a q ih=>intro s;rw[List.foldl_cons,ih,lM]
 refine Eq.trans (congrArg Pol.safe (this _ _)) ?_;split<;>simp[Scene.aZ]
theorem pB {bad:Bool} (h:Inv s.c):lF C b s (s.fM C bad) 2 0:=by
 have e0:=h.eC;have he:=h.tok.epoch;have hh:=h.tok.holder;have i0:Inv {s.c with t:={s.c.t with bad:=bad}}:=⟨h.p,⟨h.tok.holder,h.tok.epoch,h.tok.offer,h.tok.lost⟩,h.q,h.tab,h.samples,h.mode,h.doors⟩;have q0:Quiet C b s (s.aZ {s.c.t with bad:=bad}):=Scene.aP rfl rfl rfl rfl;cases bad
 ·exact .cg i0 q0
 rw[sT true rfl];split
 ·rename_i h4;have hs:sat s.c.t.epoch 65535=if s.c.t.epoch<65535 then s.c.t.epoch+1 else 65535:=rfl
  have et:({s.c.t with bad:=true}:Tok).dB=Tok.pass {s.c.t with bad:=true} 4 (sat s.c.t.epoch 65535):=by simp[Tok.dB,h4]
  rw[et];have i1:Inv ((s.aZ {s.c.t with bad:=true}).goes C (Tok.pass {s.c.t with bad:=true} 4 (sat s.c.t.epoch 65535)) 6 0).c:=
   Inv.goes (s:=s.aZ _) i0 (ig.pass h.p (by omega) (by show s.c.p.epoch<=_/\_;rw[hs];split<;>omega))
  obtain⟨h1,h2,h3,h5,h6,q',h7⟩:=mX (C:=C) (b:=b) ((s.aZ {s.c.t with bad:=true}).goes C (Tok.pass {s.c.t with bad:=true} 4 (sat s.c.t.epoch 65535)) 6 0).c.q _ i1;refine⟨h1.wA h.p.safe _ _,.inr ⟨6,?_,?_⟩⟩
  ·refine z6.quiet (Quiet.goes q0 (Scene.kM (by simp[Tok.pass]) (by simpa[Tok.pass,Scene.aZ]using λe=>h4 e.symm) rfl ?_ e0.1 (by simp) (by simp))) (h2.trans fZ) ?_
   ·show(s.c.t.epoch<65535/\sat s.c.t.epoch 65535=s.c.t.epoch+1)\/(s.c.t.epoch=65535/\sat s.c.t.epoch 65535=65535/\(6:Int)=6);rw[hs];split<;>omega
   ·show(Scene.dt _ _ _).c.t.offer=-1;simp only[Scene.dt];rw[h3];simp[Tok.pass]
  ·refine .inr (.inr (.inr (.inr (.inr ⟨rfl,?_,.inl ⟨rfl,?_⟩⟩))))
   ·simp only[Scene.dt];rw[h3];simp[Tok.pass]
   ·simp only[Scene.dt];rw[h3];simp[Tok.pass]
 ·rename_i h4;have h4':s.c.t.holder=4:=by simpa using h4
  have et:({s.c.t with bad:=true}:Tok).dB=Tok.pass {s.c.t with bad:=true} 4 s.c.t.epoch:=by simp[Tok.dB,h4']
  rw[et];have i1:Inv ((s.aZ {s.c.t with bad:=true}).aZ (Tok.pass {s.c.t with bad:=true} 4 s.c.t.epoch)).c:=
   ⟨h.p,ig.pass h.p (by omega) he,⟨λa ha=>by have:=h.q.each a ha;simpa[Tok.pass,Scene.aZ,h4']using this,h.q.sorted,h.q.len⟩,h.tab,h.samples,h.mode,h.doors⟩
  obtain⟨h1,h2,h3,h5,h6,q',h7⟩:=mX (C:=C) (b:=b) ((s.aZ {s.c.t with bad:=true}).aZ (Tok.pass {s.c.t with bad:=true} 4 s.c.t.epoch)).c.q _ i1;refine .cg (h1.wA h.p.safe _ _) ?_;exact Quiet.trans (Quiet.trans (t:=(s.aZ {s.c.t with bad:=true}).aZ (Tok.pass {s.c.t with bad:=true} 4 s.c.t.epoch)) (Scene.aP (by simp[Tok.pass,h4']) rfl rfl rfl) h2) fZ
def fO (C:Crypt) (s:Scene) (x:Int):Scene:=let s:=s.record C 5 x 0 0 0;if linked x then s.leave C x else s
def AY (q:List Ask) (xs:List Int):List Ask:=xs.foldl (λq x=>if linked x then Q.drop q x else q) q
def kV (t:Tok) (xs:List Int):Tok:=xs.foldl (λt x=>if linked x then(t.drop x).1 else t) t
theorem Dy (C:Crypt) (s:Scene) (x:Int):∃hd,(fO C s x).c={s.c with q:=AY s.c.q [x],t:=kV s.c.t [x],head:=hd}:=by
 unfold fO AY kV;simp only[List.foldl_cons,List.foldl_nil];split
 ·obtain⟨hd,e⟩:=Ab C (s.record C 5 x 0 0 0) x;exact⟨hd,by rw[e];rfl⟩
 ·exact⟨_,rfl⟩
theorem AZ {x:Int} (hx:0<=x/\x<=3) (he:0<=s.c.t.epoch/\s.c.t.epoch<=65535):Quiet C b s (fO C s x):=by
 unfold fO;have q1:Quiet C b s (s.record C 5 x 0 0 0):=Scene.bO (by simp) ⟨by simp,by simp;omega,by simp,he,by simp,by simp⟩;dsimp only;split
 ·rename_i h;simp[linked]at h;exact q1.trans (tj (by omega) he)
 ·exact q1
theorem Inv.fO {T:Tab} {x:Int} (hx:0<=x/\x<=3) (h:Inv {s.c with tab:=T}):Inv {(Sd.fO C s x).c with tab:=T}:=by
 unfold Sd.fO;dsimp only;split
 ·rcases Inv.leave (C:=C) (s:=s.record C 5 x 0 0 0) (T:=T) (x:=x) (h.head _)with⟨h1,_⟩|h1
  ·exact h1
  ·omega
 ·exact h.head _
theorem wD (xs:List Int):∀t:Tok,(kV t xs).holder=t.holder/\(kV t xs).epoch=t.epoch/\(kV t xs).la=t.la/\(kV t xs).bad=t.bad/\
 (((kV t xs)=t/\∀x∈xs,linked x=true->t.offer≠x)\/(kV t xs=t.bG/\t.offer∈xs)\/t.offer=-1/\kV t xs=t):=by
 induction xs with
 |nil=>intro t;exact⟨rfl,rfl,rfl,rfl,.inl ⟨rfl,by simp⟩⟩
 |cons x xs ih=>
  intro t;unfold kV;simp only[List.foldl_cons];by_cases hl:linked x=true
  ·simp only[hl,if_true];have hd:=qD t x;obtain⟨h1,h2,h3,h4,h5⟩:=ih (t.drop x).1;unfold kV at h1 h2 h3 h4 h5;refine⟨h1.trans hd.1,h2.trans hd.2.1,h3.trans hd.2.2.1,h4.trans hd.2.2.2.1,?_⟩;have hx:1<=x:=by simp[linked]at hl;exact hl.1
   rcases hd.2.2.2.2 with⟨e,_,e2⟩|⟨e,_,e2⟩
   ·rw[e]at h5⊢;rcases h5 with⟨h5,h6⟩|⟨h5,h6⟩|⟨h5,h6⟩
    ·refine .inl ⟨h5,λy hy hyl=>?_⟩;rcases List.mem_cons.1 hy with rfl|hy
     ·omega
     ·exact h6 y hy hyl
    ·exact .inr (.inl ⟨h5,by simp[h6]⟩)
    ·exact .inr (.inr ⟨h5,h6⟩)
   ·rw[e]at h5⊢;refine .inr (.inl ⟨?_,by simp[e2]⟩);rcases h5 with⟨h5,h6⟩|⟨h5,h6⟩|⟨h5,h6⟩
    ·exact h5
    ·rw[h5];rfl
    ·exact h6
  ·simp only[hl];obtain⟨h1,h2,h3,h4,h5⟩:=ih t;unfold kV at h1 h2 h3 h4 h5;refine⟨h1,h2,h3,h4,?_⟩;rcases h5 with⟨h5,h6⟩|⟨h5,h6⟩|⟨h5,h6⟩
   ·refine .inl ⟨h5,λy hy hyl=>?_⟩;rcases List.mem_cons.1 hy with rfl|hy
    ·exact absurd hyl hl
    ·exact h6 y hy hyl
   ·exact .inr (.inl ⟨h5,by simp[h6]⟩)
   ·exact .inr (.inr ⟨h5,h6⟩)
theorem Q_ (xs:List Int):∀(q:List Ask) (a:Ask),a∈AY q xs↔a∈q/\∀x∈xs,linked x=true->a.source≠x:=by
 induction xs with
 |nil=>intro q a;simp[AY]
 |cons x xs ih=>
  intro q a;have:=ih (if linked x then Q.drop q x else q) a;unfold AY at*;simp only[List.foldl_cons];rw[this];by_cases hl:linked x=true
  ·simp[hl,Q.drop,and_assoc]
  ·simp[hl]
theorem Lw (xs:List Int):∀(s:Scene) (T:Tab),(∀x∈xs,0<=x/\x<=3)->Inv {s.c with tab:=T}->
 Inv {(xs.foldl (fO C) s).c with tab:=T}/\Quiet C b s (xs.foldl (fO C) s)/\∃hd,(xs.foldl (fO C) s).c={s.c with q:=AY s.c.q xs,t:=kV s.c.t xs,head:=hd}:=by
 induction xs with
 |nil=>intro s T _ h;exact⟨h,Quiet.refl ..,s.c.head,rfl⟩
 |cons x xs ih=>
  intro s T hx h;have hx0:=hx x (by simp);have e0:0<=s.c.t.epoch/\s.c.t.epoch<=65535:=Inv.eC (c:={s.c with tab:=T}) h;obtain⟨h1,h2,hd,h3⟩:=ih (fO C s x) T (λy hy=>hx y (by simp[hy])) (h.fO hx0);obtain⟨hd1,h4⟩:=Dy C s x;refine⟨h1,(AZ hx0 e0).trans h2,hd,?_⟩;simp only[List.foldl_cons];rw[h3,h4];rfl
theorem nI {t:Timer} {m:Int} (h:t.most=m/\0<=t.n/\t.n<m):t.step=⟨t.n+1,m⟩/\(t.step.due=true↔t.n+1=m):=by
 obtain⟨h1,h2,h3⟩:=h;have:t.step=⟨t.n+1,m⟩:=by unfold Timer.step sat;rw[if_pos (by omega),h1]
 rw[this];refine⟨rfl,?_⟩;simp[Timer.due];omega
theorem GB {p:Pol} {t:Tab} (hp:cJ p) (h:xP p t):xP p t.tick:=by
 have hb:=hp.bR;constructor
 ·intro ho;unfold Tab.tick at*;dsimp only at*;split at ho
  ·rename_i h1;rw[if_pos h1];obtain⟨h2,h3⟩:=nI (h.aA h1);split at ho
   ·cases ho
   ·rename_i h4;rw[if_neg h4,h2];have:=h.aA h1;simp at h4;have:t.aA.2.n+1≠p.bR:=λe=>by rw[h3.2 e]at h4;cases h4
    dsimp only;omega
  ·rename_i h1;exact absurd ho h1
 ·intro i hi ho;unfold Tab.tick at*;dsimp only at*;split at ho
  ·rename_i h1;rw[if_pos h1];have h0:=h.az i hi h1;obtain⟨h2,h3⟩:=nI (m:=p.bR) ⟨h0.1,h0.2.1,h0.2.2.1⟩;split at ho
   ·cases ho
   ·rename_i h4;rw[if_neg h4];dsimp only;rw[h2];simp at h4;have:(t.az i).aN.n+1≠p.bR:=λe=>by rw[h3.2 e]at h4;cases h4
    dsimp only;omega
  ·rename_i h1;exact absurd ho h1
theorem Lx {t:Tab} {x:Int} (h:x∈t.ended):0<=x/\x<=3:=by
 unfold Tab.ended at h;simp only[List.mem_append]at h;rcases h with((h|h)|h)|h<;>split at h<;>simp at h<;>omega
theorem IQ {t:Tab} {x:Int} (hx:1<=x/\x<=3) (h:t.on x=true) (hn:x∉t.ended):t.tick.on x=true:=by
 have e:x=1\/x=2\/x=3:=by omega
 rw[Ad hx]at*;unfold Tab.fq Tab.tick at*;rcases e with rfl|rfl|rfl<;>simp[Tab.ended,Tab.dv]at*<;>simp[h]<;>simp[h]at hn<;>simp[hn,h]
theorem Ra {q:List Ask} {a:Ask} (h:a∈Q.kept q):∃x∈q,a={x with gu:=x.gu.step}/\a.gu.due=false:=by
 unfold Q.kept Q.oK at h;simp only[List.mem_filter,List.mem_map]at h;obtain⟨⟨x,hx,rfl⟩,h2⟩:=h;exact⟨x,hx,rfl,by simpa using h2⟩
theorem Rb {q:List Ask} {a:Ask} (h:a∈Q.gone q):∃x∈q,a={x with gu:=x.gu.step}/\a.gu.due=true:=by
 unfold Q.gone Q.oK at h;simp only[List.mem_filter,List.mem_map]at h;obtain⟨⟨x,hx,rfl⟩,h2⟩:=h;exact⟨x,hx,rfl,by simpa using h2⟩
theorem Jy.kept {p:Pol} {t:Tab} {h:Int} {q:List Ask} (k:Jy p t h q):Jy p t h (Q.kept q) where
 each:=by
  intro a ha;obtain⟨x,hx,rfl,hd⟩:=Ra ha;obtain⟨a1,a2,a3,a4,a5,a6,a7,a8⟩:=k.each x hx;obtain⟨e1,e2⟩:=nI ⟨a6,a7,a8⟩;refine⟨a1,a2,a3,a4,a5,by dsimp only;rw[e1],by dsimp only;rw[e1];dsimp only;omega,?_⟩;dsimp only at*;rw[e1];have:x.gu.n+1≠p.ask:=λe=>by rw[e2.2 e]at hd;cases hd
  dsimp only;omega
 sorted:=by
  unfold Q.kept Q.oK;refine List.Pairwise.filter _ ?_;rw[List.pairwise_map];exact k.sorted
 len:=by
  have:=List.length_filter_le (λa:Ask=>!a.gu.due) (Q.oK q);have h2:=k.len;unfold Q.kept;simp only[Q.oK,List.length_map]at*;omega
def hU (C:Crypt) (s:Scene) (a:Ask):Scene:=(s.gone a.source a.source 30).record C 12 a.source 0 30 0
theorem GC (q:List Ask):∀s:Scene,(∀a∈q,1<=a.source/\a.source<=3)->0<=s.c.t.epoch/\s.c.t.epoch<=65535->
 Quiet C b s (q.foldl (hU C) s)/\∃hd,(q.foldl (hU C) s).c={s.c with head:=hd}:=by
 induction q with
 |nil=>intro s _ _;exact⟨Quiet.refl ..,s.c.head,rfl⟩
 |cons a q ih=>
  intro s hq he;have ha:=hq a (by simp);have e1:(hU C s a).c={s.c with head:=C.next s.c.head ⟨12,a.source,0,s.c.t.epoch,30,0⟩}:=by
   unfold hU;rw[show∀(y:Scene) (k a n e w:Int),(y.record C k a n e w).c={y.c with head:=C.next y.c.head ⟨k,a,n,y.c.t.epoch,e,w⟩}from λ_ _ _ _ _ _=>rfl,Scene.gone_c]
  have q1:Quiet C b s (hU C s a):=by
   refine Quiet.trans (Scene.fy (Scene.jE (by omega) (by omega))) (Scene.bO (by simp) ?_);refine⟨by simp,by dsimp only;omega,by simp,?_,by simp,by simp⟩;dsimp only;rw[Scene.hear_c];exact he
  obtain⟨h1,hd,h2⟩:=ih (hU C s a) (λx hx=>hq x (by simp[hx])) (by rw[e1];exact he);refine⟨q1.trans h1,hd,?_⟩;simp only[List.foldl_cons];rw[h2,e1]
theorem Rc {p:Pol} {tab:Tab} {t:Tok} (h:ig p tab t):t.tick.1.holder=t.holder/\t.tick.1.epoch=t.epoch/\t.tick.1.la=t.la/\t.tick.1.bad=t.bad/\
 ig p tab t.tick.1/\((t.tick.2=-1/\t.tick.1.offer=t.offer)\/(t.tick.2=t.offer/\1<=t.offer/\t.offer<=3/\t.tick.1.offer=-1)):=by
 unfold Tok.tick;rcases h.offer with ho|⟨o1,o2,o3,o4,o5,o6,o7⟩
 ·rw[if_pos (by omega)];exact⟨rfl,rfl,rfl,rfl,h,.inl ⟨rfl,rfl⟩⟩
 ·rw[if_neg (by omega)];obtain⟨e1,e2⟩:=nI ⟨o5,o6,o7⟩;split
  ·exact⟨rfl,rfl,rfl,rfl,⟨h.holder,h.epoch,.inl rfl,h.lost⟩,.inr ⟨rfl,o1,o2,rfl⟩⟩
  ·rename_i hd;refine⟨rfl,rfl,rfl,rfl,⟨h.holder,h.epoch,.inr ⟨o1,o2,o3,o4,?_⟩,h.lost⟩,.inl ⟨rfl,rfl⟩⟩;have:t.oa.n+1≠p.offer:=λe=>hd (e2.2 e);dsimp only;rw[e1];dsimp only;omega
inductive Dz (p:Pol) (t:Tok) (q:List Ask) (there:Bool):Tok->Int->List Ask->Prop
 |here (h:t.holder=4\/there=true):Dz p t q there {t with la:=.zero} 0 q
 |aha (la:Timer) (h1:t.holder≠4) (h2:there=false) (hm:la.most=p.cM) (hn:la.n=t.la.n+1) (f_:la.n<p.cM):Dz p t q there {t with la:=la} 0 q
 |safe (h1:t.holder≠4) (h2:there=false) (hn:t.la.n+1=p.cM) (he:t.epoch=65535):Dz p t q there (t.pass 4 65535) 6 q
 |first (a:Ask) (l:List Ask) (h1:t.holder≠4) (h2:there=false) (hn:t.la.n+1=p.cM) (he:t.epoch<65535) (hq:q=a::l):Dz p t q there (t.pass a.source (t.epoch+1)) 5 (Q.drop q a.source)
 |none (h1:t.holder≠4) (h2:there=false) (hn:t.la.n+1=p.cM) (he:t.epoch<65535) (hq:q=[]):Dz p t q there (t.pass 4 (t.epoch+1)) 5 q
theorem Ly {p:Pol} {tab:Tab} {t:Tok} {q:List Ask} {there:Bool} (hp:cJ p) (h:ig p tab t) (hq:Jy p tab t.holder q):
 Dz p t q there (bK p t q there).1 (bK p t q there).2.1 (bK p t q there).2.2:=by
 unfold bK;have hb:=hp.cM;split
 ·rename_i h1;exact .here h1
 rename_i h1;have h1a:t.holder≠4:=λe=>h1 (.inl e);have h1b:there=false:=by
  cases there
  ·rfl
  ·exact absurd (.inr rfl) h1
 have MU:∃la:Timer,(if t.la.most=0 then Timer.start p.cM else t.la).step=la/\la.most=p.cM/\la.n=t.la.n+1/\(la.due=true↔t.la.n+1=p.cM):=by
  rcases h.lost with⟨l1,l2⟩|⟨l1,l2,l3⟩
  ·rw[if_pos l1];obtain⟨e1,e2⟩:=nI (t:=Timer.start p.cM) (m:=p.cM) (by simp[Timer.start];omega);have e0:(Timer.start p.cM).n=0:=rfl;refine⟨_,rfl,by rw[e1],by rw[e1,e0,l2],?_⟩;rw[e2,e0,l2]
  ·rw[if_neg (by omega)];obtain⟨e1,e2⟩:=nI ⟨l1,l2,l3⟩;exact⟨_,rfl,by rw[e1],by rw[e1],e2⟩
 obtain⟨la,e0,e1,e2,e3⟩:=MU;simp only[e0];split
 ·rename_i hd;refine .aha la h1a h1b e1 e2 ?_;have eS:t.la.n+1≠p.cM:=λe=>by rw[e3.2 e]at hd;cases hd
  rcases h.lost with⟨l1,l2⟩|⟨l1,l2,l3⟩<;>omega
 rename_i hd;have hn:t.la.n+1=p.cM:=e3.1 (by simpa using hd);have he:=h.epoch;split
 ·rename_i h6;have h6':t.epoch=65535:=by omega
  have:({t with la:=la}:Tok).dB=t.pass 4 65535:=by
   simp only[Tok.dB,Tok.pass];rw[if_pos h1a,h6'];rfl
  rw[this];exact .safe h1a h1b hn h6'
 rename_i h6;have f_:t.epoch<65535:=by omega
 have g4:({t with la:=la}:Tok).bA 4=(t.pass 4 (t.epoch+1),0):=by
  unfold Tok.bA;rw[if_neg (by omega),if_neg (λe=>h1a e.symm),if_neg (by dsimp only;omega)];rfl
 cases q with
 |nil=>
  have:(a9 ({t with la:=la}:Tok) []).2.1≠0:=by simp[a9]
  rw[if_pos this,g4];exact .none h1a h1b hn f_ rfl
 |cons a r=>
  have ha:=hq.each a (by simp);have ga:({t with la:=la}:Tok).bA a.source=(t.pass a.source (t.epoch+1),0):=by
   unfold Tok.bA;rw[if_neg (by omega),if_neg ha.2.2.2.2.1,if_neg (by dsimp only;omega)];rfl
  have e:a9 ({t with la:=la}:Tok) (a::r)=(t.pass a.source (t.epoch+1),0,Q.drop (a::r) a.source):=by
   unfold a9;simp only[ga];rw[if_neg (by simp)]
  rw[e,if_neg (by simp)];exact .first a r h1a h1b hn f_ rfl
theorem Re (h:Inv s.c):lF C b s (s.cM C) 3 0/\(s.cM C).c.tab=s.c.tab/\(s.cM C).c.p=s.c.p/\
 Dz s.c.p s.c.t s.c.q (s.c.tab.on s.c.t.holder) (s.cM C).c.t (bK s.c.p s.c.t s.c.q (s.c.tab.on s.c.t.holder)).2.1 (s.cM C).c.q/\
 ((bK s.c.p s.c.t s.c.q (s.c.tab.on s.c.t.holder)).2.1=5->(s.cM C).c.mode=s.c.p.lost/\(s.cM C).c.cA=⟨3,4,0⟩/\(s.cM C).c.pt=s.c.pt.hold ⟨3,4,0⟩)/\
 ((bK s.c.p s.c.t s.c.q (s.c.tab.on s.c.t.holder)).2.1=0->(s.cM C).c.mode=s.c.mode/\(s.cM C).c.cA=s.c.cA/\(s.cM C).c.pt=s.c.pt):=by
 have e0:=h.eC;have he:=h.tok.epoch;have hh:=h.tok.holder;have hb:=h.p.cM;have hL:=Ly (there:=s.c.tab.on s.c.t.holder) h.p h.tok h.q;unfold Scene.cM;dsimp only;generalize ht:(bK s.c.p s.c.t s.c.q (s.c.tab.on s.c.t.holder)).1=t at hL⊢;generalize hw:(bK s.c.p s.c.t s.c.q (s.c.tab.on s.c.t.holder)).2.1=how at hL⊢;generalize hq:(bK s.c.p s.c.t s.c.q (s.c.tab.on s.c.t.holder)).2.2=q at hL⊢;have hL':=hL;cases hL with
 |here h1=>
  rw[if_pos (by omega)];refine⟨.cg ⟨h.p,⟨h.tok.holder,h.tok.epoch,h.tok.offer,.inl ⟨rfl,rfl⟩⟩,h.q,h.tab,h.samples,h.mode,h.doors⟩ (Scene.aP rfl rfl rfl rfl),rfl,rfl,hL',by simp,λ_=>⟨rfl,rfl,rfl⟩⟩
 |aha la h1 h2 hm hn f_=>
  rw[if_pos (by omega)];have:0<=la.n:=by rcases h.tok.lost with⟨_,l2⟩|⟨_,l2,_⟩<;>omega
  refine⟨.cg ⟨h.p,⟨h.tok.holder,h.tok.epoch,h.tok.offer,.inr ⟨hm,this,f_⟩⟩,h.q,h.tab,h.samples,h.mode,h.doors⟩ (Scene.aP rfl rfl rfl rfl),rfl,rfl,hL',by simp,λ_=>⟨rfl,rfl,rfl⟩⟩
 |safe h1 h2 hn h6=>
  rw[if_neg (by omega),if_neg (by omega)];have i1:Inv (Scene.goes C ({s with c:={s.c with q:=s.c.q}}:Scene) (s.c.t.pass 4 65535) 6 0).c:=Inv.goes (s:=s) h (ig.pass h.p (by omega) (by omega));have hd:Q.drop s.c.q 4=s.c.q:=by
   unfold Q.drop;rw[List.filter_eq_self];intro a ha;have:=(h.q.each a ha).2.2.1;simp;omega
  have eq2:(Scene.goes C ({s with c:={s.c with q:=s.c.q}}:Scene) (s.c.t.pass 4 65535) 6 0).c.q=s.c.q:=by
   rw[Scene.goes_q];exact hd
  refine⟨⟨i1.wA (by simpa using h.p.safe) _ _,.inr ⟨6,?_,?_⟩⟩,by simp[Scene.dt],by simp[Scene.dt],?_,by simp,by simp⟩
  ·refine z6.quiet (Scene.kM (s:=s) (by simp[Tok.pass]) (by simpa[Tok.pass]using λe=>h1 e.symm) rfl (.inr ⟨h6,rfl,rfl⟩) e0.1 (by simp) (by simp)) fZ ?_;simp[Scene.dt,Tok.pass]
  ·refine .inr (.inr (.inr (.inr (.inr ⟨rfl,by simp[Scene.dt,Tok.pass],.inr ⟨rfl,h6,?_⟩⟩))));simpa[Scene.dt]using h2
  ·have e1:(Scene.dt (Scene.goes C ({s with c:={s.c with q:=s.c.q}}:Scene) (s.c.t.pass 4 65535) 6 0) (Scene.goes C ({s with c:={s.c with q:=s.c.q}}:Scene) (s.c.t.pass 4 65535) 6 0).c.p.safe dH).c.t=s.c.t.pass 4 65535:=by simp[Scene.dt]
   rw[e1];have e2:(Scene.dt (Scene.goes C ({s with c:={s.c with q:=s.c.q}}:Scene) (s.c.t.pass 4 65535) 6 0) (Scene.goes C ({s with c:={s.c with q:=s.c.q}}:Scene) (s.c.t.pass 4 65535) 6 0).c.p.safe dH).c.q=s.c.q:=eq2;rw[e2];exact hL'
 |first a r h1 h2 hn f_ hqa=>
  rw[if_neg (by omega),if_pos rfl];have ha:=h.q.each a (by rw[hqa];simp);obtain⟨g1,g2⟩:=mO (C:=C) (b:=b) (s:=s) (kind:=3) (link:=0) (how:=5) (n:=0) (f:=a.source) (q:=Q.drop s.c.q a.source) h (by omega) ⟨_,rfl⟩ ha.2.2.2.2.1 f_ (by simp) (by simp)
   (.inr (.inr (.inr (.inr (.inl ⟨rfl,rfl,by simpa using h2,by simpa[Tok.pass]using ha.2.2.2.1⟩)))))
  have hdd:Q.drop (Q.drop s.c.q a.source) a.source=Q.drop s.c.q a.source:=by
   unfold Q.drop;rw[List.filter_filter];congr 1;funext x;simp
  have eq2:(Scene.goes C ({s with c:={s.c with q:=Q.drop s.c.q a.source}}:Scene) (s.c.t.pass a.source (s.c.t.epoch+1)) 5 0).c.q=Q.drop s.c.q a.source:=by
   rw[Scene.goes_q];exact hdd
  generalize hX:Scene.goes C ({s with c:={s.c with q:=Q.drop s.c.q a.source}}:Scene) (s.c.t.pass a.source (s.c.t.epoch+1)) 5 0=X at g1 g2 eq2;have eX:X.c.t=s.c.t.pass a.source (s.c.t.epoch+1)/\X.c.p=s.c.p/\X.c.tab=s.c.tab:=by subst hX;simp
  have ept:X.c.pt=s.c.pt:=by
   subst hX;obtain⟨x,e⟩:=Scene.z7 C ({s with c:={s.c with q:=Q.drop s.c.q a.source}}:Scene) (s.c.t.pass a.source (s.c.t.epoch+1)) 5 0;rw[e]
  refine⟨⟨g1.wA (by rw[eX.2.1];exact h.p.lost) _ _,?_⟩,by simp[Scene.dt,eX],by simp[Scene.dt,eX],by simpa[Scene.dt,eX,eq2]using hL',λ_=>⟨by simp[Scene.dt,eX],rfl,by simp[Scene.dt,ept]⟩,by simp⟩;rcases g2 with g2|⟨how,g2,g3⟩
  ·exact .inl (g2.trans fZ)
  ·exact .inr ⟨how,g2.quiet fZ (by simp[Scene.dt,eX,Tok.pass]),by simpa[ou,Scene.dt]using g3⟩
 |none h1 h2 hn f_ hqa=>
  rw[if_neg (by omega),if_pos rfl];have hq0:s.c.q=Q.drop s.c.q 4:=by rw[hqa];rfl
  obtain⟨g1,g2⟩:=mO (C:=C) (b:=b) (s:=s) (kind:=3) (link:=0) (how:=5) (n:=0) (f:=4) (q:=s.c.q) h (by omega) ⟨4,hq0⟩ (λe=>h1 e.symm) f_ (by simp) (by simp)
   (.inr (.inr (.inr (.inr (.inl ⟨rfl,rfl,by simpa using h2,by simp[Tok.pass,Tab.on]⟩)))))
  have eq2:(Scene.goes C ({s with c:={s.c with q:=s.c.q}}:Scene) (s.c.t.pass 4 (s.c.t.epoch+1)) 5 0).c.q=s.c.q:=by
   rw[Scene.goes_q];exact hq0.symm
  generalize hX:Scene.goes C ({s with c:={s.c with q:=s.c.q}}:Scene) (s.c.t.pass 4 (s.c.t.epoch+1)) 5 0=X at g1 g2 eq2;have eX:X.c.t=s.c.t.pass 4 (s.c.t.epoch+1)/\X.c.p=s.c.p/\X.c.tab=s.c.tab:=by subst hX;simp
  have ept:X.c.pt=s.c.pt:=by
   subst hX;obtain⟨x,e⟩:=Scene.z7 C ({s with c:={s.c with q:=s.c.q}}:Scene) (s.c.t.pass 4 (s.c.t.epoch+1)) 5 0;rw[e]
  refine⟨⟨g1.wA (by rw[eX.2.1];exact h.p.lost) _ _,?_⟩,by simp[Scene.dt,eX],by simp[Scene.dt,eX],by simpa[Scene.dt,eX,eq2]using hL',λ_=>⟨by simp[Scene.dt,eX],rfl,by simp[Scene.dt,ept]⟩,by simp⟩;rcases g2 with g2|⟨how,g2,g3⟩
  ·exact .inl (g2.trans fZ)
  ·exact .inr ⟨how,g2.quiet fZ (by simp[Scene.dt,eX,Tok.pass]),by simpa[ou,Scene.dt]using g3⟩
structure Mid (c c':Core):Prop where
 inv:Inv c'
 p:c'.p=c.p
 tab:c'.tab=c.tab.tick
 holder:c'.t.holder=c.t.holder
 epoch:c'.t.epoch=c.t.epoch
 la:c'.t.la=c.t.la
 bad:c'.t.bad=c.t.bad
 q:c'.q=Q.kept (AY c.q c.tab.ended)
 offer:c'.t.offer=(kV c.t c.tab.ended).tick.1.offer
 mode:c'.mode=c.mode/\c'.cA=c.cA/\c'.pt=c.pt
 rest:c'.samples=c.samples/\c'.beyond=c.beyond/\c'.doors=c.doors
def iU (C:Crypt) (s:Scene):Scene:=s.c.tab.ended.foldl (fO C) ({s with c:={s.c with tab:=s.c.tab.tick}}:Scene)
def iV (C:Crypt) (s:Scene):Scene:=
 let s2:=s.aZ s.c.t.tick.1
 if 0<=s.c.t.tick.2 then(s2.gone s.c.t.tick.1.holder s.c.t.tick.2 30).record C 12 s.c.t.tick.2 0 30 0 else s2
def lZ (C:Crypt) (s:Scene):Scene:=(Q.gone s.c.q).foldl (hU C) ({s with c:={s.c with q:=Q.kept s.c.q}}:Scene)
theorem rn (C:Crypt) (s:Scene):s.tick C=(let s6:=(lZ C (iV C (iU C s))).cM C;{s6 with c:={s6.c with pt:=s6.c.pt.step s6.c.p}}):=rfl
theorem Rf (h:Inv s.c):Quiet C b s (lZ C (iV C (iU C s)))/\Mid s.c (lZ C (iV C (iU C s))).c:=by
 have e0:=h.eC;obtain⟨a1,a2,hd1,a3⟩:=Lw (C:=C) (b:=b) s.c.tab.ended ({s with c:={s.c with tab:=s.c.tab.tick}}:Scene) s.c.tab (λx hx=>Lx hx) h;have q1:Quiet C b s (iU C s):=Quiet.trans (t:=({s with c:={s.c with tab:=s.c.tab.tick}}:Scene)) (Scene.aP rfl rfl rfl rfl) a2;have i1:Inv (iU C s).c:=by
  have e3:(iU C s).c={s.c with tab:=s.c.tab.tick,q:=AY s.c.q s.c.tab.ended,t:=kV s.c.t s.c.tab.ended,head:=hd1}:=a3;refine Inv.sr (T:=s.c.tab.tick) (Inv.Ib (T:=s.c.tab) a1 (by rw[e3];exact GB h.p h.tab) ?_ ?_) (by rw[e3])
  ·rw[e3];intro x hx;obtain⟨My,hx2⟩:=(Q_ _ _ _).1 hx;have:=h.q.each x My;refine IQ ⟨this.2.1,this.2.2.1⟩ this.2.2.2.1 (λhm=>hx2 x.source hm ?_ rfl);simp[linked];omega
  ·rw[e3];intro ho;have hf:=wD s.c.tab.ended s.c.t;show s.c.tab.tick.on (kV s.c.t s.c.tab.ended).offer=true;have xm:0<=(kV s.c.t s.c.tab.ended).offer:=ho;rcases hf.2.2.2.2 with⟨e,eS⟩|⟨e,_⟩|⟨e,e'⟩
   ·rw[e]at xm⊢;rcases h.tok.offer with h1|⟨h1,h2,_,h3,_⟩
    ·omega
    ·refine IQ ⟨h1,h2⟩ h3 (λhm=>eS _ hm ?_ rfl);simp[linked];omega
   ·rw[e]at xm;simp[Tok.bG]at xm
   ·rw[e',e]at xm;omega
 have e1:(iU C s).c={s.c with tab:=s.c.tab.tick,q:=AY s.c.q s.c.tab.ended,t:=kV s.c.t s.c.tab.ended,head:=hd1}:=a3;have hf:=wD s.c.tab.ended s.c.t;generalize iU C s=s1 at*;have e10:=i1.eC;have hk:=Rc i1.tok;have i2:Inv {s1.c with t:=s1.c.t.tick.1}:=⟨i1.p,hk.2.2.2.2.1,by show Jy _ _ s1.c.t.tick.1.holder _;rw[hk.1];exact i1.q,i1.tab,i1.samples,i1.mode,i1.doors⟩;have q2:Quiet C b s1 (iV C s1)/\∃hd,(iV C s1).c={s1.c with t:=s1.c.t.tick.1,head:=hd}:=by
  have q20:Quiet C b s1 (s1.aZ s1.c.t.tick.1):=Scene.aP hk.1 hk.2.1 rfl rfl;unfold iV;dsimp only;split
  ·rename_i hw;have hw':1<=s1.c.t.tick.2/\s1.c.t.tick.2<=3:=by rcases hk.2.2.2.2.2 with⟨e,_⟩|⟨e,_,_,_⟩<;>omega
   refine⟨q20.trans (Quiet.trans (Scene.fy (Scene.jE (by omega) (by omega))) (Scene.bO (by simp) ?_)),?_⟩
   ·refine⟨by simp,by dsimp only;omega,by simp,?_,by simp,by simp⟩;dsimp only;rw[Scene.hear_c];show 0<=s1.c.t.tick.1.epoch/\s1.c.t.tick.1.epoch<=65535;rw[hk.2.1];exact e10
   ·refine⟨C.next s1.c.head ⟨12,s1.c.t.tick.2,0,s1.c.t.tick.1.epoch,30,0⟩,?_⟩;rw[show∀(y:Scene) (k a n e w:Int),(y.record C k a n e w).c={y.c with head:=C.next y.c.head ⟨k,a,n,y.c.t.epoch,e,w⟩}from λ_ _ _ _ _ _=>rfl,Scene.gone_c];rfl
  ·exact⟨q20,s1.c.head,rfl⟩
 obtain⟨q2,hd2,e2⟩:=q2;have Xf:Inv (iV C s1).c:=by rw[e2];exact i2.head _
 generalize iV C s1=s2 at*;have e20:=Xf.eC;obtain⟨a4,hd3,e3⟩:=GC (C:=C) (b:=b) (Q.gone s2.c.q) ({s2 with c:={s2.c with q:=Q.kept s2.c.q}}:Scene)
  (λa ha=>by
   obtain⟨x,hx,rfl,_⟩:=Rb ha;have:=Xf.q.each x hx;exact⟨this.2.1,this.2.2.1⟩) e20
 have q3:Quiet C b s2 (lZ C s2):=Quiet.trans (t:=({s2 with c:={s2.c with q:=Q.kept s2.c.q}}:Scene)) (Scene.aP rfl rfl rfl rfl) a4;have Rg:(lZ C s2).c={s2.c with q:=Q.kept s2.c.q,head:=hd3}:=e3;have i3:Inv (lZ C s2).c:=by
  rw[Rg];exact⟨Xf.p,Xf.tok,Xf.q.kept,Xf.tab,Xf.samples,Xf.mode,Xf.doors⟩
 refine⟨q1.trans (q2.trans q3),i3,?_,?_,?_,?_,?_,?_,?_,?_,?_,?_⟩
 ·rw[Rg,e2,e1]
 ·rw[Rg,e2,e1]
 ·rw[Rg,e2];show s1.c.t.tick.1.holder=_;rw[hk.1,e1];exact hf.1
 ·rw[Rg,e2];show s1.c.t.tick.1.epoch=_;rw[hk.2.1,e1];exact hf.2.1
 ·rw[Rg,e2];show s1.c.t.tick.1.la=_;rw[hk.2.2.1,e1];exact hf.2.2.1
 ·rw[Rg,e2];show s1.c.t.tick.1.bad=_;rw[hk.2.2.2.1,e1];exact hf.2.2.2.1
 ·rw[Rg,e2,e1]
 ·rw[Rg,e2,e1]
 ·rw[Rg,e2,e1];exact⟨rfl,rfl,rfl⟩
 ·rw[Rg,e2,e1];exact⟨rfl,rfl,rfl⟩
structure ac5 (c m c':Core) (how:Int):Prop where
 p:c'.p=c.p
 tab:c'.tab=c.tab.tick
 lost:Dz c.p m.t m.q (m.tab.on m.t.holder) c'.t how c'.q
 aeb:how=5->c'.mode=c.p.lost/\c'.cA=⟨3,4,0⟩/\c'.pt=(c.pt.hold ⟨3,4,0⟩).step c.p
 stays:how=0->c'.mode=c.mode/\c'.cA=c.cA/\c'.pt=c.pt.step c.p
theorem wF (h:Inv s.c):lF C b s (s.tick C) 3 0/\∃m how,Mid s.c m/\ac5 s.c m (s.tick C).c how:=by
 obtain⟨q3,hm⟩:=Rf (C:=C) (b:=b) h;rw[rn];generalize lZ C (iV C (iU C s))=s3 at*;obtain⟨⟨i4,w4⟩,t4,p4,l4,r4,gi⟩:=Re (C:=C) (b:=b) hm.inv;generalize hs4:s3.cM C=s4 at*;dsimp only;have i5:Inv {s4.c with pt:=s4.c.pt.step s4.c.p}:=⟨i4.p,i4.tok,i4.q,i4.tab,i4.samples,i4.mode,i4.doors⟩;have q5:Quiet C b s4 ({s4 with c:={s4.c with pt:=s4.c.pt.step s4.c.p}}:Scene):=Scene.aP rfl rfl rfl rfl;refine⟨⟨i5,?_⟩,s3.c,(bK s3.c.p s3.c.t s3.c.q (s3.c.tab.on s3.c.t.holder)).2.1,hm,p4.trans hm.p,t4.trans hm.tab,?_,?_,?_⟩
 ·rcases w4 with w4|⟨how,g4,w4⟩
  ·exact .inl (q3.trans (w4.trans q5))
  ·refine .inr ⟨how,(q3.goes g4).quiet q5 g4.offer,?_⟩;unfold ou at*;simp only[hm.holder,hm.epoch]at w4;rcases w4 with⟨e,k,_⟩|⟨e,k,_⟩|⟨e,k,_⟩|⟨e,k,_⟩|w4|⟨e,k,w4⟩
   ·omega
   ·omega
   ·omega
   ·omega
   ·exact .inr (.inr (.inr (.inr (.inl ⟨w4.1,rfl,w4.2.2⟩))))
   ·refine .inr (.inr (.inr (.inr (.inr ⟨e,k,?_⟩))));rcases w4 with⟨e',_⟩|w4
    ·omega
    ·exact .inr ⟨rfl,w4.2⟩
 ·rw[hm.p]at l4;rw[hm.p];exact l4
 ·intro e;obtain⟨r1,r2,r3⟩:=r4 e;refine⟨by rw[<-hm.p];exact r1,r2,?_⟩;show s4.c.pt.step s4.c.p=_;rw[r3,p4,hm.p,hm.mode.2.2]
 ·intro e;obtain⟨r1,r2,r3⟩:=gi e;refine⟨by rw[<-hm.mode.1];exact r1,by rw[<-hm.mode.2.1];exact r2,?_⟩;show s4.c.pt.step s4.c.p=_;rw[r3,p4,hm.p,hm.mode.2.2]
structure Calm (s s':Scene):Prop where
 recs:∃rs:List Rec,s'.recs=s.recs++rs/\∀r∈rs,r.kind≠1/\r.kind≠7
 sent:∃ts:List (Int×Reply),s'.sent=s.sent++ts/\∀x∈ts,132<x.2.kind
theorem Calm.refl (s:Scene):Calm s s:=⟨⟨[],by simp,by simp⟩,⟨[],by simp,by simp⟩⟩
theorem Calm.trans {s t u:Scene} (h:Calm s t) (k:Calm t u):Calm s u:=by
 obtain⟨⟨rs,r1,r2⟩,⟨ts,t1,t2⟩⟩:=h;obtain⟨⟨qs,q1,q2⟩,⟨us,u1,u2⟩⟩:=k;exact⟨⟨rs++qs,by rw[q1,r1,List.append_assoc],λr hr=>(List.mem_append.1 hr).elim (r2 r) (q2 r)⟩,⟨ts++us,by rw[u1,t1,List.append_assoc],λx hx=>(List.mem_append.1 hx).elim (t2 x) (u2 x)⟩⟩
theorem dc {k a n e w:Int} (h1:k≠1) (h7:k≠7):Calm s (s.record C k a n e w):=⟨⟨[_],rfl,by simpa using⟨h1,h7⟩⟩,⟨[],by simp,by simp⟩⟩
theorem gj {r:Reply} (h:132<r.kind):Calm s (s.hear l r):=by
 unfold Scene.hear;split
 ·exact⟨⟨[],by simp,by simp⟩,⟨[(l,r)],rfl,by simpa using h⟩⟩
 ·exact Calm.refl _
theorem aD {c:Core}:Calm s ({s with c:=c}:Scene):=⟨⟨[],by simp,by simp⟩,⟨[],by simp,by simp⟩⟩
theorem gX {t:Tok} {how n:Int}:Calm s (s.goes C t how n):=by
 unfold Scene.goes;exact(Calm.trans (t:=({s with c:={s.c with t:=t,q:=Q.drop s.c.q t.holder}}:Scene)) aD (gj (by simp))).trans ((gj (by simp)).trans (dc (by simp) (by simp)))
theorem wG {x:Int}:Calm s (s.leave C x):=by
 unfold Scene.leave;dsimp only;split
 ·exact aD
 ·exact Calm.trans (t:=({s with c:={s.c with q:=Q.drop s.c.q x,t:=(s.c.t.drop x).1}}:Scene)) aD ((gj (by simp)).trans (dc (by simp) (by simp)))
structure tz (c c':Core):Prop where
 p:c'.p=c.p
 t:c'.t=c.t
 q:c'.q=c.q
 on:∀x,c'.tab.on x=c.tab.on x
 role:∀x,c'.tab.role x=c.tab.role x
 mode:c'.mode=c.mode
 cA:c'.cA=c.cA
 pt:c'.pt=c.pt
inductive Class (s s':Scene) (l:Int):Prop
 |rejected (e:Int) (he:e≠0) (hr:s'.recs=s.recs++[⟨1,l,0,s.c.t.epoch,e,0⟩]) (hs:s'.sent=s.sent) (hc:tz s.c s'.c)
 |refused (n e:Int) (he:e≠0) (hr:s'.recs=s.recs++[⟨7,l,n,s.c.t.epoch,e,0⟩]) (hs:s'.sent=s.sent++[(l,{kind:=132,seq:=n,code:=e})]) (hc:tz s.c s'.c)
 |done (r:Reply) (hr:129<=r.kind/\r.kind<=131) (rs:List Rec) (h1:s'.recs=s.recs++rs) (h2:∀r∈rs,r.kind≠1/\r.kind≠7) (xs ys:List (Int×Reply)) (h3:s'.sent=s.sent++(xs++(l,r)::ys)) (h4:∀x∈xs++ys,132<x.2.kind)
theorem tz.refl (c:Core):tz c c:=⟨rfl,rfl,rfl,λ_=>rfl,λ_=>rfl,rfl,rfl,rfl⟩
theorem fG {c:Core} {e:Int} (he:e≠0) (hc:tz s.c c):Class s (Scene.cW C ({s with c:=c}:Scene) l e) l:=
 .rejected e he (by simp[Scene.cW,hc.t]) rfl ⟨hc.p,hc.t,hc.q,hc.on,hc.role,hc.mode,hc.cA,hc.pt⟩
theorem cR {c:Core} {n e:Int} (he:e≠0) (hc:tz s.c c):Class s (Scene.refuse C ({s with c:=c}:Scene) l n e) l:=
 .refused n e he (by simp[Scene.refuse,hc.t]) rfl ⟨hc.p,hc.t,hc.q,hc.on,hc.role,hc.mode,hc.cA,hc.pt⟩
theorem DA {X:Scene} {r:Reply} {k a n e w:Int} (h:Calm s X) (hr:129<=r.kind/\r.kind<=131) (h1:k≠1) (h7:k≠7):Class s ((X.tell l r).record C k a n e w) l:=by
 obtain⟨⟨rs,r1,r2⟩,⟨ts,t1,t2⟩⟩:=h;refine .done r hr (rs++[⟨k,a,n,X.c.t.epoch,e,w⟩]) (by simp[r1]) ?_ ts [] (by simp[t1]) (by simpa using t2);intro x hx;rcases List.mem_append.1 hx with hx|hx
 ·exact r2 x hx
 ·simp at hx;subst hx;exact⟨h1,h7⟩
theorem fD {X:Scene} {n:Int} (h:Calm s X):Class s (X.done l n) l:=by
 obtain⟨⟨rs,r1,r2⟩,⟨ts,t1,t2⟩⟩:=h;exact .done {kind:=131,seq:=n} (by simp) rs r1 r2 ts [] (by simp[Scene.done,Scene.tell,t1]) (by simpa using t2)
theorem Lz (h1:m.kind=3\/m.kind=4\/m.kind=5\/m.kind=6\/m.kind=7\/m.kind=8\/m.kind=9\/m.kind=10\/m.kind=11):Class s (s.uO C l m) l:=by
 have hS:=tz.refl s.c;unfold Scene.uO;split
 ·exact fD (Calm.refl _)
 split
 ·unfold Scene.Yz;exact fD (Calm.trans (t:=({s with c:={s.c with tab:=s.c.tab.end_ l}}:Scene)) aD (wG.trans (dc (by simp) (by simp))))
 split
 ·unfold Scene.ask;dsimp only;split
  ·rename_i he;exact cR he hS
  refine fD ?_;split
  ·exact Calm.trans aD gX
  ·exact Calm.trans aD (Calm.trans aD (dc (by simp) (by simp)))
 split
 ·unfold Scene.offer;dsimp only;split
  ·rename_i he;exact cR he hS
  exact fD (Calm.trans aD ((gj (by simp)).trans (dc (by simp) (by simp))))
 split
 ·unfold Scene.accept;dsimp only;split
  ·rename_i he;exact cR he hS
  exact fD gX
 split
 ·unfold Scene.fb;dsimp only;split
  ·rename_i he;exact cR he hS
  exact fD (Calm.trans aD ((gj (by simp)).trans (dc (by simp) (by simp))))
 split
 ·unfold Scene.release;dsimp only;split
  ·rename_i he;exact cR he hS
  exact fD (Calm.trans aD gX)
 split
 ·unfold Scene.command;dsimp only;split
  ·rename_i he;exact cR he hS
  refine fD (Calm.trans ?_ (dc (by simp) (by simp)));split<;>exact aD
 ·omega
theorem Class.sr {T:Tab} {t:Scene} (k:Class ({s with c:={s.c with tab:=T}}:Scene) t l) (tP:∀x,T.on x=s.c.tab.on x) (hr:∀x,T.role x=s.c.tab.role x):Class s t l:=by
 cases k with
 |rejected e he oG hs hc=>exact .rejected e he oG hs ⟨hc.p,hc.t,hc.q,λx=>(hc.on x).trans (tP x),λx=>(hc.role x).trans (hr x),hc.mode,hc.cA,hc.pt⟩
 |refused n e he oG hs hc=>exact .refused n e he oG hs ⟨hc.p,hc.t,hc.q,λx=>(hc.on x).trans (tP x),λx=>(hc.role x).trans (hr x),hc.mode,hc.cA,hc.pt⟩
 |done r hr rs h1 h2 xs ys h3 h4=>exact .done r hr rs h1 h2 xs ys h3 h4
theorem wH {t:Tab} {l:Int} {w:cU} {y:Timer} (h:t.fq l=true) (x:Int):
 (t.eU (l.toNat-1) {(t.az (l.toNat-1))with seen:=w,on:=true,aN:=y}).on x=t.on x/\
 (t.eU (l.toNat-1) {(t.az (l.toNat-1))with seen:=w,on:=true,aN:=y}).role x=t.role x:=by
 have hl:(t.az (l.toNat-1)).on=true:=by unfold Tab.fq at h;simp at h;exact h.2
 have e1:∀x,(t.eU (l.toNat-1) {(t.az (l.toNat-1))with seen:=w,on:=true,aN:=y}).fq x=t.fq x:=by
  intro x;unfold Tab.fq Tab.eU;dsimp only;split
  ·rename_i e;rw[e,hl]
  ·rfl
 refine⟨?_,?_⟩
 ·unfold Tab.on;rw[e1];rfl
 ·unfold Tab.role;rw[e1];split
  ·unfold Tab.eU;dsimp only;split
   ·rename_i e;rw[e]
   ·rfl
  ·rfl
theorem GD {n:Nat} {f:Byt} {code:Int} (hC:nD C):Class s (s.item C l code n f) l:=by
 have hS:=tz.refl s.c;unfold Scene.item;split
 ·rename_i he;exact fG he hS
 split
 ·unfold Scene.jt;split
  ·exact fG (by simp) hS
  split
  ·exact cR (by simp) hS
  dsimp only;split
  ·exact cR (by simp) hS
  ·exact DA aD (by simp) (by simp) (by simp)
 split
 ·unfold Scene.prove;split
  ·exact fG (by simp) hS
  split
  ·exact fG (by simp) hS
  dsimp only;split
  ·exact cR (by simp) hS
  split
  ·exact fG (by simp) ⟨rfl,rfl,rfl,λ_=>rfl,λ_=>rfl,rfl,rfl,rfl⟩
  split
  ·exact cR (by simp) ⟨rfl,rfl,rfl,λ_=>rfl,λ_=>rfl,rfl,rfl,rfl⟩
  split
  ·rename_i he;exact cR he ⟨rfl,rfl,rfl,λ_=>rfl,λ_=>rfl,rfl,rfl,rfl⟩
  ·exact DA aD (by simp) (by simp) (by simp)
 split
 ·rename_i t e he;have:=qF he;exact fG (by omega) hS
 ·rename_i t m he;obtain⟨g1,g2,g3,g4,g5⟩:=Ac hC he;subst g5;have hk:=g2.kind;exact Class.sr (Lz (by omega)) (λx=>(wH g1 x).1) (λx=>(wH g1 x).2)
theorem DB {x:dq}:∃ts:List (Int×Reply),(s.cV C x).sent=s.sent++ts/\∀y∈ts,132<y.2.kind:=by
 have key:∀t:Scene,Calm s t->∃ts:List (Int×Reply),t.sent=s.sent++ts/\∀y∈ts,132<y.2.kind:=λt h=>h.sent;have Xg:∀(t:Scene) (k a n e w:Int),(∃ts:List (Int×Reply),t.sent=s.sent++ts/\∀y∈ts,132<y.2.kind)->∃ts:List (Int×Reply),(t.record C k a n e w).sent=s.sent++ts/\∀y∈ts,132<y.2.kind:=λt k a n e w h=>h;unfold Scene.cV;split
 ·exact key _ aD
 dsimp only;split
 ·split
  ·exact Xg _ _ _ _ _ _ (key _ aD)
  ·exact key _ (Calm.trans aD gX)
 split
 ·split
  ·exact Xg _ _ _ _ _ _ (key _ aD)
  ·exact Xg _ _ _ _ _ _ (key _ aD)
 split
 ·split
  ·exact Xg _ _ _ _ _ _ (key _ aD)
  ·exact key _ (Calm.trans aD gX)
 ·exact key _ aD
theorem pC {α:Type} (f:Scene->α->Scene) (h:∀s a,Calm s (f s a)) (l:List α):∀s,Calm s (l.foldl f s):=by
 induction l with
 |nil=>exact Calm.refl
 |cons a l ih=>intro s;exact(h s a).trans (ih _)
theorem DC {bad:Bool}:Calm s (s.fM C bad):=by
 cases bad
 ·exact aD
 rw[sT true rfl];refine Calm.trans (t:=_) ?_ (Calm.trans (pC cY (λs a=>?_) _ _) aD)
 ·split
  ·exact Calm.trans aD gX
  ·exact Calm.trans aD aD
 ·unfold cY;exact Calm.trans aD (gj (by simp))
theorem LD:Calm s (s.tick C):=by
 rw[rn];dsimp only;have h1:Calm s (iU C s):=by
  unfold iU;refine Calm.trans aD (pC (fO C) (λs x=>?_) _ _);unfold fO;dsimp only;split
  ·exact Calm.trans (dc (by simp) (by simp)) wG
  ·exact dc (by simp) (by simp)
 refine h1.trans ?_;generalize iU C s=s;have h2:Calm s (iV C s):=by
  unfold iV;dsimp only;split
  ·exact Calm.trans aD ((gj (by simp)).trans (dc (by simp) (by simp)))
  ·exact aD
 refine h2.trans ?_;generalize iV C s=s;have h3:Calm s (lZ C s):=by
  unfold lZ;refine Calm.trans aD (pC (hU C) (λs a=>?_) _ _);unfold hU;exact(gj (by simp)).trans (dc (by simp) (by simp))
 refine h3.trans ?_;generalize lZ C s=s;unfold Scene.cM;dsimp only;refine Calm.trans ?_ aD;split
 ·exact aD
 ·split<;>exact Calm.trans aD (Calm.trans gX aD)
end Sd
namespace Sd
variable{C:Crypt}
def yy (C:Crypt) (c:Core):Core:=((⟨c,[],[]⟩:Scene).tick C).c
end Sd
