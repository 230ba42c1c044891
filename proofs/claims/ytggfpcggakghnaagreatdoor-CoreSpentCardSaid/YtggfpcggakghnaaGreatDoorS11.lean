/- Part 11 of the proof. -/
import Derived.Test.YtggfpcggakghnaaGreatDoorRows
import Derived.ProofKit
import Derived.OpenShut
import Derived.FnData
import Derived.MakeChecks
import Derived.Stop.Joined
import Derived.WalkKit
import Derived.Below
import Derived.BigQuiet
import Derived.WalkSpells
import Derived.Lib.Hide
import Derived.Laws.CopyOwn
import Derived.Carry
import Derived.Test.YtggfpcggakghnaaGreatDoorS10
set_option linter.all false
set_option maxRecDepth 100000
set_option maxHeartbeats 4000000
open Go.Proofs.Tryz
open Go.IntKind (u8 u16 u32 u64 i64)
namespace Sx
open Go Go.RowKit Go.BigFrame
theorem St.Cy {ms:List Nat} {w0 w:World} {b:av} {bs:List av} (S:St ms w0 (b::bs) w):St ms w0 (⟨b.id,false,b.obj⟩::bs) w:=by
 refine St.mk' S.ch ?_ ?_ ?_
 ·intro x hx;rcases List.mem_cons.1 hx with rfl|hx
  ·exact S.at' (x:=b) (List.mem_cons_self)
  ·exact S.at' (List.mem_cons_of_mem _ hx)
 ·intro x hx h;rcases List.mem_cons.1 hx with rfl|hx
  ·cases h
  ·exact S.ql (List.mem_cons_of_mem _ hx) h
 ·have:=List.pairwise_cons.1 S.pw;refine List.pairwise_cons.2 ⟨?_,this.2⟩;intro y hy h;refine this.1 y hy ?_;rcases h with h|h
  ·cases h
  ·exact .inr h
end Sx
namespace Go.Proofs.YtggfpcggakghnaaGreatDoor
open Go Go.RowKit Go.BigFrame Sx Vx
variable{fr:Sd.Reply->Nat×Sd.Byt}
def fS (s:Sd.Scene):Sd.Scene:=⟨s.c,[],[]⟩
def H_ (l:List Sd.Rec) (j:Nat):List Value:=[.int .i64 (l.getD j default).kind,.int .i64 (l.getD j default).source,.int .i64 (l.getD j default).seq,.int .i64 (l.getD j default).epoch,.int .i64 (l.getD j default).code,.int .i64 (l.getD j default).how]
theorem EO:∀(l:List Sd.Rec),(List.range l.length).flatMap (H_ l)=oT l
 |[]=>rfl
 |r::l=>by
  rw[List.length_cons,List.range_succ_eq_map,List.flatMap_cons,List.flatMap_map];have e:(λj=>H_ (r::l) (Nat.succ j))=H_ l:=by funext j;rfl
  rw[e,EO l];rfl
def Ia (ty:TypeId) (z n:Nat) (g:Nat->List Value) (us:List Value):VB:=⟨false,ty,[.fp z n g,.rest us]⟩
theorem KA (ids:List Nat) (ty z n:Nat) (g:Nat->List Value) (us:List Value):ab ids (Ia ty z n g us).c=(List.range n).flatMap g++us:=by
 simp only[Ia,ab,cl,List.append_nil]
structure TQ where
 x:Option Addr
 n:Nat
 c:Nat
def nF (l:List (Int×Sd.Reply)) (fv:Nat->TQ) (j:Nat):List Value:=[.int .i64 (l.getD j default).1,.slice (fv j).x (fv j).n (fv j).c]
def mg (fr:Sd.Reply->Nat×Sd.Byt) (l:List (Int×Sd.Reply)) (fv:Nat->TQ) (fn:List av):Prop:=∀j,j<l.length->∃x c b,fv j=⟨x,(fr (l.getD j default).2).1,c⟩/\eK 5 (fr (l.getD j default).2).1 (fr (l.getD j default).2).2 x c b/\∀y∈b,y∈fn
theorem ZP {l:List (Int×Sd.Reply)} {so:List Value} {B:List av} (h:w5 fr l so B):∃fv,so=(List.range l.length).flatMap (nF l fv)/\mg fr l fv B:=by
 induction h with
 |nil=>exact⟨λ_=>⟨none,0,0⟩,rfl,λj hj=>absurd hj (by simp)⟩
 |@snoc l olds bl h k r x c b hb ih=>
  obtain⟨fv,e,hf⟩:=ih;refine⟨λj=>if j=l.length then⟨x,(fr r).1,c⟩else fv j,?_,?_⟩
  ·rw[List.length_append,List.length_singleton,List.range_succ,List.flatMap_append,e];congr 1
   ·simp only[List.flatMap_def];congr 1;apply List.map_congr_left;intro j hj;have hj:=List.mem_range.1 hj;unfold nF;dsimp only;rw[if_neg (show¬j=l.length by omega),List.getD_eq_getElem?_getD,List.getD_eq_getElem?_getD,List.getElem?_append_left hj]
   ·simp[nF,List.getD]
  ·intro j hj;by_cases h1:j=l.length
   ·subst h1;have e2:(l++[(k,r)]).getD l.length default=(k,r):=by simp[List.getD]
    rw[e2];exact⟨x,c,b,by simp,hb,λy hy=>by simp[hy]⟩
   ·have Of:j<l.length:=by simp at hj;omega
    obtain⟨x',c',b',h2,h3,h4⟩:=hf j Of;have e2:(l++[(k,r)]).getD j default=l.getD j default:=by rw[List.getD_eq_getElem?_getD,List.getD_eq_getElem?_getD,List.getElem?_append_left Of]
    rw[e2];exact⟨x',c',b',by simp only[if_neg h1];exact h2,h3,λy hy=>by simp[h4 y hy]⟩
def TT (s:Sd.Scene) (vs vr:V):V:=.agg [.int .i64 s.c.mode,.int .i64 s.c.pt.cls,.int .i64 s.c.pt.now.a,.int .i64 s.c.pt.now.b,.int .i64 s.c.pt.now.c,.int .i64 s.c.pt.now.d,.int .i64 s.c.bj.mD,.int .i64 s.c.bj.source,.int .i64 s.c.bj.seq,
 .int .i64 s.c.pt.cX.mD,.int .i64 s.c.pt.cX.source,.int .i64 s.c.pt.cX.seq,vs,vr,.dC .u8 32 s.c.head]
structure TR where
 xs:Option Addr
 cs:Nat
 ts:Nat
 us:List Value
 fv:Nat->TQ
 xr:Option Addr
 cr:Nat
 tr:Nat
 ur:List Value
def TR.sB (r:TR) (s:Sd.Scene):VB:=Ia r.ts 2 s.sent.length (nF s.sent r.fv) r.us
def TR.rB (r:TR) (s:Sd.Scene):VB:=Ia r.tr 6 s.recs.length (H_ s.recs) r.ur
def TR.v (r:TR) (s:Sd.Scene) (i:Nat):V:=TT s (.oN i 0 s.sent.length r.cs r.xs) (.oN (i+1) 0 s.recs.length r.cr r.xr)
def xQ (k:LK) (sv:Sd.Scene) (K:LKb fr k):Prop:=∀(s':Sd.Scene),s'=sv->∀(r:TR) (fn:List av) (F0:bN fr (bA k (fS s'))),cC=F0.vs->cC=F0.vr->mg fr s'.sent r.fv fn->K (r.v s' 0) (fS s') F0 fn [r.sB s',r.rB s']
theorem ZQ {k:LK} {s':Sd.Scene} (F':bN fr (bA k s')):∃F0:bN fr (bA k (fS s')),cC=F0.vs/\cC=F0.vr/\F0.B=F'.Bq++F'.Bk:=
 ⟨⟨none,0,none,0,F'.Bq,[],[],[],F'.Bk,[],F'.hq,iO 6 75,iO 2 85,.nil,F'.hk⟩,rfl,rfl,rfl⟩
theorem KB {ms:List Nat} {w0 w:World} {z T n c:Nat} {olds:List Value} {x:Option Addr} {B R:List av} {k:LK} {g:Nat->List Value} (h:fa z T olds x n c B) (S:St ms w0 (B++R) w) (gd:(⟨1,false,.cells (ab [] (aG k).c).toArray k.tg (0,0)⟩:av)∈R) (hg:olds=(List.range n).flatMap g):
 ∃(i ty:Nat) (us:List Value),Value.slice x n c=.slice (bif Nat.beq n 0 then x else some ⟨i,0,none⟩) n c/\St ms w0 (⟨i,false,.cells ((List.range n).flatMap g++us).toArray ty (0,0)⟩::R) w:=by
 rcases h.2.2 with⟨rfl,rfl,rfl,rfl⟩|⟨b,tail,rfl,rfl,_⟩
 ·exact⟨1,k.tg,ab [] (aG k).c,rfl,by simpa using S.dup gd rfl⟩
 ·refine⟨b,T,tail,?_,?_⟩
  ·cases Nat.beq n 0<;>rfl
  ·rw[<-hg];exact S.Cy
theorem om {f n:Nat} {M:World->LM fr} {L:List (dI (Gh fr))} (hL:ai prog gS L)
 (h:∀(u:World) (ar:List V) (k:LK) (s:Sd.Scene) (F:bN fr (bA k s)) (Kb:LKb fr k),cH 0 ar=true->s.c.p.queue=k.most->M u ar k s F Kb->cJ (dR prog gS L) n f (.ptr 2 0::ar) (fV k s) [cB k s F] (uz k s λs' F'=>xQ k s' Kb)):rZ f M:=by
 intro u ar k s F Kb a b R0 ms w0 w h0 hq hM S;generalize hR:du u++R0=R at S⊢;have hg:Gl gS (ck a b):=by
  intro g i iX;unfold gS at iX;split at iX
  ·obtain rfl:=Option.some.inj iX;exact⟨by simp,rfl⟩
  ·obtain rfl:=Option.some.inj iX;exact⟨by simp,rfl⟩
  ·cases iX
 refine(bw hL.T hL.Q n (C:=dR prog gS L) (ids:=ck a b) (bl:=fV k s) (ch:=[cB k s F]) (R:=R) (ms:=ms) (w0:=w0) (w:=w) hg rfl (by
  have e:af [cB k s F] R=F.B++R:=rfl;rw[e];exact S) (h u ar k s F Kb h0 hq hM)).mono ?_
 rintro v w' ⟨x,more,bl',ch',rfl,h1,S',s',F',rfl,hb,rfl,hT⟩;have hl4:(fV k s').length=4:=rfl;have gz:bl'=fV k s'++bl'.drop 4:=by rw[<-hb,List.take_append_drop]
 rw[gz]at S';have e2:lits (ck a b++more) (ck a b++more) (fV k s'++bl'.drop 4)=lits (ck a b) (ck a b) (fV k s')++lits (ck a b++more) more (bl'.drop 4):=by
  rw[aI _ _ _ _ (by rw[hl4];rfl)];rw[aJ (ids:=ck a b) (more:=more) (ck a b) (fV k s') rfl]
 rw[e2]at S';obtain⟨F0,v1,v2,hB⟩:=ZQ F';have e3:af [cB k s' F'] R=F'.Br++(F'.Bs++(F'.Bf++(F'.Bq++F'.Bk)))++R:=rfl;rw[e3]at S';have mK:fV k (fS s')=fV k s':=rfl;have S1:St ms w0 (F'.Br++(F'.Bs++(lits (ck a b) (ck a b) (fV k (fS s'))++(F0.B++(F'.Bf++R))))) w':=by
  rw[mK,hB];have S2:St ms w0 (lits (ck a b) (ck a b) (fV k s')++(F'.Br++(F'.Bs++(F'.Bf++(F'.Bq++F'.Bk)))++R)) w':=by
   refine S'.sub ?_;simp only[List.append_assoc];exact List.Sublist.append_left (List.sublist_append_right _ _) _
  exact S2.perm (cj λf=>by simp only[List.countP_append];omega)
 have gd:(⟨1,false,.cells (ab [] (aG k).c).toArray k.tg (0,0)⟩:av)∈lits (ck a b) (ck a b) (fV k (fS s')):=by
  have:aE (ck a b) 1 (aG k)=aE [] 1 (aG k):=cF (hJ k);show _∈aE (ck a b) 1 (aG k)::_;rw[this];exact List.mem_cons_self
 obtain⟨fv,hso,hfr⟩:=ZP F'.hf;have S2:=S1.perm (bs':=F'.Bs++(F'.Br++(lits (ck a b) (ck a b) (fV k (fS s'))++(F0.B++(F'.Bf++R))))) (cj λf=>by simp only[List.countP_append];omega);obtain⟨i1,t1,u1,q1,S3⟩:=KB (k:=k) F'.hs S2 (by simp[gd]) hso;have S3':St ms w0 (⟨i1,false,.cells ((List.range s'.sent.length).flatMap (nF s'.sent fv)++u1).toArray t1 (0,0)⟩::(F'.Br++(lits (ck a b) (ck a b) (fV k (fS s'))++(F0.B++(F'.Bf++R))))) w':=S3;have S4:=S3'.perm (bs':=F'.Br++(⟨i1,false,.cells ((List.range s'.sent.length).flatMap (nF s'.sent fv)++u1).toArray t1 (0,0)⟩::(lits (ck a b) (ck a b) (fV k (fS s'))++(F0.B++(F'.Bf++R))))) (cj λf=>by simp only[List.countP_append,List.countP_cons];omega);obtain⟨i2,t2,u2,q2,S5⟩:=KB (k:=k) F'.hr S4 (by simp[gd]) (EO s'.recs).symm
 let r:TR:=⟨F'.xs,F'.cs,t1,u1,fv,F'.xr,F'.cr,t2,u2⟩
 refine⟨_,_,F0,F'.Bf,_,[i1,i2],rfl,?_,rfl,hT _ rfl r F'.Bf F0 v1 v2 hfr,?_⟩
 ·simp only[TR.v,TT,EI,bN.vs,bN.vr,den,ab,cl];have e1:Value.slice F'.xs (bA k s').sent.length F'.cs=_:=q1;have e2:Value.slice F'.xr (bA k s').recs.length F'.cr=_:=q2;rw[e1,e2];rfl
 ·have e1:lits [i1,i2] [i1,i2] [r.sB s',r.rB s']=[⟨i1,false,.cells ((List.range s'.sent.length).flatMap (nF s'.sent fv)++u1).toArray t1 (0,0)⟩,⟨i2,false,.cells ((List.range s'.recs.length).flatMap (H_ s'.recs)++u2).toArray t2 (0,0)⟩]:=by
   simp only[lits,aE,TR.rB,TR.sB,KA,r];rfl
  rw[e1];have S6:St ms w0 (⟨i2,false,.cells ((List.range s'.recs.length).flatMap (H_ s'.recs)++u2).toArray t2 (0,0)⟩::(⟨i1,false,.cells ((List.range s'.sent.length).flatMap (nF s'.sent fv)++u1).toArray t1 (0,0)⟩::(lits (ck a b) (ck a b) (fV k (fS s'))++(F0.B++(F'.Bf++R))))) w':=S5;refine S6.perm ?_;exact cj λf=>by simp only[List.countP_append,List.countP_cons,List.countP_nil];omega
structure eo (k:LK) (s:Sd.Scene):Prop where
 i:Sd.Inv s.c
 x:Sd.Ext s.c
 key:∀i,i<4->1<=k.kn i/\k.kn i<=64
 ke:∀i,i<4->s.c.p.k i=(k.kn i,k.kf i)
 e1:s.sent=[]
 e2:s.recs=[]
theorem eo.rm {k:LK} {s:Sd.Scene} (h:eo k s) (n:Nat) (hn:n<=1000):Rm s n:=⟨by rw[h.e1];simpa using hn,by rw[h.e2];simpa using hn⟩
theorem eo.tb {k:LK} {s:Sd.Scene} (h:eo k s):TB s.c.t:=⟨h.i.tok.holder,h.i.eW⟩
theorem eo.tk {k:LK} {s:Sd.Scene} (h:eo k s):TkP s where
 c:=⟨h.i.p,h.tb,h.x.t.oa.1,h.x.t.oa.2,h.x.t.la.1,h.x.t.la.2,by rcases h.i.tok.offer with e|e<;>omega,
  λa ha=>by
   obtain⟨_,h1,h2,_,_,h3,h4,h5⟩:=h.i.q.each a ha;have:=h.i.p.ask;exact⟨⟨by omega,by omega⟩,⟨by omega,by omega⟩,⟨by omega,by omega⟩⟩,
  ⟨h.x.pt.bx.1,h.x.pt.bx.2.1,h.x.pt.bx.2.2.1,h.x.pt.bx.2.2.2,h.x.pt.now.1,h.x.pt.now.2.1,h.x.pt.now.2.2.1,h.x.pt.now.2.2.2⟩⟩
 r:=h.rm 28 (by decide)
 h:=h.x.tab.hi
 b:=⟨h.x.tab.st,h.x.tab.ss 0,h.x.tab.ss 1,h.x.tab.ss 2⟩
def n7 (C:Sd.Crypt):LM fr:=λar k s F K=>match ar with
 |[.bool b]=>(eo k s/\cC=F.vs/\cC=F.vr)/\xQ k (s.jg C b) K
 |_=>False
def uc (C:Sd.Crypt):LM fr:=λar k s F K=>match ar with
 |[.agg xl]=>(match M3 xl with
  |some x=>(eo k s/\cC=F.vs/\cC=F.vr)/\xQ k (s.dU C x) K
  |none=>False)
 |_=>False
def cQ (C:Sd.Crypt) (s:Sd.Scene) (l code:Int) (n:Nat) (f:Sd.Byt):Sd.Scene:=if 1<=l/\l<=3 then s.item C l code n f else s
def TU (C:Sd.Crypt):LM fr:=λar k s F K=>match ar with
 |[.int .i64 l,.agg [.int .i64 code,.raw vp]]=>(eo k s/\cC=F.vs/\cC=F.vr/\vp=ei k/\k.pn<=58/\By k.pf)/\xQ k (cQ C s l code k.pn k.pf) K
 |_=>False
theorem ZR {k:LK} {s:Sd.Scene} {F:bN fr (bA k s)} (hq:s.c.p.queue=k.most) (h1:cC=F.vs) (h2:cC=F.vr):Ts k s F:=⟨h1,h2,rfl,rfl,rfl,rfl,rfl,hq⟩
section
variable(k:LK) (s:Sd.Scene) (F:bN fr (bA k s)) (Kb:(s':Sd.Scene)->bN fr (bA k s')->Prop)
end
end Go.Proofs.YtggfpcggakghnaaGreatDoor
namespace Go.Proofs.YtggfpcggakghnaaGreatDoor
open Go Go.RowKit Go.BigFrame Sx Vx
variable{fr:Sd.Reply->Nat×Sd.Byt}
section
variable(ht:Body (fr:=fr) 147 bV)
include ht
theorem zt:rZ (fr:=fr) 21 (λ_=>n7 (ah aT)):=by
 refine om (n:=60) (aeT ht) ?_;intro u ar k s F Kb h0 hq hM;unfold n7 at hM;split at hM
 ·rename_i b;rw[Kp];exact⟨ZR hq hM.1.2.1 hM.1.2.2,fC (M:=j3 (ah aT)) ⟨⟨hM.1.1.rm 8 (by decide),hM.1.1.tb⟩,λF'=>⟨_,F',rfl,rfl,rfl,hM.2⟩⟩⟩
 ·exact hM.elim
theorem zu:rZ (fr:=fr) 20 (λ_=>uc (ah aT)):=by
 refine om (n:=60) (aeS ht) ?_;intro u ar k s F Kb h0 hq hM;unfold uc at hM;split at hM
 ·rename_i xl;split at hM
  ·rename_i x hx;obtain rfl:=vi hx;rw[KK];have hb:db s.c.samples:=⟨by have:=hM.1.1.i.samples;omega,by have:=hM.1.1.i.samples;omega⟩;refine⟨ZR hq hM.1.2.1 hM.1.2.2,fC (M:=SC (ah aT)) ?_⟩;show(St0 s/\db s.c.samples/\db s.c.beyond)/\_;exact⟨⟨⟨hM.1.1.rm 8 (by decide),hM.1.1.i.p,hM.1.1.tb⟩,hb,hM.1.1.x.be⟩,λF'=>⟨_,F',rfl,rfl,rfl,hM.2⟩⟩
  ·exact hM.elim
 ·exact hM.elim
theorem Ie:rZ (fr:=fr) 24 (λ_=>TU (ah aT)):=by
 refine om (n:=60) (Kn ht) ?_;intro u ar k s F Kb h0 hq hM;unfold TU at hM;split at hM
 ·rename_i l code vp;have hC:=hM.1.1;have v1:=hM.1.2.1;have v2:=hM.1.2.2.1;have p1:=hM.1.2.2.2.2.1;have p2:=hM.1.2.2.2.2.2;have hT:=hM.2;rw[hM.1.2.2.2.1,Tu];unfold ajh;have OJ:¬(1<=l/\l<=3)->uz k s (λs' F'=>xQ k s' Kb) (.agg (EI s cC cC)) (fV k s) [cB k s F]:=λh=>⟨s,F,by rw[<-v1,<-v2],rfl,rfl,by unfold cQ at hT;rw[if_neg h]at hT;exact hT⟩;refine aU (λe1=>aU (λe2=>?_) (λe2=>OJ (by simp at e1 e2;omega))) (λe1=>OJ (by simp at e1;omega));have hl:1<=l/\l<=3:=by simp at e1 e2;omega
  unfold cQ at hT;rw[if_pos hl]at hT;have hd:∀i,i<3->(s.c.doors i).many<=9223372036854775807:=λi _=>by have:=hC.x.d i;omega
  exact⟨ZR hq v1 v2,fC (M:=EE (ah aT)) ⟨⟨rfl,⟨hC.rm 8 (by decide),hC.i,hl,hd,hC.key,hC.ke,p1,p2⟩⟩,λF'=>⟨_,F',rfl,rfl,rfl,hT⟩⟩⟩
 ·exact hM.elim
end
def yT (l:List Sd.Ask) (j:Nat):List Value:=[.int .i64 (l.getD j default).source]
theorem EP:∀(l:List Sd.Ask) (ids:List Nat),(List.range l.length).flatMap (yT l)=ab ids (xJ l)
 |[],_=>rfl
 |r::l,ids=>by
  rw[List.length_cons,List.range_succ_eq_map,List.flatMap_cons,List.flatMap_map];have e:(λj=>yT (r::l) (Nat.succ j))=yT l:=by funext j;rfl
  rw[e,EP l ids];rfl
def ajk (k:LK) (s:Sd.Scene) (F:bN fr (bA k s)) (K:LKb fr k):Prop:=
 ∀(x:Option Addr) (c ty:Nat) (us:List Value),K (.agg (oW s (.oN 0 0 s.c.q.length c x))) s F [] [Ia ty 1 s.c.q.length (yT s.c.q) us]
def Cd:LM fr:=λar k s F K=>match ar with
 |[]=>ajk k s F K
 |_=>False
theorem Ig (l:List Sd.Ask) (u:List Value):dk 0 [HT l u]=true:=by
 have:∀l:List Sd.Ask,cH 0 (xJ l++[.rest u])=true:=by
  intro l;induction l with
  |nil=>rfl
  |cons a l ih=>simp only[xJ,List.cons_append,cH,fK,ih,Bool.and_self]
 simp only[dk,HT,this,Bool.and_self]
theorem mh {Q:Prop} (hq:Q):∀(n j:Nat),n+j<=5->ZD n j Q
 |0,_,_=>hq
 |n+1,j,h=>⟨trivial,⟨by omega,by omega⟩,trivial,trivial,mh hq n (j+1) (by omega)⟩
theorem xT (ht:Body (fr:=fr) 147 bV):rZ (fr:=fr) 14 (λ_=>Cd (fr:=fr)):=by
 intro u0 ar k s F Kb a b R0 ms w0 w h0 hq hM S;generalize hR:du u0++R0=R at S⊢;unfold Cd at hM;split at hM
 ·have hg:Gl gS (ck a b):=by
   intro g i iX;unfold gS at iX;split at iX
   ·obtain rfl:=Option.some.inj iX;exact⟨by simp,rfl⟩
   ·obtain rfl:=Option.some.inj iX;exact⟨by simp,rfl⟩
   ·cases iX
  let K:VK (Gh fr):=λv bl ch=>ch=[cB k s F]/\((s.c.q=[]/\v=.agg (oW s (.raw cC))/\bl=fV k s)\/(s.c.q≠[]/\∃c u,v=.agg (oW s (.sl 4 0 s.c.q.length c))/\bl=fV k s++[HT s.c.q u]))
  have k0:s.c.q=[]->K (.agg (oW s (.raw cC))) (fV k s) [cB k s F]:=λe=>⟨rfl,.inl ⟨e,rfl,rfl⟩⟩;have k1:s.c.q≠[]->∀c u,K (.agg (oW s (.sl 4 0 s.c.q.length c))) (fV k s++[HT s.c.q u]) [cB k s F]:=λe c u=>⟨rfl,.inr ⟨e,c,u,rfl,rfl⟩⟩;have fU:cJ (mL prog gS (L8 fr (ah aT)) (PZ prog) vf) 60 14 [.ptr 2 0] (fV k s) [cB k s F] (cP 4 K):=by
   rw[ZE];refine⟨rfl,λe x c=>mh (k0 e) 5 0 (by decide),λa1 e c t c1 u1 _ _=>?_,λa1 b1 e c t c1 u1 h1 h2=>?_,λa1 b1 d1 e c t c1 u1 h1 h2=>?_⟩
   ·have:=k1 (by rw[e];simp) c1 u1;rw[e]at this;exact mh this 5 0 (by decide)
   ·have hk:=k1 (by rw[e];simp);rw[e]at hk;exact⟨⟨h1,h2⟩,λc2 u2 _ _=>mh (hk c2 u2) 5 0 (by decide),λc2 u2 _ _=>mh (hk c2 u2) 5 0 (by decide)⟩
   ·have hk:=k1 (by rw[e];simp);rw[e]at hk;exact⟨⟨h1,h2⟩,λc2 u2 g1 g2=>⟨⟨g1,g2⟩,λc3 u3 _ _=>mh (hk c3 u3) 5 0 (by decide),λc3 u3 _ _=>mh (hk c3 u3) 5 0 (by decide)⟩,λc2 u2 g1 g2=>⟨⟨g1,g2⟩,λc3 u3 _ _=>mh (hk c3 u3) 5 0 (by decide),λc3 u3 _ _=>mh (hk c3 u3) 5 0 (by decide)⟩⟩
  refine(bw (xp aT ht).T (xp aT ht).Q 60 (C:=mL prog gS (L8 fr (ah aT)) (PZ prog) vf) (ids:=ck a b) (bl:=fV k s) (ch:=[cB k s F]) (R:=R) (ms:=ms) (w0:=w0) (w:=w) hg rfl (by
   have e:af [cB k s F] R=F.B++R:=rfl;rw[e];exact S) fU).mono ?_
  rintro v w' ⟨x,more,bl',ch',rfl,h1,S',hK⟩;obtain⟨v2,aP,bl2,hv,gx,S2,rfl,Mx⟩:=c9 (n0:=4) h1 (by simp) S' hK;have ht4:(ck a b++more).take 4=ck a b:=rfl;rw[ht4]at hv gx S2;have eR:af [cB k s F] R=F.B++R:=rfl;rw[eR]at S2;rw[hv];have j7:∀(i ty:Nat) (us:List Value),lits [i] [i] [Ia ty 1 s.c.q.length (yT s.c.q) us]=[⟨i,false,.cells ((List.range s.c.q.length).flatMap (yT s.c.q)++us).toArray ty (0,0)⟩]:=λi ty us=>by
   simp only[lits,aE,KA];rfl
  rcases Mx with⟨e,rfl,rfl⟩|⟨e,c,u,rfl,rfl⟩
  ·obtain rfl:aP=[]:=List.eq_nil_of_length_eq_zero (by simpa[fV]using gx);refine⟨_,s,F,[],_,[1],rfl,?_,rfl,hM none 0 k.tg (ab [] (aG k).c),?_⟩
   ·simp only[oW,oF,rK,den,ab,cl,List.append_nil,List.cons_append,List.nil_append,e];rfl
   ·simp only[List.append_nil]at S2;have S3:=S2.dup (b:=aE [0] 1 (aG k)) (by
     refine List.mem_append_left _ ?_;rw[cF (ids':=ck a b) (hJ k)];exact List.mem_cons_self) rfl
    rw[j7];have e2:(⟨1,false,.cells ((List.range s.c.q.length).flatMap (yT s.c.q)++ab [] (aG k).c).toArray k.tg (0,0)⟩:av)=aE [0] 1 (aG k):=by
     rw[e,cF (ids':=[]) (hJ k)];rfl
    rw[e2];exact S3.perm List.perm_middle.symm
  ·match aP,gx with
   |[x],_=>
    refine⟨_,s,F,[],_,[x],rfl,?_,rfl,hM none c 3 u,?_⟩
    ·have hn:Nat.beq s.c.q.length 0=false:=by
      cases hb:Nat.beq s.c.q.length 0 with
      |false=>rfl
      |true=>exact absurd (List.eq_nil_of_length_eq_zero (Nat.eq_of_beq_eq_true hb)) e
     have hg4:(ck a b++[x]).getD 4 0=x:=rfl;have hg1:([x]:List Nat).getD 0 0=x:=rfl;simp only[oW,oF,rK,den,ab,cl,List.append_nil,List.cons_append,List.nil_append,hn,cond_false,hg4,hg1];rfl
    ·have e2:lits (ck a b++[x]) (ck a b++[x]) (fV k s++[HT s.c.q u])=lits (ck a b) (ck a b) (fV k s)++[⟨x,true,.cells ((List.range s.c.q.length).flatMap (yT s.c.q)++u).toArray 3 (0,0)⟩]:=by
      rw[aI _ _ _ _ rfl,aJ (ids:=ck a b) (more:=[x]) (ck a b) (fV k s) rfl,fc (ids':=[x]) [x] _ (Ig _ _)];simp only[lits,aE,HT,bo,ab,cl,List.append_nil,EP s.c.q [x]]
     rw[e2]at S2;have S3:=(S2.perm (bs':=⟨x,true,.cells ((List.range s.c.q.length).flatMap (yT s.c.q)++u).toArray 3 (0,0)⟩::(lits (ck a b) (ck a b) (fV k s)++(F.B++R))) (cj λf=>by simp only[List.countP_append,List.countP_cons,List.countP_nil];omega)).Cy;rw[j7];exact S3.perm (cj λf=>by simp only[List.countP_append,List.countP_cons,List.countP_nil];omega)
   |[],h=>simp[fV]at h
   |_::_::_,h=>simp[fV]at h
 ·exact hM.elim
theorem ZS (d:Fd) (h:(∃i,i<4/\d=fX i)\/∀v m,(d.set v m).x=m.x):∀v,d.low<=v->v<=d.high->∀m:Sd.bW,Sd.Ku m.x->Sd.Ku (d.set v m).x:=by
 intro v h1 h2 m hm;rcases h with⟨i,hi,rfl⟩|h
 ·have hv:Sd.Bd v:=⟨by have:(-32768:Int)<=v:=h1;omega,by have:v<=(32767:Int):=h2;omega⟩;have:i=0\/i=1\/i=2\/i=3:=by omega
  rcases this with rfl|rfl|rfl|rfl
  ·exact⟨hv,hm.2.1,hm.2.2.1,hm.2.2.2⟩
  ·exact⟨hm.1,hv,hm.2.2.1,hm.2.2.2⟩
  ·exact⟨hm.1,hm.2.1,hv,hm.2.2.2⟩
  ·exact⟨hm.1,hm.2.1,hm.2.2.1,hv⟩
 ·rw[h];exact hm
theorem ajl {n:Nat} {f:Nat->Int} {m:Sd.bW} (h:aT n f=some m):Sd.Ku m.x:=by
 unfold aT at h;split at h
 ·cases h
 split at h
 ·rename_i l hl;refine rQ (λm=>Sd.Ku m.x) l 1 _ m ?_ Sd.x40 h;intro d hd;refine ZS d ?_;have fx:∀i,i<4->(∃j,j<4/\fX i=fX j)\/∀v m,((fX i).set v m).x=m.x:=λi hi=>.inl ⟨i,hi,rfl⟩;have b0:=fx 0 (by decide);have b1:=fx 1 (by decide);have b2:=fx 2 (by decide);have b3:=fx 3 (by decide)
  have fo:∀d:Fd,(∀v m,(d.set v m).x=m.x)->(∃i,i<4/\d=fX i)\/∀v m,(d.set v m).x=m.x:=λd h=>.inr h;have a1:=fo oS λ_ _=>rfl;have a2:=fo ig λ_ _=>rfl;have a3:=fo rN λ_ _=>rfl;have a4:=fo gf λ_ _=>rfl;have a5:=fo rj λ_ _=>rfl;have a6:=fo yQ λ_ _=>rfl;have a7:=fo D0 λ_ _=>rfl
  unfold Wc at hl
  repeat' split at hl
  all_goals first|(cases hl;done)|(obtain rfl:=Option.some.inj hl;simp at hd;rcases hd with rfl|rfl|rfl|rfl|rfl|rfl|rfl<;>assumption)|(obtain rfl:=Option.some.inj hl;simp at hd;rcases hd with rfl|rfl|rfl|rfl|rfl|rfl<;>assumption)|(obtain rfl:=Option.some.inj hl;simp at hd;rcases hd with rfl|rfl|rfl|rfl|rfl<;>assumption)|(obtain rfl:=Option.some.inj hl;simp at hd;rcases hd with rfl|rfl|rfl|rfl<;>assumption)|(obtain rfl:=Option.some.inj hl;simp at hd;rcases hd with rfl|rfl|rfl<;>assumption)|(obtain rfl:=Option.some.inj hl;simp at hd;rcases hd with rfl|rfl<;>assumption)|(obtain rfl:=Option.some.inj hl;simp at hd;subst hd;assumption)|(obtain rfl:=Option.some.inj hl;simp at hd)
 ·cases h
section
variable{k:LK} {s:Sd.Scene} {b:Prop}
theorem ajm {C:Sd.Crypt} {s':Sd.Scene} {kind l:Int} (e:Sd.l5 C b s s' kind l):s'.c.p=s.c.p:=by
 rcases e.GN with h|⟨how,h,_⟩
 ·exact h.p
 ·exact h.p
theorem eo.of {C:Sd.Crypt} {s':Sd.Scene} {kind l:Int} (h:eo k s) (e:Sd.l5 C b s s' kind l) (x:Sd.Ext s'.c):eo k (fS s'):=⟨e.1,x,h.key,λi hi=>by show s'.c.p.k i=_;rw[ajm e];exact h.ke i hi,rfl,rfl⟩
theorem eo.tick (h:eo k s):eo k (fS (s.tick (ah aT))):=h.of (b:=False) (Sd.TF h.i).1 (Sd.TP h.i h.x)
theorem eo.jg (h:eo k s) (x:Bool):eo k (fS (s.jg (ah aT) x)):=h.of (b:=False) (Sd.HV h.i) (Sd.H0 h.x)
theorem eo.dU (h:eo k s) {x:Sd.dS} (hx:Sd.Ku x.x):eo k (fS (s.dU (ah aT) x)):=h.of (b:=False) (Sd.HU h.i) (Sd.HZ hx h.i.p h.x)
theorem eo.item (h:eo k s) (l code:Int) (n:Nat) (f:Sd.Byt):eo k (fS (cQ (ah aT) s l code n f)):=by
 unfold cQ;split
 ·rename_i hl;exact h.of (b:=False) (Sd.DS ln h.i hl (λe=>e.elim)) (Sd.TN (λ_ _ _ hm=>ajl hm) hl h.i.p h.x)
 ·exact⟨h.i,h.x,h.key,h.ke,rfl,rfl⟩
end
def ft (u:World) (a:Option Addr):Sd.Byt:=λj=>match a with
 |some x=>(match u.cell? (x.add j)with|some (.int _ v)=>if 0<=v/\v<=255 then v else 0|_=>0)
 |none=>0
theorem afc {u:World} {a:Option Addr} {n c:Nat} {f:Nat->Int} (h:gF u a n c f) (hb:∀j,j<n->0<=f j/\f j<=255):gF u a n c (ft u a):=by
 refine⟨h.1,h.2.1,λx e j hj=>?_⟩;have hc:=h.2.2 x e j hj;have:ft u a j=f j:=by
  unfold ft;rw[e];simp only[hc];rw[if_pos (hb j hj)]
 rw[this];exact hc
def iY:Sd.Byt:=λ_=>0
def dF (n d:Nat) (f:Sd.Byt):VB:=⟨true,⟨5,(0,0)⟩,[.dC .u8 n f,.dC .u8 d iY]⟩
theorem jC (ids:List Nat) (n d:Nat) (f:Sd.Byt):(ab ids (dF n d f).c).toArray=dc n f (n+d):=by
 have e:(List.range d).map (λj=>Value.int .u8 (iY j))=List.replicate d (.int .u8 0):=by
  show(List.range d).map (λ_=>Value.int .u8 0)=_;rw[List.map_const'];simp
 simp only[dF,ab,cl,dc,eE,List.append_nil,e];rw[show n+d-n=d by omega]
theorem TV {u w:World} {B:List av} {ms:List Nat} {w0:World} (S:St ms w0 B w) (h:∀y∈du u,y∈B) {x:Addr} {v:Value} (hc:u.cell? x=some v):w.cell? x=some v:=by
 unfold World.cell? at hc⊢;split at hc
 ·rename_i cs ty fr' hb;have:=S.at' (h _ (qO hb));simp only at this;rw[this];exact hc
 ·cases hc
theorem TW {u w:World} {B:List av} {ms:List Nat} {w0:World} (S:St ms w0 B w) (h:∀y∈du u,y∈B) {a:Option Addr} {n c:Nat} {f:Nat->Int} (hk:gF u a n c f):gF w a n c f:=
 ⟨hk.1,hk.2.1,λx e j hj=>TV S h (hk.2.2 x e j hj)⟩
theorem xU {w:World} {m:Nat} {g:Nat->Int} {x:Option Addr} {t tx ty:TypeId} {xv:Value} (hs:Src prog 1 tx xv m (eE m g) w) (ht:prog.underlying t=some (.slice 5)) (hm:0<m) (hb:m<=140737488355328) (x:Addr):
 ∃c' w',(Builtin.append_ #[t,tx] ty #[.slice (some x) 0 0,xv]).run prog w=.ok (.slice (some ⟨w.heap.size,0,none⟩) m c') w'/\Ch [] w w'/\m<=c'/\w'.heap[w.heap.size]?=some (.cells (dc m g c') 5 (0,0)):=by
 have hi:(prog.info? 5).map (λi=>(i.zero.map (·.cells),i.size,i.bytes))=some (some #[.int .u8 0],1,1):=by kernel_rfl
 obtain⟨i,aF,hi⟩:=Option.map_eq_some_iff.1 hi;simp only[Prod.mk.injEq]at hi;obtain⟨hz,iM,sP⟩:=hi;obtain⟨z0,Cv,FI⟩:=Option.map_eq_some_iff.1 hz;have uZ:Src prog i.size tx xv m (eE m g) w:=by rw[iM];exact hs
 have hold:(Builtin.firstCells i.size 0 (.slice (some x) 0 0)).run prog w.drew=.ok (([]:List Value).toArray) w.drew:=
  run_firstCells_some (P:=prog) w.drew i.size 0 x 0 0 [] (by rw[Nat.zero_mul];rfl) (λj v hj=>nomatch hj)
 have aY:=run_append_grow_src (P:=prog) w t tx ty 5 i z0 ht aF Cv (some x) 0 0 [] hold xv m (eE m g) uZ (by omega) (by omega) (by rw[sP];exact growslice_fits (by omega) (by omega));have jI:=grownCap_ge w (0+m) 0 5;rw[Nat.zero_add]at aY jI;refine⟨_,_,aY,((Ch.refl [] w).drew).trans (Ch.alloc [] w.drew _) (λx hx=>.inl hx),jI,?_⟩;have:=heap_alloc_new w.drew (.cells (([]++eE m g).toArray++Builtin.zeroCells z0.cells (grownCap w m 0 5-m)) 5);refine Eq.trans this ?_;congr 2;apply Array.ext';rw[FI,Array.toList_append,lH];rfl
theorem NU {w:World} {g:Nat->Int} {t tx ty:TypeId} {xv:Value} (hs:Src prog 1 tx xv 0 (eE 0 g) w) (ht:prog.underlying t=some (.slice 5)) (x:Addr):
 (Builtin.append_ #[t,tx] ty #[.slice (some x) 0 0,xv]).run prog w=.ok (.slice (some x) 0 0) w:=by
 have hi:(prog.info? 5).map (λi=>(i.zero.map (·.cells),i.size,i.bytes))=some (some #[.int .u8 0],1,1):=by kernel_rfl
 obtain⟨i,aF,hi⟩:=Option.map_eq_some_iff.1 hi;simp only[Prod.mk.injEq]at hi;obtain⟨hz,iM,sP⟩:=hi;exact run_append_nothing (P:=prog) w t tx ty 5 i ht aF (some x) 0 0 (Nat.le_refl _) xv (by rw[iM];exact hs)
def NV (k:LK) (x:Option Addr) (n c:Nat) (f:Sd.Byt):LK:={k with px:=x,pn:=n,pc:=c,pf:=f}
def j4 (k:LK):Prop:=k.px=none/\k.pn=0/\k.pc=0
theorem ajn {k:LK} {s:Sd.Scene} (F:bN fr (bA k s)) (h:j4 k) {b n c:Nat} {f:Sd.Byt} (hle:n<=c):∃F1:bN fr (bA (NV k (some ⟨b,0,none⟩) n c f) s),F1.vs=F.vs/\F1.vr=F.vr/\F1.B=F.B++[⟨b,true,.cells (dc n f c) 5 (0,0)⟩]:=by
 refine⟨⟨F.xs,F.cs,F.xr,F.cr,F.Bq,F.Br,F.Bs,F.Bf,F.Bk++[⟨b,true,.cells (dc n f c) 5 (0,0)⟩],F.so,F.hq,F.hr,F.hs,F.hf,?_⟩,rfl,rfl,?_⟩
 ·obtain⟨b0,b1,b2,b3,b4,hB,h0,h1,h2,h3,h4⟩:=F.hk;have e4:b4=[]:=by
   rcases h4.2 with⟨_,_,_,e⟩|⟨y,e,_⟩
   ·exact e
   ·have:k.px=some ⟨y,0,none⟩:=e;rw[h.1]at this;cases this
  subst e4;exact⟨b0,b1,b2,b3,[⟨b,true,.cells (dc n f c) 5 (0,0)⟩],by rw[hB];simp,h0,h1,h2,h3,hle,.inr ⟨b,rfl,rfl⟩⟩
 ·simp only[bN.B,List.append_assoc]
theorem afd {k:LK} {s:Sd.Scene} (h:j4 k) {b n c:Nat} {f:Sd.Byt} (F1:bN fr (bA (NV k (some ⟨b,0,none⟩) n c f) s)):∃F:bN fr (bA k s),F.vs=F1.vs/\F.vr=F1.vr/\F1.B=F.B++[⟨b,true,.cells (dc n f c) 5 (0,0)⟩]:=by
 obtain⟨b0,b1,b2,b3,b4,hB,h0,h1,h2,h3,h4⟩:=F1.hk;have e4:b4=[⟨b,true,.cells (dc n f c) 5 (0,0)⟩]:=by
  rcases h4.2 with⟨e,_,_,_⟩|⟨y,e,e2⟩
  ·cases e
  ·have:(some ⟨b,0,none⟩:Option Addr)=some ⟨y,0,none⟩:=e;obtain rfl:b=y:=by simpa using this
   exact e2
 subst e4;refine⟨⟨F1.xs,F1.cs,F1.xr,F1.cr,F1.Bq,F1.Br,F1.Bs,F1.Bf,b0++(b1++(b2++(b3++[]))),F1.so,F1.hq,F1.hr,F1.hs,F1.hf,⟨b0,b1,b2,b3,[],rfl,h0,h1,h2,h3,by show k.pn<=k.pc;rw[h.2.1,h.2.2];exact Nat.le_refl _,.inl ⟨h.1,h.2.1,h.2.2,rfl⟩⟩⟩,rfl,rfl,?_⟩;simp only[bN.B,hB,List.append_assoc,List.append_nil]
def coI (C:Sd.Crypt):gm (LG fr):=λargs bl ch K=>match args,ch with
 |[.ptr ic 0,.int .i64 l,.agg [.int .i64 code,.sl ip 0 n c]],.cn u::.core g fB::rest=>(match bl[ip]?with
  |some ⟨true,⟨5,(0,0)⟩,[.dC .u8 n' f,.dC .u8 d z]⟩=>(match bl[ic]?with
   |some ⟨true,⟨105,(0,0)⟩,cc⟩=>(match w6 cc with
    |some x=>(match bl[x.it]?with
     |some ⟨true,⟨157,(0,0)⟩,tc⟩=>(match uR tc with
      |some y=>cond (dk bl.length bl&&(Nat.blt 1 ip&&(Nat.blt 1 ic&&(Nat.blt 1 x.it&&(!(Nat.beq ic x.it)&&(!(Nat.beq ic ip)&&!(Nat.beq x.it ip)))))))
       ((bl[0]?=some (aG g.d.k)/\bl[1]?=some (iA g.d.k)/\x=Cz g.d.k x.it (lP x y g.d g.dx g.sx)/\y.b=x.p.bh/\y.m=x.p.aR/\x.p.queue=g.d.k.most)/\
         (n'=n/\n+d=c/\z=iY)/\j4 g.d.k/\(eo g.d.k (lP x y g.d g.dx g.sx)/\cC=g.F.vs/\cC=g.F.vr/\n<=58/\By f)/\
         xQ g.d.k (cQ C (lP x y g.d g.dx g.sx) l code n f) λvv s' F' fn ex=>K (qf bl.length vv) (eA bl ic x.it g.d.k s'++ex) (.cn u::.core (cB g.d.k s' F') (fn++fB)::rest)) False
      |none=>False)
     |_=>False)
    |none=>False)
   |_=>False)
  |_=>False)
 |_,_=>False
theorem zP (ht:Body (fr:=fr) 147 bV):Sound prog gS 24 (coI (fr:=fr) (ah aT)):=by
 intro args ids bl ch R ms w0 w K hg hl S hc;unfold coI at hc;split at hc
 ·rename_i ic l code ip n c u g fB rest;split at hc
  ·rename_i n' f d z ZT;split at hc
   ·rename_i cc OG;split at hc
    ·rename_i x hx;split at hc
     ·rename_i tc VW;split at hc
      ·rename_i y hy;cases hq:dk bl.length bl&&(Nat.blt 1 ip&&(Nat.blt 1 ic&&(Nat.blt 1 x.it&&(!(Nat.beq ic x.it)&&(!(Nat.beq ic ip)&&!(Nat.beq x.it ip))))))with
       |false=>rw[hq]at hc;exact hc.elim
       |true=>
        rw[hq]at hc;simp only[Bool.and_eq_true,Bool.not_eq_true',Nat.blt_eq]at hq;obtain⟨qw,q1,q2,q3,q4,q5,q6⟩:=hq;have nb:∀{a b:Nat},Nat.beq a b=false->a≠b:=λh e=>by rw[e,Nat.beq_refl]at h;cases h
        have n4:=nb q4;have n5:=nb q5;have n6:=nb q6;obtain⟨⟨e3,e4,e5,e6,e7,e8⟩,⟨rfl,rfl,rfl⟩,Zo,⟨hC,v1,v2,p1,p2⟩,hT⟩:=hc;obtain rfl:=nv hx;obtain rfl:=jz hy;have H:H9 bl ic x.it g.d.k (lP x y g.d g.dx g.sx):=by
         refine⟨e3,e4,?_,?_⟩
         ·rw[OG];congr 1;unfold ew;rw[<-e5]
         ·rw[VW];congr 1;unfold gP;have:y=VV (lP x y g.d g.dx g.sx):=by
           obtain⟨y1,y2,y3,y4,y5,y6,y7,y8⟩:=y;simp only at e6 e7;subst e6 e7;rfl
          rw[<-this]
        have l1:=bO ZT;have l2:=bO H.hc;have l3:=bO H.ht;obtain⟨r,hr,hp⟩:=ux (bl:=bl) (ids:=ids) hl (is:=[0,1,ic,x.it,ip]) (by simp;omega) (by
         intro i hi;simp only[List.mem_cons,List.not_mem_nil,or_false]at hi;rcases hi with rfl|rfl|rfl|rfl|rfl<;>omega)
        have emp:∀(bl':List VB),[0,1,ic,x.it,ip].map (λj=>aE ids (ids.getD j 0) (bl'.getD j gK))=([0,1,ic,x.it].map λj=>aE ids (ids.getD j 0) (bl'.getD j gK))++[aE ids (ids.getD ip 0) (bl'.getD ip gK)]:=λ_=>rfl;have TX:aE ids (ids.getD ip 0) (dF n' d f)=⟨ids.getD ip 0,true,.cells (dc n' f (n'+d)) 5 (0,0)⟩:=by
         unfold aE;rw[jC];rfl
        have dP:=hp bl rfl;rw[emp,lv H hg,cG (show bl[ip]?=some (dF n' d f)from ZT)]at dP;obtain⟨F1,f1,f2,f3⟩:=ajn (k:=g.d.k) (s:=lP x y g.d g.dx g.sx) g.F Zo (b:=ids.getD ip 0) (f:=f) (Nat.le_add_right n' d);have S1:=S.perm (bs':=lits (ck (ids.getD ic 0) (ids.getD x.it 0)) (ck (ids.getD ic 0) (ids.getD x.it 0)) (fV g.d.k (lP x y g.d g.dx g.sx))++(F1.B++(du u++((r.map λj=>aE ids (ids.getD j 0) (bl.getD j gK))++(fB++af rest R))))) (by
         refine(dP.append_right _).trans ?_;rw[show F1.B=bN.B (d:=g.d) g.F++[⟨ids.getD ip 0,true,.cells (dc n' f (n'+d)) 5 (0,0)⟩]from f3,<-TX];show(_++(du u++((g.F.B++fB)++af rest R))).Perm _;exact cj λf=>by simp only[List.countP_append];omega)
        have hC':eo (NV g.d.k (some ⟨ids.getD ip 0,0,none⟩) n' (n'+d) f) (lP x y g.d g.dx g.sx):=⟨hC.i,hC.x,hC.key,hC.ke,hC.e1,hC.e2⟩;have D_:=Ie ht u [.int .i64 l,.agg [.int .i64 code,.raw (ei (NV g.d.k (some ⟨ids.getD ip 0,0,none⟩) n' (n'+d) f))]] (NV g.d.k (some ⟨ids.getD ip 0,0,none⟩) n' (n'+d) f) (lP x y g.d g.dx g.sx) F1
         (λvv s' F1' fn ex=>cC=F1'.vs/\cC=F1'.vr/\∀F':bN fr (bA g.d.k s'),cC=F'.vs->cC=F'.vr->K (qf bl.length vv) (eA bl ic x.it g.d.k s'++ex) (.cn u::.core (cB g.d.k s' F') (fn++fB)::rest))
         _ _ _ ms w0 w rfl e8 ⟨⟨hC',by rw[f1];exact v1,by rw[f2];exact v2,rfl,p1,p2⟩,λs2 e2 tr fn F0 w1 w2 hf=>⟨w1,w2,λF' z1 z2=>hT s2 e2 tr fn F' z1 z2 hf⟩⟩ S1
        have a9:ao ids [.ptr ic 0,.int .i64 l,.agg [.int .i64 code,.sl ip 0 n' (n'+d)]]=ao (ck (ids.getD ic 0) (ids.getD x.it 0)) (.ptr 2 0::[.int .i64 l,.agg [.int .i64 code,.raw (ei (NV g.d.k (some ⟨ids.getD ip 0,0,none⟩) n' (n'+d) f))]]):=rfl;rw[a9];refine D_.mono ?_;rintro v w' ⟨vv,s',F1',fn,ex,xs,ow,hvv,Zd,⟨w1,w2,hK⟩,S2⟩;obtain⟨F',g1,g2,g3⟩:=afd Zo F1';refine⟨qf bl.length vv,xs,eA bl ic x.it g.d.k s'++ex,.cn u::.core (cB g.d.k s' F') (fn++fB)::rest,?_,?_,?_,hK F' (by rw[g1];exact w1) (by rw[g2];exact w2)⟩
        ·rw[<-hl,tS];exact hvv.symm
        ·simp[eA,hl,ow]
        ·have H':=xO H q2 q3 n4 s';have gy:=hp (eA bl ic x.it g.d.k s') (by simp[eA]);have SS:(eA bl ic x.it g.d.k s').getD ip gK=dF n' d f:=by
          have:(eA bl ic x.it g.d.k s')[ip]?=some (dF n' d f):=by
           unfold eA;rw[eG n6,eG n5];exact ZT
          exact cG this
         rw[emp,lv H' hg,SS]at gy;have w8:(r.map λj=>aE ids (ids.getD j 0) ((eA bl ic x.it g.d.k s').getD j gK))=r.map λj=>aE ids (ids.getD j 0) (bl.getD j gK):=by
          unfold eA;refine pU ?_;intro j hj;have:=hr j hj;simp only[List.mem_cons,List.not_mem_nil,or_false,not_or]at this;omega
         rw[w8]at gy;have gx:ids.length=(eA bl ic x.it g.d.k s').length:=by simp[eA,hl]
         have hw2:dk ids.length (eA bl ic x.it g.d.k s')=true:=by
          unfold eA;rw[<-hl]at qw l3;refine r_ ?_ _ _ (r_ ?_ _ _ qw)
          ·exact gY (Nat.zero_le _) _ (iW s')
          ·simp only[ew,zB,Cz,cH,fK,Bool.and_eq_true,Nat.blt_eq,Bool.true_and,Bool.and_true];exact l3
         rw[aI _ _ _ _ gx,aJ _ _ hw2,fc (ids':=xs) xs ex Zd];rw[g3,<-TX]at S2;have S3:St ms w0 (lits (ck (ids.getD ic 0) (ids.getD x.it 0)) (ck (ids.getD ic 0) (ids.getD x.it 0)) (fV g.d.k s')++(lits xs xs ex++((F'.B++[aE ids (ids.getD ip 0) (dF n' d f)])++(fn++(du u++((r.map λj=>aE ids (ids.getD j 0) (bl.getD j gK))++(fB++af rest R))))))) w':=S2;refine S3.perm ?_;show List.Perm _ ((lits ids ids (eA bl ic x.it g.d.k s')++lits xs xs ex)++(du u++((F'.B++(fn++fB))++af rest R)));refine List.Perm.trans ?_ ((gy.symm.append_right _).append_right _);exact cj λf=>by simp only[List.countP_append];omega
      ·exact hc.elim
     ·exact hc.elim
    ·exact hc.elim
   ·exact hc.elim
  ·exact hc.elim
 ·exact hc.elim
end Go.Proofs.YtggfpcggakghnaaGreatDoor
namespace Go.Proofs.YtggfpcggakghnaaGreatDoor
open Go Go.RowKit Go.BigFrame Sx Vx
variable{fr:Sd.Reply->Nat×Sd.Byt}
structure Zp where
 kind:Int
 link:Int
 code:Int
 x:Option Addr
 n:Nat
 c:Nat
 s:Sd.dS
 bad:Bool
def abQ (C:Sd.Crypt) (u:World) (s:Sd.Scene) (o:Zp):Sd.Scene:=
 if o.kind.tmod 4=1 then s.dU C o.s else if o.kind.tmod 4=2 then s.jg C o.bad else if o.kind.tmod 4=3 then s.tick C else cQ C s o.link o.code (sS 40 o.n) (ft u o.x)
def ZU (k:LK) (s:Sd.Scene):Prop:=some (aG k)=some (aG k)/\some (iA k)=some (iA k)/\Cz k 3 s=Cz k 3 (dv s)/\s.c.p.bh=s.c.p.bh/\s.c.p.aR=s.c.p.aR/\s.c.p.queue=k.most
section
variable(C:Sd.Crypt) (k:LK) (s:Sd.Scene) (F:bN fr (bA k s)) (u:World) (fB:List av) (o:Zp) (X:VK (LG fr))
end
theorem eo.step {k:LK} {s:Sd.Scene} (h:eo k s) (u:World) (o:Zp) (hx:Sd.Ku o.s.x):eo k (fS (abQ (ah aT) u s o)):=by
 unfold abQ;split
 ·exact h.dU hx
 split
 ·exact h.jg _
 split
 ·exact h.tick
 ·exact h.item _ _ _ _
end Go.Proofs.YtggfpcggakghnaaGreatDoor
namespace Go.Proofs.YtggfpcggakghnaaGreatDoor
open Go Go.RowKit Go.BigFrame Sx Vx
section
variable{G:Type} [Bl G]
end
section
variable(n c c':Nat) (y y':Option Addr) (q:Nat->Int) (a b:Bool) (ty ty':BT) (u u':List Value) (K:VK Empty)
end
variable{fr:Sd.Reply->Nat×Sd.Byt}
def TY (P:Program):(Operand->V)->Op->List VB->List (LG fr)->VK (LG fr)->Prop:=λe op bl ch K=>match op with
 |.call c=>(match c.callee,c.args.toList,c.argTypes.toList with
  |.builtin .append,[s,xs],[t,tx]=>(match P.underlying t,P.underlying tx with
   |some (.slice 5),some (.slice _)=>(match e s,e xs,ch with
    |.sl i 0 0 0,.raw (.slice a m c),.cn u::rest=>cond (dk bl.length bl) ((gF u a m c (ft u a)/\m<=1000000)/\(m=0->K (.sl i 0 0 0) bl (.cn u::rest))/\(0<m->∀d:Nat,K (.sl bl.length 0 m (m+d)) (bl++[dF m d (ft u a)]) (.cn u::rest))) False
    |_,_,_=>False)
   |_,_=>False)
  |_,_,_=>False)
 |_=>False
theorem Ce {gl:Nat->Option Nat}:oA (G:=LG fr) prog gl (TY prog):=by
 intro e op ids bl ch R ms w0 w K ρ o hg hl S cx ho h;unfold TY at h;split at h
 ·rename_i c;split at h
  ·rename_i s xs t tx eU a9 ju;split at h
   ·rename_i T ht o9;split at h
    ·rename_i i a m c' u rest qc ow;cases hq:dk bl.length bl with
     |false=>rw[hq]at h;exact h.elim
     |true=>
      rw[hq]at h;obtain⟨⟨hk,hm⟩,h0,h1⟩:=h;have Wz:∀y∈du u,y∈lits ids ids bl++af (.cn u::rest) R:=λy hy=>by
       refine List.mem_append_right _ ?_;show y∈du u++af rest R;exact List.mem_append_left _ hy
      have fZ:=FP (P:=prog) (⟨hm,TW S Wz hk⟩:cz w a m c' (ft u a)) o9;obtain⟨FZ,ar,td⟩:=c;simp only at eU a9 ju;have e2:ar=#[s,xs]:=by rw[<-a9]
      have e3:td=#[t,tx]:=by rw[<-ju]
      subst eU e2 e3;have sE:ρ s=.slice (some ⟨ids.getD i 0,0,none⟩) 0 0:=by rw[cx,qc];simp only[den]
      have OM:ρ xs=.slice a m c':=by rw[cx,ow];simp only[den]
      by_cases Ah:m=0
      ·subst Ah;refine⟨_,[],bl,_,w,.inl ?_,by simpa using hl,by simpa using S,h0 rfl⟩;rw[bP (P:=prog) (ρ:=ρ) (o:=o) ho sE OM (NU (g:=ft u a) fZ ht ⟨ids.getD i 0,0,none⟩)];simp only[den,List.append_nil]
      ·obtain⟨c2,w2,aY,eZ,hle,ER⟩:=xU (g:=ft u a) (x:=a) (ty:=o.type) (t:=t) fZ ht (by omega) (by omega) ⟨ids.getD i 0,0,none⟩;have h2:=h1 (by omega) (c2-m);rw[show m+(c2-m)=c2 by omega]at h2;refine⟨_,[w.heap.size],_,_,w2,.inl ?_,by simp[hl],?_,h2⟩
       ·rw[bP (P:=prog) (ρ:=ρ) (o:=o) ho sE OM aY];simp only[den];rw[<-hl,cy]
       ·have e:aE (ids++[w.heap.size]) w.heap.size (dF m (c2-m) (ft u a))=⟨w.heap.size,true,.cells (dc m (ft u a) c2) 5 (0,0)⟩:=by
         unfold aE;rw[jC,show m+(c2-m)=c2 by omega];rfl
        rw[aI _ _ _ _ hl,aJ _ _ (by rw[hl];exact hq)];simp only[lits,e];refine(S.new eZ (Nat.le_refl _) ER).perm ?_;rw[List.append_assoc];exact List.perm_middle.symm
    ·exact h.elim
   ·exact h.elim
  ·exact h.elim
 ·exact h.elim
theorem Md {G:Type} [Bl G] {C:Ctx G} {f n:Nat} {args:List V} {ch0:List G} {K:VK G} (hT:∀f c,C.T f=some c->Sound C.P C.gl f c) (hQ:iz C) (hgl:C.gl=gv) (fU:cJ C n f args [] ch0 K)
 {Y:List av} {ms:List Nat} {w0 w:World} (S:St ms w0 (af ch0 Y) w):
 aj C.P f (ao [] args).toArray w λv w'=>∃(x:V) (more:List Nat) (bl':List VB) (ch':List G),v=den more x/\more.length=bl'.length/\St ms w0 (lits more more bl'++af ch' Y) w'/\K x bl' ch':=
 bw hT hQ n (ids:=[]) (bl:=[]) (λg i h=>by rw[hgl]at h;cases h) rfl S fU
theorem KC {G:Type} [Bl G] {C:Ctx G} {f n:Nat} {ids:List Nat} {bl:List VB} {args args':List V} {ch0 rest:List G} {R:List av} {ms:List Nat} {w0 w:World} {K:VK G} (hT:∀f c,C.T f=some c->Sound C.P C.gl f c) (hQ:iz C) (hgl:C.gl=gv) (hl:ids.length=bl.length)
 (hw:dk bl.length bl=true) (ha:ao ids args=ao [] args') (S:St ms w0 (lits ids ids bl++af (ch0++rest) R) w) (fU:cJ C n f args' [] ch0 (cP 0 λv b c=>K (qf bl.length v) (bl++ZO bl.length b) (c++rest))):
 aj C.P f (ao ids args).toArray w λv w'=>∃x more bl' ch',v=den (ids++more) x/\(ids++more).length=bl'.length/\St ms w0 (lits (ids++more) (ids++more) bl'++af ch' R) w'/\K x bl' ch':=by
 have S1:St ms w0 (af ch0 (lits ids ids bl++af rest R)) w:=S.perm (by
  rw[cV,aW (af rest R) ch0,aW (lits ids ids bl++af rest R) ch0];exact cj λf=>by simp only[List.countP_append];omega)
 rw[ha];refine(Md hT hQ hgl fU S1).mono ?_;rintro v w' ⟨x,more,bl',ch',rfl,h1,S',hK⟩;obtain⟨v2,aP,bl2,hv,gx,S2,Mx⟩:=c9 (n0:=0) h1 (Nat.zero_le _) S' hK;simp only[List.take_zero,List.nil_append]at hv gx S2;refine⟨_,aP,_,_,?_,?_,?_,Mx⟩
 ·rw[hv,<-hl,tS]
 ·rw[List.length_append,List.length_append,Ky,hl,gx]
 ·rw[aI _ _ _ _ hl,aJ _ _ (by rw[hl];exact hw),<-hl,Kz];refine S2.perm ?_;rw[cV,aW (af rest R) ch',aW (lits ids ids bl++af rest R) ch'];exact cj λf=>by simp only[List.countP_append];omega
theorem ajo {ids:List Nat} {args:List V} (ha:cH 0 args=true):ao ids args=ao [] args:=by have:=dW (ids:=[]) (more:=ids) args ha;simpa using this
def KD (n:Nat):Nat:=if n=0 then 1 else sS 64 n
def zQ (n:Nat) (f:Sd.Byt):Sd.Byt:=if n=0 then λ_=>7 else f
theorem TZ (n:Nat):1<=KD n/\KD n<=64:=by unfold KD sS;split<;>omega
def T0:gm (LG fr):=λargs bl ch K=>match args,ch with
 |[.raw (.slice a n c)],.cn u::rest=>cond (dk bl.length bl) (gF u a n c (ft u a)/\∀d:Nat,K (.sl bl.length 0 (KD n) (KD n+d)) (bl++[dF (KD n) d (zQ n (ft u a))]) (.cn u::rest)) False
 |_,_=>False
def amn (u:World) (a:Option Addr) (n c:Nat) (K:VK (LG fr)):Prop:=
 let m:Int:=if(64:Int)<((n:Nat):Int)then 64 else((n:Nat):Int)
 cond ((n:Int)==0) (K (.sl 0 0 1 1) [⟨true,⟨5,(0,0)⟩,[.int .u8 7]⟩] [.cn u])
  ((0<=m/\m<=(c:Int))/\(gF u a m.toNat c (ft u a)/\m.toNat<=1000000)/\(m.toNat=0->K (.sl 0 0 0 0) [⟨true,⟨5,(0,0)⟩,[]⟩] [.cn u])/\(0<m.toNat->∀d:Nat,K (.sl 0 0 m.toNat (m.toNat+d)) [dF m.toNat d (ft u a)] [.cn u]))
theorem afe (u:World) (a:Option Addr) (n c:Nat) (K:VK (LG fr)):cJ (mL prog gv ([]:List (dI (LG fr))) (TY prog) Ce) 60 25 [.raw (.slice a n c)] [] [.cn u] (cP 0 K)=amn u a n c K:=by kernel_rfl
theorem Ih {gl:Nat->Option Nat}:Sound prog gl 25 (T0 (fr:=fr)):=by
 intro args ids bl ch R ms w0 w K hg hl S hc;unfold T0 at hc;split at hc
 ·rename_i a n c u rest;cases hq:dk bl.length bl with
  |false=>rw[hq]at hc;exact hc.elim
  |true=>
   rw[hq]at hc;obtain⟨hk,hK⟩:=hc
   let K0:VK (LG fr):=λv b ch=>ch=[.cn u]/\∃m d,KD n=m/\v=.sl 0 0 m (m+d)/\∃B,b=[B]/\aE [0] 0 B=aE [0] 0 (dF m d (zQ n (ft u a)))/\cH 0 B.c=true
   have fU:cJ (mL prog gv ([]:List (dI (LG fr))) (TY prog) Ce) 60 25 [.raw (.slice a n c)] [] [.cn u] (cP 0 K0):=by
    rw[afe];refine aU (λe=>?_) (λe=>?_)
    ·have e:n=0:=by simpa using e
     subst e;exact⟨rfl,1,0,rfl,rfl,_,rfl,rfl,rfl⟩
    ·have e:n≠0:=by simpa using e
     have hm:(if(64:Int)<((n:Nat):Int)then 64 else((n:Nat):Int))=((sS 64 n:Nat):Int):=Wp 64 n;rw[hm];have hn:KD n=sS 64 n:=by unfold KD;rw[if_neg e]
     have hf:zQ n (ft u a)=ft u a:=by unfold zQ;rw[if_neg e]
     have h1:=hk.1;have hle:sS 64 n<=n:=by unfold sS;omega
     have Gs:0<sS 64 n:=by unfold sS;omega
     have h64:sS 64 n<=64:=by unfold sS;omega
     refine⟨⟨by omega,by omega⟩,?_⟩;rw[Int.toNat_natCast];exact⟨⟨(hk.cut hle (by omega)).2,by omega⟩,λh0=>absurd h0 (by omega),λ_ d=>⟨rfl,_,d,hn,rfl,_,rfl,by rw[hf],rfl⟩⟩
   rw[ajo (ids:=ids) (args:=[.raw (.slice a n c)]) rfl];refine(Md (C:=mL prog gv ([]:List (dI (LG fr))) (TY prog) Ce) (ai.nil (P:=prog) (gl:=gv)).T (ai.nil (P:=prog) (gl:=gv)).Q rfl fU (Y:=lits ids ids bl++af rest R) (S.perm (cj λf=>by simp only[af,List.countP_append];show _+(List.countP f (du u)+_)=List.countP f (du u)+_;omega))).mono ?_;rintro v w' ⟨x,more,bl',ch',rfl,h1,S',Qo⟩;obtain⟨v2,aP,bl2,hv,gx,S2,rfl,m,d,hm,rfl,B,rfl,hB,hwB⟩:=c9 (n0:=0) h1 (Nat.zero_le _) S' Qo
   match aP,gx with
   |[b],_=>
    have hd:=hK d;rw[hm]at hd;refine⟨_,[b],_,_,?_,by simp[hl],?_,hd⟩
    ·rw[hv];have:(ids++[b]).getD bl.length 0=b:=by rw[<-hl];simp[List.getD]
     simp only[den,this,List.take_zero,List.nil_append];rfl
    ·have e1:aE [b] b B=aE (ids++[b]) b (dF m d (zQ n (ft u a))):=by
      have q1:aE [b] b B=aE [0] b B:=cF hwB;have q2:aE (ids++[b]) b (dF m d (zQ n (ft u a)))=aE [0] b (dF m d (zQ n (ft u a))):=cF rfl;rw[q1,q2];unfold aE at hB⊢;simp only[av.mk.injEq,Obj.cells.injEq]at hB⊢;exact⟨trivial,hB.2⟩
     rw[aI _ _ _ _ hl,aJ _ _ (by rw[hl];exact hq)];simp only[List.take_zero,List.nil_append,lits]at S2;rw[e1]at S2;refine S2.perm ?_;show List.Perm ([_]++(du u++(lits ids ids bl++af rest R))) ((lits ids ids bl++[_])++(du u++af rest R));exact cj λf=>by simp only[List.countP_append,List.countP_cons,List.countP_nil];omega
   |[],h=>simp at h
   |_::_::_,h=>simp at h
 ·exact hc.elim
theorem Ii:cT (T0 (fr:=fr)):=by
 intro args bl ch K hc;unfold T0 at hc⊢;split at hc
 ·cases hq:dk bl.length bl with
  |false=>rw[hq]at hc;exact hc.elim
  |true=>rw[hq]at hc;exact⟨hc.1,λd=>⟨hc.2 d,_,rfl⟩⟩
 ·exact hc.elim
def cW (a m:Int):Int:=(i64.wrap (a.tmod m+m)).tmod m
theorem oq (a:Int) {m:Int} (h:0<m) (h2:m<=1000000):0<=cW a m/\cW a m<m:=by
 unfold cW;have h1:=Int.tmod_lt_of_pos a h;have h3:-m<a.tmod m:=by
  have:=Int.lt_tmod_of_pos a h;omega
 have hw:i64.wrap (a.tmod m+m)=a.tmod m+m:=fG (by omega);rw[hw];exact⟨Int.tmod_nonneg _ (by omega),Int.tmod_lt_of_pos _ h⟩
def ao3:gm (LG fr):=λargs bl ch K=>match args with
 |[.int .i64 a,.int .i64 (.ofNat 3)]=>cond (Nat.blt bl.length 5) ((cW a 3=0->K (.int .i64 0) bl ch)/\(cW a 3=1->K (.int .i64 1) bl ch)/\(cW a 3=2->K (.int .i64 2) bl ch)) (K (.int .i64 (cW a 3)) bl ch)
 |[.int .i64 a,.int .i64 (.ofNat 2)]=>(cW a 2=0->K (.int .i64 0) bl ch)/\(cW a 2=1->K (.int .i64 1) bl ch)
 |[.int .i64 a,.int .i64 (.ofNat (m+1))]=>K (.int .i64 (cW a (.ofNat (m+1)))) bl ch
 |_=>False
theorem aff (a:Int) (m:Nat) (X:V->Prop):jQ prog [] 60 26 [.int .i64 a,.int .i64 (.ofNat (m+1))] X=X (.int .i64 (cW a (.ofNat (m+1)))):=by kernel_rfl
theorem NW (a:Int) (m:Nat) (ids:List Nat) (w:World):aj prog 26 (ao ids [.int .i64 a,.int .i64 (.ofNat (m+1))]).toArray w λx w'=>x=den ids (.int .i64 (cW a (.ofNat (m+1))))/\Ch [] w w':=
 ta aZ.nil 60 (by rw[aff]) rfl rfl ids w
theorem Ij {gl:Nat->Option Nat}:Sound prog gl 26 (ao3 (fr:=fr)):=by
 intro args ids bl ch R ms w0 w K hg hl S hc;have go:∀(a:Int) (m:Nat),K (.int .i64 (cW a (.ofNat (m+1)))) bl ch->aj prog 26 (ao ids [.int .i64 a,.int .i64 (.ofNat (m+1))]).toArray w λv w'=>∃x more bl' ch',v=den (ids++more) x/\(ids++more).length=bl'.length/\St ms w0 (lits (ids++more) (ids++more) bl'++af ch' R) w'/\K x bl' ch':=by
  intro a m hK;refine(NW a m ids w).mono ?_;rintro v w' ⟨rfl,eZ⟩;exact⟨_,[],bl,ch,by simp,by simpa using hl,by simpa using S.quiet eZ,hK⟩
 have cast:∀(a:Int) (m:Nat) (r:Int),cW a (.ofNat (m+1))=r->K (.int .i64 r) bl ch->K (.int .i64 (cW a (.ofNat (m+1)))) bl ch:=λa m r e h=>by rw[e];exact h
 unfold ao3 at hc;split at hc
 ·rename_i a;refine go a 2 ?_;have hb:=oq a (m:=3) (by decide) (by decide);cases hq:Nat.blt bl.length 5 with
  |false=>rw[hq]at hc;exact hc
  |true=>
   rw[hq]at hc;have h3:cW a (.ofNat (2+1))=cW a 3:=rfl;have:cW a 3=0\/cW a 3=1\/cW a 3=2:=by omega
   rcases this with e|e|e
   ·exact cast a 2 _ e (hc.1 e)
   ·exact cast a 2 _ e (hc.2.1 e)
   ·exact cast a 2 _ e (hc.2.2 e)
 ·rename_i a;refine go a 1 ?_;have hb:=oq a (m:=2) (by decide) (by decide);have:cW a 2=0\/cW a 2=1:=by omega
  rcases this with e|e
  ·exact cast a 1 _ e (hc.1 e)
  ·exact cast a 1 _ e (hc.2 e)
 ·rename_i a m _ _;exact go a m hc
 ·exact hc.elim
theorem Ik:cT (ao3 (fr:=fr)):=by
 intro args bl ch K hc;unfold ao3 at hc⊢;split at hc
 ·cases hq:Nat.blt bl.length 5 with
  |false=>rw[hq]at hc;exact⟨hc,[],by simp⟩
  |true=>rw[hq]at hc;exact⟨λe=>⟨hc.1 e,[],by simp⟩,λe=>⟨hc.2.1 e,[],by simp⟩,λe=>⟨hc.2.2 e,[],by simp⟩⟩
 ·exact⟨λe=>⟨hc.1 e,[],by simp⟩,λe=>⟨hc.2 e,[],by simp⟩⟩
 ·exact⟨hc,[],by simp⟩
 ·exact hc.elim
def iN:V->Int|.int .i64 n=>n|_=>0
def sA:V->Option Addr|.raw (.slice a _ _)=>a|_=>none
def sN:V->Nat|.raw (.slice _ n _)=>n|_=>0
def sC:V->Nat|.raw (.slice _ _ c)=>c|_=>0
def iZ (i:Nat):Bool:=Nat.ble 5 i&&Nat.ble i 8
def ao4 (i:Nat) (v:V):Bool:=match v with
 |.int .i64 _=>!iZ i
 |.raw (.slice _ _ _)=>iZ i
 |_=>false
def ES:List V->Nat->Bool
 |[],i=>Nat.beq i 56
 |v::l,i=>ao4 i v&&ES l (i+1)
structure ij where
 q:Nat->Int
 ka:Nat->Option Addr
 kn:Nat->Nat
 kc:Nat->Nat
def KE (l:List V):Option ij:=match l with
 |[.j8 p ka kn kc]=>some ⟨p.i,ka,kn,kc⟩
 |l=>bif ES l 0 then some ⟨λi=>iN (nth l i),λj=>sA (nth l (j+5)),λj=>sN (nth l (j+5)),λj=>sC (nth l (j+5))⟩else none
def se (i:Nat) (v:V):Value:=bif iZ i then .slice (sA v) (sN v) (sC v)else .int .i64 (iN v)
theorem ET (ids:List Nat):∀(l:List V) (i:Nat),ES l i=true->i+l.length=56/\ab ids l=(List.range l.length).map λj=>se (i+j) (nth l j)
 |[],i,h=>⟨Nat.eq_of_beq_eq_true h,rfl⟩
 |v::l,i,h=>by
  unfold ES at h;rw[Bool.and_eq_true]at h;obtain⟨h1,h2⟩:=ET ids l (i+1) h.2;refine⟨by simp;omega,?_⟩;rw[List.length_cons,List.range_succ_eq_map,List.map_cons,List.map_map];simp only[ab,h2];have e:ab ids l=(List.range l.length).map ((λj=>se (i+j) (nth (v::l) j))∘Nat.succ):=by
   rw[h2];apply List.map_congr_left;intro j _;show se (i+1+j) (nth l j)=se (i+(j+1)) (nth l j);rw[show i+1+j=i+(j+1) by omega]
  rw[<-h2,e];have hv:cl v (den ids v)=[se (i+0) (nth (v::l) 0)]:=by
   have h3:=h.1;unfold ao4 at h3;split at h3
   ·have:iZ i=false:=by simpa using h3
    simp only[cl,den,nth,se,Nat.add_zero,this,cond_false,iN]
   ·simp only[cl,den,nth,se,Nat.add_zero,h3,cond_true,sA,sN,sC]
   ·cases h3
  rw[hv];rfl
theorem EU {l:List V} {x:ij} (h:KE l=some x) (k:Nat->Nat×Sd.Byt) (ids:List Nat):ab ids l=uE ⟨x.q,k⟩ x.ka x.kn x.kc:=by
 unfold KE at h;split at h
 ·cases h;simp only[ab,cl,List.append_nil];rfl
 ·cases hb:ES l 0 with
  |false=>rw[hb]at h;cases h
  |true=>
   rw[hb]at h;cases h;obtain⟨h1,h2⟩:=ET ids l 0 hb;rw[h2,show l.length=56 by omega];unfold uE;apply List.map_congr_left;intro j hj;have hj:=List.mem_range.1 hj;show se (0+j) (nth l j)=_;rw[Nat.zero_add];unfold se iZ;cases hk:Nat.ble 5 j&&Nat.ble j 8 with
   |false=>rfl
   |true=>
    rw[Bool.and_eq_true]at hk;have:=Nat.le_of_ble_eq_true hk.1;simp only[cond_true];rw[show j-5+5=j by omega]
def pV (o1 o2 o3:Int) (q:Nat->Int) (i:Nat):Int:=
 bif Nat.ble i 13 then(bif Nat.beq i 1 then o1 else bif Nat.beq i 2 then o2 else bif Nat.beq i 3 then o3 else bif Nat.beq i 4 then 4 else bif Nat.beq i 9 then 1 else bif Nat.ble 10 i&&Nat.ble i 12 then bits .and .i64 (q i) 14 else 0)
 else bif Nat.ble i 33 then bits .and .i64 (q i) 15
 else bif Nat.ble i 38 then bits .and .i64 (q i) 31
 else bif Nat.ble i 41 then cW (q i) 5
 else bif Nat.ble i 46 then i64.wrap (1+cW (q i) 1000)
 else bif Nat.beq i 47 then cW (q i) 1001
 else bif Nat.ble i 49 then i64.wrap (1+cW (q i) 3)
 else bif Nat.beq i 50 then 0
 else bif Nat.ble i 53 then cW (q i) 1001
 else bif Nat.beq i 54 then i64.wrap (1+cW (q i) 1000)
 else bits .and .i64 (q i) 65535
def Il (q:Nat->Int) (o1 o2 o3:Int):Prop:=
 (cW (q 1) 3=0/\((cW (q 2) 2=0/\o1=1/\o2=2/\o3=3)\/(cW (q 2) 2=1/\o1=1/\o2=3/\o3=2)))\/
 (cW (q 1) 3=1/\((cW (q 2) 2=0/\o1=2/\o2=1/\o3=3)\/(cW (q 2) 2=1/\o1=2/\o2=3/\o3=1)))\/
 (cW (q 1) 3=2/\((cW (q 2) 2=0/\o1=3/\o2=2/\o3=1)\/(cW (q 2) 2=1/\o1=3/\o2=1/\o3=2)))
def k4 {α:Type} (a b c d:α):Nat->α:=λj=>match j with|0=>a|1=>b|2=>c|_=>d
def amo (o1 o2 o3:Int) (q:Nat->Int) (kn d:Nat->Nat):List V:=(List.range 56).map λi=>bif iZ i then .sl (i-5) 0 (KD (kn (i-5))) (KD (kn (i-5))+d (i-5))else .int .i64 (pV o1 o2 o3 q i)
def ao5 (p:Nat->Int) (n d:Nat->Nat):List V:=(List.range 56).map λi=>bif iZ i then .sl (i-5) 0 (n (i-5)) (n (i-5)+d (i-5))else .int .i64 (p i)
section
variable(x:ij) (f:Nat->Nat×Sd.Byt) (u:World) (K:VK (LG fr))
def KG (i d:Nat):VB:=dF (KD (x.kn i)) d (zQ (x.kn i) (ft u (x.ka i)))
def zR (i:Nat):Prop:=gF u (x.ka i) (x.kn i) (x.kc i) (ft u (x.ka i))
def afg (d3:Nat) (o1 o2 o3:Int):Prop:=zR x u 0/\∀d0:Nat,zR x u 1/\∀d1:Nat,zR x u 2/\∀d2:Nat,K (.agg (amo o1 o2 o3 x.q x.kn (k4 d0 d1 d2 d3))) [KG x u 0 d0,KG x u 1 d1,KG x u 2 d2,KG x u 3 d3] [.cn u]
def T7 (d3:Nat) (o1 o2 o3:Int):Prop:=(cW (x.q 2) 2=0->afg x u K d3 o1 o2 o3)/\(cW (x.q 2) 2=1->afg x u K d3 o1 o3 o2)
def ajp:Prop:=zR x u 3/\∀d3:Nat,(cW (x.q 1) 3=0->T7 x u K d3 1 2 3)/\(cW (x.q 1) 3=1->T7 x u K d3 2 1 3)/\(cW (x.q 1) 3=2->T7 x u K d3 3 2 1)
def afh (fr:Sd.Reply->Nat×Sd.Byt):List (dI (LG fr)):=[⟨25,true,T0⟩,⟨26,true,ao3⟩]
theorem KH:ai prog gv (afh fr):=ai.cons ⟨Ih,λ_=>Ii⟩ (ai.cons ⟨Ij,λ_=>Ik⟩ ai.nil)
theorem afi:cJ (dR prog gv (afh fr)) 60 10 [.agg [.j8 ⟨x.q,f⟩ x.ka x.kn x.kc]] [] [.cn u] (cP 0 K)=ajp x u K:=by kernel_rfl
end
structure Made (x:ij) (p:Nat->Int) (n:Nat->Nat):Prop where
 o:Il x.q (p 1) (p 2) (p 3)
 p:∀i,i<56->iZ i=false->p i=pV (p 1) (p 2) (p 3) x.q i
 n:∀j,n j=KD (x.kn j)
def ajq (x:ij) (u:World) (K:VK (LG fr)):Prop:=(zR x u 0/\zR x u 1/\zR x u 2/\zR x u 3)/\∀(p:Nat->Int) (n d:Nat->Nat),Made x p n->
 K (.agg (ao5 p n d)) [dF (n 0) (d 0) (zQ (x.kn 0) (ft u (x.ka 0))),dF (n 1) (d 1) (zQ (x.kn 1) (ft u (x.ka 1))),dF (n 2) (d 2) (zQ (x.kn 2) (ft u (x.ka 2))),dF (n 3) (d 3) (zQ (x.kn 3) (ft u (x.ka 3)))] [.cn u]
theorem afj {x:ij} {u:World} {K:VK (LG fr)} (h:ajq x u K):ajp x u K:=by
 obtain⟨⟨r0,r1,r2,r3⟩,hK⟩:=h;have g:∀(d3:Nat) (o1 o2 o3:Int),Il x.q o1 o2 o3->afg x u K d3 o1 o2 o3:=λd3 o1 o2 o3 h=>⟨r0,λd0=>⟨r1,λd1=>⟨r2,λd2=>hK (pV o1 o2 o3 x.q) (λj=>KD (x.kn j)) (k4 d0 d1 d2 d3) ⟨h,λ_ _ _=>rfl,λ_=>rfl⟩⟩⟩⟩;refine⟨r3,λd3=>⟨λe=>⟨λe2=>g d3 _ _ _ ?_,λe2=>g d3 _ _ _ ?_⟩,λe=>⟨λe2=>g d3 _ _ _ ?_,λe2=>g d3 _ _ _ ?_⟩,λe=>⟨λe2=>g d3 _ _ _ ?_,λe2=>g d3 _ _ _ ?_⟩⟩⟩<;>(unfold Il;omega)
def T8:gm (LG fr):=λargs bl ch K=>match args,ch with
 |[.agg l],.cn u::rest=>(match KE l with
  |some x=>cond (dk bl.length bl) (ajq x u λv b c=>K (qf bl.length v) (bl++ZO bl.length b) (c++rest)) False
  |none=>False)
 |_,_=>False
theorem tT {gl:Nat->Option Nat}:Sound prog gl 10 (T8 (fr:=fr)):=by
 intro args ids bl ch R ms w0 w K hg hl S hc;unfold T8 at hc;split at hc
 ·rename_i l u rest;split at hc
  ·rename_i x hx;cases hq:dk bl.length bl with
   |false=>rw[hq]at hc;exact hc.elim
   |true=>
    rw[hq]at hc;refine KC (C:=dR prog gv (afh fr)) (n:=60) (args':=[.agg [.j8 ⟨x.q,λ_=>(0,λ_=>0)⟩ x.ka x.kn x.kc]]) (ch0:=[.cn u]) (rest:=rest) KH.T KH.Q rfl hl hq ?_ S (by rw[afi];exact afj hc);simp only[ao,den,EU hx (λ_=>(0,λ_=>0)) ids,ab,cl,List.append_nil]
  ·exact hc.elim
 ·exact hc.elim
def ajr (i:Nat) (v:V):Bool:=match v with
 |.int .i64 _=>!iZ i
 |.raw (.slice _ _ _)=>iZ i
 |.sl _ _ _ _=>iZ i
 |_=>false
def nG:List V->Nat->Bool
 |[],i=>Nat.beq i 56
 |v::l,i=>ajr i v&&nG l (i+1)
def ka3 (ids:List Nat):V->Option Addr|.raw (.slice a _ _)=>a|.sl i o _ _=>some ⟨ids.getD i 0,o,none⟩|_=>none
def Zq:V->Nat|.raw (.slice _ n _)=>n|.sl _ _ n _=>n|_=>0
def kc3:V->Nat|.raw (.slice _ _ c)=>c|.sl _ _ _ c=>c|_=>0
def mi (ids:List Nat) (i:Nat) (v:V):Value:=bif iZ i then .slice (ka3 ids v) (Zq v) (kc3 v)else .int .i64 (iN v)
theorem EV (ids:List Nat):∀(l:List V) (i:Nat),nG l i=true->i+l.length=56/\ab ids l=(List.range l.length).map λj=>mi ids (i+j) (nth l j)
 |[],i,h=>⟨Nat.eq_of_beq_eq_true h,rfl⟩
 |v::l,i,h=>by
  unfold nG at h;rw[Bool.and_eq_true]at h;obtain⟨h1,h2⟩:=EV ids l (i+1) h.2;refine⟨by simp;omega,?_⟩;rw[List.length_cons,List.range_succ_eq_map,List.map_cons,List.map_map];simp only[ab,h2];have e:(List.range l.length).map (λj=>mi ids (i+1+j) (nth l j))=(List.range l.length).map ((λj=>mi ids (i+j) (nth (v::l) j))∘Nat.succ):=by
   apply List.map_congr_left;intro j _;show mi ids (i+1+j) (nth l j)=mi ids (i+(j+1)) (nth l j);rw[show i+1+j=i+(j+1) by omega]
  rw[e];have hv:cl v (den ids v)=[mi ids (i+0) (nth (v::l) 0)]:=by
   have h3:=h.1;unfold ajr at h3;split at h3
   ·have:iZ i=false:=by simpa using h3
    simp only[cl,den,nth,mi,Nat.add_zero,this,cond_false,iN]
   ·simp only[cl,den,nth,mi,Nat.add_zero,h3,cond_true,ka3,Zq,kc3]
   ·simp only[cl,den,nth,mi,Nat.add_zero,h3,cond_true,ka3,Zq,kc3]
   ·cases h3
  rw[hv];rfl
def Zr (l:List V) (f:Nat->Nat×Sd.Byt):Sd.Pol:=⟨λi=>iN (nth l i),f⟩
theorem Cf {l:List V} (h:nG l 0=true) (f:Nat->Nat×Sd.Byt) (ids:List Nat):(ao ids [.agg l]).toArray=#[.agg (kJ (Zr l f) (λj=>ka3 ids (nth l (j+5))) (λj=>Zq (nth l (j+5))) (λj=>kc3 (nth l (j+5))))]:=by
 obtain⟨h1,h2⟩:=EV ids l 0 h;simp only[ao,den];rw[h2,show l.length=56 by omega];rfl
def xq:Nat->Nat×Sd.Byt:=λ_=>(0,λ_=>0)
def T9:QF:=⟨27,λargs _=>match args with
 |[.agg l]=>bif nG l 0 then some (True,.int .i64 (ee (λi=>iN (nth l i)) (λj=>Zq (nth l (j+5)))))else none
 |_=>none⟩
def T_:QF:=⟨30,λargs _=>match args with
 |[.agg l]=>bif nG l 0 then some (True,.agg (cI (Sd.Tok.new (Zr l xq))))else none
 |_=>none⟩
def afk:QF:=⟨33,λargs _=>match args with
 |[.raw (.slice none 0 0)]=>some (True,.agg [.dC .u8 32 λ_=>0])
 |_=>none⟩
theorem Ua (gl:Nat->Option Nat):T9.Ok prog gl:=by
 intro args bl p_ v_ h hp ids w _ _;unfold T9 at h;dsimp only at h;split at h
 ·rename_i l;cases hq:nG l 0 with
  |false=>rw[hq]at h;cases h
  |true=>
   rw[hq]at h;simp only[cond_true,Option.some.injEq,Prod.mk.injEq]at h;obtain⟨rfl,rfl⟩:=h;rw[Cf hq xq ids];exact Yi (Zr l xq) _ _ _ w
 ·cases h
theorem Ub (gl:Nat->Option Nat):T_.Ok prog gl:=by
 intro args bl p_ v_ h hp ids w _ _;unfold T_ at h;dsimp only at h;split at h
 ·rename_i l;cases hq:nG l 0 with
  |false=>rw[hq]at h;cases h
  |true=>
   rw[hq]at h;simp only[cond_true,Option.some.injEq,Prod.mk.injEq]at h;obtain⟨rfl,rfl⟩:=h;rw[Cf hq xq ids];exact abv (Zr l xq) _ _ _ w
 ·cases h
theorem ZV (gl:Nat->Option Nat):afk.Ok prog gl:=by
 intro args bl p_ v_ h hp ids w _ _;unfold afk at h;dsimp only at h;split at h
 ·simp only[Option.some.injEq,Prod.mk.injEq]at h;obtain⟨rfl,rfl⟩:=h;exact told (adZ w)
 ·cases h
def Zs (p:Sd.Pol):Sd.Scene:=⟨.new p,[],[]⟩
def ZW:gm (LG fr):=λargs bl ch K=>match args with
 |[.agg l]=>cond (nG l 0&&dk bl.length bl) (K (.ptr bl.length 0) (bl++[gP (Zs (Zr l xq))]) ch) False
 |_=>False
theorem xV (p:Sd.Pol) (bt:Nat) (ids:List Nat):aE ids bt (gP (Zs p))=⟨bt,true,.cells (jy (false,⟨0,0⟩) (f3 ⟨false,⟨0,0⟩,0,(λ_=>0),⟨false,0,0⟩⟩ ⟨false,⟨0,0⟩,0,(λ_=>0),⟨false,0,0⟩⟩ ⟨false,⟨0,0⟩,0,(λ_=>0),⟨false,0,0⟩⟩) (p.i 42) (p.i 49)) 157 (0,0)⟩:=by kernel_rfl
def Uc:List V:=[.bool false,.int .i64 0,.int .i64 0,.int .i64 0]++(List.replicate 32 (.int .u8 0)++[.bool false,.int .i64 0,.int .u64 0])
def KI (b m:Int):List V:=[.bool false,.int .i64 0,.int .i64 0]++(Uc++(Uc++(Uc++[.int .i64 b,.int .i64 m])))
theorem ajs (p:Sd.Pol) (ka:Nat->Option Addr) (kn kc:Nat->Nat) (K:VK Empty):cJ (dR prog gv ([]:List (dI Empty))) 30 31 [.agg (ff p ka kn kc)] [] [] (cP 0 K)=K (.ptr 0 0) [⟨true,⟨157,(0,0)⟩,KI (p.i 42) (p.i 49)⟩] []:=by kernel_rfl
theorem afl (p:Sd.Pol) (bt:Nat) (ids:List Nat):aE ids bt ⟨true,⟨157,(0,0)⟩,KI (p.i 42) (p.i 49)⟩=aE ids bt (gP (Zs p)):=by kernel_rfl
theorem abR {G:Type} [Bl G] {C:Ctx G} {f n:Nat} {args:List V} {ch0:List G} {K:VK G} (hT:∀f c,C.T f=some c->Sound C.P C.gl f c) (hQ:iz C) (hgl:C.gl=gv) (fU:Hd (cJ C n f args [] ch0 K))
 {Y:List av} {ms:List Nat} {w0 w:World} (S:St ms w0 (af ch0 Y) w):
 aj C.P f (ao [] args).toArray w λv w'=>∃(x:V) (more:List Nat) (bl':List VB) (ch':List G),v=den more x/\more.length=bl'.length/\St ms w0 (lits more more bl'++af ch' Y) w'/\K x bl' ch':=Md hT hQ hgl fU.h S
theorem Ud (p:Sd.Pol) (ka:Nat->Option Addr) (kn kc:Nat->Nat) {Y:List av} {ms:List Nat} {w0 w:World} (S:St ms w0 Y w):aj prog 31 #[.agg (kJ p ka kn kc)] w λv w1=>∃bt,v=.pointer (some ⟨bt,0,none⟩)/\St ms w0 (aE [] bt (gP (Zs p))::Y) w1:=by
 have hv:Hd (cJ (dR prog gv ([]:List (dI Empty))) 30 31 [.agg (ff p ka kn kc)] [] [] (cP 0 λv b _=>v=.ptr 0 0/\b=[⟨true,⟨157,(0,0)⟩,KI (p.i 42) (p.i 49)⟩])):=⟨by rw[ajs];exact⟨rfl,rfl⟩⟩;have hr:=abR (C:=dR prog gv ([]:List (dI Empty))) (ai.nil (P:=prog) (gl:=gv)).T (ai.nil (P:=prog) (gl:=gv)).Q rfl hv (Y:=Y) S;clear hv;refine hr.mono ?_;rintro v w' ⟨y,more,bl',ch',rfl,h1,S',hK⟩;obtain⟨v2,aP,bl2,e,gx,S2,rfl,rfl⟩:=c9 (n0:=0) (ids:=more) h1 (by simp) S' hK
 match aP,gx,e,S2 with
 |[bt],_,e,S2=>
  have S3:St ms w0 ([aE [bt] bt ⟨true,⟨157,(0,0)⟩,KI (p.i 42) (p.i 49)⟩]++Y) w':=match ch',S2 with
   |[],S2=>S2
   |e::_,_=>nomatch e
  rw[afl,xV,<-xV p bt []]at S3;exact⟨bt,e,S3⟩
theorem Ue:oP prog gv (⟨31,true,ZW⟩:dI (LG fr)):=by
 refine⟨?_,λ_ args bl ch K h=>?_⟩
 ·intro args ids bl ch R ms w0 w K hg hl S hc;simp only at hc;unfold ZW at hc;split at hc
  ·rename_i l;cases hq:nG l 0&&dk bl.length bl with
   |false=>rw[hq]at hc;exact hc.elim
   |true=>
    rw[hq]at hc;simp only[Bool.and_eq_true]at hq;rw[Cf hq.1 xq ids];refine(Ud (Zr l xq) _ _ _ S).mono ?_;rintro v w' ⟨bt,rfl,S2⟩;rw[xV]at S2;refine⟨_,[bt],_,ch,?_,by simp[hl],?_,hc⟩
    ·simp only[den];rw[<-hl,cy]
    ·rw[aI _ _ _ _ hl,aJ _ _ (by rw[hl];exact hq.2)];simp only[lits];rw[xV];refine S2.perm ?_;rw[List.append_assoc];exact List.perm_middle.symm
  ·exact hc.elim
 ·simp only at h⊢;unfold ZW at h⊢;split at h
  ·rename_i l;cases hq:nG l 0&&dk bl.length bl with
   |false=>rw[hq]at h;exact h.elim
   |true=>rw[hq]at h;exact⟨h,_,rfl⟩
  ·exact h.elim
def EW (P:Program):(Operand->V)->Op->List VB->List (LG fr)->VK (LG fr)->Prop:=λe op bl ch K=>match op with
 |.call c=>(match c.callee,c.args.toList,c.argTypes.toList with
  |.builtin .append,[s,xs],[t,tx]=>(match P.underlying t,P.underlying tx with
   |some (.slice 5),some (.slice _)=>(match e s,e xs,ch with
    |.sl i 0 0 0,.raw (.slice a m c),.cn u::rest=>cond (dk bl.length bl) (∃f,(gF u a m c f/\m<=1000000/\0<m)/\∀d:Nat,K (.sl bl.length 0 m (m+d)) (bl++[dF m d f]) (.cn u::rest)) False
    |_,_,_=>False)
   |_,_=>False)
  |_,_,_=>False)
 |_=>False
theorem xW {gl:Nat->Option Nat}:oA (G:=LG fr) prog gl (EW prog):=by
 intro e op ids bl ch R ms w0 w K ρ o hg hl S cx ho h;unfold EW at h;split at h
 ·rename_i c;split at h
  ·rename_i s xs t tx eU a9 ju;split at h
   ·rename_i T ht o9;split at h
    ·rename_i i a m c' u rest qc ow;cases hq:dk bl.length bl with
     |false=>rw[hq]at h;exact h.elim
     |true=>
      rw[hq]at h;obtain⟨f,⟨hk,hm,Ah⟩,h1⟩:=h;have Wz:∀y∈du u,y∈lits ids ids bl++af (.cn u::rest) R:=λy hy=>by
       refine List.mem_append_right _ ?_;show y∈du u++af rest R;exact List.mem_append_left _ hy
      have fZ:=FP (P:=prog) (⟨hm,TW S Wz hk⟩:cz w a m c' f) o9;obtain⟨FZ,ar,td⟩:=c;simp only at eU a9 ju;have e2:ar=#[s,xs]:=by rw[<-a9]
      have e3:td=#[t,tx]:=by rw[<-ju]
      subst eU e2 e3;have sE:ρ s=.slice (some ⟨ids.getD i 0,0,none⟩) 0 0:=by rw[cx,qc];simp only[den]
      have OM:ρ xs=.slice a m c':=by rw[cx,ow];simp only[den]
      obtain⟨c2,w2,aY,eZ,hle,ER⟩:=xU (g:=f) (x:=a) (ty:=o.type) (t:=t) fZ ht Ah (by omega) ⟨ids.getD i 0,0,none⟩;have h2:=h1 (c2-m);rw[show m+(c2-m)=c2 by omega]at h2;refine⟨_,[w.heap.size],_,_,w2,.inl ?_,by simp[hl],?_,h2⟩
      ·rw[bP (P:=prog) (ρ:=ρ) (o:=o) ho sE OM aY];simp only[den];rw[<-hl,cy]
      ·have e:aE (ids++[w.heap.size]) w.heap.size (dF m (c2-m) f)=⟨w.heap.size,true,.cells (dc m f c2) 5 (0,0)⟩:=by
        unfold aE;rw[jC,show m+(c2-m)=c2 by omega];rfl
       rw[aI _ _ _ _ hl,aJ _ _ (by rw[hl];exact hq)];simp only[lits,e];refine(S.new eZ (Nat.le_refl _) ER).perm ?_;rw[List.append_assoc];exact List.perm_middle.symm
    ·exact h.elim
   ·exact h.elim
  ·exact h.elim
 ·exact h.elim
def LNw (fr:Sd.Reply->Nat×Sd.Byt):List (dI (LG fr)):=⟨31,true,ZW⟩::qL (LG fr) [T9,T_,afk,J4]
theorem Uf:ai prog gv (LNw fr):=ai.cons Ue (f_ (aZ.cons (Ua _) (aZ.cons (Ub _) (aZ.cons (ZV _) (aZ.cons (El _) aZ.nil)))))
def amp (p:Sd.Pol) (kn d:Nat->Nat):List V:=(List.range 56).map λo=>bif Nat.ble 5 o&&Nat.ble o 8 then .sl (o-4) 0 (kn (o-5)) (kn (o-5)+d (o-5))else .int .i64 (p.i o)
def Ug:List V:=[.int .i64 0,.bool false]++List.replicate 8 (.int .u8 0)
def Uh (p:Sd.Pol) (kn d:Nat->Nat):List V:=amp p kn d++(cI (Sd.Tok.new p)++(.ptr 5 0::(Ug++(Ug++(Ug++([.ptr 6 0,.int .i64 0,.int .i64 0,.int .i64 (p.i 39)]++(oF ⟨2,4,0⟩++(rK ⟨1,⟨0,0,0,0⟩,⟨0,0,0,0⟩,⟨2,4,0⟩⟩++[.dC .u8 32 λ_=>0]))))))))
def ZX (p:Sd.Pol) (kn d:Nat->Nat) (kf:Nat->Nat->Int):List VB:=[⟨true,⟨105,(0,0)⟩,Uh p kn d⟩,dF (kn 0) (d 0) (kf 0),dF (kn 1) (d 1) (kf 1),dF (kn 2) (d 2) (kf 2),dF (kn 3) (d 3) (kf 3),
 ⟨true,⟨146,(0,0)⟩,[.raw (.slice none 0 0),.int .i64 (p.i 48),.int .u64 0]⟩,gP (Zs p)]
def ZY (u:World) (xa:Nat->Addr) (kn kc:Nat->Nat) (i:Nat) (X:(Nat->Int)->Nat->Prop):Prop:=∃f,(gF u (some (xa i)) (kn i) (kc i) f/\kn i<=1000000/\0<kn i)/\∀d,X f d
def cd3 (p:Sd.Pol) (xa:Nat->Addr) (kn kc:Nat->Nat):Int:=ee (λi=>iN (nth (ff p (λi=>some (xa i)) kn kc) i)) (λj=>Zq (nth (ff p (λi=>some (xa i)) kn kc) (j+5)))
theorem afm (p:Sd.Pol) (xa:Nat->Addr) (kn kc:Nat->Nat):cd3 p xa kn kc=ee p.i kn:=by kernel_rfl
def O_ (u:World) (p:Sd.Pol) (xa:Nat->Addr) (kn kc:Nat->Nat) (K:VK (LG fr)):Prop:=True/\cond (cd3 p xa kn kc !=0) (K (.az [.raw (.pointer none),.int .i64 (cd3 p xa kn kc)]) [] [.cn u])
 (cond (decide (p.i 48<1)) (K (.az [.raw (.pointer none),.int .i64 1]) [] [.cn u]) (cond (decide (p.i 48>64)) (K (.az [.raw (.pointer none),.int .i64 1]) [] [.cn u])
  (ZY u xa kn kc 0 λf0 d0=>ZY u xa kn kc 1 λf1 d1=>ZY u xa kn kc 2 λf2 d2=>ZY u xa kn kc 3 λf3 d3=>True/\True/\True/\True/\K (.az [.ptr 0 0,.int .i64 0]) (ZX p kn (λj=>[d0,d1,d2,d3].getD j 0) λj=>[f0,f1,f2,f3].getD j f0) [.cn u])))
theorem afn (u:World) (p:Sd.Pol) (xa:Nat->Addr) (kn kc:Nat->Nat) (K:VK (LG fr)):cJ (mL prog gv (LNw fr) (EW prog) xW) 60 11 [.agg (ff p (λi=>some (xa i)) kn kc)] [] [.cn u] (cP 0 K)=O_ u p xa kn kc K:=by kernel_rfl
def KN (u:World) (p:Sd.Pol) (kn:Nat->Nat) (kf:Nat->Nat->Int):VK (LG fr):=λv b ch=>∃d,v=.az [.ptr 0 0,.int .i64 0]/\b=ZX p kn d kf/\ch=[.cn u]
theorem ZZ {u:World} {p:Sd.Pol} {xa:Nat->Addr} {kn kc:Nat->Nat} {kf:Nat->Nat->Int} (h:ee p.i kn=0) (hk:∀i,i<4->cz u (some (xa i)) (kn i) (kc i) (kf i)) (h1:∀i,i<4->0<kn i):O_ (fr:=fr) u p xa kn kc (KN u p kn kf):=by
 have hc:cd3 p xa kn kc=0:=(afm p xa kn kc).trans h;have hq:=RG h;refine⟨trivial,aU (λe=>absurd hc (by simpa using e)) λ_=>aU (λe=>absurd (of_decide_eq_true e) (by omega)) λ_=>aU (λe=>absurd (of_decide_eq_true e) (by omega)) λ_=>?_⟩;exact⟨kf 0,⟨(hk 0 (by omega)).2,(hk 0 (by omega)).1,h1 0 (by omega)⟩,λd0=>⟨kf 1,⟨(hk 1 (by omega)).2,(hk 1 (by omega)).1,h1 1 (by omega)⟩,λd1=>⟨kf 2,⟨(hk 2 (by omega)).2,(hk 2 (by omega)).1,h1 2 (by omega)⟩,λd2=>⟨kf 3,⟨(hk 3 (by omega)).2,(hk 3 (by omega)).1,h1 3 (by omega)⟩,
  λd3=>⟨trivial,trivial,trivial,trivial,λj=>[d0,d1,d2,d3].getD j 0,rfl,rfl,rfl⟩⟩⟩⟩⟩
theorem afo (p:Sd.Pol) (kn d:Nat->Nat) (b k0 k1 k2 k3 bq bt:Nat):aE [b,k0,k1,k2,k3,bq,bt] b ⟨true,⟨105,(0,0)⟩,Uh p kn d⟩=⟨b,true,.cells (mz p (λi=>some ⟨[k0,k1,k2,k3].getD i 0,0,none⟩) kn (λi=>kn i+d i) (⟨4,(p.i 55),(-1),(⟨0,0⟩:Sd.Timer),(⟨0,0⟩:Sd.Timer),false⟩:Sd.Tok) bq
 (f3 (⟨(0:Int),false,(λ_=>0)⟩:Sd.dQ) (⟨(0:Int),false,(λ_=>0)⟩:Sd.dQ) (⟨(0:Int),false,(λ_=>0)⟩:Sd.dQ)) bt (0:Int) (0:Int) (p.i 39) (⟨2,4,0⟩:Sd.Label) (⟨1,(⟨0,0,0,0⟩:Sd.X4),(⟨0,0,0,0⟩:Sd.X4),(⟨2,4,0⟩:Sd.Label)⟩:Sd.Point) (λ_=>0)) 105 (0,0)⟩:=by kernel_rfl
theorem Ui (p:Sd.Pol) (ka:Nat->Option Addr) (kn kc:Nat->Nat) (kf:Nat->Nat->Int) (h:ee p.i kn=0) (w:World) (hk:∀i,i<4->cz w (ka i) (kn i) (kc i) (kf i)):
 aj prog 11 #[.agg (kJ p ka kn kc)] w λv w1=>∃(b bq bt:Nat) (xa:Nat->Option Addr) (xc:Nat->Nat) (B:Nat->List av),v=.tuple #[.pointer (some ⟨b,0,none⟩),.int .i64 0]/\(∀i,i<4->eK 5 (kn i) (kf i) (xa i) (xc i) (B i))/\St [] w ([⟨b,true,.cells (mz p xa kn xc (⟨4,(p.i 55),(-1),(⟨0,0⟩:Sd.Timer),(⟨0,0⟩:Sd.Timer),false⟩:Sd.Tok) bq (f3 (⟨(0:Int),false,(λ_=>0)⟩:Sd.dQ) (⟨(0:Int),false,(λ_=>0)⟩:Sd.dQ) (⟨(0:Int),false,(λ_=>0)⟩:Sd.dQ)) bt (0:Int) (0:Int) (p.i 39) (⟨2,4,0⟩:Sd.Label) (⟨1,(⟨0,0,0,0⟩:Sd.X4),(⟨0,0,0,0⟩:Sd.X4),(⟨2,4,0⟩:Sd.Label)⟩:Sd.Point) (λ_=>0)) 105 (0,0)⟩,⟨bq,true,.cells #[.slice none 0 0,.int .i64 (p.i 48),.int .u64 0] 146 (0,0)⟩,⟨bt,true,.cells (jy (false,(⟨(0:Int),(0:Int)⟩:Sd.Timer)) (f3 (⟨false,⟨(0:Int),(0:Int)⟩,(0:Int),(λ_=>0),⟨false,(0:Int),(0:Int)⟩⟩:Sd.bm) (⟨false,⟨(0:Int),(0:Int)⟩,(0:Int),(λ_=>0),⟨false,(0:Int),(0:Int)⟩⟩:Sd.bm) (⟨false,⟨(0:Int),(0:Int)⟩,(0:Int),(λ_=>0),⟨false,(0:Int),(0:Int)⟩⟩:Sd.bm)) (p.i 42) (p.i 49)) 157 (0,0)⟩]++(B 0++(B 1++(B 2++(B 3++[]))))) w1:=by
 have HP:∀i,i<4->0<kn i:=by
  have:(uv kn&&wV (kn 3))=true:=by
   cases e:(uv kn&&wV (kn 3))with
   |true=>rfl
   |false=>exfalso;unfold ee at h;repeat' split at h
           all_goals first|omega|(rename_i h48;simp[e]at h48)
  simp only[uv,wV,Bool.and_eq_true,decide_eq_true_eq]at this;intro i hi
  match i,hi with
  |0,_=>omega
  |1,_=>omega
  |2,_=>omega
  |3,_=>omega
  |i+4,h=>exact absurd h (by omega)
 have hx:∀i,∃x,i<4->ka i=some x:=by
  intro i;by_cases hi:i<4
  ·cases e:ka i with
   |none=>have:=((hk i hi).2.2.1 e).1;have:=HP i hi;omega
   |some x=>exact⟨x,λ_=>rfl⟩
  ·exact⟨⟨0,0,none⟩,λh=>absurd h hi⟩
 let ya:Nat->Addr:=λi=>Classical.choose (hx i)
 have hy:∀i,i<4->ka i=some (ya i):=λi=>Classical.choose_spec (hx i);have e0:#[Value.agg (kJ p ka kn kc)]=(ao [] [.agg (ff p (λi=>some (ya i)) kn kc)]).toArray:=by
  have e1:kJ p ka kn kc=kJ p (λi=>some (ya i)) kn kc:=by
   unfold kJ;rw[hy 0 (by omega),hy 1 (by omega),hy 2 (by omega),hy 3 (by omega)]
  exact(congrArg (λx=>#[Value.agg x]) e1).trans (by kernel_rfl)
 rw[e0];have hv:Hd (cJ (mL prog gv (LNw λ_=>(0,λ_=>0)) (EW prog) xW) 60 11 [.agg (ff p (λi=>some (ya i)) kn kc)] [] [.cn w] (cP 0 (KN w p kn kf))):=⟨by rw[afn];exact ZZ h (λi hi=>by rw[<-hy i hi];exact hk i hi) HP⟩;have hr:=abR (C:=mL prog gv (LNw λ_=>(0,λ_=>0)) (EW prog) xW) Uf.T Uf.Q rfl hv (Y:=[]) (show St [] w (af [LG.cn w] []) w from Jw w);clear hv;refine hr.mono ?_;rintro v w' ⟨y,more,bl',ch',rfl,hl1,S',hK⟩;obtain⟨v2,aP,bl2,e,gx,S2,d,rfl,rfl,rfl⟩:=c9 (n0:=0) (ids:=more) hl1 (by simp) S' hK
 match aP,gx,e,S2 with
 |[b,k0,k1,k2,k3,bq,bt],_,e,S2=>
  refine⟨b,bq,bt,λi=>some ⟨[k0,k1,k2,k3].getD i 0,0,none⟩,λi=>kn i+d i,λi=>[⟨[k0,k1,k2,k3].getD i 0,true,.cells (dc (kn i) (kf i) (kn i+d i)) 5 (0,0)⟩],e,λi hi=>⟨Nat.le_add_right _ _,.inr ⟨_,rfl,rfl⟩⟩,?_⟩;have Z0:∀(ids:List Nat) (k i:Nat),aE ids k (dF (kn i) (d i) (kf i))=⟨k,true,.cells (dc (kn i) (kf i) (kn i+d i)) 5 (0,0)⟩:=λids k i=>by unfold aE;rw[jC];rfl
  have el:lits [b,k0,k1,k2,k3,bq,bt] [b,k0,k1,k2,k3,bq,bt] (ZX p kn d kf)=aE [b,k0,k1,k2,k3,bq,bt] b ⟨true,⟨105,(0,0)⟩,Uh p kn d⟩::([aE [b,k0,k1,k2,k3,bq,bt] k0 (dF (kn 0) (d 0) (kf 0)),aE [b,k0,k1,k2,k3,bq,bt] k1 (dF (kn 1) (d 1) (kf 1)),aE [b,k0,k1,k2,k3,bq,bt] k2 (dF (kn 2) (d 2) (kf 2)),
   aE [b,k0,k1,k2,k3,bq,bt] k3 (dF (kn 3) (d 3) (kf 3))]++[⟨bq,true,.cells #[.slice none 0 0,.int .i64 (p.i 48),.int .u64 0] 146 (0,0)⟩,aE [b,k0,k1,k2,k3,bq,bt] bt (gP (Zs p))]):=rfl
  rw[Z0,Z0,Z0,Z0,xV,afo]at el;have S3:=S2.sub (List.sublist_append_left _ _);have S4:St [] w (lits [b,k0,k1,k2,k3,bq,bt] [b,k0,k1,k2,k3,bq,bt] (ZX p kn d kf)) w':=S3;rw[el]at S4;exact S4.perm (List.Perm.cons _ List.perm_append_comm)
def KJ (i:Nat) (v:V):Bool:=match v with
 |.int .i64 _=>!iZ i
 |.sl _ 0 _ _=>iZ i
 |_=>false
def tU:List V->Nat->Bool
 |[],i=>Nat.beq i 56
 |v::l,i=>KJ i v&&tU l (i+1)
def sI:V->Nat|.sl i _ _ _=>i|_=>0
def sM:V->Nat|.sl _ _ n _=>n|_=>0
def sK:V->Nat|.sl _ _ _ c=>c|_=>0
def pW (ids:List Nat) (i:Nat) (v:V):Value:=bif iZ i then .slice (some ⟨ids.getD (sI v) 0,0,none⟩) (sM v) (sK v)else .int .i64 (iN v)
theorem zT (ids:List Nat):∀(l:List V) (i:Nat),tU l i=true->i+l.length=56/\ab ids l=(List.range l.length).map λj=>pW ids (i+j) (nth l j)
 |[],i,h=>⟨Nat.eq_of_beq_eq_true h,rfl⟩
 |v::l,i,h=>by
  unfold tU at h;rw[Bool.and_eq_true]at h;obtain⟨h1,h2⟩:=zT ids l (i+1) h.2;refine⟨by simp;omega,?_⟩;rw[List.length_cons,List.range_succ_eq_map,List.map_cons,List.map_map];simp only[ab,h2];have e:ab ids l=(List.range l.length).map ((λj=>pW ids (i+j) (nth (v::l) j))∘Nat.succ):=by
   rw[h2];apply List.map_congr_left;intro j _;show pW ids (i+1+j) (nth l j)=pW ids (i+(j+1)) (nth l j);rw[show i+1+j=i+(j+1) by omega]
  rw[<-h2,e];have hv:cl v (den ids v)=[pW ids (i+0) (nth (v::l) 0)]:=by
   have h3:=h.1;unfold KJ at h3;split at h3
   ·have:iZ i=false:=by simpa using h3
    simp only[cl,den,nth,pW,Nat.add_zero,this,cond_false,iN]
   ·simp only[cl,den,nth,pW,Nat.add_zero,h3,cond_true,sI,sM,sK]
   ·cases h3
  rw[hv];rfl
def kyA (ids:List Nat) (l:List V) (j:Nat):Option Addr:=some ⟨ids.getD (sI (nth l (j+5))) 0,0,none⟩
def uU (l:List V) (j:Nat):Nat:=sM (nth l (j+5))
def kyC (l:List V) (j:Nat):Nat:=sK (nth l (j+5))
def nP (l:List V) (f:Nat->Sd.Byt):Sd.Pol:=⟨λi=>iN (nth l i),λj=>(uU l j,f j)⟩
theorem Uj {l:List V} (h:tU l 0=true) (f:Nat->Sd.Byt) (ids:List Nat):(ab ids l).toArray=kJ (nP l f) (kyA ids l) (uU l) (kyC l):=by
 obtain⟨h1,h2⟩:=zT ids l 0 h;rw[h2,show l.length=56 by omega];rfl
def Zt (bl:List VB) (v:V):Option (Nat×Sd.Byt):=match v with
 |.sl i _ _ _=>(match bl[i]?with|some ⟨_,⟨5,(0,0)⟩,.dC .u8 m f::_⟩=>some (m,f)|_=>none)
 |_=>none
def mkK (l:List V) (f:Nat->Sd.Byt) (ka:Nat->Option Addr) (kc:Nat->Nat) (bq tg tc:Nat):LK:=⟨ka,uU l,kc,f,bq,tg,tc,iN (nth l 48),none,0,0,λ_=>0⟩
def ib (p:Sd.Pol):Sd.Scene:=⟨.new p,[],[]⟩
structure EX (l:List V) (n:Nat->Nat):Prop where
 code:ee (λi=>iN (nth l i)) (uU l)=0
 n:∀j,j<4->n j=uU l j
 k:∀j,j<4->uU l j<=64/\uU l j<=kyC l j
structure Uk (l:List V) (f:Nat->Sd.Byt) (tg tc:Nat) (p:Sd.Pol) (k:LK):Prop where
 eq:p=nP l f
 kn:k.kn=uU l
 kf:k.kf=f
 tg:k.tg=tg
 tc:k.tc=tc
 most:k.most=p.queue
 zF:k.px=none/\k.pn=0/\k.pc=0
def Z3:gm (LG fr):=λargs bl ch K=>match args,ch,bl with
 |[.agg l],.cn u::rest,⟨w0,⟨tg,(0,0)⟩,c0⟩::⟨w1,⟨tc,(0,0)⟩,c1⟩::bl2=>(match Zt (⟨w0,⟨tg,(0,0)⟩,c0⟩::⟨w1,⟨tc,(0,0)⟩,c1⟩::bl2) (nth l 5),Zt (⟨w0,⟨tg,(0,0)⟩,c0⟩::⟨w1,⟨tc,(0,0)⟩,c1⟩::bl2) (nth l 6),Zt (⟨w0,⟨tg,(0,0)⟩,c0⟩::⟨w1,⟨tc,(0,0)⟩,c1⟩::bl2) (nth l 7),Zt (⟨w0,⟨tg,(0,0)⟩,c0⟩::⟨w1,⟨tc,(0,0)⟩,c1⟩::bl2) (nth l 8)with
  |some (n0,f0),some (n1,f1),some (n2,f2),some (n3,f3)=>cond (tU l 0&&dk (bl2.length+2) (⟨w0,⟨tg,(0,0)⟩,c0⟩::⟨w1,⟨tc,(0,0)⟩,c1⟩::bl2))
   (EX l (k4 n0 n1 n2 n3)/\∀(p:Sd.Pol) (k:LK) (F:bN fr (bA k (ib p))),Uk l (k4 f0 f1 f2 f3) tg tc p k->cC=F.vs->cC=F.vr->
    K (.az [.ptr (bl2.length+2) 0,.int .i64 0]) (⟨w0,⟨tg,(0,0)⟩,c0⟩::⟨w1,⟨tc,(0,0)⟩,c1⟩::(bl2++[ew k (bl2.length+3) (ib p),gP (ib p)])) (.cn u::.core (cB k (ib p) F) []::rest)) False
  |_,_,_,_=>False)
 |_,_,_=>False
theorem Cg {ids:List Nat} {bl:List VB} {X:List av} {ms:List Nat} {w0 w:World} {v:V} {m:Nat} {f:Sd.Byt} (hl:ids.length=bl.length) (S:St ms w0 (lits ids ids bl++X) w) (h:Zt bl v=some (m,f)) (hm:m<=64) {c:Nat} (hc:m<=c):cz w (some ⟨ids.getD (sI v) 0,0,none⟩) m c f:=by
 unfold Zt at h;split at h
 ·rename_i i o n c';split at h
  ·rename_i wr m' f' r hb;obtain⟨rfl,rfl⟩:m'=m/\f'=f:=by simpa using h
   have ba:=(cA hl S hb).2;refine⟨by omega,hc,(λe=>nomatch e),λx e j hj=>?_⟩;obtain rfl:⟨ids.getD i 0,0,none⟩=x:=by simpa[sI]using e
   rw[Addr.add_lit,cell_of ba,Nat.zero_add];simp only[ab,cl,List.getElem?_toArray];rw[List.getElem?_append_left (by simpa using hj)];simp[List.getElem?_range hj]
  ·cases h
 ·cases h
theorem NX (k:LK) (p:Sd.Pol) (b bt:Nat):aE (ck b bt) b (ew k 3 (ib p))=⟨b,true,.cells (mz p k.ka k.kn k.kc ⟨4,p.i 55,-1,⟨0,0⟩,⟨0,0⟩,false⟩ k.bq (f3 ⟨0,false,λ_=>0⟩ ⟨0,false,λ_=>0⟩ ⟨0,false,λ_=>0⟩) bt 0 0 (p.i 39) ⟨2,4,0⟩ ⟨1,⟨0,0,0,0⟩,⟨0,0,0,0⟩,⟨2,4,0⟩⟩ (λ_=>0)) 105 (0,0)⟩:=by kernel_rfl
theorem Ul (p:Sd.Pol) (bt:Nat):aE [] bt (gP (ib p))=⟨bt,true,.cells (jy (false,⟨0,0⟩) (f3 ⟨false,⟨0,0⟩,0,(λ_=>0),⟨false,0,0⟩⟩ ⟨false,⟨0,0⟩,0,(λ_=>0),⟨false,0,0⟩⟩ ⟨false,⟨0,0⟩,0,(λ_=>0),⟨false,0,0⟩⟩) (p.i 42) (p.i 49)) 157 (0,0)⟩:=by kernel_rfl
theorem xX:Sound prog gS 11 (Z3 (fr:=fr)):=by
 intro args ids bl ch R ms w0 w K hg hl S hc;unfold Z3 at hc;split at hc
 ·rename_i l u rest w0' tg c0 w1' tc c1 bl2;split at hc
  ·rename_i n0 y0 n1 y1 n2 y2 n3 y3 e0 e1 e2 e3;cases hq:tU l 0&&dk (bl2.length+2) (⟨w0',⟨tg,(0,0)⟩,c0⟩::⟨w1',⟨tc,(0,0)⟩,c1⟩::bl2)with
   |false=>rw[hq]at hc;exact hc.elim
   |true=>
    rw[hq]at hc;simp only[Bool.and_eq_true]at hq;obtain⟨⟨ajt,hn,hk⟩,hK⟩:=hc;have m0:n0=uU l 0:=hn 0 (by decide);have m1:n1=uU l 1:=hn 1 (by decide);have m2:n2=uU l 2:=hn 2 (by decide);have m3:n3=uU l 3:=hn 3 (by decide);have Er:∀i,i<4->cz w (kyA ids l i) (uU l i) (kyC l i) (k4 y0 y1 y2 y3 i):=by
     intro i hi
     match i,hi with
     |0,_=>subst m0;exact Cg hl S e0 (hk 0 (by decide)).1 (hk 0 (by decide)).2
     |1,_=>subst m1;exact Cg hl S e1 (hk 1 (by decide)).1 (hk 1 (by decide)).2
     |2,_=>subst m2;exact Cg hl S e2 (hk 2 (by decide)).1 (hk 2 (by decide)).2
     |3,_=>subst m3;exact Cg hl S e3 (hk 3 (by decide)).1 (hk 3 (by decide)).2
     |i+4,h=>exact absurd h (by omega)
    have a9:(ao ids [.agg l]).toArray=#[.agg (kJ (nP l (k4 y0 y1 y2 y3)) (kyA ids l) (uU l) (kyC l))]:=by
     simp only[ao,den,Uj hq.1 (k4 y0 y1 y2 y3) ids]
    rw[a9];refine(Ui (nP l (k4 y0 y1 y2 y3)) (kyA ids l) (uU l) (kyC l) (k4 y0 y1 y2 y3) ajt w Er).mono ?_;rintro v w' ⟨b,bq,bt,xa,xc,B,rfl,hr,T⟩;have S2:=S.beside T (Wr.app (Wr.cons rfl (Wr.cons rfl (Wr.cons rfl Wr.nil))) (Wr.app (hr 0 (by decide)).wr (Wr.app (hr 1 (by decide)).wr (Wr.app (hr 2 (by decide)).wr (Wr.app (hr 3 (by decide)).wr Wr.nil)))))
    let k:LK:=mkK l (k4 y0 y1 y2 y3) xa xc bq tg tc
    let s:Sd.Scene:=ib (nP l (k4 y0 y1 y2 y3))
    let F:bN fr (bA k s):=⟨none,0,none,0,[⟨bq,true,.cells #[.slice none 0 0,.int .i64 k.most,.int .u64 0] 146 (0,0)⟩],[],[],[],B 0++(B 1++(B 2++(B 3++[]))),[],⟨[],none,0,0,[],rfl,iO _ _,trivial,rfl⟩,iO 6 75,iO 2 85,.nil,⟨B 0,B 1,B 2,B 3,[],rfl,hr 0 (by decide),hr 1 (by decide),hr 2 (by decide),hr 3 (by decide),vV 5⟩⟩
    have D8:ids.length=bl2.length+2:=by simpa using hl
    refine⟨_,[b,bt],_,_,?_,by simp[D8],?_,hK _ k F ⟨rfl,rfl,rfl,rfl,rfl,rfl,rfl,rfl,rfl⟩ rfl rfl⟩
    ·have h1:(ids++[b,bt]).getD (bl2.length+2) 0=b:=by rw[<-D8];simp[List.getD]
     simp only[den,ao,h1]
    ·have h2:(ids++[b,bt]).getD (bl2.length+3) 0=bt:=by rw[show bl2.length+3=ids.length+1 by omega];simp[List.getD]
     have e1:aE (ids++[b,bt]) b (ew k (bl2.length+3) s)=⟨b,true,.cells (mz (nP l (k4 y0 y1 y2 y3)) xa (uU l) xc ⟨4,(nP l (k4 y0 y1 y2 y3)).i 55,-1,⟨0,0⟩,⟨0,0⟩,false⟩ bq (f3 ⟨0,false,λ_=>0⟩ ⟨0,false,λ_=>0⟩ ⟨0,false,λ_=>0⟩) bt 0 0 ((nP l (k4 y0 y1 y2 y3)).i 39) ⟨2,4,0⟩ ⟨1,⟨0,0,0,0⟩,⟨0,0,0,0⟩,⟨2,4,0⟩⟩ (λ_=>0)) 105 (0,0)⟩:=by
      rw[zO (a:=b) b h2];exact NX k (nP l (k4 y0 y1 y2 y3)) b bt
     have e2:aE (ids++[b,bt]) bt (gP s)=⟨bt,true,.cells (jy (false,⟨0,0⟩) (f3 ⟨false,⟨0,0⟩,0,(λ_=>0),⟨false,0,0⟩⟩ ⟨false,⟨0,0⟩,0,(λ_=>0),⟨false,0,0⟩⟩ ⟨false,⟨0,0⟩,0,(λ_=>0),⟨false,0,0⟩⟩) ((nP l (k4 y0 y1 y2 y3)).i 42) ((nP l (k4 y0 y1 y2 y3)).i 49)) 157 (0,0)⟩:=by
      rw[cF (ids':=[]) (iW s)];exact Ul (nP l (k4 y0 y1 y2 y3)) bt
     have e3:(⟨w0',⟨tg,(0,0)⟩,c0⟩::⟨w1',⟨tc,(0,0)⟩,c1⟩::(bl2++[ew k (bl2.length+3) s,gP s]))=(⟨w0',⟨tg,(0,0)⟩,c0⟩::⟨w1',⟨tc,(0,0)⟩,c1⟩::bl2)++[ew k (bl2.length+3) s,gP s]:=rfl;rw[e3,aI _ _ _ _ hl,aJ _ _ (by rw[hl];exact hq.2)];show St ms w0 ((lits ids ids (⟨w0',⟨tg,(0,0)⟩,c0⟩::⟨w1',⟨tc,(0,0)⟩,c1⟩::bl2)++[aE (ids++[b,bt]) b (ew k (bl2.length+3) s),aE (ids++[b,bt]) bt (gP s)])++(du u++((F.B++[])++af rest R))) w';rw[e1,e2];have hF:F.B=⟨bq,true,.cells #[.slice none 0 0,.int .i64 ((nP l (k4 y0 y1 y2 y3)).i 48),.int .u64 0] 146 (0,0)⟩::(B 0++(B 1++(B 2++(B 3++[])))):=rfl;rw[hF];refine S2.perm ?_;show List.Perm (_++(_++(du u++af rest R))) _;exact cj λf=>by simp only[List.countP_append,List.countP_cons,List.countP_nil];omega
  ·exact hc.elim
 ·exact hc.elim
theorem Ci (n:Nat):∀(l:List V) (i:Nat),nth (Kx n l) i=qf n (nth l i)
 |[],_=>rfl
 |_::_,0=>rfl
 |_::l,i+1=>Ci n l i
theorem Cj {α:Type} (f:α->V):∀(l:List α) (i:Nat) (a:α),l[i]?=some a->nth (l.map f) i=f a
 |[],_,_,h=>by simp at h
 |x::l,0,a,h=>by simp at h;subst h;rfl
 |x::l,i+1,a,h=>Cj f l i a (by simpa using h)
section
variable(n:Nat) (p:Nat->Int) (kn d:Nat->Nat)
abbrev kg:List V:=Kx n (ao5 p kn d)
theorem Ck {i:Nat} (hi:i<56) (hk:iZ i=false):iN (nth (kg n p kn d) i)=p i:=by
 unfold kg;rw[Ci,ao5,Cj _ _ i i (by rw[List.getElem?_range hi]),hk];rfl
theorem Um {j:Nat} (hj:j<4):nth (kg n p kn d) (j+5)=.sl (j+n) 0 (kn j) (kn j+d j):=by
 unfold kg;rw[Ci,ao5,Cj _ _ (j+5) (j+5) (by rw[List.getElem?_range (by omega)])];have hk:iZ (j+5)=true:=by
  match j,hj with
  |0,_=>rfl
  |1,_=>rfl
  |2,_=>rfl
  |3,_=>rfl
  |j+4,h=>exact absurd h (by omega)
 rw[hk,Nat.add_sub_cancel];rfl
theorem nH {j:Nat} (hj:j<4):uU (kg n p kn d) j=kn j:=by unfold uU;rw[Um _ _ _ _ hj];rfl
theorem Un {j:Nat} (hj:j<4):kyC (kg n p kn d) j=kn j+d j:=by unfold kyC;rw[Um _ _ _ _ hj];rfl
end
theorem aju (x:Int):0<=bits .and .i64 x 15/\bits .and .i64 x 15<=15:=by
 have:=fl .i64 x 15 16 4 (by decide) (by decide) (by decide);omega
theorem ajv (x:Int):0<=bits .and .i64 x 31/\bits .and .i64 x 31<=31:=by
 have:=fl .i64 x 31 32 5 (by decide) (by decide) (by decide);omega
theorem Uo (x:Int):0<=bits .and .i64 x 65535/\bits .and .i64 x 65535<=65535:=by
 have:=fl .i64 x 65535 65536 16 (by decide) (by decide) (by decide);omega
theorem Up (x:Int):pN (bits .and .i64 x 14)=true:=by
 rw[aiV];simp only[pN,wU,Bool.and_eq_true,decide_eq_true_eq,beq_iff_eq];omega
theorem one_mod (a:Int) {m:Int} (h:0<m) (h2:m<=1000000):i64.wrap (1+cW a m)=1+cW a m:=by
 have:=oq a h h2;exact fG (by omega)
theorem Il.perm {q:Nat->Int} {o1 o2 o3:Int} (h:Il q o1 o2 o3):(o1=1/\o2=2/\o3=3)\/(o1=1/\o2=3/\o3=2)\/(o1=2/\o2=1/\o3=3)\/(o1=2/\o2=3/\o3=1)\/(o1=3/\o2=1/\o3=2)\/(o1=3/\o2=2/\o3=1):=by
 rcases h with⟨_,⟨_,a,b,c⟩|⟨_,a,b,c⟩⟩|⟨_,⟨_,a,b,c⟩|⟨_,a,b,c⟩⟩|⟨_,⟨_,a,b,c⟩|⟨_,a,b,c⟩⟩<;>subst a b c<;>simp
theorem Uq {q:Nat->Int} {kn:Nat->Nat} (hp:(q 1=1/\q 2=2/\q 3=3)\/(q 1=1/\q 2=3/\q 3=2)\/(q 1=2/\q 2=1/\q 3=3)\/(q 1=2/\q 2=3/\q 3=1)\/(q 1=3/\q 2=1/\q 3=2)\/(q 1=3/\q 2=2/\q 3=1))
 (h0:q 0=0/\q 4=4/\q 9=1/\q 13=0/\q 50=0) (hk:∀j,j<4->1<=kn j/\kn j<=64) (hr:pN (q 10)=true/\pN (q 11)=true/\pN (q 12)=true) (ht:∀i,14<=i->i<=33->0<=q i/\q i<=15) (hg:∀i,34<=i->i<=38->0<=q i/\q i<=31)
 (hm:∀i,39<=i->i<=41->0<=q i/\q i<=4) (hs:∀i,42<=i->i<=46->1<=q i/\q i<=1000) (hb:0<=q 47/\q 47<=1000) (hq:∀i,48<=i->i<=49->1<=q i/\q i<=3) (hl:∀i,51<=i->i<=53->0<=q i/\q i<=1000) (ha:1<=q 54/\q 54<=1000) (he:0<=q 55/\q 55<=65535):
 ee q kn=0/\∀ks,Sd.cK ⟨q,ks⟩:=by
 obtain⟨z0,z4,z9,z13,z50⟩:=h0;have V8:∀{lo hi n:Int},lo<=n/\n<=hi->wU lo hi n=true:=λh=>by simp[wU,h.1,h.2]
 have amq:RD q=true:=by
  rcases hp with⟨a,b,c⟩|⟨a,b,c⟩|⟨a,b,c⟩|⟨a,b,c⟩|⟨a,b,c⟩|⟨a,b,c⟩<;>simp[RD,tH,z0,z4,a,b,c]
 have Er:(uv kn&&wV (kn 3))=true:=by
  have:=hk 0 (by decide);have:=hk 1 (by decide);have:=hk 2 (by decide);have:=hk 3 (by decide)
  simp only[uv,wV,Bool.and_eq_true,decide_eq_true_eq];omega
 have amr:(q 9==1&&(q 13==0&&pO q))=true:=by simp[pO,z9,z13,hr]
 have ams:RE q=true:=by
  simp only[RE,allI,Bool.and_eq_true];refine⟨?_,?_,?_,?_,?_⟩<;>refine⟨?_,?_,?_,?_,trivial⟩<;>exact V8 (ht _ (by decide) (by decide))
 have hgr:allI 0 31 [q 34,q 35,q 36,q 37,q 38]=true:=by
  simp only[allI,Bool.and_eq_true];refine⟨?_,?_,?_,?_,?_,trivial⟩<;>exact V8 (hg _ (by decide) (by decide))
 have hmo:allI 0 4 [q 39,q 40,q 41]=true:=by
  simp only[allI,Bool.and_eq_true];refine⟨?_,?_,?_,trivial⟩<;>exact V8 (hm _ (by decide) (by decide))
 have hti:allI 1 1000 [q 42,q 43,q 44,q 45]=true:=by
  simp only[allI,Bool.and_eq_true];refine⟨?_,?_,?_,?_,trivial⟩<;>exact V8 (hs _ (by decide) (by decide))
 have mK:(wU 1 1000 (q 46)&&wU 0 1000 (q 47))=true:=by rw[V8 (hs 46 (by decide) (by decide)),V8 hb];rfl
 have hro:allI 1 3 [q 48,q 49]=true:=by
  simp only[allI,Bool.and_eq_true];refine⟨?_,?_,trivial⟩<;>exact V8 (hq _ (by decide) (by decide))
 have hli:(q 50==0&&(allI 0 1000 [q 51,q 52,q 53]&&wU 1 1000 (q 54)))=true:=by
  rw[z50,V8 ha];simp only[allI,Bool.and_eq_true];refine⟨by decide,⟨?_,?_,?_,trivial⟩,trivial⟩<;>exact V8 (hl _ (by decide) (by decide))
 refine⟨?_,λks=>?_⟩
 ·unfold ee;rw[amq,Er,amr,ams,hgr,hmo,hti,mK,hro,hli,V8 he];rfl
 ·refine⟨z0,z4,hp,hm 39 (by decide) (by decide),hm 40 (by decide) (by decide),hm 41 (by decide) (by decide),hs 42 (by decide) (by decide),hs 43 (by decide) (by decide),hs 44 (by decide) (by decide),hs 45 (by decide) (by decide),hs 46 (by decide) (by decide),hb,hq 48 (by decide) (by decide),hq 49 (by decide) (by decide),?_,ha,he⟩;intro c hc;show 0<=q (50+c)/\q (50+c)<=1000
  match c,hc with
  |0,_=>rw[z50];decide
  |1,_=>exact hl 51 (by decide) (by decide)
  |2,_=>exact hl 52 (by decide) (by decide)
  |3,_=>exact hl 53 (by decide) (by decide)
  |c+4,h=>exact absurd h (by omega)
structure Im (p:Nat->Int) (o1 o2 o3:Int) (q:Nat->Int):Prop where
 lo:∀i,i<=4\/(9<=i/\i<=41)\/(47<=i/\i<=55)->p i=pV o1 o2 o3 q i
 ti:∀i,42<=i->i<=46->1<=p i/\p i<=1000
theorem Z4 {o1 o2 o3:Int} {q:Nat->Int} {i:Nat} (h1:42<=i) (h2:i<=46):1<=pV o1 o2 o3 q i/\pV o1 o2 o3 q i<=1000:=by
 have:pV o1 o2 o3 q i=i64.wrap (1+cW (q i) 1000):=by
  have:i=42\/i=43\/i=44\/i=45\/i=46:=by omega
  rcases this with rfl|rfl|rfl|rfl|rfl<;>rfl
 rw[this,one_mod _ (by decide) (by decide)];have:=oq (q i) (m:=1000) (by decide) (by decide);omega
theorem Im.ok {p:Nat->Int} {o1 o2 o3:Int} {q:Nat->Int} (h:Im p o1 o2 o3 q) (ho:Il q o1 o2 o3) {kn:Nat->Nat} (hk:∀j,j<4->1<=kn j/\kn j<=64):ee p kn=0/\∀ks,Sd.cK ⟨p,ks⟩:=by
 have g:=λi hi=>h.lo i hi;have md:=λ(i:Nat) (m:Int) (h1:0<m) (h2:m<=1000000)=>oq (q i) h1 h2;refine Uq ?_ ⟨g 0 (by decide),g 4 (by decide),g 9 (by decide),g 13 (by decide),g 50 (by decide)⟩ hk ⟨?_,?_,?_⟩ ?_ ?_ ?_ h.ti ?_ ?_ ?_ ?_ ?_
 ·rw[g 1 (by decide),g 2 (by decide),g 3 (by decide)];exact ho.perm
 ·rw[g 10 (by decide)];exact Up _
 ·rw[g 11 (by decide)];exact Up _
 ·rw[g 12 (by decide)];exact Up _
 ·intro i h1 h2;rw[g i (by omega)];have:pV o1 o2 o3 q i=bits .and .i64 (q i) 15:=by
   unfold pV;have e1:Nat.ble i 13=false:=by cases hb:Nat.ble i 13 with|false=>rfl|true=>exact absurd (Nat.le_of_ble_eq_true hb) (by omega)
   have e2:Nat.ble i 33=true:=Nat.ble_eq_true_of_le h2;rw[e1,e2];rfl
  rw[this];exact aju _
 ·intro i h1 h2;rw[g i (by omega)];have:pV o1 o2 o3 q i=bits .and .i64 (q i) 31:=by
   have:i=34\/i=35\/i=36\/i=37\/i=38:=by omega
   rcases this with rfl|rfl|rfl|rfl|rfl<;>rfl
  rw[this];exact ajv _
 ·intro i h1 h2;rw[g i (by omega)];have:pV o1 o2 o3 q i=cW (q i) 5:=by
   have:i=39\/i=40\/i=41:=by omega
   rcases this with rfl|rfl|rfl<;>rfl
  rw[this];have:=md i 5 (by decide) (by decide);omega
 ·rw[g 47 (by decide)];have:=md 47 1001 (by decide) (by decide);show 0<=cW (q 47) 1001/\cW (q 47) 1001<=1000;omega
 ·intro i h1 h2;rw[g i (by omega)];have:pV o1 o2 o3 q i=i64.wrap (1+cW (q i) 3):=by
   have:i=48\/i=49:=by omega
   rcases this with rfl|rfl<;>rfl
  rw[this,one_mod _ (by decide) (by decide)];have:=md i 3 (by decide) (by decide);omega
 ·intro i h1 h2;rw[g i (by omega)];have:pV o1 o2 o3 q i=cW (q i) 1001:=by
   have:i=51\/i=52\/i=53:=by omega
   rcases this with rfl|rfl|rfl<;>rfl
  rw[this];have:=md i 1001 (by decide) (by decide);omega
 ·rw[g 54 (by decide)];show 1<=i64.wrap (1+cW (q 54) 1000)/\i64.wrap (1+cW (q 54) 1000)<=1000;rw[one_mod _ (by decide) (by decide)];have:=md 54 1000 (by decide) (by decide);omega
 ·rw[g 55 (by decide)];exact Uo _
theorem j5 {i:Nat} (h:i<5\/8<i):iZ i=false:=by
 unfold iZ;cases h1:Nat.ble 5 i with
 |false=>rfl
 |true=>
  cases h2:Nat.ble i 8 with
  |false=>rfl
  |true=>have:=Nat.le_of_ble_eq_true h1;have:=Nat.le_of_ble_eq_true h2;omega
theorem Made.I {x:ij} {p:Nat->Int} {n:Nat->Nat} (h:Made x p n):Im p (p 1) (p 2) (p 3) x.q:=
 ⟨λi hi=>h.p i (by omega) (j5 (by omega)),λi h1 h2=>by rw[h.p i (by omega) (j5 (by omega))];exact Z4 h1 h2⟩
theorem Im.at {p p':Nat->Int} {o1 o2 o3:Int} {q:Nat->Int} (h:Im p o1 o2 o3 q) (e:∀i,i<56->iZ i=false->p' i=p i):Im p' o1 o2 o3 q:=
 ⟨λi hi=>by rw[e i (by omega) (j5 (by omega))];exact h.lo i hi,λi h1 h2=>by rw[e i (by omega) (j5 (by omega))];exact h.ti i h1 h2⟩
theorem afp {m:Nat} {p:Nat->Int} {n d:Nat->Nat} {o1 o2 o3:Int} {q:Nat->Int} (h:Im p o1 o2 o3 q) (ho:Il q o1 o2 o3) (hn:∀j,j<4->1<=n j/\n j<=64):EX (kg m p n d) n/\∀f,Sd.cK (nP (kg m p n d) f):=by
 have hb:∀j,j<4->1<=uU (kg m p n d) j/\uU (kg m p n d) j<=64:=λj hj=>by rw[nH _ _ _ _ hj];exact hn j hj
 have h1:=(h.at (p':=λi=>iN (nth (kg m p n d) i)) (λi h1 h2=>Ck m p n d h1 h2)).ok ho hb;refine⟨⟨h1.1,λj hj=>(nH _ _ _ _ hj).symm,λj hj=>⟨(hb j hj).2,?_⟩⟩,λf=>h1.2 _⟩;rw[nH _ _ _ _ hj,Un _ _ _ _ hj];omega
theorem Ur {l:List V} {f:Nat->Sd.Byt} {tg tc:Nat} {p:Sd.Pol} {k:LK} (hN:Uk l f tg tc p k) (h:Sd.cK (nP l f)) (hk:∀j,j<4->1<=uU l j/\uU l j<=64):eo k (ib p):=by
 obtain⟨rfl,h1,h2,h3,h4,h5,h6⟩:=hN;exact⟨Sd.Inv.new h,Sd.Ext.new,λi hi=>by rw[h1];exact hk i hi,λi hi=>by rw[h1,h2];rfl,rfl,rfl⟩
def f2 (a b:Int):Sd.Byt:=λj=>match j with|0=>a|_=>b
def Z5 (C:Sd.Crypt):gm (LG fr):=λargs bl ch K=>match args with
 |[.ptr ic 0,.int .i64 l,.agg [.int .i64 code,.sl ip 0 2 2]]=>(match bl[ip]?with
  |some ⟨true,⟨5,(0,0)⟩,[.int .u8 a,.int .u8 b]⟩=>coI C [.ptr ic 0,.int .i64 l,.agg [.int .i64 code,.sl ip 0 2 2]] (bl.set ip (dF 2 0 (f2 a b))) ch K
  |_=>False)
 |_=>False
theorem NY {ids:List Nat} {bl:List VB} {ip:Nat} {b b':VB} (hl:ids.length=bl.length) (h:bl[ip]?=some b) (e:∀n,aE ids n b'=aE ids n b):lits ids ids (bl.set ip b')=lits ids ids bl:=by
 rw[<-iR ids bl ip b' hl,e,iR ids bl ip b hl];congr 1;apply List.ext_getElem?;intro j;rw[List.getElem?_set];split
 ·rename_i hj;subst hj;rw[h];simp[bO h]
 ·rfl
theorem xY (ht:Body (fr:=fr) 147 bV):Sound prog gS 24 (Z5 (fr:=fr) (ah aT)):=by
 intro args ids bl ch R ms w0 w K hg hl S hc;unfold Z5 at hc;split at hc
 ·rename_i ic l code ip;split at hc
  ·rename_i a b hb;refine zP ht _ ids _ ch R ms w0 w K hg (by simpa using hl) ?_ hc;rw[NY (b':=dF 2 0 (f2 a b)) hl hb (λn=>rfl)];exact S
  ·exact hc.elim
 ·exact hc.elim
def gi (t:TypeId):VB:=⟨false,t,[.dC .u32 64 aX]⟩
def sf (t:TypeId):VB:=⟨false,t,[.bool false,.bool false,.bool false,.bool false,.bool false,.bool false,.bool false,.bool false,.bool false,.bool false,.bool true,.bool true]⟩
def LSh (fr:Sd.Reply->Nat×Sd.Byt) (C:Sd.Crypt):List (dI (LG fr)):=[⟨10,false,T8⟩,⟨11,false,Z3⟩,⟨24,false,Z5 C⟩,⟨14,false,V7 λ_=>Cd⟩]
theorem Us (ht:Body (fr:=fr) 147 bV):ai prog gS (LSh fr (ah aT)):=
 ai.cons ⟨tT,λe=>by cases e⟩ (ai.cons ⟨xX,λe=>by cases e⟩ (ai.cons ⟨xY ht,λe=>by cases e⟩ (ai.cons (xP (xT ht)) ai.nil)))
def Z6:List V:=(List.range 56).map λi=>bif iZ i then .raw (.slice none 0 0)else .int .i64 (bif Nat.beq i 10 then 2 else 0)
def afq:ij:=⟨λi=>iN (nth Z6 i),λj=>sA (nth Z6 (j+5)),λj=>sN (nth Z6 (j+5)),λj=>sC (nth Z6 (j+5))⟩
def rdA (x:ij) (u:World):Prop:=zR x u 0/\zR x u 1/\zR x u 2/\zR x u 3
def xZ (x:ij) (u:World):Nat->Sd.Byt:=k4 (zQ (x.kn 0) (ft u (x.ka 0))) (zQ (x.kn 1) (ft u (x.ka 1))) (zQ (x.kn 2) (ft u (x.ka 2))) (zQ (x.kn 3) (ft u (x.ka 3)))
def n4 (n:Nat->Nat):Nat->Nat:=k4 (n 0) (n 1) (n 2) (n 3)
def EY (tg tc:TypeId) (it:Nat) (k:LK) (s:Sd.Scene):Prop:=some (gi tg)=some (aG k)/\some (sf tc)=some (iA k)/\Cz k it s=Cz k it (dv s)/\s.c.p.bh=s.c.p.bh/\s.c.p.aR=s.c.p.aR/\s.c.p.queue=k.most
section
variable(C:Sd.Crypt) (tg tc:TypeId) (u:World) (K:VK (LG fr))
def shE (k:LK) (s':Sd.Scene) (F0:bN fr (bA k (fS s'))) (fn:List av) (r:TR):Prop:=
 let no (b:Bool):Prop:=K (.bool b) [gi tg,sf tc] [.cn u,.core (cB k (fS s') F0) (fn++[])]
 cond ((s'.sent.length:Int)==1) ((0<=(0:Int)/\0<(s'.sent.length:Int))/\(0<s'.sent.length/\∀j,(nF s'.sent r.fv j).length=2)/\
  cond ((s'.sent.getD 0 default).1==1) (cond ((s'.recs.length:Int)==1) ((0<=(0:Int)/\0<(s'.recs.length:Int))/\(0<s'.recs.length/\∀j,(H_ s'.recs j).length=6)/\
   cond ((s'.recs.getD 0 default).kind==2) (EY tg tc 8 k (fS s')/\∀(x:Option Addr) (c ty:Nat) (us:List Value),K (.bool ((fS s').c.t.holder==4)) [gi tg,sf tc] [.cn u,.core (cB k (dv (fS s')) F0) (fn++[])]) (no false)) (no false)) (no false)) (no false)
def shX:Prop:=rdA afq u/\∀(p:Nat->Int) (n d:Nat->Nat),Made afq p n->
 EX (kg 2 p n d) (n4 n)/\∀(p2:Sd.Pol) (k:LK) (F:bN fr (bA k (ib p2))),Uk (kg 2 p n d) (xZ afq u) tg tc p2 k->cC=F.vs->cC=F.vr->
  EY tg tc 8 k (ib p2)/\(2=2/\2+0=2/\iY=iY)/\j4 k/\(eo k (dv (ib p2))/\cC=F.vs/\cC=F.vr/\2<=58/\By (f2 1 1))/\
   ∀s',s'=cQ C (dv (ib p2)) 1 0 2 (f2 1 1)->∀(r:TR) (fn:List av) (F0:bN fr (bA k (fS s'))),cC=F0.vs->cC=F0.vr->mg fr s'.sent r.fv fn->shE tg tc u K k s' F0 fn r
theorem ajw:cJ (dR prog gS (LSh fr C)) 60 9 [] [gi tg,sf tc] [.cn u] (cP 2 K)=shX C tg tc u K:=by kernel_rfl
end
end Go.Proofs.YtggfpcggakghnaaGreatDoor
namespace Go.Proofs.YtggfpcggakghnaaGreatDoor
open Go Go.RowKit Go.BigFrame Sx Go.ChangeShapes Go.WideShapes
section
variable{H:Type} {enc:TypeId×Value->H} {P:Program} {w:World} {base:Nat} {spare:Nat->Bool} {held:Bool} {fuel:Nat} {t e:TypeId} {cs:List Value} {ps:List MemPlace}
theorem KM {l:List Value} {i:Nat} {v:Value} (h:(l.drop i).take 1=[v]):l[i]?=some v:=by
 have h1:((l.drop i).take 1)[0]?=some v:=by rw[h];rfl
 rw[List.getElem?_take]at h1;simpa using h1
theorem Z7 {k:IntKind} {zs:List Int} (ht:P.underlying t=some (.array zs.length e)) (he:P.underlying e=some (.int k)) (hc:P.cellsOf e=1) (hn:P.cellsOf t=zs.length)
 (h:DataW.trod enc P w base spare held fuel t cs=some (.agg (zs.map λz=>.lit (.int k z)),ps)):cs=zs.map (Value.int k):=by
 obtain⟨xs,m,rfl,hx,hlen,Wf,Fx⟩:=DataW.trod_array ht h;simp only[Prod.mk.injEq,DataW.agg.injEq]at hx;rw[hn]at hlen;apply List.ext_getElem?;intro i;by_cases hi:i<zs.length
 ·have h1:=Fx i hi;rw[hc,Nat.mul_one,List.getElem?_eq_getElem (by omega)]at h1;obtain⟨z,e1,e2,_⟩:=DataW.trod_int he h1;have h3:(zs.map λz=>(DataW.lit (.int k z):DataW H))[i]?=(xs.map (·.1))[i]?:=by rw[hx.1]
  rw[List.getElem?_map,List.getElem?_map,List.getElem?_eq_getElem hi,List.getElem?_eq_getElem (by omega),Option.map_some,Option.map_some,e2]at h3;simp at h3;rw[KM e1,List.getElem?_map,List.getElem?_eq_getElem hi,Option.map_some,h3]
 ·rw[List.getElem?_eq_none (by omega),List.getElem?_eq_none (by simp;omega)]
theorem KO {n:String} {g:Nat} {c:Array Value} (hg:P.globalNamed n=some g) (h:w.var? P n=some c):∃t f,w.heap[g]?=some (.cells c t f):=by
 simp only[World.var?,hg,Option.bind_some]at h;split at h
 ·next c' t f h2=>simp at h;subst h;exact⟨t,f,h2⟩
 ·cases h
end
def x_:List Int:=(List.range 64).map λi=>aX i
def Ut:List (String×DataW Unit):=[("sidestick/gate.commands",Rows.laid_sidestick_gate_commands),("sidestick/sha.roots",Rows.laid_sidestick_sha_roots)]
theorem Uu {W:World} (h:laidMetH prog Ut W):∃t,W.heap[1]?=some (.cells (ak .u32 64 aX) t (0,0)):=by
 rw[MakeChecks.laidMetH_plain _ _ _ (by kernel_rfl)]at h;obtain⟨ps,⟨g0,t0,cs0,f0,p0,q0,hg0,ht0,OT,hd0,⟨g1,t1,cs1,f1,p1,q1,hg1,ht1,VG,Zm,_,hq⟩,Mc⟩,_,jr⟩:=h;obtain rfl:g1=1:=Option.some.inj (hg1.symm.trans (show prog.globalNamed "sidestick/sha.roots" =some 1 by kernel_rfl));have e1:(prog.globals[1]?).map (·.type)=some 287:=by kernel_rfl
 obtain rfl:t1=287:=Option.some.inj (ht1.symm.trans e1);have Jd:cs1.toList=x_.map (Value.int .u32):=by
  have hd2:DataW.trod (λ_=>()) prog W 0 (λ_=>true) false f1 287 cs1.toList=some (.agg (x_.map λz=>.lit (.int .u32 z)),p1):=
   Zm.trans (congrArg (λd=>some (d,p1)) (show(Rows.laid_sidestick_sha_roots:DataW Unit)=.agg (x_.map λz=>.lit (.int .u32 z)) by kernel_rfl))
  exact Z7 (k:=.u32) (zs:=x_) (e:=56) (by kernel_rfl) (by kernel_rfl) (by kernel_rfl) (by kernel_rfl) hd2
 obtain⟨t,f,ba⟩:=KO (show prog.globalNamed "sidestick/sha.roots" =some 1 by kernel_rfl) VG;have hc1:cs1=ak .u32 64 aX:=by
  apply Array.ext';rw[Jd];simp[x_,ak]
 obtain⟨c,t',xy⟩:=(jr 1 0 (by
  rw[Mc,hq,hc1];have:MemPlace.cell 1 0∈MemPlace.row ⟨1,0,none⟩ (ak .u32 64 aX).size:=by
   rw[kQ];simp[MemPlace.row]
  simp[this])).1
 rw[ba]at xy;simp only[Option.some.injEq,Obj.cells.injEq]at xy;refine⟨t,?_⟩;rw[ba,hc1,xy.2.2]
end Go.Proofs.YtggfpcggakghnaaGreatDoor
namespace Sd
open Go Go.RowKit
noncomputable def over (w:World) (B:Nat) (u:World):World:=@ite _ (Below B w u) (Classical.propDecidable _) u w
theorem over_below (w:World) (B:Nat) (u:World):Below B w (over w B u):=by
 unfold over;split
 ·assumption
 ·exact Below.refl _ _
@[go_sem] theorem cell?_over (w:World) (B:Nat) (u:World) (b o:Nat) (h:b<B):(over w B u).cell? ⟨b,o,none⟩=w.cell? ⟨b,o,none⟩:=(over_below w B u).cell h
@[go_sem] theorem frozen?_over (w:World) (B:Nat) (u:World) (b o:Nat) (h:b<B):(over w B u).frozen? ⟨b,o,none⟩=w.frozen? ⟨b,o,none⟩:=(over_below w B u).frozen h
section
variable{P:Program}
end
theorem bs {w a:World} (h:Below w.heap.size w a) {p:Addr} (hp:w.heap.size<=p.block) (v:Value):Below w.heap.size w (a.setCell p v):=h.setCell hp v
def jt (d:TypeDesc):Bool:=match d with|.struct _|.array _ _=>true|_=>false
structure ajx (P:Program) (ty n:Nat):Prop where
 desc:∃d,P.underlying ty=some d/\jt d=true
 size:(P.info? ty).map (·.size)=some n
theorem ajx.load {P:Program} {ty n:Nat} (h:ajx P ty n) {w:World} {g:Nat} {t:TypeId} {cs:Array Value} {fr:Nat×Nat} (hg:w.heap[g]?=some (.cells cs t fr)) (hn:cs.size=n):
 (loadVar ty ⟨g,0,none⟩).run P w=.ok (.agg cs) w:=by
 obtain⟨⟨d,hu,hd⟩,hs⟩:=h;exact run_loadVar_row w g t ty cs fr d hg hu (by cases d<;>first|rfl|simp[jt]at hd) (by rw[hs,hn])
section
variable{P:Program} {ops:Array Oper} {rest:List Oper} {o:Oper} {a:Act} {w:World} {Q:Exit->Act->World->Prop}
end
def I64 (n:Int):Prop:=-9223372036854775808<=n/\n<=9223372036854775807
theorem i64 {n:Int} (h:-9223372036854775808<=n/\n<=9223372036854775807):I64 n:=h
end Sd
namespace Sd
open Go Go.RowKit Go.ChangeShapes Go.WideShapes Go.ChangeAt
theorem oX {H:Type} {enc:TypeId×Value->H} {P:Program} (hl:laidOutB P=true) {W W':World} (hb:Below W.heap.size W W'):
 ∀{ts:List TypeId} {vs:List Value} {ds:List (DataW H)} {ps:List MemPlace},(ts.all λt=>P.readableRec t&&decide (t<P.types.size))=true->
  DataW.TrodAll enc P W 0 (λ_=>true) true ts vs ds ps->(∀p∈ps,p.block<W.heap.size)->DataW.TrodAll enc P W' 0 (λb=>decide (b<W.heap.size)) true ts vs ds ps
 |[],[],[],_,_,h,_=>h
 |t::ts,v::vs,d::ds,ps,hr,h,hp=>by
  obtain⟨p,q,h1,h2,rfl⟩:=h;simp only[List.all_cons,Bool.and_eq_true,decide_eq_true_eq]at hr;exact⟨p,q,Below.trod hl hr.1.1 hr.1.2 h1 hb (λx hx=>hp x (List.mem_append_left _ hx)),oX hl hb hr.2 h2 (λx hx=>hp x (List.mem_append_right _ hx)),rfl⟩
 |[],[],_::_,_,_,h,_=>h.elim
 |[],_::_,_,_,_,h,_=>h.elim
 |_::_,[],_,_,_,h,_=>h.elim
 |_::_,_::_,[],_,_,h,_=>h.elim
theorem Uv {H:Type} {enc:TypeId×Value->H} {P:Program} {f:Func} {s:ChangeSpec} {W W':World} {args:Array Value} {ds gs:List (DataW H)} {before:List MemPlace} {tb:TypeId}
 (hl:laidOutB P=true) (hr:(f.params.toList.all λt=>P.readableRec t&&decide (t<P.types.size))=true) (abS:s.vars=[]) (Tb:f.resultTypes=#[tb]) (htb:P.underlying tb=some .bool)
 (hs:s.fn H (ds++gs)={results:=[.lit (.bool true)],args:=ds,vars:=[]}) (hW:DataW.Whole enc P f.params.toList s.vars false W args.toList ds gs before) (hb:Below W.heap.size W W'):
 s.post enc P f false true false false W args (.bool true) W':=by
 have hW0:=hW;have iK:=λp hp=>hW.lt p hp;obtain⟨p,q,hA,hV,rfl,hz,hn⟩:=hW;rw[abS]at hV;obtain⟨rfl,rfl⟩:=trodVars_none hV;refine⟨ds,[],p++[],[],p,[],hW0,?_,?_,?_,?_,λh=>by cases h⟩
 ·rw[hs,Tb];exact trodAll_mk1 (shut_bool htb _)
 ·rw[hs];exact oX hl hb hr hA (λx hx=>iK x (by simpa using hx))
 ·rw[hs,abS];exact rfl
 ·exact hb.frame _
section
variable{P:Program} {w:World} {r:Reach} {b0:Nat} {t:TypeId} {v:Value}
theorem yb {d:TypeDesc} {ts:List TypeId} (hu:P.underlying t=some d) (hd:jt d=true) (hct:P.cellTypes P.depth t=some ts) (hn:P.cellsOf t=ts.length) (hv:Value.okWide P w r b0 t v):
 ∃cs:Array Value,v=.agg cs/\cs.size=ts.length/\∀(i:Nat) x u,cs[i]?=some x->ts[i]?=some u->Cell.okWide P w r b0 u x:=by
 have h:∃cs,v=.agg cs/\cs.size=P.cellsOf t/\Row.okWide P w r b0 t cs:=by
  unfold Value.okWide at hv;rw[hu]at hv;cases d<;>first|exact hv|simp[jt]at hd
 obtain⟨cs,rfl,iM,ts',h1,_,h2⟩:=h;rw[hct]at h1;obtain rfl:ts=ts':=by simpa using h1
 refine⟨cs,rfl,iM.trans hn,?_⟩;intro i x u hx hu';obtain⟨u',h3,h4⟩:=h2 i x hx;have hi:i<ts.length:=by
  rcases Nat.lt_or_ge i ts.length with h|h
  ·exact h
  ·simp[h]at hu'
 rw[Nat.mod_eq_of_lt hi,hu']at h3;obtain rfl:u=u':=by simpa using h3
 exact h4
theorem EZ {d:TypeDesc} (hu:P.underlying t=some d) (hd:jt d=false) (hv:Value.okWide P w r b0 t v):Cell.okWide P w r b0 t v:=by
 unfold Value.okWide at hv;rw[hu]at hv;cases d<;>first|exact hv|simp[jt]at hd
theorem yc {k:IntKind} (hu:P.underlying t=some (.int k)) (h:Cell.okWide P w r b0 t v):∃n,v=.int k n/\k.min<=n/\n<=k.max:=by
 unfold Cell.okWide at h;rw[hu]at h;unfold Cell.ok at h;rw[hu]at h;cases v<;>simp at h;obtain⟨rfl,h1,h2⟩:=h;exact⟨_,rfl,h1,h2⟩
theorem Uw (hu:P.underlying t=some (.int .i64)) (h:Cell.okWide P w r b0 t v):∃n,v=.int .i64 n/\I64 n:=by
 obtain⟨n,h1,h2,h3⟩:=yc hu h;exact⟨n,h1,by unfold I64;simpa[IntKind.min,IntKind.max,IntKind.signed,IntKind.bits]using And.intro h2 h3⟩
theorem Z8 (hu:P.underlying t=some (.int .u8)) (h:Cell.okWide P w r b0 t v):∃n,v=.int .u8 n/\0<=n/\n<=255:=by
 obtain⟨n,h1,h2,h3⟩:=yc hu h;exact⟨n,h1,by simpa[IntKind.min,IntKind.max,IntKind.signed,IntKind.bits]using And.intro h2 h3⟩
theorem N2 (hu:P.underlying t=some .bool) (h:Cell.okWide P w r b0 t v):∃b,v=.bool b:=by
 unfold Cell.okWide at h;rw[hu]at h;unfold Cell.ok at h;rw[hu]at h;cases v<;>simp at h;exact⟨_,rfl⟩
end
end Sd
namespace Go.Proofs.YtggfpcggakghnaaGreatDoor
open Go Go.RowKit Go.WideShapes Sd
def KR (W:World) (a:Option Addr) (n c:Nat):Prop:=n<=c/\((a=none/\n=0/\c=0)\/∃x,a=some x/\(c:Int)<=i64.max/\W.has prog .any 0 x 5 c)
theorem Io {W:World} {v:Value} {t e:TypeId} (hu:prog.underlying t=some (.slice e)) (h:Cell.okWide prog W .any 0 t v):
 ∃a n c,v=.slice a n c/\n<=c/\((a=none/\n=0/\c=0)\/∃x,a=some x/\(c:Int)<=i64.max/\W.has prog .any 0 x e c):=by
 unfold Cell.okWide at h;rw[hu]at h;cases v with
 |slice a n c=>
  unfold Cell.ok at h;rw[hu]at h;cases a with
  |none=>
   cases n<;>cases c<;>first|exact⟨_,_,_,rfl,by omega,Or.inl ⟨rfl,rfl,rfl⟩⟩|(simp at h)
  |some a=>exact⟨_,_,_,rfl,h.1,Or.inr ⟨a,rfl,h.2⟩⟩
 |_=>unfold Cell.ok at h;rw[hu]at h;simp at h
theorem Ux {W:World} {v:Value} (hv:Value.okWide prog W .any 0 28 v):
 ∃(q:Nat->Int) (ka:Nat->Option Addr) (kn kc:Nat->Nat),v=.agg (Hf q ka kn kc)/\(∀i,-9223372036854775808<=q i/\q i<=9223372036854775807)/\∀i,i<4->KR W (ka i) (kn i) (kc i):=by
 obtain⟨cs,rfl,iM,Jd⟩:=yb Tryz.underlying28 rfl (ts:=[3,3,3,3,3,23,23,23,23,3,3,3,3,3,3,3,3,3,3,3,3,3,3,3,3,3,3,3,3,3,3,3,3,3,3,3,3,3,3,3,3,3,3,3,3,3,3,3,3,3,3,3,3,3,3,3]) (by kernel_rfl) (by kernel_rfl) hv;have ba:∀i,i<56->∃x,cs[i]?=some x:=λi hi=>⟨cs[i]'(by rw[iM];exact hi),by rw[Array.getElem?_eq_getElem]⟩;have hI:∀i,i<56->(i<5\/8<i)->∃n,cs[i]?=some (.int .i64 n)/\I64 n:=by
  intro i hi e_;obtain⟨x,hx⟩:=ba i hi;have ht:([3,3,3,3,3,23,23,23,23,3,3,3,3,3,3,3,3,3,3,3,3,3,3,3,3,3,3,3,3,3,3,3,3,3,3,3,3,3,3,3,3,3,3,3,3,3,3,3,3,3,3,3,3,3,3,3]:List Nat)[i]?=some 3:=by clear hx;revert i;decide
  obtain⟨n,rfl,hn⟩:=Uw Tryz.underlying3 (Jd i x 3 hx ht);exact⟨n,hx,hn⟩
 have hS:∀i,i<4->∃a n c,cs[5+i]?=some (.slice a n c)/\KR W a n c:=by
  intro i hi;obtain⟨x,hx⟩:=ba (5+i) (by omega);have ht:([3,3,3,3,3,23,23,23,23,3,3,3,3,3,3,3,3,3,3,3,3,3,3,3,3,3,3,3,3,3,3,3,3,3,3,3,3,3,3,3,3,3,3,3,3,3,3,3,3,3,3,3,3,3,3,3]:List Nat)[5+i]?=some 23:=by clear hx;revert i;decide
  obtain⟨a,n,c,rfl,h1,h2⟩:=Io Tryz.underlying23 (Jd (5+i) x 23 hx ht);exact⟨a,n,c,hx,h1,h2⟩
 let q:Nat->Int:=λi=>match cs[i]?with|some (.int _ n)=>n|_=>0
 let ka:Nat->Option Addr:=λi=>match cs[5+i]?with|some (.slice a _ _)=>a|_=>none
 let kn:Nat->Nat:=λi=>match cs[5+i]?with|some (.slice _ n _)=>n|_=>0
 let kc:Nat->Nat:=λi=>match cs[5+i]?with|some (.slice _ _ c)=>c|_=>0
 have hq:∀i,i<56->(i<5\/8<i)->cs[i]?=some (.int .i64 (q i))/\I64 (q i):=by
  intro i hi e_;obtain⟨n,hx,hn⟩:=hI i hi e_;have:q i=n:=by simp only[q,hx]
  rw[this];exact⟨hx,hn⟩
 have hk:∀i,i<4->cs[5+i]?=some (.slice (ka i) (kn i) (kc i))/\KR W (ka i) (kn i) (kc i):=by
  intro i hi;obtain⟨a,n,c,hx,hn⟩:=hS i hi;have h1:ka i=a:=by simp only[ka,hx]
  have h2:kn i=n:=by simp only[kn,hx]
  have h3:kc i=c:=by simp only[kc,hx]
  rw[h1,h2,h3];exact⟨hx,hn⟩
 refine⟨q,ka,kn,kc,?_,?_,λi hi=>(hk i hi).2⟩
 ·congr 1;apply Array.ext_getElem?;intro i;by_cases hi:i<56
  ·match i,hi with
   |0,_=>exact(hq 0 (by omega) (by omega)).1.trans rfl
   |1,_=>exact(hq 1 (by omega) (by omega)).1.trans rfl
   |2,_=>exact(hq 2 (by omega) (by omega)).1.trans rfl
   |3,_=>exact(hq 3 (by omega) (by omega)).1.trans rfl
   |4,_=>exact(hq 4 (by omega) (by omega)).1.trans rfl
   |5,_=>exact(hk 0 (by omega)).1.trans rfl
   |6,_=>exact(hk 1 (by omega)).1.trans rfl
   |7,_=>exact(hk 2 (by omega)).1.trans rfl
   |8,_=>exact(hk 3 (by omega)).1.trans rfl
   |9,_=>exact(hq 9 (by omega) (by omega)).1.trans rfl
   |10,_=>exact(hq 10 (by omega) (by omega)).1.trans rfl
   |11,_=>exact(hq 11 (by omega) (by omega)).1.trans rfl
   |12,_=>exact(hq 12 (by omega) (by omega)).1.trans rfl
   |13,_=>exact(hq 13 (by omega) (by omega)).1.trans rfl
   |14,_=>exact(hq 14 (by omega) (by omega)).1.trans rfl
   |15,_=>exact(hq 15 (by omega) (by omega)).1.trans rfl
   |16,_=>exact(hq 16 (by omega) (by omega)).1.trans rfl
   |17,_=>exact(hq 17 (by omega) (by omega)).1.trans rfl
   |18,_=>exact(hq 18 (by omega) (by omega)).1.trans rfl
   |19,_=>exact(hq 19 (by omega) (by omega)).1.trans rfl
   |20,_=>exact(hq 20 (by omega) (by omega)).1.trans rfl
   |21,_=>exact(hq 21 (by omega) (by omega)).1.trans rfl
   |22,_=>exact(hq 22 (by omega) (by omega)).1.trans rfl
   |23,_=>exact(hq 23 (by omega) (by omega)).1.trans rfl
   |24,_=>exact(hq 24 (by omega) (by omega)).1.trans rfl
   |25,_=>exact(hq 25 (by omega) (by omega)).1.trans rfl
   |26,_=>exact(hq 26 (by omega) (by omega)).1.trans rfl
   |27,_=>exact(hq 27 (by omega) (by omega)).1.trans rfl
   |28,_=>exact(hq 28 (by omega) (by omega)).1.trans rfl
   |29,_=>exact(hq 29 (by omega) (by omega)).1.trans rfl
   |30,_=>exact(hq 30 (by omega) (by omega)).1.trans rfl
   |31,_=>exact(hq 31 (by omega) (by omega)).1.trans rfl
   |32,_=>exact(hq 32 (by omega) (by omega)).1.trans rfl
   |33,_=>exact(hq 33 (by omega) (by omega)).1.trans rfl
   |34,_=>exact(hq 34 (by omega) (by omega)).1.trans rfl
   |35,_=>exact(hq 35 (by omega) (by omega)).1.trans rfl
   |36,_=>exact(hq 36 (by omega) (by omega)).1.trans rfl
   |37,_=>exact(hq 37 (by omega) (by omega)).1.trans rfl
   |38,_=>exact(hq 38 (by omega) (by omega)).1.trans rfl
   |39,_=>exact(hq 39 (by omega) (by omega)).1.trans rfl
   |40,_=>exact(hq 40 (by omega) (by omega)).1.trans rfl
   |41,_=>exact(hq 41 (by omega) (by omega)).1.trans rfl
   |42,_=>exact(hq 42 (by omega) (by omega)).1.trans rfl
   |43,_=>exact(hq 43 (by omega) (by omega)).1.trans rfl
   |44,_=>exact(hq 44 (by omega) (by omega)).1.trans rfl
   |45,_=>exact(hq 45 (by omega) (by omega)).1.trans rfl
   |46,_=>exact(hq 46 (by omega) (by omega)).1.trans rfl
   |47,_=>exact(hq 47 (by omega) (by omega)).1.trans rfl
   |48,_=>exact(hq 48 (by omega) (by omega)).1.trans rfl
   |49,_=>exact(hq 49 (by omega) (by omega)).1.trans rfl
   |50,_=>exact(hq 50 (by omega) (by omega)).1.trans rfl
   |51,_=>exact(hq 51 (by omega) (by omega)).1.trans rfl
   |52,_=>exact(hq 52 (by omega) (by omega)).1.trans rfl
   |53,_=>exact(hq 53 (by omega) (by omega)).1.trans rfl
   |54,_=>exact(hq 54 (by omega) (by omega)).1.trans rfl
   |55,_=>exact(hq 55 (by omega) (by omega)).1.trans rfl
   |i+56,h=>exact absurd h (by omega)
  ·rw[Array.getElem?_eq_none (by rw[iM];exact Nat.le_of_not_lt hi),Array.getElem?_eq_none (Nat.le_of_not_lt hi)]
 ·intro i;by_cases hi:i<56/\(i<5\/8<i)
  ·exact(hq i hi.1 hi.2).2
  ·have:q i=0:=by
    by_cases h5:i<56
    ·obtain⟨a,n,c,hx,_⟩:=hS (i-5) (by omega);rw[show 5+(i-5)=i by omega]at hx;simp only[q,hx]
    ·have hx:cs[i]?=none:=Array.getElem?_eq_none (by rw[iM];exact Nat.le_of_not_lt h5);simp only[q,hx]
   rw[this];omega
end Go.Proofs.YtggfpcggakghnaaGreatDoor
