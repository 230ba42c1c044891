/- Part 16 of the proof. -/
import Derived.Test.YtlkpikfddnjilaaGreatDoorQ15
set_option linter.all false
set_option maxRecDepth 100000
set_option maxHeartbeats 4000000
open Go.Proofs.Tryz
open Go.IntKind (u8 u16 u32 u64 i64)
namespace Go.Proofs.YtlkpikfddnjilaaGreatDoor
open Go Go.RowKit Go.BigFrame Sx Vx
variable{fr:Sd.Reply->Nat×Sd.Byt}
def aj (tk:Nat->Sd.Byt->Option Sd.db):Sd.Crypt:=⟨tk,λk s n=>aV k.1 k.2 s n,λk s r nc pf=>mN k.1 k.2 s r nc pf,λk s r nc=>jS k.1 k.2 s r nc,λk s n f=>kl k s (n-8) f,qy,dL⟩
def aM (k:LK) (s:Sd.Scene) (Kb:SK fr k):V->List VB->List (Gh fr)->Prop:=λv bl ch=>∃s' F',fu 0 v=true/\s'.c.p=s.c.p/\Kb v s' F'/\bl.take 5=cO k s' F'/\ch=[cx k s' F']
theorem dy {f n:Nat} {M:SM fr} {L:List (dF (Gh fr))} (hL:ah prog gS L)
 (h:∀(ar:List V) (k:LK) (s:Sd.Scene) (F:cw fr (bV k s)) (Kb:SK fr k),cG 0 ar=true->s.c.p.queue=k.most->M ar k s F Kb->cI (dw prog gS L) n f (.ptr 2 0::ar) (cO k s F) [cx k s F] (aM k s Kb)):Body f M:=by
 intro ar k s F Kb a b c R ms w0 w h0 hq hM S;have hg:Gl gS (aX a b c):=by
  intro g i iu;unfold gS at iu;split at iu
  ·obtain rfl:=Option.some.inj iu;exact⟨by simp,rfl⟩
  ·obtain rfl:=Option.some.inj iu;exact⟨by simp,rfl⟩
  ·cases iu
 refine(bw hL.T hL.Q n (C:=dw prog gS L) (ids:=aX a b c) (bl:=cO k s F) (ch:=[cx k s F]) (R:=R) (ms:=ms) (w0:=w0) (w:=w) hg rfl (by
  have e:ag [cx k s F] R=F.B++R:=rfl;rw[e];exact S) (h ar k s F Kb h0 hq hM)).mono ?_
 rintro v w' ⟨x,more,bl',ch',rfl,h1,S',s',F',hv,hp,hK,hb,rfl⟩;have ev:den (aX a b c++more) x=den [] x:=by have:=bx (ids:=[]) (more:=aX a b c++more) x hv;simpa using this
 refine⟨x,s',F',ev,hv,hp,hK,?_⟩;have hl5:(cO k s' F').length=5:=rfl;have fW:bl'=cO k s' F'++bl'.drop 5:=by rw[<-hb,List.take_append_drop]
 rw[fW]at S';have e2:lits (aX a b c++more) (aX a b c++more) (cO k s' F'++bl'.drop 5)=lits (aX a b c) (aX a b c) (cO k s' F')++lits (aX a b c++more) more (bl'.drop 5):=by
  rw[aQ _ _ _ _ (by rw[hl5];rfl)];rw[aR (ids:=aX a b c) (more:=more) (aX a b c) (cO k s' F') rfl]
 rw[e2]at S';refine S'.sub ?_;have e3:ag [cx k s' F'] R=F'.B++R:=rfl;rw[e3,List.append_assoc];exact List.Sublist.append_left (List.sublist_append_right _ _) _
theorem cX {f:Nat} {M:SM fr} (h:Body f M):oq prog gS ⟨f,false,pj M⟩:=⟨PJ h,λe=>by cases e⟩
def dg (s:Sd.Scene):Sd.Scene:={s with c:={s.c with doors:=r3 (s.c.doors 0) (s.c.doors 1) (s.c.doors 2) s.c.doors,tab:=⟨s.c.tab.aA,r3 (s.c.tab.az 0) (s.c.tab.az 1) (s.c.tab.az 2) s.c.tab.az⟩}}
theorem sJ (s:Sd.Scene):dg s=s:=by
 unfold dg;rw[ui,ui]
theorem qO {k:LK} {s s':Sd.Scene} {M:(s:Sd.Scene)->cw fr (bV k s)->Prop} (e:s'=s) (F:cw fr (bV k s)) (h:M s F) (hx:bV k s=bV k s':=by rfl):M s' (hx▸F):=by
 subst e;exact h
theorem fc {ar:List V} {k:LK} {s:Sd.Scene} {M:SM fr} {F:cw fr (bV k s)} {K:SK fr k} (h:M ar k s F K):M ar k (dg s) F K:=qO (M:=λs F=>M ar k s F K) (sJ s) F h
def gD (C:Sd.Crypt):SM fr:=λar k s F K=>match ar with
 |[.int .i64 kd,.int .i64 so,.int .i64 sq,.int .i64 co,.int .i64 ho]=>s.recs.length<=1000/\∀F',K (.aC []) (s.record C kd so sq co ho) F'
 |_=>False
theorem C0 (r c s k t:ax) (B X R:List ax):([r,c,s,k,t]++((B++X)++R)).Perm ([r,s,k]++(B++(c::t::(X++R)))):=by
 refine List.Perm.cons r ?_;have h1:(c::s::k::t::((B++X)++R)).Perm (s::k::c::t::((B++X)++R)):=
  (List.Perm.swap s c _).trans (List.Perm.cons s (List.Perm.swap k c _))
 refine h1.trans (List.Perm.cons s (List.Perm.cons k ?_));have h2:([c,t]++(B++(X++R))).Perm (B++([c,t]++(X++R))):=by
  rw[<-List.append_assoc,<-List.append_assoc B];exact List.Perm.append_right _ List.perm_append_comm
 simpa[List.append_assoc]using h2
theorem acg {k:LK} {s:Sd.Scene} (F:cw fr (bV k s)):F.B=F.Br++(F.Bs++(F.Bf++(F.Bq++F.Bk))):=rfl
theorem C1 (tk:Nat->Sd.Byt->Option Sd.db):Body (fr:=fr) 64 (gD (aj tk)):=by
 intro ar k s F Kb a b c R ms w0 w h0 hq hM S;unfold gD at hM;split at hM
 ·rename_i kd so sq co ho;obtain⟨hn,hK⟩:=hM;have e1:lits (aX a b c) (aX a b c) (cO k s F)=[⟨0,false,.cells (ai .u32 64 aT) k.tg (0,0)⟩,aL (aX a b c) 2 (iq k),⟨a,true,.cells #[.pointer (some ⟨b,0,none⟩),F.vs,F.vr] 108 (0,0)⟩,⟨b,true,.cells (lW s.c.p k.ka k.kn k.kc s.c.t k.bq s.c.doors c s.c.samples s.c.beyond s.c.mode s.c.cA s.c.pt s.c.head) 97 (0,0)⟩,aL (aX a b c) c (gp s)]:=by kernel_rfl
  rw[e1,acg]at S;have S1:=S.perm (C0 _ _ _ _ _ _ _ _);have e2:(aq (aX a b c) (.ptr 2 0::[.int .i64 kd,.int .i64 so,.int .i64 sq,.int .i64 co,.int .i64 ho])).toArray=#[.pointer (some ⟨a,0,none⟩),.int .i64 kd,.int .i64 so,.int .i64 sq,.int .i64 co,.int .i64 ho]:=by kernel_rfl
  rw[e2];refine(VI _ _ _ _ _ _ _ _ _ _ _ _ _ _ _ _ _ _ _ _ _ _ _ _ kd so sq co ho w S1 F.hr hn).mono ?_;rintro v w1 ⟨x1,c1,xf,rfl,uh,S2⟩;have hl:(s.record (aj tk) kd so sq co ho).recs.length=s.recs.length+1:=by simp[Sd.Scene.record]
  have oG:eH 6 65 (mP (s.record (aj tk) kd so sq co ho).recs) x1 (s.record (aj tk) kd so sq co ho).recs.length c1 xf:=by rw[hl];exact uh
  let F':cw fr (bV k (s.record (aj tk) kd so sq co ho)):={F with xr:=x1,cr:=c1,Br:=xf,hr:=oG}
  refine⟨.aC [],_,F',rfl,rfl,rfl,hK F',?_⟩;have e3:lits (aX a b c) (aX a b c) (cO k (s.record (aj tk) kd so sq co ho) F')=[⟨0,false,.cells (ai .u32 64 aT) k.tg (0,0)⟩,aL (aX a b c) 2 (iq k),⟨a,true,.cells #[.pointer (some ⟨b,0,none⟩),F.vs,.slice x1 (s.record (aj tk) kd so sq co ho).recs.length c1] 108 (0,0)⟩,⟨b,true,.cells (lW s.c.p k.ka k.kn k.kc s.c.t k.bq s.c.doors c s.c.samples s.c.beyond s.c.mode s.c.cA s.c.pt (qy s.c.head ⟨kd,so,sq,s.c.t.epoch,co,ho⟩)) 97 (0,0)⟩,aL (aX a b c) c (gp s)]:=by kernel_rfl
  rw[e3,acg,hl];exact S2.perm (C0 _ _ _ _ _ _ _ _).symm
 ·exact hM.elim
def eg (k:LK) (s:Sd.Scene) (F:cw fr (bV k s)):Prop:=F.vs=F.vs/\F.vr=F.vr/\some (aF k)=some (aF k)/\some (iq k)=some (iq k)/\CX k 4 s=CX k 4 (dg s)/\s.c.p.bR=s.c.p.bR/\s.c.p.bz=s.c.p.bz/\s.c.p.queue=k.most
theorem eO {k:LK} {s:Sd.Scene} {F:cw fr (bV k s)} (h:s.c.p.queue=k.most):eg k s F:=⟨rfl,rfl,rfl,rfl,rfl,rfl,rfl,h⟩
def L0 (fr:Sd.Reply->Nat×Sd.Byt) (C:Sd.Crypt):List (dF (Gh fr)):=⟨64,false,pj (gD C)⟩::qL (Gh fr) QV
theorem Y9 (tk:Nat->Sd.Byt->Option Sd.db):ah prog gS (L0 fr (aj tk)):=ah.cons (cX (C1 tk)) (fJ (tm gS))
def sL (C:Sd.Crypt):SM fr:=λar k s F K=>match ar with
 |[.int .i64 l,.int .i64 co]=>s.recs.length<=1000/\∀F',K (.aC []) (s.cW C l co) F'
 |_=>False
theorem K2 (C:Sd.Crypt) (k:LK) (s:Sd.Scene) (F:cw fr (bV k s)) (Kb:SK fr k) (l co:Int):cI (dw prog gS (L0 fr C)) 40 83 [.ptr 2 0,.int .i64 l,.int .i64 co] (cO k s F) [cx k s F] (aM k s Kb)
 =(eg k s F/\gD C [.int .i64 1,.int .i64 l,.int .i64 0,.int .i64 co,.int .i64 0] k (dg s) F (λv s' F'=>aM k s Kb (.aC []) (cO k s' F') [cx k s' F'])):=by kernel_rfl
theorem C2 (tk:Nat->Sd.Byt->Option Sd.db):Body (fr:=fr) 83 (sL (aj tk)):=by
 refine dy (n:=40) (Y9 tk) ?_;intro ar k s F Kb h0 hq hM;unfold sL at hM;split at hM
 ·rename_i l co;rw[K2];refine⟨eO hq,fc ⟨hM.1,λF'=>?_⟩⟩;exact⟨_,F',rfl,rfl,hM.2 F',rfl,rfl⟩
 ·exact hM.elim
end Go.Proofs.YtlkpikfddnjilaaGreatDoor
namespace Go.Proofs.YtlkpikfddnjilaaGreatDoor
open Go Go.RowKit Go.BigFrame Sx Vx
def uj (L:List QF) (n:Nat) (f:FuncId) (args:List V) (bl:List VB) (K:VK Empty):Prop:=cI (dw prog (λ_=>none) (qL Empty L)) n f args bl [] K
theorem pk {L:List QF} (hL:aW prog (λ_=>none) L) {n f:Nat} {args:List V} {v:V} {c:List V} {T:BT} {bt:Nat} {w:World} (h:uj L n f args [⟨false,T,c⟩] λx _ _=>x=v)
 (hT:w.heap[bt]?=some (.cells (af [] c).toArray T.t T.fz)) (hc:cG 0 c=true) (hv:fu 1 v=true):ak prog f (aq [bt] args).toArray w λx w1=>x=den [bt] v/\Ch [] w w1:=by
 have e1:af [bt] c=af [] c:=bY (ids:=[]) (more:=[bt]) c hc;have S:=St.given (w:=w) [(bt,.cells (af [bt] c).toArray T.t T.fz)] (by intro p hp;simp only[List.mem_singleton]at hp;subst hp;rw[e1];exact hT);refine(bw (fJ hL).T (fJ hL).Q n (C:=dw prog (λ_=>none) (qL Empty L)) (ids:=[bt]) (bl:=[⟨false,T,c⟩]) (ch:=[]) (R:=[]) Gl.none rfl S h).mono ?_;rintro x w' ⟨y,more,bl',ch',rfl,h1,S',rfl⟩;exact⟨bx (ids:=[bt]) _ hv,S'.ch⟩
theorem At {L:List QF} (hL:aW prog (λ_=>none) L) {n f:Nat} {args:List V} {v:V} {B0:VB} {wr:Bool} {o:Obj} {bt:Nat} {bs:List ax} {ms:List Nat} {w0 w:World}
 (h:uj L n f args [B0] (du 1 λx b _=>x=v/\∃B,b=[B]/\aL [0] 0 B=⟨0,wr,o⟩/\cG 0 B.c=true)) (hv:fu 0 v=true) (S:St ms w0 ([aL [bt] bt B0]++bs) w):
 ak prog f (aq [bt] args).toArray w λy w1=>y=den [] v/\St ms w0 ([⟨bt,wr,o⟩]++bs) w1:=by
 refine(bw (fJ hL).T (fJ hL).Q n (C:=dw prog (λ_=>none) (qL Empty L)) (ids:=[bt]) (bl:=[B0]) (ch:=[]) (R:=bs) Gl.none rfl S h).mono ?_;rintro x w' ⟨y,more,bl',ch',rfl,h1,S',hK⟩;obtain⟨v2,aS,bl2,e,gH,S2,rfl,B,rfl,hB,hw⟩:=dr (n0:=1) h1 (by simp) S' hK;have hm:aS=[]:=by simpa using gH
 subst hm;refine⟨by rw[e];exact bx (ids:=[]) _ hv,?_⟩;have q:aL [bt] bt B=aL [0] bt B:=cj hw;have q2:aL [0] bt B=⟨bt,wr,o⟩:=by
  unfold aL at hB⊢;simp only[ax.mk.injEq]at hB⊢;exact⟨trivial,hB.2⟩
 have S3:St ms w0 ([aL [bt] bt B]++bs) w':=match ch',S2 with
  |[],S2=>S2
  |e::_,_=>nomatch e
 rw[q,q2]at S3;exact S3
def dh (t:Sd.Tab):Sd.Tab:=⟨t.aA,r3 (t.az 0) (t.az 1) (t.az 2) λ_=>.zero⟩
def aK (y:TC):Sd.Tab:=⟨(y.s1,⟨y.sn,y.sm⟩),r3 y.s0 y.sa y.sb λ_=>.zero⟩
def FU (bl:List VB) (it:Nat):Option TC:=match bl[it]?with
 |some ⟨_,⟨143,(0,0)⟩,tc⟩=>vP tc
 |_=>none
theorem VS {ids:List Nat} {bl:List VB} {w:World} (hm:Mem ids bl w) {it:Nat} {y:TC} (h:FU bl it=some y):w.heap[ids.getD it 0]?=some (.cells (jd (aK y).aA (aK y).az y.b y.m) 143 (0,0)):=by
 unfold FU at h;split at h
 ·rename_i wr tc hb;obtain rfl:=j7 h;have h1:=hm.2 it _ hb;have e:(af ids (bU y)).toArray=jd (aK y).aA (aK y).az y.b y.m:=by kernel_rfl
  rw[<-e];exact h1
 ·cases h
def Tt (y:TC):Nat->Sd.br
 |0=>y.s0
 |1=>y.sa
 |_=>y.sb
def FV:Int->Option Nat
 |.ofNat 1=>some 0
 |.ofNat 2=>some 1
 |.ofNat 3=>some 2
 |_=>none
theorem uk {s:Int} {i:Nat} (h:FV s=some i):s=.ofNat (i+1)/\i<3:=by
 unfold FV at h;split at h<;>first|cases h;exact⟨rfl,by omega⟩|cases h
def tE (b:Bool) (y:TC):List VB:=[⟨b,⟨143,(0,0)⟩,bU y⟩]
theorem Au {s:Int} (h:FV s=none):s<1\/3<s:=by
 rcases(by omega:s=1\/s=2\/s=3\/s<1\/3<s)with rfl|rfl|rfl|h|h
 ·cases h
 ·cases h
 ·cases h
 ·exact .inl h
 ·exact .inr h
def K3:QF:=⟨60,λargs bl=>match args with
 |[.ptr it 0,.int .i64 s]=>(match FU bl it with
  |some y=>(match FV s with
   |some i=>(match(Tt y i).on with
    |true=>some (True,.ptr it (3+39*i))
    |false=>some (True,.raw (.pointer none)))
   |none=>none)
  |none=>none)
 |_=>none⟩
def qP:QF:=⟨60,λargs bl=>match args with
 |[.ptr it 0,.int .i64 s]=>some (s<1\/3<s,.raw (.pointer none))
 |_=>none⟩
theorem PK (y:TC) (K:VK Empty):∀i:Nat,i<3->uj [] 30 60 [.ptr 0 0,.int .i64 (.ofNat (i+1))] (tE false y) K=cond (!(Tt y i).on) (K (.raw (.pointer none)) (tE false y) []) (K (.ptr 0 (3+39*i)) (tE false y) [])
 |0,_=>by kernel_rfl
 |1,_=>by kernel_rfl
 |2,_=>by kernel_rfl
 |n+3,h=>absurd h (by omega)
theorem VT (b:Nat) (s:Int) (X:V->Prop):jh prog [] 30 60 [.raw (.pointer (some ⟨b,0,none⟩)),.int .i64 s] X=cond (decide (s<1)) (X (.raw (.pointer none))) (cond (decide (s>3)) (X (.raw (.pointer none))) False):=by kernel_rfl
theorem Av {ids:List Nat} {bl:List VB} {w:World} (hm:Mem ids bl w) {it:Nat} {y:TC} (h:FU bl it=some y):w.heap[ids.getD it 0]?=some (.cells (af [] (bU y)).toArray 143 (0,0)):=by
 rw[VS hm h];have e:(af [] (bU y)).toArray=jd (aK y).aA (aK y).az y.b y.m:=by kernel_rfl
 rw[e]
theorem VU (gl:Nat->Option Nat):K3.Ok prog gl:=by
 intro args bl p_ v_ h hp ids w _ hm;unfold K3 at h;dsimp only at h;split at h
 ·rename_i it s;split at h
  ·rename_i y hy;have hT:=Av hm hy;split at h
   ·rename_i i hi;obtain⟨rfl,h3⟩:=uk hi;split at h
    ·rename_i ho;simp only[Option.some.injEq,Prod.mk.injEq]at h;obtain⟨rfl,rfl⟩:=h;refine told (pk aW.nil (n:=30) (args:=[.ptr 0 0,.int .i64 (.ofNat (i+1))]) (v:=.ptr 0 (3+39*i)) (T:=⟨143,(0,0)⟩) ?_ hT rfl rfl);show uj [] 30 60 [.ptr 0 0,.int .i64 (.ofNat (i+1))] (tE false y) _;rw[PK y _ i h3,ho];rfl
    ·rename_i ho;simp only[Option.some.injEq,Prod.mk.injEq]at h;obtain⟨rfl,rfl⟩:=h;refine told (pk aW.nil (n:=30) (args:=[.ptr 0 0,.int .i64 (.ofNat (i+1))]) (v:=.raw (.pointer none)) (T:=⟨143,(0,0)⟩) ?_ hT rfl rfl);show uj [] 30 60 [.ptr 0 0,.int .i64 (.ofNat (i+1))] (tE false y) _;rw[PK y _ i h3,ho];rfl
   ·cases h
  ·cases h
 ·cases h
theorem PL (gl:Nat->Option Nat):qP.Ok prog gl:=by
 intro args bl p_ v_ h hp ids w _ hm;unfold qP at h;dsimp only at h;split at h
 ·rename_i it s;simp only[Option.some.injEq,Prod.mk.injEq]at h;obtain⟨rfl,rfl⟩:=h;refine told (oQ aW.nil 30 (args:=[.raw (.pointer (some ⟨ids.getD it 0,0,none⟩)),.int .i64 s]) (v:=.raw (.pointer none)) ?_ rfl rfl [] w);show jh prog [] 30 60 _ _;rw[VT];refine aO (λh=>rfl) (λh=>aO (λh=>rfl) λh'=>?_);simp only[decide_eq_false_iff_not]at h h';omega
 ·cases h
theorem PM:aW prog (λ_=>none) [qP]:=aW.cons (PL _) aW.nil
theorem agi (y:TC) (K:VK Empty):∀i:Nat,i<3->uj [] 30 33 [.ptr 0 0,.int .i64 (.ofNat (i+1))] (tE false y) K=cond (!(Tt y i).on) (K (.bool false) (tE false y) []) (K (.bool true) (tE false y) [])
 |0,_=>by kernel_rfl
 |1,_=>by kernel_rfl
 |2,_=>by kernel_rfl
 |n+3,h=>absurd h (by omega)
theorem ach (y:TC) (s:Int) (K:VK Empty):uj [qP] 30 33 [.ptr 0 0,.int .i64 s] (tE false y) K=cond (s==4) (K (.bool true) (tE false y) []) (cond (s==0) (K (.bool y.s1) (tE false y) []) ((s<1\/3<s)/\K (.bool false) (tE false y) [])):=by kernel_rfl
theorem VV (y:TC) (K:VK Empty):∀i:Nat,i<3->uj [] 30 34 [.ptr 0 0,.int .i64 (.ofNat (i+1))] (tE false y) K=cond (!(Tt y i).on) (K (.int .i64 0) (tE false y) []) (K (.int .i64 (Tt y i).role) (tE false y) [])
 |0,_=>by kernel_rfl
 |1,_=>by kernel_rfl
 |2,_=>by kernel_rfl
 |n+3,h=>absurd h (by omega)
theorem PN (y:TC) (s:Int) (K:VK Empty):uj [qP] 30 34 [.ptr 0 0,.int .i64 s] (tE false y) K=((s<1\/3<s)/\K (.int .i64 0) (tE false y) []):=by kernel_rfl
theorem um (y:TC):∀i:Nat,i<3->(aK y).fq (.ofNat (i+1))=(Tt y i).on
 |0,_=>rfl
 |1,_=>rfl
 |2,_=>rfl
 |n+3,h=>absurd h (by omega)
theorem Aw (t:Sd.Tab) {s:Int} (h:s<1\/3<s):t.fq s=false:=by
 unfold Sd.Tab.fq;have:(decide (1<=s)&&decide (s<=3))=false:=by simp;omega
 rw[this];rfl
theorem aci (y:TC):∀i:Nat,i<3->(aK y).az ((Int.ofNat (i+1)).toNat-1)=Tt y i
 |0,_=>rfl
 |1,_=>rfl
 |2,_=>rfl
 |n+3,h=>absurd h (by omega)
theorem agj (y:TC):∀i:Nat,i<3->(aK y).on (.ofNat (i+1))=(Tt y i).on
 |0,_=>rfl
 |1,_=>rfl
 |2,_=>rfl
 |n+3,h=>absurd h (by omega)
theorem ajn (y:TC) (s:Int) {bt:Nat} {w:World} (hT:w.heap[bt]?=some (.cells (af [] (bU y)).toArray 143 (0,0))):ak prog 33 (aq [bt] [.ptr 0 0,.int .i64 s]).toArray w λx w1=>x=den [bt] (.bool ((aK y).on s))/\Ch [] w w1:=by
 cases h:FV s with
 |some i=>
  obtain⟨rfl,h3⟩:=uk h;refine pk aW.nil (n:=30) (T:=⟨143,(0,0)⟩) ?_ hT rfl rfl;show uj [] 30 33 [.ptr 0 0,.int .i64 (.ofNat (i+1))] (tE false y) _;rw[agi y _ i h3,agj y i h3];exact aO (λh=>by simp at h;rw[h]) (λh=>by simp at h;rw[h])
 |none=>
  have hs:=Au h;refine pk PM (n:=30) (T:=⟨143,(0,0)⟩) ?_ hT rfl rfl;show uj [qP] 30 33 [.ptr 0 0,.int .i64 s] (tE false y) _;rw[ach];unfold Sd.Tab.on;rw[Aw _ hs];refine aO (λh=>?_) (λh=>aO (λh'=>?_) λh'=>⟨hs,?_⟩)
  ·rw[if_pos (by simpa using h)]
  ·rw[if_neg (by simpa using h),if_pos (by simpa using h')];rfl
  ·rw[if_neg (by simpa using h),if_neg (by simpa using h')]
theorem acj (y:TC) (s:Int) {bt:Nat} {w:World} (hT:w.heap[bt]?=some (.cells (af [] (bU y)).toArray 143 (0,0))):ak prog 34 (aq [bt] [.ptr 0 0,.int .i64 s]).toArray w λx w1=>x=den [bt] (.int .i64 ((aK y).role s))/\Ch [] w w1:=by
 unfold Sd.Tab.role;cases h:FV s with
 |some i=>
  obtain⟨rfl,h3⟩:=uk h;refine pk aW.nil (n:=30) (T:=⟨143,(0,0)⟩) ?_ hT rfl rfl;show uj [] 30 34 [.ptr 0 0,.int .i64 (.ofNat (i+1))] (tE false y) _;rw[VV y _ i h3,um y i h3,aci y i h3];exact aO (λh=>by simp at h;rw[h];rfl) (λh=>by simp at h;rw[h];rfl)
 |none=>
  have hs:=Au h;refine pk PM (n:=30) (T:=⟨143,(0,0)⟩) ?_ hT rfl rfl;show uj [qP] 30 34 [.ptr 0 0,.int .i64 s] (tE false y) _;rw[PN,Aw _ hs];exact⟨hs,rfl⟩
def qon:QF:=⟨33,λargs bl=>match args with
 |[.ptr it 0,.int .i64 s]=>(match FU bl it with|some y=>some (True,.bool ((aK y).on s))|none=>none)
 |_=>none⟩
theorem ack (gl:Nat->Option Nat):qon.Ok prog gl:=by
 intro args bl p_ v_ h hp ids w _ hm;unfold qon at h;dsimp only at h;split at h
 ·rename_i it s;split at h
  ·rename_i y hy;simp only[Option.some.injEq,Prod.mk.injEq]at h;obtain⟨rfl,rfl⟩:=h;exact told (ajn y s (Av hm hy))
  ·cases h
 ·cases h
def PO:QF:=⟨34,λargs bl=>match args with
 |[.ptr it 0,.int .i64 s]=>(match FU bl it with|some y=>some (True,.int .i64 ((aK y).role s))|none=>none)
 |_=>none⟩
theorem PQ (gl:Nat->Option Nat):PO.Ok prog gl:=by
 intro args bl p_ v_ h hp ids w _ hm;unfold PO at h;dsimp only at h;split at h
 ·rename_i it s;split at h
  ·rename_i y hy;simp only[Option.some.injEq,Prod.mk.injEq]at h;obtain⟨rfl,rfl⟩:=h;exact told (acj y s (Av hm hy))
  ·cases h
 ·cases h
def zS:List V:=.bool false::.int .i64 0::.int .i64 0::.int .i64 0::(ln [.int .u8 0] 32++[.bool false,.int .i64 0,.int .u64 0])
def Y_ (y:TC) (i:Nat) (x:List V):List V:=.bool y.s1::.int .i64 y.sn::.int .i64 y.sm::((bif Nat.beq i 0 then x else sH y.s0)++((bif Nat.beq i 1 then x else sH y.sa)++((bif Nat.beq i 2 then x else sH y.sb)++[.int .i64 y.b,.int .i64 y.m])))
def wE (l:List V):List VB:=[⟨true,⟨143,(0,0)⟩,l⟩]
theorem acm (y:TC) (K:VK Empty):∀i:Nat,i<3->uj [] 30 175 [.ptr 0 0,.int .i64 (.ofNat (i+1))] (tE true y) (du 1 K)=cond (!(Tt y i).on) (K (.bool false) (tE true y) []) (K (.bool true) (wE (Y_ y i zS)) [])
 |0,_=>by kernel_rfl
 |1,_=>by kernel_rfl
 |2,_=>by kernel_rfl
 |n+3,h=>absurd h (by omega)
theorem VW (y:TC) (s:Int) (K:VK Empty):uj [qP] 30 175 [.ptr 0 0,.int .i64 s] (tE true y) (du 1 K)=((s<1\/3<s)/\K (.bool false) (tE true y) []):=by kernel_rfl
theorem exE (y:TC):∀i:Nat,i<3->aL [0] 0 ⟨true,⟨143,(0,0)⟩,Y_ y i zS⟩=⟨0,true,.cells (jd ((aK y).eU ((Int.ofNat (i+1)).toNat-1) .zero).aA ((aK y).eU ((Int.ofNat (i+1)).toNat-1) .zero).az y.b y.m) 143 (0,0)⟩
 |0,_=>by kernel_rfl
 |1,_=>by kernel_rfl
 |2,_=>by kernel_rfl
 |n+3,h=>absurd h (by omega)
theorem uo (y:TC):aL [0] 0 ⟨true,⟨143,(0,0)⟩,bU y⟩=⟨0,true,.cells (jd (aK y).aA (aK y).az y.b y.m) 143 (0,0)⟩:=by kernel_rfl
theorem Ax (y:TC) (bt:Nat):aL [bt] bt ⟨true,⟨143,(0,0)⟩,bU y⟩=⟨bt,true,.cells (jd (aK y).aA (aK y).az y.b y.m) 143 (0,0)⟩:=by kernel_rfl
theorem agk (y:TC):∀i:Nat,cG 0 (Y_ y i zS)=true
 |0=>by kernel_rfl
 |1=>by kernel_rfl
 |2=>by kernel_rfl
 |n+3=>by kernel_rfl
theorem agl (y:TC) (s:Int) {bt:Nat} {bs:List ax} {ms:List Nat} {w0 w:World} (S:St ms w0 ([⟨bt,true,.cells (jd (aK y).aA (aK y).az y.b y.m) 143 (0,0)⟩]++bs) w):
 ak prog 175 (aq [bt] [.ptr 0 0,.int .i64 s]).toArray w λu w1=>u=den [] (.bool ((aK y).fq s))/\St ms w0 ([⟨bt,true,.cells (jd ((aK y).end_ s).aA ((aK y).end_ s).az y.b y.m) 143 (0,0)⟩]++bs) w1:=by
 rw[<-Ax]at S;unfold Sd.Tab.end_;cases h:FV s with
 |some i=>
  obtain⟨rfl,h3⟩:=uk h;refine At aW.nil (n:=30) (B0:=⟨true,⟨143,(0,0)⟩,bU y⟩) ?_ rfl S;show uj [] 30 175 [.ptr 0 0,.int .i64 (.ofNat (i+1))] (tE true y) _;rw[acm y _ i h3,um y i h3];refine aO (λh=>?_) (λh=>?_)
  ·simp only[Bool.not_eq_true']at h;rw[h];exact⟨rfl,_,rfl,uo y,rfl⟩
  ·simp only[Bool.not_eq_false']at h;rw[h];exact⟨rfl,_,rfl,exE y i h3,agk y i⟩
 |none=>
  have hs:=Au h;refine At PM (n:=30) (B0:=⟨true,⟨143,(0,0)⟩,bU y⟩) ?_ rfl S;show uj [qP] 30 175 [.ptr 0 0,.int .i64 s] (tE true y) _;rw[VW,Aw _ hs];exact⟨hs,rfl,_,rfl,uo y,rfl⟩
def smL (y:TC):List V:=.bool true::.int .i64 0::.int .i64 (if 0>y.b then 0 else y.b)::(sH y.s0++(sH y.sa++(sH y.sb++[.int .i64 y.b,.int .i64 y.m])))
theorem acn (y:TC) (K:VK Empty):uj [] 30 95 [.ptr 0 0] (tE true y) (du 1 K)=K (.aC []) (wE (smL y)) []:=by kernel_rfl
theorem agm (y:TC) (hb:0<=y.b/\y.b<=1000) {bt:Nat} {bs:List ax} {ms:List Nat} {w0 w:World} (S:St ms w0 ([⟨bt,true,.cells (jd (aK y).aA (aK y).az y.b y.m) 143 (0,0)⟩]++bs) w):
 ak prog 95 (aq [bt] [.ptr 0 0]).toArray w λu w1=>u=den [] (.aC [])/\St ms w0 ([⟨bt,true,.cells (jd (true,.start y.b) (aK y).az y.b y.m) 143 (0,0)⟩]++bs) w1:=by
 rw[<-Ax]at S;refine At aW.nil (n:=30) (B0:=⟨true,⟨143,(0,0)⟩,bU y⟩) ?_ rfl S;show uj [] 30 95 [.ptr 0 0] (tE true y) _;rw[acn];refine⟨rfl,_,rfl,?_,rfl⟩;have q:aL [0] 0 ⟨true,⟨143,(0,0)⟩,smL y⟩=⟨0,true,.cells (jd (true,⟨0,if 0>y.b then 0 else y.b⟩) (aK y).az y.b y.m) 143 (0,0)⟩:=by kernel_rfl
 rw[q,mM]
def ym:QF:=⟨170,λargs bl=>match args with
 |[.ptr it 0]=>(match FU bl it with
  |some y=>some (True,.int .i64 ((aK y).many))
  |none=>none)
 |_=>none⟩
theorem VY (y:TC) (K:VK Empty):uj [] 30 170 [.ptr 0 0] (tE false y) K=
 let k:Int->Prop:=λn=>K (.int .i64 n) (tE false y) []
 cond y.s0.on (cond y.sa.on (cond y.sb.on (k 3) (k 2)) (cond y.sb.on (k 2) (k 1))) (cond y.sa.on (cond y.sb.on (k 2) (k 1)) (cond y.sb.on (k 1) (k 0))):=by kernel_rfl
theorem PR (gl:Nat->Option Nat):ym.Ok prog gl:=by
 intro args bl p_ v_ h hp ids w _ hm;unfold ym at h;dsimp only at h;split at h
 ·rename_i it;split at h
  ·rename_i y hy;simp only[Option.some.injEq,Prod.mk.injEq]at h;obtain⟨rfl,rfl⟩:=h;refine told (pk aW.nil (n:=30) (args:=[.ptr 0 0]) (v:=.int .i64 ((aK y).many)) (T:=⟨143,(0,0)⟩) ?_ (Av hm hy) rfl rfl);show uj [] 30 170 [.ptr 0 0] (tE false y) _;rw[VY];have e:(aK y).many=(if y.s0.on then 1 else 0)+(if y.sa.on then 1 else 0)+(if y.sb.on then 1 else 0):=rfl;rw[e];cases y.s0.on<;>cases y.sa.on<;>cases y.sb.on<;>rfl
  ·cases h
 ·cases h
theorem agn:aW prog (λ_=>none) [K3,ym]:=aW.cons (VU _) (aW.cons (PR _) aW.nil)
def onS (k:Sd.br) (o:Bool):Sd.br:=⟨o,k.aN,k.role,k.key,k.seen⟩
def onY (y:TC) (i:Nat) (o:Bool):TC:=match i with
 |0=>{y with s0:=onS y.s0 o}
 |1=>{y with sa:=onS y.sa o}
 |_=>{y with sb:=onS y.sb o}
def nS (b r:Int) (key:Nat->Int):List V:=[.bool true,.int .i64 0,.int .i64 (if 0>b then 0 else b),.int .i64 r,.dS .u8 32 key,.bool false,.int .i64 0,.int .u64 0]
def stX (y:TC) (r:Int) (K:VK Empty) (X:Prop):Prop:=cond (decide (r<0)) (K (.int .i64 1) (tE true y) []) (cond (decide (r>=4)) (K (.int .i64 1) (tE true y) []) X)
theorem ago (y:TC) (r:Int) (key:Nat->Int) (K:VK Empty):∀i:Nat,i<3->
 uj [K3,ym] 60 132 [.ptr 0 0,.int .i64 (.ofNat (i+1)),.int .i64 r,.agg [.dS .u8 32 key]] (tE true (onY y i true)) (du 1 K)=stX (onY y i true) r K (True/\K (.int .i64 0) (wE (Y_ y i (nS y.b r key))) [])/\
 uj [K3,ym] 60 132 [.ptr 0 0,.int .i64 (.ofNat (i+1)),.int .i64 r,.agg [.dS .u8 32 key]] (tE true (onY y i false)) (du 1 K)=stX (onY y i false) r K (True/\True/\cond (decide ((aK (onY y i false)).many>=y.m)) (K (.int .i64 19) (tE true (onY y i false)) []) (K (.int .i64 0) (wE (Y_ y i (nS y.b r key))) []))
 |0,_=>⟨by kernel_rfl,by kernel_rfl⟩
 |1,_=>⟨by kernel_rfl,by kernel_rfl⟩
 |2,_=>⟨by kernel_rfl,by kernel_rfl⟩
 |n+3,h=>absurd h (by omega)
theorem exN (y:TC) (r:Int) (key:Nat->Int):∀i:Nat,i<3->aL [0] 0 ⟨true,⟨143,(0,0)⟩,Y_ y i (nS y.b r key)⟩=⟨0,true,.cells (jd ((aK y).eU ((Int.ofNat (i+1)).toNat-1) ⟨true,⟨0,if 0>y.b then 0 else y.b⟩,r,key,⟨false,0,0⟩⟩).aA ((aK y).eU ((Int.ofNat (i+1)).toNat-1) ⟨true,⟨0,if 0>y.b then 0 else y.b⟩,r,key,⟨false,0,0⟩⟩).az y.b y.m) 143 (0,0)⟩/\cG 0 (Y_ y i (nS y.b r key))=true
 |0,_=>⟨by kernel_rfl,by kernel_rfl⟩
 |1,_=>⟨by kernel_rfl,by kernel_rfl⟩
 |2,_=>⟨by kernel_rfl,by kernel_rfl⟩
 |n+3,h=>absurd h (by omega)
theorem aco (y:TC):∀i:Nat,i<3->∃o,(Tt y i).on=o/\y=onY y i o
 |0,_=>⟨_,rfl,rfl⟩
 |1,_=>⟨_,rfl,rfl⟩
 |2,_=>⟨_,rfl,rfl⟩
 |n+3,h=>absurd h (by omega)
theorem Ay (y:TC) (i:Nat) (h3:i<3) (r:Int) (key:Nat->Int) (p:Sd.Pol) (e1:p.bR=y.b) (e2:p.bz=y.m) {bt:Nat} {bs:List ax} {ms:List Nat} {w0 w:World} (S:St ms w0 ([⟨bt,true,.cells (jd (aK y).aA (aK y).az y.b y.m) 143 (0,0)⟩]++bs) w):
 ak prog 132 (aq [bt] [.ptr 0 0,.int .i64 (.ofNat (i+1)),.int .i64 r,.agg [.dS .u8 32 key]]).toArray w λu w1=>u=den [] (.int .i64 (Sd.Tab.bu p (aK y) (.ofNat (i+1)) r key).2)/\
  St ms w0 ([⟨bt,true,.cells (jd (Sd.Tab.bu p (aK y) (.ofNat (i+1)) r key).1.aA (Sd.Tab.bu p (aK y) (.ofNat (i+1)) r key).1.az y.b y.m) 143 (0,0)⟩]++bs) w1:=by
 obtain⟨o,ho,hy⟩:=aco y i h3;rw[<-Ax]at S;refine At (args:=[.ptr 0 0,.int .i64 (.ofNat (i+1)),.int .i64 r,.agg [.dS .u8 32 key]]) (v:=.int .i64 (Sd.Tab.bu p (aK y) (.ofNat (i+1)) r key).2) (wr:=true) (o:=.cells (jd (Sd.Tab.bu p (aK y) (.ofNat (i+1)) r key).1.aA (Sd.Tab.bu p (aK y) (.ofNat (i+1)) r key).1.az y.b y.m) 143 (0,0)) agn (n:=60) (B0:=⟨true,⟨143,(0,0)⟩,bU y⟩) ?_ rfl S;generalize hK:(λ(x:V) (b:List VB) (_:List Empty)=>x=V.int i64 (Sd.Tab.bu p (aK y) (Int.ofNat (i+1)) r key).2/\∃B,b=[B]/\aL [0] 0 B=⟨0,true,.cells (jd (Sd.Tab.bu p (aK y) (Int.ofNat (i+1)) r key).1.aA (Sd.Tab.bu p (aK y) (Int.ofNat (i+1)) r key).1.az y.b y.m) 143 (0,0)⟩/\cG 0 B.c=true)=K;show uj [K3,ym] 60 132 [.ptr 0 0,.int .i64 (.ofNat (i+1)),.int .i64 r,.agg [.dS .u8 32 key]] (tE true y) (du 1 K);have hN:=exN y r key i h3;have hi:(Int.ofNat (i+1))=(i:Int)+1:=rfl;have k1:r<0\/4<=r->K (.int .i64 1) (tE true y) []:=λh=>by
  rw[<-hK];have e:Sd.Tab.bu p (aK y) (Int.ofNat (i+1)) r key=(aK y,1):=by unfold Sd.Tab.bu;rw[if_pos (by omega)]
  rw[e];exact⟨rfl,_,rfl,uo y,rfl⟩
 have k0:0<=r->r<4->o=true\/¬y.m<=(aK y).many->K (.int .i64 0) (wE (Y_ y i (nS y.b r key))) []:=λh h' h4=>by
  rw[<-hK];have e:Sd.Tab.bu p (aK y) (Int.ofNat (i+1)) r key=((aK y).eU ((Int.ofNat (i+1)).toNat-1) ⟨true,⟨0,if 0>y.b then 0 else y.b⟩,r,key,⟨false,0,0⟩⟩,0):=by
   unfold Sd.Tab.bu;rw[if_neg (by omega),if_neg,e1,mM];rw[um y i h3,ho,e2];rintro⟨rfl,h5⟩;exact h4.elim (λh=>nomatch h) λh=>h h5
  rw[e];exact⟨rfl,_,rfl,hN.1,hN.2⟩
 have k2:0<=r->r<4->o=false->y.m<=(aK y).many->K (.int .i64 19) (tE true y) []:=λh h' h4 h5=>by
  rw[<-hK];have e:Sd.Tab.bu p (aK y) (Int.ofNat (i+1)) r key=(aK y,19):=by
   unfold Sd.Tab.bu;rw[if_neg (by omega),if_pos];rw[um y i h3,ho,e2];exact⟨h4,h5⟩
  rw[e];exact⟨rfl,_,rfl,uo y,rfl⟩
 have ng:=ago y r key K i h3;cases o with
 |true=>
  have hv:=ng.1;rw[<-hy]at hv;rw[hv];unfold stX;refine aO (λh=>k1 (.inl (by simpa using h))) (λh=>aO (λh'=>k1 (.inr (by simpa using h'))) λh'=>⟨trivial,?_⟩);exact k0 (by simpa using h) (by simpa using h') (.inl rfl)
 |false=>
  have hv:=ng.2;rw[<-hy]at hv;rw[hv];unfold stX;refine aO (λh=>k1 (.inl (by simpa using h))) (λh=>aO (λh'=>k1 (.inr (by simpa using h'))) λh'=>⟨trivial,trivial,aO (λh5=>?_) λh5=>?_⟩)
  ·exact k2 (by simpa using h) (by simpa using h') rfl (by simpa using h5)
  ·exact k0 (by simpa using h) (by simpa using h') (.inr (by simpa using h5))
variable{fr:Sd.Reply->Nat×Sd.Byt}
def Az:QF:=⟨48,λargs _=>match args with
 |[.int .i64 l]=>some (True,.bool (Sd.linked l))
 |_=>none⟩
theorem K4 (l:Int) (X:V->Prop):jh prog [] 20 48 [.int .i64 l] X=(cond (decide (l>=1)) (X (.bool (decide (l<=3)))) (X (.bool false))):=by kernel_rfl
theorem FW (gl:Nat->Option Nat):Az.Ok prog gl:=by
 intro args bl p_ v_ h hp ids w _ _;unfold Az at h;dsimp only at h;split at h
 ·rename_i l;simp only[Option.some.injEq,Prod.mk.injEq]at h;obtain⟨rfl,rfl⟩:=h;refine oQ aW.nil 20 ?_ rfl rfl ids w;show jh prog [] 20 48 _ _;rw[K4];have e:Sd.linked l=(decide (l>=1)&&decide (l<=3)):=rfl;refine aO (λh=>?_) (λh=>?_)
  ·rw[e,h];rfl
  ·rw[e,h];rfl
 ·cases h
theorem vT (t:Sd.Tab) (s:Int):(dh t).fq s=t.fq s:=by
 unfold Sd.Tab.fq;by_cases h1:1<=s
 ·by_cases h2:s<=3
  ·have:s=1\/s=2\/s=3:=by omega
   rcases this with rfl|rfl|rfl<;>rfl
  ·simp[h2]
 ·simp[h1]
theorem acp (t:Sd.Tab) (s:Int):(dh t).on s=t.on s:=by
 unfold Sd.Tab.on;rw[vT];rfl
theorem acq (t:Sd.Tab) (s:Int):(dh t).role s=t.role s:=by
 unfold Sd.Tab.role;rw[vT];by_cases h:t.fq s=true
 ·rw[if_pos h,if_pos h];unfold Sd.Tab.fq at h;simp only[Bool.and_eq_true,decide_eq_true_eq]at h;have:s=1\/s=2\/s=3:=by omega
  rcases this with rfl|rfl|rfl<;>rfl
 ·rw[if_neg h,if_neg h]
def cw.bI {d:FD} (F:cw fr d) (q:List Sd.Ask) (B:List ax) (h:QS d.k.bq d.k.most q B):cw fr {d with q:=q}:={F with Bq:=B,hq:=h}
def vq (k:LK):Value:=.pointer (some ⟨k.bq,0,none⟩)
structure QG where
 f:Nat
 pos:Nat
 m:List V->Int->List Sd.Ask->Option (Prop×V×List Sd.Ask)
def ghC (x:QG):gZ (Gh fr):=λargs bl ch K=>match ch with
 |g::rest=>(match args[x.pos]?with
  |some (.raw vp)=>(match x.m (args.eraseIdx x.pos) g.d.k.most g.d.q with
   |some (p,v,q')=>cond (cG 0 args&&fu 0 v) ((vp=vq g.d.k/\p)/\∀B (h:QS g.d.k.bq g.d.k.most q' B),K v bl (⟨{g.d with q:=q'},g.dx,g.sx,g.F.bI q' B h⟩::rest)) False
   |none=>False)
  |_=>False)
 |[]=>False
def QG.Ok (x:QG):Prop:=∀(args:List V) (k:LK) (q:List Sd.Ask) (p:Prop) (v:V) (q':List Sd.Ask),args[x.pos]?=some (.raw (vq k))->x.m (args.eraseIdx x.pos) k.most q=some (p,v,q')->p->∀(B:List ax),QS k.bq k.most q B->∀(bs:List ax) (ms:List Nat) (w0 w:World),St ms w0 (B++bs) w->
 ak prog x.f (aq [] args).toArray w λy w1=>∃B',y=den [] v/\QS k.bq k.most q' B'/\St ms w0 (B'++bs) w1
theorem tQ {d:FD} (F:cw fr d):F.B=F.Br++(F.Bs++(F.Bf++(F.Bq++F.Bk))):=rfl
theorem pr (A a b c q e R:List ax):(A++((a++(b++(c++(q++e))))++R)).Perm (q++(A++(a++(b++(c++(e++R)))))):=by
 have h:(A++((a++(b++(c++(q++e))))++R))=(A++(a++(b++c)))++(q++(e++R)):=by simp[List.append_assoc]
 have h2:(q++(A++(a++(b++(c++(e++R))))))=q++((A++(a++(b++c)))++(e++R)):=by simp[List.append_assoc]
 rw[h,h2,<-List.append_assoc,<-List.append_assoc q];exact List.Perm.append_right _ List.perm_append_comm
theorem PS {x:QG} (h:x.Ok) (gl:Nat->Option Nat):Sound prog gl x.f (ghC (fr:=fr) x):=by
 intro args ids bl ch R ms w0 w K hg hl S hc;unfold ghC at hc;split at hc
 ·rename_i g rest;split at hc
  ·rename_i vp hvp;split at hc
   ·rename_i p v q' hm;cases hq:cG 0 args&&fu 0 v with
    |false=>rw[hq]at hc;exact hc.elim
    |true=>
     rw[hq]at hc;simp only[Bool.and_eq_true]at hq;obtain⟨⟨rfl,hp⟩,hK⟩:=hc;have a1:aq ids args=aq [] args:=by have:=dI (ids:=[]) (more:=ids) args hq.1;simpa using this
     have e0:ag (g::rest) R=g.F.B++ag rest R:=rfl;rw[e0,tQ]at S;rw[a1];refine(h args g.d.k g.d.q p v q' hvp hm hp _ g.F.hq _ ms w0 w (S.perm (pr _ _ _ _ _ _ _))).mono ?_;rintro y w1 ⟨B',rfl,hB,S1⟩;refine⟨v,[],bl,_,?_,by simpa using hl,?_,hK B' hB⟩
     ·have:=bx (ids:=[]) (more:=ids++[]) v hq.2;simpa using this.symm
     ·have e1:ag (⟨{g.d with q:=q'},g.dx,g.sx,g.F.bI q' B' hB⟩::rest:List (Gh fr)) R=(g.F.Br++(g.F.Bs++(g.F.Bf++(B'++g.F.Bk))))++ag rest R:=rfl;rw[e1,List.append_nil];exact S1.perm (pr _ _ _ _ _ _ _).symm
   ·exact hc.elim
  ·exact hc.elim
 ·exact hc.elim
theorem AA {x:QG} (h:x.Ok):oq (G:=Gh fr) prog gS ⟨x.f,false,ghC x⟩:=⟨PS h gS,λe=>by cases e⟩
def Ij:QG:=⟨102,0,λargs _ q=>match args with
 |[.int .i64 s]=>some (True,.bool (Sd.Q.waits q s),Sd.Q.drop q s)
 |_=>none⟩
theorem C3:Ij.Ok:=by
 intro args k q p v q' hv hm hp B hB bs ms w0 w S
 match args,hv,hm with
 |a::l,hv,hm=>
  have ha:a=.raw (vq k):=by simpa[Ij]using hv
  subst ha;replace hm:(match(generalizing:=false) l with
   |[.int .i64 s]=>some (True,V.bool (Sd.Q.waits q s),Sd.Q.drop q s)
   |_=>none)=some (p,v,q'):=hm
  split at hm
  ·simp only[Option.some.injEq,Prod.mk.injEq]at hm;obtain⟨rfl,rfl,rfl⟩:=hm;exact abV _ hB S
  ·cases hm
def gM (a b c d e f:Int):List V:=[.int .i64 a,.int .i64 b,.int .i64 c,.int .i64 d,.int .i64 e,.int .i64 f,.int .u8 0,.int .u8 0,.int .u8 0,.int .u8 0,.int .u8 0,.int .u8 0,.int .u8 0,.int .u8 0]
def acr:List V->Option Sd.Reply
 |.int .i64 a::.int .i64 b::.int .i64 c::.int .i64 d::.int .i64 e::.int .i64 f::l=>(match l with
  |[.dS .u8 8 n]=>some ⟨a,b,c,d,e,f,n⟩
  |[.int .u8 (.ofNat 0),.int .u8 (.ofNat 0),.int .u8 (.ofNat 0),.int .u8 (.ofNat 0),.int .u8 (.ofNat 0),.int .u8 (.ofNat 0),.int .u8 (.ofNat 0),.int .u8 (.ofNat 0)]=>some ⟨a,b,c,d,e,f,λ_=>0⟩
  |_=>none)
 |_=>none
def PT:List V->Option Sd.Reply
 |[.int .i64 a,.int .i64 b,.int .i64 c,.int .i64 d,.int .i64 e,.int .i64 f,.int .u8 (.ofNat 0),.int .u8 (.ofNat 0),.int .u8 (.ofNat 0),.int .u8 (.ofNat 0),.int .u8 (.ofNat 0),.int .u8 (.ofNat 0),.int .u8 (.ofNat 0),.int .u8 (.ofNat 0)]=>some ⟨a,b,c,d,e,f,λ_=>0⟩
 |_=>none
theorem PU {l:List V} {r:Sd.Reply} (h:PT l=some r):∃a b c d e f,l=gM a b c d e f/\r=⟨a,b,c,d,e,f,λ_=>0⟩:=by
 unfold PT at h;split at h
 ·obtain rfl:=Option.some.inj h;exact⟨_,_,_,_,_,_,rfl,rfl⟩
 ·cases h
def Rm (s:Sd.Scene) (n:Nat):Prop:=s.sent.length+n<=1000/\s.recs.length+n<=1000
def N8 (n:Int):Prop:=0<=n/\n<=255
def N4 (n:Int):Prop:=0<=n/\n<=4
def Tu (n:Int):Prop:=0<=n/\n<=65535
def Tv (n:Int):Prop:=0<=n/\n<=4294967295
structure RB (r:Sd.Reply):Prop where
 kind:129<=r.kind/\r.kind<=136
 seq:Tv r.seq/\((r.kind=131\/r.kind=132)\/r.seq=0)
 role:(0<=r.role/\r.role<=3)/\(r.kind=130\/r.role=0)
 iY:N4 r.iY/\((r.kind=130\/r.kind=134\/r.kind=135\/r.kind=136)\/r.iY=0)
 epoch:Tu r.epoch/\((r.kind=130\/r.kind=133\/r.kind=134\/r.kind=135)\/r.epoch=0)
 code:N8 r.code/\((r.kind=132\/r.kind=136)\/r.code=0)
 ab:By r.ab/\(r.kind=129\/r.ab=λ_=>0)
def bM:SM fr:=λar k s F K=>match ar with
 |[.int .i64 l,.agg rl]=>(match acr rl with
  |some r=>(Rm s 1/\RB r)/\∀F',K (.aC []) (s.tell l r) F'
  |none=>False)
 |_=>False
def ow:SM fr:=λar k s F K=>match ar with
 |[.int .i64 l,.agg rl]=>(match PT rl with
  |some r=>(Rm s 1/\RB r)/\∀F',K (.aC []) (s.hear l r) F'
  |none=>False)
 |_=>False
def dQ (C:Sd.Crypt):SM fr:=λar k s F K=>match ar with
 |[.int .i64 l,.int .i64 n,.int .i64 c]=>(Rm s 1/\Tv n/\N8 c)/\∀F',K (.aC []) (s.refuse C l n c) F'
 |_=>False
def iT:SM fr:=λar k s F K=>match ar with
 |[.int .i64 l,.int .i64 n]=>(Rm s 1/\Tv n)/\∀F',K (.aC []) (s.done l n) F'
 |_=>False
def mS:SM fr:=λar k s F K=>match ar with
 |[.int .i64 l,.int .i64 w,.int .i64 c]=>(Rm s 1/\N4 w/\N8 c)/\∀F',K (.aC []) (s.gone l w c) F'
 |_=>False
def L1 (fr:Sd.Reply->Nat×Sd.Byt) (C:Sd.Crypt):List (dF (Gh fr)):=⟨130,false,pj bM⟩::⟨83,false,pj (sL C)⟩::⟨102,false,ghC Ij⟩::qE (Gh fr) Az::qE (Gh fr) qon::qE (Gh fr) PO::L0 fr C
theorem Ik {q:QF} (h:∀gl,q.Ok prog gl):oq (G:=Gh fr) prog gS (qE (Gh fr) q):=⟨qi (h gS),λ_=>qh q.F⟩
theorem Il (tk:Nat->Sd.Byt->Option Sd.db) (ht:Body (fr:=fr) 130 bM):ah prog gS (L1 fr (aj tk)):=
 ah.cons (cX ht) (ah.cons (cX (C2 tk)) (ah.cons (AA C3) (ah.cons (Ik FW) (ah.cons (Ik ack) (ah.cons (Ik PQ) (Y9 tk))))))
theorem K5 (C:Sd.Crypt) (k:LK) (s:Sd.Scene) (F:cw fr (bV k s)) (Kb:SK fr k) (l n c:Int):cI (dw prog gS (L1 fr C)) 40 128 [.ptr 2 0,.int .i64 l,.int .i64 n,.int .i64 c] (cO k s F) [cx k s F] (aM k s Kb)
 =(eg k s F/\bM [.int .i64 l,.agg (gM 132 n 0 0 0 c)] k (dg s) F λv s1 F1=>eg k s1 F1/\gD C [.int .i64 7,.int .i64 l,.int .i64 n,.int .i64 c,.int .i64 0] k (dg s1) F1 (λv s' F'=>aM k s Kb (.aC []) (cO k s' F') [cx k s' F'])):=by kernel_rfl
theorem VZ (C:Sd.Crypt) (k:LK) (s:Sd.Scene) (F:cw fr (bV k s)) (Kb:SK fr k) (l n:Int):cI (dw prog gS (L1 fr C)) 40 174 [.ptr 2 0,.int .i64 l,.int .i64 n] (cO k s F) [cx k s F] (aM k s Kb)
 =(eg k s F/\bM [.int .i64 l,.agg (gM 131 n 0 0 0 0)] k (dg s) F λv s' F'=>aM k s Kb (.aC []) (cO k s' F') [cx k s' F']):=by kernel_rfl
theorem V0 (C:Sd.Crypt) (k:LK) (s:Sd.Scene) (F:cw fr (bV k s)) (Kb:SK fr k) (l a b c d e f:Int):cI (dw prog gS (L1 fr C)) 40 110 [.ptr 2 0,.int .i64 l,.agg (gM a b c d e f)] (cO k s F) [cx k s F] (aM k s Kb)
 =(True/\cond (Sd.linked l) (True/\cond ((dh s.c.tab).on l) (eg k s F/\bM [.int .i64 l,.agg (gM a b c d e f)] k (dg s) F λv s' F'=>aM k s Kb (.aC []) (cO k s' F'++[⟨true,⟨75,(0,0)⟩,gM a b c d e f⟩]) [cx k s' F']) (aM k s Kb (.aC []) (cO k s F++[⟨true,⟨75,(0,0)⟩,gM a b c d e f⟩]) [cx k s F]))
  (aM k s Kb (.aC []) (cO k s F++[⟨true,⟨75,(0,0)⟩,gM a b c d e f⟩]) [cx k s F])):=by kernel_rfl
theorem by0:By (λ_=>0):=λj=>⟨Int.le_refl 0,by show(0:Int)<=255;decide⟩
theorem rb {a b d e f:Int} (h1:129<=a/\a<=136) (h2:Tv b) (h4:N4 d) (h5:Tu e) (h6:N8 f) (k2:(a=131\/a=132)\/b=0:=by simp) (k4:(a=130\/a=134\/a=135\/a=136)\/d=0:=by simp)
 (k5:(a=130\/a=133\/a=134\/a=135)\/e=0:=by simp) (k6:(a=132\/a=136)\/f=0:=by simp):RB ⟨a,b,0,d,e,f,λ_=>0⟩:=⟨h1,⟨h2,k2⟩,⟨show(0:Int)<=0/\(0:Int)<=3 by decide,.inr rfl⟩,⟨h4,k4⟩,⟨h5,k5⟩,⟨h6,k6⟩,⟨by0,.inr rfl⟩⟩
theorem z4:N4 0:=⟨by decide,by decide⟩
theorem z8:N8 0:=⟨by decide,by decide⟩
theorem z16:Tu 0:=⟨by decide,by decide⟩
theorem V1:Tv 0:=⟨by decide,by decide⟩
theorem aH {k:LK} {s0:Sd.Scene} {Kb:SK fr k} {v:V} {s s':Sd.Scene} (e:s'=s) {bl:List VB} (hK:∀F,Kb v s F) (F':cw fr (bV k s')) (hv:fu 0 v=true:=by rfl) (hp:s'.c.p=s0.c.p:=by rfl) (hb:bl.take 5=cO k s' F':=by kernel_rfl):aM k s0 Kb v bl [cx k s' F']:=by
 subst e;exact⟨s',F',hv,hp,hK F',hb,rfl⟩
section
variable{k:LK} {s:Sd.Scene} {F:cw fr (bV k s)} {K:SK fr k}
theorem AB {l a b c d e f:Int} (h:Rm s 1/\RB ⟨a,b,c,d,e,f,λ_=>0⟩) (hK:∀F',K (.aC []) (s.tell l ⟨a,b,c,d,e,f,λ_=>0⟩) F'):bM [.int .i64 l,.agg (gM a b c d e f)] k (dg s) F K:=by
 have e:bM [.int .i64 l,.agg (gM a b c d e f)] k s F K=((Rm s 1/\RB ⟨a,b,c,d,e,f,λ_=>0⟩)/\∀F',K (.aC []) (s.tell l ⟨a,b,c,d,e,f,λ_=>0⟩) F'):=by kernel_rfl
 exact fc (M:=bM) (e▸⟨h,hK⟩)
theorem uq {l a b c d e f:Int} (h:Rm s 1/\RB ⟨a,b,c,d,e,f,λ_=>0⟩) (hK:∀F',K (.aC []) (s.hear l ⟨a,b,c,d,e,f,λ_=>0⟩) F'):ow [.int .i64 l,.agg (gM a b c d e f)] k (dg s) F K:=by
 have e:ow [.int .i64 l,.agg (gM a b c d e f)] k s F K=((Rm s 1/\RB ⟨a,b,c,d,e,f,λ_=>0⟩)/\∀F',K (.aC []) (s.hear l ⟨a,b,c,d,e,f,λ_=>0⟩) F'):=by kernel_rfl
 exact fc (M:=ow) (e▸⟨h,hK⟩)
theorem fe {C:Sd.Crypt} {a b c d e:Int} (h:s.recs.length<=1000) (hK:∀F',K (.aC []) (s.record C a b c d e) F'):gD C [.int .i64 a,.int .i64 b,.int .i64 c,.int .i64 d,.int .i64 e] k (dg s) F K:=by
 have e:gD C [.int .i64 a,.int .i64 b,.int .i64 c,.int .i64 d,.int .i64 e] k s F K=(s.recs.length<=1000/\∀F',K (.aC []) (s.record C a b c d e) F'):=by kernel_rfl
 exact fc (M:=gD C) (e▸⟨h,hK⟩)
end
theorem C4 (tk:Nat->Sd.Byt->Option Sd.db) (ht:Body (fr:=fr) 130 bM):Body (fr:=fr) 128 (dQ (aj tk)):=by
 refine dy (n:=40) (Il tk ht) ?_;intro ar k s F Kb h0 hq hM;unfold dQ at hM;split at hM
 ·rename_i l n c;have h1:=hM.1.1;have h2:=hM.1.2.1;have h3:=hM.1.2.2;have hK:=hM.2;rw[K5];refine⟨eO hq,AB ⟨h1,rb (by decide) h2 z4 z16 h3⟩ λF1=>⟨eO hq,fe ?_ λF2=>aH rfl hK F2⟩⟩;have:=h1.2;simp only[Sd.Scene.tell];omega
 ·exact hM.elim
theorem K6 (tk:Nat->Sd.Byt->Option Sd.db) (ht:Body (fr:=fr) 130 bM):Body (fr:=fr) 174 iT:=by
 refine dy (n:=40) (Il tk ht) ?_;intro ar k s F Kb h0 hq hM;unfold iT at hM;split at hM
 ·rename_i l n;have h1:=hM.1.1;have h2:=hM.1.2;have hK:=hM.2;rw[VZ];exact⟨eO hq,AB ⟨h1,rb (by decide) h2 z4 z16 z8⟩ λF1=>aH rfl hK F1⟩
 ·exact hM.elim
theorem K7 (tk:Nat->Sd.Byt->Option Sd.db) (ht:Body (fr:=fr) 130 bM):Body (fr:=fr) 110 ow:=by
 refine dy (n:=40) (Il tk ht) ?_;intro ar k s F Kb h0 hq hM;unfold ow at hM;split at hM
 ·rename_i l rl;split at hM
  ·rename_i r hr;obtain⟨a,b,c,d,e,f,rfl,rfl⟩:=PU hr;have h1:=hM.1.1;have h2:=hM.1.2;have hK:=hM.2;rw[V0,acp];refine⟨trivial,aO (λe1=>⟨trivial,aO (λe2=>?_) (λe2=>?_)⟩) (λe1=>?_)⟩
   ·refine⟨eO hq,AB ⟨h1,h2⟩ λF1=>aH ?_ hK F1⟩;simp only[Sd.Scene.hear,e1,e2,Bool.and_self,if_true]
   ·refine aH ?_ hK F;simp[Sd.Scene.hear,e1,e2]
   ·refine aH ?_ hK F;simp[Sd.Scene.hear,e1]
  ·exact hM.elim
 ·exact hM.elim
def L2 (fr:Sd.Reply->Nat×Sd.Byt) (C:Sd.Crypt):List (dF (Gh fr)):=⟨128,false,pj (dQ C)⟩::⟨174,false,pj iT⟩::⟨110,false,pj ow⟩::L1 fr C
theorem Im (tk:Nat->Sd.Byt->Option Sd.db) (ht:Body (fr:=fr) 130 bM):ah prog gS (L2 fr (aj tk)):=
 ah.cons (cX (C4 tk ht)) (ah.cons (cX (K6 tk ht)) (ah.cons (cX (K7 tk ht)) (Il tk ht)))
section
variable(C:Sd.Crypt) (k:LK) (s:Sd.Scene) (F:cw fr (bV k s)) (Kb:SK fr k)
theorem V2 (l n c:Int):cI (dw prog gS (L2 fr C)) 40 67 [.ptr 2 0,.int .i64 l,.int .i64 n,.int .i64 c] (cO k s F) [cx k s F] (aM k s Kb)
 =(eg k s F/\ow [.int .i64 l,.agg (gM 136 0 0 n 0 c)] k (dg s) F λv s' F'=>aM k s Kb (.aC []) (cO k s' F') [cx k s' F']):=by kernel_rfl
theorem V3 (m:Int) (b:Sd.Label):cI (dw prog gS (L2 fr C)) 40 103 [.ptr 2 0,.int .i64 m,.agg (l9 b)] (cO k s F) [cx k s F] (aM k s Kb)
 =(True/\aM k s Kb (.aC []) (cO k (s.dt m b) F++[⟨true,⟨38,(0,0)⟩,l9 b⟩]) [cx k s F]):=by kernel_rfl
def gs1 (s:Sd.Scene) (t:Sd.Tok):Sd.Scene:={s with c:={s.c with t:=t,q:=Sd.Q.drop s.c.q t.holder}}
theorem V4 (t:Sd.Tok) (h n:Int):cI (dw prog gS (L2 fr C)) 60 101 [.ptr 2 0,.agg (cE t),.int .i64 h,.int .i64 n] (cO k s F) [cx k s F] (aM k s Kb)
 =((vq k=vq k/\True)/\∀B (hB:QS k.bq k.most (Sd.Q.drop s.c.q t.holder) B),
  eg k (gs1 s t) (F.bI _ B hB)/\ow [.int .i64 s.c.t.holder,.agg (gM 134 0 0 t.holder t.epoch 0)] k (dg (gs1 s t)) (F.bI _ B hB) λv s2 F2=>
  eg k s2 F2/\ow [.int .i64 t.holder,.agg (gM 133 0 0 0 t.epoch 0)] k (dg s2) F2 λv s3 F3=>
  eg k s3 F3/\gD C [.int .i64 8,.int .i64 t.holder,.int .i64 n,.int .i64 0,.int .i64 h] k (dg s3) F3 λv s' F'=>aM k s Kb (.aC []) (cO k s' F'++[⟨true,⟨88,(0,0)⟩,cE t⟩]) [cx k s' F']):=by kernel_rfl
def qd (s:Sd.Scene) (l:Int):Sd.Scene:={s with c:={s.c with q:=Sd.Q.drop s.c.q l}}
def fA (s:Sd.Scene) (t:Sd.Tok):Sd.Scene:={s with c:={s.c with t:=t}}
end
theorem hear_c (s:Sd.Scene) (l:Int) (r:Sd.Reply):(s.hear l r).c=s.c:=by unfold Sd.Scene.hear;split<;>rfl
theorem hear_recs (s:Sd.Scene) (l:Int) (r:Sd.Reply):(s.hear l r).recs=s.recs:=by unfold Sd.Scene.hear;split<;>rfl
theorem K8 (s:Sd.Scene) (l:Int) (r:Sd.Reply):(s.hear l r).sent.length<=s.sent.length+1:=by unfold Sd.Scene.hear Sd.Scene.tell;split<;>simp
theorem Rm.hear {s:Sd.Scene} {l:Int} {r:Sd.Reply} {n:Nat} (h:Rm s (n+1)):Rm (s.hear l r) n:=by
 have h1:=K8 s l r;have h2:=hear_recs s l r;have:=h.1;have:=h.2
 exact⟨by omega,by rw[h2];omega⟩
theorem Rm.rec {s:Sd.Scene} {C:Sd.Crypt} {a b c d e:Int} {n:Nat} (h:Rm s (n+1)):Rm (s.record C a b c d e) n:=by
 have:=h.1;have:=h.2
 exact⟨by simp only[Sd.Scene.record];omega,by simp only[Sd.Scene.record,List.length_append,List.length_singleton];omega⟩
theorem Rm.le {s:Sd.Scene} {n m:Nat} (h:Rm s n) (hm:m<=n):Rm s m:=⟨by have:=h.1;omega,by have:=h.2;omega⟩
theorem Rm.r1 {s:Sd.Scene} {n:Nat} (h:Rm s n):s.recs.length<=1000:=by have:=h.2;omega
section
variable(tk:Nat->Sd.Byt->Option Sd.db)
include tk
theorem K9 (ht:Body (fr:=fr) 130 bM):Body (fr:=fr) 67 mS:=by
 refine dy (n:=40) (Im tk ht) ?_;intro ar k s F Kb h0 hq hM;unfold mS at hM;split at hM
 ·rename_i l n c;have h1:=hM.1.1;have h2:=hM.1.2.1;have h3:=hM.1.2.2;have hK:=hM.2;rw[V2];exact⟨eO hq,uq ⟨h1,rb (by decide) V1 h2 z16 h3⟩ λF1=>aH rfl hK F1 (hp:=by unfold Sd.Scene.gone;rw[hear_c])⟩
 ·exact hM.elim
def qQ:SM fr:=λar k s F K=>match ar with
 |[.int .i64 m,.agg bl]=>(match O_ bl with
  |some b=>∀F',K (.aC []) (s.dt m b) F'
  |none=>False)
 |_=>False
theorem K_ (ht:Body (fr:=fr) 130 bM):Body (fr:=fr) 103 qQ:=by
 refine dy (n:=40) (Im tk ht) ?_;intro ar k s F Kb h0 hq hM;unfold qQ at hM;split at hM
 ·rename_i m bl;split at hM
  ·rename_i b hb;obtain rfl:=Ae hb;rw[V3 (aj tk)];exact⟨trivial,aH (s':=s.dt m b) rfl hM F⟩
  ·exact hM.elim
 ·exact hM.elim
def kQ (C:Sd.Crypt):SM fr:=λar k s F K=>match ar with
 |[.agg tl,.int .i64 h,.int .i64 n]=>(match kr tl with
  |some t=>(Rm s 4/\N4 t.holder/\Tu t.epoch)/\∀F',K (.aC []) (s.goes C t h n) F'
  |none=>False)
 |_=>False
theorem La (ht:Body (fr:=fr) 130 bM):Body (fr:=fr) 101 (kQ (aj tk)):=by
 refine dy (n:=60) (Im tk ht) ?_;intro ar k s F Kb h0 hq hM;unfold kQ at hM;split at hM
 ·rename_i tl h n;split at hM
  ·rename_i t hb;obtain rfl:=eL hb;have h1:Rm (gs1 s t) 4:=hM.1.1;have h2:=hM.1.2.1;have h3:=hM.1.2.2;have hK:=hM.2;rw[V4];refine⟨⟨rfl,trivial⟩,λB hB=>⟨eO hq,uq ⟨h1.le (by decide),rb (by decide) V1 h2 h3 z8⟩ λF2=>⟨eO ?_,uq ⟨h1.hear.le (by decide),rb (by decide) V1 z4 h3 z8⟩ λF3=>⟨eO ?_,fe h1.hear.hear.r1 λF4=>aH rfl hK F4 (hp:=?_)⟩⟩⟩⟩
   ·rw[hear_c];exact hq
   ·rw[hear_c,hear_c];exact hq
   ·show(Sd.Scene.hear _ _ _).c.p=_;rw[hear_c,hear_c]
  ·exact hM.elim
 ·exact hM.elim
end
def L3 (fr:Sd.Reply->Nat×Sd.Byt) (C:Sd.Crypt):List (dF (Gh fr)):=⟨67,false,pj mS⟩::⟨103,false,pj qQ⟩::⟨101,false,pj (kQ C)⟩::L2 fr C
theorem Za (tk:Nat->Sd.Byt->Option Sd.db) (ht:Body (fr:=fr) 130 bM):ah prog gS (L3 fr (aj tk)):=
 ah.cons (cX (K9 tk ht)) (ah.cons (cX (K_ tk ht)) (ah.cons (cX (La tk ht)) (Im tk ht)))
theorem PV (C:Sd.Crypt) (k:LK) (s:Sd.Scene) (F:cw fr (bV k s)) (Kb:SK fr k) (l:Int):cI (dw prog gS (L3 fr C)) 60 65 [.ptr 2 0,.int .i64 l] (cO k s F) [cx k s F] (aM k s Kb)
 =((vq k=vq k/\True)/\∀B (hB:QS k.bq k.most (Sd.Q.drop s.c.q l) B),True/\cond (!(s.c.t.drop l).2) (aM k s Kb (.aC []) (cO k (qd s l) (F.bI _ B hB)++[⟨true,⟨88,(0,0)⟩,cE (s.c.t.drop l).1⟩]) [cx k (qd s l) (F.bI _ B hB)])
  (eg k (fA (qd s l) (s.c.t.drop l).1) (F.bI _ B hB)/\mS [.int .i64 (s.c.t.drop l).1.holder,.int .i64 l,.int .i64 16] k (dg (fA (qd s l) (s.c.t.drop l).1)) (F.bI _ B hB) λv s2 F2=>
   eg k s2 F2/\gD C [.int .i64 12,.int .i64 l,.int .i64 0,.int .i64 16,.int .i64 0] k (dg s2) F2 λv s' F'=>aM k s Kb (.aC []) (cO k s' F'++[⟨true,⟨88,(0,0)⟩,cE (s.c.t.drop l).1⟩]) [cx k s' F'])):=by kernel_rfl
theorem gone_c (s:Sd.Scene) (l w c:Int):(s.gone l w c).c=s.c:=hear_c _ _ _
theorem gone_recs (s:Sd.Scene) (l w c:Int):(s.gone l w c).recs=s.recs:=hear_recs _ _ _
theorem Rm.gone {s:Sd.Scene} {l w c:Int} {n:Nat} (h:Rm s (n+1)):Rm (s.gone l w c) n:=h.hear
section
variable{k:LK} {s:Sd.Scene} {F:cw fr (bV k s)} {K:SK fr k}
theorem qR {l w c:Int} (h:Rm s 1/\N4 w/\N8 c) (hK:∀F',K (.aC []) (s.gone l w c) F'):mS [.int .i64 l,.int .i64 w,.int .i64 c] k (dg s) F K:=by
 have e:mS [.int .i64 l,.int .i64 w,.int .i64 c] k s F K=((Rm s 1/\N4 w/\N8 c)/\∀F',K (.aC []) (s.gone l w c) F'):=by kernel_rfl
 exact fc (M:=mS) (e▸⟨h,hK⟩)
theorem hJ {l n:Int} (h:Rm s 1/\Tv n) (hK:∀F',K (.aC []) (s.done l n) F'):iT [.int .i64 l,.int .i64 n] k (dg s) F K:=by
 have e:iT [.int .i64 l,.int .i64 n] k s F K=((Rm s 1/\Tv n)/\∀F',K (.aC []) (s.done l n) F'):=by kernel_rfl
 exact fc (M:=iT) (e▸⟨h,hK⟩)
theorem gh {C:Sd.Crypt} {l n c:Int} (h:Rm s 1/\Tv n/\N8 c) (hK:∀F',K (.aC []) (s.refuse C l n c) F'):dQ C [.int .i64 l,.int .i64 n,.int .i64 c] k (dg s) F K:=by
 have e:dQ C [.int .i64 l,.int .i64 n,.int .i64 c] k s F K=((Rm s 1/\Tv n/\N8 c)/\∀F',K (.aC []) (s.refuse C l n c) F'):=by kernel_rfl
 exact fc (M:=dQ C) (e▸⟨h,hK⟩)
theorem vU {C:Sd.Crypt} {l c:Int} (h:s.recs.length<=1000) (hK:∀F',K (.aC []) (s.cW C l c) F'):sL C [.int .i64 l,.int .i64 c] k (dg s) F K:=by
 have e:sL C [.int .i64 l,.int .i64 c] k s F K=(s.recs.length<=1000/\∀F',K (.aC []) (s.cW C l c) F'):=by kernel_rfl
 exact fc (M:=sL C) (e▸⟨h,hK⟩)
theorem lI {C:Sd.Crypt} {t:Sd.Tok} {h n:Int} (hh:Rm s 4/\N4 t.holder/\Tu t.epoch) (hK:∀F',K (.aC []) (s.goes C t h n) F'):kQ C [.agg (cE t),.int .i64 h,.int .i64 n] k (dg s) F K:=by
 have e:kQ C [.agg (cE t),.int .i64 h,.int .i64 n] k s F K=((Rm s 4/\N4 t.holder/\Tu t.epoch)/\∀F',K (.aC []) (s.goes C t h n) F'):=by kernel_rfl
 exact fc (M:=kQ C) (e▸⟨hh,hK⟩)
theorem AD {m:Int} {b:Sd.Label} (hK:∀F',K (.aC []) (s.dt m b) F'):qQ [.int .i64 m,.agg (l9 b)] k (dg s) F K:=by
 have e:qQ [.int .i64 m,.agg (l9 b)] k s F K=(∀F',K (.aC []) (s.dt m b) F'):=by kernel_rfl
 exact fc (M:=qQ) (e▸hK)
end
def jH (C:Sd.Crypt):SM fr:=λar k s F K=>match ar with
 |[.int .i64 l]=>(Rm s 2/\N4 l)/\∀F',K (.aC []) (s.leave C l) F'
 |_=>False
theorem FX (tk:Nat->Sd.Byt->Option Sd.db) (ht:Body (fr:=fr) 130 bM):Body (fr:=fr) 65 (jH (aj tk)):=by
 refine dy (n:=60) (Za tk ht) ?_;intro ar k s F Kb h0 hq hM;unfold jH at hM;split at hM
 ·rename_i l;have h1:Rm (fA (qd s l) (s.c.t.drop l).1) 2:=hM.1.1;have h2:=hM.1.2;have hK:=hM.2;rw[PV];refine⟨⟨rfl,trivial⟩,λB hB=>⟨trivial,aO (λe=>?_) (λe=>?_)⟩⟩
  ·refine aH (s':=qd s l) ?_ hK (F.bI (Sd.Q.drop s.c.q l) B hB);simp only[Bool.not_eq_true']at e;exact(if_pos e).symm
  ·refine⟨eO hq,qR ⟨h1.le (by decide),h2,⟨by decide,by decide⟩⟩ λF2=>⟨eO ?_,fe h1.gone.r1 λF3=>aH ?_ hK F3 (hp:=?_)⟩⟩
   ·rw[gone_c];exact hq
   ·simp only[Bool.not_eq_false']at e;have eS:¬(s.c.t.drop l).2=false:=by rw[e];decide
    exact(if_neg eS).symm
   ·show(Sd.Scene.gone _ _ _ _).c.p=_;rw[gone_c];rfl
 ·exact hM.elim
end Go.Proofs.YtlkpikfddnjilaaGreatDoor
