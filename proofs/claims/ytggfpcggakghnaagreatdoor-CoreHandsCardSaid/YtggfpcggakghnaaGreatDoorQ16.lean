/- Part 16 of the proof. -/
import Derived.Test.YtggfpcggakghnaaGreatDoorQ15
set_option linter.all false
set_option maxRecDepth 100000
set_option maxHeartbeats 4000000
open Go.Proofs.Tryz
open Go.IntKind (u8 u16 u32 u64 i64)
namespace Go.Proofs.YtggfpcggakghnaaGreatDoor
open Go Go.RowKit Go.BigFrame Sx Vx
variable{fr:Sd.Reply->Nat×Sd.Byt}
def ah (tk:Nat->Sd.Byt->Option Sd.bW):Sd.Crypt:=⟨tk,λk s n=>dq k.1 k.2 s n,λk s r nc pf=>lY k.1 k.2 s r nc pf,λk s r nc=>jl k.1 k.2 s r nc,λk s n f=>eV k s (n-8) f,qW,dD⟩
def aO (k:LK) (s:Sd.Scene) (Kb:SK fr k):V->List VB->List (Gh fr)->Prop:=λv bl ch=>∃s' F',fK 0 v=true/\s'.c.p=s.c.p/\Kb v s' F'/\bl.take 5=cS k s' F'/\ch=[cB k s' F']
theorem dJ {f n:Nat} {M:SM fr} {L:List (dI (Gh fr))} (hL:ai prog gS L)
 (h:∀(ar:List V) (k:LK) (s:Sd.Scene) (F:bN fr (bA k s)) (Kb:SK fr k),cH 0 ar=true->s.c.p.queue=k.most->M ar k s F Kb->cJ (dR prog gS L) n f (.ptr 2 0::ar) (cS k s F) [cB k s F] (aO k s Kb)):Body f M:=by
 intro ar k s F Kb a b c R ms w0 w h0 hq hM S;have hg:Gl gS (a_ a b c):=by
  intro g i iX;unfold gS at iX;split at iX
  ·obtain rfl:=Option.some.inj iX;exact⟨by simp,rfl⟩
  ·obtain rfl:=Option.some.inj iX;exact⟨by simp,rfl⟩
  ·cases iX
 refine(bw hL.T hL.Q n (C:=dR prog gS L) (ids:=a_ a b c) (bl:=cS k s F) (ch:=[cB k s F]) (R:=R) (ms:=ms) (w0:=w0) (w:=w) hg rfl (by
  have e:af [cB k s F] R=F.B++R:=rfl;rw[e];exact S) (h ar k s F Kb h0 hq hM)).mono ?_
 rintro v w' ⟨x,more,bl',ch',rfl,h1,S',s',F',hv,hp,hK,hb,rfl⟩;have ev:den (a_ a b c++more) x=den [] x:=by have:=bC (ids:=[]) (more:=a_ a b c++more) x hv;simpa using this
 refine⟨x,s',F',ev,hv,hp,hK,?_⟩;have hl5:(cS k s' F').length=5:=rfl;have gz:bl'=cS k s' F'++bl'.drop 5:=by rw[<-hb,List.take_append_drop]
 rw[gz]at S';have e2:lits (a_ a b c++more) (a_ a b c++more) (cS k s' F'++bl'.drop 5)=lits (a_ a b c) (a_ a b c) (cS k s' F')++lits (a_ a b c++more) more (bl'.drop 5):=by
  rw[aI _ _ _ _ (by rw[hl5];rfl)];rw[aJ (ids:=a_ a b c) (more:=more) (a_ a b c) (cS k s' F') rfl]
 rw[e2]at S';refine S'.sub ?_;have e3:af [cB k s' F'] R=F'.B++R:=rfl;rw[e3,List.append_assoc];exact List.Sublist.append_left (List.sublist_append_right _ _) _
theorem c_ {f:Nat} {M:SM fr} (h:Body f M):oP prog gS ⟨f,false,pP M⟩:=⟨RW h,λe=>by cases e⟩
def dv (s:Sd.Scene):Sd.Scene:={s with c:={s.c with doors:=r3 (s.c.doors 0) (s.c.doors 1) (s.c.doors 2) s.c.doors,tab:=⟨s.c.tab.aA,r3 (s.c.tab.ay 0) (s.c.tab.ay 1) (s.c.tab.ay 2) s.c.tab.ay⟩}}
theorem iB (s:Sd.Scene):dv s=s:=by
 unfold dv;rw[vn,vn]
theorem rA {k:LK} {s s':Sd.Scene} {M:(s:Sd.Scene)->bN fr (bA k s)->Prop} (e:s'=s) (F:bN fr (bA k s)) (h:M s F) (hx:bA k s=bA k s':=by rfl):M s' (hx▸F):=by
 subst e;exact h
theorem fC {ar:List V} {k:LK} {s:Sd.Scene} {M:SM fr} {F:bN fr (bA k s)} {K:SK fr k} (h:M ar k s F K):M ar k (dv s) F K:=rA (M:=λs F=>M ar k s F K) (iB s) F h
def hU (C:Sd.Crypt):SM fr:=λar k s F K=>match ar with
 |[.int .i64 kd,.int .i64 so,.int .i64 sq,.int .i64 co,.int .i64 ho]=>s.recs.length<=1000/\∀F',K (.az []) (s.record C kd so sq co ho) F'
 |_=>False
theorem Ea (r c s k t:av) (B X R:List av):([r,c,s,k,t]++((B++X)++R)).Perm ([r,s,k]++(B++(c::t::(X++R)))):=by
 refine List.Perm.cons r ?_;have h1:(c::s::k::t::((B++X)++R)).Perm (s::k::c::t::((B++X)++R)):=
  (List.Perm.swap s c _).trans (List.Perm.cons s (List.Perm.swap k c _))
 refine h1.trans (List.Perm.cons s (List.Perm.cons k ?_));have h2:([c,t]++(B++(X++R))).Perm (B++([c,t]++(X++R))):=by
  rw[<-List.append_assoc,<-List.append_assoc B];exact List.Perm.append_right _ List.perm_append_comm
 simpa[List.append_assoc]using h2
theorem aen {k:LK} {s:Sd.Scene} (F:bN fr (bA k s)):F.B=F.Br++(F.Bs++(F.Bf++(F.Bq++F.Bk))):=rfl
theorem Eb (tk:Nat->Sd.Byt->Option Sd.bW):Body (fr:=fr) 90 (hU (ah tk)):=by
 intro ar k s F Kb a b c R ms w0 w h0 hq hM S;unfold hU at hM;split at hM
 ·rename_i kd so sq co ho;obtain⟨hn,hK⟩:=hM;have e1:lits (a_ a b c) (a_ a b c) (cS k s F)=[⟨1,false,.cells (ak .u32 64 aX) k.tg (0,0)⟩,aE (a_ a b c) 0 (iA k),⟨a,true,.cells #[.pointer (some ⟨b,0,none⟩),F.vs,F.vr] 128 (0,0)⟩,⟨b,true,.cells (mz s.c.p k.ka k.kn k.kc s.c.t k.bq s.c.doors c s.c.samples s.c.beyond s.c.mode s.c.bj s.c.pt s.c.head) 105 (0,0)⟩,aE (a_ a b c) c (gP s)]:=by kernel_rfl
  rw[e1,aen]at S;have S1:=S.perm (Ea _ _ _ _ _ _ _ _);have e2:(ao (a_ a b c) (.ptr 2 0::[.int .i64 kd,.int .i64 so,.int .i64 sq,.int .i64 co,.int .i64 ho])).toArray=#[.pointer (some ⟨a,0,none⟩),.int .i64 kd,.int .i64 so,.int .i64 sq,.int .i64 co,.int .i64 ho]:=by kernel_rfl
  rw[e2];refine(Yj _ _ _ _ _ _ _ _ _ _ _ _ _ _ _ _ _ _ _ _ _ _ _ _ kd so sq co ho w S1 F.hr hn).mono ?_;rintro v w1 ⟨x1,c1,yA,rfl,vm,S2⟩;have hl:(s.record (ah tk) kd so sq co ho).recs.length=s.recs.length+1:=by simp[Sd.Scene.record]
  have mT:fa 6 75 (oT (s.record (ah tk) kd so sq co ho).recs) x1 (s.record (ah tk) kd so sq co ho).recs.length c1 yA:=by rw[hl];exact vm
  let F':bN fr (bA k (s.record (ah tk) kd so sq co ho)):={F with xr:=x1,cr:=c1,Br:=yA,hr:=mT}
  refine⟨.az [],_,F',rfl,rfl,rfl,hK F',?_⟩;have e3:lits (a_ a b c) (a_ a b c) (cS k (s.record (ah tk) kd so sq co ho) F')=[⟨1,false,.cells (ak .u32 64 aX) k.tg (0,0)⟩,aE (a_ a b c) 0 (iA k),⟨a,true,.cells #[.pointer (some ⟨b,0,none⟩),F.vs,.slice x1 (s.record (ah tk) kd so sq co ho).recs.length c1] 128 (0,0)⟩,⟨b,true,.cells (mz s.c.p k.ka k.kn k.kc s.c.t k.bq s.c.doors c s.c.samples s.c.beyond s.c.mode s.c.bj s.c.pt (qW s.c.head ⟨kd,so,sq,s.c.t.epoch,co,ho⟩)) 105 (0,0)⟩,aE (a_ a b c) c (gP s)]:=by kernel_rfl
  rw[e3,aen,hl];exact S2.perm (Ea _ _ _ _ _ _ _ _).symm
 ·exact hM.elim
def ez (k:LK) (s:Sd.Scene) (F:bN fr (bA k s)):Prop:=F.vs=F.vs/\F.vr=F.vr/\some (aG k)=some (aG k)/\some (iA k)=some (iA k)/\Cz k 4 s=Cz k 4 (dv s)/\s.c.p.bh=s.c.p.bh/\s.c.p.aR=s.c.p.aR/\s.c.p.queue=k.most
theorem eY {k:LK} {s:Sd.Scene} {F:bN fr (bA k s)} (h:s.c.p.queue=k.most):ez k s F:=⟨rfl,rfl,rfl,rfl,rfl,rfl,rfl,h⟩
def L0 (fr:Sd.Reply->Nat×Sd.Byt) (C:Sd.Crypt):List (dI (Gh fr)):=⟨90,false,pP (hU C)⟩::qL (Gh fr) QV
theorem abA (tk:Nat->Sd.Byt->Option Sd.bW):ai prog gS (L0 fr (ah tk)):=ai.cons (c_ (Eb tk)) (f_ (uq gS))
def tM (C:Sd.Crypt):SM fr:=λar k s F K=>match ar with
 |[.int .i64 l,.int .i64 co]=>s.recs.length<=1000/\∀F',K (.az []) (s.dp C l co) F'
 |_=>False
theorem Nj (C:Sd.Crypt) (k:LK) (s:Sd.Scene) (F:bN fr (bA k s)) (Kb:SK fr k) (l co:Int):cJ (dR prog gS (L0 fr C)) 40 96 [.ptr 2 0,.int .i64 l,.int .i64 co] (cS k s F) [cB k s F] (aO k s Kb)
 =(ez k s F/\hU C [.int .i64 1,.int .i64 l,.int .i64 0,.int .i64 co,.int .i64 0] k (dv s) F (λv s' F'=>aO k s Kb (.az []) (cS k s' F') [cB k s' F'])):=by kernel_rfl
theorem Ec (tk:Nat->Sd.Byt->Option Sd.bW):Body (fr:=fr) 96 (tM (ah tk)):=by
 refine dJ (n:=40) (abA tk) ?_;intro ar k s F Kb h0 hq hM;unfold tM at hM;split at hM
 ·rename_i l co;rw[Nj];refine⟨eY hq,fC ⟨hM.1,λF'=>?_⟩⟩;exact⟨_,F',rfl,rfl,hM.2 F',rfl,rfl⟩
 ·exact hM.elim
end Go.Proofs.YtggfpcggakghnaaGreatDoor
namespace Go.Proofs.YtggfpcggakghnaaGreatDoor
open Go Go.RowKit Go.BigFrame Sx Vx
def vo (L:List QF) (n:Nat) (f:FuncId) (args:List V) (bl:List VB) (K:VK Empty):Prop:=cJ (dR prog (λ_=>none) (qL Empty L)) n f args bl [] K
theorem pQ {L:List QF} (hL:aZ prog (λ_=>none) L) {n f:Nat} {args:List V} {v:V} {c:List V} {T:BT} {bt:Nat} {w:World} (h:vo L n f args [⟨false,T,c⟩] λx _ _=>x=v)
 (hT:w.heap[bt]?=some (.cells (ab [] c).toArray T.t T.fz)) (hc:cH 0 c=true) (hv:fK 1 v=true):aj prog f (ao [bt] args).toArray w λx w1=>x=den [bt] v/\Ch [] w w1:=by
 have e1:ab [bt] c=ab [] c:=bU (ids:=[]) (more:=[bt]) c hc;have S:=St.given (w:=w) [(bt,.cells (ab [bt] c).toArray T.t T.fz)] (by intro p hp;simp only[List.mem_singleton]at hp;subst hp;rw[e1];exact hT);refine(bw (f_ hL).T (f_ hL).Q n (C:=dR prog (λ_=>none) (qL Empty L)) (ids:=[bt]) (bl:=[⟨false,T,c⟩]) (ch:=[]) (R:=[]) Gl.none rfl S h).mono ?_;rintro x w' ⟨y,more,bl',ch',rfl,h1,S',rfl⟩;exact⟨bC (ids:=[bt]) _ hv,S'.ch⟩
theorem Bo {L:List QF} (hL:aZ prog (λ_=>none) L) {n f:Nat} {args:List V} {v:V} {B0:VB} {wr:Bool} {o:Obj} {bt:Nat} {bs:List av} {ms:List Nat} {w0 w:World}
 (h:vo L n f args [B0] (cP 1 λx b _=>x=v/\∃B,b=[B]/\aE [0] 0 B=⟨0,wr,o⟩/\cH 0 B.c=true)) (hv:fK 0 v=true) (S:St ms w0 ([aE [bt] bt B0]++bs) w):
 aj prog f (ao [bt] args).toArray w λy w1=>y=den [] v/\St ms w0 ([⟨bt,wr,o⟩]++bs) w1:=by
 refine(bw (f_ hL).T (f_ hL).Q n (C:=dR prog (λ_=>none) (qL Empty L)) (ids:=[bt]) (bl:=[B0]) (ch:=[]) (R:=bs) Gl.none rfl S h).mono ?_;rintro x w' ⟨y,more,bl',ch',rfl,h1,S',hK⟩;obtain⟨v2,aP,bl2,e,gx,S2,rfl,B,rfl,hB,hw⟩:=c9 (n0:=1) h1 (by simp) S' hK;have hm:aP=[]:=by simpa using gx
 subst hm;refine⟨by rw[e];exact bC (ids:=[]) _ hv,?_⟩;have q:aE [bt] bt B=aE [0] bt B:=cF hw;have q2:aE [0] bt B=⟨bt,wr,o⟩:=by
  unfold aE at hB⊢;simp only[av.mk.injEq]at hB⊢;exact⟨trivial,hB.2⟩
 have S3:St ms w0 ([aE [bt] bt B]++bs) w':=match ch',S2 with
  |[],S2=>S2
  |e::_,_=>nomatch e
 rw[q,q2]at S3;exact S3
def dw (t:Sd.Tab):Sd.Tab:=⟨t.aA,r3 (t.ay 0) (t.ay 1) (t.ay 2) λ_=>.zero⟩
def aN (y:TC):Sd.Tab:=⟨(y.s1,⟨y.sn,y.sm⟩),r3 y.s0 y.sa y.sb λ_=>.zero⟩
def Hk (bl:List VB) (it:Nat):Option TC:=match bl[it]?with
 |some ⟨_,⟨157,(0,0)⟩,tc⟩=>uR tc
 |_=>none
theorem Yr {ids:List Nat} {bl:List VB} {w:World} (hm:Mem ids bl w) {it:Nat} {y:TC} (h:Hk bl it=some y):w.heap[ids.getD it 0]?=some (.cells (jy (aN y).aA (aN y).ay y.b y.m) 157 (0,0)):=by
 unfold Hk at h;split at h
 ·rename_i wr tc hb;obtain rfl:=jz h;have h1:=hm.2 it _ hb;have e:(ab ids (cd y)).toArray=jy (aN y).aA (aN y).ay y.b y.m:=by kernel_rfl
  rw[<-e];exact h1
 ·cases h
def VY (y:TC):Nat->Sd.bm
 |0=>y.s0
 |1=>y.sa
 |_=>y.sb
def Hl:Int->Option Nat
 |.ofNat 1=>some 0
 |.ofNat 2=>some 1
 |.ofNat 3=>some 2
 |_=>none
theorem vt {s:Int} {i:Nat} (h:Hl s=some i):s=.ofNat (i+1)/\i<3:=by
 unfold Hl at h;split at h<;>first|cases h;exact⟨rfl,by omega⟩|cases h
def tE (b:Bool) (y:TC):List VB:=[⟨b,⟨157,(0,0)⟩,cd y⟩]
theorem Bp {s:Int} (h:Hl s=none):s<1\/3<s:=by
 rcases(by omega:s=1\/s=2\/s=3\/s<1\/3<s)with rfl|rfl|rfl|h|h
 ·cases h
 ·cases h
 ·cases h
 ·exact .inl h
 ·exact .inr h
def Nk:QF:=⟨69,λargs bl=>match args with
 |[.ptr it 0,.int .i64 s]=>(match Hk bl it with
  |some y=>(match Hl s with
   |some i=>(match(VY y i).on with
    |true=>some (True,.ptr it (3+39*i))
    |false=>some (True,.raw (.pointer none)))
   |none=>none)
  |none=>none)
 |_=>none⟩
def rC:QF:=⟨69,λargs bl=>match args with
 |[.ptr it 0,.int .i64 s]=>some (s<1\/3<s,.raw (.pointer none))
 |_=>none⟩
theorem RX (y:TC) (K:VK Empty):∀i:Nat,i<3->vo [] 30 69 [.ptr 0 0,.int .i64 (.ofNat (i+1))] (tE false y) K=cond (!(VY y i).on) (K (.raw (.pointer none)) (tE false y) []) (K (.ptr 0 (3+39*i)) (tE false y) [])
 |0,_=>by kernel_rfl
 |1,_=>by kernel_rfl
 |2,_=>by kernel_rfl
 |n+3,h=>absurd h (by omega)
theorem Ys (b:Nat) (s:Int) (X:V->Prop):jQ prog [] 30 69 [.raw (.pointer (some ⟨b,0,none⟩)),.int .i64 s] X=cond (decide (s<1)) (X (.raw (.pointer none))) (cond (decide (s>3)) (X (.raw (.pointer none))) False):=by kernel_rfl
theorem Bt {ids:List Nat} {bl:List VB} {w:World} (hm:Mem ids bl w) {it:Nat} {y:TC} (h:Hk bl it=some y):w.heap[ids.getD it 0]?=some (.cells (ab [] (cd y)).toArray 157 (0,0)):=by
 rw[Yr hm h];have e:(ab [] (cd y)).toArray=jy (aN y).aA (aN y).ay y.b y.m:=by kernel_rfl
 rw[e]
theorem Yt (gl:Nat->Option Nat):Nk.Ok prog gl:=by
 intro args bl p_ v_ h hp ids w _ hm;unfold Nk at h;dsimp only at h;split at h
 ·rename_i it s;split at h
  ·rename_i y hy;have hT:=Bt hm hy;split at h
   ·rename_i i hi;obtain⟨rfl,h3⟩:=vt hi;split at h
    ·rename_i ho;simp only[Option.some.injEq,Prod.mk.injEq]at h;obtain⟨rfl,rfl⟩:=h;refine told (pQ aZ.nil (n:=30) (args:=[.ptr 0 0,.int .i64 (.ofNat (i+1))]) (v:=.ptr 0 (3+39*i)) (T:=⟨157,(0,0)⟩) ?_ hT rfl rfl);show vo [] 30 69 [.ptr 0 0,.int .i64 (.ofNat (i+1))] (tE false y) _;rw[RX y _ i h3,ho];rfl
    ·rename_i ho;simp only[Option.some.injEq,Prod.mk.injEq]at h;obtain⟨rfl,rfl⟩:=h;refine told (pQ aZ.nil (n:=30) (args:=[.ptr 0 0,.int .i64 (.ofNat (i+1))]) (v:=.raw (.pointer none)) (T:=⟨157,(0,0)⟩) ?_ hT rfl rfl);show vo [] 30 69 [.ptr 0 0,.int .i64 (.ofNat (i+1))] (tE false y) _;rw[RX y _ i h3,ho];rfl
   ·cases h
  ·cases h
 ·cases h
theorem RY (gl:Nat->Option Nat):rC.Ok prog gl:=by
 intro args bl p_ v_ h hp ids w _ hm;unfold rC at h;dsimp only at h;split at h
 ·rename_i it s;simp only[Option.some.injEq,Prod.mk.injEq]at h;obtain⟨rfl,rfl⟩:=h;refine told (ta aZ.nil 30 (args:=[.raw (.pointer (some ⟨ids.getD it 0,0,none⟩)),.int .i64 s]) (v:=.raw (.pointer none)) ?_ rfl rfl [] w);show jQ prog [] 30 69 _ _;rw[Ys];refine aU (λh=>rfl) (λh=>aU (λh=>rfl) λh'=>?_);simp only[decide_eq_false_iff_not]at h h';omega
 ·cases h
theorem RZ:aZ prog (λ_=>none) [rC]:=aZ.cons (RY _) aZ.nil
theorem air (y:TC) (K:VK Empty):∀i:Nat,i<3->vo [] 30 40 [.ptr 0 0,.int .i64 (.ofNat (i+1))] (tE false y) K=cond (!(VY y i).on) (K (.bool false) (tE false y) []) (K (.bool true) (tE false y) [])
 |0,_=>by kernel_rfl
 |1,_=>by kernel_rfl
 |2,_=>by kernel_rfl
 |n+3,h=>absurd h (by omega)
theorem aeo (y:TC) (s:Int) (K:VK Empty):vo [rC] 30 40 [.ptr 0 0,.int .i64 s] (tE false y) K=cond (s==4) (K (.bool true) (tE false y) []) (cond (s==0) (K (.bool y.s1) (tE false y) []) ((s<1\/3<s)/\K (.bool false) (tE false y) [])):=by kernel_rfl
theorem Yu (y:TC) (K:VK Empty):∀i:Nat,i<3->vo [] 30 41 [.ptr 0 0,.int .i64 (.ofNat (i+1))] (tE false y) K=cond (!(VY y i).on) (K (.int .i64 0) (tE false y) []) (K (.int .i64 (VY y i).role) (tE false y) [])
 |0,_=>by kernel_rfl
 |1,_=>by kernel_rfl
 |2,_=>by kernel_rfl
 |n+3,h=>absurd h (by omega)
theorem R1 (y:TC) (s:Int) (K:VK Empty):vo [rC] 30 41 [.ptr 0 0,.int .i64 s] (tE false y) K=((s<1\/3<s)/\K (.int .i64 0) (tE false y) []):=by kernel_rfl
theorem vu (y:TC):∀i:Nat,i<3->(aN y).cZ (.ofNat (i+1))=(VY y i).on
 |0,_=>rfl
 |1,_=>rfl
 |2,_=>rfl
 |n+3,h=>absurd h (by omega)
theorem Bu (t:Sd.Tab) {s:Int} (h:s<1\/3<s):t.cZ s=false:=by
 unfold Sd.Tab.cZ;have:(decide (1<=s)&&decide (s<=3))=false:=by simp;omega
 rw[this];rfl
theorem aep (y:TC):∀i:Nat,i<3->(aN y).ay ((Int.ofNat (i+1)).toNat-1)=VY y i
 |0,_=>rfl
 |1,_=>rfl
 |2,_=>rfl
 |n+3,h=>absurd h (by omega)
theorem ais (y:TC):∀i:Nat,i<3->(aN y).on (.ofNat (i+1))=(VY y i).on
 |0,_=>rfl
 |1,_=>rfl
 |2,_=>rfl
 |n+3,h=>absurd h (by omega)
theorem alU (y:TC) (s:Int) {bt:Nat} {w:World} (hT:w.heap[bt]?=some (.cells (ab [] (cd y)).toArray 157 (0,0))):aj prog 40 (ao [bt] [.ptr 0 0,.int .i64 s]).toArray w λx w1=>x=den [bt] (.bool ((aN y).on s))/\Ch [] w w1:=by
 cases h:Hl s with
 |some i=>
  obtain⟨rfl,h3⟩:=vt h;refine pQ aZ.nil (n:=30) (T:=⟨157,(0,0)⟩) ?_ hT rfl rfl;show vo [] 30 40 [.ptr 0 0,.int .i64 (.ofNat (i+1))] (tE false y) _;rw[air y _ i h3,ais y i h3];exact aU (λh=>by simp at h;rw[h]) (λh=>by simp at h;rw[h])
 |none=>
  have hs:=Bp h;refine pQ RZ (n:=30) (T:=⟨157,(0,0)⟩) ?_ hT rfl rfl;show vo [rC] 30 40 [.ptr 0 0,.int .i64 s] (tE false y) _;rw[aeo];unfold Sd.Tab.on;rw[Bu _ hs];refine aU (λh=>?_) (λh=>aU (λh'=>?_) λh'=>⟨hs,?_⟩)
  ·rw[if_pos (by simpa using h)]
  ·rw[if_neg (by simpa using h),if_pos (by simpa using h')];rfl
  ·rw[if_neg (by simpa using h),if_neg (by simpa using h')]
theorem aeq (y:TC) (s:Int) {bt:Nat} {w:World} (hT:w.heap[bt]?=some (.cells (ab [] (cd y)).toArray 157 (0,0))):aj prog 41 (ao [bt] [.ptr 0 0,.int .i64 s]).toArray w λx w1=>x=den [bt] (.int .i64 ((aN y).role s))/\Ch [] w w1:=by
 unfold Sd.Tab.role;cases h:Hl s with
 |some i=>
  obtain⟨rfl,h3⟩:=vt h;refine pQ aZ.nil (n:=30) (T:=⟨157,(0,0)⟩) ?_ hT rfl rfl;show vo [] 30 41 [.ptr 0 0,.int .i64 (.ofNat (i+1))] (tE false y) _;rw[Yu y _ i h3,vu y i h3,aep y i h3];exact aU (λh=>by simp at h;rw[h];rfl) (λh=>by simp at h;rw[h];rfl)
 |none=>
  have hs:=Bp h;refine pQ RZ (n:=30) (T:=⟨157,(0,0)⟩) ?_ hT rfl rfl;show vo [rC] 30 41 [.ptr 0 0,.int .i64 s] (tE false y) _;rw[R1,Bu _ hs];exact⟨hs,rfl⟩
def qon:QF:=⟨40,λargs bl=>match args with
 |[.ptr it 0,.int .i64 s]=>(match Hk bl it with|some y=>some (True,.bool ((aN y).on s))|none=>none)
 |_=>none⟩
theorem aer (gl:Nat->Option Nat):qon.Ok prog gl:=by
 intro args bl p_ v_ h hp ids w _ hm;unfold qon at h;dsimp only at h;split at h
 ·rename_i it s;split at h
  ·rename_i y hy;simp only[Option.some.injEq,Prod.mk.injEq]at h;obtain⟨rfl,rfl⟩:=h;exact told (alU y s (Bt hm hy))
  ·cases h
 ·cases h
def R2:QF:=⟨41,λargs bl=>match args with
 |[.ptr it 0,.int .i64 s]=>(match Hk bl it with|some y=>some (True,.int .i64 ((aN y).role s))|none=>none)
 |_=>none⟩
theorem R3 (gl:Nat->Option Nat):R2.Ok prog gl:=by
 intro args bl p_ v_ h hp ids w _ hm;unfold R2 at h;dsimp only at h;split at h
 ·rename_i it s;split at h
  ·rename_i y hy;simp only[Option.some.injEq,Prod.mk.injEq]at h;obtain⟨rfl,rfl⟩:=h;exact told (aeq y s (Bt hm hy))
  ·cases h
 ·cases h
def zS:List V:=.bool false::.int .i64 0::.int .i64 0::.int .i64 0::(lK [.int .u8 0] 32++[.bool false,.int .i64 0,.int .u64 0])
def rP (y:TC) (i:Nat) (x:List V):List V:=.bool y.s1::.int .i64 y.sn::.int .i64 y.sm::((bif Nat.beq i 0 then x else tL y.s0)++((bif Nat.beq i 1 then x else tL y.sa)++((bif Nat.beq i 2 then x else tL y.sb)++[.int .i64 y.b,.int .i64 y.m])))
def wE (l:List V):List VB:=[⟨true,⟨157,(0,0)⟩,l⟩]
theorem aes (y:TC) (K:VK Empty):∀i:Nat,i<3->vo [] 30 196 [.ptr 0 0,.int .i64 (.ofNat (i+1))] (tE true y) (cP 1 K)=cond (!(VY y i).on) (K (.bool false) (tE true y) []) (K (.bool true) (wE (rP y i zS)) [])
 |0,_=>by kernel_rfl
 |1,_=>by kernel_rfl
 |2,_=>by kernel_rfl
 |n+3,h=>absurd h (by omega)
theorem Yv (y:TC) (s:Int) (K:VK Empty):vo [rC] 30 196 [.ptr 0 0,.int .i64 s] (tE true y) (cP 1 K)=((s<1\/3<s)/\K (.bool false) (tE true y) []):=by kernel_rfl
theorem exE (y:TC):∀i:Nat,i<3->aE [0] 0 ⟨true,⟨157,(0,0)⟩,rP y i zS⟩=⟨0,true,.cells (jy ((aN y).dT ((Int.ofNat (i+1)).toNat-1) .zero).aA ((aN y).dT ((Int.ofNat (i+1)).toNat-1) .zero).ay y.b y.m) 157 (0,0)⟩
 |0,_=>by kernel_rfl
 |1,_=>by kernel_rfl
 |2,_=>by kernel_rfl
 |n+3,h=>absurd h (by omega)
theorem vw (y:TC):aE [0] 0 ⟨true,⟨157,(0,0)⟩,cd y⟩=⟨0,true,.cells (jy (aN y).aA (aN y).ay y.b y.m) 157 (0,0)⟩:=by kernel_rfl
theorem Bv (y:TC) (bt:Nat):aE [bt] bt ⟨true,⟨157,(0,0)⟩,cd y⟩=⟨bt,true,.cells (jy (aN y).aA (aN y).ay y.b y.m) 157 (0,0)⟩:=by kernel_rfl
theorem ait (y:TC):∀i:Nat,cH 0 (rP y i zS)=true
 |0=>by kernel_rfl
 |1=>by kernel_rfl
 |2=>by kernel_rfl
 |n+3=>by kernel_rfl
theorem aiu (y:TC) (s:Int) {bt:Nat} {bs:List av} {ms:List Nat} {w0 w:World} (S:St ms w0 ([⟨bt,true,.cells (jy (aN y).aA (aN y).ay y.b y.m) 157 (0,0)⟩]++bs) w):
 aj prog 196 (ao [bt] [.ptr 0 0,.int .i64 s]).toArray w λu w1=>u=den [] (.bool ((aN y).cZ s))/\St ms w0 ([⟨bt,true,.cells (jy ((aN y).end_ s).aA ((aN y).end_ s).ay y.b y.m) 157 (0,0)⟩]++bs) w1:=by
 rw[<-Bv]at S;unfold Sd.Tab.end_;cases h:Hl s with
 |some i=>
  obtain⟨rfl,h3⟩:=vt h;refine Bo aZ.nil (n:=30) (B0:=⟨true,⟨157,(0,0)⟩,cd y⟩) ?_ rfl S;show vo [] 30 196 [.ptr 0 0,.int .i64 (.ofNat (i+1))] (tE true y) _;rw[aes y _ i h3,vu y i h3];refine aU (λh=>?_) (λh=>?_)
  ·simp only[Bool.not_eq_true']at h;rw[h];exact⟨rfl,_,rfl,vw y,rfl⟩
  ·simp only[Bool.not_eq_false']at h;rw[h];exact⟨rfl,_,rfl,exE y i h3,ait y i⟩
 |none=>
  have hs:=Bp h;refine Bo RZ (n:=30) (B0:=⟨true,⟨157,(0,0)⟩,cd y⟩) ?_ rfl S;show vo [rC] 30 196 [.ptr 0 0,.int .i64 s] (tE true y) _;rw[Yv,Bu _ hs];exact⟨hs,rfl,_,rfl,vw y,rfl⟩
def smL (y:TC):List V:=.bool true::.int .i64 0::.int .i64 (if 0>y.b then 0 else y.b)::(tL y.s0++(tL y.sa++(tL y.sb++[.int .i64 y.b,.int .i64 y.m])))
theorem aet (y:TC) (K:VK Empty):vo [] 30 79 [.ptr 0 0] (tE true y) (cP 1 K)=K (.az []) (wE (smL y)) []:=by kernel_rfl
theorem aiv (y:TC) (hb:0<=y.b/\y.b<=1000) {bt:Nat} {bs:List av} {ms:List Nat} {w0 w:World} (S:St ms w0 ([⟨bt,true,.cells (jy (aN y).aA (aN y).ay y.b y.m) 157 (0,0)⟩]++bs) w):
 aj prog 79 (ao [bt] [.ptr 0 0]).toArray w λu w1=>u=den [] (.az [])/\St ms w0 ([⟨bt,true,.cells (jy (true,.start y.b) (aN y).ay y.b y.m) 157 (0,0)⟩]++bs) w1:=by
 rw[<-Bv]at S;refine Bo aZ.nil (n:=30) (B0:=⟨true,⟨157,(0,0)⟩,cd y⟩) ?_ rfl S;show vo [] 30 79 [.ptr 0 0] (tE true y) _;rw[aet];refine⟨rfl,_,rfl,?_,rfl⟩;have q:aE [0] 0 ⟨true,⟨157,(0,0)⟩,smL y⟩=⟨0,true,.cells (jy (true,⟨0,if 0>y.b then 0 else y.b⟩) (aN y).ay y.b y.m) 157 (0,0)⟩:=by kernel_rfl
 rw[q,nq]
def zC:QF:=⟨193,λargs bl=>match args with
 |[.ptr it 0]=>(match Hk bl it with
  |some y=>some (True,.int .i64 ((aN y).many))
  |none=>none)
 |_=>none⟩
theorem Yw (y:TC) (K:VK Empty):vo [] 30 193 [.ptr 0 0] (tE false y) K=
 let k:Int->Prop:=λn=>K (.int .i64 n) (tE false y) []
 cond y.s0.on (cond y.sa.on (cond y.sb.on (k 3) (k 2)) (cond y.sb.on (k 2) (k 1))) (cond y.sa.on (cond y.sb.on (k 2) (k 1)) (cond y.sb.on (k 1) (k 0))):=by kernel_rfl
theorem R4 (gl:Nat->Option Nat):zC.Ok prog gl:=by
 intro args bl p_ v_ h hp ids w _ hm;unfold zC at h;dsimp only at h;split at h
 ·rename_i it;split at h
  ·rename_i y hy;simp only[Option.some.injEq,Prod.mk.injEq]at h;obtain⟨rfl,rfl⟩:=h;refine told (pQ aZ.nil (n:=30) (args:=[.ptr 0 0]) (v:=.int .i64 ((aN y).many)) (T:=⟨157,(0,0)⟩) ?_ (Bt hm hy) rfl rfl);show vo [] 30 193 [.ptr 0 0] (tE false y) _;rw[Yw];have e:(aN y).many=(if y.s0.on then 1 else 0)+(if y.sa.on then 1 else 0)+(if y.sb.on then 1 else 0):=rfl;rw[e];cases y.s0.on<;>cases y.sa.on<;>cases y.sb.on<;>rfl
  ·cases h
 ·cases h
theorem aiw:aZ prog (λ_=>none) [Nk,zC]:=aZ.cons (Yt _) (aZ.cons (R4 _) aZ.nil)
def onS (k:Sd.bm) (o:Bool):Sd.bm:=⟨o,k.aH,k.role,k.key,k.seen⟩
def Kd (y:TC) (i:Nat) (o:Bool):TC:=match i with
 |0=>{y with s0:=onS y.s0 o}
 |1=>{y with sa:=onS y.sa o}
 |_=>{y with sb:=onS y.sb o}
def nS (b r:Int) (key:Nat->Int):List V:=[.bool true,.int .i64 0,.int .i64 (if 0>b then 0 else b),.int .i64 r,.dC .u8 32 key,.bool false,.int .i64 0,.int .u64 0]
def stX (y:TC) (r:Int) (K:VK Empty) (X:Prop):Prop:=cond (decide (r<0)) (K (.int .i64 1) (tE true y) []) (cond (decide (r>=4)) (K (.int .i64 1) (tE true y) []) X)
theorem aix (y:TC) (r:Int) (key:Nat->Int) (K:VK Empty):∀i:Nat,i<3->
 vo [Nk,zC] 60 149 [.ptr 0 0,.int .i64 (.ofNat (i+1)),.int .i64 r,.agg [.dC .u8 32 key]] (tE true (Kd y i true)) (cP 1 K)=stX (Kd y i true) r K (True/\K (.int .i64 0) (wE (rP y i (nS y.b r key))) [])/\
 vo [Nk,zC] 60 149 [.ptr 0 0,.int .i64 (.ofNat (i+1)),.int .i64 r,.agg [.dC .u8 32 key]] (tE true (Kd y i false)) (cP 1 K)=stX (Kd y i false) r K (True/\True/\cond (decide ((aN (Kd y i false)).many>=y.m)) (K (.int .i64 19) (tE true (Kd y i false)) []) (K (.int .i64 0) (wE (rP y i (nS y.b r key))) []))
 |0,_=>⟨by kernel_rfl,by kernel_rfl⟩
 |1,_=>⟨by kernel_rfl,by kernel_rfl⟩
 |2,_=>⟨by kernel_rfl,by kernel_rfl⟩
 |n+3,h=>absurd h (by omega)
theorem exN (y:TC) (r:Int) (key:Nat->Int):∀i:Nat,i<3->aE [0] 0 ⟨true,⟨157,(0,0)⟩,rP y i (nS y.b r key)⟩=⟨0,true,.cells (jy ((aN y).dT ((Int.ofNat (i+1)).toNat-1) ⟨true,⟨0,if 0>y.b then 0 else y.b⟩,r,key,⟨false,0,0⟩⟩).aA ((aN y).dT ((Int.ofNat (i+1)).toNat-1) ⟨true,⟨0,if 0>y.b then 0 else y.b⟩,r,key,⟨false,0,0⟩⟩).ay y.b y.m) 157 (0,0)⟩/\cH 0 (rP y i (nS y.b r key))=true
 |0,_=>⟨by kernel_rfl,by kernel_rfl⟩
 |1,_=>⟨by kernel_rfl,by kernel_rfl⟩
 |2,_=>⟨by kernel_rfl,by kernel_rfl⟩
 |n+3,h=>absurd h (by omega)
theorem aeu (y:TC):∀i:Nat,i<3->∃o,(VY y i).on=o/\y=Kd y i o
 |0,_=>⟨_,rfl,rfl⟩
 |1,_=>⟨_,rfl,rfl⟩
 |2,_=>⟨_,rfl,rfl⟩
 |n+3,h=>absurd h (by omega)
theorem Bw (y:TC) (i:Nat) (h3:i<3) (r:Int) (key:Nat->Int) (p:Sd.Pol) (e1:p.bh=y.b) (e2:p.aR=y.m) {bt:Nat} {bs:List av} {ms:List Nat} {w0 w:World} (S:St ms w0 ([⟨bt,true,.cells (jy (aN y).aA (aN y).ay y.b y.m) 157 (0,0)⟩]++bs) w):
 aj prog 149 (ao [bt] [.ptr 0 0,.int .i64 (.ofNat (i+1)),.int .i64 r,.agg [.dC .u8 32 key]]).toArray w λu w1=>u=den [] (.int .i64 (Sd.Tab.br p (aN y) (.ofNat (i+1)) r key).2)/\
  St ms w0 ([⟨bt,true,.cells (jy (Sd.Tab.br p (aN y) (.ofNat (i+1)) r key).1.aA (Sd.Tab.br p (aN y) (.ofNat (i+1)) r key).1.ay y.b y.m) 157 (0,0)⟩]++bs) w1:=by
 obtain⟨o,ho,hy⟩:=aeu y i h3;rw[<-Bv]at S;refine Bo (args:=[.ptr 0 0,.int .i64 (.ofNat (i+1)),.int .i64 r,.agg [.dC .u8 32 key]]) (v:=.int .i64 (Sd.Tab.br p (aN y) (.ofNat (i+1)) r key).2) (wr:=true) (o:=.cells (jy (Sd.Tab.br p (aN y) (.ofNat (i+1)) r key).1.aA (Sd.Tab.br p (aN y) (.ofNat (i+1)) r key).1.ay y.b y.m) 157 (0,0)) aiw (n:=60) (B0:=⟨true,⟨157,(0,0)⟩,cd y⟩) ?_ rfl S;generalize hK:(λ(x:V) (b:List VB) (_:List Empty)=>x=V.int i64 (Sd.Tab.br p (aN y) (Int.ofNat (i+1)) r key).2/\∃B,b=[B]/\aE [0] 0 B=⟨0,true,.cells (jy (Sd.Tab.br p (aN y) (Int.ofNat (i+1)) r key).1.aA (Sd.Tab.br p (aN y) (Int.ofNat (i+1)) r key).1.ay y.b y.m) 157 (0,0)⟩/\cH 0 B.c=true)=K;show vo [Nk,zC] 60 149 [.ptr 0 0,.int .i64 (.ofNat (i+1)),.int .i64 r,.agg [.dC .u8 32 key]] (tE true y) (cP 1 K);have hN:=exN y r key i h3;have hi:(Int.ofNat (i+1))=(i:Int)+1:=rfl;have k1:r<0\/4<=r->K (.int .i64 1) (tE true y) []:=λh=>by
  rw[<-hK];have e:Sd.Tab.br p (aN y) (Int.ofNat (i+1)) r key=(aN y,1):=by unfold Sd.Tab.br;rw[if_pos (by omega)]
  rw[e];exact⟨rfl,_,rfl,vw y,rfl⟩
 have k0:0<=r->r<4->o=true\/¬y.m<=(aN y).many->K (.int .i64 0) (wE (rP y i (nS y.b r key))) []:=λh h' h4=>by
  rw[<-hK];have e:Sd.Tab.br p (aN y) (Int.ofNat (i+1)) r key=((aN y).dT ((Int.ofNat (i+1)).toNat-1) ⟨true,⟨0,if 0>y.b then 0 else y.b⟩,r,key,⟨false,0,0⟩⟩,0):=by
   unfold Sd.Tab.br;rw[if_neg (by omega),if_neg,e1,nq];rw[vu y i h3,ho,e2];rintro⟨rfl,h5⟩;exact h4.elim (λh=>nomatch h) λh=>h h5
  rw[e];exact⟨rfl,_,rfl,hN.1,hN.2⟩
 have k2:0<=r->r<4->o=false->y.m<=(aN y).many->K (.int .i64 19) (tE true y) []:=λh h' h4 h5=>by
  rw[<-hK];have e:Sd.Tab.br p (aN y) (Int.ofNat (i+1)) r key=(aN y,19):=by
   unfold Sd.Tab.br;rw[if_neg (by omega),if_pos];rw[vu y i h3,ho,e2];exact⟨h4,h5⟩
  rw[e];exact⟨rfl,_,rfl,vw y,rfl⟩
 have mK:=aix y r key K i h3;cases o with
 |true=>
  have hv:=mK.1;rw[<-hy]at hv;rw[hv];unfold stX;refine aU (λh=>k1 (.inl (by simpa using h))) (λh=>aU (λh'=>k1 (.inr (by simpa using h'))) λh'=>⟨trivial,?_⟩);exact k0 (by simpa using h) (by simpa using h') (.inl rfl)
 |false=>
  have hv:=mK.2;rw[<-hy]at hv;rw[hv];unfold stX;refine aU (λh=>k1 (.inl (by simpa using h))) (λh=>aU (λh'=>k1 (.inr (by simpa using h'))) λh'=>⟨trivial,trivial,aU (λh5=>?_) λh5=>?_⟩)
  ·exact k2 (by simpa using h) (by simpa using h') rfl (by simpa using h5)
  ·exact k0 (by simpa using h) (by simpa using h') (.inr (by simpa using h5))
variable{fr:Sd.Reply->Nat×Sd.Byt}
def Bx:QF:=⟨55,λargs _=>match args with
 |[.int .i64 l]=>some (True,.bool (Sd.linked l))
 |_=>none⟩
theorem Nl (l:Int) (X:V->Prop):jQ prog [] 20 55 [.int .i64 l] X=(cond (decide (l>=1)) (X (.bool (decide (l<=3)))) (X (.bool false))):=by kernel_rfl
theorem Hm (gl:Nat->Option Nat):Bx.Ok prog gl:=by
 intro args bl p_ v_ h hp ids w _ _;unfold Bx at h;dsimp only at h;split at h
 ·rename_i l;simp only[Option.some.injEq,Prod.mk.injEq]at h;obtain⟨rfl,rfl⟩:=h;refine ta aZ.nil 20 ?_ rfl rfl ids w;show jQ prog [] 20 55 _ _;rw[Nl];have e:Sd.linked l=(decide (l>=1)&&decide (l<=3)):=rfl;refine aU (λh=>?_) (λh=>?_)
  ·rw[e,h];rfl
  ·rw[e,h];rfl
 ·cases h
theorem w9 (t:Sd.Tab) (s:Int):(dw t).cZ s=t.cZ s:=by
 unfold Sd.Tab.cZ;by_cases h1:1<=s
 ·by_cases h2:s<=3
  ·have:s=1\/s=2\/s=3:=by omega
   rcases this with rfl|rfl|rfl<;>rfl
  ·simp[h2]
 ·simp[h1]
theorem aev (t:Sd.Tab) (s:Int):(dw t).on s=t.on s:=by
 unfold Sd.Tab.on;rw[w9];rfl
theorem aew (t:Sd.Tab) (s:Int):(dw t).role s=t.role s:=by
 unfold Sd.Tab.role;rw[w9];by_cases h:t.cZ s=true
 ·rw[if_pos h,if_pos h];unfold Sd.Tab.cZ at h;simp only[Bool.and_eq_true,decide_eq_true_eq]at h;have:s=1\/s=2\/s=3:=by omega
  rcases this with rfl|rfl|rfl<;>rfl
 ·rw[if_neg h,if_neg h]
def bN.bH {d:FD} (F:bN fr d) (q:List Sd.Ask) (B:List av) (h:QS d.k.bq d.k.most q B):bN fr {d with q:=q}:={F with Bq:=B,hq:=h}
def vq (k:LK):Value:=.pointer (some ⟨k.bq,0,none⟩)
structure QG where
 f:Nat
 pos:Nat
 m:List V->Int->List Sd.Ask->Option (Prop×V×List Sd.Ask)
def Ke (x:QG):gm (Gh fr):=λargs bl ch K=>match ch with
 |g::rest=>(match args[x.pos]?with
  |some (.raw vp)=>(match x.m (args.eraseIdx x.pos) g.d.k.most g.d.q with
   |some (p,v,q')=>cond (cH 0 args&&fK 0 v) ((vp=vq g.d.k/\p)/\∀B (h:QS g.d.k.bq g.d.k.most q' B),K v bl (⟨{g.d with q:=q'},g.dx,g.sx,g.F.bH q' B h⟩::rest)) False
   |none=>False)
  |_=>False)
 |[]=>False
def QG.Ok (x:QG):Prop:=∀(args:List V) (k:LK) (q:List Sd.Ask) (p:Prop) (v:V) (q':List Sd.Ask),args[x.pos]?=some (.raw (vq k))->x.m (args.eraseIdx x.pos) k.most q=some (p,v,q')->p->∀(B:List av),QS k.bq k.most q B->∀(bs:List av) (ms:List Nat) (w0 w:World),St ms w0 (B++bs) w->
 aj prog x.f (ao [] args).toArray w λy w1=>∃B',y=den [] v/\QS k.bq k.most q' B'/\St ms w0 (B'++bs) w1
theorem uS {d:FD} (F:bN fr d):F.B=F.Br++(F.Bs++(F.Bf++(F.Bq++F.Bk))):=rfl
theorem pS (A a b c q e R:List av):(A++((a++(b++(c++(q++e))))++R)).Perm (q++(A++(a++(b++(c++(e++R)))))):=by
 have h:(A++((a++(b++(c++(q++e))))++R))=(A++(a++(b++c)))++(q++(e++R)):=by simp[List.append_assoc]
 have h2:(q++(A++(a++(b++(c++(e++R))))))=q++((A++(a++(b++c)))++(e++R)):=by simp[List.append_assoc]
 rw[h,h2,<-List.append_assoc,<-List.append_assoc q];exact List.Perm.append_right _ List.perm_append_comm
theorem R5 {x:QG} (h:x.Ok) (gl:Nat->Option Nat):Sound prog gl x.f (Ke (fr:=fr) x):=by
 intro args ids bl ch R ms w0 w K hg hl S hc;unfold Ke at hc;split at hc
 ·rename_i g rest;split at hc
  ·rename_i vp hvp;split at hc
   ·rename_i p v q' hm;cases hq:cH 0 args&&fK 0 v with
    |false=>rw[hq]at hc;exact hc.elim
    |true=>
     rw[hq]at hc;simp only[Bool.and_eq_true]at hq;obtain⟨⟨rfl,hp⟩,hK⟩:=hc;have a1:ao ids args=ao [] args:=by have:=dW (ids:=[]) (more:=ids) args hq.1;simpa using this
     have e0:af (g::rest) R=g.F.B++af rest R:=rfl;rw[e0,uS]at S;rw[a1];refine(h args g.d.k g.d.q p v q' hvp hm hp _ g.F.hq _ ms w0 w (S.perm (pS _ _ _ _ _ _ _))).mono ?_;rintro y w1 ⟨B',rfl,hB,S1⟩;refine⟨v,[],bl,_,?_,by simpa using hl,?_,hK B' hB⟩
     ·have:=bC (ids:=[]) (more:=ids++[]) v hq.2;simpa using this.symm
     ·have e1:af (⟨{g.d with q:=q'},g.dx,g.sx,g.F.bH q' B' hB⟩::rest:List (Gh fr)) R=(g.F.Br++(g.F.Bs++(g.F.Bf++(B'++g.F.Bk))))++af rest R:=rfl;rw[e1,List.append_nil];exact S1.perm (pS _ _ _ _ _ _ _).symm
   ·exact hc.elim
  ·exact hc.elim
 ·exact hc.elim
theorem Bz {x:QG} (h:x.Ok):oP (G:=Gh fr) prog gS ⟨x.f,false,Ke x⟩:=⟨R5 h gS,λe=>by cases e⟩
def JV:QG:=⟨86,0,λargs _ q=>match args with
 |[.int .i64 s]=>some (True,.bool (Sd.Q.waits q s),Sd.Q.drop q s)
 |_=>none⟩
theorem Ed:JV.Ok:=by
 intro args k q p v q' hv hm hp B hB bs ms w0 w S
 match args,hv,hm with
 |a::l,hv,hm=>
  have ha:a=.raw (vq k):=by simpa[JV]using hv
  subst ha;replace hm:(match(generalizing:=false) l with
   |[.int .i64 s]=>some (True,V.bool (Sd.Q.waits q s),Sd.Q.drop q s)
   |_=>none)=some (p,v,q'):=hm
  split at hm
  ·simp only[Option.some.injEq,Prod.mk.injEq]at hm;obtain⟨rfl,rfl,rfl⟩:=hm;exact ad5 _ hB S
  ·cases hm
def il (a b c d e f:Int):List V:=[.int .i64 a,.int .i64 b,.int .i64 c,.int .i64 d,.int .i64 e,.int .i64 f,.int .u8 0,.int .u8 0,.int .u8 0,.int .u8 0,.int .u8 0,.int .u8 0,.int .u8 0,.int .u8 0]
def aex:List V->Option Sd.Reply
 |.int .i64 a::.int .i64 b::.int .i64 c::.int .i64 d::.int .i64 e::.int .i64 f::l=>(match l with
  |[.dC .u8 8 n]=>some ⟨a,b,c,d,e,f,n⟩
  |[.int .u8 (.ofNat 0),.int .u8 (.ofNat 0),.int .u8 (.ofNat 0),.int .u8 (.ofNat 0),.int .u8 (.ofNat 0),.int .u8 (.ofNat 0),.int .u8 (.ofNat 0),.int .u8 (.ofNat 0)]=>some ⟨a,b,c,d,e,f,λ_=>0⟩
  |_=>none)
 |_=>none
def R6:List V->Option Sd.Reply
 |[.int .i64 a,.int .i64 b,.int .i64 c,.int .i64 d,.int .i64 e,.int .i64 f,.int .u8 (.ofNat 0),.int .u8 (.ofNat 0),.int .u8 (.ofNat 0),.int .u8 (.ofNat 0),.int .u8 (.ofNat 0),.int .u8 (.ofNat 0),.int .u8 (.ofNat 0),.int .u8 (.ofNat 0)]=>some ⟨a,b,c,d,e,f,λ_=>0⟩
 |_=>none
theorem R7 {l:List V} {r:Sd.Reply} (h:R6 l=some r):∃a b c d e f,l=il a b c d e f/\r=⟨a,b,c,d,e,f,λ_=>0⟩:=by
 unfold R6 at h;split at h
 ·obtain rfl:=Option.some.inj h;exact⟨_,_,_,_,_,_,rfl,rfl⟩
 ·cases h
def Rm (s:Sd.Scene) (n:Nat):Prop:=s.sent.length+n<=1000/\s.recs.length+n<=1000
def N8 (n:Int):Prop:=0<=n/\n<=255
def N4 (n:Int):Prop:=0<=n/\n<=4
def VZ (n:Int):Prop:=0<=n/\n<=65535
def V0 (n:Int):Prop:=0<=n/\n<=4294967295
structure RB (r:Sd.Reply):Prop where
 kind:129<=r.kind/\r.kind<=136
 seq:V0 r.seq/\((r.kind=131\/r.kind=132)\/r.seq=0)
 role:(0<=r.role/\r.role<=3)/\(r.kind=130\/r.role=0)
 fT:N4 r.fT/\((r.kind=130\/r.kind=134\/r.kind=135\/r.kind=136)\/r.fT=0)
 epoch:VZ r.epoch/\((r.kind=130\/r.kind=133\/r.kind=134\/r.kind=135)\/r.epoch=0)
 code:N8 r.code/\((r.kind=132\/r.kind=136)\/r.code=0)
 ae:By r.ae/\(r.kind=129\/r.ae=λ_=>0)
def bV:SM fr:=λar k s F K=>match ar with
 |[.int .i64 l,.agg rl]=>(match aex rl with
  |some r=>(Rm s 1/\RB r)/\∀F',K (.az []) (s.tell l r) F'
  |none=>False)
 |_=>False
def oU:SM fr:=λar k s F K=>match ar with
 |[.int .i64 l,.agg rl]=>(match R6 rl with
  |some r=>(Rm s 1/\RB r)/\∀F',K (.az []) (s.hear l r) F'
  |none=>False)
 |_=>False
def ef (C:Sd.Crypt):SM fr:=λar k s F K=>match ar with
 |[.int .i64 l,.int .i64 n,.int .i64 c]=>(Rm s 1/\V0 n/\N8 c)/\∀F',K (.az []) (s.refuse C l n c) F'
 |_=>False
def jq:SM fr:=λar k s F K=>match ar with
 |[.int .i64 l,.int .i64 n]=>(Rm s 1/\V0 n)/\∀F',K (.az []) (s.done l n) F'
 |_=>False
def ny:SM fr:=λar k s F K=>match ar with
 |[.int .i64 l,.int .i64 w,.int .i64 c]=>(Rm s 1/\N4 w/\N8 c)/\∀F',K (.az []) (s.gone l w c) F'
 |_=>False
def L1 (fr:Sd.Reply->Nat×Sd.Byt) (C:Sd.Crypt):List (dI (Gh fr)):=⟨147,false,pP bV⟩::⟨96,false,pP (tM C)⟩::⟨86,false,Ke JV⟩::qE (Gh fr) Bx::qE (Gh fr) qon::qE (Gh fr) R2::L0 fr C
theorem JW {q:QF} (h:∀gl,q.Ok prog gl):oP (G:=Gh fr) prog gS (qE (Gh fr) q):=⟨qI (h gS),λ_=>qH q.F⟩
theorem JX (tk:Nat->Sd.Byt->Option Sd.bW) (ht:Body (fr:=fr) 147 bV):ai prog gS (L1 fr (ah tk)):=
 ai.cons (c_ ht) (ai.cons (c_ (Ec tk)) (ai.cons (Bz Ed) (ai.cons (JW Hm) (ai.cons (JW aer) (ai.cons (JW R3) (abA tk))))))
theorem Nm (C:Sd.Crypt) (k:LK) (s:Sd.Scene) (F:bN fr (bA k s)) (Kb:SK fr k) (l n c:Int):cJ (dR prog gS (L1 fr C)) 40 145 [.ptr 2 0,.int .i64 l,.int .i64 n,.int .i64 c] (cS k s F) [cB k s F] (aO k s Kb)
 =(ez k s F/\bV [.int .i64 l,.agg (il 132 n 0 0 0 c)] k (dv s) F λv s1 F1=>ez k s1 F1/\hU C [.int .i64 7,.int .i64 l,.int .i64 n,.int .i64 c,.int .i64 0] k (dv s1) F1 (λv s' F'=>aO k s Kb (.az []) (cS k s' F') [cB k s' F'])):=by kernel_rfl
theorem Yx (C:Sd.Crypt) (k:LK) (s:Sd.Scene) (F:bN fr (bA k s)) (Kb:SK fr k) (l n:Int):cJ (dR prog gS (L1 fr C)) 40 195 [.ptr 2 0,.int .i64 l,.int .i64 n] (cS k s F) [cB k s F] (aO k s Kb)
 =(ez k s F/\bV [.int .i64 l,.agg (il 131 n 0 0 0 0)] k (dv s) F λv s' F'=>aO k s Kb (.az []) (cS k s' F') [cB k s' F']):=by kernel_rfl
theorem Yy (C:Sd.Crypt) (k:LK) (s:Sd.Scene) (F:bN fr (bA k s)) (Kb:SK fr k) (l a b c d e f:Int):cJ (dR prog gS (L1 fr C)) 40 131 [.ptr 2 0,.int .i64 l,.agg (il a b c d e f)] (cS k s F) [cB k s F] (aO k s Kb)
 =(True/\cond (Sd.linked l) (True/\cond ((dw s.c.tab).on l) (ez k s F/\bV [.int .i64 l,.agg (il a b c d e f)] k (dv s) F λv s' F'=>aO k s Kb (.az []) (cS k s' F'++[⟨true,⟨40,(0,0)⟩,il a b c d e f⟩]) [cB k s' F']) (aO k s Kb (.az []) (cS k s F++[⟨true,⟨40,(0,0)⟩,il a b c d e f⟩]) [cB k s F]))
  (aO k s Kb (.az []) (cS k s F++[⟨true,⟨40,(0,0)⟩,il a b c d e f⟩]) [cB k s F])):=by kernel_rfl
theorem by0:By (λ_=>0):=λj=>⟨Int.le_refl 0,by show(0:Int)<=255;decide⟩
theorem rb {a b d e f:Int} (h1:129<=a/\a<=136) (h2:V0 b) (h4:N4 d) (h5:VZ e) (h6:N8 f) (k2:(a=131\/a=132)\/b=0:=by simp) (k4:(a=130\/a=134\/a=135\/a=136)\/d=0:=by simp)
 (k5:(a=130\/a=133\/a=134\/a=135)\/e=0:=by simp) (k6:(a=132\/a=136)\/f=0:=by simp):RB ⟨a,b,0,d,e,f,λ_=>0⟩:=⟨h1,⟨h2,k2⟩,⟨show(0:Int)<=0/\(0:Int)<=3 by decide,.inr rfl⟩,⟨h4,k4⟩,⟨h5,k5⟩,⟨h6,k6⟩,⟨by0,.inr rfl⟩⟩
theorem z4:N4 0:=⟨by decide,by decide⟩
theorem z8:N8 0:=⟨by decide,by decide⟩
theorem z16:VZ 0:=⟨by decide,by decide⟩
theorem Yz:V0 0:=⟨by decide,by decide⟩
theorem aM {k:LK} {s0:Sd.Scene} {Kb:SK fr k} {v:V} {s s':Sd.Scene} (e:s'=s) {bl:List VB} (hK:∀F,Kb v s F) (F':bN fr (bA k s')) (hv:fK 0 v=true:=by rfl) (hp:s'.c.p=s0.c.p:=by rfl) (hb:bl.take 5=cS k s' F':=by kernel_rfl):aO k s0 Kb v bl [cB k s' F']:=by
 subst e;exact⟨s',F',hv,hp,hK F',hb,rfl⟩
section
variable{k:LK} {s:Sd.Scene} {F:bN fr (bA k s)} {K:SK fr k}
theorem BA {l a b c d e f:Int} (h:Rm s 1/\RB ⟨a,b,c,d,e,f,λ_=>0⟩) (hK:∀F',K (.az []) (s.tell l ⟨a,b,c,d,e,f,λ_=>0⟩) F'):bV [.int .i64 l,.agg (il a b c d e f)] k (dv s) F K:=by
 have e:bV [.int .i64 l,.agg (il a b c d e f)] k s F K=((Rm s 1/\RB ⟨a,b,c,d,e,f,λ_=>0⟩)/\∀F',K (.az []) (s.tell l ⟨a,b,c,d,e,f,λ_=>0⟩) F'):=by kernel_rfl
 exact fC (M:=bV) (e▸⟨h,hK⟩)
theorem vx {l a b c d e f:Int} (h:Rm s 1/\RB ⟨a,b,c,d,e,f,λ_=>0⟩) (hK:∀F',K (.az []) (s.hear l ⟨a,b,c,d,e,f,λ_=>0⟩) F'):oU [.int .i64 l,.agg (il a b c d e f)] k (dv s) F K:=by
 have e:oU [.int .i64 l,.agg (il a b c d e f)] k s F K=((Rm s 1/\RB ⟨a,b,c,d,e,f,λ_=>0⟩)/\∀F',K (.az []) (s.hear l ⟨a,b,c,d,e,f,λ_=>0⟩) F'):=by kernel_rfl
 exact fC (M:=oU) (e▸⟨h,hK⟩)
theorem fD {C:Sd.Crypt} {a b c d e:Int} (h:s.recs.length<=1000) (hK:∀F',K (.az []) (s.record C a b c d e) F'):hU C [.int .i64 a,.int .i64 b,.int .i64 c,.int .i64 d,.int .i64 e] k (dv s) F K:=by
 have e:hU C [.int .i64 a,.int .i64 b,.int .i64 c,.int .i64 d,.int .i64 e] k s F K=(s.recs.length<=1000/\∀F',K (.az []) (s.record C a b c d e) F'):=by kernel_rfl
 exact fC (M:=hU C) (e▸⟨h,hK⟩)
end
theorem Ee (tk:Nat->Sd.Byt->Option Sd.bW) (ht:Body (fr:=fr) 147 bV):Body (fr:=fr) 145 (ef (ah tk)):=by
 refine dJ (n:=40) (JX tk ht) ?_;intro ar k s F Kb h0 hq hM;unfold ef at hM;split at hM
 ·rename_i l n c;have h1:=hM.1.1;have h2:=hM.1.2.1;have h3:=hM.1.2.2;have hK:=hM.2;rw[Nm];refine⟨eY hq,BA ⟨h1,rb (by decide) h2 z4 z16 h3⟩ λF1=>⟨eY hq,fD ?_ λF2=>aM rfl hK F2⟩⟩;have:=h1.2;simp only[Sd.Scene.tell];omega
 ·exact hM.elim
theorem Nn (tk:Nat->Sd.Byt->Option Sd.bW) (ht:Body (fr:=fr) 147 bV):Body (fr:=fr) 195 jq:=by
 refine dJ (n:=40) (JX tk ht) ?_;intro ar k s F Kb h0 hq hM;unfold jq at hM;split at hM
 ·rename_i l n;have h1:=hM.1.1;have h2:=hM.1.2;have hK:=hM.2;rw[Yx];exact⟨eY hq,BA ⟨h1,rb (by decide) h2 z4 z16 z8⟩ λF1=>aM rfl hK F1⟩
 ·exact hM.elim
theorem No (tk:Nat->Sd.Byt->Option Sd.bW) (ht:Body (fr:=fr) 147 bV):Body (fr:=fr) 131 oU:=by
 refine dJ (n:=40) (JX tk ht) ?_;intro ar k s F Kb h0 hq hM;unfold oU at hM;split at hM
 ·rename_i l rl;split at hM
  ·rename_i r hr;obtain⟨a,b,c,d,e,f,rfl,rfl⟩:=R7 hr;have h1:=hM.1.1;have h2:=hM.1.2;have hK:=hM.2;rw[Yy,aev];refine⟨trivial,aU (λe1=>⟨trivial,aU (λe2=>?_) (λe2=>?_)⟩) (λe1=>?_)⟩
   ·refine⟨eY hq,BA ⟨h1,h2⟩ λF1=>aM ?_ hK F1⟩;simp only[Sd.Scene.hear,e1,e2,Bool.and_self,if_true]
   ·refine aM ?_ hK F;simp[Sd.Scene.hear,e1,e2]
   ·refine aM ?_ hK F;simp[Sd.Scene.hear,e1]
  ·exact hM.elim
 ·exact hM.elim
def L2 (fr:Sd.Reply->Nat×Sd.Byt) (C:Sd.Crypt):List (dI (Gh fr)):=⟨145,false,pP (ef C)⟩::⟨195,false,pP jq⟩::⟨131,false,pP oU⟩::L1 fr C
theorem JY (tk:Nat->Sd.Byt->Option Sd.bW) (ht:Body (fr:=fr) 147 bV):ai prog gS (L2 fr (ah tk)):=
 ai.cons (c_ (Ee tk ht)) (ai.cons (c_ (Nn tk ht)) (ai.cons (c_ (No tk ht)) (JX tk ht)))
section
variable(C:Sd.Crypt) (k:LK) (s:Sd.Scene) (F:bN fr (bA k s)) (Kb:SK fr k)
theorem YA (l n c:Int):cJ (dR prog gS (L2 fr C)) 40 87 [.ptr 2 0,.int .i64 l,.int .i64 n,.int .i64 c] (cS k s F) [cB k s F] (aO k s Kb)
 =(ez k s F/\oU [.int .i64 l,.agg (il 136 0 0 n 0 c)] k (dv s) F λv s' F'=>aO k s Kb (.az []) (cS k s' F') [cB k s' F']):=by kernel_rfl
theorem YB (m:Int) (b:Sd.Label):cJ (dR prog gS (L2 fr C)) 40 88 [.ptr 2 0,.int .i64 m,.agg (oF b)] (cS k s F) [cB k s F] (aO k s Kb)
 =(True/\aO k s Kb (.az []) (cS k (s.dH m b) F++[⟨true,⟨44,(0,0)⟩,oF b⟩]) [cB k s F]):=by kernel_rfl
def gs1 (s:Sd.Scene) (t:Sd.Tok):Sd.Scene:={s with c:={s.c with t:=t,q:=Sd.Q.drop s.c.q t.holder}}
theorem YC (t:Sd.Tok) (h n:Int):cJ (dR prog gS (L2 fr C)) 60 85 [.ptr 2 0,.agg (cI t),.int .i64 h,.int .i64 n] (cS k s F) [cB k s F] (aO k s Kb)
 =((vq k=vq k/\True)/\∀B (hB:QS k.bq k.most (Sd.Q.drop s.c.q t.holder) B),
  ez k (gs1 s t) (F.bH _ B hB)/\oU [.int .i64 s.c.t.holder,.agg (il 134 0 0 t.holder t.epoch 0)] k (dv (gs1 s t)) (F.bH _ B hB) λv s2 F2=>
  ez k s2 F2/\oU [.int .i64 t.holder,.agg (il 133 0 0 0 t.epoch 0)] k (dv s2) F2 λv s3 F3=>
  ez k s3 F3/\hU C [.int .i64 8,.int .i64 t.holder,.int .i64 n,.int .i64 0,.int .i64 h] k (dv s3) F3 λv s' F'=>aO k s Kb (.az []) (cS k s' F'++[⟨true,⟨95,(0,0)⟩,cI t⟩]) [cB k s' F']):=by kernel_rfl
def qd (s:Sd.Scene) (l:Int):Sd.Scene:={s with c:={s.c with q:=Sd.Q.drop s.c.q l}}
def fQ (s:Sd.Scene) (t:Sd.Tok):Sd.Scene:={s with c:={s.c with t:=t}}
end
theorem hear_c (s:Sd.Scene) (l:Int) (r:Sd.Reply):(s.hear l r).c=s.c:=by unfold Sd.Scene.hear;split<;>rfl
theorem hear_recs (s:Sd.Scene) (l:Int) (r:Sd.Reply):(s.hear l r).recs=s.recs:=by unfold Sd.Scene.hear;split<;>rfl
theorem Np (s:Sd.Scene) (l:Int) (r:Sd.Reply):(s.hear l r).sent.length<=s.sent.length+1:=by unfold Sd.Scene.hear Sd.Scene.tell;split<;>simp
theorem Rm.hear {s:Sd.Scene} {l:Int} {r:Sd.Reply} {n:Nat} (h:Rm s (n+1)):Rm (s.hear l r) n:=by
 have h1:=Np s l r;have h2:=hear_recs s l r;have:=h.1;have:=h.2
 exact⟨by omega,by rw[h2];omega⟩
theorem Rm.rec {s:Sd.Scene} {C:Sd.Crypt} {a b c d e:Int} {n:Nat} (h:Rm s (n+1)):Rm (s.record C a b c d e) n:=by
 have:=h.1;have:=h.2
 exact⟨by simp only[Sd.Scene.record];omega,by simp only[Sd.Scene.record,List.length_append,List.length_singleton];omega⟩
theorem Rm.le {s:Sd.Scene} {n m:Nat} (h:Rm s n) (hm:m<=n):Rm s m:=⟨by have:=h.1;omega,by have:=h.2;omega⟩
theorem Rm.r1 {s:Sd.Scene} {n:Nat} (h:Rm s n):s.recs.length<=1000:=by have:=h.2;omega
section
variable(tk:Nat->Sd.Byt->Option Sd.bW)
include tk
theorem Nq (ht:Body (fr:=fr) 147 bV):Body (fr:=fr) 87 ny:=by
 refine dJ (n:=40) (JY tk ht) ?_;intro ar k s F Kb h0 hq hM;unfold ny at hM;split at hM
 ·rename_i l n c;have h1:=hM.1.1;have h2:=hM.1.2.1;have h3:=hM.1.2.2;have hK:=hM.2;rw[YA];exact⟨eY hq,vx ⟨h1,rb (by decide) Yz h2 z16 h3⟩ λF1=>aM rfl hK F1 (hp:=by unfold Sd.Scene.gone;rw[hear_c])⟩
 ·exact hM.elim
def rD:SM fr:=λar k s F K=>match ar with
 |[.int .i64 m,.agg bl]=>(match Rl bl with
  |some b=>∀F',K (.az []) (s.dH m b) F'
  |none=>False)
 |_=>False
theorem Nr (ht:Body (fr:=fr) 147 bV):Body (fr:=fr) 88 rD:=by
 refine dJ (n:=40) (JY tk ht) ?_;intro ar k s F Kb h0 hq hM;unfold rD at hM;split at hM
 ·rename_i m bl;split at hM
  ·rename_i b hb;obtain rfl:=A6 hb;rw[YB (ah tk)];exact⟨trivial,aM (s':=s.dH m b) rfl hM F⟩
  ·exact hM.elim
 ·exact hM.elim
def lg (C:Sd.Crypt):SM fr:=λar k s F K=>match ar with
 |[.agg tl,.int .i64 h,.int .i64 n]=>(match kK tl with
  |some t=>(Rm s 4/\N4 t.holder/\VZ t.epoch)/\∀F',K (.az []) (s.goes C t h n) F'
  |none=>False)
 |_=>False
theorem Ns (ht:Body (fr:=fr) 147 bV):Body (fr:=fr) 85 (lg (ah tk)):=by
 refine dJ (n:=60) (JY tk ht) ?_;intro ar k s F Kb h0 hq hM;unfold lg at hM;split at hM
 ·rename_i tl h n;split at hM
  ·rename_i t hb;obtain rfl:=fh hb;have h1:Rm (gs1 s t) 4:=hM.1.1;have h2:=hM.1.2.1;have h3:=hM.1.2.2;have hK:=hM.2;rw[YC];refine⟨⟨rfl,trivial⟩,λB hB=>⟨eY hq,vx ⟨h1.le (by decide),rb (by decide) Yz h2 h3 z8⟩ λF2=>⟨eY ?_,vx ⟨h1.hear.le (by decide),rb (by decide) Yz z4 h3 z8⟩ λF3=>⟨eY ?_,fD h1.hear.hear.r1 λF4=>aM rfl hK F4 (hp:=?_)⟩⟩⟩⟩
   ·rw[hear_c];exact hq
   ·rw[hear_c,hear_c];exact hq
   ·show(Sd.Scene.hear _ _ _).c.p=_;rw[hear_c,hear_c]
  ·exact hM.elim
 ·exact hM.elim
end
def L3 (fr:Sd.Reply->Nat×Sd.Byt) (C:Sd.Crypt):List (dI (Gh fr)):=⟨87,false,pP ny⟩::⟨88,false,pP rD⟩::⟨85,false,pP (lg C)⟩::L2 fr C
theorem abB (tk:Nat->Sd.Byt->Option Sd.bW) (ht:Body (fr:=fr) 147 bV):ai prog gS (L3 fr (ah tk)):=
 ai.cons (c_ (Nq tk ht)) (ai.cons (c_ (Nr tk ht)) (ai.cons (c_ (Ns tk ht)) (JY tk ht)))
theorem R9 (C:Sd.Crypt) (k:LK) (s:Sd.Scene) (F:bN fr (bA k s)) (Kb:SK fr k) (l:Int):cJ (dR prog gS (L3 fr C)) 60 91 [.ptr 2 0,.int .i64 l] (cS k s F) [cB k s F] (aO k s Kb)
 =((vq k=vq k/\True)/\∀B (hB:QS k.bq k.most (Sd.Q.drop s.c.q l) B),True/\cond (!(s.c.t.drop l).2) (aO k s Kb (.az []) (cS k (qd s l) (F.bH _ B hB)++[⟨true,⟨95,(0,0)⟩,cI (s.c.t.drop l).1⟩]) [cB k (qd s l) (F.bH _ B hB)])
  (ez k (fQ (qd s l) (s.c.t.drop l).1) (F.bH _ B hB)/\ny [.int .i64 (s.c.t.drop l).1.holder,.int .i64 l,.int .i64 16] k (dv (fQ (qd s l) (s.c.t.drop l).1)) (F.bH _ B hB) λv s2 F2=>
   ez k s2 F2/\hU C [.int .i64 12,.int .i64 l,.int .i64 0,.int .i64 16,.int .i64 0] k (dv s2) F2 λv s' F'=>aO k s Kb (.az []) (cS k s' F'++[⟨true,⟨95,(0,0)⟩,cI (s.c.t.drop l).1⟩]) [cB k s' F'])):=by kernel_rfl
theorem gone_c (s:Sd.Scene) (l w c:Int):(s.gone l w c).c=s.c:=hear_c _ _ _
theorem gone_recs (s:Sd.Scene) (l w c:Int):(s.gone l w c).recs=s.recs:=hear_recs _ _ _
theorem Rm.gone {s:Sd.Scene} {l w c:Int} {n:Nat} (h:Rm s (n+1)):Rm (s.gone l w c) n:=h.hear
section
variable{k:LK} {s:Sd.Scene} {F:bN fr (bA k s)} {K:SK fr k}
theorem rF {l w c:Int} (h:Rm s 1/\N4 w/\N8 c) (hK:∀F',K (.az []) (s.gone l w c) F'):ny [.int .i64 l,.int .i64 w,.int .i64 c] k (dv s) F K:=by
 have e:ny [.int .i64 l,.int .i64 w,.int .i64 c] k s F K=((Rm s 1/\N4 w/\N8 c)/\∀F',K (.az []) (s.gone l w c) F'):=by kernel_rfl
 exact fC (M:=ny) (e▸⟨h,hK⟩)
theorem iH {l n:Int} (h:Rm s 1/\V0 n) (hK:∀F',K (.az []) (s.done l n) F'):jq [.int .i64 l,.int .i64 n] k (dv s) F K:=by
 have e:jq [.int .i64 l,.int .i64 n] k s F K=((Rm s 1/\V0 n)/\∀F',K (.az []) (s.done l n) F'):=by kernel_rfl
 exact fC (M:=jq) (e▸⟨h,hK⟩)
theorem gL {C:Sd.Crypt} {l n c:Int} (h:Rm s 1/\V0 n/\N8 c) (hK:∀F',K (.az []) (s.refuse C l n c) F'):ef C [.int .i64 l,.int .i64 n,.int .i64 c] k (dv s) F K:=by
 have e:ef C [.int .i64 l,.int .i64 n,.int .i64 c] k s F K=((Rm s 1/\V0 n/\N8 c)/\∀F',K (.az []) (s.refuse C l n c) F'):=by kernel_rfl
 exact fC (M:=ef C) (e▸⟨h,hK⟩)
theorem w_ {C:Sd.Crypt} {l c:Int} (h:s.recs.length<=1000) (hK:∀F',K (.az []) (s.dp C l c) F'):tM C [.int .i64 l,.int .i64 c] k (dv s) F K:=by
 have e:tM C [.int .i64 l,.int .i64 c] k s F K=(s.recs.length<=1000/\∀F',K (.az []) (s.dp C l c) F'):=by kernel_rfl
 exact fC (M:=tM C) (e▸⟨h,hK⟩)
theorem l9 {C:Sd.Crypt} {t:Sd.Tok} {h n:Int} (hh:Rm s 4/\N4 t.holder/\VZ t.epoch) (hK:∀F',K (.az []) (s.goes C t h n) F'):lg C [.agg (cI t),.int .i64 h,.int .i64 n] k (dv s) F K:=by
 have e:lg C [.agg (cI t),.int .i64 h,.int .i64 n] k s F K=((Rm s 4/\N4 t.holder/\VZ t.epoch)/\∀F',K (.az []) (s.goes C t h n) F'):=by kernel_rfl
 exact fC (M:=lg C) (e▸⟨hh,hK⟩)
theorem BB {m:Int} {b:Sd.Label} (hK:∀F',K (.az []) (s.dH m b) F'):rD [.int .i64 m,.agg (oF b)] k (dv s) F K:=by
 have e:rD [.int .i64 m,.agg (oF b)] k s F K=(∀F',K (.az []) (s.dH m b) F'):=by kernel_rfl
 exact fC (M:=rD) (e▸hK)
end
def jY (C:Sd.Crypt):SM fr:=λar k s F K=>match ar with
 |[.int .i64 l]=>(Rm s 2/\N4 l)/\∀F',K (.az []) (s.leave C l) F'
 |_=>False
theorem Hn (tk:Nat->Sd.Byt->Option Sd.bW) (ht:Body (fr:=fr) 147 bV):Body (fr:=fr) 91 (jY (ah tk)):=by
 refine dJ (n:=60) (abB tk ht) ?_;intro ar k s F Kb h0 hq hM;unfold jY at hM;split at hM
 ·rename_i l;have h1:Rm (fQ (qd s l) (s.c.t.drop l).1) 2:=hM.1.1;have h2:=hM.1.2;have hK:=hM.2;rw[R9];refine⟨⟨rfl,trivial⟩,λB hB=>⟨trivial,aU (λe=>?_) (λe=>?_)⟩⟩
  ·refine aM (s':=qd s l) ?_ hK (F.bH (Sd.Q.drop s.c.q l) B hB);simp only[Bool.not_eq_true']at e;exact(if_pos e).symm
  ·refine⟨eY hq,rF ⟨h1.le (by decide),h2,⟨by decide,by decide⟩⟩ λF2=>⟨eY ?_,fD h1.gone.r1 λF3=>aM ?_ hK F3 (hp:=?_)⟩⟩
   ·rw[gone_c];exact hq
   ·simp only[Bool.not_eq_false']at e;have e_:¬(s.c.t.drop l).2=false:=by rw[e];decide
    exact(if_neg e_).symm
   ·show(Sd.Scene.gone _ _ _ _).c.p=_;rw[gone_c];rfl
 ·exact hM.elim
end Go.Proofs.YtggfpcggakghnaaGreatDoor
