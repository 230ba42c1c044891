/- Part 17 of the proof. -/
import Derived.Test.YtlkpikfddnjilaaGreatDoorE16
set_option linter.all false
set_option maxRecDepth 100000
set_option maxHeartbeats 4000000
open Go.Proofs.Tryz
open Go.IntKind (u8 u16 u32 u64 i64)
namespace Go.Proofs.YtlkpikfddnjilaaGreatDoor
open Go Go.RowKit Go.BigFrame Sx Vx
variable{fr:Sd.Reply->Nat×Sd.Byt}
def aq (tk:Nat->Sd.Byt->Option Sd.dw):Sd.Crypt:=⟨tk,λk s n=>aV k.1 k.2 s n,λk s r nc pf=>mV k.1 k.2 s r nc pf,λk s r nc=>jW k.1 k.2 s r nc,λk s n f=>kC k s (n-8) f,qq,dR⟩
def aN (k:LK) (s:Sd.Scene) (Kb:SK fr k):V->List VB->List (Gh fr)->Prop:=λv bl ch=>∃s' F',fR 0 v=true/\s'.c.p=s.c.p/\Kb v s' F'/\bl.take 5=cT k s' F'/\ch=[cB k s' F']
theorem dG {f n:Nat} {M:SM fr} {L:List (eG (Gh fr))} (hL:ao prog gS L)
 (h:∀(ar:List V) (k:LK) (s:Sd.Scene) (F:cz fr (b9 k s)) (Kb:SK fr k),cK 0 ar=true->s.c.p.queue=k.most->M ar k s F Kb->c_ (dQ prog gS L) n f (.ptr 2 0::ar) (cT k s F) [cB k s F] (aN k s Kb)):Body f M:=by
 intro ar k s F Kb a b c R ms w0 w h0 hq hM S;have hg:Gl gS (cW a b c):=by
  intro g i iK;unfold gS at iK;split at iK
  ·obtain rfl:=Option.some.inj iK;exact⟨by simp,rfl⟩
  ·obtain rfl:=Option.some.inj iK;exact⟨by simp,rfl⟩
  ·cases iK
 refine(bW hL.T hL.Q n (C:=dQ prog gS L) (ids:=cW a b c) (bl:=cT k s F) (ch:=[cB k s F]) (R:=R) (ms:=ms) (w0:=w0) (w:=w) hg rfl (by
  have e:ak [cB k s F] R=F.B++R:=rfl;rw[e];exact S) (h ar k s F Kb h0 hq hM)).mono ?_
 rintro v w' ⟨x,more,bl',ch',rfl,h1,S',s',F',hv,hp,hK,hb,rfl⟩;have ev:den (cW a b c++more) x=den [] x:=by have:=bR (ids:=[]) (more:=cW a b c++more) x hv;simpa using this
 refine⟨x,s',F',ev,hv,hp,hK,?_⟩;have hl5:(cT k s' F').length=5:=rfl;have gp:bl'=cT k s' F'++bl'.drop 5:=by rw[<-hb,List.take_append_drop]
 rw[gp]at S';have e2:lits (cW a b c++more) (cW a b c++more) (cT k s' F'++bl'.drop 5)=lits (cW a b c) (cW a b c) (cT k s' F')++lits (cW a b c++more) more (bl'.drop 5):=by
  rw[aY _ _ _ _ (by rw[hl5];rfl)];rw[a_ (ids:=cW a b c) (more:=more) (cW a b c) (cT k s' F') rfl]
 rw[e2]at S';refine S'.sub ?_;have e3:ak [cB k s' F'] R=F'.B++R:=rfl;rw[e3,List.append_assoc];exact List.Sublist.append_left (List.sublist_append_right _ _) _
theorem dh {f:Nat} {M:SM fr} (h:Body f M):oc prog gS ⟨f,false,pk M⟩:=⟨Ov h,λe=>by cases e⟩
def du (s:Sd.Scene):Sd.Scene:={s with c:={s.c with doors:=r3 (s.c.doors 0) (s.c.doors 1) (s.c.doors 2) s.c.doors,tab:=⟨s.c.tab.aF,r3 (s.c.tab.aE 0) (s.c.tab.aE 1) (s.c.tab.aE 2) s.c.tab.aE⟩}}
theorem lX (s:Sd.Scene):du s=s:=by
 unfold du;rw[tR,tR]
theorem qJ {k:LK} {s s':Sd.Scene} {M:(s:Sd.Scene)->cz fr (b9 k s)->Prop} (e:s'=s) (F:cz fr (b9 k s)) (h:M s F) (hx:b9 k s=b9 k s':=by rfl):M s' (hx▸F):=by
 subst e;exact h
theorem fj {ar:List V} {k:LK} {s:Sd.Scene} {M:SM fr} {F:cz fr (b9 k s)} {K:SK fr k} (h:M ar k s F K):M ar k (du s) F K:=qJ (M:=λs F=>M ar k s F K) (lX s) F h
def gT (C:Sd.Crypt):SM fr:=λar k s F K=>match ar with
 |[.int .i64 kd,.int .i64 so,.int .i64 sq,.int .i64 co,.int .i64 ho]=>s.recs.length<=1000/\∀F',K (.aI []) (s.record C kd so sq co ho) F'
 |_=>False
theorem Ct (r c s k t:aC) (B X R:List aC):([r,c,s,k,t]++((B++X)++R)).Perm ([r,s,k]++(B++(c::t::(X++R)))):=by
 refine List.Perm.cons r ?_;have h1:(c::s::k::t::((B++X)++R)).Perm (s::k::c::t::((B++X)++R)):=
  (List.Perm.swap s c _).trans (List.Perm.cons s (List.Perm.swap k c _))
 refine h1.trans (List.Perm.cons s (List.Perm.cons k ?_));have h2:([c,t]++(B++(X++R))).Perm (B++([c,t]++(X++R))):=by
  rw[<-List.append_assoc,<-List.append_assoc B];exact List.Perm.append_right _ List.perm_append_comm
 simpa[List.append_assoc]using h2
theorem aaC {k:LK} {s:Sd.Scene} (F:cz fr (b9 k s)):F.B=F.Br++(F.Bs++(F.Bf++(F.Bq++F.Bk))):=rfl
theorem Cu (tk:Nat->Sd.Byt->Option Sd.dw):Body (fr:=fr) 64 (gT (aq tk)):=by
 intro ar k s F Kb a b c R ms w0 w h0 hq hM S;unfold gT at hM;split at hM
 ·rename_i kd so sq co ho;obtain⟨hn,hK⟩:=hM;have e1:lits (cW a b c) (cW a b c) (cT k s F)=[⟨0,false,.cells (aj .u32 64 aT) k.tg (0,0)⟩,aW (cW a b c) 2 (iI k),⟨a,true,.cells #[.pointer (some ⟨b,0,none⟩),F.vs,F.vr] 108 (0,0)⟩,⟨b,true,.cells (mf s.c.p k.ka k.kn k.kc s.c.t k.bq s.c.doors c s.c.samples s.c.beyond s.c.mode s.c.bP s.c.pt s.c.head) 97 (0,0)⟩,aW (cW a b c) c (gD s)]:=by kernel_rfl
  rw[e1,aaC]at S;have S1:=S.perm (Ct _ _ _ _ _ _ _ _);have e2:(az (cW a b c) (.ptr 2 0::[.int .i64 kd,.int .i64 so,.int .i64 sq,.int .i64 co,.int .i64 ho])).toArray=#[.pointer (some ⟨a,0,none⟩),.int .i64 kd,.int .i64 so,.int .i64 sq,.int .i64 co,.int .i64 ho]:=by kernel_rfl
  rw[e2];refine(Ud _ _ _ _ _ _ _ _ _ _ _ _ _ _ _ _ _ _ _ _ _ _ _ _ kd so sq co ho w S1 F.hr hn).mono ?_;rintro v w1 ⟨x1,c1,wG,rfl,tQ,S2⟩;have hl:(s.record (aq tk) kd so sq co ho).recs.length=s.recs.length+1:=by simp[Sd.Scene.record]
  have wC:eO 6 65 (oh (s.record (aq tk) kd so sq co ho).recs) x1 (s.record (aq tk) kd so sq co ho).recs.length c1 wG:=by rw[hl];exact tQ
  let F':cz fr (b9 k (s.record (aq tk) kd so sq co ho)):={F with xr:=x1,cr:=c1,Br:=wG,hr:=wC}
  refine⟨.aI [],_,F',rfl,rfl,rfl,hK F',?_⟩;have e3:lits (cW a b c) (cW a b c) (cT k (s.record (aq tk) kd so sq co ho) F')=[⟨0,false,.cells (aj .u32 64 aT) k.tg (0,0)⟩,aW (cW a b c) 2 (iI k),⟨a,true,.cells #[.pointer (some ⟨b,0,none⟩),F.vs,.slice x1 (s.record (aq tk) kd so sq co ho).recs.length c1] 108 (0,0)⟩,⟨b,true,.cells (mf s.c.p k.ka k.kn k.kc s.c.t k.bq s.c.doors c s.c.samples s.c.beyond s.c.mode s.c.bP s.c.pt (qq s.c.head ⟨kd,so,sq,s.c.t.epoch,co,ho⟩)) 97 (0,0)⟩,aW (cW a b c) c (gD s)]:=by kernel_rfl
  rw[e3,aaC,hl];exact S2.perm (Ct _ _ _ _ _ _ _ _).symm
 ·exact hM.elim
def eu (k:LK) (s:Sd.Scene) (F:cz fr (b9 k s)):Prop:=F.vs=F.vs/\F.vr=F.vr/\some (aG k)=some (aG k)/\some (iI k)=some (iI k)/\Cq k 4 s=Cq k 4 (du s)/\s.c.p.bU=s.c.p.bU/\s.c.p.bx=s.c.p.bx/\s.c.p.queue=k.most
theorem eZ {k:LK} {s:Sd.Scene} {F:cz fr (b9 k s)} (h:s.c.p.queue=k.most):eu k s F:=⟨rfl,rfl,rfl,rfl,rfl,rfl,rfl,h⟩
def L0 (fr:Sd.Reply->Nat×Sd.Byt) (C:Sd.Crypt):List (eG (Gh fr)):=⟨64,false,pk (gT C)⟩::qL (Gh fr) QV
theorem Xo (tk:Nat->Sd.Byt->Option Sd.dw):ao prog gS (L0 fr (aq tk)):=ao.cons (dh (Cu tk)) (fZ (sW gS))
def sd (C:Sd.Crypt):SM fr:=λar k s F K=>match ar with
 |[.int .i64 l,.int .i64 co]=>s.recs.length<=1000/\∀F',K (.aI []) (s.dp C l co) F'
 |_=>False
theorem JP (C:Sd.Crypt) (k:LK) (s:Sd.Scene) (F:cz fr (b9 k s)) (Kb:SK fr k) (l co:Int):c_ (dQ prog gS (L0 fr C)) 40 83 [.ptr 2 0,.int .i64 l,.int .i64 co] (cT k s F) [cB k s F] (aN k s Kb)
 =(eu k s F/\gT C [.int .i64 1,.int .i64 l,.int .i64 0,.int .i64 co,.int .i64 0] k (du s) F (λv s' F'=>aN k s Kb (.aI []) (cT k s' F') [cB k s' F'])):=by kernel_rfl
theorem Cv (tk:Nat->Sd.Byt->Option Sd.dw):Body (fr:=fr) 83 (sd (aq tk)):=by
 refine dG (n:=40) (Xo tk) ?_;intro ar k s F Kb h0 hq hM;unfold sd at hM;split at hM
 ·rename_i l co;rw[JP];refine⟨eZ hq,fj ⟨hM.1,λF'=>?_⟩⟩;exact⟨_,F',rfl,rfl,hM.2 F',rfl,rfl⟩
 ·exact hM.elim
end Go.Proofs.YtlkpikfddnjilaaGreatDoor
namespace Go.Proofs.YtlkpikfddnjilaaGreatDoor
open Go Go.RowKit Go.BigFrame Sx Vx
def tS (L:List QF) (n f:Nat) (args:List V) (bl:List VB) (K:VK Empty):Prop:=c_ (dQ prog (λ_=>none) (qL Empty L)) n f args bl [] K
theorem pr {L:List QF} (hL:aX prog (λ_=>none) L) {n f:Nat} {args:List V} {v:V} {c:List V} {T:BT} {bt:Nat} {w:World} (h:tS L n f args [⟨false,T,c⟩] λx _ _=>x=v)
 (hT:w.heap[bt]?=some (.cells (ai [] c).toArray T.t T.fz)) (hc:cK 0 c=true) (hv:fR 1 v=true):au prog f (az [bt] args).toArray w λx w1=>x=den [bt] v/\Ch [] w w1:=by
 have e1:ai [bt] c=ai [] c:=b_ (ids:=[]) (more:=[bt]) c hc;have S:=St.given (w:=w) [(bt,.cells (ai [bt] c).toArray T.t T.fz)] (by intro p hp;simp only[List.mem_singleton]at hp;subst hp;rw[e1];exact hT);refine(bW (fZ hL).T (fZ hL).Q n (C:=dQ prog (λ_=>none) (qL Empty L)) (ids:=[bt]) (bl:=[⟨false,T,c⟩]) (ch:=[]) (R:=[]) Gl.none rfl S h).mono ?_;rintro x w' ⟨y,more,bl',ch',rfl,h1,S',rfl⟩;exact⟨bR (ids:=[bt]) _ hv,S'.ch⟩
theorem zW {L:List QF} (hL:aX prog (λ_=>none) L) {n f:Nat} {args:List V} {v:V} {B0:VB} {wr:Bool} {o:Obj} {bt:Nat} {bs:List aC} {ms:List Nat} {w0 w:World}
 (h:tS L n f args [B0] (eB 1 λx b _=>x=v/\∃B,b=[B]/\aW [0] 0 B=⟨0,wr,o⟩/\cK 0 B.c=true)) (hv:fR 0 v=true) (S:St ms w0 ([aW [bt] bt B0]++bs) w):
 au prog f (az [bt] args).toArray w λy w1=>y=den [] v/\St ms w0 ([⟨bt,wr,o⟩]++bs) w1:=by
 refine(bW (fZ hL).T (fZ hL).Q n (C:=dQ prog (λ_=>none) (qL Empty L)) (ids:=[bt]) (bl:=[B0]) (ch:=[]) (R:=bs) Gl.none rfl S h).mono ?_;rintro x w' ⟨y,more,bl',ch',rfl,h1,S',hK⟩;obtain⟨v2,bj,bl2,e,ja,S2,rfl,B,rfl,hB,hw⟩:=eQ (n0:=1) h1 (by simp) S' hK;have hm:bj=[]:=by simpa using ja
 subst hm;refine⟨by rw[e];exact bR (ids:=[]) _ hv,?_⟩;have q:aW [bt] bt B=aW [0] bt B:=cq hw;have q2:aW [0] bt B=⟨bt,wr,o⟩:=by
  unfold aW at hB⊢;simp only[aC.mk.injEq]at hB⊢;exact⟨trivial,hB.2⟩
 have S3:St ms w0 ([aW [bt] bt B]++bs) w':=match ch',S2 with
  |[],S2=>S2
  |e::_,_=>nomatch e
 rw[q,q2]at S3;exact S3
def cj (t:Sd.Tab):Sd.Tab:=⟨t.aF,r3 (t.aE 0) (t.aE 1) (t.aE 2) λ_=>.zero⟩
def aM (y:TC):Sd.Tab:=⟨(y.s1,⟨y.sn,y.sm⟩),r3 y.s0 y.sa y.sb λ_=>.zero⟩
def Ff (bl:List VB) (it:Nat):Option TC:=match bl[it]?with
 |some ⟨_,⟨143,(0,0)⟩,tc⟩=>vj tc
 |_=>none
theorem Um {ids:List Nat} {bl:List VB} {w:World} (hm:Mem ids bl w) {it:Nat} {y:TC} (h:Ff bl it=some y):w.heap[ids.getD it 0]?=some (.cells (jm (aM y).aF (aM y).aE y.b y.m) 143 (0,0)):=by
 unfold Ff at h;split at h
 ·rename_i wr tc hb;obtain rfl:=kl h;have h1:=hm.2 it _ hb;have e:(ai ids (bZ y)).toArray=jm (aM y).aF (aM y).aE y.b y.m:=by kernel_rfl
  rw[<-e];exact h1
 ·cases h
def RF (y:TC):Nat->Sd.bu
 |0=>y.s0
 |1=>y.sa
 |_=>y.sb
def Fg:Int->Option Nat
 |.ofNat 1=>some 0
 |.ofNat 2=>some 1
 |.ofNat 3=>some 2
 |_=>none
theorem tT {s:Int} {i:Nat} (h:Fg s=some i):s=.ofNat (i+1)/\i<3:=by
 unfold Fg at h;split at h<;>first|cases h;exact⟨rfl,by omega⟩|cases h
def tE (b:Bool) (y:TC):List VB:=[⟨b,⟨143,(0,0)⟩,bZ y⟩]
theorem zX {s:Int} (h:Fg s=none):s<1\/3<s:=by
 rcases(by omega:s=1\/s=2\/s=3\/s<1\/3<s)with rfl|rfl|rfl|h|h
 ·cases h
 ·cases h
 ·cases h
 ·exact .inl h
 ·exact .inr h
def JQ:QF:=⟨60,λargs bl=>match args with
 |[.ptr it 0,.int .i64 s]=>(match Ff bl it with
  |some y=>(match Fg s with
   |some i=>(match(RF y i).on with
    |true=>some (True,.ptr it (3+39*i))
    |false=>some (True,.raw (.pointer none)))
   |none=>none)
  |none=>none)
 |_=>none⟩
def qK:QF:=⟨60,λargs bl=>match args with
 |[.ptr it 0,.int .i64 s]=>some (s<1\/3<s,.raw (.pointer none))
 |_=>none⟩
theorem Ow (y:TC) (K:VK Empty):∀i:Nat,i<3->tS [] 30 60 [.ptr 0 0,.int .i64 (.ofNat (i+1))] (tE false y) K=cond (!(RF y i).on) (K (.raw (.pointer none)) (tE false y) []) (K (.ptr 0 (3+39*i)) (tE false y) [])
 |0,_=>by kernel_rfl
 |1,_=>by kernel_rfl
 |2,_=>by kernel_rfl
 |n+3,h=>absurd h (by omega)
theorem Un (b:Nat) (s:Int) (X:V->Prop):jr prog [] 30 60 [.raw (.pointer (some ⟨b,0,none⟩)),.int .i64 s] X=cond (decide (s<1)) (X (.raw (.pointer none))) (cond (decide (s>3)) (X (.raw (.pointer none))) False):=by kernel_rfl
theorem zY {ids:List Nat} {bl:List VB} {w:World} (hm:Mem ids bl w) {it:Nat} {y:TC} (h:Ff bl it=some y):w.heap[ids.getD it 0]?=some (.cells (ai [] (bZ y)).toArray 143 (0,0)):=by
 rw[Um hm h];have e:(ai [] (bZ y)).toArray=jm (aM y).aF (aM y).aE y.b y.m:=by kernel_rfl
 rw[e]
theorem Uo (gl:Nat->Option Nat):JQ.Ok prog gl:=by
 intro args bl p_ v_ h hp ids w _ hm;unfold JQ at h;dsimp only at h;split at h
 ·rename_i it s;split at h
  ·rename_i y hy;have hT:=zY hm hy;split at h
   ·rename_i i hi;obtain⟨rfl,h3⟩:=tT hi;split at h
    ·rename_i ho;simp only[Option.some.injEq,Prod.mk.injEq]at h;obtain⟨rfl,rfl⟩:=h;refine told (pr aX.nil (n:=30) (args:=[.ptr 0 0,.int .i64 (.ofNat (i+1))]) (v:=.ptr 0 (3+39*i)) (T:=⟨143,(0,0)⟩) ?_ hT rfl rfl);show tS [] 30 60 [.ptr 0 0,.int .i64 (.ofNat (i+1))] (tE false y) _;rw[Ow y _ i h3,ho];rfl
    ·rename_i ho;simp only[Option.some.injEq,Prod.mk.injEq]at h;obtain⟨rfl,rfl⟩:=h;refine told (pr aX.nil (n:=30) (args:=[.ptr 0 0,.int .i64 (.ofNat (i+1))]) (v:=.raw (.pointer none)) (T:=⟨143,(0,0)⟩) ?_ hT rfl rfl);show tS [] 30 60 [.ptr 0 0,.int .i64 (.ofNat (i+1))] (tE false y) _;rw[Ow y _ i h3,ho];rfl
   ·cases h
  ·cases h
 ·cases h
theorem Ox (gl:Nat->Option Nat):qK.Ok prog gl:=by
 intro args bl p_ v_ h hp ids w _ hm;unfold qK at h;dsimp only at h;split at h
 ·rename_i it s;simp only[Option.some.injEq,Prod.mk.injEq]at h;obtain⟨rfl,rfl⟩:=h;refine told (oK aX.nil 30 (args:=[.raw (.pointer (some ⟨ids.getD it 0,0,none⟩)),.int .i64 s]) (v:=.raw (.pointer none)) ?_ rfl rfl [] w);show jr prog [] 30 60 _ _;rw[Un];refine aS (λh=>rfl) (λh=>aS (λh=>rfl) λh'=>?_);simp only[decide_eq_false_iff_not]at h h';omega
 ·cases h
theorem Oy:aX prog (λ_=>none) [qK]:=aX.cons (Ox _) aX.nil
theorem ael (y:TC) (K:VK Empty):∀i:Nat,i<3->tS [] 30 33 [.ptr 0 0,.int .i64 (.ofNat (i+1))] (tE false y) K=cond (!(RF y i).on) (K (.bool false) (tE false y) []) (K (.bool true) (tE false y) [])
 |0,_=>by kernel_rfl
 |1,_=>by kernel_rfl
 |2,_=>by kernel_rfl
 |n+3,h=>absurd h (by omega)
theorem aaD (y:TC) (s:Int) (K:VK Empty):tS [qK] 30 33 [.ptr 0 0,.int .i64 s] (tE false y) K=cond (s==4) (K (.bool true) (tE false y) []) (cond (s==0) (K (.bool y.s1) (tE false y) []) ((s<1\/3<s)/\K (.bool false) (tE false y) [])):=by kernel_rfl
theorem Up (y:TC) (K:VK Empty):∀i:Nat,i<3->tS [] 30 34 [.ptr 0 0,.int .i64 (.ofNat (i+1))] (tE false y) K=cond (!(RF y i).on) (K (.int .i64 0) (tE false y) []) (K (.int .i64 (RF y i).role) (tE false y) [])
 |0,_=>by kernel_rfl
 |1,_=>by kernel_rfl
 |2,_=>by kernel_rfl
 |n+3,h=>absurd h (by omega)
theorem Oz (y:TC) (s:Int) (K:VK Empty):tS [qK] 30 34 [.ptr 0 0,.int .i64 s] (tE false y) K=((s<1\/3<s)/\K (.int .i64 0) (tE false y) []):=by kernel_rfl
theorem tU (y:TC):∀i:Nat,i<3->(aM y).fw (.ofNat (i+1))=(RF y i).on
 |0,_=>rfl
 |1,_=>rfl
 |2,_=>rfl
 |n+3,h=>absurd h (by omega)
theorem zZ (t:Sd.Tab) {s:Int} (h:s<1\/3<s):t.fw s=false:=by
 unfold Sd.Tab.fw;have:(decide (1<=s)&&decide (s<=3))=false:=by simp;omega
 rw[this];rfl
theorem aaE (y:TC):∀i:Nat,i<3->(aM y).aE ((Int.ofNat (i+1)).toNat-1)=RF y i
 |0,_=>rfl
 |1,_=>rfl
 |2,_=>rfl
 |n+3,h=>absurd h (by omega)
theorem aem (y:TC):∀i:Nat,i<3->(aM y).on (.ofNat (i+1))=(RF y i).on
 |0,_=>rfl
 |1,_=>rfl
 |2,_=>rfl
 |n+3,h=>absurd h (by omega)
theorem ahf (y:TC) (s:Int) {bt:Nat} {w:World} (hT:w.heap[bt]?=some (.cells (ai [] (bZ y)).toArray 143 (0,0))):au prog 33 (az [bt] [.ptr 0 0,.int .i64 s]).toArray w λx w1=>x=den [bt] (.bool ((aM y).on s))/\Ch [] w w1:=by
 cases h:Fg s with
 |some i=>
  obtain⟨rfl,h3⟩:=tT h;refine pr aX.nil (n:=30) (T:=⟨143,(0,0)⟩) ?_ hT rfl rfl;show tS [] 30 33 [.ptr 0 0,.int .i64 (.ofNat (i+1))] (tE false y) _;rw[ael y _ i h3,aem y i h3];exact aS (λh=>by simp at h;rw[h]) (λh=>by simp at h;rw[h])
 |none=>
  have hs:=zX h;refine pr Oy (n:=30) (T:=⟨143,(0,0)⟩) ?_ hT rfl rfl;show tS [qK] 30 33 [.ptr 0 0,.int .i64 s] (tE false y) _;rw[aaD];unfold Sd.Tab.on;rw[zZ _ hs];refine aS (λh=>?_) (λh=>aS (λh'=>?_) λh'=>⟨hs,?_⟩)
  ·rw[if_pos (by simpa using h)]
  ·rw[if_neg (by simpa using h),if_pos (by simpa using h')];rfl
  ·rw[if_neg (by simpa using h),if_neg (by simpa using h')]
theorem aaF (y:TC) (s:Int) {bt:Nat} {w:World} (hT:w.heap[bt]?=some (.cells (ai [] (bZ y)).toArray 143 (0,0))):au prog 34 (az [bt] [.ptr 0 0,.int .i64 s]).toArray w λx w1=>x=den [bt] (.int .i64 ((aM y).role s))/\Ch [] w w1:=by
 unfold Sd.Tab.role;cases h:Fg s with
 |some i=>
  obtain⟨rfl,h3⟩:=tT h;refine pr aX.nil (n:=30) (T:=⟨143,(0,0)⟩) ?_ hT rfl rfl;show tS [] 30 34 [.ptr 0 0,.int .i64 (.ofNat (i+1))] (tE false y) _;rw[Up y _ i h3,tU y i h3,aaE y i h3];exact aS (λh=>by simp at h;rw[h];rfl) (λh=>by simp at h;rw[h];rfl)
 |none=>
  have hs:=zX h;refine pr Oy (n:=30) (T:=⟨143,(0,0)⟩) ?_ hT rfl rfl;show tS [qK] 30 34 [.ptr 0 0,.int .i64 s] (tE false y) _;rw[Oz,zZ _ hs];exact⟨hs,rfl⟩
def qon:QF:=⟨33,λargs bl=>match args with
 |[.ptr it 0,.int .i64 s]=>(match Ff bl it with|some y=>some (True,.bool ((aM y).on s))|none=>none)
 |_=>none⟩
theorem aaG (gl:Nat->Option Nat):qon.Ok prog gl:=by
 intro args bl p_ v_ h hp ids w _ hm;unfold qon at h;dsimp only at h;split at h
 ·rename_i it s;split at h
  ·rename_i y hy;simp only[Option.some.injEq,Prod.mk.injEq]at h;obtain⟨rfl,rfl⟩:=h;exact told (ahf y s (zY hm hy))
  ·cases h
 ·cases h
def OA:QF:=⟨34,λargs bl=>match args with
 |[.ptr it 0,.int .i64 s]=>(match Ff bl it with|some y=>some (True,.int .i64 ((aM y).role s))|none=>none)
 |_=>none⟩
theorem OB (gl:Nat->Option Nat):OA.Ok prog gl:=by
 intro args bl p_ v_ h hp ids w _ hm;unfold OA at h;dsimp only at h;split at h
 ·rename_i it s;split at h
  ·rename_i y hy;simp only[Option.some.injEq,Prod.mk.injEq]at h;obtain⟨rfl,rfl⟩:=h;exact told (aaF y s (zY hm hy))
  ·cases h
 ·cases h
def zS:List V:=.bool false::.int .i64 0::.int .i64 0::.int .i64 0::(lM [.int .u8 0] 32++[.bool false,.int .i64 0,.int .u64 0])
def Xp (y:TC) (i:Nat) (x:List V):List V:=.bool y.s1::.int .i64 y.sn::.int .i64 y.sm::((bif Nat.beq i 0 then x else r_ y.s0)++((bif Nat.beq i 1 then x else r_ y.sa)++((bif Nat.beq i 2 then x else r_ y.sb)++[.int .i64 y.b,.int .i64 y.m])))
def wE (l:List V):List VB:=[⟨true,⟨143,(0,0)⟩,l⟩]
theorem aaH (y:TC) (K:VK Empty):∀i:Nat,i<3->tS [] 30 175 [.ptr 0 0,.int .i64 (.ofNat (i+1))] (tE true y) (eB 1 K)=cond (!(RF y i).on) (K (.bool false) (tE true y) []) (K (.bool true) (wE (Xp y i zS)) [])
 |0,_=>by kernel_rfl
 |1,_=>by kernel_rfl
 |2,_=>by kernel_rfl
 |n+3,h=>absurd h (by omega)
theorem Uq (y:TC) (s:Int) (K:VK Empty):tS [qK] 30 175 [.ptr 0 0,.int .i64 s] (tE true y) (eB 1 K)=((s<1\/3<s)/\K (.bool false) (tE true y) []):=by kernel_rfl
theorem exE (y:TC):∀i:Nat,i<3->aW [0] 0 ⟨true,⟨143,(0,0)⟩,Xp y i zS⟩=⟨0,true,.cells (jm ((aM y).fe ((Int.ofNat (i+1)).toNat-1) .zero).aF ((aM y).fe ((Int.ofNat (i+1)).toNat-1) .zero).aE y.b y.m) 143 (0,0)⟩
 |0,_=>by kernel_rfl
 |1,_=>by kernel_rfl
 |2,_=>by kernel_rfl
 |n+3,h=>absurd h (by omega)
theorem tV (y:TC):aW [0] 0 ⟨true,⟨143,(0,0)⟩,bZ y⟩=⟨0,true,.cells (jm (aM y).aF (aM y).aE y.b y.m) 143 (0,0)⟩:=by kernel_rfl
theorem z5 (y:TC) (bt:Nat):aW [bt] bt ⟨true,⟨143,(0,0)⟩,bZ y⟩=⟨bt,true,.cells (jm (aM y).aF (aM y).aE y.b y.m) 143 (0,0)⟩:=by kernel_rfl
theorem aen (y:TC):∀i:Nat,cK 0 (Xp y i zS)=true
 |0=>by kernel_rfl
 |1=>by kernel_rfl
 |2=>by kernel_rfl
 |n+3=>by kernel_rfl
theorem aeo (y:TC) (s:Int) {bt:Nat} {bs:List aC} {ms:List Nat} {w0 w:World} (S:St ms w0 ([⟨bt,true,.cells (jm (aM y).aF (aM y).aE y.b y.m) 143 (0,0)⟩]++bs) w):
 au prog 175 (az [bt] [.ptr 0 0,.int .i64 s]).toArray w λu w1=>u=den [] (.bool ((aM y).fw s))/\St ms w0 ([⟨bt,true,.cells (jm ((aM y).end_ s).aF ((aM y).end_ s).aE y.b y.m) 143 (0,0)⟩]++bs) w1:=by
 rw[<-z5]at S;unfold Sd.Tab.end_;cases h:Fg s with
 |some i=>
  obtain⟨rfl,h3⟩:=tT h;refine zW aX.nil (n:=30) (B0:=⟨true,⟨143,(0,0)⟩,bZ y⟩) ?_ rfl S;show tS [] 30 175 [.ptr 0 0,.int .i64 (.ofNat (i+1))] (tE true y) _;rw[aaH y _ i h3,tU y i h3];refine aS (λh=>?_) (λh=>?_)
  ·simp only[Bool.not_eq_true']at h;rw[h];exact⟨rfl,_,rfl,tV y,rfl⟩
  ·simp only[Bool.not_eq_false']at h;rw[h];exact⟨rfl,_,rfl,exE y i h3,aen y i⟩
 |none=>
  have hs:=zX h;refine zW Oy (n:=30) (B0:=⟨true,⟨143,(0,0)⟩,bZ y⟩) ?_ rfl S;show tS [qK] 30 175 [.ptr 0 0,.int .i64 s] (tE true y) _;rw[Uq,zZ _ hs];exact⟨hs,rfl,_,rfl,tV y,rfl⟩
def smL (y:TC):List V:=.bool true::.int .i64 0::.int .i64 (if 0>y.b then 0 else y.b)::(r_ y.s0++(r_ y.sa++(r_ y.sb++[.int .i64 y.b,.int .i64 y.m])))
theorem aaI (y:TC) (K:VK Empty):tS [] 30 95 [.ptr 0 0] (tE true y) (eB 1 K)=K (.aI []) (wE (smL y)) []:=by kernel_rfl
theorem aep (y:TC) (hb:0<=y.b/\y.b<=1000) {bt:Nat} {bs:List aC} {ms:List Nat} {w0 w:World} (S:St ms w0 ([⟨bt,true,.cells (jm (aM y).aF (aM y).aE y.b y.m) 143 (0,0)⟩]++bs) w):
 au prog 95 (az [bt] [.ptr 0 0]).toArray w λu w1=>u=den [] (.aI [])/\St ms w0 ([⟨bt,true,.cells (jm (true,.start y.b) (aM y).aE y.b y.m) 143 (0,0)⟩]++bs) w1:=by
 rw[<-z5]at S;refine zW aX.nil (n:=30) (B0:=⟨true,⟨143,(0,0)⟩,bZ y⟩) ?_ rfl S;show tS [] 30 95 [.ptr 0 0] (tE true y) _;rw[aaI];refine⟨rfl,_,rfl,?_,rfl⟩;have q:aW [0] 0 ⟨true,⟨143,(0,0)⟩,smL y⟩=⟨0,true,.cells (jm (true,⟨0,if 0>y.b then 0 else y.b⟩) (aM y).aE y.b y.m) 143 (0,0)⟩:=by kernel_rfl
 rw[q,mU]
def xM:QF:=⟨170,λargs bl=>match args with
 |[.ptr it 0]=>(match Ff bl it with
  |some y=>some (True,.int .i64 ((aM y).many))
  |none=>none)
 |_=>none⟩
theorem Ur (y:TC) (K:VK Empty):tS [] 30 170 [.ptr 0 0] (tE false y) K=
 let k:Int->Prop:=λn=>K (.int .i64 n) (tE false y) []
 cond y.s0.on (cond y.sa.on (cond y.sb.on (k 3) (k 2)) (cond y.sb.on (k 2) (k 1))) (cond y.sa.on (cond y.sb.on (k 2) (k 1)) (cond y.sb.on (k 1) (k 0))):=by kernel_rfl
theorem OC (gl:Nat->Option Nat):xM.Ok prog gl:=by
 intro args bl p_ v_ h hp ids w _ hm;unfold xM at h;dsimp only at h;split at h
 ·rename_i it;split at h
  ·rename_i y hy;simp only[Option.some.injEq,Prod.mk.injEq]at h;obtain⟨rfl,rfl⟩:=h;refine told (pr aX.nil (n:=30) (args:=[.ptr 0 0]) (v:=.int .i64 ((aM y).many)) (T:=⟨143,(0,0)⟩) ?_ (zY hm hy) rfl rfl);show tS [] 30 170 [.ptr 0 0] (tE false y) _;rw[Ur];have e:(aM y).many=(if y.s0.on then 1 else 0)+(if y.sa.on then 1 else 0)+(if y.sb.on then 1 else 0):=rfl;rw[e];cases y.s0.on<;>cases y.sa.on<;>cases y.sb.on<;>rfl
  ·cases h
 ·cases h
theorem aeq:aX prog (λ_=>none) [JQ,xM]:=aX.cons (Uo _) (aX.cons (OC _) aX.nil)
def onS (k:Sd.bu) (o:Bool):Sd.bu:=⟨o,k.aP,k.role,k.key,k.seen⟩
def onY (y:TC) (i:Nat) (o:Bool):TC:=match i with
 |0=>{y with s0:=onS y.s0 o}
 |1=>{y with sa:=onS y.sa o}
 |_=>{y with sb:=onS y.sb o}
def nS (b r:Int) (key:Nat->Int):List V:=[.bool true,.int .i64 0,.int .i64 (if 0>b then 0 else b),.int .i64 r,.ew .u8 32 key,.bool false,.int .i64 0,.int .u64 0]
def stX (y:TC) (r:Int) (K:VK Empty) (X:Prop):Prop:=cond (decide (r<0)) (K (.int .i64 1) (tE true y) []) (cond (decide (r>=4)) (K (.int .i64 1) (tE true y) []) X)
theorem aer (y:TC) (r:Int) (key:Nat->Int) (K:VK Empty):∀i:Nat,i<3->
 tS [JQ,xM] 60 132 [.ptr 0 0,.int .i64 (.ofNat (i+1)),.int .i64 r,.agg [.ew .u8 32 key]] (tE true (onY y i true)) (eB 1 K)=stX (onY y i true) r K (True/\K (.int .i64 0) (wE (Xp y i (nS y.b r key))) [])/\
 tS [JQ,xM] 60 132 [.ptr 0 0,.int .i64 (.ofNat (i+1)),.int .i64 r,.agg [.ew .u8 32 key]] (tE true (onY y i false)) (eB 1 K)=stX (onY y i false) r K (True/\True/\cond (decide ((aM (onY y i false)).many>=y.m)) (K (.int .i64 19) (tE true (onY y i false)) []) (K (.int .i64 0) (wE (Xp y i (nS y.b r key))) []))
 |0,_=>⟨by kernel_rfl,by kernel_rfl⟩
 |1,_=>⟨by kernel_rfl,by kernel_rfl⟩
 |2,_=>⟨by kernel_rfl,by kernel_rfl⟩
 |n+3,h=>absurd h (by omega)
theorem exN (y:TC) (r:Int) (key:Nat->Int):∀i:Nat,i<3->aW [0] 0 ⟨true,⟨143,(0,0)⟩,Xp y i (nS y.b r key)⟩=⟨0,true,.cells (jm ((aM y).fe ((Int.ofNat (i+1)).toNat-1) ⟨true,⟨0,if 0>y.b then 0 else y.b⟩,r,key,⟨false,0,0⟩⟩).aF ((aM y).fe ((Int.ofNat (i+1)).toNat-1) ⟨true,⟨0,if 0>y.b then 0 else y.b⟩,r,key,⟨false,0,0⟩⟩).aE y.b y.m) 143 (0,0)⟩/\cK 0 (Xp y i (nS y.b r key))=true
 |0,_=>⟨by kernel_rfl,by kernel_rfl⟩
 |1,_=>⟨by kernel_rfl,by kernel_rfl⟩
 |2,_=>⟨by kernel_rfl,by kernel_rfl⟩
 |n+3,h=>absurd h (by omega)
theorem aaJ (y:TC):∀i:Nat,i<3->∃o,(RF y i).on=o/\y=onY y i o
 |0,_=>⟨_,rfl,rfl⟩
 |1,_=>⟨_,rfl,rfl⟩
 |2,_=>⟨_,rfl,rfl⟩
 |n+3,h=>absurd h (by omega)
theorem ai6 (y:TC) (i:Nat) (h3:i<3) (r:Int) (key:Nat->Int) (p:Sd.Pol) (e1:p.bU=y.b) (e2:p.bx=y.m) {bt:Nat} {bs:List aC} {ms:List Nat} {w0 w:World} (S:St ms w0 ([⟨bt,true,.cells (jm (aM y).aF (aM y).aE y.b y.m) 143 (0,0)⟩]++bs) w):
 au prog 132 (az [bt] [.ptr 0 0,.int .i64 (.ofNat (i+1)),.int .i64 r,.agg [.ew .u8 32 key]]).toArray w λu w1=>u=den [] (.int .i64 (Sd.Tab.bw p (aM y) (.ofNat (i+1)) r key).2)/\
  St ms w0 ([⟨bt,true,.cells (jm (Sd.Tab.bw p (aM y) (.ofNat (i+1)) r key).1.aF (Sd.Tab.bw p (aM y) (.ofNat (i+1)) r key).1.aE y.b y.m) 143 (0,0)⟩]++bs) w1:=by
 obtain⟨o,ho,hy⟩:=aaJ y i h3;rw[<-z5]at S;refine zW (args:=[.ptr 0 0,.int .i64 (.ofNat (i+1)),.int .i64 r,.agg [.ew .u8 32 key]]) (v:=.int .i64 (Sd.Tab.bw p (aM y) (.ofNat (i+1)) r key).2) (wr:=true) (o:=.cells (jm (Sd.Tab.bw p (aM y) (.ofNat (i+1)) r key).1.aF (Sd.Tab.bw p (aM y) (.ofNat (i+1)) r key).1.aE y.b y.m) 143 (0,0)) aeq (n:=60) (B0:=⟨true,⟨143,(0,0)⟩,bZ y⟩) ?_ rfl S;generalize hK:(λ(x:V) (b:List VB) (_:List Empty)=>x=V.int i64 (Sd.Tab.bw p (aM y) (Int.ofNat (i+1)) r key).2/\∃B,b=[B]/\aW [0] 0 B=⟨0,true,.cells (jm (Sd.Tab.bw p (aM y) (Int.ofNat (i+1)) r key).1.aF (Sd.Tab.bw p (aM y) (Int.ofNat (i+1)) r key).1.aE y.b y.m) 143 (0,0)⟩/\cK 0 B.c=true)=K;show tS [JQ,xM] 60 132 [.ptr 0 0,.int .i64 (.ofNat (i+1)),.int .i64 r,.agg [.ew .u8 32 key]] (tE true y) (eB 1 K);have hN:=exN y r key i h3;have hi:(Int.ofNat (i+1))=(i:Int)+1:=rfl;have k1:r<0\/4<=r->K (.int .i64 1) (tE true y) []:=λh=>by
  rw[<-hK];have e:Sd.Tab.bw p (aM y) (Int.ofNat (i+1)) r key=(aM y,1):=by unfold Sd.Tab.bw;rw[if_pos (by omega)]
  rw[e];exact⟨rfl,_,rfl,tV y,rfl⟩
 have k0:0<=r->r<4->o=true\/¬y.m<=(aM y).many->K (.int .i64 0) (wE (Xp y i (nS y.b r key))) []:=λh h' h4=>by
  rw[<-hK];have e:Sd.Tab.bw p (aM y) (Int.ofNat (i+1)) r key=((aM y).fe ((Int.ofNat (i+1)).toNat-1) ⟨true,⟨0,if 0>y.b then 0 else y.b⟩,r,key,⟨false,0,0⟩⟩,0):=by
   unfold Sd.Tab.bw;rw[if_neg (by omega),if_neg,e1,mU];rw[tU y i h3,ho,e2];rintro⟨rfl,h5⟩;exact h4.elim (λh=>nomatch h) λh=>h h5
  rw[e];exact⟨rfl,_,rfl,hN.1,hN.2⟩
 have k2:0<=r->r<4->o=false->y.m<=(aM y).many->K (.int .i64 19) (tE true y) []:=λh h' h4 h5=>by
  rw[<-hK];have e:Sd.Tab.bw p (aM y) (Int.ofNat (i+1)) r key=(aM y,19):=by
   unfold Sd.Tab.bw;rw[if_neg (by omega),if_pos];rw[tU y i h3,ho,e2];exact⟨h4,h5⟩
  rw[e];exact⟨rfl,_,rfl,tV y,rfl⟩
 have nY:=aer y r key K i h3;cases o with
 |true=>
  have hv:=nY.1;rw[<-hy]at hv;rw[hv];unfold stX;refine aS (λh=>k1 (.inl (by simpa using h))) (λh=>aS (λh'=>k1 (.inr (by simpa using h'))) λh'=>⟨trivial,?_⟩);exact k0 (by simpa using h) (by simpa using h') (.inl rfl)
 |false=>
  have hv:=nY.2;rw[<-hy]at hv;rw[hv];unfold stX;refine aS (λh=>k1 (.inl (by simpa using h))) (λh=>aS (λh'=>k1 (.inr (by simpa using h'))) λh'=>⟨trivial,trivial,aS (λh5=>?_) λh5=>?_⟩)
  ·exact k2 (by simpa using h) (by simpa using h') rfl (by simpa using h5)
  ·exact k0 (by simpa using h) (by simpa using h') (.inr (by simpa using h5))
variable{fr:Sd.Reply->Nat×Sd.Byt}
def z7:QF:=⟨48,λargs _=>match args with
 |[.int .i64 l]=>some (True,.bool (Sd.linked l))
 |_=>none⟩
theorem JR (l:Int) (X:V->Prop):jr prog [] 20 48 [.int .i64 l] X=(cond (decide (l>=1)) (X (.bool (decide (l<=3)))) (X (.bool false))):=by kernel_rfl
theorem Fh (gl:Nat->Option Nat):z7.Ok prog gl:=by
 intro args bl p_ v_ h hp ids w _ _;unfold z7 at h;dsimp only at h;split at h
 ·rename_i l;simp only[Option.some.injEq,Prod.mk.injEq]at h;obtain⟨rfl,rfl⟩:=h;refine oK aX.nil 20 ?_ rfl rfl ids w;show jr prog [] 20 48 _ _;rw[JR];have e:Sd.linked l=(decide (l>=1)&&decide (l<=3)):=rfl;refine aS (λh=>?_) (λh=>?_)
  ·rw[e,h];rfl
  ·rw[e,h];rfl
 ·cases h
theorem vo (t:Sd.Tab) (s:Int):(cj t).fw s=t.fw s:=by
 unfold Sd.Tab.fw;by_cases h1:1<=s
 ·by_cases h2:s<=3
  ·have:s=1\/s=2\/s=3:=by omega
   rcases this with rfl|rfl|rfl<;>rfl
  ·simp[h2]
 ·simp[h1]
theorem aaK (t:Sd.Tab) (s:Int):(cj t).on s=t.on s:=by
 unfold Sd.Tab.on;rw[vo];rfl
theorem aaL (t:Sd.Tab) (s:Int):(cj t).role s=t.role s:=by
 unfold Sd.Tab.role;rw[vo];by_cases h:t.fw s=true
 ·rw[if_pos h,if_pos h];unfold Sd.Tab.fw at h;simp only[Bool.and_eq_true,decide_eq_true_eq]at h;have:s=1\/s=2\/s=3:=by omega
  rcases this with rfl|rfl|rfl<;>rfl
 ·rw[if_neg h,if_neg h]
def cz.bI {d:FD} (F:cz fr d) (q:List Sd.Ask) (B:List aC) (h:QS d.k.bq d.k.most q B):cz fr {d with q:=q}:={F with Bq:=B,hq:=h}
def vq (k:LK):Value:=.pointer (some ⟨k.bq,0,none⟩)
structure QG where
 f:Nat
 pos:Nat
 m:List V->Int->List Sd.Ask->Option (Prop×V×List Sd.Ask)
def ghC (x:QG):jq (Gh fr):=λargs bl ch K=>match ch with
 |g::rest=>(match args[x.pos]?with
  |some (.raw vp)=>(match x.m (args.eraseIdx x.pos) g.d.k.most g.d.q with
   |some (p,v,q')=>cond (cK 0 args&&fR 0 v) ((vp=vq g.d.k/\p)/\∀B (h:QS g.d.k.bq g.d.k.most q' B),K v bl (⟨{g.d with q:=q'},g.dx,g.sx,g.F.bI q' B h⟩::rest)) False
   |none=>False)
  |_=>False)
 |[]=>False
def QG.Ok (x:QG):Prop:=∀(args:List V) (k:LK) (q:List Sd.Ask) (p:Prop) (v:V) (q':List Sd.Ask),args[x.pos]?=some (.raw (vq k))->x.m (args.eraseIdx x.pos) k.most q=some (p,v,q')->p->∀(B:List aC),QS k.bq k.most q B->∀(bs:List aC) (ms:List Nat) (w0 w:World),St ms w0 (B++bs) w->
 au prog x.f (az [] args).toArray w λy w1=>∃B',y=den [] v/\QS k.bq k.most q' B'/\St ms w0 (B'++bs) w1
theorem tq {d:FD} (F:cz fr d):F.B=F.Br++(F.Bs++(F.Bf++(F.Bq++F.Bk))):=rfl
theorem py (A a b c q e R:List aC):(A++((a++(b++(c++(q++e))))++R)).Perm (q++(A++(a++(b++(c++(e++R)))))):=by
 have h:(A++((a++(b++(c++(q++e))))++R))=(A++(a++(b++c)))++(q++(e++R)):=by simp[List.append_assoc]
 have h2:(q++(A++(a++(b++(c++(e++R))))))=q++((A++(a++(b++c)))++(e++R)):=by simp[List.append_assoc]
 rw[h,h2,<-List.append_assoc,<-List.append_assoc q];exact List.Perm.append_right _ List.perm_append_comm
theorem OD {x:QG} (h:x.Ok) (gl:Nat->Option Nat):Sound prog gl x.f (ghC (fr:=fr) x):=by
 intro args ids bl ch R ms w0 w K hg hl S hc;unfold ghC at hc;split at hc
 ·rename_i g rest;split at hc
  ·rename_i vp hvp;split at hc
   ·rename_i p v q' hm;cases hq:cK 0 args&&fR 0 v with
    |false=>rw[hq]at hc;exact hc.elim
    |true=>
     rw[hq]at hc;simp only[Bool.and_eq_true]at hq;obtain⟨⟨rfl,hp⟩,hK⟩:=hc;have a1:az ids args=az [] args:=by have:=dO (ids:=[]) (more:=ids) args hq.1;simpa using this
     have e0:ak (g::rest) R=g.F.B++ak rest R:=rfl;rw[e0,tq]at S;rw[a1];refine(h args g.d.k g.d.q p v q' hvp hm hp _ g.F.hq _ ms w0 w (S.perm (py _ _ _ _ _ _ _))).mono ?_;rintro y w1 ⟨B',rfl,hB,S1⟩;refine⟨v,[],bl,_,?_,by simpa using hl,?_,hK B' hB⟩
     ·have:=bR (ids:=[]) (more:=ids++[]) v hq.2;simpa using this.symm
     ·have e1:ak (⟨{g.d with q:=q'},g.dx,g.sx,g.F.bI q' B' hB⟩::rest:List (Gh fr)) R=(g.F.Br++(g.F.Bs++(g.F.Bf++(B'++g.F.Bk))))++ak rest R:=rfl;rw[e1,List.append_nil];exact S1.perm (py _ _ _ _ _ _ _).symm
   ·exact hc.elim
  ·exact hc.elim
 ·exact hc.elim
theorem z_ {x:QG} (h:x.Ok):oc (G:=Gh fr) prog gS ⟨x.f,false,ghC x⟩:=⟨OD h gS,λe=>by cases e⟩
def Hq:QG:=⟨102,0,λargs _ q=>match args with
 |[.int .i64 s]=>some (True,.bool (Sd.Q.waits q s),Sd.Q.drop q s)
 |_=>none⟩
theorem Cw:Hq.Ok:=by
 intro args k q p v q' hv hm hp B hB bs ms w0 w S
 match args,hv,hm with
 |a::l,hv,hm=>
  have ha:a=.raw (vq k):=by simpa[Hq]using hv
  subst ha;replace hm:(match(generalizing:=false) l with
   |[.int .i64 s]=>some (True,V.bool (Sd.Q.waits q s),Sd.Q.drop q s)
   |_=>none)=some (p,v,q'):=hm
  split at hm
  ·simp only[Option.some.injEq,Prod.mk.injEq]at hm;obtain⟨rfl,rfl,rfl⟩:=hm;exact aaj _ hB S
  ·cases hm
def g9 (a b c d e f:Int):List V:=[.int .i64 a,.int .i64 b,.int .i64 c,.int .i64 d,.int .i64 e,.int .i64 f,.int .u8 0,.int .u8 0,.int .u8 0,.int .u8 0,.int .u8 0,.int .u8 0,.int .u8 0,.int .u8 0]
def aaM:List V->Option Sd.Reply
 |.int .i64 a::.int .i64 b::.int .i64 c::.int .i64 d::.int .i64 e::.int .i64 f::l=>(match l with
  |[.ew .u8 8 n]=>some ⟨a,b,c,d,e,f,n⟩
  |[.int .u8 (.ofNat 0),.int .u8 (.ofNat 0),.int .u8 (.ofNat 0),.int .u8 (.ofNat 0),.int .u8 (.ofNat 0),.int .u8 (.ofNat 0),.int .u8 (.ofNat 0),.int .u8 (.ofNat 0)]=>some ⟨a,b,c,d,e,f,λ_=>0⟩
  |_=>none)
 |_=>none
def OE:List V->Option Sd.Reply
 |[.int .i64 a,.int .i64 b,.int .i64 c,.int .i64 d,.int .i64 e,.int .i64 f,.int .u8 (.ofNat 0),.int .u8 (.ofNat 0),.int .u8 (.ofNat 0),.int .u8 (.ofNat 0),.int .u8 (.ofNat 0),.int .u8 (.ofNat 0),.int .u8 (.ofNat 0),.int .u8 (.ofNat 0)]=>some ⟨a,b,c,d,e,f,λ_=>0⟩
 |_=>none
theorem OF {l:List V} {r:Sd.Reply} (h:OE l=some r):∃a b c d e f,l=g9 a b c d e f/\r=⟨a,b,c,d,e,f,λ_=>0⟩:=by
 unfold OE at h;split at h
 ·obtain rfl:=Option.some.inj h;exact⟨_,_,_,_,_,_,rfl,rfl⟩
 ·cases h
def Rm (s:Sd.Scene) (n:Nat):Prop:=s.sent.length+n<=1000/\s.recs.length+n<=1000
def N8 (n:Int):Prop:=0<=n/\n<=255
def N4 (n:Int):Prop:=0<=n/\n<=4
def RG (n:Int):Prop:=0<=n/\n<=65535
def RH (n:Int):Prop:=0<=n/\n<=4294967295
structure RB (r:Sd.Reply):Prop where
 kind:129<=r.kind/\r.kind<=136
 seq:RH r.seq/\((r.kind=131\/r.kind=132)\/r.seq=0)
 role:(0<=r.role/\r.role<=3)/\(r.kind=130\/r.role=0)
 jB:N4 r.jB/\((r.kind=130\/r.kind=134\/r.kind=135\/r.kind=136)\/r.jB=0)
 epoch:RG r.epoch/\((r.kind=130\/r.kind=133\/r.kind=134\/r.kind=135)\/r.epoch=0)
 code:N8 r.code/\((r.kind=132\/r.kind=136)\/r.code=0)
 ae:By r.ae/\(r.kind=129\/r.ae=λ_=>0)
def bN:SM fr:=λar k s F K=>match ar with
 |[.int .i64 l,.agg rl]=>(match aaM rl with
  |some r=>(Rm s 1/\RB r)/\∀F',K (.aI []) (s.tell l r) F'
  |none=>False)
 |_=>False
def om:SM fr:=λar k s F K=>match ar with
 |[.int .i64 l,.agg rl]=>(match OE rl with
  |some r=>(Rm s 1/\RB r)/\∀F',K (.aI []) (s.hear l r) F'
  |none=>False)
 |_=>False
def dW (C:Sd.Crypt):SM fr:=λar k s F K=>match ar with
 |[.int .i64 l,.int .i64 n,.int .i64 c]=>(Rm s 1/\RH n/\N8 c)/\∀F',K (.aI []) (s.refuse C l n c) F'
 |_=>False
def jb:SM fr:=λar k s F K=>match ar with
 |[.int .i64 l,.int .i64 n]=>(Rm s 1/\RH n)/\∀F',K (.aI []) (s.done l n) F'
 |_=>False
def mZ:SM fr:=λar k s F K=>match ar with
 |[.int .i64 l,.int .i64 w,.int .i64 c]=>(Rm s 1/\N4 w/\N8 c)/\∀F',K (.aI []) (s.gone l w c) F'
 |_=>False
def L1 (fr:Sd.Reply->Nat×Sd.Byt) (C:Sd.Crypt):List (eG (Gh fr)):=⟨130,false,pk bN⟩::⟨83,false,pk (sd C)⟩::⟨102,false,ghC Hq⟩::qE (Gh fr) z7::qE (Gh fr) qon::qE (Gh fr) OA::L0 fr C
theorem Hr {q:QF} (h:∀gl,q.Ok prog gl):oc (G:=Gh fr) prog gS (qE (Gh fr) q):=⟨qb (h gS),λ_=>qa q.F⟩
theorem Hs (tk:Nat->Sd.Byt->Option Sd.dw) (ht:Body (fr:=fr) 130 bN):ao prog gS (L1 fr (aq tk)):=
 ao.cons (dh ht) (ao.cons (dh (Cv tk)) (ao.cons (z_ Cw) (ao.cons (Hr Fh) (ao.cons (Hr aaG) (ao.cons (Hr OB) (Xo tk))))))
theorem JS (C:Sd.Crypt) (k:LK) (s:Sd.Scene) (F:cz fr (b9 k s)) (Kb:SK fr k) (l n c:Int):c_ (dQ prog gS (L1 fr C)) 40 128 [.ptr 2 0,.int .i64 l,.int .i64 n,.int .i64 c] (cT k s F) [cB k s F] (aN k s Kb)
 =(eu k s F/\bN [.int .i64 l,.agg (g9 132 n 0 0 0 c)] k (du s) F λv s1 F1=>eu k s1 F1/\gT C [.int .i64 7,.int .i64 l,.int .i64 n,.int .i64 c,.int .i64 0] k (du s1) F1 (λv s' F'=>aN k s Kb (.aI []) (cT k s' F') [cB k s' F'])):=by kernel_rfl
theorem Us (C:Sd.Crypt) (k:LK) (s:Sd.Scene) (F:cz fr (b9 k s)) (Kb:SK fr k) (l n:Int):c_ (dQ prog gS (L1 fr C)) 40 174 [.ptr 2 0,.int .i64 l,.int .i64 n] (cT k s F) [cB k s F] (aN k s Kb)
 =(eu k s F/\bN [.int .i64 l,.agg (g9 131 n 0 0 0 0)] k (du s) F λv s' F'=>aN k s Kb (.aI []) (cT k s' F') [cB k s' F']):=by kernel_rfl
theorem Ut (C:Sd.Crypt) (k:LK) (s:Sd.Scene) (F:cz fr (b9 k s)) (Kb:SK fr k) (l a b c d e f:Int):c_ (dQ prog gS (L1 fr C)) 40 110 [.ptr 2 0,.int .i64 l,.agg (g9 a b c d e f)] (cT k s F) [cB k s F] (aN k s Kb)
 =(True/\cond (Sd.linked l) (True/\cond ((cj s.c.tab).on l) (eu k s F/\bN [.int .i64 l,.agg (g9 a b c d e f)] k (du s) F λv s' F'=>aN k s Kb (.aI []) (cT k s' F'++[⟨true,⟨75,(0,0)⟩,g9 a b c d e f⟩]) [cB k s' F']) (aN k s Kb (.aI []) (cT k s F++[⟨true,⟨75,(0,0)⟩,g9 a b c d e f⟩]) [cB k s F]))
  (aN k s Kb (.aI []) (cT k s F++[⟨true,⟨75,(0,0)⟩,g9 a b c d e f⟩]) [cB k s F])):=by kernel_rfl
theorem by0:By (λ_=>0):=λj=>⟨Int.le_refl 0,by show(0:Int)<=255;decide⟩
theorem rb {a b d e f:Int} (h1:129<=a/\a<=136) (h2:RH b) (h4:N4 d) (h5:RG e) (h6:N8 f) (k2:(a=131\/a=132)\/b=0:=by simp) (k4:(a=130\/a=134\/a=135\/a=136)\/d=0:=by simp)
 (k5:(a=130\/a=133\/a=134\/a=135)\/e=0:=by simp) (k6:(a=132\/a=136)\/f=0:=by simp):RB ⟨a,b,0,d,e,f,λ_=>0⟩:=⟨h1,⟨h2,k2⟩,⟨show(0:Int)<=0/\(0:Int)<=3 by decide,.inr rfl⟩,⟨h4,k4⟩,⟨h5,k5⟩,⟨h6,k6⟩,⟨by0,.inr rfl⟩⟩
theorem z4:N4 0:=⟨by decide,by decide⟩
theorem z8:N8 0:=⟨by decide,by decide⟩
theorem z16:RG 0:=⟨by decide,by decide⟩
theorem Uu:RH 0:=⟨by decide,by decide⟩
theorem aK {k:LK} {s0:Sd.Scene} {Kb:SK fr k} {v:V} {s s':Sd.Scene} (e:s'=s) {bl:List VB} (hK:∀F,Kb v s F) (F':cz fr (b9 k s')) (hv:fR 0 v=true:=by rfl) (hp:s'.c.p=s0.c.p:=by rfl) (hb:bl.take 5=cT k s' F':=by kernel_rfl):aN k s0 Kb v bl [cB k s' F']:=by
 subst e;exact⟨s',F',hv,hp,hK F',hb,rfl⟩
section
variable{k:LK} {s:Sd.Scene} {F:cz fr (b9 k s)} {K:SK fr k}
theorem Aa {l a b c d e f:Int} (h:Rm s 1/\RB ⟨a,b,c,d,e,f,λ_=>0⟩) (hK:∀F',K (.aI []) (s.tell l ⟨a,b,c,d,e,f,λ_=>0⟩) F'):bN [.int .i64 l,.agg (g9 a b c d e f)] k (du s) F K:=by
 have e:bN [.int .i64 l,.agg (g9 a b c d e f)] k s F K=((Rm s 1/\RB ⟨a,b,c,d,e,f,λ_=>0⟩)/\∀F',K (.aI []) (s.tell l ⟨a,b,c,d,e,f,λ_=>0⟩) F'):=by kernel_rfl
 exact fj (M:=bN) (e▸⟨h,hK⟩)
theorem tW {l a b c d e f:Int} (h:Rm s 1/\RB ⟨a,b,c,d,e,f,λ_=>0⟩) (hK:∀F',K (.aI []) (s.hear l ⟨a,b,c,d,e,f,λ_=>0⟩) F'):om [.int .i64 l,.agg (g9 a b c d e f)] k (du s) F K:=by
 have e:om [.int .i64 l,.agg (g9 a b c d e f)] k s F K=((Rm s 1/\RB ⟨a,b,c,d,e,f,λ_=>0⟩)/\∀F',K (.aI []) (s.hear l ⟨a,b,c,d,e,f,λ_=>0⟩) F'):=by kernel_rfl
 exact fj (M:=om) (e▸⟨h,hK⟩)
theorem fk {C:Sd.Crypt} {a b c d e:Int} (h:s.recs.length<=1000) (hK:∀F',K (.aI []) (s.record C a b c d e) F'):gT C [.int .i64 a,.int .i64 b,.int .i64 c,.int .i64 d,.int .i64 e] k (du s) F K:=by
 have e:gT C [.int .i64 a,.int .i64 b,.int .i64 c,.int .i64 d,.int .i64 e] k s F K=(s.recs.length<=1000/\∀F',K (.aI []) (s.record C a b c d e) F'):=by kernel_rfl
 exact fj (M:=gT C) (e▸⟨h,hK⟩)
end
theorem Cx (tk:Nat->Sd.Byt->Option Sd.dw) (ht:Body (fr:=fr) 130 bN):Body (fr:=fr) 128 (dW (aq tk)):=by
 refine dG (n:=40) (Hs tk ht) ?_;intro ar k s F Kb h0 hq hM;unfold dW at hM;split at hM
 ·rename_i l n c;have h1:=hM.1.1;have h2:=hM.1.2.1;have h3:=hM.1.2.2;have hK:=hM.2;rw[JS];refine⟨eZ hq,Aa ⟨h1,rb (by decide) h2 z4 z16 h3⟩ λF1=>⟨eZ hq,fk ?_ λF2=>aK rfl hK F2⟩⟩;have:=h1.2;simp only[Sd.Scene.tell];omega
 ·exact hM.elim
theorem JT (tk:Nat->Sd.Byt->Option Sd.dw) (ht:Body (fr:=fr) 130 bN):Body (fr:=fr) 174 jb:=by
 refine dG (n:=40) (Hs tk ht) ?_;intro ar k s F Kb h0 hq hM;unfold jb at hM;split at hM
 ·rename_i l n;have h1:=hM.1.1;have h2:=hM.1.2;have hK:=hM.2;rw[Us];exact⟨eZ hq,Aa ⟨h1,rb (by decide) h2 z4 z16 z8⟩ λF1=>aK rfl hK F1⟩
 ·exact hM.elim
theorem JU (tk:Nat->Sd.Byt->Option Sd.dw) (ht:Body (fr:=fr) 130 bN):Body (fr:=fr) 110 om:=by
 refine dG (n:=40) (Hs tk ht) ?_;intro ar k s F Kb h0 hq hM;unfold om at hM;split at hM
 ·rename_i l rl;split at hM
  ·rename_i r hr;obtain⟨a,b,c,d,e,f,rfl,rfl⟩:=OF hr;have h1:=hM.1.1;have h2:=hM.1.2;have hK:=hM.2;rw[Ut,aaK];refine⟨trivial,aS (λe1=>⟨trivial,aS (λe2=>?_) (λe2=>?_)⟩) (λe1=>?_)⟩
   ·refine⟨eZ hq,Aa ⟨h1,h2⟩ λF1=>aK ?_ hK F1⟩;simp only[Sd.Scene.hear,e1,e2,Bool.and_self,if_true]
   ·refine aK ?_ hK F;simp[Sd.Scene.hear,e1,e2]
   ·refine aK ?_ hK F;simp[Sd.Scene.hear,e1]
  ·exact hM.elim
 ·exact hM.elim
def L2 (fr:Sd.Reply->Nat×Sd.Byt) (C:Sd.Crypt):List (eG (Gh fr)):=⟨128,false,pk (dW C)⟩::⟨174,false,pk jb⟩::⟨110,false,pk om⟩::L1 fr C
theorem Ht (tk:Nat->Sd.Byt->Option Sd.dw) (ht:Body (fr:=fr) 130 bN):ao prog gS (L2 fr (aq tk)):=
 ao.cons (dh (Cx tk ht)) (ao.cons (dh (JT tk ht)) (ao.cons (dh (JU tk ht)) (Hs tk ht)))
section
variable(C:Sd.Crypt) (k:LK) (s:Sd.Scene) (F:cz fr (b9 k s)) (Kb:SK fr k)
theorem Uv (l n c:Int):c_ (dQ prog gS (L2 fr C)) 40 67 [.ptr 2 0,.int .i64 l,.int .i64 n,.int .i64 c] (cT k s F) [cB k s F] (aN k s Kb)
 =(eu k s F/\om [.int .i64 l,.agg (g9 136 0 0 n 0 c)] k (du s) F λv s' F'=>aN k s Kb (.aI []) (cT k s' F') [cB k s' F']):=by kernel_rfl
theorem Uw (m:Int) (b:Sd.Label):c_ (dQ prog gS (L2 fr C)) 40 103 [.ptr 2 0,.int .i64 m,.agg (mr b)] (cT k s F) [cB k s F] (aN k s Kb)
 =(True/\aN k s Kb (.aI []) (cT k (s.dF m b) F++[⟨true,⟨38,(0,0)⟩,mr b⟩]) [cB k s F]):=by kernel_rfl
def gs1 (s:Sd.Scene) (t:Sd.Tok):Sd.Scene:={s with c:={s.c with t:=t,q:=Sd.Q.drop s.c.q t.holder}}
theorem Ux (t:Sd.Tok) (h n:Int):c_ (dQ prog gS (L2 fr C)) 60 101 [.ptr 2 0,.agg (cI t),.int .i64 h,.int .i64 n] (cT k s F) [cB k s F] (aN k s Kb)
 =((vq k=vq k/\True)/\∀B (hB:QS k.bq k.most (Sd.Q.drop s.c.q t.holder) B),
  eu k (gs1 s t) (F.bI _ B hB)/\om [.int .i64 s.c.t.holder,.agg (g9 134 0 0 t.holder t.epoch 0)] k (du (gs1 s t)) (F.bI _ B hB) λv s2 F2=>
  eu k s2 F2/\om [.int .i64 t.holder,.agg (g9 133 0 0 0 t.epoch 0)] k (du s2) F2 λv s3 F3=>
  eu k s3 F3/\gT C [.int .i64 8,.int .i64 t.holder,.int .i64 n,.int .i64 0,.int .i64 h] k (du s3) F3 λv s' F'=>aN k s Kb (.aI []) (cT k s' F'++[⟨true,⟨88,(0,0)⟩,cI t⟩]) [cB k s' F']):=by kernel_rfl
def qd (s:Sd.Scene) (l:Int):Sd.Scene:={s with c:={s.c with q:=Sd.Q.drop s.c.q l}}
def fF (s:Sd.Scene) (t:Sd.Tok):Sd.Scene:={s with c:={s.c with t:=t}}
end
theorem hear_c (s:Sd.Scene) (l:Int) (r:Sd.Reply):(s.hear l r).c=s.c:=by unfold Sd.Scene.hear;split<;>rfl
theorem hear_recs (s:Sd.Scene) (l:Int) (r:Sd.Reply):(s.hear l r).recs=s.recs:=by unfold Sd.Scene.hear;split<;>rfl
theorem JV (s:Sd.Scene) (l:Int) (r:Sd.Reply):(s.hear l r).sent.length<=s.sent.length+1:=by unfold Sd.Scene.hear Sd.Scene.tell;split<;>simp
theorem Rm.hear {s:Sd.Scene} {l:Int} {r:Sd.Reply} {n:Nat} (h:Rm s (n+1)):Rm (s.hear l r) n:=by
 have h1:=JV s l r;have h2:=hear_recs s l r;have:=h.1;have:=h.2
 exact⟨by omega,by rw[h2];omega⟩
theorem Rm.rec {s:Sd.Scene} {C:Sd.Crypt} {a b c d e:Int} {n:Nat} (h:Rm s (n+1)):Rm (s.record C a b c d e) n:=by
 have:=h.1;have:=h.2
 exact⟨by simp only[Sd.Scene.record];omega,by simp only[Sd.Scene.record,List.length_append,List.length_singleton];omega⟩
theorem Rm.le {s:Sd.Scene} {n m:Nat} (h:Rm s n) (hm:m<=n):Rm s m:=⟨by have:=h.1;omega,by have:=h.2;omega⟩
theorem Rm.r1 {s:Sd.Scene} {n:Nat} (h:Rm s n):s.recs.length<=1000:=by have:=h.2;omega
section
variable(tk:Nat->Sd.Byt->Option Sd.dw)
include tk
theorem JW (ht:Body (fr:=fr) 130 bN):Body (fr:=fr) 67 mZ:=by
 refine dG (n:=40) (Ht tk ht) ?_;intro ar k s F Kb h0 hq hM;unfold mZ at hM;split at hM
 ·rename_i l n c;have h1:=hM.1.1;have h2:=hM.1.2.1;have h3:=hM.1.2.2;have hK:=hM.2;rw[Uv];exact⟨eZ hq,tW ⟨h1,rb (by decide) Uu h2 z16 h3⟩ λF1=>aK rfl hK F1 (hp:=by unfold Sd.Scene.gone;rw[hear_c])⟩
 ·exact hM.elim
def qM:SM fr:=λar k s F K=>match ar with
 |[.int .i64 m,.agg bl]=>(match NS bl with
  |some b=>∀F',K (.aI []) (s.dF m b) F'
  |none=>False)
 |_=>False
theorem JX (ht:Body (fr:=fr) 130 bN):Body (fr:=fr) 103 qM:=by
 refine dG (n:=40) (Ht tk ht) ?_;intro ar k s F Kb h0 hq hM;unfold qM at hM;split at hM
 ·rename_i m bl;split at hM
  ·rename_i b hb;obtain rfl:=zG hb;rw[Uw (aq tk)];exact⟨trivial,aK (s':=s.dF m b) rfl hM F⟩
  ·exact hM.elim
 ·exact hM.elim
def lu (C:Sd.Crypt):SM fr:=λar k s F K=>match ar with
 |[.agg tl,.int .i64 h,.int .i64 n]=>(match kI tl with
  |some t=>(Rm s 4/\N4 t.holder/\RG t.epoch)/\∀F',K (.aI []) (s.goes C t h n) F'
  |none=>False)
 |_=>False
theorem JY (ht:Body (fr:=fr) 130 bN):Body (fr:=fr) 101 (lu (aq tk)):=by
 refine dG (n:=60) (Ht tk ht) ?_;intro ar k s F Kb h0 hq hM;unfold lu at hM;split at hM
 ·rename_i tl h n;split at hM
  ·rename_i t hb;obtain rfl:=eV hb;have h1:Rm (gs1 s t) 4:=hM.1.1;have h2:=hM.1.2.1;have h3:=hM.1.2.2;have hK:=hM.2;rw[Ux];refine⟨⟨rfl,trivial⟩,λB hB=>⟨eZ hq,tW ⟨h1.le (by decide),rb (by decide) Uu h2 h3 z8⟩ λF2=>⟨eZ ?_,tW ⟨h1.hear.le (by decide),rb (by decide) Uu z4 h3 z8⟩ λF3=>⟨eZ ?_,fk h1.hear.hear.r1 λF4=>aK rfl hK F4 (hp:=?_)⟩⟩⟩⟩
   ·rw[hear_c];exact hq
   ·rw[hear_c,hear_c];exact hq
   ·show(Sd.Scene.hear _ _ _).c.p=_;rw[hear_c,hear_c]
  ·exact hM.elim
 ·exact hM.elim
end
def L3 (fr:Sd.Reply->Nat×Sd.Byt) (C:Sd.Crypt):List (eG (Gh fr)):=⟨67,false,pk mZ⟩::⟨103,false,pk qM⟩::⟨101,false,pk (lu C)⟩::L2 fr C
theorem Xq (tk:Nat->Sd.Byt->Option Sd.dw) (ht:Body (fr:=fr) 130 bN):ao prog gS (L3 fr (aq tk)):=
 ao.cons (dh (JW tk ht)) (ao.cons (dh (JX tk ht)) (ao.cons (dh (JY tk ht)) (Ht tk ht)))
theorem OG (C:Sd.Crypt) (k:LK) (s:Sd.Scene) (F:cz fr (b9 k s)) (Kb:SK fr k) (l:Int):c_ (dQ prog gS (L3 fr C)) 60 65 [.ptr 2 0,.int .i64 l] (cT k s F) [cB k s F] (aN k s Kb)
 =((vq k=vq k/\True)/\∀B (hB:QS k.bq k.most (Sd.Q.drop s.c.q l) B),True/\cond (!(s.c.t.drop l).2) (aN k s Kb (.aI []) (cT k (qd s l) (F.bI _ B hB)++[⟨true,⟨88,(0,0)⟩,cI (s.c.t.drop l).1⟩]) [cB k (qd s l) (F.bI _ B hB)])
  (eu k (fF (qd s l) (s.c.t.drop l).1) (F.bI _ B hB)/\mZ [.int .i64 (s.c.t.drop l).1.holder,.int .i64 l,.int .i64 16] k (du (fF (qd s l) (s.c.t.drop l).1)) (F.bI _ B hB) λv s2 F2=>
   eu k s2 F2/\gT C [.int .i64 12,.int .i64 l,.int .i64 0,.int .i64 16,.int .i64 0] k (du s2) F2 λv s' F'=>aN k s Kb (.aI []) (cT k s' F'++[⟨true,⟨88,(0,0)⟩,cI (s.c.t.drop l).1⟩]) [cB k s' F'])):=by kernel_rfl
theorem gone_c (s:Sd.Scene) (l w c:Int):(s.gone l w c).c=s.c:=hear_c _ _ _
theorem gone_recs (s:Sd.Scene) (l w c:Int):(s.gone l w c).recs=s.recs:=hear_recs _ _ _
theorem Rm.gone {s:Sd.Scene} {l w c:Int} {n:Nat} (h:Rm s (n+1)):Rm (s.gone l w c) n:=h.hear
section
variable{k:LK} {s:Sd.Scene} {F:cz fr (b9 k s)} {K:SK fr k}
theorem qN {l w c:Int} (h:Rm s 1/\N4 w/\N8 c) (hK:∀F',K (.aI []) (s.gone l w c) F'):mZ [.int .i64 l,.int .i64 w,.int .i64 c] k (du s) F K:=by
 have e:mZ [.int .i64 l,.int .i64 w,.int .i64 c] k s F K=((Rm s 1/\N4 w/\N8 c)/\∀F',K (.aI []) (s.gone l w c) F'):=by kernel_rfl
 exact fj (M:=mZ) (e▸⟨h,hK⟩)
theorem iu {l n:Int} (h:Rm s 1/\RH n) (hK:∀F',K (.aI []) (s.done l n) F'):jb [.int .i64 l,.int .i64 n] k (du s) F K:=by
 have e:jb [.int .i64 l,.int .i64 n] k s F K=((Rm s 1/\RH n)/\∀F',K (.aI []) (s.done l n) F'):=by kernel_rfl
 exact fj (M:=jb) (e▸⟨h,hK⟩)
theorem gy {C:Sd.Crypt} {l n c:Int} (h:Rm s 1/\RH n/\N8 c) (hK:∀F',K (.aI []) (s.refuse C l n c) F'):dW C [.int .i64 l,.int .i64 n,.int .i64 c] k (du s) F K:=by
 have e:dW C [.int .i64 l,.int .i64 n,.int .i64 c] k s F K=((Rm s 1/\RH n/\N8 c)/\∀F',K (.aI []) (s.refuse C l n c) F'):=by kernel_rfl
 exact fj (M:=dW C) (e▸⟨h,hK⟩)
theorem vt {C:Sd.Crypt} {l c:Int} (h:s.recs.length<=1000) (hK:∀F',K (.aI []) (s.dp C l c) F'):sd C [.int .i64 l,.int .i64 c] k (du s) F K:=by
 have e:sd C [.int .i64 l,.int .i64 c] k s F K=(s.recs.length<=1000/\∀F',K (.aI []) (s.dp C l c) F'):=by kernel_rfl
 exact fj (M:=sd C) (e▸⟨h,hK⟩)
theorem lY {C:Sd.Crypt} {t:Sd.Tok} {h n:Int} (hh:Rm s 4/\N4 t.holder/\RG t.epoch) (hK:∀F',K (.aI []) (s.goes C t h n) F'):lu C [.agg (cI t),.int .i64 h,.int .i64 n] k (du s) F K:=by
 have e:lu C [.agg (cI t),.int .i64 h,.int .i64 n] k s F K=((Rm s 4/\N4 t.holder/\RG t.epoch)/\∀F',K (.aI []) (s.goes C t h n) F'):=by kernel_rfl
 exact fj (M:=lu C) (e▸⟨hh,hK⟩)
theorem Ab {m:Int} {b:Sd.Label} (hK:∀F',K (.aI []) (s.dF m b) F'):qM [.int .i64 m,.agg (mr b)] k (du s) F K:=by
 have e:qM [.int .i64 m,.agg (mr b)] k s F K=(∀F',K (.aI []) (s.dF m b) F'):=by kernel_rfl
 exact fj (M:=qM) (e▸hK)
end
def jL (C:Sd.Crypt):SM fr:=λar k s F K=>match ar with
 |[.int .i64 l]=>(Rm s 2/\N4 l)/\∀F',K (.aI []) (s.leave C l) F'
 |_=>False
theorem Fi (tk:Nat->Sd.Byt->Option Sd.dw) (ht:Body (fr:=fr) 130 bN):Body (fr:=fr) 65 (jL (aq tk)):=by
 refine dG (n:=60) (Xq tk ht) ?_;intro ar k s F Kb h0 hq hM;unfold jL at hM;split at hM
 ·rename_i l;have h1:Rm (fF (qd s l) (s.c.t.drop l).1) 2:=hM.1.1;have h2:=hM.1.2;have hK:=hM.2;rw[OG];refine⟨⟨rfl,trivial⟩,λB hB=>⟨trivial,aS (λe=>?_) (λe=>?_)⟩⟩
  ·refine aK (s':=qd s l) ?_ hK (F.bI (Sd.Q.drop s.c.q l) B hB);simp only[Bool.not_eq_true']at e;exact(if_pos e).symm
  ·refine⟨eZ hq,qN ⟨h1.le (by decide),h2,⟨by decide,by decide⟩⟩ λF2=>⟨eZ ?_,fk h1.gone.r1 λF3=>aK ?_ hK F3 (hp:=?_)⟩⟩
   ·rw[gone_c];exact hq
   ·simp only[Bool.not_eq_false']at e;have fc:¬(s.c.t.drop l).2=false:=by rw[e];decide
    exact(if_neg fc).symm
   ·show(Sd.Scene.gone _ _ _ _).c.p=_;rw[gone_c];rfl
 ·exact hM.elim
end Go.Proofs.YtlkpikfddnjilaaGreatDoor
