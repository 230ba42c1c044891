/- Part 23 of the proof. -/
import Derived.Test.YtlkpikfddnjilaaGreatDoorQ22
set_option linter.all false
set_option maxRecDepth 100000
set_option maxHeartbeats 4000000
open Go.Proofs.Tryz
open Go.IntKind (u8 u16 u32 u64 i64)
namespace Go.Proofs.YtlkpikfddnjilaaGreatDoor
open Go Go.RowKit Go.BigFrame Sx Vx
def pvA (m:Nat) (f:Nat->Int) (B:Nat) (v:Value) (w:World):Prop:=∃b c',v=.slice (some ⟨b,0,none⟩) m c'/\m<=c'/\B<=b/\w.heap[b]?=some (.cells (cN m f c') 5 (0,0))
theorem ajS {lf l:List Oper} {sp:Nat->Sp} {a0:Act} {w:World} {i k0:Nat} {pre:List (List Nat)} {o:Oper} {a:Option Addr} {m c:Nat} {f:Nat->Int} (hk:cn w a m c f) (d1 d2 j1 j2:Nat) {t tx e':TypeId}
 (ho:o.op=.call ⟨.builtin .append,#[.tmp d1,.tmp d2],#[t,tx]⟩:=by rfl)
 (hg:o.guard.isNone=true:=by kernel_rfl) (he:Nat.beq i k0=true:=by kernel_rfl)
 (w_:mu l o d1=some j1:=by kernel_rfl) (hj1:Nat.beq j1 k0=false:=by kernel_rfl) (ajT:sp j1=sB 0 [] 5:=by rfl)
 (Js:mu l o d2=some j2:=by kernel_rfl) (S_:Nat.beq j2 k0=false:=by kernel_rfl) (Ho:sp j2=s0 (.slice a m c):=by rfl)
 (ht:prog.underlying t=some (.slice 5):=by kernel_rfl) (pJ:prog.underlying tx=some (.slice e'):=by kernel_rfl):
 fh prog k0 pre [] (HQ k0 (pvA m f w.heap.size) sp w.heap.size) lf l (eY a0) w i o:=by
 intro y w' ZZ hc jr eu;have lT:i=k0:=Nat.eq_of_beq_eq_true he;have ZW:o.guard=none:=by cases hx:o.guard<;>simp_all
 obtain⟨b,hy1,hbB,hb⟩:∃b,y d1=.slice (some ⟨b,0,none⟩) 0 0/\w.heap.size<=b/\w'.heap[b]?=some (.cells #[] 5 (0,0)):=by
  obtain⟨TO,hd⟩:=gU w_;have h2:=eu j1 d1 TO hd;unfold HQ at h2;rw[hj1,ajT]at h2;obtain⟨ids,h3,h4,h5⟩:=h2
  match ids,h3 with
  |[b],_=>exact⟨b,h4,h5 (b,.cells [].toArray 5 (0,0)) (List.mem_singleton.2 rfl)⟩
 have hy2:y d2=.slice a m c:=by
  obtain⟨TO,hd⟩:=gU Js;have h2:=eu j2 d2 TO hd;unfold HQ at h2;rw[S_,Ho]at h2;obtain⟨ids,h3,h4,_⟩:=h2;exact h4
 have hkw:cn w' a m c f:=hk.quiet hc;have fp:=y9 (P:=prog) hkw pJ;refine⟨λ_=>?_,λhw=>by simp[dk,ZW]at hw⟩;unfold Sx.Yields;by_cases hm:m=0
 ·subst hm;rw[bN (ρ:=MO y) ho (sv:=.slice (some ⟨b,0,none⟩) 0 0) (xv:=.slice a 0 c) hy1 hy2 (yB (g:=f) fp ht ⟨b,0,none⟩)];refine⟨λ_=>Ch.refl _ _,λe=>absurd lT e,?_⟩;unfold HQ;rw[he];exact⟨b,0,rfl,Nat.le_refl _,hbB,hb⟩
 ·obtain⟨c',w2,a_,fP,hle,rC⟩:=rA (g:=f) (x:=a) (ty:=o.type) (t:=t) fp ht (by omega) (by have:=hk.1;omega) ⟨b,0,none⟩;rw[bN (ρ:=MO y) ho (sv:=.slice (some ⟨b,0,none⟩) 0 0) (xv:=.slice a m c) hy1 hy2 a_];refine⟨λ_=>fP,λe=>absurd lT e,?_⟩;unfold HQ;rw[he];exact⟨w'.heap.size,c',rfl,hle,hc.size,rC⟩
theorem ahf {P:Program} {a0:Act} {w w0:World} {Q:Exit->Act->World->Prop} {id:Nat} {L:List Oper} {ms:List Nat} {bs:List ax} (S:St ms w0 bs w) (m k0 i1 mm:Nat) (f:Nat->Int) (pre:List (List Nat)) (cS:List Value) (paths:List (List Nat))
 (hs:dZ P k0 pre [] (HQ k0 (pvA mm f w.heap.size) (Ev ((cS.map s0).set i1 (sB 0 [] 5))) w.heap.size) L (L.take m) (eY a0) w 0 (L.take m))
 (hq:∀b c' u w',mm<=c'->St ms w0 (⟨b,true,.cells (cN mm f c') 5 (0,0)⟩::bs) w'->WL P L.toArray Q (L.drop m) (kD ((cS.set k0 (.slice (some ⟨b,0,none⟩) mm c')).set i1 u) (L.take m) a0) w')
 (hk:Nat.blt k0 m=true:=by kernel_rfl) (hi:Nat.blt i1 m=true:=by kernel_rfl) (lT:Nat.beq i1 k0=false:=by kernel_rfl) (hvl:cS.length=m:=by kernel_rfl) (eu:xL (L.take m) k0 pre=true:=by kernel_rfl)
 (hm:P.follows .mixedOrders=true:=by kernel_rfl) (hl:Nat.ble m L.length=true:=by kernel_rfl) (ht:gT L m paths=true:=by kernel_rfl) (jm:k_ a0.tmps.size (L.take m)=true:=by kernel_rfl) (dm:eG 0 L=true:=by kernel_rfl):(Code.region id L.toArray true).wp P Q a0 w:=by
 have Jo:(L.take m).length=m:=by have:=Nat.le_of_ble_eq_true hl;simp;omega
 have xn:k0<m:=by simpa[Nat.blt_eq]using hk
 have w8:i1<m:=by simpa[Nat.blt_eq]using hi
 have eS:i1≠k0:=λe=>by rw[e]at lT;simp at lT
 refine yV m k0 pre [] (pvA mm f w.heap.size) cS paths _ eu ?_ (by simp) hs ?_ hm hl ht jm dm
 ·rintro v w1 w2 hc ⟨b,c',h1,h2,h3,h4⟩;exact⟨b,c',h1,h2,h3,(hc.block _ (fg h4) (by simp)).trans h4⟩
 ·intro vs w' hc cT;have hK:=cT k0 xn;unfold HQ at hK;rw[show Nat.beq k0 k0=true from Nat.beq_refl k0]at hK;obtain⟨b,c',hv,hle,hB,rC⟩:=hK;have S2:=S.new hc hB rC;have hp:bE vs 0 (L.take m) a0=kD ((cS.set k0 (.slice (some ⟨b,0,none⟩) mm c')).set i1 (vs i1)) (L.take m) a0:=pS (by rw[List.length_set,List.length_set];omega) λi o u ho hu=>by
   have hi2:i<m:=by
    rcases Nat.lt_or_ge i m with h|h
    ·exact h
    ·rw[List.getElem?_eq_none (by simp;omega)]at hu;simp at hu
   refine .inr ?_;rw[Nat.zero_add];by_cases h1:i=i1
   ·subst h1;rw[List.getElem?_set_self (by simp;omega)]at hu;exact Option.some.inj hu
   ·rw[List.getElem?_set_ne (λe=>h1 e.symm)]at hu;by_cases h2:i=k0
    ·subst h2;rw[List.getElem?_set_self (by omega)]at hu;rw[hv];exact Option.some.inj hu
    ·rw[List.getElem?_set_ne (λe=>h2 e.symm)]at hu;have hH:=cT i hi2;unfold HQ at hH;have hb:Nat.beq i k0=false:=by
      cases hx:Nat.beq i k0
      ·rfl
      ·exact absurd (Nat.eq_of_beq_eq_true hx) h2
     rw[hb]at hH;obtain⟨ids,g1,g2,_⟩:=hH;have h3:Ev ((cS.map s0).set i1 (sB 0 [] 5)) i=s0 u:=by
      unfold Ev;rw[List.getD_eq_getElem?_getD,List.getElem?_set_ne (λe=>h1 e.symm),List.getElem?_map,hu];rfl
     rw[h3]at g1 g2;obtain rfl:ids=[]:=List.eq_nil_of_length_eq_zero (by simpa[s0]using g1);rw[g2];rfl
  rw[hp];exact hq b c' (vs i1) w' hle S2
theorem ahg (code:Int) (a:Option Addr) (n c:Nat) (f:Nat->Int) (w:World) (hk:eA w a n c f):
 ak prog 37 #[.agg #[.int .i64 code,.slice a n c]] w λv w1=>∃b c',v=.agg #[.int .i64 code,.slice (some ⟨b,0,none⟩) (aY 40 n) c']/\aY 40 n<=c'/\St [] w [⟨b,true,.cells (cN (aY 40 n) f c') 5 (0,0)⟩] w1:=by
 have ac9:aY 40 n<=n:=by unfold aY;omega
 have hS0:=St.nil [] w;refine ct Tryz.func37 rfl ?_;refine ao (aw ?_);refine cq hS0 (λb=>.pointer (some ⟨b,0,none⟩)) (.cells #[.int .i64 code,.slice a n c] 55) ?_;intro b1 w2 hS1;refine cq hS1 (λb=>.pointer (some ⟨b,0,none⟩)) (.cells #[.int .i64 0,.slice none 0 0] 55) ?_;intro b2 w3 hS2;refine au (ae (ao ?_));have hkw:cn w3 a (aY 40 n) c f:=(hk.cut ac9 (by unfold aY;omega)).quiet hS2.ch;have zD:∀w',Ch [] w3 w'->St [] w _ w':=λw' hc=>hS2.quiet hc;refine ahf hS2 11 10 2 (aY 40 n) f [] [.pointer (some ⟨b1,0,none⟩),.int .i64 code,undef,.pointer (some ⟨b1,1,none⟩),.slice a n c,.pointer (some ⟨b1,1,none⟩),.slice a n c,.int .i64 n,.int .i64 (aY 40 n:Nat),.slice a (aY 40 n) c,undef]
  [[11,1,0],[11,1],[11,10,2],[11,10,9,4,3],[11,10,9,4],[11,10,9,8,7,6,5],[11,10,9,8,7,6],[11,10,9,8,7],[11,10,9,8],[11,10,9],[11,10],[12,0],[12,1],[12,2],[12,3],[12,4],[12,5],[12,6],[12,7],[12,8],[12,9],[12,10],[12,11]]
  (aJ Mr (aJ (eL_ zD 1 b1 0) (aJ (eB_ 0 [] 5) (aJ Mr (aJ (eL_ zD 1 b1 1) (aJ Mr (aJ (eL_ zD 1 b1 1) (aJ Mr (aJ (eE_ (.int .i64 (if(40:Int)<((n:Nat):Int)then 40 else((n:Nat):Int))) (by rw[show((if(40:Int)<((n:Nat):Int)then 40 else((n:Nat):Int)))=((aY 40 n:Nat):Int)from y_ 40 n];rfl)) (aJ (Mr (h:=funext λ_=>tU (n:=n) (e:=5) (kd:=.i64) (aY 40 n) (Nat.le_trans ac9 hk.1))) (aJ (ajS hkw 5 12 2 9 (e':=5)) nh))))))))))) ?_
 intro b c' u w4 hle hS4;refine aa (.agg #[.int .i64 code,.slice (some ⟨b,0,none⟩) (aY 40 n) c']) ?_;refine store_ hS4 1 (.agg #[.int .i64 code,.slice (some ⟨b,0,none⟩) (aY 40 n) c']) b2 0 ?_;intro w5 hS5;refine au (ae (wp_ret ?_));refine eD rfl (ei [.cell 2 55] [.agg #[.int .i64 code,.slice (some ⟨b,0,none⟩) (aY 40 n) c']] (.agg #[.int .i64 code,.slice (some ⟨b,0,none⟩) (aY 40 n) c']) ⟨bh hS5 1 2 b2 0,trivial⟩) ?_;have hl5:[(⟨b,true,.cells (cN (aY 40 n) f c') 5 (0,0)⟩:ax)].Sublist (S9 [⟨b,true,.cells (cN (aY 40 n) f c') 5 (0,0)⟩,⟨b2,true,.cells #[.int .i64 0,.slice none 0 0] 55 (0,0)⟩,⟨b1,true,.cells #[.int .i64 code,.slice a n c] 55 (0,0)⟩] 1 0 (Value.agg #[.int .i64 code,.slice (some ⟨b,0,none⟩) (aY 40 n) c']).cells.toList):=List.Sublist.cons_cons _ (List.nil_sublist _);exact⟨b,c',rfl,hle,hS5.sub hl5⟩
variable{fr:Sd.Reply->Nat×Sd.Byt}
def Rx:gZ (LG fr):=λargs bl ch K=>match args,ch with
 |[.agg [.int .i64 code,.raw (.slice a n c)]],.dC u::rest=>cond (dE bl.length bl) (eA u a n c (de u a)/\∀d,K (.agg [.int .i64 code,.sl bl.length 0 (aY 40 n) (aY 40 n+d)]) (bl++[dD (aY 40 n) d (de u a)]) (.dC u::rest)) False
 |_,_=>False
theorem LV {gl:Nat->Option Nat}:Sound prog gl 37 (Rx (fr:=fr)):=by
 intro args ids bl ch R ms w0 w K hg hl S hc;unfold Rx at hc;split at hc
 ·rename_i code a n c u rest;cases hq:dE bl.length bl with
  |false=>rw[hq]at hc;exact hc.elim
  |true=>
   rw[hq]at hc;obtain⟨hk,hK⟩:=hc;have Ni:∀y∈dV u,y∈lits ids ids bl++ag (.dC u::rest) R:=λy hy=>by
    refine List.mem_append_right _ ?_;show y∈dV u++ag rest R;exact List.mem_append_left _ hy
   have vS:=ahg code a n c (de u a) w (GL S Ni hk);refine vS.mono ?_;rintro v w' ⟨b,c',rfl,hle,T⟩;have S2:=S.beside T (Wr.cons rfl Wr.nil);have hd:=hK (c'-aY 40 n);rw[show aY 40 n+(c'-aY 40 n)=c' by omega]at hd;refine⟨_,[b],_,_,?_,by simp[hl],?_,hd⟩
   ·have:(ids++[b]).getD bl.length 0=b:=by rw[<-hl];simp[List.getD]
    simp only[den,af,cl,this];rfl
   ·have e:aL (ids++[b]) b (dD (aY 40 n) (c'-aY 40 n) (de u a))=⟨b,true,.cells (cN (aY 40 n) (de u a) c') 5 (0,0)⟩:=by
     unfold aL;rw[j8,show aY 40 n+(c'-aY 40 n)=c' by omega];rfl
    rw[aQ _ _ _ _ hl,aR _ _ (by rw[hl];exact hq)];simp only[lits,e];refine S2.perm ?_;rw[List.append_assoc];exact cH λf=>by simp only[List.countP_append];omega
 ·exact hc.elim
theorem LW:dU (Rx (fr:=fr)):=by
 intro args bl ch K hc;unfold Rx at hc⊢;split at hc
 ·cases hq:dE bl.length bl with
  |false=>rw[hq]at hc;exact hc.elim
  |true=>
   rw[hq]at hc;exact⟨hc.1,λd=>⟨hc.2 d,_,rfl⟩⟩
 ·exact hc.elim
structure sV where
 kind:Int
 link:Int
 code:Int
 x:Option Addr
 n:Nat
 c:Nat
 s:Sd.dq
 bad:Bool
def opL (o:sV):List V:=[.int .u8 o.kind,.int .i64 o.link,.int .i64 o.code,.raw (.slice o.x o.n o.c)]++(pd o.s++[.bool o.bad])
def IZ (fr:Sd.Reply->Nat×Sd.Byt) (C:Sd.Crypt):List (dF (LG fr)):=[⟨37,true,Rx⟩,⟨35,false,MF λ_=>wL C⟩,⟨36,false,MF λ_=>wK C⟩,⟨15,false,MF λ_=>A4 C⟩,⟨22,false,coI C⟩]
theorem DL (ht:Body (fr:=fr) 130 bM):ah prog gS (IZ fr (aj b_)):=
 ah.cons ⟨LV,λ_=>LW⟩ (ah.cons (pD (A6 ht)) (ah.cons (pD (A5 ht)) (ah.cons (pD (wM ht)) (ah.cons ⟨yC ht,λe=>by cases e⟩ ah.nil))))
def opR:List V->Option sV
 |[.int .u8 kd,.int .i64 l,.int .i64 co,.raw (.slice x n c),.bool x0,.int .i64 x1,.int .i64 x2,.int .i64 x3,.int .i64 x4,.bool x5,.bool b]=>some ⟨kd,l,co,x,n,c,⟨x0,⟨x1,x2,x3,x4⟩,x5⟩,b⟩
 |_=>none
theorem ac_ {l:List V} {o:sV} (h:opR l=some o):l=opL o:=by
 unfold opR at h;split at h
 ·cases h;rfl
 ·cases h
def kX (C:Sd.Crypt) (u:World) (s:Sd.Scene) (o:sV):Sd.Scene:=
 if o.kind.tmod 4=1 then s.cV C o.s else if o.kind.tmod 4=2 then s.fM C o.bad else if o.kind.tmod 4=3 then s.tick C else gP C s o.link o.code (aY 40 o.n) (de u o.x)
def GM (C:Sd.Crypt) (u:World):LM fr:=λar k s F K=>match ar with
 |[.agg ol]=>(match opR ol with
  |some o=>((ba k s/\cF=F.vs/\cF=F.vr)/\wO k/\eA u o.x o.n o.c (de u o.x))/\oC k (kX C u s o) K
  |none=>False)
 |_=>False
def Ry (k:LK) (s:Sd.Scene):Prop:=some (aF k)=some (aF k)/\some (iq k)=some (iq k)/\CX k 3 s=CX k 3 (dg s)/\s.c.p.bR=s.c.p.bR/\s.c.p.bz=s.c.p.bz/\s.c.p.queue=k.most
def DM (k:LK) (u:World) (fB:List ax) (sv:Sd.Scene) (X:VK (LG fr)):Prop:=∀(s':Sd.Scene),s'=sv->∀(r:TR) (fn:List ax) (F0:cw fr (bV k (ji s'))),cF=F0.vs->cF=F0.vr->LR fr s'.sent r.fv fn->
 X (r.v s' 4) (gi k (ji s')++[r.sB s',r.rB s']) [.dC u,.core (cx k (ji s') F0) (fn++fB)]
section
variable(C:Sd.Crypt) (k:LK) (s:Sd.Scene) (F:cw fr (bV k s)) (u:World) (fB:List ax) (o:sV) (X:VK (LG fr))
def Rz:Prop:=
 let ok:Prop:=ba k (dg s)/\cF=F.vs/\cF=F.vr
 let n:=aY 40 o.n
 cond (o.kind.tmod 4==1) (Ry k s/\ok/\DM k u fB ((dg s).cV C o.s) X)
 (cond (o.kind.tmod 4==2) (Ry k s/\ok/\DM k u fB ((dg s).fM C o.bad) X)
 (cond (o.kind.tmod 4==3) (Ry k s/\ok/\DM k u fB ((dg s).tick C) X)
 (eA u o.x o.n o.c (de u o.x)/\∀d:Nat,Ry k s/\(n=n/\n+d=n+d/\l0=l0)/\wO k/\(ba k (dg s)/\cF=F.vs/\cF=F.vr/\n<=58/\By (de u o.x))/\DM k u fB (gP C (dg s) o.link o.code n (de u o.x)) X)))
theorem Xt:cI (dw prog gS (IZ fr C)) 60 13 [.ptr 2 0,.agg (opL o)] (gi k s) [.dC u,.core (cx k s F) fB] (du 4 X)=Rz C k s F u fB o X:=by kernel_rfl
end
theorem LX (ht:Body (fr:=fr) 130 bM):oB (fr:=fr) 13 (GM (aj b_)):=by
 intro u ar k s F Kb a b R ms w0 w h0 hq hM S;unfold GM at hM;split at hM
 ·rename_i ol;split at hM
  ·rename_i o ho;obtain rfl:=ac_ ho;obtain⟨⟨⟨hC,v1,v2⟩,hN,hR⟩,hT⟩:=hM;have hg:Gl gS (ca a b):=by
    intro g i iu;unfold gS at iu;split at iu
    ·obtain rfl:=Option.some.inj iu;exact⟨by simp,rfl⟩
    ·obtain rfl:=Option.some.inj iu;exact⟨by simp,rfl⟩
    ·cases iu
   let K:VK (LG fr):=λv bl ch=>∃(s':Sd.Scene) (F0:cw fr (bV k (ji s'))) (r:TR) (fn:List ax),v=r.v s' 4/\bl=gi k (ji s')++[r.sB s',r.rB s']/\ch=[.dC u,.core (cx k (ji s') F0) (fn++[])]/\Kb (r.v s' 0) (ji s') F0 fn [r.sB s',r.rB s']
   have hX:∀s',oC k s' Kb->DM k u [] s' K:=λsv h s' e r fn F0 z1 z2 hf=>⟨s',F0,r,fn,rfl,rfl,rfl,h s' e r fn F0 z1 z2 hf⟩;have hF:Ry k s:=⟨rfl,rfl,rfl,rfl,rfl,hq⟩;have hcx:Rz (aj b_) k s F u [] o K:=by
    unfold Rz;rw[sJ];unfold kX at hT;refine aO (λe=>?_) (λe=>aO (λe2=>?_) (λe2=>aO (λe3=>?_) (λe3=>?_)))
    ·rw[if_pos (by simpa using e)]at hT;exact⟨hF,⟨hC,v1,v2⟩,hX _ hT⟩
    ·rw[if_neg (by simpa using e),if_pos (by simpa using e2)]at hT;exact⟨hF,⟨hC,v1,v2⟩,hX _ hT⟩
    ·rw[if_neg (by simpa using e),if_neg (by simpa using e2),if_pos (by simpa using e3)]at hT;exact⟨hF,⟨hC,v1,v2⟩,hX _ hT⟩
    ·rw[if_neg (by simpa using e),if_neg (by simpa using e2),if_neg (by simpa using e3)]at hT;exact⟨hR,λd=>⟨hF,⟨rfl,rfl,rfl⟩,hN,⟨hC,v1,v2,by unfold aY;omega,Xs u o.x⟩,hX _ hT⟩⟩
   have fI:cI (dw prog gS (IZ fr (aj b_))) 60 13 [.ptr 2 0,.agg (opL o)] (gi k s) [.dC u,.core (cx k s F) []] (du 4 K):=by
    rw[Xt];exact hcx
   refine(bw (DL ht).T (DL ht).Q 60 (C:=dw prog gS (IZ fr (aj b_))) (ids:=ca a b) (bl:=gi k s) (ch:=[.dC u,.core (cx k s F) []]) (R:=R) (ms:=ms) (w0:=w0) (w:=w) hg rfl (by
    refine S.perm ?_;show List.Perm _ (_++(dV u++((F.B++[])++R)));exact cH λf=>by simp only[List.countP_append,List.countP_nil];omega) fI).mono ?_
   rintro v w' ⟨x,more,bl',ch',rfl,h1,S',hK⟩;obtain⟨v2',aS,bl2,hv,gH,S2,s',F0,r,fn,rfl,rfl,rfl,hKb⟩:=dr (n0:=4) h1 (by simp) S' hK;have ht4:(ca a b++more).take 4=ca a b:=rfl;rw[ht4]at hv gH S2;have eR:ag [LG.dC u,LG.core (cx k (ji s') F0) (fn++[])] R=dV u++((F0.B++(fn++[]))++R):=rfl;rw[eR]at S2;rw[hv]
   match aS,gH with
   |[i1,i2],_=>
    refine⟨_,_,F0,fn,_,[i1,i2],rfl,?_,rfl,hKb,?_⟩
    ·simp only[TR.v,Rs,den,af,cl,List.append_nil];rfl
    ·have e2:lits (ca a b++[i1,i2]) (ca a b++[i1,i2]) (gi k (ji s')++[r.sB s',r.rB s'])=lits (ca a b) (ca a b) (gi k (ji s'))++lits [i1,i2] [i1,i2] [r.sB s',r.rB s']:=by
      rw[aQ _ _ _ _ rfl,aR (ids:=ca a b) (more:=[i1,i2]) (ca a b) (gi k (ji s')) rfl,fE (ids':=[i1,i2]) [i1,i2] _ rfl]
     rw[e2]at S2;exact S2.perm (cH λf=>by simp only[List.countP_append,List.countP_nil];omega)
   |[],h=>simp[gi]at h
   |[_],h=>simp[gi]at h
   |_::_::_::_,h=>simp[gi]at h
  ·exact hM.elim
 ·exact hM.elim
theorem ba.step {k:LK} {s:Sd.Scene} (h:ba k s) (u:World) (o:sV) (hx:Sd.Eo o.s.x):ba k (ji (kX (aj b_) u s o)):=by
 unfold kX;split
 ·exact h.cV hx
 split
 ·exact h.fM _
 split
 ·exact h.tick
 ·exact h.item _ _ _ _
end Go.Proofs.YtlkpikfddnjilaaGreatDoor
namespace Go.Proofs.YtlkpikfddnjilaaGreatDoor
open Go Go.RowKit Go.BigFrame Sx Vx
section
variable{G:Type} [Bl G]
theorem RA {C:Ctx Empty} {f n:Nat} {ids:List Nat} {bl:List VB} {ch:List G} {R:List ax} {ms:List Nat} {w0 w:World} (hT:∀f c,C.T f=some c->Sound C.P C.gl f c) (hQ:gy C) (hg:C.gl=gz) (hl:ids.length=bl.length) (S:St ms w0 (lits ids ids bl++ag ch R) w)
 (is:List Nat) (hn:is.Nodup) (bs:List VB) (hb:is.map (bl[·]?)=bs.map some) (hw:dE 0 bs=true) {args args':List V} (bd:aq ids args=aq (is.map λi=>ids.getD i 0) args') {v0:V} (MG:fu 0 v0=true)
 (fI:cI C n f args' bs [] (λv b _=>v=v0/\b.take bs.length=bs)):ak C.P f (aq ids args).toArray w λv w'=>v=den [] v0/\St ms w0 (lits ids ids bl++ag ch R) w':=by
 have hlen:is.length=bs.length:=by have:=congrArg List.length hb;simpa using this
 have tB:∀(k i:Nat),is[k]?=some i->∃b,bs[k]?=some b/\bl[i]?=some b:=by
  intro k i hk;have:=congrArg (λl=>l[k]?) hb;simp only[List.getElem?_map,hk,Option.map_some]at this;cases hbk:bs[k]?with
  |none=>rw[hbk]at this;simp at this
  |some b=>rw[hbk]at this;simp only[Option.map_some,Option.some.injEq]at this;exact⟨b,rfl,this⟩
 have f_:∀i∈is,i<bl.length:=by
  intro i hi;obtain⟨k,hk⟩:=List.getElem?_of_mem hi;obtain⟨b,_,h2⟩:=tB k i hk;exact ck h2
 obtain⟨r,hr,hp⟩:=vR (bl:=bl) (ids:=ids) hl hn f_;have ef:=hp bl rfl;have Et:∀(GN:List Nat),(is.map λj=>aL ids (ids.getD j 0) (bl.getD j g_))=lits GN (is.map λi=>ids.getD i 0) bs:=by
  intro GN;clear hr hp ef bd fI f_;induction is generalizing bs with
  |nil=>simp[lits]
  |cons i is ih=>
   cases bs with
   |nil=>simp at hlen
   |cons b bs=>
    simp only[List.map_cons,List.cons.injEq]at hb;simp only[dE,Bool.and_eq_true]at hw;simp only[List.map_cons,lits,cL hb.1];rw[cj (ids':=GN) hw.1,ih (List.nodup_cons.1 hn).2 bs hb.2 hw.2 (by simpa using hlen) (λk i hk=>tB (k+1) i (by simpa using hk))]
 rw[Et (is.map λi=>ids.getD i 0)]at ef;have S1:St ms w0 (lits (is.map λi=>ids.getD i 0) (is.map λi=>ids.getD i 0) bs++ag ([]:List Empty) ((r.map λj=>aL ids (ids.getD j 0) (bl.getD j g_))++ag ch R)) w:=by
  refine S.perm ((ef.append_right _).trans ?_);simp only[ag,List.append_assoc];exact List.Perm.refl _
 rw[bd];refine(bw hT hQ n (λg i h=>by rw[hg]at h;cases h) (by simpa using hlen) S1 fI).mono ?_;rintro v w' ⟨x,more,bl',ch',rfl,Em,S2,rfl,hbs⟩;refine⟨by have:=bx (ids:=[]) (more:=(is.map λi=>ids.getD i 0)++more) x MG;simpa using this,?_⟩;have fW:bl'=bs++bl'.drop bs.length:=by have:=List.take_append_drop bs.length bl';rw[hbs]at this;exact this.symm
 rw[fW,aQ _ _ _ _ (by simpa using hlen),fE (ids':=is.map λi=>ids.getD i 0) (is.map λi=>ids.getD i 0) bs hw]at S2;have fP:ag ch' ((r.map λj=>aL ids (ids.getD j 0) (bl.getD j g_))++ag ch R)=(r.map λj=>aL ids (ids.getD j 0) (bl.getD j g_))++ag ch R:=by
  match ch' with
  |[]=>rfl
  |e::_=>exact nomatch e
 rw[fP]at S2;have S3:St ms w0 ((lits (is.map λi=>ids.getD i 0) (is.map λi=>ids.getD i 0) bs)++((r.map λj=>aL ids (ids.getD j 0) (bl.getD j g_))++ag ch R)) w':=S2.sub (List.Sublist.append_right (List.sublist_append_left _ _) _);refine S3.perm ?_;refine List.Perm.trans ?_ (ef.symm.append_right _);rw[List.append_assoc]
end
def RC (q:Nat->Int) (k:Nat):List Value:=[.int .i64 (q k)]
def kx (n:Nat) (q:Nat->Int) (a b:Bool) (ty m9:BT) (u u':List Value):List VB:=[⟨a,ty,[.fN 1 n (RC q),.rest u]⟩,⟨b,m9,[.fN 1 n (RC q),.rest u']⟩]
def Xu (n c c':Nat) (x x':Option Addr) (j:{j:Nat //j<=n}):List V:=[.ij 0 0 n c x,.ij 1 0 n c' x',.int .i64 j.1]
def RD (n c c':Nat) (x x':Option Addr) (q:Nat->Int) (a b:Bool) (ty m9:BT) (u u':List Value):Lp Empty:=JT (X:={j:Nat //j<=n}) (λj=>n-j.1) 26 2 [0,1,5] (Xu n c c' x x') (λ_=>kx n q a b ty m9 u u') (λ_=>[]) (λ_=>rfl) (λ_=>rfl) (λ_=>rfl)
section
variable(n c c':Nat) (y y':Option Addr) (q:Nat->Int) (a b:Bool) (ty m9:BT) (u u':List Value) (K:VK Empty)
def ada:Prop:=
 let B:=kx n q a b ty m9 u u'
 cond ((n:Int)!=n) (K (.bool false) B []) ((true=true/\EU (Xu n c c' y y') (λ_=>kx n q a b ty m9 u u') (λ_=>([]:List Empty)) [.ij 0 0 n c y,.ij 1 0 n c' y',.int .i64 0] B [])/\∀(x:{j:Nat //j<=n}) (g:Nat->Value),
  cond (decide ((x.1:Int)<n)) ((0<=(x.1:Int)/\(x.1:Int)<n)/\((x.1:Int).toNat<n/\∀j,(RC q j).length=1)/\(0<=(x.1:Int)/\(x.1:Int)<n)/\((x.1:Int).toNat<n/\∀j,(RC q j).length=1)/\
   cond (q (x.1:Int).toNat !=q (x.1:Int).toNat) (K (.bool false) B []) (true=true/\enD (λj=>n-j.1) (Xu n c c' y y') (λ_=>kx n q a b ty m9 u u') (λ_=>([]:List Empty)) x [.ij 0 0 n c y,.ij 1 0 n c' y',.int .i64 (i64.wrap ((x.1:Int)+1))] B [])) (K (.bool true) B []))
theorem adb:cI (JU prog gz ([]:List (dF Empty)) (lp1 0 (RD n c c' y y' q a b ty m9 u u'))) 60 41 [.ij 0 0 n c y,.ij 1 0 n c' y'] (kx n q a b ty m9 u u') [] K=ada n c c' y y' q a b ty m9 u u' K:=by kernel_rfl
end
theorem ade {n c c':Nat} {y y':Option Addr} {q:Nat->Int} {a b:Bool} {ty m9:BT} {u u':List Value} {K:VK Empty} (hn:n<=1000000) (hK:K (.bool true) (kx n q a b ty m9 u u') []):ada n c c' y y' q a b ty m9 u u' K:=by
 unfold ada;refine aO (λe=>by simp at e) (λ_=>⟨⟨rfl,⟨0,Nat.zero_le _⟩,rfl,rfl,rfl⟩,?_⟩);rintro⟨j,hj⟩ g;dsimp only;refine aO (λe=>?_) (λ_=>hK);have f_:(j:Int)<n:=by simpa using e
 have hl:∀k,(RC q k).length=1:=λ_=>rfl;refine⟨⟨by omega,f_⟩,⟨by omega,hl⟩,⟨by omega,f_⟩,⟨by omega,hl⟩,?_⟩;refine aO (λe=>by simp at e) (λ_=>⟨rfl,⟨j+1,by omega⟩,by show n-(j+1)<n-j;omega,?_,rfl,rfl⟩);unfold Xu;rw[gE (by omega)];rfl
def DN {G:Type}:gZ G:=λargs bl ch K=>match args with
 |[.ij i 0 n _ _,.ij j 0 m _ _]=>(match bl[i]?,bl[j]?with
  |some ⟨_,_,[.fN 1 n' g,.rest _]⟩,some ⟨_,_,[.fN 1 m' g',.rest _]⟩=>cond (!(Nat.beq i j)) ((n'=n/\m'=n/\m=n/\n<=1000000/\g'=g/\∃q,g=RC q)/\K (.bool true) bl ch) False
  |_,_=>False)
 |_=>False
theorem GO {G:Type} [Bl G] {gl:Nat->Option Nat}:Sound (G:=G) prog gl 41 DN:=by
 intro args ids bl ch R ms w0 w K hg hl S hc;unfold DN at hc;split at hc
 ·rename_i i n c x j m c' x';split at hc
  ·rename_i a ty n' g u b m9 m' g' u' hi hj;cases hq:!(Nat.beq i j)with
   |false=>rw[hq]at hc;exact hc.elim
   |true=>
    rw[hq]at hc;obtain⟨⟨rfl,rfl,rfl,hn,rfl,q,rfl⟩,hK⟩:=hc;have Mo:i≠j:=λe=>by rw[e,Nat.beq_refl]at hq;cases hq
    have fI:cI (JU prog gz ([]:List (dF Empty)) (lp1 0 (RD m c c' x x' q a b ty m9 u u'))) 60 41 [.ij 0 0 m c x,.ij 1 0 m c' x'] (kx m q a b ty m9 u u') [] (λv bl _=>v=.bool true/\bl.take (kx m q a b ty m9 u u').length=kx m q a b ty m9 u u'):=by
     rw[adb];exact ade hn ⟨rfl,rfl⟩
    refine(RA (C:=JU prog gz ([]:List (dF Empty)) (lp1 0 (RD m c c' x x' q a b ty m9 u u'))) (_root_.Go.Proofs.YtlkpikfddnjilaaGreatDoor.ah.TL NR) (_root_.Go.Proofs.YtlkpikfddnjilaaGreatDoor.ah.QL NR) rfl hl S [i,j] (by simp[Mo]) (kx m q a b ty m9 u u') (by simp[hi,hj,kx]) rfl (args:=[.ij i 0 m c x,.ij j 0 m c' x']) rfl rfl fI).mono ?_;rintro v w' ⟨rfl,S2⟩;exact⟨.bool true,[],bl,ch,rfl,by simpa using hl,by simpa using S2,hK⟩
  ·exact hc.elim
 ·exact hc.elim
theorem GP {G:Type}:dU (DN (G:=G)):=by
 intro args bl ch K hc;unfold DN at hc⊢;split at hc
 ·rename_i i n c x j m c' x';split at hc
  ·rename_i a ty n' g u b m9 m' g' u' hi hj;cases hq:!(Nat.beq i j)with
   |false=>rw[hq]at hc;exact hc.elim
   |true=>rw[hq]at hc;exact⟨hc.1,hc.2,[],by simp⟩
  ·exact hc.elim
 ·exact hc.elim
variable{fr:Sd.Reply->Nat×Sd.Byt}
def RE (P:Program):(Operand->V)->Op->List VB->List (LG fr)->VK (LG fr)->Prop:=λe op bl ch K=>match op with
 |.call c=>(match c.callee,c.args.toList,c.argTypes.toList with
  |.builtin .append,[s,xs],[t,tx]=>(match P.underlying t,P.underlying tx with
   |some (.slice 5),some (.slice _)=>(match e s,e xs,ch with
    |.sl i 0 0 0,.raw (.slice a m c),.dC u::rest=>cond (dE bl.length bl) ((eA u a m c (de u a)/\m<=1000000)/\(m=0->K (.sl i 0 0 0) bl (.dC u::rest))/\(0<m->∀d:Nat,K (.sl bl.length 0 m (m+d)) (bl++[dD m d (de u a)]) (.dC u::rest))) False
    |_,_,_=>False)
   |_,_=>False)
  |_,_,_=>False)
 |_=>False
theorem A8 {gl:Nat->Option Nat}:rR (G:=LG fr) prog gl (RE prog):=by
 intro e op ids bl ch R ms w0 w K ρ o hg hl S cz ho h;unfold RE at h;split at h
 ·rename_i c;split at h
  ·rename_i s xs t tx eV bd jL;split at h
   ·rename_i T ht pJ;split at h
    ·rename_i i a m c' u rest rJ pI;cases hq:dE bl.length bl with
     |false=>rw[hq]at h;exact h.elim
     |true=>
      rw[hq]at h;obtain⟨⟨hk,hm⟩,h0,h1⟩:=h;have Ni:∀y∈dV u,y∈lits ids ids bl++ag (.dC u::rest) R:=λy hy=>by
       refine List.mem_append_right _ ?_;show y∈dV u++ag rest R;exact List.mem_append_left _ hy
      have fp:=y9 (P:=prog) (⟨hm,GL S Ni hk⟩:cn w a m c' (de u a)) pJ;obtain⟨HA,ar,tJ⟩:=c;simp only at eV bd jL;have e2:ar=#[s,xs]:=by rw[<-bd]
      have e3:tJ=#[t,tx]:=by rw[<-jL]
      subst eV e2 e3;have w_:ρ s=.slice (some ⟨ids.getD i 0,0,none⟩) 0 0:=by rw[cz,rJ];simp only[den]
      have My:ρ xs=.slice a m c':=by rw[cz,pI];simp only[den]
      by_cases yS:m=0
      ·subst yS;refine⟨_,[],bl,_,w,.inl ?_,by simpa using hl,by simpa using S,h0 rfl⟩;rw[bN (P:=prog) (ρ:=ρ) (o:=o) ho w_ My (yB (g:=de u a) fp ht ⟨ids.getD i 0,0,none⟩)];simp only[den,List.append_nil]
      ·obtain⟨c2,w2,a_,fP,hle,rC⟩:=rA (g:=de u a) (x:=a) (ty:=o.type) (t:=t) fp ht (by omega) (by omega) ⟨ids.getD i 0,0,none⟩;have h2:=h1 (by omega) (c2-m);rw[show m+(c2-m)=c2 by omega]at h2;refine⟨_,[w.heap.size],_,_,w2,.inl ?_,by simp[hl],?_,h2⟩
       ·rw[bN (P:=prog) (ρ:=ρ) (o:=o) ho w_ My a_];simp only[den];rw[<-hl,cv]
       ·have e:aL (ids++[w.heap.size]) w.heap.size (dD m (c2-m) (de u a))=⟨w.heap.size,true,.cells (cN m (de u a) c2) 5 (0,0)⟩:=by
         unfold aL;rw[j8,show m+(c2-m)=c2 by omega];rfl
        rw[aQ _ _ _ _ hl,aR _ _ (by rw[hl];exact hq)];simp only[lits,e];refine(S.new fP (Nat.le_refl _) rC).perm ?_;rw[List.append_assoc];exact List.perm_middle.symm
    ·exact h.elim
   ·exact h.elim
  ·exact h.elim
 ·exact h.elim
theorem JL {G:Type} [Bl G] {C:Ctx G} {f n:Nat} {args:List V} {ch0:List G} {K:VK G} (hT:∀f c,C.T f=some c->Sound C.P C.gl f c) (hQ:gy C) (hgl:C.gl=gz) (fI:cI C n f args [] ch0 K)
 {Y:List ax} {ms:List Nat} {w0 w:World} (S:St ms w0 (ag ch0 Y) w):
 ak C.P f (aq [] args).toArray w λv w'=>∃(x:V) (more:List Nat) (bl':List VB) (ch':List G),v=den more x/\more.length=bl'.length/\St ms w0 (lits more more bl'++ag ch' Y) w'/\K x bl' ch':=
 bw hT hQ n (ids:=[]) (bl:=[]) (λg i h=>by rw[hgl]at h;cases h) rfl S fI
theorem Xv {G:Type} [Bl G] {C:Ctx G} {f n:Nat} {ids:List Nat} {bl:List VB} {args args':List V} {ch0 rest:List G} {R:List ax} {ms:List Nat} {w0 w:World} {K:VK G} (hT:∀f c,C.T f=some c->Sound C.P C.gl f c) (hQ:gy C) (hgl:C.gl=gz) (hl:ids.length=bl.length)
 (hw:dE bl.length bl=true) (ha:aq ids args=aq [] args') (S:St ms w0 (lits ids ids bl++ag (ch0++rest) R) w) (fI:cI C n f args' [] ch0 (du 0 λv b c=>K (rv bl.length v) (bl++Zs bl.length b) (c++rest))):
 ak C.P f (aq ids args).toArray w λv w'=>∃x more bl' ch',v=den (ids++more) x/\(ids++more).length=bl'.length/\St ms w0 (lits (ids++more) (ids++more) bl'++ag ch' R) w'/\K x bl' ch':=by
 have S1:St ms w0 (ag ch0 (lits ids ids bl++ag rest R)) w:=S.perm (by
  rw[dY,bH (ag rest R) ch0,bH (lits ids ids bl++ag rest R) ch0];exact cH λf=>by simp only[List.countP_append];omega)
 rw[ha];refine(JL hT hQ hgl fI S1).mono ?_;rintro v w' ⟨x,more,bl',ch',rfl,h1,S',hK⟩;obtain⟨v2,aS,bl2,hv,gH,S2,J_⟩:=dr (n0:=0) h1 (Nat.zero_le _) S' hK;simp only[List.take_zero,List.nil_append]at hv gH S2;refine⟨_,aS,_,_,?_,?_,?_,J_⟩
 ·rw[hv,<-hl,sU]
 ·rw[List.length_append,List.length_append,IV,hl,gH]
 ·rw[aQ _ _ _ _ hl,aR _ _ (by rw[hl];exact hw),<-hl,IW];refine S2.perm ?_;rw[dY,bH (ag rest R) ch',bH (lits ids ids bl++ag rest R) ch'];exact cH λf=>by simp only[List.countP_append];omega
theorem ahh {ids:List Nat} {args:List V} (ha:cG 0 args=true):aq ids args=aq [] args:=by have:=dI (ids:=[]) (more:=ids) args ha;simpa using this
def I0 (n:Nat):Nat:=if n=0 then 1 else aY 64 n
def yD (n:Nat) (f:Sd.Byt):Sd.Byt:=if n=0 then λ_=>7 else f
theorem RF (n:Nat):1<=I0 n/\I0 n<=64:=by unfold I0 aY;split<;>omega
def RG:gZ (LG fr):=λargs bl ch K=>match args,ch with
 |[.raw (.slice a n c)],.dC u::rest=>cond (dE bl.length bl) (eA u a n c (de u a)/\∀d:Nat,K (.sl bl.length 0 (I0 n) (I0 n+d)) (bl++[dD (I0 n) d (yD n (de u a))]) (.dC u::rest)) False
 |_,_=>False
def ajU (u:World) (a:Option Addr) (n c:Nat) (K:VK (LG fr)):Prop:=
 let m:Int:=if(64:Int)<((n:Nat):Int)then 64 else((n:Nat):Int)
 cond ((n:Int)==0) (K (.sl 0 0 1 1) [⟨true,⟨5,(0,0)⟩,[.int .u8 7]⟩] [.dC u])
  ((0<=m/\m<=(c:Int))/\(eA u a m.toNat c (de u a)/\m.toNat<=1000000)/\(m.toNat=0->K (.sl 0 0 0 0) [⟨true,⟨5,(0,0)⟩,[]⟩] [.dC u])/\(0<m.toNat->∀d:Nat,K (.sl 0 0 m.toNat (m.toNat+d)) [dD m.toNat d (de u a)] [.dC u]))
theorem adf (u:World) (a:Option Addr) (n c:Nat) (K:VK (LG fr)):cI (nz prog gz ([]:List (dF (LG fr))) (RE prog) A8) 60 23 [.raw (.slice a n c)] [] [.dC u] (du 0 K)=ajU u a n c K:=by kernel_rfl
theorem GQ {gl:Nat->Option Nat}:Sound prog gl 23 (RG (fr:=fr)):=by
 intro args ids bl ch R ms w0 w K hg hl S hc;unfold RG at hc;split at hc
 ·rename_i a n c u rest;cases hq:dE bl.length bl with
  |false=>rw[hq]at hc;exact hc.elim
  |true=>
   rw[hq]at hc;obtain⟨hk,hK⟩:=hc
   let K0:VK (LG fr):=λv b ch=>ch=[.dC u]/\∃m d,I0 n=m/\v=.sl 0 0 m (m+d)/\∃B,b=[B]/\aL [0] 0 B=aL [0] 0 (dD m d (yD n (de u a)))/\cG 0 B.c=true
   have fI:cI (nz prog gz ([]:List (dF (LG fr))) (RE prog) A8) 60 23 [.raw (.slice a n c)] [] [.dC u] (du 0 K0):=by
    rw[adf];refine aO (λe=>?_) (λe=>?_)
    ·have e:n=0:=by simpa using e
     subst e;exact⟨rfl,1,0,rfl,rfl,_,rfl,rfl,rfl⟩
    ·have e:n≠0:=by simpa using e
     have hm:(if(64:Int)<((n:Nat):Int)then 64 else((n:Nat):Int))=((aY 64 n:Nat):Int):=y_ 64 n;rw[hm];have hn:I0 n=aY 64 n:=by unfold I0;rw[if_neg e]
     have hf:yD n (de u a)=de u a:=by unfold yD;rw[if_neg e]
     have h1:=hk.1;have hle:aY 64 n<=n:=by unfold aY;omega
     have E2:0<aY 64 n:=by unfold aY;omega
     have h64:aY 64 n<=64:=by unfold aY;omega
     refine⟨⟨by omega,by omega⟩,?_⟩;rw[Int.toNat_natCast];exact⟨⟨(hk.cut hle (by omega)).2,by omega⟩,λh0=>absurd h0 (by omega),λ_ d=>⟨rfl,_,d,hn,rfl,_,rfl,by rw[hf],rfl⟩⟩
   rw[ahh (ids:=ids) (args:=[.raw (.slice a n c)]) rfl];refine(JL (C:=nz prog gz ([]:List (dF (LG fr))) (RE prog) A8) (ah.nil (P:=prog) (gl:=gz)).T (ah.nil (P:=prog) (gl:=gz)).Q rfl fI (Y:=lits ids ids bl++ag rest R) (S.perm (cH λf=>by simp only[ag,List.countP_append];show _+(List.countP f (dV u)+_)=List.countP f (dV u)+_;omega))).mono ?_;rintro v w' ⟨x,more,bl',ch',rfl,h1,S',hK0⟩;obtain⟨v2,aS,bl2,hv,gH,S2,rfl,m,d,hm,rfl,B,rfl,hB,hwB⟩:=dr (n0:=0) h1 (Nat.zero_le _) S' hK0
   match aS,gH with
   |[b],_=>
    have hd:=hK d;rw[hm]at hd;refine⟨_,[b],_,_,?_,by simp[hl],?_,hd⟩
    ·rw[hv];have:(ids++[b]).getD bl.length 0=b:=by rw[<-hl];simp[List.getD]
     simp only[den,this,List.take_zero,List.nil_append];rfl
    ·have e1:aL [b] b B=aL (ids++[b]) b (dD m d (yD n (de u a))):=by
      have q1:aL [b] b B=aL [0] b B:=cj hwB;have q2:aL (ids++[b]) b (dD m d (yD n (de u a)))=aL [0] b (dD m d (yD n (de u a))):=cj rfl;rw[q1,q2];unfold aL at hB⊢;simp only[ax.mk.injEq,Obj.cells.injEq]at hB⊢;exact⟨trivial,hB.2⟩
     rw[aQ _ _ _ _ hl,aR _ _ (by rw[hl];exact hq)];simp only[List.take_zero,List.nil_append,lits]at S2;rw[e1]at S2;refine S2.perm ?_;show List.Perm ([_]++(dV u++(lits ids ids bl++ag rest R))) ((lits ids ids bl++[_])++(dV u++ag rest R));exact cH λf=>by simp only[List.countP_append,List.countP_cons,List.countP_nil];omega
   |[],h=>simp at h
   |_::_::_,h=>simp at h
 ·exact hc.elim
theorem GR:dU (RG (fr:=fr)):=by
 intro args bl ch K hc;unfold RG at hc⊢;split at hc
 ·cases hq:dE bl.length bl with
  |false=>rw[hq]at hc;exact hc.elim
  |true=>rw[hq]at hc;exact⟨hc.1,λd=>⟨hc.2 d,_,rfl⟩⟩
 ·exact hc.elim
def di (a m:Int):Int:=(i64.wrap (a.tmod m+m)).tmod m
theorem rD (a:Int) {m:Int} (h:0<m) (h2:m<=1000000):0<=di a m/\di a m<m:=by
 unfold di;have h1:=Int.tmod_lt_of_pos a h;have h3:-m<a.tmod m:=by
  have:=Int.lt_tmod_of_pos a h;omega
 have hw:i64.wrap (a.tmod m+m)=a.tmod m+m:=gE (by omega);rw[hw];exact⟨Int.tmod_nonneg _ (by omega),Int.tmod_lt_of_pos _ h⟩
def RH:gZ (LG fr):=λargs bl ch K=>match args with
 |[.int .i64 a,.int .i64 (.ofNat 3)]=>cond (Nat.blt bl.length 5) ((di a 3=0->K (.int .i64 0) bl ch)/\(di a 3=1->K (.int .i64 1) bl ch)/\(di a 3=2->K (.int .i64 2) bl ch)) (K (.int .i64 (di a 3)) bl ch)
 |[.int .i64 a,.int .i64 (.ofNat 2)]=>(di a 2=0->K (.int .i64 0) bl ch)/\(di a 2=1->K (.int .i64 1) bl ch)
 |[.int .i64 a,.int .i64 (.ofNat (m+1))]=>K (.int .i64 (di a (.ofNat (m+1)))) bl ch
 |_=>False
theorem adg (a:Int) (m:Nat) (X:V->Prop):jh prog [] 60 24 [.int .i64 a,.int .i64 (.ofNat (m+1))] X=X (.int .i64 (di a (.ofNat (m+1)))):=by kernel_rfl
theorem LY (a:Int) (m:Nat) (ids:List Nat) (w:World):ak prog 24 (aq ids [.int .i64 a,.int .i64 (.ofNat (m+1))]).toArray w λx w'=>x=den ids (.int .i64 (di a (.ofNat (m+1))))/\Ch [] w w':=
 oQ aW.nil 60 (by rw[adg]) rfl rfl ids w
theorem GS {gl:Nat->Option Nat}:Sound prog gl 24 (RH (fr:=fr)):=by
 intro args ids bl ch R ms w0 w K hg hl S hc;have go:∀(a:Int) (m:Nat),K (.int .i64 (di a (.ofNat (m+1)))) bl ch->ak prog 24 (aq ids [.int .i64 a,.int .i64 (.ofNat (m+1))]).toArray w λv w'=>∃x more bl' ch',v=den (ids++more) x/\(ids++more).length=bl'.length/\St ms w0 (lits (ids++more) (ids++more) bl'++ag ch' R) w'/\K x bl' ch':=by
  intro a m hK;refine(LY a m ids w).mono ?_;rintro v w' ⟨rfl,fP⟩;exact⟨_,[],bl,ch,by simp,by simpa using hl,by simpa using S.quiet fP,hK⟩
 have cast:∀(a:Int) (m:Nat) (r:Int),di a (.ofNat (m+1))=r->K (.int .i64 r) bl ch->K (.int .i64 (di a (.ofNat (m+1)))) bl ch:=λa m r e h=>by rw[e];exact h
 unfold RH at hc;split at hc
 ·rename_i a;refine go a 2 ?_;have hb:=rD a (m:=3) (by decide) (by decide);cases hq:Nat.blt bl.length 5 with
  |false=>rw[hq]at hc;exact hc
  |true=>
   rw[hq]at hc;have h3:di a (.ofNat (2+1))=di a 3:=rfl;have:di a 3=0\/di a 3=1\/di a 3=2:=by omega
   rcases this with e|e|e
   ·exact cast a 2 _ e (hc.1 e)
   ·exact cast a 2 _ e (hc.2.1 e)
   ·exact cast a 2 _ e (hc.2.2 e)
 ·rename_i a;refine go a 1 ?_;have hb:=rD a (m:=2) (by decide) (by decide);have:di a 2=0\/di a 2=1:=by omega
  rcases this with e|e
  ·exact cast a 1 _ e (hc.1 e)
  ·exact cast a 1 _ e (hc.2 e)
 ·rename_i a m _ _;exact go a m hc
 ·exact hc.elim
theorem GU:dU (RH (fr:=fr)):=by
 intro args bl ch K hc;unfold RH at hc⊢;split at hc
 ·cases hq:Nat.blt bl.length 5 with
  |false=>rw[hq]at hc;exact⟨hc,[],by simp⟩
  |true=>rw[hq]at hc;exact⟨λe=>⟨hc.1 e,[],by simp⟩,λe=>⟨hc.2.1 e,[],by simp⟩,λe=>⟨hc.2.2 e,[],by simp⟩⟩
 ·exact⟨λe=>⟨hc.1 e,[],by simp⟩,λe=>⟨hc.2 e,[],by simp⟩⟩
 ·exact⟨hc,[],by simp⟩
 ·exact hc.elim
def iN:V->Int|.int .i64 n=>n|_=>0
def sA:V->Option Addr|.raw (.slice a _ _)=>a|_=>none
def sN:V->Nat|.raw (.slice _ n _)=>n|_=>0
def sC:V->Nat|.raw (.slice _ _ c)=>c|_=>0
def jJ (i:Nat):Bool:=Nat.ble 5 i&&Nat.ble i 8
def RI (i:Nat) (v:V):Bool:=match v with
 |.int .i64 _=>!jJ i
 |.raw (.slice _ _ _)=>jJ i
 |_=>false
def DO:List V->Nat->Bool
 |[],i=>Nat.beq i 56
 |v::l,i=>RI i v&&DO l (i+1)
structure kY where
 q:Nat->Int
 ka:Nat->Option Addr
 kn:Nat->Nat
 kc:Nat->Nat
def RJ (l:List V):Option kY:=match l with
 |[.jN p ka kn kc]=>some ⟨p.i,ka,kn,kc⟩
 |l=>bif DO l 0 then some ⟨λi=>iN (nth l i),λj=>sA (nth l (j+5)),λj=>sN (nth l (j+5)),λj=>sC (nth l (j+5))⟩else none
def rF (i:Nat) (v:V):Value:=bif jJ i then .slice (sA v) (sN v) (sC v)else .int .i64 (iN v)
theorem DP (ids:List Nat):∀(l:List V) (i:Nat),DO l i=true->i+l.length=56/\af ids l=(List.range l.length).map λj=>rF (i+j) (nth l j)
 |[],i,h=>⟨Nat.eq_of_beq_eq_true h,rfl⟩
 |v::l,i,h=>by
  unfold DO at h;rw[Bool.and_eq_true]at h;obtain⟨h1,h2⟩:=DP ids l (i+1) h.2;refine⟨by simp;omega,?_⟩;rw[List.length_cons,List.range_succ_eq_map,List.map_cons,List.map_map];simp only[af,h2];have e:af ids l=(List.range l.length).map ((λj=>rF (i+j) (nth (v::l) j))∘Nat.succ):=by
   rw[h2];apply List.map_congr_left;intro j _;show rF (i+1+j) (nth l j)=rF (i+(j+1)) (nth l j);rw[show i+1+j=i+(j+1) by omega]
  rw[<-h2,e];have hv:cl v (den ids v)=[rF (i+0) (nth (v::l) 0)]:=by
   have h3:=h.1;unfold RI at h3;split at h3
   ·have:jJ i=false:=by simpa using h3
    simp only[cl,den,nth,rF,Nat.add_zero,this,cond_false,iN]
   ·simp only[cl,den,nth,rF,Nat.add_zero,h3,cond_true,sA,sN,sC]
   ·cases h3
  rw[hv];rfl
theorem RK {l:List V} {x:kY} (h:RJ l=some x) (k:Nat->Nat×Sd.Byt) (ids:List Nat):af ids l=tD ⟨x.q,k⟩ x.ka x.kn x.kc:=by
 unfold RJ at h;split at h
 ·cases h;simp only[af,cl,List.append_nil];rfl
 ·cases hb:DO l 0 with
  |false=>rw[hb]at h;cases h
  |true=>
   rw[hb]at h;cases h;obtain⟨h1,h2⟩:=DP ids l 0 hb;rw[h2,show l.length=56 by omega];unfold tD;apply List.map_congr_left;intro j hj;have hj:=List.mem_range.1 hj;show rF (0+j) (nth l j)=_;rw[Nat.zero_add];unfold rF jJ;cases hk:Nat.ble 5 j&&Nat.ble j 8 with
   |false=>rfl
   |true=>
    rw[Bool.and_eq_true]at hk;have:=Nat.le_of_ble_eq_true hk.1;simp only[cond_true];rw[show j-5+5=j by omega]
def sW (o1 o2 o3:Int) (q:Nat->Int) (i:Nat):Int:=
 bif Nat.ble i 13 then(bif Nat.beq i 1 then o1 else bif Nat.beq i 2 then o2 else bif Nat.beq i 3 then o3 else bif Nat.beq i 4 then 4 else bif Nat.beq i 9 then 1 else bif Nat.ble 10 i&&Nat.ble i 12 then bits .and .i64 (q i) 14 else 0)
 else bif Nat.ble i 33 then bits .and .i64 (q i) 15
 else bif Nat.ble i 38 then bits .and .i64 (q i) 31
 else bif Nat.ble i 41 then di (q i) 5
 else bif Nat.ble i 46 then i64.wrap (1+di (q i) 1000)
 else bif Nat.beq i 47 then di (q i) 1001
 else bif Nat.ble i 49 then i64.wrap (1+di (q i) 3)
 else bif Nat.beq i 50 then 0
 else bif Nat.ble i 53 then di (q i) 1001
 else bif Nat.beq i 54 then i64.wrap (1+di (q i) 1000)
 else bits .and .i64 (q i) 65535
def GV (q:Nat->Int) (o1 o2 o3:Int):Prop:=
 (di (q 1) 3=0/\((di (q 2) 2=0/\o1=1/\o2=2/\o3=3)\/(di (q 2) 2=1/\o1=1/\o2=3/\o3=2)))\/
 (di (q 1) 3=1/\((di (q 2) 2=0/\o1=2/\o2=1/\o3=3)\/(di (q 2) 2=1/\o1=2/\o2=3/\o3=1)))\/
 (di (q 1) 3=2/\((di (q 2) 2=0/\o1=3/\o2=2/\o3=1)\/(di (q 2) 2=1/\o1=3/\o2=1/\o3=2)))
def k4 {α:Type} (a b c d:α):Nat->α:=λj=>match j with|0=>a|1=>b|2=>c|_=>d
def ajV (o1 o2 o3:Int) (q:Nat->Int) (kn d:Nat->Nat):List V:=(List.range 56).map λi=>bif jJ i then .sl (i-5) 0 (I0 (kn (i-5))) (I0 (kn (i-5))+d (i-5))else .int .i64 (sW o1 o2 o3 q i)
def Xw (p:Nat->Int) (n d:Nat->Nat):List V:=(List.range 56).map λi=>bif jJ i then .sl (i-5) 0 (n (i-5)) (n (i-5)+d (i-5))else .int .i64 (p i)
section
variable(x:kY) (f:Nat->Nat×Sd.Byt) (u:World) (K:VK (LG fr))
def I1 (i d:Nat):VB:=dD (I0 (x.kn i)) d (yD (x.kn i) (de u (x.ka i)))
def MH (i:Nat):Prop:=eA u (x.ka i) (x.kn i) (x.kc i) (de u (x.ka i))
def adh (d3:Nat) (o1 o2 o3:Int):Prop:=MH x u 0/\∀d0:Nat,MH x u 1/\∀d1:Nat,MH x u 2/\∀d2:Nat,K (.agg (ajV o1 o2 o3 x.q x.kn (k4 d0 d1 d2 d3))) [I1 x u 0 d0,I1 x u 1 d1,I1 x u 2 d2,I1 x u 3 d3] [.dC u]
def RL (d3:Nat) (o1 o2 o3:Int):Prop:=(di (x.q 2) 2=0->adh x u K d3 o1 o2 o3)/\(di (x.q 2) 2=1->adh x u K d3 o1 o3 o2)
def ahi:Prop:=MH x u 3/\∀d3:Nat,(di (x.q 1) 3=0->RL x u K d3 1 2 3)/\(di (x.q 1) 3=1->RL x u K d3 2 1 3)/\(di (x.q 1) 3=2->RL x u K d3 3 2 1)
def adi (fr:Sd.Reply->Nat×Sd.Byt):List (dF (LG fr)):=[⟨23,true,RG⟩,⟨24,true,RH⟩]
theorem I2:ah prog gz (adi fr):=ah.cons ⟨GQ,λ_=>GR⟩ (ah.cons ⟨GS,λ_=>GU⟩ ah.nil)
theorem adj:cI (dw prog gz (adi fr)) 60 9 [.agg [.jN ⟨x.q,f⟩ x.ka x.kn x.kc]] [] [.dC u] (du 0 K)=ahi x u K:=by kernel_rfl
end
structure Made (x:kY) (p:Nat->Int) (n:Nat->Nat):Prop where
 o:GV x.q (p 1) (p 2) (p 3)
 p:∀i,i<56->jJ i=false->p i=sW (p 1) (p 2) (p 3) x.q i
 n:∀j,n j=I0 (x.kn j)
def ahj (x:kY) (u:World) (K:VK (LG fr)):Prop:=(MH x u 0/\MH x u 1/\MH x u 2/\MH x u 3)/\∀(p:Nat->Int) (n d:Nat->Nat),Made x p n->
 K (.agg (Xw p n d)) [dD (n 0) (d 0) (yD (x.kn 0) (de u (x.ka 0))),dD (n 1) (d 1) (yD (x.kn 1) (de u (x.ka 1))),dD (n 2) (d 2) (yD (x.kn 2) (de u (x.ka 2))),dD (n 3) (d 3) (yD (x.kn 3) (de u (x.ka 3)))] [.dC u]
theorem adk {x:kY} {u:World} {K:VK (LG fr)} (h:ahj x u K):ahi x u K:=by
 obtain⟨⟨r0,r1,r2,r3⟩,hK⟩:=h;have g:∀(d3:Nat) (o1 o2 o3:Int),GV x.q o1 o2 o3->adh x u K d3 o1 o2 o3:=λd3 o1 o2 o3 h=>⟨r0,λd0=>⟨r1,λd1=>⟨r2,λd2=>hK (sW o1 o2 o3 x.q) (λj=>I0 (x.kn j)) (k4 d0 d1 d2 d3) ⟨h,λ_ _ _=>rfl,λ_=>rfl⟩⟩⟩⟩;refine⟨r3,λd3=>⟨λe=>⟨λe2=>g d3 _ _ _ ?_,λe2=>g d3 _ _ _ ?_⟩,λe=>⟨λe2=>g d3 _ _ _ ?_,λe2=>g d3 _ _ _ ?_⟩,λe=>⟨λe2=>g d3 _ _ _ ?_,λe2=>g d3 _ _ _ ?_⟩⟩⟩<;>(unfold GV;omega)
def Xx:gZ (LG fr):=λargs bl ch K=>match args,ch with
 |[.agg l],.dC u::rest=>(match RJ l with
  |some x=>cond (dE bl.length bl) (ahj x u λv b c=>K (rv bl.length v) (bl++Zs bl.length b) (c++rest)) False
  |none=>False)
 |_,_=>False
theorem yE {gl:Nat->Option Nat}:Sound prog gl 9 (Xx (fr:=fr)):=by
 intro args ids bl ch R ms w0 w K hg hl S hc;unfold Xx at hc;split at hc
 ·rename_i l u rest;split at hc
  ·rename_i x hx;cases hq:dE bl.length bl with
   |false=>rw[hq]at hc;exact hc.elim
   |true=>
    rw[hq]at hc;refine Xv (C:=dw prog gz (adi fr)) (n:=60) (args':=[.agg [.jN ⟨x.q,λ_=>(0,λ_=>0)⟩ x.ka x.kn x.kc]]) (ch0:=[.dC u]) (rest:=rest) I2.T I2.Q rfl hl hq ?_ S (by rw[adj];exact adk hc);simp only[aq,den,RK hx (λ_=>(0,λ_=>0)) ids,af,cl,List.append_nil]
  ·exact hc.elim
 ·exact hc.elim
def ahk (i:Nat) (v:V):Bool:=match v with
 |.int .i64 _=>!jJ i
 |.raw (.slice _ _ _)=>jJ i
 |.sl _ _ _ _=>jJ i
 |_=>false
def m_:List V->Nat->Bool
 |[],i=>Nat.beq i 56
 |v::l,i=>ahk i v&&m_ l (i+1)
def ka3 (ids:List Nat):V->Option Addr|.raw (.slice a _ _)=>a|.sl i o _ _=>some ⟨ids.getD i 0,o,none⟩|_=>none
def kn3:V->Nat|.raw (.slice _ n _)=>n|.sl _ _ n _=>n|_=>0
def kc3:V->Nat|.raw (.slice _ _ c)=>c|.sl _ _ _ c=>c|_=>0
def lO (ids:List Nat) (i:Nat) (v:V):Value:=bif jJ i then .slice (ka3 ids v) (kn3 v) (kc3 v)else .int .i64 (iN v)
theorem DQ (ids:List Nat):∀(l:List V) (i:Nat),m_ l i=true->i+l.length=56/\af ids l=(List.range l.length).map λj=>lO ids (i+j) (nth l j)
 |[],i,h=>⟨Nat.eq_of_beq_eq_true h,rfl⟩
 |v::l,i,h=>by
  unfold m_ at h;rw[Bool.and_eq_true]at h;obtain⟨h1,h2⟩:=DQ ids l (i+1) h.2;refine⟨by simp;omega,?_⟩;rw[List.length_cons,List.range_succ_eq_map,List.map_cons,List.map_map];simp only[af,h2];have e:(List.range l.length).map (λj=>lO ids (i+1+j) (nth l j))=(List.range l.length).map ((λj=>lO ids (i+j) (nth (v::l) j))∘Nat.succ):=by
   apply List.map_congr_left;intro j _;show lO ids (i+1+j) (nth l j)=lO ids (i+(j+1)) (nth l j);rw[show i+1+j=i+(j+1) by omega]
  rw[e];have hv:cl v (den ids v)=[lO ids (i+0) (nth (v::l) 0)]:=by
   have h3:=h.1;unfold ahk at h3;split at h3
   ·have:jJ i=false:=by simpa using h3
    simp only[cl,den,nth,lO,Nat.add_zero,this,cond_false,iN]
   ·simp only[cl,den,nth,lO,Nat.add_zero,h3,cond_true,ka3,kn3,kc3]
   ·simp only[cl,den,nth,lO,Nat.add_zero,h3,cond_true,ka3,kn3,kc3]
   ·cases h3
  rw[hv];rfl
def pl3 (l:List V) (f:Nat->Nat×Sd.Byt):Sd.Pol:=⟨λi=>iN (nth l i),f⟩
theorem A9 {l:List V} (h:m_ l 0=true) (f:Nat->Nat×Sd.Byt) (ids:List Nat):(aq ids [.agg l]).toArray=#[.agg (kq (pl3 l f) (λj=>ka3 ids (nth l (j+5))) (λj=>kn3 (nth l (j+5))) (λj=>kc3 (nth l (j+5))))]:=by
 obtain⟨h1,h2⟩:=DQ ids l 0 h;simp only[aq,den];rw[h2,show l.length=56 by omega];rfl
def Zt:Nat->Nat×Sd.Byt:=λ_=>(0,λ_=>0)
def RM:QF:=⟨25,λargs _=>match args with
 |[.agg l]=>bif m_ l 0 then some (True,.int .i64 (eb (λi=>iN (nth l i)) (λj=>kn3 (nth l (j+5)))))else none
 |_=>none⟩
def RN:QF:=⟨28,λargs _=>match args with
 |[.agg l]=>bif m_ l 0 then some (True,.agg (cE (Sd.Tok.new (pl3 l Zt))))else none
 |_=>none⟩
def adl:QF:=⟨19,λargs _=>match args with
 |[.raw (.slice none 0 0)]=>some (True,.agg [.dS .u8 32 λ_=>0])
 |_=>none⟩
theorem RO (gl:Nat->Option Nat):RM.Ok prog gl:=by
 intro args bl p_ v_ h hp ids w _ _;unfold RM at h;dsimp only at h;split at h
 ·rename_i l;cases hq:m_ l 0 with
  |false=>rw[hq]at h;cases h
  |true=>
   rw[hq]at h;simp only[cond_true,Option.some.injEq,Prod.mk.injEq]at h;obtain⟨rfl,rfl⟩:=h;rw[A9 hq Zt ids];exact VH (pl3 l Zt) _ _ _ w
 ·cases h
theorem RP (gl:Nat->Option Nat):RN.Ok prog gl:=by
 intro args bl p_ v_ h hp ids w _ _;unfold RN at h;dsimp only at h;split at h
 ·rename_i l;cases hq:m_ l 0 with
  |false=>rw[hq]at h;cases h
  |true=>
   rw[hq]at h;simp only[cond_true,Option.some.injEq,Prod.mk.injEq]at h;obtain⟨rfl,rfl⟩:=h;rw[A9 hq Zt ids];exact Y2 (pl3 l Zt) _ _ _ w
 ·cases h
theorem Xy (gl:Nat->Option Nat):adl.Ok prog gl:=by
 intro args bl p_ v_ h hp ids w _ _;unfold adl at h;dsimp only at h;split at h
 ·simp only[Option.some.injEq,Prod.mk.injEq]at h;obtain⟨rfl,rfl⟩:=h;exact told (abP w)
 ·cases h
def sn0 (p:Sd.Pol):Sd.Scene:=⟨.new p,[],[]⟩
def Xz:gZ (LG fr):=λargs bl ch K=>match args with
 |[.agg l]=>cond (m_ l 0&&dE bl.length bl) (K (.ptr bl.length 0) (bl++[gp (sn0 (pl3 l Zt))]) ch) False
 |_=>False
theorem wP (p:Sd.Pol) (bt:Nat) (ids:List Nat):aL ids bt (gp (sn0 p))=⟨bt,true,.cells (jd (false,⟨0,0⟩) (f3 ⟨false,⟨0,0⟩,0,(λ_=>0),⟨false,0,0⟩⟩ ⟨false,⟨0,0⟩,0,(λ_=>0),⟨false,0,0⟩⟩ ⟨false,⟨0,0⟩,0,(λ_=>0),⟨false,0,0⟩⟩) (p.i 42) (p.i 49)) 143 (0,0)⟩:=by kernel_rfl
def RQ:List V:=[.bool false,.int .i64 0,.int .i64 0,.int .i64 0]++(List.replicate 32 (.int .u8 0)++[.bool false,.int .i64 0,.int .u64 0])
def I3 (b m:Int):List V:=[.bool false,.int .i64 0,.int .i64 0]++(RQ++(RQ++(RQ++[.int .i64 b,.int .i64 m])))
theorem ahl (p:Sd.Pol) (ka:Nat->Option Addr) (kn kc:Nat->Nat) (K:VK Empty):cI (dw prog gz ([]:List (dF Empty))) 30 29 [.agg (eJ p ka kn kc)] [] [] (du 0 K)=K (.ptr 0 0) [⟨true,⟨143,(0,0)⟩,I3 (p.i 42) (p.i 49)⟩] []:=by kernel_rfl
theorem adm (p:Sd.Pol) (bt:Nat) (ids:List Nat):aL ids bt ⟨true,⟨143,(0,0)⟩,I3 (p.i 42) (p.i 49)⟩=aL ids bt (gp (sn0 p)):=by kernel_rfl
theorem Zu {G:Type} [Bl G] {C:Ctx G} {f n:Nat} {args:List V} {ch0:List G} {K:VK G} (hT:∀f c,C.T f=some c->Sound C.P C.gl f c) (hQ:gy C) (hgl:C.gl=gz) (fI:Hd (cI C n f args [] ch0 K))
 {Y:List ax} {ms:List Nat} {w0 w:World} (S:St ms w0 (ag ch0 Y) w):
 ak C.P f (aq [] args).toArray w λv w'=>∃(x:V) (more:List Nat) (bl':List VB) (ch':List G),v=den more x/\more.length=bl'.length/\St ms w0 (lits more more bl'++ag ch' Y) w'/\K x bl' ch':=JL hT hQ hgl fI.h S
theorem RR (p:Sd.Pol) (ka:Nat->Option Addr) (kn kc:Nat->Nat) {Y:List ax} {ms:List Nat} {w0 w:World} (S:St ms w0 Y w):ak prog 29 #[.agg (kq p ka kn kc)] w λv w1=>∃bt,v=.pointer (some ⟨bt,0,none⟩)/\St ms w0 (aL [] bt (gp (sn0 p))::Y) w1:=by
 have hv:Hd (cI (dw prog gz ([]:List (dF Empty))) 30 29 [.agg (eJ p ka kn kc)] [] [] (du 0 λv b _=>v=.ptr 0 0/\b=[⟨true,⟨143,(0,0)⟩,I3 (p.i 42) (p.i 49)⟩])):=⟨by rw[ahl];exact⟨rfl,rfl⟩⟩;have hr:=Zu (C:=dw prog gz ([]:List (dF Empty))) (ah.nil (P:=prog) (gl:=gz)).T (ah.nil (P:=prog) (gl:=gz)).Q rfl hv (Y:=Y) S;clear hv;refine hr.mono ?_;rintro v w' ⟨y,more,bl',ch',rfl,h1,S',hK⟩;obtain⟨v2,aS,bl2,e,gH,S2,rfl,rfl⟩:=dr (n0:=0) (ids:=more) h1 (by simp) S' hK
 match aS,gH,e,S2 with
 |[bt],_,e,S2=>
  have S3:St ms w0 ([aL [bt] bt ⟨true,⟨143,(0,0)⟩,I3 (p.i 42) (p.i 49)⟩]++Y) w':=match ch',S2 with
   |[],S2=>S2
   |e::_,_=>nomatch e
  rw[adm,wP,<-wP p bt []]at S3;exact⟨bt,e,S3⟩
theorem RS:oq prog gz (⟨29,true,Xz⟩:dF (LG fr)):=by
 refine⟨?_,λ_ args bl ch K h=>?_⟩
 ·intro args ids bl ch R ms w0 w K hg hl S hc;simp only at hc;unfold Xz at hc;split at hc
  ·rename_i l;cases hq:m_ l 0&&dE bl.length bl with
   |false=>rw[hq]at hc;exact hc.elim
   |true=>
    rw[hq]at hc;simp only[Bool.and_eq_true]at hq;rw[A9 hq.1 Zt ids];refine(RR (pl3 l Zt) _ _ _ S).mono ?_;rintro v w' ⟨bt,rfl,S2⟩;rw[wP]at S2;refine⟨_,[bt],_,ch,?_,by simp[hl],?_,hc⟩
    ·simp only[den];rw[<-hl,cv]
    ·rw[aQ _ _ _ _ hl,aR _ _ (by rw[hl];exact hq.2)];simp only[lits];rw[wP];refine S2.perm ?_;rw[List.append_assoc];exact List.perm_middle.symm
  ·exact hc.elim
 ·simp only at h⊢;unfold Xz at h⊢;split at h
  ·rename_i l;cases hq:m_ l 0&&dE bl.length bl with
   |false=>rw[hq]at h;exact h.elim
   |true=>rw[hq]at h;exact⟨h,_,rfl⟩
  ·exact h.elim
def DR (P:Program):(Operand->V)->Op->List VB->List (LG fr)->VK (LG fr)->Prop:=λe op bl ch K=>match op with
 |.call c=>(match c.callee,c.args.toList,c.argTypes.toList with
  |.builtin .append,[s,xs],[t,tx]=>(match P.underlying t,P.underlying tx with
   |some (.slice 5),some (.slice _)=>(match e s,e xs,ch with
    |.sl i 0 0 0,.raw (.slice a m c),.dC u::rest=>cond (dE bl.length bl) (∃f,(eA u a m c f/\m<=1000000/\0<m)/\∀d:Nat,K (.sl bl.length 0 m (m+d)) (bl++[dD m d f]) (.dC u::rest)) False
    |_,_,_=>False)
   |_,_=>False)
  |_,_,_=>False)
 |_=>False
theorem wQ {gl:Nat->Option Nat}:rR (G:=LG fr) prog gl (DR prog):=by
 intro e op ids bl ch R ms w0 w K ρ o hg hl S cz ho h;unfold DR at h;split at h
 ·rename_i c;split at h
  ·rename_i s xs t tx eV bd jL;split at h
   ·rename_i T ht pJ;split at h
    ·rename_i i a m c' u rest rJ pI;cases hq:dE bl.length bl with
     |false=>rw[hq]at h;exact h.elim
     |true=>
      rw[hq]at h;obtain⟨f,⟨hk,hm,yS⟩,h1⟩:=h;have Ni:∀y∈dV u,y∈lits ids ids bl++ag (.dC u::rest) R:=λy hy=>by
       refine List.mem_append_right _ ?_;show y∈dV u++ag rest R;exact List.mem_append_left _ hy
      have fp:=y9 (P:=prog) (⟨hm,GL S Ni hk⟩:cn w a m c' f) pJ;obtain⟨HA,ar,tJ⟩:=c;simp only at eV bd jL;have e2:ar=#[s,xs]:=by rw[<-bd]
      have e3:tJ=#[t,tx]:=by rw[<-jL]
      subst eV e2 e3;have w_:ρ s=.slice (some ⟨ids.getD i 0,0,none⟩) 0 0:=by rw[cz,rJ];simp only[den]
      have My:ρ xs=.slice a m c':=by rw[cz,pI];simp only[den]
      obtain⟨c2,w2,a_,fP,hle,rC⟩:=rA (g:=f) (x:=a) (ty:=o.type) (t:=t) fp ht yS (by omega) ⟨ids.getD i 0,0,none⟩;have h2:=h1 (c2-m);rw[show m+(c2-m)=c2 by omega]at h2;refine⟨_,[w.heap.size],_,_,w2,.inl ?_,by simp[hl],?_,h2⟩
      ·rw[bN (P:=prog) (ρ:=ρ) (o:=o) ho w_ My a_];simp only[den];rw[<-hl,cv]
      ·have e:aL (ids++[w.heap.size]) w.heap.size (dD m (c2-m) f)=⟨w.heap.size,true,.cells (cN m f c2) 5 (0,0)⟩:=by
        unfold aL;rw[j8,show m+(c2-m)=c2 by omega];rfl
       rw[aQ _ _ _ _ hl,aR _ _ (by rw[hl];exact hq)];simp only[lits,e];refine(S.new fP (Nat.le_refl _) rC).perm ?_;rw[List.append_assoc];exact List.perm_middle.symm
    ·exact h.elim
   ·exact h.elim
  ·exact h.elim
 ·exact h.elim
def LNw (fr:Sd.Reply->Nat×Sd.Byt):List (dF (LG fr)):=⟨29,true,Xz⟩::qL (LG fr) [RM,RN,adl,It]
theorem RT:ah prog gz (LNw fr):=ah.cons RS (fJ (aW.cons (RO _) (aW.cons (RP _) (aW.cons (Xy _) (aW.cons (Da _) aW.nil)))))
def ajW (p:Sd.Pol) (kn d:Nat->Nat):List V:=(List.range 56).map λo=>bif Nat.ble 5 o&&Nat.ble o 8 then .sl (o-4) 0 (kn (o-5)) (kn (o-5)+d (o-5))else .int .i64 (p.i o)
def RU:List V:=[.int .i64 0,.bool false]++List.replicate 8 (.int .u8 0)
def RV (p:Sd.Pol) (kn d:Nat->Nat):List V:=ajW p kn d++(cE (Sd.Tok.new p)++(.ptr 5 0::(RU++(RU++(RU++([.ptr 6 0,.int .i64 0,.int .i64 0,.int .i64 (p.i 39)]++(l9 ⟨2,4,0⟩++(Ts ⟨1,⟨0,0,0,0⟩,⟨0,0,0,0⟩,⟨2,4,0⟩⟩++[.dS .u8 32 λ_=>0]))))))))
def XA (p:Sd.Pol) (kn d:Nat->Nat) (kf:Nat->Nat->Int):List VB:=[⟨true,⟨97,(0,0)⟩,RV p kn d⟩,dD (kn 0) (d 0) (kf 0),dD (kn 1) (d 1) (kf 1),dD (kn 2) (d 2) (kf 2),dD (kn 3) (d 3) (kf 3),
 ⟨true,⟨132,(0,0)⟩,[.raw (.slice none 0 0),.int .i64 (p.i 48),.int .u64 0]⟩,gp (sn0 p)]
def XB (u:World) (xa:Nat->Addr) (kn kc:Nat->Nat) (i:Nat) (X:(Nat->Int)->Nat->Prop):Prop:=∃f,(eA u (some (xa i)) (kn i) (kc i) f/\kn i<=1000000/\0<kn i)/\∀d,X f d
def cd3 (p:Sd.Pol) (xa:Nat->Addr) (kn kc:Nat->Nat):Int:=eb (λi=>iN (nth (eJ p (λi=>some (xa i)) kn kc) i)) (λj=>kn3 (nth (eJ p (λi=>some (xa i)) kn kc) (j+5)))
theorem adn (p:Sd.Pol) (xa:Nat->Addr) (kn kc:Nat->Nat):cd3 p xa kn kc=eb p.i kn:=by kernel_rfl
def MX (u:World) (p:Sd.Pol) (xa:Nat->Addr) (kn kc:Nat->Nat) (K:VK (LG fr)):Prop:=True/\cond (cd3 p xa kn kc !=0) (K (.aC [.raw (.pointer none),.int .i64 (cd3 p xa kn kc)]) [] [.dC u])
 (cond (decide (p.i 48<1)) (K (.aC [.raw (.pointer none),.int .i64 1]) [] [.dC u]) (cond (decide (p.i 48>64)) (K (.aC [.raw (.pointer none),.int .i64 1]) [] [.dC u])
  (XB u xa kn kc 0 λf0 d0=>XB u xa kn kc 1 λf1 d1=>XB u xa kn kc 2 λf2 d2=>XB u xa kn kc 3 λf3 d3=>True/\True/\True/\True/\K (.aC [.ptr 0 0,.int .i64 0]) (XA p kn (λj=>[d0,d1,d2,d3].getD j 0) λj=>[f0,f1,f2,f3].getD j f0) [.dC u])))
theorem ado (u:World) (p:Sd.Pol) (xa:Nat->Addr) (kn kc:Nat->Nat) (K:VK (LG fr)):cI (nz prog gz (LNw fr) (DR prog) wQ) 60 10 [.agg (eJ p (λi=>some (xa i)) kn kc)] [] [.dC u] (du 0 K)=MX u p xa kn kc K:=by kernel_rfl
def KN (u:World) (p:Sd.Pol) (kn:Nat->Nat) (kf:Nat->Nat->Int):VK (LG fr):=λv b ch=>∃d,v=.aC [.ptr 0 0,.int .i64 0]/\b=XA p kn d kf/\ch=[.dC u]
theorem XC {u:World} {p:Sd.Pol} {xa:Nat->Addr} {kn kc:Nat->Nat} {kf:Nat->Nat->Int} (h:eb p.i kn=0) (hk:∀i,i<4->cn u (some (xa i)) (kn i) (kc i) (kf i)) (h1:∀i,i<4->0<kn i):MX (fr:=fr) u p xa kn kc (KN u p kn kf):=by
 have hc:cd3 p xa kn kc=0:=(adn p xa kn kc).trans h;have hq:=Pu h;refine⟨trivial,aO (λe=>absurd hc (by simpa using e)) λ_=>aO (λe=>absurd (of_decide_eq_true e) (by omega)) λ_=>aO (λe=>absurd (of_decide_eq_true e) (by omega)) λ_=>?_⟩;exact⟨kf 0,⟨(hk 0 (by omega)).2,(hk 0 (by omega)).1,h1 0 (by omega)⟩,λd0=>⟨kf 1,⟨(hk 1 (by omega)).2,(hk 1 (by omega)).1,h1 1 (by omega)⟩,λd1=>⟨kf 2,⟨(hk 2 (by omega)).2,(hk 2 (by omega)).1,h1 2 (by omega)⟩,λd2=>⟨kf 3,⟨(hk 3 (by omega)).2,(hk 3 (by omega)).1,h1 3 (by omega)⟩,
  λd3=>⟨trivial,trivial,trivial,trivial,λj=>[d0,d1,d2,d3].getD j 0,rfl,rfl,rfl⟩⟩⟩⟩⟩
theorem adp (p:Sd.Pol) (kn d:Nat->Nat) (b k0 k1 k2 k3 bq bt:Nat):aL [b,k0,k1,k2,k3,bq,bt] b ⟨true,⟨97,(0,0)⟩,RV p kn d⟩=⟨b,true,.cells (lW p (λi=>some ⟨[k0,k1,k2,k3].getD i 0,0,none⟩) kn (λi=>kn i+d i) (⟨4,(p.i 55),(-1),(⟨0,0⟩:Sd.Timer),(⟨0,0⟩:Sd.Timer),false⟩:Sd.Tok) bq
 (f3 (⟨(0:Int),false,(λ_=>0)⟩:Sd.dR) (⟨(0:Int),false,(λ_=>0)⟩:Sd.dR) (⟨(0:Int),false,(λ_=>0)⟩:Sd.dR)) bt (0:Int) (0:Int) (p.i 39) (⟨2,4,0⟩:Sd.Label) (⟨1,(⟨0,0,0,0⟩:Sd.X4),(⟨0,0,0,0⟩:Sd.X4),(⟨2,4,0⟩:Sd.Label)⟩:Sd.Point) (λ_=>0)) 97 (0,0)⟩:=by kernel_rfl
theorem RW (p:Sd.Pol) (ka:Nat->Option Addr) (kn kc:Nat->Nat) (kf:Nat->Nat->Int) (h:eb p.i kn=0) (w:World) (hk:∀i,i<4->cn w (ka i) (kn i) (kc i) (kf i)):
 ak prog 10 #[.agg (kq p ka kn kc)] w λv w1=>∃(b bq bt:Nat) (xa:Nat->Option Addr) (xc:Nat->Nat) (B:Nat->List ax),v=.tuple #[.pointer (some ⟨b,0,none⟩),.int .i64 0]/\(∀i,i<4->dG 5 (kn i) (kf i) (xa i) (xc i) (B i))/\St [] w ([⟨b,true,.cells (lW p xa kn xc (⟨4,(p.i 55),(-1),(⟨0,0⟩:Sd.Timer),(⟨0,0⟩:Sd.Timer),false⟩:Sd.Tok) bq (f3 (⟨(0:Int),false,(λ_=>0)⟩:Sd.dR) (⟨(0:Int),false,(λ_=>0)⟩:Sd.dR) (⟨(0:Int),false,(λ_=>0)⟩:Sd.dR)) bt (0:Int) (0:Int) (p.i 39) (⟨2,4,0⟩:Sd.Label) (⟨1,(⟨0,0,0,0⟩:Sd.X4),(⟨0,0,0,0⟩:Sd.X4),(⟨2,4,0⟩:Sd.Label)⟩:Sd.Point) (λ_=>0)) 97 (0,0)⟩,⟨bq,true,.cells #[.slice none 0 0,.int .i64 (p.i 48),.int .u64 0] 132 (0,0)⟩,⟨bt,true,.cells (jd (false,(⟨(0:Int),(0:Int)⟩:Sd.Timer)) (f3 (⟨false,⟨(0:Int),(0:Int)⟩,(0:Int),(λ_=>0),⟨false,(0:Int),(0:Int)⟩⟩:Sd.br) (⟨false,⟨(0:Int),(0:Int)⟩,(0:Int),(λ_=>0),⟨false,(0:Int),(0:Int)⟩⟩:Sd.br) (⟨false,⟨(0:Int),(0:Int)⟩,(0:Int),(λ_=>0),⟨false,(0:Int),(0:Int)⟩⟩:Sd.br)) (p.i 42) (p.i 49)) 143 (0,0)⟩]++(B 0++(B 1++(B 2++(B 3++[]))))) w1:=by
 have Yn:∀i,i<4->0<kn i:=by
  have:(tp kn&&vK (kn 3))=true:=by
   cases e:(tp kn&&vK (kn 3))with
   |true=>rfl
   |false=>exfalso;unfold eb at h;repeat' split at h
           all_goals first|omega|(rename_i h48;simp[e]at h48)
  simp only[tp,vK,Bool.and_eq_true,decide_eq_true_eq]at this;intro i hi
  match i,hi with
  |0,_=>omega
  |1,_=>omega
  |2,_=>omega
  |3,_=>omega
  |i+4,h=>exact absurd h (by omega)
 have hx:∀i,∃x,i<4->ka i=some x:=by
  intro i;by_cases hi:i<4
  ·cases e:ka i with
   |none=>have:=((hk i hi).2.2.1 e).1;have:=Yn i hi;omega
   |some x=>exact⟨x,λ_=>rfl⟩
  ·exact⟨⟨0,0,none⟩,λh=>absurd h hi⟩
 let ya:Nat->Addr:=λi=>Classical.choose (hx i)
 have hy:∀i,i<4->ka i=some (ya i):=λi=>Classical.choose_spec (hx i);have e0:#[Value.agg (kq p ka kn kc)]=(aq [] [.agg (eJ p (λi=>some (ya i)) kn kc)]).toArray:=by
  have e1:kq p ka kn kc=kq p (λi=>some (ya i)) kn kc:=by
   unfold kq;rw[hy 0 (by omega),hy 1 (by omega),hy 2 (by omega),hy 3 (by omega)]
  exact(congrArg (λx=>#[Value.agg x]) e1).trans (by kernel_rfl)
 rw[e0];have hv:Hd (cI (nz prog gz (LNw λ_=>(0,λ_=>0)) (DR prog) wQ) 60 10 [.agg (eJ p (λi=>some (ya i)) kn kc)] [] [.dC w] (du 0 (KN w p kn kf))):=⟨by rw[ado];exact XC h (λi hi=>by rw[<-hy i hi];exact hk i hi) Yn⟩;have hr:=Zu (C:=nz prog gz (LNw λ_=>(0,λ_=>0)) (DR prog) wQ) RT.T RT.Q rfl hv (Y:=[]) (show St [] w (ag [LG.dC w] []) w from HW w);clear hv;refine hr.mono ?_;rintro v w' ⟨y,more,bl',ch',rfl,hl1,S',hK⟩;obtain⟨v2,aS,bl2,e,gH,S2,d,rfl,rfl,rfl⟩:=dr (n0:=0) (ids:=more) hl1 (by simp) S' hK
 match aS,gH,e,S2 with
 |[b,k0,k1,k2,k3,bq,bt],_,e,S2=>
  refine⟨b,bq,bt,λi=>some ⟨[k0,k1,k2,k3].getD i 0,0,none⟩,λi=>kn i+d i,λi=>[⟨[k0,k1,k2,k3].getD i 0,true,.cells (cN (kn i) (kf i) (kn i+d i)) 5 (0,0)⟩],e,λi hi=>⟨Nat.le_add_right _ _,.inr ⟨_,rfl,rfl⟩⟩,?_⟩;have XD:∀(ids:List Nat) (k i:Nat),aL ids k (dD (kn i) (d i) (kf i))=⟨k,true,.cells (cN (kn i) (kf i) (kn i+d i)) 5 (0,0)⟩:=λids k i=>by unfold aL;rw[j8];rfl
  have el:lits [b,k0,k1,k2,k3,bq,bt] [b,k0,k1,k2,k3,bq,bt] (XA p kn d kf)=aL [b,k0,k1,k2,k3,bq,bt] b ⟨true,⟨97,(0,0)⟩,RV p kn d⟩::([aL [b,k0,k1,k2,k3,bq,bt] k0 (dD (kn 0) (d 0) (kf 0)),aL [b,k0,k1,k2,k3,bq,bt] k1 (dD (kn 1) (d 1) (kf 1)),aL [b,k0,k1,k2,k3,bq,bt] k2 (dD (kn 2) (d 2) (kf 2)),
   aL [b,k0,k1,k2,k3,bq,bt] k3 (dD (kn 3) (d 3) (kf 3))]++[⟨bq,true,.cells #[.slice none 0 0,.int .i64 (p.i 48),.int .u64 0] 132 (0,0)⟩,aL [b,k0,k1,k2,k3,bq,bt] bt (gp (sn0 p))]):=rfl
  rw[XD,XD,XD,XD,wP,adp]at el;have S3:=S2.sub (List.sublist_append_left _ _);have S4:St [] w (lits [b,k0,k1,k2,k3,bq,bt] [b,k0,k1,k2,k3,bq,bt] (XA p kn d kf)) w':=S3;rw[el]at S4;exact S4.perm (List.Perm.cons _ List.perm_append_comm)
end Go.Proofs.YtlkpikfddnjilaaGreatDoor
