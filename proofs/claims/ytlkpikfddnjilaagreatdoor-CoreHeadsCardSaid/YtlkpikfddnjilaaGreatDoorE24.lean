/- Part 24 of the proof. -/
import Derived.Test.YtlkpikfddnjilaaGreatDoorE23
set_option linter.all false
set_option maxRecDepth 100000
set_option maxHeartbeats 4000000
open Go.Proofs.Tryz
open Go.IntKind (u8 u16 u32 u64 i64)
namespace Go.Proofs.YtlkpikfddnjilaaGreatDoor
open Go Go.RowKit Go.BigFrame Sx Vx
def pvA (m:Nat) (f:Nat->Int) (B:Nat) (v:Value) (w:World):Prop:=∃b c',v=.slice (some ⟨b,0,none⟩) m c'/\m<=c'/\B<=b/\w.heap[b]?=some (.cells (cd m f c') 5 (0,0))
theorem ahK {lf l:List Oper} {sp:Nat->Sp} {a0:Act} {w:World} {i k0:Nat} {pre:List (List Nat)} {o:Oper} {a:Option Addr} {m c:Nat} {f:Nat->Int} (hk:cA w a m c f) (d1 d2 j1 j2:Nat) {t tx e':TypeId}
 (ho:o.op=.call ⟨.builtin .append,#[.tmp d1,.tmp d2],#[t,tx]⟩:=by rfl)
 (hg:o.guard.isNone=true:=by kernel_rfl) (he:Nat.beq i k0=true:=by kernel_rfl)
 (um:mG l o d1=some j1:=by kernel_rfl) (hj1:Nat.beq j1 k0=false:=by kernel_rfl) (ahL:sp j1=sB 0 [] 5:=by rfl)
 (KM:mG l o d2=some j2:=by kernel_rfl) (Rk:Nat.beq j2 k0=false:=by kernel_rfl) (Gy:sp j2=s0 (.slice a m c):=by rfl)
 (ht:prog.underlying t=some (.slice 5):=by kernel_rfl) (xf:prog.underlying tx=some (.slice e'):=by kernel_rfl):
 fm prog k0 pre [] (HQ k0 (pvA m f w.heap.size) sp w.heap.size) lf l (fg a0) w i o:=by
 intro y w' Yb hc jA eA;have ma:i=k0:=Nat.eq_of_beq_eq_true he;have X9:o.guard=none:=by cases hx:o.guard<;>simp_all
 obtain⟨b,hy1,hbB,hb⟩:∃b,y d1=.slice (some ⟨b,0,none⟩) 0 0/\w.heap.size<=b/\w'.heap[b]?=some (.cells #[] 5 (0,0)):=by
  obtain⟨RV,hd⟩:=hY um;have h2:=eA j1 d1 RV hd;unfold HQ at h2;rw[hj1,ahL]at h2;obtain⟨ids,h3,h4,h5⟩:=h2
  match ids,h3 with
  |[b],_=>exact⟨b,h4,h5 (b,.cells [].toArray 5 (0,0)) (List.mem_singleton.2 rfl)⟩
 have hy2:y d2=.slice a m c:=by
  obtain⟨RV,hd⟩:=hY KM;have h2:=eA j2 d2 RV hd;unfold HQ at h2;rw[Rk,Gy]at h2;obtain⟨ids,h3,h4,_⟩:=h2;exact h4
 have hkw:cA w' a m c f:=hk.quiet hc;have gj:=DZ (P:=prog) hkw xf;refine⟨λ_=>?_,λhw=>by simp[dz,X9]at hw⟩;unfold Sx.Yields;by_cases hm:m=0
 ·subst hm;rw[cO (ρ:=Lc y) ho (sv:=.slice (some ⟨b,0,none⟩) 0 0) (xv:=.slice a 0 c) hy1 hy2 (xX (g:=f) gj ht ⟨b,0,none⟩)];refine⟨λ_=>Ch.refl _ _,λe=>absurd ma e,?_⟩;unfold HQ;rw[he];exact⟨b,0,rfl,Nat.le_refl _,hbB,hb⟩
 ·obtain⟨c',w2,bO,kq,hle,we⟩:=wb (g:=f) (x:=a) (ty:=o.type) (t:=t) gj ht (by omega) (by have:=hk.1;omega) ⟨b,0,none⟩;rw[cO (ρ:=Lc y) ho (sv:=.slice (some ⟨b,0,none⟩) 0 0) (xv:=.slice a m c) hy1 hy2 bO];refine⟨λ_=>kq,λe=>absurd ma e,?_⟩;unfold HQ;rw[he];exact⟨w'.heap.size,c',rfl,hle,hc.size,we⟩
theorem afi {P:Program} {a0:Act} {w w0:World} {Q:Exit->Act->World->Prop} {id:Nat} {L:List Oper} {ms:List Nat} {bs:List aC} (S:St ms w0 bs w) (m k0 i1 mm:Nat) (f:Nat->Int) (pre:List (List Nat)) (c9:List Value) (paths:List (List Nat))
 (hs:ef P k0 pre [] (HQ k0 (pvA mm f w.heap.size) (DR ((c9.map s0).set i1 (sB 0 [] 5))) w.heap.size) L (L.take m) (fg a0) w 0 (L.take m))
 (hq:∀b c' u w',mm<=c'->St ms w0 (⟨b,true,.cells (cd mm f c') 5 (0,0)⟩::bs) w'->WL P L.toArray Q (L.drop m) (kR ((c9.set k0 (.slice (some ⟨b,0,none⟩) mm c')).set i1 u) (L.take m) a0) w')
 (hk:Nat.blt k0 m=true:=by kernel_rfl) (hi:Nat.blt i1 m=true:=by kernel_rfl) (ma:Nat.beq i1 k0=false:=by kernel_rfl) (hvl:c9.length=m:=by kernel_rfl) (eA:ai2 (L.take m) k0 pre=true:=by kernel_rfl)
 (hm:P.follows .mixedOrders=true:=by kernel_rfl) (hl:Nat.ble m L.length=true:=by kernel_rfl) (ht:hU L m paths=true:=by kernel_rfl) (jw:lI a0.tmps.size (L.take m)=true:=by kernel_rfl) (dA:eN 0 L=true:=by kernel_rfl):(Code.region id L.toArray true).wp P Q a0 w:=by
 have Ix:(L.take m).length=m:=by have:=Nat.le_of_ble_eq_true hl;simp;omega
 have wM:k0<m:=by simpa[Nat.blt_eq]using hk
 have wz:i1<m:=by simpa[Nat.blt_eq]using hi
 have fc:i1≠k0:=λe=>by rw[e]at ma;simp at ma
 refine yw m k0 pre [] (pvA mm f w.heap.size) c9 paths _ eA ?_ (by simp) hs ?_ hm hl ht jw dA
 ·rintro v w1 w2 hc ⟨b,c',h1,h2,h3,h4⟩;exact⟨b,c',h1,h2,h3,(hc.block _ (fl h4) (by simp)).trans h4⟩
 ·intro vs w' hc dc;have hK:=dc k0 wM;unfold HQ at hK;rw[show Nat.beq k0 k0=true from Nat.beq_refl k0]at hK;obtain⟨b,c',hv,hle,hB,we⟩:=hK;have S2:=S.new hc hB we;have hp:bD vs 0 (L.take m) a0=kR ((c9.set k0 (.slice (some ⟨b,0,none⟩) mm c')).set i1 (vs i1)) (L.take m) a0:=pL (by rw[List.length_set,List.length_set];omega) λi o u ho hu=>by
   have hi2:i<m:=by
    rcases Nat.lt_or_ge i m with h|h
    ·exact h
    ·rw[List.getElem?_eq_none (by simp;omega)]at hu;simp at hu
   refine .inr ?_;rw[Nat.zero_add];by_cases h1:i=i1
   ·subst h1;rw[List.getElem?_set_self (by simp;omega)]at hu;exact Option.some.inj hu
   ·rw[List.getElem?_set_ne (λe=>h1 e.symm)]at hu;by_cases h2:i=k0
    ·subst h2;rw[List.getElem?_set_self (by omega)]at hu;rw[hv];exact Option.some.inj hu
    ·rw[List.getElem?_set_ne (λe=>h2 e.symm)]at hu;have hH:=dc i hi2;unfold HQ at hH;have hb:Nat.beq i k0=false:=by
      cases hx:Nat.beq i k0
      ·rfl
      ·exact absurd (Nat.eq_of_beq_eq_true hx) h2
     rw[hb]at hH;obtain⟨ids,g1,g2,_⟩:=hH;have h3:DR ((c9.map s0).set i1 (sB 0 [] 5)) i=s0 u:=by
      unfold DR;rw[List.getD_eq_getElem?_getD,List.getElem?_set_ne (λe=>h1 e.symm),List.getElem?_map,hu];rfl
     rw[h3]at g1 g2;obtain rfl:ids=[]:=List.eq_nil_of_length_eq_zero (by simpa[s0]using g1);rw[g2];rfl
  rw[hp];exact hq b c' (vs i1) w' hle S2
theorem afj (code:Int) (a:Option Addr) (n c:Nat) (f:Nat->Int) (w:World) (hk:eE w a n c f):
 au prog 37 #[.agg #[.int .i64 code,.slice a n c]] w λv w1=>∃b c',v=.agg #[.int .i64 code,.slice (some ⟨b,0,none⟩) (bJ 40 n) c']/\bJ 40 n<=c'/\St [] w [⟨b,true,.cells (cd (bJ 40 n) f c') 5 (0,0)⟩] w1:=by
 have abt:bJ 40 n<=n:=by unfold bJ;omega
 have hS0:=St.nil [] w;refine aZ Tryz.func37 rfl ?_;refine af (ah ?_);refine ba hS0 (λb=>.pointer (some ⟨b,0,none⟩)) (.cells #[.int .i64 code,.slice a n c] 55) ?_;intro b1 w2 hS1;refine ba hS1 (λb=>.pointer (some ⟨b,0,none⟩)) (.cells #[.int .i64 0,.slice none 0 0] 55) ?_;intro b2 w3 hS2;refine ag (ab (af ?_));have hkw:cA w3 a (bJ 40 n) c f:=(hk.cut abt (by unfold bJ;omega)).quiet hS2.ch;have zD:∀w',Ch [] w3 w'->St [] w _ w':=λw' hc=>hS2.quiet hc;refine afi hS2 11 10 2 (bJ 40 n) f [] [.pointer (some ⟨b1,0,none⟩),.int .i64 code,undef,.pointer (some ⟨b1,1,none⟩),.slice a n c,.pointer (some ⟨b1,1,none⟩),.slice a n c,.int .i64 n,.int .i64 (bJ 40 n:Nat),.slice a (bJ 40 n) c,undef]
  [[11,1,0],[11,1],[11,10,2],[11,10,9,4,3],[11,10,9,4],[11,10,9,8,7,6,5],[11,10,9,8,7,6],[11,10,9,8,7],[11,10,9,8],[11,10,9],[11,10],[12,0],[12,1],[12,2],[12,3],[12,4],[12,5],[12,6],[12,7],[12,8],[12,9],[12,10],[12,11]]
  (aL KI (aL (eL_ zD 1 b1 0) (aL (eB_ 0 [] 5) (aL KI (aL (eL_ zD 1 b1 1) (aL KI (aL (eL_ zD 1 b1 1) (aL KI (aL (eE_ (.int .i64 (if(40:Int)<((n:Nat):Int)then 40 else((n:Nat):Int))) (by rw[show((if(40:Int)<((n:Nat):Int)then 40 else((n:Nat):Int)))=((bJ 40 n:Nat):Int)from yC 40 n];rfl)) (aL (KI (h:=funext λ_=>tA (n:=n) (e:=5) (kd:=.i64) (bJ 40 n) (Nat.le_trans abt hk.1))) (aL (ahK hkw 5 12 2 9 (e':=5)) nk))))))))))) ?_
 intro b c' u w4 hle hS4;refine aa (.agg #[.int .i64 code,.slice (some ⟨b,0,none⟩) (bJ 40 n) c']) ?_;refine store_ hS4 1 (.agg #[.int .i64 code,.slice (some ⟨b,0,none⟩) (bJ 40 n) c']) b2 0 ?_;intro w5 hS5;refine ag (ab (wp_ret ?_));refine dk rfl (cZ [.cell 2 55] [.agg #[.int .i64 code,.slice (some ⟨b,0,none⟩) (bJ 40 n) c']] (.agg #[.int .i64 code,.slice (some ⟨b,0,none⟩) (bJ 40 n) c']) ⟨bh hS5 1 2 b2 0,trivial⟩) ?_;have hl5:[(⟨b,true,.cells (cd (bJ 40 n) f c') 5 (0,0)⟩:aC)].Sublist (Rj [⟨b,true,.cells (cd (bJ 40 n) f c') 5 (0,0)⟩,⟨b2,true,.cells #[.int .i64 0,.slice none 0 0] 55 (0,0)⟩,⟨b1,true,.cells #[.int .i64 code,.slice a n c] 55 (0,0)⟩] 1 0 (Value.agg #[.int .i64 code,.slice (some ⟨b,0,none⟩) (bJ 40 n) c']).cells.toList):=List.Sublist.cons_cons _ (List.nil_sublist _);exact⟨b,c',rfl,hle,hS5.sub hl5⟩
variable{fr:Sd.Reply->Nat×Sd.Byt}
def Qc:jq (LG fr):=λargs bl ch K=>match args,ch with
 |[.agg [.int .i64 code,.raw (.slice a n c)]],.gh u::rest=>cond (ez bl.length bl) (eE u a n c (dt u a)/\∀d,K (.agg [.int .i64 code,.sl bl.length 0 (bJ 40 n) (bJ 40 n+d)]) (bl++[fa (bJ 40 n) d (dt u a)]) (.gh u::rest)) False
 |_,_=>False
theorem Kt {gl:Nat->Option Nat}:Sound prog gl 37 (Qc (fr:=fr)):=by
 intro args ids bl ch R ms w0 w K hg hl S hc;unfold Qc at hc;split at hc
 ·rename_i code a n c u rest;cases hq:ez bl.length bl with
  |false=>rw[hq]at hc;exact hc.elim
  |true=>
   rw[hq]at hc;obtain⟨hk,hK⟩:=hc;have LU:∀y∈fu u,y∈lits ids ids bl++ak (.gh u::rest) R:=λy hy=>by
    refine List.mem_append_right _ ?_;show y∈fu u++ak rest R;exact List.mem_append_left _ hy
   have vn:=afj code a n c (dt u a) w (F7 S LU hk);refine vn.mono ?_;rintro v w' ⟨b,c',rfl,hle,T⟩;have S2:=S.beside T (Wr.cons rfl Wr.nil);have hd:=hK (c'-bJ 40 n);rw[show bJ 40 n+(c'-bJ 40 n)=c' by omega]at hd;refine⟨_,[b],_,_,?_,by simp[hl],?_,hd⟩
   ·have:(ids++[b]).getD bl.length 0=b:=by rw[<-hl];simp[List.getD]
    simp only[den,ai,cl,this];rfl
   ·have e:aW (ids++[b]) b (fa (bJ 40 n) (c'-bJ 40 n) (dt u a))=⟨b,true,.cells (cd (bJ 40 n) (dt u a) c') 5 (0,0)⟩:=by
     unfold aW;rw[rq,show bJ 40 n+(c'-bJ 40 n)=c' by omega];rfl
    rw[aY _ _ _ _ hl,a_ _ _ (by rw[hl];exact hq)];simp only[lits,e];refine S2.perm ?_;rw[List.append_assoc];exact di λf=>by simp only[List.countP_append];omega
 ·exact hc.elim
theorem Ku:fC (Qc (fr:=fr)):=by
 intro args bl ch K hc;unfold Qc at hc⊢;split at hc
 ·cases hq:ez bl.length bl with
  |false=>rw[hq]at hc;exact hc.elim
  |true=>
   rw[hq]at hc;exact⟨hc.1,λd=>⟨hc.2 d,_,rfl⟩⟩
 ·exact hc.elim
structure AI where
 kind:Int
 link:Int
 code:Int
 x:Option Addr
 n:Nat
 c:Nat
 s:Sd.dM
 bad:Bool
def opL (o:AI):List V:=[.int .u8 o.kind,.int .i64 o.link,.int .i64 o.code,.raw (.slice o.x o.n o.c)]++(pg o.s++[.bool o.bad])
def H4 (fr:Sd.Reply->Nat×Sd.Byt) (C:Sd.Crypt):List (eG (LG fr)):=[⟨37,true,Qc⟩,⟨35,false,K5 λ_=>v7 C⟩,⟨36,false,K5 λ_=>v5 C⟩,⟨15,false,K5 λ_=>AE C⟩,⟨22,false,coI C⟩]
theorem Dc (ht:Body (fr:=fr) 130 bN):ao prog gS (H4 fr (aq cu)):=
 ao.cons ⟨Kt,λ_=>Ku⟩ (ao.cons (pB (AG ht)) (ao.cons (pB (AF ht)) (ao.cons (pB (v8 ht)) (ao.cons ⟨xY ht,λe=>by cases e⟩ ao.nil))))
def opR:List V->Option AI
 |[.int .u8 kd,.int .i64 l,.int .i64 co,.raw (.slice x n c),.bool x0,.int .i64 x1,.int .i64 x2,.int .i64 x3,.int .i64 x4,.bool x5,.bool b]=>some ⟨kd,l,co,x,n,c,⟨x0,⟨x1,x2,x3,x4⟩,x5⟩,b⟩
 |_=>none
theorem abu {l:List V} {o:AI} (h:opR l=some o):l=opL o:=by
 unfold opR at h;split at h
 ·cases h;rfl
 ·cases h
def lE (C:Sd.Crypt) (u:World) (s:Sd.Scene) (o:AI):Sd.Scene:=
 if o.kind.tmod 4=1 then s.dD C o.s else if o.kind.tmod 4=2 then s.h_ C o.bad else if o.kind.tmod 4=3 then s.tick C else iL C s o.link o.code (bJ 40 o.n) (dt u o.x)
def F8 (C:Sd.Crypt) (u:World):LM fr:=λar k s F K=>match ar with
 |[.agg ol]=>(match opR ol with
  |some o=>((bo k s/\cJ=F.vs/\cJ=F.vr)/\wc k/\eE u o.x o.n o.c (dt u o.x))/\ow k (lE C u s o) K
  |none=>False)
 |_=>False
def Qd (k:LK) (s:Sd.Scene):Prop:=some (aG k)=some (aG k)/\some (iI k)=some (iI k)/\Cq k 3 s=Cq k 3 (du s)/\s.c.p.bU=s.c.p.bU/\s.c.p.bx=s.c.p.bx/\s.c.p.queue=k.most
def Dd (k:LK) (u:World) (fB:List aC) (sv:Sd.Scene) (X:VK (LG fr)):Prop:=∀(s':Sd.Scene),s'=sv->∀(r:TR) (fn:List aC) (F0:cz fr (b9 k (nn s'))),cJ=F0.vs->cJ=F0.vr->P7 fr s'.sent r.fv fn->
 X (r.v s' 4) (gz k (nn s')++[r.sB s',r.rB s']) [.gh u,.core (cB k (nn s') F0) (fn++fB)]
section
variable(C:Sd.Crypt) (k:LK) (s:Sd.Scene) (F:cz fr (b9 k s)) (u:World) (fB:List aC) (o:AI) (X:VK (LG fr))
def Qe:Prop:=
 let ok:Prop:=bo k (du s)/\cJ=F.vs/\cJ=F.vr
 let n:=bJ 40 o.n
 cond (o.kind.tmod 4==1) (Qd k s/\ok/\Dd k u fB ((du s).dD C o.s) X)
 (cond (o.kind.tmod 4==2) (Qd k s/\ok/\Dd k u fB ((du s).h_ C o.bad) X)
 (cond (o.kind.tmod 4==3) (Qd k s/\ok/\Dd k u fB ((du s).tick C) X)
 (eE u o.x o.n o.c (dt u o.x)/\∀d:Nat,Qd k s/\(n=n/\n+d=n+d/\wa=wa)/\wc k/\(bo k (du s)/\cJ=F.vs/\cJ=F.vr/\n<=58/\By (dt u o.x))/\Dd k u fB (iL C (du s) o.link o.code n (dt u o.x)) X)))
theorem VU:c_ (dQ prog gS (H4 fr C)) 60 13 [.ptr 2 0,.agg (opL o)] (gz k s) [.gh u,.core (cB k s F) fB] (eB 4 X)=Qe C k s F u fB o X:=by kernel_rfl
end
theorem Kv (ht:Body (fr:=fr) 130 bN):ov (fr:=fr) 13 (F8 (aq cu)):=by
 intro u ar k s F Kb a b R ms w0 w h0 hq hM S;unfold F8 at hM;split at hM
 ·rename_i ol;split at hM
  ·rename_i o ho;obtain rfl:=abu ho;obtain⟨⟨⟨hC,v1,v2⟩,hN,hR⟩,hT⟩:=hM;have hg:Gl gS (fH a b):=by
    intro g i iK;unfold gS at iK;split at iK
    ·obtain rfl:=Option.some.inj iK;exact⟨by simp,rfl⟩
    ·obtain rfl:=Option.some.inj iK;exact⟨by simp,rfl⟩
    ·cases iK
   let K:VK (LG fr):=λv bl ch=>∃(s':Sd.Scene) (F0:cz fr (b9 k (nn s'))) (r:TR) (fn:List aC),v=r.v s' 4/\bl=gz k (nn s')++[r.sB s',r.rB s']/\ch=[.gh u,.core (cB k (nn s') F0) (fn++[])]/\Kb (r.v s' 0) (nn s') F0 fn [r.sB s',r.rB s']
   have hX:∀s',ow k s' Kb->Dd k u [] s' K:=λsv h s' e r fn F0 z1 z2 hf=>⟨s',F0,r,fn,rfl,rfl,rfl,h s' e r fn F0 z1 z2 hf⟩;have hF:Qd k s:=⟨rfl,rfl,rfl,rfl,rfl,hq⟩;have hcx:Qe (aq cu) k s F u [] o K:=by
    unfold Qe;rw[lX];unfold lE at hT;refine aS (λe=>?_) (λe=>aS (λe2=>?_) (λe2=>aS (λe3=>?_) (λe3=>?_)))
    ·rw[if_pos (by simpa using e)]at hT;exact⟨hF,⟨hC,v1,v2⟩,hX _ hT⟩
    ·rw[if_neg (by simpa using e),if_pos (by simpa using e2)]at hT;exact⟨hF,⟨hC,v1,v2⟩,hX _ hT⟩
    ·rw[if_neg (by simpa using e),if_neg (by simpa using e2),if_pos (by simpa using e3)]at hT;exact⟨hF,⟨hC,v1,v2⟩,hX _ hT⟩
    ·rw[if_neg (by simpa using e),if_neg (by simpa using e2),if_neg (by simpa using e3)]at hT;exact⟨hR,λd=>⟨hF,⟨rfl,rfl,rfl⟩,hN,⟨hC,v1,v2,by unfold bJ;omega,VT u o.x⟩,hX _ hT⟩⟩
   have fW:c_ (dQ prog gS (H4 fr (aq cu))) 60 13 [.ptr 2 0,.agg (opL o)] (gz k s) [.gh u,.core (cB k s F) []] (eB 4 K):=by
    rw[VU];exact hcx
   refine(bW (Dc ht).T (Dc ht).Q 60 (C:=dQ prog gS (H4 fr (aq cu))) (ids:=fH a b) (bl:=gz k s) (ch:=[.gh u,.core (cB k s F) []]) (R:=R) (ms:=ms) (w0:=w0) (w:=w) hg rfl (by
    refine S.perm ?_;show List.Perm _ (_++(fu u++((F.B++[])++R)));exact di λf=>by simp only[List.countP_append,List.countP_nil];omega) fW).mono ?_
   rintro v w' ⟨x,more,bl',ch',rfl,h1,S',hK⟩;obtain⟨v2',bj,bl2,hv,ja,S2,s',F0,r,fn,rfl,rfl,rfl,hKb⟩:=eQ (n0:=4) h1 (by simp) S' hK;have ht4:(fH a b++more).take 4=fH a b:=rfl;rw[ht4]at hv ja S2;have eR:ak [LG.gh u,LG.core (cB k (nn s') F0) (fn++[])] R=fu u++((F0.B++(fn++[]))++R):=rfl;rw[eR]at S2;rw[hv]
   match bj,ja with
   |[i1,i2],_=>
    refine⟨_,_,F0,fn,_,[i1,i2],rfl,?_,rfl,hKb,?_⟩
    ·simp only[TR.v,P8,den,ai,cl,List.append_nil];rfl
    ·have e2:lits (fH a b++[i1,i2]) (fH a b++[i1,i2]) (gz k (nn s')++[r.sB s',r.rB s'])=lits (fH a b) (fH a b) (gz k (nn s'))++lits [i1,i2] [i1,i2] [r.sB s',r.rB s']:=by
      rw[aY _ _ _ _ rfl,a_ (ids:=fH a b) (more:=[i1,i2]) (fH a b) (gz k (nn s')) rfl,fJ (ids':=[i1,i2]) [i1,i2] _ rfl]
     rw[e2]at S2;exact S2.perm (di λf=>by simp only[List.countP_append,List.countP_nil];omega)
   |[],h=>simp[gz]at h
   |[_],h=>simp[gz]at h
   |_::_::_::_,h=>simp[gz]at h
  ·exact hM.elim
 ·exact hM.elim
theorem bo.step {k:LK} {s:Sd.Scene} (h:bo k s) (u:World) (o:AI) (hx:Sd.DL o.s.x):bo k (nn (lE (aq cu) u s o)):=by
 unfold lE;split
 ·exact h.dD hx
 split
 ·exact h.h_ _
 split
 ·exact h.tick
 ·exact h.item _ _ _ _
end Go.Proofs.YtlkpikfddnjilaaGreatDoor
namespace Go.Proofs.YtlkpikfddnjilaaGreatDoor
open Go Go.RowKit Go.BigFrame Sx Vx
section
variable{G:Type} [Bl G]
theorem Qf {C:Ctx Empty} {f n:Nat} {ids:List Nat} {bl:List VB} {ch:List G} {R:List aC} {ms:List Nat} {w0 w:World} (hT:∀f c,C.T f=some c->Sound C.P C.gl f c) (hQ:ia C) (hg:C.gl=my) (hl:ids.length=bl.length) (S:St ms w0 (lits ids ids bl++ak ch R) w)
 (is:List Nat) (hn:is.Nodup) (bs:List VB) (hb:is.map (bl[·]?)=bs.map some) (hw:ez 0 bs=true) {args args':List V} (ca:az ids args=az (is.map λi=>ids.getD i 0) args') {v0:V} (XJ:fR 0 v0=true)
 (fW:c_ C n f args' bs [] (λv b _=>v=v0/\b.take bs.length=bs)):au C.P f (az ids args).toArray w λv w'=>v=den [] v0/\St ms w0 (lits ids ids bl++ak ch R) w':=by
 have hlen:is.length=bs.length:=by have:=congrArg List.length hb;simpa using this
 have s_:∀(k i:Nat),is[k]?=some i->∃b,bs[k]?=some b/\bl[i]?=some b:=by
  intro k i hk;have:=congrArg (λl=>l[k]?) hb;simp only[List.getElem?_map,hk,Option.map_some]at this;cases hbk:bs[k]?with
  |none=>rw[hbk]at this;simp at this
  |some b=>rw[hbk]at this;simp only[Option.map_some,Option.some.injEq]at this;exact⟨b,rfl,this⟩
 have im:∀i∈is,i<bl.length:=by
  intro i hi;obtain⟨k,hk⟩:=List.getElem?_of_mem hi;obtain⟨b,_,h2⟩:=s_ k i hk;exact ct h2
 obtain⟨r,hr,hp⟩:=vm (bl:=bl) (ids:=ids) hl hn im;have eo:=hp bl rfl;have DP:∀(F9:List Nat),(is.map λj=>aW ids (ids.getD j 0) (bl.getD j ir))=lits F9 (is.map λi=>ids.getD i 0) bs:=by
  intro F9;clear hr hp eo ca fW im;induction is generalizing bs with
  |nil=>simp[lits]
  |cons i is ih=>
   cases bs with
   |nil=>simp at hlen
   |cons b bs=>
    simp only[List.map_cons,List.cons.injEq]at hb;simp only[ez,Bool.and_eq_true]at hw;simp only[List.map_cons,lits,cR hb.1];rw[cq (ids':=F9) hw.1,ih (List.nodup_cons.1 hn).2 bs hb.2 hw.2 (by simpa using hlen) (λk i hk=>s_ (k+1) i (by simpa using hk))]
 rw[DP (is.map λi=>ids.getD i 0)]at eo;have S1:St ms w0 (lits (is.map λi=>ids.getD i 0) (is.map λi=>ids.getD i 0) bs++ak ([]:List Empty) ((r.map λj=>aW ids (ids.getD j 0) (bl.getD j ir))++ak ch R)) w:=by
  refine S.perm ((eo.append_right _).trans ?_);simp only[ak,List.append_assoc];exact List.Perm.refl _
 rw[ca];refine(bW hT hQ n (λg i h=>by rw[hg]at h;cases h) (by simpa using hlen) S1 fW).mono ?_;rintro v w' ⟨x,more,bl',ch',rfl,DJ,S2,rfl,hbs⟩;refine⟨by have:=bR (ids:=[]) (more:=(is.map λi=>ids.getD i 0)++more) x XJ;simpa using this,?_⟩;have gp:bl'=bs++bl'.drop bs.length:=by have:=List.take_append_drop bs.length bl';rw[hbs]at this;exact this.symm
 rw[gp,aY _ _ _ _ (by simpa using hlen),fJ (ids':=is.map λi=>ids.getD i 0) (is.map λi=>ids.getD i 0) bs hw]at S2;have kq:ak ch' ((r.map λj=>aW ids (ids.getD j 0) (bl.getD j ir))++ak ch R)=(r.map λj=>aW ids (ids.getD j 0) (bl.getD j ir))++ak ch R:=by
  match ch' with
  |[]=>rfl
  |e::_=>exact nomatch e
 rw[kq]at S2;have S3:St ms w0 ((lits (is.map λi=>ids.getD i 0) (is.map λi=>ids.getD i 0) bs)++((r.map λj=>aW ids (ids.getD j 0) (bl.getD j ir))++ak ch R)) w':=S2.sub (List.Sublist.append_right (List.sublist_append_left _ _) _);refine S3.perm ?_;refine List.Perm.trans ?_ (eo.symm.append_right _);rw[List.append_assoc]
end
def K6 (q:Nat->Int) (k:Nat):List Value:=[.int .i64 (q k)]
def kK (n:Nat) (q:Nat->Int) (a b:Bool) (ty nf:BT) (u u':List Value):List VB:=[⟨a,ty,[.fY 1 n (K6 q),.rest u]⟩,⟨b,nf,[.fY 1 n (K6 q),.rest u']⟩]
def VV (n c c':Nat) (x x':Option Addr) (j:{j:Nat //j<=n}):List V:=[.je 0 0 n c x,.je 1 0 n c' x',.int .i64 j.1]
def Qg (n c c':Nat) (x x':Option Addr) (q:Nat->Int) (a b:Bool) (ty nf:BT) (u u':List Value):Lp Empty:=MC (X:={j:Nat //j<=n}) (λj=>n-j.1) 26 2 [0,1,5] (VV n c c' x x') (λ_=>kK n q a b ty nf u u') (λ_=>[]) (λ_=>rfl) (λ_=>rfl) (λ_=>rfl)
section
variable(n c c':Nat) (y y':Option Addr) (q:Nat->Int) (a b:Bool) (ty nf:BT) (u u':List Value) (K:VK Empty)
def abv:Prop:=
 let B:=kK n q a b ty nf u u'
 cond ((n:Int)!=n) (K (.bool false) B []) ((true=true/\IZ (VV n c c' y y') (λ_=>kK n q a b ty nf u u') (λ_=>([]:List Empty)) [.je 0 0 n c y,.je 1 0 n c' y',.int .i64 0] B [])/\∀(x:{j:Nat //j<=n}) (g:Nat->Value),
  cond (decide ((x.1:Int)<n)) ((0<=(x.1:Int)/\(x.1:Int)<n)/\((x.1:Int).toNat<n/\∀j,(K6 q j).length=1)/\(0<=(x.1:Int)/\(x.1:Int)<n)/\((x.1:Int).toNat<n/\∀j,(K6 q j).length=1)/\
   cond (q (x.1:Int).toNat !=q (x.1:Int).toNat) (K (.bool false) B []) (true=true/\enD (λj=>n-j.1) (VV n c c' y y') (λ_=>kK n q a b ty nf u u') (λ_=>([]:List Empty)) x [.je 0 0 n c y,.je 1 0 n c' y',.int .i64 (i64.wrap ((x.1:Int)+1))] B [])) (K (.bool true) B []))
theorem abw:c_ (DE prog my ([]:List (eG Empty)) (SR 0 (Qg n c c' y y' q a b ty nf u u'))) 60 41 [.je 0 0 n c y,.je 1 0 n c' y'] (kK n q a b ty nf u u') [] K=abv n c c' y y' q a b ty nf u u' K:=by kernel_rfl
end
theorem abx {n c c':Nat} {y y':Option Addr} {q:Nat->Int} {a b:Bool} {ty nf:BT} {u u':List Value} {K:VK Empty} (hn:n<=1000000) (hK:K (.bool true) (kK n q a b ty nf u u') []):abv n c c' y y' q a b ty nf u u' K:=by
 unfold abv;refine aS (λe=>by simp at e) (λ_=>⟨⟨rfl,⟨0,Nat.zero_le _⟩,rfl,rfl,rfl⟩,?_⟩);rintro⟨j,hj⟩ g;dsimp only;refine aS (λe=>?_) (λ_=>hK);have im:(j:Int)<n:=by simpa using e
 have hl:∀k,(K6 q k).length=1:=λ_=>rfl;refine⟨⟨by omega,im⟩,⟨by omega,hl⟩,⟨by omega,im⟩,⟨by omega,hl⟩,?_⟩;refine aS (λe=>by simp at e) (λ_=>⟨rfl,⟨j+1,by omega⟩,by show n-(j+1)<n-j;omega,?_,rfl,rfl⟩);unfold VV;rw[nH (by omega)];rfl
def De {G:Type}:jq G:=λargs bl ch K=>match args with
 |[.je i 0 n _ _,.je j 0 m _ _]=>(match bl[i]?,bl[j]?with
  |some ⟨_,_,[.fY 1 n' g,.rest _]⟩,some ⟨_,_,[.fY 1 m' g',.rest _]⟩=>cond (!(Nat.beq i j)) ((n'=n/\m'=n/\m=n/\n<=1000000/\g'=g/\∃q,g=K6 q)/\K (.bool true) bl ch) False
  |_,_=>False)
 |_=>False
theorem F_ {G:Type} [Bl G] {gl:Nat->Option Nat}:Sound (G:=G) prog gl 41 De:=by
 intro args ids bl ch R ms w0 w K hg hl S hc;unfold De at hc;split at hc
 ·rename_i i n c x j m c' x';split at hc
  ·rename_i a ty n' g u b nf m' g' u' hi hj;cases hq:!(Nat.beq i j)with
   |false=>rw[hq]at hc;exact hc.elim
   |true=>
    rw[hq]at hc;obtain⟨⟨rfl,rfl,rfl,hn,rfl,q,rfl⟩,hK⟩:=hc;have KE:i≠j:=λe=>by rw[e,Nat.beq_refl]at hq;cases hq
    have fW:c_ (DE prog my ([]:List (eG Empty)) (SR 0 (Qg m c c' x x' q a b ty nf u u'))) 60 41 [.je 0 0 m c x,.je 1 0 m c' x'] (kK m q a b ty nf u u') [] (λv bl _=>v=.bool true/\bl.take (kK m q a b ty nf u u').length=kK m q a b ty nf u u'):=by
     rw[abw];exact abx hn ⟨rfl,rfl⟩
    refine(Qf (C:=DE prog my ([]:List (eG Empty)) (SR 0 (Qg m c c' x x' q a b ty nf u u'))) (_root_.Go.Proofs.YtlkpikfddnjilaaGreatDoor.ao.TL MD) (_root_.Go.Proofs.YtlkpikfddnjilaaGreatDoor.ao.QL MD) rfl hl S [i,j] (by simp[KE]) (kK m q a b ty nf u u') (by simp[hi,hj,kK]) rfl (args:=[.je i 0 m c x,.je j 0 m c' x']) rfl rfl fW).mono ?_;rintro v w' ⟨rfl,S2⟩;exact⟨.bool true,[],bl,ch,rfl,by simpa using hl,by simpa using S2,hK⟩
  ·exact hc.elim
 ·exact hc.elim
theorem Ga {G:Type}:fC (De (G:=G)):=by
 intro args bl ch K hc;unfold De at hc⊢;split at hc
 ·rename_i i n c x j m c' x';split at hc
  ·rename_i a ty n' g u b nf m' g' u' hi hj;cases hq:!(Nat.beq i j)with
   |false=>rw[hq]at hc;exact hc.elim
   |true=>rw[hq]at hc;exact⟨hc.1,hc.2,[],by simp⟩
  ·exact hc.elim
 ·exact hc.elim
variable{fr:Sd.Reply->Nat×Sd.Byt}
def Qh (P:Program):(Operand->V)->Op->List VB->List (LG fr)->VK (LG fr)->Prop:=λe op bl ch K=>match op with
 |.call c=>(match c.callee,c.args.toList,c.argTypes.toList with
  |.builtin .append,[s,xs],[t,tx]=>(match P.underlying t,P.underlying tx with
   |some (.slice 5),some (.slice _)=>(match e s,e xs,ch with
    |.sl i 0 0 0,.raw (.slice a m c),.gh u::rest=>cond (ez bl.length bl) ((eE u a m c (dt u a)/\m<=1000000)/\(m=0->K (.sl i 0 0 0) bl (.gh u::rest))/\(0<m->∀d:Nat,K (.sl bl.length 0 m (m+d)) (bl++[fa m d (dt u a)]) (.gh u::rest))) False
    |_,_,_=>False)
   |_,_=>False)
  |_,_,_=>False)
 |_=>False
theorem AJ {gl:Nat->Option Nat}:wD (G:=LG fr) prog gl (Qh prog):=by
 intro e op ids bl ch R ms w0 w K ρ o hg hl S cX ho h;unfold Qh at h;split at h
 ·rename_i c;split at h
  ·rename_i s xs t tx iC ca nj;split at h
   ·rename_i T ht xf;split at h
    ·rename_i i a m c' u rest yx tB;cases hq:ez bl.length bl with
     |false=>rw[hq]at h;exact h.elim
     |true=>
      rw[hq]at h;obtain⟨⟨hk,hm⟩,h0,h1⟩:=h;have LU:∀y∈fu u,y∈lits ids ids bl++ak (.gh u::rest) R:=λy hy=>by
       refine List.mem_append_right _ ?_;show y∈fu u++ak rest R;exact List.mem_append_left _ hy
      have gj:=DZ (P:=prog) (⟨hm,F7 S LU hk⟩:cA w a m c' (dt u a)) xf;obtain⟨Ru,ar,Bx⟩:=c;simp only at iC ca nj;have e2:ar=#[s,xs]:=by rw[<-ca]
      have e3:Bx=#[t,tx]:=by rw[<-nj]
      subst iC e2 e3;have um:ρ s=.slice (some ⟨ids.getD i 0,0,none⟩) 0 0:=by rw[cX,yx];simp only[den]
      have RA:ρ xs=.slice a m c':=by rw[cX,tB];simp only[den]
      by_cases IA:m=0
      ·subst IA;refine⟨_,[],bl,_,w,.inl ?_,by simpa using hl,by simpa using S,h0 rfl⟩;rw[cO (P:=prog) (ρ:=ρ) (o:=o) ho um RA (xX (g:=dt u a) gj ht ⟨ids.getD i 0,0,none⟩)];simp only[den,List.append_nil]
      ·obtain⟨c2,w2,bO,kq,hle,we⟩:=wb (g:=dt u a) (x:=a) (ty:=o.type) (t:=t) gj ht (by omega) (by omega) ⟨ids.getD i 0,0,none⟩;have h2:=h1 (by omega) (c2-m);rw[show m+(c2-m)=c2 by omega]at h2;refine⟨_,[w.heap.size],_,_,w2,.inl ?_,by simp[hl],?_,h2⟩
       ·rw[cO (P:=prog) (ρ:=ρ) (o:=o) ho um RA bO];simp only[den];rw[<-hl,cQ]
       ·have e:aW (ids++[w.heap.size]) w.heap.size (fa m (c2-m) (dt u a))=⟨w.heap.size,true,.cells (cd m (dt u a) c2) 5 (0,0)⟩:=by
         unfold aW;rw[rq,show m+(c2-m)=c2 by omega];rfl
        rw[aY _ _ _ _ hl,a_ _ _ (by rw[hl];exact hq)];simp only[lits,e];refine(S.new kq (Nat.le_refl _) we).perm ?_;rw[List.append_assoc];exact List.perm_middle.symm
    ·exact h.elim
   ·exact h.elim
  ·exact h.elim
 ·exact h.elim
theorem IU {G:Type} [Bl G] {C:Ctx G} {f n:Nat} {args:List V} {ch0:List G} {K:VK G} (hT:∀f c,C.T f=some c->Sound C.P C.gl f c) (hQ:ia C) (hgl:C.gl=my) (fW:c_ C n f args [] ch0 K)
 {Y:List aC} {ms:List Nat} {w0 w:World} (S:St ms w0 (ak ch0 Y) w):
 au C.P f (az [] args).toArray w λv w'=>∃(x:V) (more:List Nat) (bl':List VB) (ch':List G),v=den more x/\more.length=bl'.length/\St ms w0 (lits more more bl'++ak ch' Y) w'/\K x bl' ch':=
 bW hT hQ n (ids:=[]) (bl:=[]) (λg i h=>by rw[hgl]at h;cases h) rfl S fW
theorem VW {G:Type} [Bl G] {C:Ctx G} {f n:Nat} {ids:List Nat} {bl:List VB} {args args':List V} {ch0 rest:List G} {R:List aC} {ms:List Nat} {w0 w:World} {K:VK G} (hT:∀f c,C.T f=some c->Sound C.P C.gl f c) (hQ:ia C) (hgl:C.gl=my) (hl:ids.length=bl.length)
 (hw:ez bl.length bl=true) (ha:az ids args=az [] args') (S:St ms w0 (lits ids ids bl++ak (ch0++rest) R) w) (fW:c_ C n f args' [] ch0 (eB 0 λv b c=>K (rk bl.length v) (bl++XI bl.length b) (c++rest))):
 au C.P f (az ids args).toArray w λv w'=>∃x more bl' ch',v=den (ids++more) x/\(ids++more).length=bl'.length/\St ms w0 (lits (ids++more) (ids++more) bl'++ak ch' R) w'/\K x bl' ch':=by
 have S1:St ms w0 (ak ch0 (lits ids ids bl++ak rest R)) w:=S.perm (by
  rw[fL,cM (ak rest R) ch0,cM (lits ids ids bl++ak rest R) ch0];exact di λf=>by simp only[List.countP_append];omega)
 rw[ha];refine(IU hT hQ hgl fW S1).mono ?_;rintro v w' ⟨x,more,bl',ch',rfl,h1,S',hK⟩;obtain⟨v2,bj,bl2,hv,ja,S2,hK2⟩:=eQ (n0:=0) h1 (Nat.zero_le _) S' hK;simp only[List.take_zero,List.nil_append]at hv ja S2;refine⟨_,bj,_,_,?_,?_,?_,hK2⟩
 ·rw[hv,<-hl,su]
 ·rw[List.length_append,List.length_append,HZ,hl,ja]
 ·rw[aY _ _ _ _ hl,a_ _ _ (by rw[hl];exact hw),<-hl,H0];refine S2.perm ?_;rw[fL,cM (ak rest R) ch',cM (lits ids ids bl++ak rest R) ch'];exact di λf=>by simp only[List.countP_append];omega
theorem afk {ids:List Nat} {args:List V} (ha:cK 0 args=true):az ids args=az [] args:=by have:=dO (ids:=[]) (more:=ids) args ha;simpa using this
def H5 (n:Nat):Nat:=if n=0 then 1 else bJ 64 n
def xZ (n:Nat) (f:Sd.Byt):Sd.Byt:=if n=0 then λ_=>7 else f
theorem Qi (n:Nat):1<=H5 n/\H5 n<=64:=by unfold H5 bJ;split<;>omega
def Qj:jq (LG fr):=λargs bl ch K=>match args,ch with
 |[.raw (.slice a n c)],.gh u::rest=>cond (ez bl.length bl) (eE u a n c (dt u a)/\∀d:Nat,K (.sl bl.length 0 (H5 n) (H5 n+d)) (bl++[fa (H5 n) d (xZ n (dt u a))]) (.gh u::rest)) False
 |_,_=>False
def ahM (u:World) (a:Option Addr) (n c:Nat) (K:VK (LG fr)):Prop:=
 let m:Int:=if(64:Int)<((n:Nat):Int)then 64 else((n:Nat):Int)
 cond ((n:Int)==0) (K (.sl 0 0 1 1) [⟨true,⟨5,(0,0)⟩,[.int .u8 7]⟩] [.gh u])
  ((0<=m/\m<=(c:Int))/\(eE u a m.toNat c (dt u a)/\m.toNat<=1000000)/\(m.toNat=0->K (.sl 0 0 0 0) [⟨true,⟨5,(0,0)⟩,[]⟩] [.gh u])/\(0<m.toNat->∀d:Nat,K (.sl 0 0 m.toNat (m.toNat+d)) [fa m.toNat d (dt u a)] [.gh u]))
theorem aby (u:World) (a:Option Addr) (n c:Nat) (K:VK (LG fr)):c_ (wU prog my ([]:List (eG (LG fr))) (Qh prog) AJ) 60 23 [.raw (.slice a n c)] [] [.gh u] (eB 0 K)=ahM u a n c K:=by kernel_rfl
theorem Gb {gl:Nat->Option Nat}:Sound prog gl 23 (Qj (fr:=fr)):=by
 intro args ids bl ch R ms w0 w K hg hl S hc;unfold Qj at hc;split at hc
 ·rename_i a n c u rest;cases hq:ez bl.length bl with
  |false=>rw[hq]at hc;exact hc.elim
  |true=>
   rw[hq]at hc;obtain⟨hk,hK⟩:=hc
   let K0:VK (LG fr):=λv b ch=>ch=[.gh u]/\∃m d,H5 n=m/\v=.sl 0 0 m (m+d)/\∃B,b=[B]/\aW [0] 0 B=aW [0] 0 (fa m d (xZ n (dt u a)))/\cK 0 B.c=true
   have fW:c_ (wU prog my ([]:List (eG (LG fr))) (Qh prog) AJ) 60 23 [.raw (.slice a n c)] [] [.gh u] (eB 0 K0):=by
    rw[aby];refine aS (λe=>?_) (λe=>?_)
    ·have e:n=0:=by simpa using e
     subst e;exact⟨rfl,1,0,rfl,rfl,_,rfl,rfl,rfl⟩
    ·have e:n≠0:=by simpa using e
     have hm:(if(64:Int)<((n:Nat):Int)then 64 else((n:Nat):Int))=((bJ 64 n:Nat):Int):=yC 64 n;rw[hm];have hn:H5 n=bJ 64 n:=by unfold H5;rw[if_neg e]
     have hf:xZ n (dt u a)=dt u a:=by unfold xZ;rw[if_neg e]
     have h1:=hk.1;have hle:bJ 64 n<=n:=by unfold bJ;omega
     have Pt:0<bJ 64 n:=by unfold bJ;omega
     have h64:bJ 64 n<=64:=by unfold bJ;omega
     refine⟨⟨by omega,by omega⟩,?_⟩;rw[Int.toNat_natCast];exact⟨⟨(hk.cut hle (by omega)).2,by omega⟩,λh0=>absurd h0 (by omega),λ_ d=>⟨rfl,_,d,hn,rfl,_,rfl,by rw[hf],rfl⟩⟩
   rw[afk (ids:=ids) (args:=[.raw (.slice a n c)]) rfl];refine(IU (C:=wU prog my ([]:List (eG (LG fr))) (Qh prog) AJ) (ao.nil (P:=prog) (gl:=my)).T (ao.nil (P:=prog) (gl:=my)).Q rfl fW (Y:=lits ids ids bl++ak rest R) (S.perm (di λf=>by simp only[ak,List.countP_append];show _+(List.countP f (fu u)+_)=List.countP f (fu u)+_;omega))).mono ?_;rintro v w' ⟨x,more,bl',ch',rfl,h1,S',hK0⟩;obtain⟨v2,bj,bl2,hv,ja,S2,rfl,m,d,hm,rfl,B,rfl,hB,hwB⟩:=eQ (n0:=0) h1 (Nat.zero_le _) S' hK0
   match bj,ja with
   |[b],_=>
    have hd:=hK d;rw[hm]at hd;refine⟨_,[b],_,_,?_,by simp[hl],?_,hd⟩
    ·rw[hv];have:(ids++[b]).getD bl.length 0=b:=by rw[<-hl];simp[List.getD]
     simp only[den,this,List.take_zero,List.nil_append];rfl
    ·have e1:aW [b] b B=aW (ids++[b]) b (fa m d (xZ n (dt u a))):=by
      have q1:aW [b] b B=aW [0] b B:=cq hwB;have q2:aW (ids++[b]) b (fa m d (xZ n (dt u a)))=aW [0] b (fa m d (xZ n (dt u a))):=cq rfl;rw[q1,q2];unfold aW at hB⊢;simp only[aC.mk.injEq,Obj.cells.injEq]at hB⊢;exact⟨trivial,hB.2⟩
     rw[aY _ _ _ _ hl,a_ _ _ (by rw[hl];exact hq)];simp only[List.take_zero,List.nil_append,lits]at S2;rw[e1]at S2;refine S2.perm ?_;show List.Perm ([_]++(fu u++(lits ids ids bl++ak rest R))) ((lits ids ids bl++[_])++(fu u++ak rest R));exact di λf=>by simp only[List.countP_append,List.countP_cons,List.countP_nil];omega
   |[],h=>simp at h
   |_::_::_,h=>simp at h
 ·exact hc.elim
theorem Gc:fC (Qj (fr:=fr)):=by
 intro args bl ch K hc;unfold Qj at hc⊢;split at hc
 ·cases hq:ez bl.length bl with
  |false=>rw[hq]at hc;exact hc.elim
  |true=>rw[hq]at hc;exact⟨hc.1,λd=>⟨hc.2 d,_,rfl⟩⟩
 ·exact hc.elim
def dy (a m:Int):Int:=(i64.wrap (a.tmod m+m)).tmod m
theorem ru (a:Int) {m:Int} (h:0<m) (h2:m<=1000000):0<=dy a m/\dy a m<m:=by
 unfold dy;have h1:=Int.tmod_lt_of_pos a h;have h3:-m<a.tmod m:=by
  have:=Int.lt_tmod_of_pos a h;omega
 have hw:i64.wrap (a.tmod m+m)=a.tmod m+m:=nH (by omega);rw[hw];exact⟨Int.tmod_nonneg _ (by omega),Int.tmod_lt_of_pos _ h⟩
def Qk:jq (LG fr):=λargs bl ch K=>match args with
 |[.int .i64 a,.int .i64 (.ofNat 3)]=>cond (Nat.blt bl.length 5) ((dy a 3=0->K (.int .i64 0) bl ch)/\(dy a 3=1->K (.int .i64 1) bl ch)/\(dy a 3=2->K (.int .i64 2) bl ch)) (K (.int .i64 (dy a 3)) bl ch)
 |[.int .i64 a,.int .i64 (.ofNat 2)]=>(dy a 2=0->K (.int .i64 0) bl ch)/\(dy a 2=1->K (.int .i64 1) bl ch)
 |[.int .i64 a,.int .i64 (.ofNat (m+1))]=>K (.int .i64 (dy a (.ofNat (m+1)))) bl ch
 |_=>False
theorem abz (a:Int) (m:Nat) (X:V->Prop):jr prog [] 60 24 [.int .i64 a,.int .i64 (.ofNat (m+1))] X=X (.int .i64 (dy a (.ofNat (m+1)))):=by kernel_rfl
theorem Kw (a:Int) (m:Nat) (ids:List Nat) (w:World):au prog 24 (az ids [.int .i64 a,.int .i64 (.ofNat (m+1))]).toArray w λx w'=>x=den ids (.int .i64 (dy a (.ofNat (m+1))))/\Ch [] w w':=
 oK aX.nil 60 (by rw[abz]) rfl rfl ids w
theorem Gd {gl:Nat->Option Nat}:Sound prog gl 24 (Qk (fr:=fr)):=by
 intro args ids bl ch R ms w0 w K hg hl S hc;have go:∀(a:Int) (m:Nat),K (.int .i64 (dy a (.ofNat (m+1)))) bl ch->au prog 24 (az ids [.int .i64 a,.int .i64 (.ofNat (m+1))]).toArray w λv w'=>∃x more bl' ch',v=den (ids++more) x/\(ids++more).length=bl'.length/\St ms w0 (lits (ids++more) (ids++more) bl'++ak ch' R) w'/\K x bl' ch':=by
  intro a m hK;refine(Kw a m ids w).mono ?_;rintro v w' ⟨rfl,kq⟩;exact⟨_,[],bl,ch,by simp,by simpa using hl,by simpa using S.quiet kq,hK⟩
 have cast:∀(a:Int) (m:Nat) (r:Int),dy a (.ofNat (m+1))=r->K (.int .i64 r) bl ch->K (.int .i64 (dy a (.ofNat (m+1)))) bl ch:=λa m r e h=>by rw[e];exact h
 unfold Qk at hc;split at hc
 ·rename_i a;refine go a 2 ?_;have hb:=ru a (m:=3) (by decide) (by decide);cases hq:Nat.blt bl.length 5 with
  |false=>rw[hq]at hc;exact hc
  |true=>
   rw[hq]at hc;have h3:dy a (.ofNat (2+1))=dy a 3:=rfl;have:dy a 3=0\/dy a 3=1\/dy a 3=2:=by omega
   rcases this with e|e|e
   ·exact cast a 2 _ e (hc.1 e)
   ·exact cast a 2 _ e (hc.2.1 e)
   ·exact cast a 2 _ e (hc.2.2 e)
 ·rename_i a;refine go a 1 ?_;have hb:=ru a (m:=2) (by decide) (by decide);have:dy a 2=0\/dy a 2=1:=by omega
  rcases this with e|e
  ·exact cast a 1 _ e (hc.1 e)
  ·exact cast a 1 _ e (hc.2 e)
 ·rename_i a m _ _;exact go a m hc
 ·exact hc.elim
theorem Ge:fC (Qk (fr:=fr)):=by
 intro args bl ch K hc;unfold Qk at hc⊢;split at hc
 ·cases hq:Nat.blt bl.length 5 with
  |false=>rw[hq]at hc;exact⟨hc,[],by simp⟩
  |true=>rw[hq]at hc;exact⟨λe=>⟨hc.1 e,[],by simp⟩,λe=>⟨hc.2.1 e,[],by simp⟩,λe=>⟨hc.2.2 e,[],by simp⟩⟩
 ·exact⟨λe=>⟨hc.1 e,[],by simp⟩,λe=>⟨hc.2 e,[],by simp⟩⟩
 ·exact⟨hc,[],by simp⟩
 ·exact hc.elim
def iN:V->Int|.int .i64 n=>n|_=>0
def sA:V->Option Addr|.raw (.slice a _ _)=>a|_=>none
def sN:V->Nat|.raw (.slice _ n _)=>n|_=>0
def sC:V->Nat|.raw (.slice _ _ c)=>c|_=>0
def jO (i:Nat):Bool:=Nat.ble 5 i&&Nat.ble i 8
def ajB (i:Nat) (v:V):Bool:=match v with
 |.int .i64 _=>!jO i
 |.raw (.slice _ _ _)=>jO i
 |_=>false
def Df:List V->Nat->Bool
 |[],i=>Nat.beq i 56
 |v::l,i=>ajB i v&&Df l (i+1)
structure nW where
 q:Nat->Int
 ka:Nat->Option Addr
 kn:Nat->Nat
 kc:Nat->Nat
def Qm (l:List V):Option nW:=match l with
 |[.jS p ka kn kc]=>some ⟨p.i,ka,kn,kc⟩
 |l=>bif Df l 0 then some ⟨λi=>iN (nth l i),λj=>sA (nth l (j+5)),λj=>sN (nth l (j+5)),λj=>sC (nth l (j+5))⟩else none
def rv (i:Nat) (v:V):Value:=bif jO i then .slice (sA v) (sN v) (sC v)else .int .i64 (iN v)
theorem Dg (ids:List Nat):∀(l:List V) (i:Nat),Df l i=true->i+l.length=56/\ai ids l=(List.range l.length).map λj=>rv (i+j) (nth l j)
 |[],i,h=>⟨Nat.eq_of_beq_eq_true h,rfl⟩
 |v::l,i,h=>by
  unfold Df at h;rw[Bool.and_eq_true]at h;obtain⟨h1,h2⟩:=Dg ids l (i+1) h.2;refine⟨by simp;omega,?_⟩;rw[List.length_cons,List.range_succ_eq_map,List.map_cons,List.map_map];simp only[ai,h2];have e:ai ids l=(List.range l.length).map ((λj=>rv (i+j) (nth (v::l) j))∘Nat.succ):=by
   rw[h2];apply List.map_congr_left;intro j _;show rv (i+1+j) (nth l j)=rv (i+(j+1)) (nth l j);rw[show i+1+j=i+(j+1) by omega]
  rw[<-h2,e];have hv:cl v (den ids v)=[rv (i+0) (nth (v::l) 0)]:=by
   have h3:=h.1;unfold ajB at h3;split at h3
   ·have:jO i=false:=by simpa using h3
    simp only[cl,den,nth,rv,Nat.add_zero,this,cond_false,iN]
   ·simp only[cl,den,nth,rv,Nat.add_zero,h3,cond_true,sA,sN,sC]
   ·cases h3
  rw[hv];rfl
theorem Qn {l:List V} {x:nW} (h:Qm l=some x) (k:Nat->Nat×Sd.Byt) (ids:List Nat):ai ids l=ta ⟨x.q,k⟩ x.ka x.kn x.kc:=by
 unfold Qm at h;split at h
 ·cases h;simp only[ai,cl,List.append_nil];rfl
 ·cases hb:Df l 0 with
  |false=>rw[hb]at h;cases h
  |true=>
   rw[hb]at h;cases h;obtain⟨h1,h2⟩:=Dg ids l 0 hb;rw[h2,show l.length=56 by omega];unfold ta;apply List.map_congr_left;intro j hj;have hj:=List.mem_range.1 hj;show rv (0+j) (nth l j)=_;rw[Nat.zero_add];unfold rv jO;cases hk:Nat.ble 5 j&&Nat.ble j 8 with
   |false=>rfl
   |true=>
    rw[Bool.and_eq_true]at hk;have:=Nat.le_of_ble_eq_true hk.1;simp only[cond_true];rw[show j-5+5=j by omega]
def sD (o1 o2 o3:Int) (q:Nat->Int) (i:Nat):Int:=
 bif Nat.ble i 13 then(bif Nat.beq i 1 then o1 else bif Nat.beq i 2 then o2 else bif Nat.beq i 3 then o3 else bif Nat.beq i 4 then 4 else bif Nat.beq i 9 then 1 else bif Nat.ble 10 i&&Nat.ble i 12 then bits .and .i64 (q i) 14 else 0)
 else bif Nat.ble i 33 then bits .and .i64 (q i) 15
 else bif Nat.ble i 38 then bits .and .i64 (q i) 31
 else bif Nat.ble i 41 then dy (q i) 5
 else bif Nat.ble i 46 then i64.wrap (1+dy (q i) 1000)
 else bif Nat.beq i 47 then dy (q i) 1001
 else bif Nat.ble i 49 then i64.wrap (1+dy (q i) 3)
 else bif Nat.beq i 50 then 0
 else bif Nat.ble i 53 then dy (q i) 1001
 else bif Nat.beq i 54 then i64.wrap (1+dy (q i) 1000)
 else bits .and .i64 (q i) 65535
def Gf (q:Nat->Int) (o1 o2 o3:Int):Prop:=
 (dy (q 1) 3=0/\((dy (q 2) 2=0/\o1=1/\o2=2/\o3=3)\/(dy (q 2) 2=1/\o1=1/\o2=3/\o3=2)))\/
 (dy (q 1) 3=1/\((dy (q 2) 2=0/\o1=2/\o2=1/\o3=3)\/(dy (q 2) 2=1/\o1=2/\o2=3/\o3=1)))\/
 (dy (q 1) 3=2/\((dy (q 2) 2=0/\o1=3/\o2=2/\o3=1)\/(dy (q 2) 2=1/\o1=3/\o2=1/\o3=2)))
def k4 {α:Type} (a b c d:α):Nat->α:=λj=>match j with|0=>a|1=>b|2=>c|_=>d
def ahN (o1 o2 o3:Int) (q:Nat->Int) (kn d:Nat->Nat):List V:=(List.range 56).map λi=>bif jO i then .sl (i-5) 0 (H5 (kn (i-5))) (H5 (kn (i-5))+d (i-5))else .int .i64 (sD o1 o2 o3 q i)
def VY (p:Nat->Int) (n d:Nat->Nat):List V:=(List.range 56).map λi=>bif jO i then .sl (i-5) 0 (n (i-5)) (n (i-5)+d (i-5))else .int .i64 (p i)
section
variable(x:nW) (f:Nat->Nat×Sd.Byt) (u:World) (K:VK (LG fr))
def H6 (i d:Nat):VB:=fa (H5 (x.kn i)) d (xZ (x.kn i) (dt u (x.ka i)))
def K7 (i:Nat):Prop:=eE u (x.ka i) (x.kn i) (x.kc i) (dt u (x.ka i))
def abA (d3:Nat) (o1 o2 o3:Int):Prop:=K7 x u 0/\∀d0:Nat,K7 x u 1/\∀d1:Nat,K7 x u 2/\∀d2:Nat,K (.agg (ahN o1 o2 o3 x.q x.kn (k4 d0 d1 d2 d3))) [H6 x u 0 d0,H6 x u 1 d1,H6 x u 2 d2,H6 x u 3 d3] [.gh u]
def Qo (d3:Nat) (o1 o2 o3:Int):Prop:=(dy (x.q 2) 2=0->abA x u K d3 o1 o2 o3)/\(dy (x.q 2) 2=1->abA x u K d3 o1 o3 o2)
def afl:Prop:=K7 x u 3/\∀d3:Nat,(dy (x.q 1) 3=0->Qo x u K d3 1 2 3)/\(dy (x.q 1) 3=1->Qo x u K d3 2 1 3)/\(dy (x.q 1) 3=2->Qo x u K d3 3 2 1)
def abB (fr:Sd.Reply->Nat×Sd.Byt):List (eG (LG fr)):=[⟨23,true,Qj⟩,⟨24,true,Qk⟩]
theorem H7:ao prog my (abB fr):=ao.cons ⟨Gb,λ_=>Gc⟩ (ao.cons ⟨Gd,λ_=>Ge⟩ ao.nil)
theorem abC:c_ (dQ prog my (abB fr)) 60 9 [.agg [.jS ⟨x.q,f⟩ x.ka x.kn x.kc]] [] [.gh u] (eB 0 K)=afl x u K:=by kernel_rfl
end
structure Made (x:nW) (p:Nat->Int) (n:Nat->Nat):Prop where
 o:Gf x.q (p 1) (p 2) (p 3)
 p:∀i,i<56->jO i=false->p i=sD (p 1) (p 2) (p 3) x.q i
 n:∀j,n j=H5 (x.kn j)
def afm (x:nW) (u:World) (K:VK (LG fr)):Prop:=(K7 x u 0/\K7 x u 1/\K7 x u 2/\K7 x u 3)/\∀(p:Nat->Int) (n d:Nat->Nat),Made x p n->
 K (.agg (VY p n d)) [fa (n 0) (d 0) (xZ (x.kn 0) (dt u (x.ka 0))),fa (n 1) (d 1) (xZ (x.kn 1) (dt u (x.ka 1))),fa (n 2) (d 2) (xZ (x.kn 2) (dt u (x.ka 2))),fa (n 3) (d 3) (xZ (x.kn 3) (dt u (x.ka 3)))] [.gh u]
theorem abD {x:nW} {u:World} {K:VK (LG fr)} (h:afm x u K):afl x u K:=by
 obtain⟨⟨r0,r1,r2,r3⟩,hK⟩:=h;have g:∀(d3:Nat) (o1 o2 o3:Int),Gf x.q o1 o2 o3->abA x u K d3 o1 o2 o3:=λd3 o1 o2 o3 h=>⟨r0,λd0=>⟨r1,λd1=>⟨r2,λd2=>hK (sD o1 o2 o3 x.q) (λj=>H5 (x.kn j)) (k4 d0 d1 d2 d3) ⟨h,λ_ _ _=>rfl,λ_=>rfl⟩⟩⟩⟩;refine⟨r3,λd3=>⟨λe=>⟨λe2=>g d3 _ _ _ ?_,λe2=>g d3 _ _ _ ?_⟩,λe=>⟨λe2=>g d3 _ _ _ ?_,λe2=>g d3 _ _ _ ?_⟩,λe=>⟨λe2=>g d3 _ _ _ ?_,λe2=>g d3 _ _ _ ?_⟩⟩⟩<;>(unfold Gf;omega)
def VZ:jq (LG fr):=λargs bl ch K=>match args,ch with
 |[.agg l],.gh u::rest=>(match Qm l with
  |some x=>cond (ez bl.length bl) (afm x u λv b c=>K (rk bl.length v) (bl++XI bl.length b) (c++rest)) False
  |none=>False)
 |_,_=>False
theorem x_ {gl:Nat->Option Nat}:Sound prog gl 9 (VZ (fr:=fr)):=by
 intro args ids bl ch R ms w0 w K hg hl S hc;unfold VZ at hc;split at hc
 ·rename_i l u rest;split at hc
  ·rename_i x hx;cases hq:ez bl.length bl with
   |false=>rw[hq]at hc;exact hc.elim
   |true=>
    rw[hq]at hc;refine VW (C:=dQ prog my (abB fr)) (n:=60) (args':=[.agg [.jS ⟨x.q,λ_=>(0,λ_=>0)⟩ x.ka x.kn x.kc]]) (ch0:=[.gh u]) (rest:=rest) H7.T H7.Q rfl hl hq ?_ S (by rw[abC];exact abD hc);simp only[az,den,Qn hx (λ_=>(0,λ_=>0)) ids,ai,cl,List.append_nil]
  ·exact hc.elim
 ·exact hc.elim
def afn (i:Nat) (v:V):Bool:=match v with
 |.int .i64 _=>!jO i
 |.raw (.slice _ _ _)=>jO i
 |.sl _ _ _ _=>jO i
 |_=>false
def ng:List V->Nat->Bool
 |[],i=>Nat.beq i 56
 |v::l,i=>afn i v&&ng l (i+1)
def ka3 (ids:List Nat):V->Option Addr|.raw (.slice a _ _)=>a|.sl i o _ _=>some ⟨ids.getD i 0,o,none⟩|_=>none
def kn3:V->Nat|.raw (.slice _ n _)=>n|.sl _ _ n _=>n|_=>0
def kc3:V->Nat|.raw (.slice _ _ c)=>c|.sl _ _ _ c=>c|_=>0
def l9 (ids:List Nat) (i:Nat) (v:V):Value:=bif jO i then .slice (ka3 ids v) (kn3 v) (kc3 v)else .int .i64 (iN v)
theorem Dh (ids:List Nat):∀(l:List V) (i:Nat),ng l i=true->i+l.length=56/\ai ids l=(List.range l.length).map λj=>l9 ids (i+j) (nth l j)
 |[],i,h=>⟨Nat.eq_of_beq_eq_true h,rfl⟩
 |v::l,i,h=>by
  unfold ng at h;rw[Bool.and_eq_true]at h;obtain⟨h1,h2⟩:=Dh ids l (i+1) h.2;refine⟨by simp;omega,?_⟩;rw[List.length_cons,List.range_succ_eq_map,List.map_cons,List.map_map];simp only[ai,h2];have e:(List.range l.length).map (λj=>l9 ids (i+1+j) (nth l j))=(List.range l.length).map ((λj=>l9 ids (i+j) (nth (v::l) j))∘Nat.succ):=by
   apply List.map_congr_left;intro j _;show l9 ids (i+1+j) (nth l j)=l9 ids (i+(j+1)) (nth l j);rw[show i+1+j=i+(j+1) by omega]
  rw[e];have hv:cl v (den ids v)=[l9 ids (i+0) (nth (v::l) 0)]:=by
   have h3:=h.1;unfold afn at h3;split at h3
   ·have:jO i=false:=by simpa using h3
    simp only[cl,den,nth,l9,Nat.add_zero,this,cond_false,iN]
   ·simp only[cl,den,nth,l9,Nat.add_zero,h3,cond_true,ka3,kn3,kc3]
   ·simp only[cl,den,nth,l9,Nat.add_zero,h3,cond_true,ka3,kn3,kc3]
   ·cases h3
  rw[hv];rfl
def pl3 (l:List V) (f:Nat->Nat×Sd.Byt):Sd.Pol:=⟨λi=>iN (nth l i),f⟩
theorem AK {l:List V} (h:ng l 0=true) (f:Nat->Nat×Sd.Byt) (ids:List Nat):(az ids [.agg l]).toArray=#[.agg (kG (pl3 l f) (λj=>ka3 ids (nth l (j+5))) (λj=>kn3 (nth l (j+5))) (λj=>kc3 (nth l (j+5))))]:=by
 obtain⟨h1,h2⟩:=Dh ids l 0 h;simp only[az,den];rw[h2,show l.length=56 by omega];rfl
def XK:Nat->Nat×Sd.Byt:=λ_=>(0,λ_=>0)
def Qp:QF:=⟨25,λargs _=>match args with
 |[.agg l]=>bif ng l 0 then some (True,.int .i64 (eh (λi=>iN (nth l i)) (λj=>kn3 (nth l (j+5)))))else none
 |_=>none⟩
def Qq:QF:=⟨28,λargs _=>match args with
 |[.agg l]=>bif ng l 0 then some (True,.agg (cI (Sd.Tok.new (pl3 l XK))))else none
 |_=>none⟩
def abE:QF:=⟨19,λargs _=>match args with
 |[.raw (.slice none 0 0)]=>some (True,.agg [.ew .u8 32 λ_=>0])
 |_=>none⟩
theorem Qr (gl:Nat->Option Nat):Qp.Ok prog gl:=by
 intro args bl p_ v_ h hp ids w _ _;unfold Qp at h;dsimp only at h;split at h
 ·rename_i l;cases hq:ng l 0 with
  |false=>rw[hq]at h;cases h
  |true=>
   rw[hq]at h;simp only[cond_true,Option.some.injEq,Prod.mk.injEq]at h;obtain⟨rfl,rfl⟩:=h;rw[AK hq XK ids];exact Uc (pl3 l XK) _ _ _ w
 ·cases h
theorem Qs (gl:Nat->Option Nat):Qq.Ok prog gl:=by
 intro args bl p_ v_ h hp ids w _ _;unfold Qq at h;dsimp only at h;split at h
 ·rename_i l;cases hq:ng l 0 with
  |false=>rw[hq]at h;cases h
  |true=>
   rw[hq]at h;simp only[cond_true,Option.some.injEq,Prod.mk.injEq]at h;obtain⟨rfl,rfl⟩:=h;rw[AK hq XK ids];exact Xg (pl3 l XK) _ _ _ w
 ·cases h
theorem V0 (gl:Nat->Option Nat):abE.Ok prog gl:=by
 intro args bl p_ v_ h hp ids w _ _;unfold abE at h;dsimp only at h;split at h
 ·simp only[Option.some.injEq,Prod.mk.injEq]at h;obtain⟨rfl,rfl⟩:=h;exact told (aad w)
 ·cases h
def sn0 (p:Sd.Pol):Sd.Scene:=⟨.new p,[],[]⟩
def V1:jq (LG fr):=λargs bl ch K=>match args with
 |[.agg l]=>cond (ng l 0&&ez bl.length bl) (K (.ptr bl.length 0) (bl++[gD (sn0 (pl3 l XK))]) ch) False
 |_=>False
theorem wg (p:Sd.Pol) (bt:Nat) (ids:List Nat):aW ids bt (gD (sn0 p))=⟨bt,true,.cells (jm (false,⟨0,0⟩) (f3 ⟨false,⟨0,0⟩,0,(λ_=>0),⟨false,0,0⟩⟩ ⟨false,⟨0,0⟩,0,(λ_=>0),⟨false,0,0⟩⟩ ⟨false,⟨0,0⟩,0,(λ_=>0),⟨false,0,0⟩⟩) (p.i 42) (p.i 49)) 143 (0,0)⟩:=by kernel_rfl
def Qt:List V:=[.bool false,.int .i64 0,.int .i64 0,.int .i64 0]++(List.replicate 32 (.int .u8 0)++[.bool false,.int .i64 0,.int .u64 0])
def H8 (b m:Int):List V:=[.bool false,.int .i64 0,.int .i64 0]++(Qt++(Qt++(Qt++[.int .i64 b,.int .i64 m])))
theorem afo (p:Sd.Pol) (ka:Nat->Option Addr) (kn kc:Nat->Nat) (K:VK Empty):c_ (dQ prog my ([]:List (eG Empty))) 30 29 [.agg (eS p ka kn kc)] [] [] (eB 0 K)=K (.ptr 0 0) [⟨true,⟨143,(0,0)⟩,H8 (p.i 42) (p.i 49)⟩] []:=by kernel_rfl
theorem abF (p:Sd.Pol) (bt:Nat) (ids:List Nat):aW ids bt ⟨true,⟨143,(0,0)⟩,H8 (p.i 42) (p.i 49)⟩=aW ids bt (gD (sn0 p)):=by kernel_rfl
theorem XL {G:Type} [Bl G] {C:Ctx G} {f n:Nat} {args:List V} {ch0:List G} {K:VK G} (hT:∀f c,C.T f=some c->Sound C.P C.gl f c) (hQ:ia C) (hgl:C.gl=my) (fW:Hd (c_ C n f args [] ch0 K))
 {Y:List aC} {ms:List Nat} {w0 w:World} (S:St ms w0 (ak ch0 Y) w):
 au C.P f (az [] args).toArray w λv w'=>∃(x:V) (more:List Nat) (bl':List VB) (ch':List G),v=den more x/\more.length=bl'.length/\St ms w0 (lits more more bl'++ak ch' Y) w'/\K x bl' ch':=IU hT hQ hgl fW.h S
theorem Qu (p:Sd.Pol) (ka:Nat->Option Addr) (kn kc:Nat->Nat) {Y:List aC} {ms:List Nat} {w0 w:World} (S:St ms w0 Y w):au prog 29 #[.agg (kG p ka kn kc)] w λv w1=>∃bt,v=.pointer (some ⟨bt,0,none⟩)/\St ms w0 (aW [] bt (gD (sn0 p))::Y) w1:=by
 have hv:Hd (c_ (dQ prog my ([]:List (eG Empty))) 30 29 [.agg (eS p ka kn kc)] [] [] (eB 0 λv b _=>v=.ptr 0 0/\b=[⟨true,⟨143,(0,0)⟩,H8 (p.i 42) (p.i 49)⟩])):=⟨by rw[afo];exact⟨rfl,rfl⟩⟩;have hr:=XL (C:=dQ prog my ([]:List (eG Empty))) (ao.nil (P:=prog) (gl:=my)).T (ao.nil (P:=prog) (gl:=my)).Q rfl hv (Y:=Y) S;clear hv;refine hr.mono ?_;rintro v w' ⟨y,more,bl',ch',rfl,h1,S',hK⟩;obtain⟨v2,bj,bl2,e,ja,S2,rfl,rfl⟩:=eQ (n0:=0) (ids:=more) h1 (by simp) S' hK
 match bj,ja,e,S2 with
 |[bt],_,e,S2=>
  have S3:St ms w0 ([aW [bt] bt ⟨true,⟨143,(0,0)⟩,H8 (p.i 42) (p.i 49)⟩]++Y) w':=match ch',S2 with
   |[],S2=>S2
   |e::_,_=>nomatch e
  rw[abF,wg,<-wg p bt []]at S3;exact⟨bt,e,S3⟩
theorem Qv:oc prog my (⟨29,true,V1⟩:eG (LG fr)):=by
 refine⟨?_,λ_ args bl ch K h=>?_⟩
 ·intro args ids bl ch R ms w0 w K hg hl S hc;simp only at hc;unfold V1 at hc;split at hc
  ·rename_i l;cases hq:ng l 0&&ez bl.length bl with
   |false=>rw[hq]at hc;exact hc.elim
   |true=>
    rw[hq]at hc;simp only[Bool.and_eq_true]at hq;rw[AK hq.1 XK ids];refine(Qu (pl3 l XK) _ _ _ S).mono ?_;rintro v w' ⟨bt,rfl,S2⟩;rw[wg]at S2;refine⟨_,[bt],_,ch,?_,by simp[hl],?_,hc⟩
    ·simp only[den];rw[<-hl,cQ]
    ·rw[aY _ _ _ _ hl,a_ _ _ (by rw[hl];exact hq.2)];simp only[lits];rw[wg];refine S2.perm ?_;rw[List.append_assoc];exact List.perm_middle.symm
  ·exact hc.elim
 ·simp only at h⊢;unfold V1 at h⊢;split at h
  ·rename_i l;cases hq:ng l 0&&ez bl.length bl with
   |false=>rw[hq]at h;exact h.elim
   |true=>rw[hq]at h;exact⟨h,_,rfl⟩
  ·exact h.elim
def Di (P:Program):(Operand->V)->Op->List VB->List (LG fr)->VK (LG fr)->Prop:=λe op bl ch K=>match op with
 |.call c=>(match c.callee,c.args.toList,c.argTypes.toList with
  |.builtin .append,[s,xs],[t,tx]=>(match P.underlying t,P.underlying tx with
   |some (.slice 5),some (.slice _)=>(match e s,e xs,ch with
    |.sl i 0 0 0,.raw (.slice a m c),.gh u::rest=>cond (ez bl.length bl) (∃f,(eE u a m c f/\m<=1000000/\0<m)/\∀d:Nat,K (.sl bl.length 0 m (m+d)) (bl++[fa m d f]) (.gh u::rest)) False
    |_,_,_=>False)
   |_,_=>False)
  |_,_,_=>False)
 |_=>False
theorem wk {gl:Nat->Option Nat}:wD (G:=LG fr) prog gl (Di prog):=by
 intro e op ids bl ch R ms w0 w K ρ o hg hl S cX ho h;unfold Di at h;split at h
 ·rename_i c;split at h
  ·rename_i s xs t tx iC ca nj;split at h
   ·rename_i T ht xf;split at h
    ·rename_i i a m c' u rest yx tB;cases hq:ez bl.length bl with
     |false=>rw[hq]at h;exact h.elim
     |true=>
      rw[hq]at h;obtain⟨f,⟨hk,hm,IA⟩,h1⟩:=h;have LU:∀y∈fu u,y∈lits ids ids bl++ak (.gh u::rest) R:=λy hy=>by
       refine List.mem_append_right _ ?_;show y∈fu u++ak rest R;exact List.mem_append_left _ hy
      have gj:=DZ (P:=prog) (⟨hm,F7 S LU hk⟩:cA w a m c' f) xf;obtain⟨Ru,ar,Bx⟩:=c;simp only at iC ca nj;have e2:ar=#[s,xs]:=by rw[<-ca]
      have e3:Bx=#[t,tx]:=by rw[<-nj]
      subst iC e2 e3;have um:ρ s=.slice (some ⟨ids.getD i 0,0,none⟩) 0 0:=by rw[cX,yx];simp only[den]
      have RA:ρ xs=.slice a m c':=by rw[cX,tB];simp only[den]
      obtain⟨c2,w2,bO,kq,hle,we⟩:=wb (g:=f) (x:=a) (ty:=o.type) (t:=t) gj ht IA (by omega) ⟨ids.getD i 0,0,none⟩;have h2:=h1 (c2-m);rw[show m+(c2-m)=c2 by omega]at h2;refine⟨_,[w.heap.size],_,_,w2,.inl ?_,by simp[hl],?_,h2⟩
      ·rw[cO (P:=prog) (ρ:=ρ) (o:=o) ho um RA bO];simp only[den];rw[<-hl,cQ]
      ·have e:aW (ids++[w.heap.size]) w.heap.size (fa m (c2-m) f)=⟨w.heap.size,true,.cells (cd m f c2) 5 (0,0)⟩:=by
        unfold aW;rw[rq,show m+(c2-m)=c2 by omega];rfl
       rw[aY _ _ _ _ hl,a_ _ _ (by rw[hl];exact hq)];simp only[lits,e];refine(S.new kq (Nat.le_refl _) we).perm ?_;rw[List.append_assoc];exact List.perm_middle.symm
    ·exact h.elim
   ·exact h.elim
  ·exact h.elim
 ·exact h.elim
def LNw (fr:Sd.Reply->Nat×Sd.Byt):List (eG (LG fr)):=⟨29,true,V1⟩::qL (LG fr) [Qp,Qq,abE,Hz]
theorem Qw:ao prog my (LNw fr):=ao.cons Qv (fZ (aX.cons (Qr _) (aX.cons (Qs _) (aX.cons (V0 _) (aX.cons (CF _) aX.nil)))))
def ahO (p:Sd.Pol) (kn d:Nat->Nat):List V:=(List.range 56).map λo=>bif Nat.ble 5 o&&Nat.ble o 8 then .sl (o-4) 0 (kn (o-5)) (kn (o-5)+d (o-5))else .int .i64 (p.i o)
def Qx:List V:=[.int .i64 0,.bool false]++List.replicate 8 (.int .u8 0)
def Qy (p:Sd.Pol) (kn d:Nat->Nat):List V:=ahO p kn d++(cI (Sd.Tok.new p)++(.ptr 5 0::(Qx++(Qx++(Qx++([.ptr 6 0,.int .i64 0,.int .i64 0,.int .i64 (p.i 39)]++(mr ⟨2,4,0⟩++(RE ⟨1,⟨0,0,0,0⟩,⟨0,0,0,0⟩,⟨2,4,0⟩⟩++[.ew .u8 32 λ_=>0]))))))))
def V2 (p:Sd.Pol) (kn d:Nat->Nat) (kf:Nat->Nat->Int):List VB:=[⟨true,⟨97,(0,0)⟩,Qy p kn d⟩,fa (kn 0) (d 0) (kf 0),fa (kn 1) (d 1) (kf 1),fa (kn 2) (d 2) (kf 2),fa (kn 3) (d 3) (kf 3),
 ⟨true,⟨132,(0,0)⟩,[.raw (.slice none 0 0),.int .i64 (p.i 48),.int .u64 0]⟩,gD (sn0 p)]
def V3 (u:World) (xa:Nat->Addr) (kn kc:Nat->Nat) (i:Nat) (X:(Nat->Int)->Nat->Prop):Prop:=∃f,(eE u (some (xa i)) (kn i) (kc i) f/\kn i<=1000000/\0<kn i)/\∀d,X f d
def cd3 (p:Sd.Pol) (xa:Nat->Addr) (kn kc:Nat->Nat):Int:=eh (λi=>iN (nth (eS p (λi=>some (xa i)) kn kc) i)) (λj=>kn3 (nth (eS p (λi=>some (xa i)) kn kc) (j+5)))
theorem abG (p:Sd.Pol) (xa:Nat->Addr) (kn kc:Nat->Nat):cd3 p xa kn kc=eh p.i kn:=by kernel_rfl
def Lm (u:World) (p:Sd.Pol) (xa:Nat->Addr) (kn kc:Nat->Nat) (K:VK (LG fr)):Prop:=True/\cond (cd3 p xa kn kc !=0) (K (.aI [.raw (.pointer none),.int .i64 (cd3 p xa kn kc)]) [] [.gh u])
 (cond (decide (p.i 48<1)) (K (.aI [.raw (.pointer none),.int .i64 1]) [] [.gh u]) (cond (decide (p.i 48>64)) (K (.aI [.raw (.pointer none),.int .i64 1]) [] [.gh u])
  (V3 u xa kn kc 0 λf0 d0=>V3 u xa kn kc 1 λf1 d1=>V3 u xa kn kc 2 λf2 d2=>V3 u xa kn kc 3 λf3 d3=>True/\True/\True/\True/\K (.aI [.ptr 0 0,.int .i64 0]) (V2 p kn (λj=>[d0,d1,d2,d3].getD j 0) λj=>[f0,f1,f2,f3].getD j f0) [.gh u])))
theorem abH (u:World) (p:Sd.Pol) (xa:Nat->Addr) (kn kc:Nat->Nat) (K:VK (LG fr)):c_ (wU prog my (LNw fr) (Di prog) wk) 60 10 [.agg (eS p (λi=>some (xa i)) kn kc)] [] [.gh u] (eB 0 K)=Lm u p xa kn kc K:=by kernel_rfl
def KN (u:World) (p:Sd.Pol) (kn:Nat->Nat) (kf:Nat->Nat->Int):VK (LG fr):=λv b ch=>∃d,v=.aI [.ptr 0 0,.int .i64 0]/\b=V2 p kn d kf/\ch=[.gh u]
theorem V4 {u:World} {p:Sd.Pol} {xa:Nat->Addr} {kn kc:Nat->Nat} {kf:Nat->Nat->Int} (h:eh p.i kn=0) (hk:∀i,i<4->cA u (some (xa i)) (kn i) (kc i) (kf i)) (h1:∀i,i<4->0<kn i):Lm (fr:=fr) u p xa kn kc (KN u p kn kf):=by
 have hc:cd3 p xa kn kc=0:=(abG p xa kn kc).trans h;have hq:=Oc h;refine⟨trivial,aS (λe=>absurd hc (by simpa using e)) λ_=>aS (λe=>absurd (of_decide_eq_true e) (by omega)) λ_=>aS (λe=>absurd (of_decide_eq_true e) (by omega)) λ_=>?_⟩;exact⟨kf 0,⟨(hk 0 (by omega)).2,(hk 0 (by omega)).1,h1 0 (by omega)⟩,λd0=>⟨kf 1,⟨(hk 1 (by omega)).2,(hk 1 (by omega)).1,h1 1 (by omega)⟩,λd1=>⟨kf 2,⟨(hk 2 (by omega)).2,(hk 2 (by omega)).1,h1 2 (by omega)⟩,λd2=>⟨kf 3,⟨(hk 3 (by omega)).2,(hk 3 (by omega)).1,h1 3 (by omega)⟩,
  λd3=>⟨trivial,trivial,trivial,trivial,λj=>[d0,d1,d2,d3].getD j 0,rfl,rfl,rfl⟩⟩⟩⟩⟩
theorem V5 (w:World):St [] w (fu w++[]) w:=by
 have:=St.given (w:=w) (w.heap.toList.zipIdx.map λp=>(p.2,p.1)) (by
  intro p hp;obtain⟨q,hq,rfl⟩:=List.mem_map.1 hp;have:=(List.mem_zipIdx_iff_getElem?.1 (show(q.1,q.2)∈w.heap.toList.zipIdx from hq));simpa using this)
 rw[List.append_nil];unfold fu;rw[List.map_map]at this;exact this
theorem abI (p:Sd.Pol) (kn d:Nat->Nat) (b k0 k1 k2 k3 bq bt:Nat):aW [b,k0,k1,k2,k3,bq,bt] b ⟨true,⟨97,(0,0)⟩,Qy p kn d⟩=⟨b,true,.cells (mf p (λi=>some ⟨[k0,k1,k2,k3].getD i 0,0,none⟩) kn (λi=>kn i+d i) (⟨4,(p.i 55),(-1),(⟨0,0⟩:Sd.Timer),(⟨0,0⟩:Sd.Timer),false⟩:Sd.Tok) bq
 (f3 (⟨(0:Int),false,(λ_=>0)⟩:Sd.dX) (⟨(0:Int),false,(λ_=>0)⟩:Sd.dX) (⟨(0:Int),false,(λ_=>0)⟩:Sd.dX)) bt (0:Int) (0:Int) (p.i 39) (⟨2,4,0⟩:Sd.Label) (⟨1,(⟨0,0,0,0⟩:Sd.X4),(⟨0,0,0,0⟩:Sd.X4),(⟨2,4,0⟩:Sd.Label)⟩:Sd.Point) (λ_=>0)) 97 (0,0)⟩:=by kernel_rfl
theorem Qz (p:Sd.Pol) (ka:Nat->Option Addr) (kn kc:Nat->Nat) (kf:Nat->Nat->Int) (h:eh p.i kn=0) (w:World) (hk:∀i,i<4->cA w (ka i) (kn i) (kc i) (kf i)):
 au prog 10 #[.agg (kG p ka kn kc)] w λv w1=>∃(b bq bt:Nat) (xa:Nat->Option Addr) (xc:Nat->Nat) (B:Nat->List aC),v=.tuple #[.pointer (some ⟨b,0,none⟩),.int .i64 0]/\(∀i,i<4->cL 5 (kn i) (kf i) (xa i) (xc i) (B i))/\St [] w ([⟨b,true,.cells (mf p xa kn xc (⟨4,(p.i 55),(-1),(⟨0,0⟩:Sd.Timer),(⟨0,0⟩:Sd.Timer),false⟩:Sd.Tok) bq (f3 (⟨(0:Int),false,(λ_=>0)⟩:Sd.dX) (⟨(0:Int),false,(λ_=>0)⟩:Sd.dX) (⟨(0:Int),false,(λ_=>0)⟩:Sd.dX)) bt (0:Int) (0:Int) (p.i 39) (⟨2,4,0⟩:Sd.Label) (⟨1,(⟨0,0,0,0⟩:Sd.X4),(⟨0,0,0,0⟩:Sd.X4),(⟨2,4,0⟩:Sd.Label)⟩:Sd.Point) (λ_=>0)) 97 (0,0)⟩,⟨bq,true,.cells #[.slice none 0 0,.int .i64 (p.i 48),.int .u64 0] 132 (0,0)⟩,⟨bt,true,.cells (jm (false,(⟨(0:Int),(0:Int)⟩:Sd.Timer)) (f3 (⟨false,⟨(0:Int),(0:Int)⟩,(0:Int),(λ_=>0),⟨false,(0:Int),(0:Int)⟩⟩:Sd.bu) (⟨false,⟨(0:Int),(0:Int)⟩,(0:Int),(λ_=>0),⟨false,(0:Int),(0:Int)⟩⟩:Sd.bu) (⟨false,⟨(0:Int),(0:Int)⟩,(0:Int),(λ_=>0),⟨false,(0:Int),(0:Int)⟩⟩:Sd.bu)) (p.i 42) (p.i 49)) 143 (0,0)⟩]++(B 0++(B 1++(B 2++(B 3++[]))))) w1:=by
 have Ww:∀i,i<4->0<kn i:=by
  have:(sZ kn&&ve (kn 3))=true:=by
   cases e:(sZ kn&&ve (kn 3))with
   |true=>rfl
   |false=>exfalso;unfold eh at h;repeat' split at h
           all_goals first|omega|(rename_i h48;simp[e]at h48)
  simp only[sZ,ve,Bool.and_eq_true,decide_eq_true_eq]at this;intro i hi
  match i,hi with
  |0,_=>omega
  |1,_=>omega
  |2,_=>omega
  |3,_=>omega
  |i+4,h=>exact absurd h (by omega)
 have hx:∀i,∃x,i<4->ka i=some x:=by
  intro i;by_cases hi:i<4
  ·cases e:ka i with
   |none=>have:=((hk i hi).2.2.1 e).1;have:=Ww i hi;omega
   |some x=>exact⟨x,λ_=>rfl⟩
  ·exact⟨⟨0,0,none⟩,λh=>absurd h hi⟩
 let ya:Nat->Addr:=λi=>Classical.choose (hx i)
 have hy:∀i,i<4->ka i=some (ya i):=λi=>Classical.choose_spec (hx i);have e0:#[Value.agg (kG p ka kn kc)]=(az [] [.agg (eS p (λi=>some (ya i)) kn kc)]).toArray:=by
  have e1:kG p ka kn kc=kG p (λi=>some (ya i)) kn kc:=by
   unfold kG;rw[hy 0 (by omega),hy 1 (by omega),hy 2 (by omega),hy 3 (by omega)]
  exact(congrArg (λx=>#[Value.agg x]) e1).trans (by kernel_rfl)
 rw[e0];have hv:Hd (c_ (wU prog my (LNw λ_=>(0,λ_=>0)) (Di prog) wk) 60 10 [.agg (eS p (λi=>some (ya i)) kn kc)] [] [.gh w] (eB 0 (KN w p kn kf))):=⟨by rw[abH];exact V4 h (λi hi=>by rw[<-hy i hi];exact hk i hi) Ww⟩;have hr:=XL (C:=wU prog my (LNw λ_=>(0,λ_=>0)) (Di prog) wk) Qw.T Qw.Q rfl hv (Y:=[]) (show St [] w (ak [LG.gh w] []) w from V5 w);clear hv;refine hr.mono ?_;rintro v w' ⟨y,more,bl',ch',rfl,hl1,S',hK⟩;obtain⟨v2,bj,bl2,e,ja,S2,d,rfl,rfl,rfl⟩:=eQ (n0:=0) (ids:=more) hl1 (by simp) S' hK
 match bj,ja,e,S2 with
 |[b,k0,k1,k2,k3,bq,bt],_,e,S2=>
  refine⟨b,bq,bt,λi=>some ⟨[k0,k1,k2,k3].getD i 0,0,none⟩,λi=>kn i+d i,λi=>[⟨[k0,k1,k2,k3].getD i 0,true,.cells (cd (kn i) (kf i) (kn i+d i)) 5 (0,0)⟩],e,λi hi=>⟨Nat.le_add_right _ _,.inr ⟨_,rfl,rfl⟩⟩,?_⟩;have V6:∀(ids:List Nat) (k i:Nat),aW ids k (fa (kn i) (d i) (kf i))=⟨k,true,.cells (cd (kn i) (kf i) (kn i+d i)) 5 (0,0)⟩:=λids k i=>by unfold aW;rw[rq];rfl
  have el:lits [b,k0,k1,k2,k3,bq,bt] [b,k0,k1,k2,k3,bq,bt] (V2 p kn d kf)=aW [b,k0,k1,k2,k3,bq,bt] b ⟨true,⟨97,(0,0)⟩,Qy p kn d⟩::([aW [b,k0,k1,k2,k3,bq,bt] k0 (fa (kn 0) (d 0) (kf 0)),aW [b,k0,k1,k2,k3,bq,bt] k1 (fa (kn 1) (d 1) (kf 1)),aW [b,k0,k1,k2,k3,bq,bt] k2 (fa (kn 2) (d 2) (kf 2)),
   aW [b,k0,k1,k2,k3,bq,bt] k3 (fa (kn 3) (d 3) (kf 3))]++[⟨bq,true,.cells #[.slice none 0 0,.int .i64 (p.i 48),.int .u64 0] 132 (0,0)⟩,aW [b,k0,k1,k2,k3,bq,bt] bt (gD (sn0 p))]):=rfl
  rw[V6,V6,V6,V6,wg,abI]at el;have S3:=S2.sub (List.sublist_append_left _ _);have S4:St [] w (lits [b,k0,k1,k2,k3,bq,bt] [b,k0,k1,k2,k3,bq,bt] (V2 p kn d kf)) w':=S3;rw[el]at S4;exact S4.perm (List.Perm.cons _ List.perm_append_comm)
end Go.Proofs.YtlkpikfddnjilaaGreatDoor
