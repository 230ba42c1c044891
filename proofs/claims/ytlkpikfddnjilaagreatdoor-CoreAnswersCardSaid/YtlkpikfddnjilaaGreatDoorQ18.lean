/- Part 18 of the proof. -/
import Derived.Test.YtlkpikfddnjilaaGreatDoorRows
import Derived.Test.YtlkpikfddnjilaaGreatDoorQ17
set_option linter.all false
set_option maxRecDepth 100000
set_option maxHeartbeats 4000000
open Go.Proofs.Tryz
open Go.IntKind (u8 u16 u32 u64 i64)
namespace Go.Proofs.YtlkpikfddnjilaaGreatDoor
open Go Go.RowKit Go.BigFrame Sx Vx
def Fd.num (d:Fd) (g:Nat->Int):Int:=bif d.sg then Y4 (pa g)else bif Nat.beq d.sz 1 then tk1 g else bif Nat.beq d.sz 2 then pa g else tk4 g
def Fd.set (d:Fd) (v:Int) (m:Sd.db):Sd.db:=match d.at_ with
 |1=>{m with seq:=v}|2=>{m with role:=v}|3=>{m with bZ:=v}|4=>{m with epoch:=v}|5=>{m with mode:=v}|6=>{m with cls:=v}|7=>{m with now:=v==1}
 |8=>{m with x:=⟨v,m.x.b,m.x.c,m.x.d⟩}|9=>{m with x:=⟨m.x.a,v,m.x.c,m.x.d⟩}|10=>{m with x:=⟨m.x.a,m.x.b,v,m.x.d⟩}|11=>{m with x:=⟨m.x.a,m.x.b,m.x.c,v⟩}|_=>m
def mV (k:Int):Option (List Fd):=
 if k=1\/k=2 then some [vI]else if k=3\/k=4\/k=8\/k=9 then some [iO]else if k=5 then some [iO,KX]else if k=6 then some [iO,fTo]else if k=7 then some [iO,gW]else if k=10 then some [iO,gW,yi]
 else if k=11 then some [iO,gW,xC,fX 0,fX 1,fX 2,fX 3]else none
def runM (n:Nat) (f:Nat->Int):List Fd->Nat->Sd.db->Option Sd.db
 |[],off,m=>if n-off=0 then some m else none
 |d::l,off,m=>if n-off<d.sz then none else if d.num (λj=>f (off+j))<d.low\/d.high<d.num (λj=>f (off+j))then none else runM n f l (off+d.sz) (d.set (d.num (λj=>f (off+j))) m)
def b_ (n:Nat) (f:Nat->Int):Option Sd.db:=if n=0 then none else match mV (f 0)with
 |some l=>runM n f l 1 (Sd.iZ (f 0))
 |none=>none
def sO (d:Fd):Prop:=(d.sg=true->d.sz=2)/\∀v m,jO (cB m) d.at_ (bif d.b then .bool (v==1)else .int .i64 v)=cB (d.set v m)
theorem gE {x:Int} (h:-9223372036854775808<=x/\x<=9223372036854775807):i64.wrap x=x:=by simp[IntKind.wrap,IntKind.bits,IntKind.signed];omega
theorem By.at {f:Nat->Int} (h:By f) (o:Nat):By λj=>f (o+j):=λj=>h (o+j)
theorem Iq (d:Fd) {g:Nat->Int} (h:By g):d.val g=d.num g:=by
 have h1:=abH h;have h2:=O7 h;have h4:=abI h
 unfold Fd.val Fd.num;cases d.sg<;>cases Nat.beq d.sz 1<;>cases Nat.beq d.sz 2<;>simp only[cond_true,cond_false]<;>first|rfl|(apply gE;omega)
theorem Ir {n:Nat} {f:Nat->Int} (hf:By f) {X:V->Prop}:∀(l:List Fd) (off:Nat) (m:Sd.db),(∀d∈l,sO d)->(∀r,runM n f l off m=some r->X (.aC [.agg (cB r),.int .i64 0]))->(runM n f l off m=none->X pg)->KW n f X l off (cB m)
 |[],off,m,_,h1,h2=>by
  unfold KW;unfold runM at h1 h2;by_cases h:n-off=0
  ·rw[if_pos h]at h1;rw[h];exact h1 m rfl
  ·rw[if_neg h]at h2;have:Nat.beq (n-off) 0=false:=by
    cases hb:Nat.beq (n-off) 0 with
    |true=>exact absurd (Nat.eq_of_beq_eq_true hb) h
    |false=>rfl
   rw[this];exact h2 rfl
 |d::l,off,m,hd,h1,h2=>by
  unfold KW;unfold runM at h1 h2;have hb:=hf.at off;by_cases h:n-off<d.sz
  ·rw[if_pos h]at h2;have:Nat.blt (n-off) d.sz=true:=by rw[Nat.blt_eq];exact h
   rw[this];exact h2 rfl
  ·rw[if_neg h]at h1 h2;have:Nat.blt (n-off) d.sz=false:=by
    cases hb:Nat.blt (n-off) d.sz with
    |true=>rw[Nat.blt_eq]at hb;exact absurd hb h
    |false=>rfl
   rw[this,Iq d hb];refine⟨hb,aO (λe=>?_) (λe=>aO (λe2=>?_) (λe2=>?_))⟩
   ·have e:=of_decide_eq_true e;rw[if_pos (.inl e)]at h2;exact h2 rfl
   ·have e2:=of_decide_eq_true e2;rw[if_pos (.inr e2)]at h2;exact h2 rfl
   ·have e:=of_decide_eq_false e;have e2:=of_decide_eq_false e2;have hn:¬(d.num (λj=>f (off+j))<d.low\/d.high<d.num (λj=>f (off+j))):=by omega
    rw[if_neg hn]at h1 h2;have:d.up (λj=>f (off+j)) (cB m)=cB (d.set (d.num (λj=>f (off+j))) m):=by
     unfold Fd.up;rw[Iq d hb];exact(hd d (by simp)).2 _ _
    rw[this];exact Ir hf l (off+d.sz) _ (λx hx=>hd x (by simp[hx])) h1 h2
theorem agG {k:Int} {l:List Fd} (h:mV k=some l):∀d∈l,sO d:=by
 have a1:sO vI:=⟨by decide,λv m=>rfl⟩;have a2:sO iO:=⟨by decide,λv m=>rfl⟩;have a3:sO KX:=⟨by decide,λv m=>rfl⟩;have a4:sO fTo:=⟨by decide,λv m=>rfl⟩;have a5:sO gW:=⟨by decide,λv m=>rfl⟩;have a6:sO yi:=⟨by decide,λv m=>rfl⟩;have a7:sO xC:=⟨by decide,λv m=>rfl⟩;have b0:sO (fX 0):=⟨by decide,λv m=>rfl⟩;have b1:sO (fX 1):=⟨by decide,λv m=>rfl⟩;have b2:sO (fX 2):=⟨by decide,λv m=>rfl⟩;have b3:sO (fX 3):=⟨by decide,λv m=>rfl⟩;unfold mV at h
 repeat' split at h
 all_goals first|(cases h;done)|(obtain rfl:=Option.some.inj h;intro d hd;simp at hd;rcases hd with rfl|rfl|rfl|rfl|rfl|rfl|rfl<;>assumption)|(obtain rfl:=Option.some.inj h;intro d hd;simp at hd;rcases hd with rfl|rfl|rfl<;>assumption)|(obtain rfl:=Option.some.inj h;intro d hd;simp at hd;rcases hd with rfl|rfl<;>assumption)|(obtain rfl:=Option.some.inj h;intro d hd;simp at hd;subst hd;assumption)
theorem Qd {n:Nat} {f:Nat->Int} (hf:By f) (hn:n≠0) {X:V->Prop} (h1:∀r,b_ n f=some r->X (.aC [.agg (cB r),.int .i64 0])) (h2:b_ n f=none->X pg):gf n f X:=by
 have hk:kN f=f 0:=gE (by have:=hf 0;omega);have hm:m0 f=cB (Sd.iZ (f 0)):=by unfold m0;rw[hk];rfl
 unfold gf;rw[hk,hm];unfold b_ at h1 h2;rw[if_neg hn]at h1 h2;have T:∀l,mV (f 0)=some l->KW n f X l 1 (cB (Sd.iZ (f 0))):=by
  intro l hl;rw[hl]at h1 h2;exact Ir hf l 1 _ (agG hl) h1 h2
 have eq:∀{k:Int},(f 0==k)=true->f 0=k:=λh=>by simpa using h
 have ne:∀{k:Int},(f 0==k)=false->f 0≠k:=λh=>by simpa using h
 refine aO (λe=>T _ (by rw[eq e];rfl)) (λe1=>aO (λe=>T _ (by rw[eq e];rfl)) (λe2=>aO (λe=>T _ (by rw[eq e];rfl)) (λe3=>aO (λe=>T _ (by rw[eq e];rfl)) (λe4=>aO (λe=>T _ (by rw[eq e];rfl)) (λe5=>aO (λe=>T _ (by rw[eq e];rfl)) (λe6=>
  aO (λe=>T _ (by rw[eq e];rfl)) (λe7=>aO (λe=>T _ (by rw[eq e];rfl)) (λe8=>aO (λe=>T _ (by rw[eq e];rfl)) (λe9=>aO (λe=>T _ (by rw[eq e];rfl)) (λe10=>aO (λe c u hc=>T _ (by rw[eq e];rfl)) (λe11=>?_)))))))))))
 refine h2 ?_;have:=ne e1;have:=ne e2;have:=ne e3;have:=ne e4;have:=ne e5;have:=ne e6;have:=ne e7;have:=ne e8;have:=ne e9;have:=ne e10;have:=ne e11
 have:mV (f 0)=none:=by unfold mV;repeat' (rw[if_neg (by omega)])
 rw[this]
theorem agH (P Q:Nat->Prop) (Z:Prop) (h0:P 0=Z) (h1:P 1=Q 1) (h2:P 2=Q 2) (h3:P 3=Q 3) (h4:P 4=Q 4) (h5:P 5=Q 5) (h6:P 6=Q 6) (h7:P 7=Q 7) (h8:P 8=Q 8) (h9:P 9=Q 9) (h10:P 10=Q 10) (h11:P 11=Q 11) (h12:P 12=Q 12) (h13:P 13=Q 13) (h14:P 14=Q 14) (h15:P 15=Q 15) (h16:P 16=Q 16) (h17:∀m,P (m+17)=Q (m+17)) (n:Nat):(n=0/\P n=Z)\/(n≠0/\P n=Q n):=by
 rcases Nat.lt_or_ge n 17 with h|h
 ·have h:n=0\/n=1\/n=2\/n=3\/n=4\/n=5\/n=6\/n=7\/n=8\/n=9\/n=10\/n=11\/n=12\/n=13\/n=14\/n=15\/n=16:=by omega
  rcases h with rfl|rfl|rfl|rfl|rfl|rfl|rfl|rfl|rfl|rfl|rfl|rfl|rfl|rfl|rfl|rfl|rfl
  ·exact .inl ⟨rfl,h0⟩
  ·exact .inr ⟨by decide,h1⟩
  ·exact .inr ⟨by decide,h2⟩
  ·exact .inr ⟨by decide,h3⟩
  ·exact .inr ⟨by decide,h4⟩
  ·exact .inr ⟨by decide,h5⟩
  ·exact .inr ⟨by decide,h6⟩
  ·exact .inr ⟨by decide,h7⟩
  ·exact .inr ⟨by decide,h8⟩
  ·exact .inr ⟨by decide,h9⟩
  ·exact .inr ⟨by decide,h10⟩
  ·exact .inr ⟨by decide,h11⟩
  ·exact .inr ⟨by decide,h12⟩
  ·exact .inr ⟨by decide,h13⟩
  ·exact .inr ⟨by decide,h14⟩
  ·exact .inr ⟨by decide,h15⟩
  ·exact .inr ⟨by decide,h16⟩
 ·obtain⟨m,rfl⟩:∃m,n=m+17:=⟨n-17,by omega⟩;exact .inr ⟨by omega,h17 m⟩
theorem Wd (e:Nat) {f:Nat->Int} (hf:By f) (t:List Value) {X:V->Prop} (n:Nat) (h1:∀r,b_ n f=some r->X (.aC [.agg (cB r),.int .i64 0])) (h2:b_ n f=none->X pg):ku n e f t X:=by
 rcases agH (λn=>ku n e f t X) (λn=>gf n f X) (X pg) (ajr e f t X) (ajs e f t X) (ajt e f t X) (aju e f t X) (ajv e f t X) (ajw e f t X) (ajx e f t X) (ajy e f t X) (ajz e f t X) (ajA e f t X) (agy e f t X) (agz e f t X) (agA e f t X) (agB e f t X) (agC e f t X) (agD e f t X) (agE e f t X) (agF e f t X) n with⟨h0,h⟩|⟨h0,h⟩
 ·exact Eq.mpr h (h2 (by rw[h0];rfl))
 ·exact Eq.mpr h (Qd hf h0 h1 h2)
def F9 (n:Nat) (f:Nat->Int):V:=match b_ n f with
 |some r=>.aC [.agg (cB r),.int .i64 0]
 |none=>pg
theorem AL:ah prog Bv LTm:=ah.cons ⟨AK Bv,λe=>by cases e⟩ (fJ (aW.cons (KV Bv) (aW.cons (FO Bv) aW.nil)))
theorem We (b n c:Nat) (f:Nat->Int) (t:List Value) (hf:By f) (hc:n<=c) (w:World) (hB:w.heap[b]?=some (.cells ((List.range n).map (λj=>Value.int .u8 (f j))++t).toArray 5 (0,0))):
 ak prog 126 #[.slice (some ⟨b,0,none⟩) n c] w λv w1=>v=den [] (F9 n f)/\Ch [] w w1:=by
 obtain⟨e,rfl⟩:∃e,c=e+n:=⟨c-n,by omega⟩;have fI:ku n e f t (λv=>v=F9 n f):=Wd e hf t n (λr h=>by unfold F9;rw[h]) (λh=>by unfold F9;rw[h]);have S0:=St.given (w:=w) [(b,.cells ((List.range n).map (λj=>Value.int .u8 (f j))++t).toArray 5 (0,0))] (all_cons hB all_nil);have S1:St [] w (lits [b] [b] [⟨false,⟨5,(0,0)⟩,[.dS .u8 n f,.rest t]⟩]++ag ([]:List Empty) []) w:=by
  simpa[lits,aL,af,cl,ag]using S0
 refine(bw AL.TS AL.QS 90 (C:=Mx prog Bv LTm) (args:=[.sl 0 0 n (e+n)]) (λg i h=>by cases h) rfl S1 fI).mono ?_;rintro v w' ⟨x,more,bl',ch',rfl,Em,S2,rfl⟩;refine⟨?_,S2.ch⟩;have hw:fu 0 (F9 n f)=true:=by unfold F9;split<;>rfl
 have:=bx (ids:=[]) (more:=[b]++more) (F9 n f) hw;simpa using this
variable{fr:Sd.Reply->Nat×Sd.Byt}
def qT (s:Sd.Scene) (E:Sd.Tab):Sd.Scene:={s with c:={s.c with doors:=r3 (s.c.doors 0) (s.c.doors 1) (s.c.doors 2) s.c.doors,tab:=⟨E.aA,r3 (E.az 0) (E.az 1) (E.az 2) s.c.tab.az⟩}}
def dN (s:Sd.Scene) (t:Sd.Tab):Sd.Scene:={s with c:={s.c with tab:=t}}
theorem qU {s:Sd.Scene} {E t:Sd.Tab} (h1:E.aA=t.aA) (h2:∀j,j<3->E.az j=t.az j) (h3:∀j,t.az (j+3)=s.c.tab.az (j+3)):qT s E=dN s t:=by
 unfold qT dN;rw[ui,h1];have e:r3 (E.az 0) (E.az 1) (E.az 2) s.c.tab.az=t.az:=by
  funext j
  match j with
  |0=>exact h2 0 (by decide)
  |1=>exact h2 1 (by decide)
  |2=>exact h2 2 (by decide)
  |j+3=>exact(h3 j).symm
 rw[e]
theorem Qe (s:Sd.Scene) (l:Int):qT s ((dh s.c.tab).end_ l)=dN s (s.c.tab.end_ l):=by
 have key:∀l:Int,l=1\/l=2\/l=3->(s.c.tab.fq l=true)->qT s ((dh s.c.tab).eU (l.toNat-1) .zero)=dN s (s.c.tab.eU (l.toNat-1) .zero):=by
  intro l hl tP;refine qU rfl ?_ ?_
  ·intro j hj;have:j=0\/j=1\/j=2:=by omega
   rcases hl with rfl|rfl|rfl<;>rcases this with rfl|rfl|rfl<;>rfl
  ·intro j;rcases hl with rfl|rfl|rfl<;>rfl
 unfold Sd.Tab.end_;rw[vT];by_cases h:s.c.tab.fq l=true
 ·rw[if_pos h,if_pos h];refine key l ?_ h;unfold Sd.Tab.fq at h;simp only[Bool.and_eq_true,decide_eq_true_eq]at h;omega
 ·rw[if_neg h,if_neg h];refine qU rfl ?_ (λj=>rfl);intro j hj;have:j=0\/j=1\/j=2:=by omega
  rcases this with rfl|rfl|rfl<;>rfl
section
variable(C:Sd.Crypt) (k:LK) (s:Sd.Scene) (F:cw fr (bV k s)) (Kb:SK fr k)
theorem acG (l:Int) (m:Sd.db):cI (dw prog gS (L5 fr C)) 60 137 [.ptr 2 0,.int .i64 l,.agg (cB m)] (cO k s F) [cx k s F] (aM k s Kb)
 =(True/\eg k s F/\jH C [.int .i64 l] k (qT s ((dh s.c.tab).end_ l)) F λv s2 F2=>eg k s2 F2/\gD C [.int .i64 4,.int .i64 l,.int .i64 m.seq,.int .i64 0,.int .i64 0] k (dg s2) F2 λv s3 F3=>
  eg k s3 F3/\iT [.int .i64 l,.int .i64 m.seq] k (dg s3) F3 λv s' F'=>aM k s Kb (.aC []) (cO k s' F'++[⟨true,⟨179,(0,0)⟩,cB m⟩]) [cx k s' F']):=by kernel_rfl
abbrev gJ (s:Sd.Scene) (l:Int) (m:Sd.db):Int:=Sd.iR s.c.p s.c.t l ((dh s.c.tab).role l) s.c.mode m
def acH (s:Sd.Scene) (l:Int) (m:Sd.db):Sd.Scene:={s with c:={s.c with mode:=m.mode,cA:=⟨1,l,m.seq⟩}}
def vX (s:Sd.Scene) (c:Int) (x:Sd.X4) (b:Sd.Label):Sd.Scene:={s with c:={s.c with pt:=s.c.pt.set s.c.p c x b}}
theorem F_ (l:Int) (m:Sd.db):cI (dw prog gS (L5 fr C)) 60 143 [.ptr 2 0,.int .i64 l,.agg (cB m)] (cO k s F) [cx k s F] (aM k s Kb)
 =(True/\((m.kind=10\/m.kind=11)/\(iq k).c=(iq k).c)/\cond (gJ s l m !=0)
  (eg k s F/\dQ C [.int .i64 l,.int .i64 m.seq,.int .i64 (gJ s l m)] k (dg s) F λv s' F'=>aM k s Kb (.aC []) (cO k s' F'++[⟨true,⟨179,(0,0)⟩,cB m⟩]) [cx k s' F'])
  (cond (m.kind==10)
   (eg k (acH s l m) F/\gD C [.int .i64 6,.int .i64 l,.int .i64 m.seq,.int .i64 0,.int .i64 0] k (dg (acH s l m)) F λv s3 F3=>eg k s3 F3/\iT [.int .i64 l,.int .i64 m.seq] k (dg s3) F3 λv s' F'=>aM k s Kb (.aC []) (cO k s' F'++[⟨true,⟨179,(0,0)⟩,cB m⟩,⟨true,⟨38,(0,0)⟩,l9 ⟨1,l,m.seq⟩⟩]) [cx k s' F'])
   (Sd.cJ s.c.p/\eg k (vX s m.cls m.x ⟨1,l,m.seq⟩) F/\gD C [.int .i64 6,.int .i64 l,.int .i64 m.seq,.int .i64 0,.int .i64 0] k (dg (vX s m.cls m.x ⟨1,l,m.seq⟩)) F λv s3 F3=>eg k s3 F3/\iT [.int .i64 l,.int .i64 m.seq] k (dg s3) F3 λv s' F'=>aM k s Kb (.aC []) (cO k s' F'++[⟨true,⟨179,(0,0)⟩,cB m⟩,⟨true,⟨38,(0,0)⟩,l9 ⟨1,l,m.seq⟩⟩]) [cx k s' F']))):=by kernel_rfl
theorem Wf:cI (dw prog gS (L5 fr C)) 60 97 [.ptr 2 0] (cO k s F) [cx k s F] (aM k s Kb)
 =((vq k=vq k/\dp s.c.t.epoch)/\∀B (hB:QS k.bq k.most (Sd.an s.c.t s.c.q 0).2.2 B),
  cond ((Sd.an s.c.t s.c.q 0).2.1!=0) (eg k (bI s (Sd.an s.c.t s.c.q 0).2.2) (F.bI (Sd.an s.c.t s.c.q 0).2.2 B hB)/\gD C [.int .i64 7,.int .i64 0,.int .i64 s.c.samples,.int .i64 (Sd.an s.c.t s.c.q 0).2.1,.int .i64 0] k (dg (bI s (Sd.an s.c.t s.c.q 0).2.2)) (F.bI (Sd.an s.c.t s.c.q 0).2.2 B hB) λv s' F'=>aM k s Kb (.aC []) (cO k s' F'++[⟨true,⟨88,(0,0)⟩,cE (Sd.an s.c.t s.c.q 0).1⟩]) [cx k s' F'])
  (eg k (bI s (Sd.an s.c.t s.c.q 0).2.2) (F.bI (Sd.an s.c.t s.c.q 0).2.2 B hB)/\kQ C [.agg (cE (Sd.an s.c.t s.c.q 0).1),.int .i64 2,.int .i64 s.c.samples] k (dg (bI s (Sd.an s.c.t s.c.q 0).2.2)) (F.bI (Sd.an s.c.t s.c.q 0).2.2 B hB) λv s' F'=>aM k s Kb (.aC []) (cO k s' F'++[⟨true,⟨88,(0,0)⟩,cE (Sd.an s.c.t s.c.q 0).1⟩]) [cx k s' F'])):=by kernel_rfl
theorem C8:cI (dw prog gS (L5 fr C)) 60 99 [.ptr 2 0] (cO k s F) [cx k s F] (aM k s Kb)
 =(dp s.c.t.epoch/\cond ((s.c.t.bA 0).2!=0) (eg k s F/\gD C [.int .i64 7,.int .i64 0,.int .i64 s.c.samples,.int .i64 (s.c.t.bA 0).2,.int .i64 0] k (dg s) F λv s' F'=>aM k s Kb (.aC []) (cO k s' F'++[⟨true,⟨88,(0,0)⟩,cE (s.c.t.bA 0).1⟩]) [cx k s' F'])
  (eg k s F/\kQ C [.agg (cE (s.c.t.bA 0).1),.int .i64 4,.int .i64 s.c.samples] k (dg s) F λv s' F'=>aM k s Kb (.aC []) (cO k s' F'++[⟨true,⟨88,(0,0)⟩,cE (s.c.t.bA 0).1⟩]) [cx k s' F'])):=by kernel_rfl
def Li (s:Sd.Scene):Sd.db:=⟨11,0,0,0,s.c.t.epoch,0,1,false,⟨0,0,0,0⟩⟩
theorem acI (x:Sd.dq):cI (dw prog gS (L5 fr C)) 60 98 [.ptr 2 0,.agg (pd x)] (cO k s F) [cx k s F] (aM k s Kb)
 =((((11:Int)=10\/(11:Int)=11)/\(iq k).c=(iq k).c)/\cond (Sd.iR s.c.p s.c.t 0 0 s.c.mode (Li s)!=0)
  (eg k s F/\gD C [.int .i64 7,.int .i64 0,.int .i64 s.c.samples,.int .i64 (Sd.iR s.c.p s.c.t 0 0 s.c.mode (Li s)),.int .i64 0] k (dg s) F λv s' F'=>aM k s Kb (.aC []) (cO k s' F'++[⟨true,⟨57,(0,0)⟩,pd x⟩,⟨true,⟨179,(0,0)⟩,cB (Li s)⟩]) [cx k s' F'])
  (Sd.cJ s.c.p/\eg k (vX s 1 x.x ⟨1,0,s.c.samples⟩) F/\gD C [.int .i64 6,.int .i64 0,.int .i64 s.c.samples,.int .i64 0,.int .i64 0] k (dg (vX s 1 x.x ⟨1,0,s.c.samples⟩)) F λv s' F'=>aM k s Kb (.aC []) (cO k s' F'++[⟨true,⟨57,(0,0)⟩,pd x⟩,⟨true,⟨179,(0,0)⟩,cB (Li s)⟩,⟨true,⟨38,(0,0)⟩,l9 ⟨1,0,s.c.samples⟩⟩]) [cx k s' F'])):=by kernel_rfl
end
theorem vY (C:Sd.Crypt) (s:Sd.Scene) (l:Int):s.leave C l=if(s.c.t.drop l).2=false then qd s l else((fA (qd s l) (s.c.t.drop l).1).gone (s.c.t.drop l).1.holder l 16).record C 12 l 0 16 0:=rfl
theorem qV (C:Sd.Crypt) (s:Sd.Scene) (l:Int):(s.leave C l).c.p=s.c.p:=by
 rw[vY];split
 ·rfl
 ·show(Sd.Scene.gone _ _ _ _).c.p=_;rw[gone_c];rfl
theorem Rm.leave {C:Sd.Crypt} {s:Sd.Scene} {l:Int} {m:Nat} (h:Rm s (m+2)):Rm (s.leave C l) m:=by
 rw[vY];have h1:Rm (qd s l) (m+2):=h;split
 ·exact h1.le (by omega)
 ·have h2:Rm (fA (qd s l) (s.c.t.drop l).1) (m+2):=h;exact(h2.gone).rec
theorem Wg (p:Sd.Pol) (t:Sd.Tok) (a r mo:Int) (m:Sd.db):N8 (Sd.iR p t a r mo m):=by have:=Sd.o_ p t a r mo m;exact⟨by omega,by omega⟩
def Qf (C:Sd.Crypt):SM fr:=λar k s F K=>match ar with
 |[.int .i64 l,.agg ml]=>(match KB ml with
  |some m=>(Sy s l m/\(m.kind=10\/m.kind=11))/\∀F',K (.aC []) (s.command C l m) F'
  |none=>False)
 |_=>False
def vZ (C:Sd.Crypt) (s:Sd.Scene):Sd.Scene:=if(Sd.an s.c.t s.c.q 0).2.1≠0 then s.record C 7 0 s.c.samples (Sd.an s.c.t s.c.q 0).2.1 0 else(bI s (Sd.an s.c.t s.c.q 0).2.2).goes C (Sd.an s.c.t s.c.q 0).1 2 s.c.samples
def v3 (C:Sd.Crypt) (s:Sd.Scene):Sd.Scene:=if(s.c.t.bA 0).2≠0 then s.record C 7 0 s.c.samples (s.c.t.bA 0).2 0 else s.goes C (s.c.t.bA 0).1 4 s.c.samples
def Ga (C:Sd.Crypt) (s:Sd.Scene) (x:Sd.X4):Sd.Scene:=if Sd.iR s.c.p s.c.t 0 0 s.c.mode (Li s)≠0 then s.record C 7 0 s.c.samples (Sd.iR s.c.p s.c.t 0 0 s.c.mode (Li s)) 0 else(vX s 1 x ⟨1,0,s.c.samples⟩).record C 6 0 s.c.samples 0 0
structure St0 (s:Sd.Scene):Prop where
 r:Rm s 8
 p:Sd.cJ s.c.p
 t:TB s.c.t
def Tx (act:Sd.Scene->Sd.Scene):SM fr:=λar k s F K=>match ar with
 |[]=>St0 s/\∀F',K (.aC []) (act s) F'
 |_=>False
def mSx (act:Sd.Scene->Sd.dq->Sd.Scene):SM fr:=λar k s F K=>match ar with
 |[.agg xl]=>(match KC xl with
  |some x=>St0 s/\∀F',K (.aC []) (act s x) F'
  |none=>False)
 |_=>False
section
variable(tk:Nat->Sd.Byt->Option Sd.db) (ht:Body (fr:=fr) 130 bM)
include tk ht
theorem Qg:Body (fr:=fr) 137 (iP λs l m=>s.Yz (aj tk) l m):=by
 refine jI (tk:=tk) (n:=60) (yn tk ht) ?_;intro l m k s F Kb hq hS hK;have h1:Rm (dN s (s.c.tab.end_ l)) 8:=hS.r;rw[acG];refine⟨trivial,eO hq,qO (M:=λs F=>jH (aj tk) [.int .i64 l] k s F _) (Qe s l) F ⟨⟨h1.le (by decide),by have:=hS.l1;omega,by have:=hS.l3;omega⟩,λF2=>⟨eO ?_,fe (h1.leave).r1 λF3=>⟨eO ?_,hJ ⟨((h1.leave).rec).le (by decide),hS.n⟩ λF4=>aH rfl hK F4 (hp:=?_)⟩⟩⟩⟩
 ·rw[qV];exact hq
 ·show(Sd.Scene.leave _ _ _).c.p.queue=_;rw[qV];exact hq
 ·show(Sd.Scene.leave _ _ _).c.p=_;rw[qV]
theorem AM:Body (fr:=fr) 143 (Qf (aj tk)):=by
 refine dy (n:=60) (yn tk ht) ?_;intro ar k s F Kb h0 hq hM;unfold Qf at hM;split at hM
 ·rename_i l ml;split at hM
  ·rename_i m hm;obtain rfl:=ud hm;have hS:=hM.1.1;have hk:=hM.1.2;have hK:=hM.2;have hj:gJ s l m=Sd.iR s.c.p s.c.t l (s.c.tab.role l) s.c.mode m:=by rw[gJ,acq]
   have hb:=Wg s.c.p s.c.t l (s.c.tab.role l) s.c.mode m;have h1:Rm (acH s l m) 8:=hS.r;have h2:Rm (vX s m.cls m.x ⟨1,l,m.seq⟩) 8:=hS.r;rw[F_,hj];refine⟨trivial,⟨hk,rfl⟩,aO (λe=>⟨eO hq,gh ⟨hS.r.le (by decide),hS.n,hb⟩ λF1=>aH (if_pos (kR e)).symm hK F1⟩) (λe=>aO (λe2=>?_) (λe2=>?_))⟩
   ·refine⟨eO hq,fe h1.r1 λF2=>⟨eO hq,hJ ⟨h1.rec.le (by decide),hS.n⟩ λF3=>aH ?_ hK F3⟩⟩;have e3:m.kind=10:=by simpa using e2
    refine Eq.trans ?_ (if_neg (mU e)).symm;rw[if_pos e3];rfl
   ·refine⟨hS.i.p,eO hq,fe h2.r1 λF2=>⟨eO hq,hJ ⟨h2.rec.le (by decide),hS.n⟩ λF3=>aH ?_ hK F3⟩⟩;have e3:¬m.kind=10:=by simpa using e2
    refine Eq.trans ?_ (if_neg (mU e)).symm;rw[if_neg e3];rfl
  ·exact hM.elim
 ·exact hM.elim
theorem Lj:Body (fr:=fr) 97 (Tx (vZ (aj tk))):=by
 refine dy (n:=60) (yn tk ht) ?_;intro ar k s F Kb h0 hq hM;unfold Tx at hM;split at hM
 ·have hS:=hM.1;have hK:=hM.2;have hb:=Zc hS.t s.c.q 0;have h1:Rm (bI s (Sd.an s.c.t s.c.q 0).2.2) 8:=hS.r;rw[Wf];refine⟨⟨rfl,hS.t.b⟩,λB hB=>aO (λe=>⟨eO hq,fe h1.r1 λF1=>aH ?_ hK F1⟩) (λe=>⟨eO hq,lI ⟨h1.le (by decide),hb.1.h,hb.1.e⟩ λF2=>aH (if_neg (mU e)).symm hK F2 (hp:=eQ _ _ _ _ _)⟩)⟩;rw[nF (Zd (kR e))];exact(if_pos (kR e)).symm
 ·exact hM.elim
theorem xD:Body (fr:=fr) 99 (Tx (v3 (aj tk))):=by
 refine dy (n:=60) (yn tk ht) ?_;intro ar k s F Kb h0 hq hM;unfold Tx at hM;split at hM
 ·have hS:=hM.1;have hK:=hM.2;have hb:=lJ hS.t 0;rw[C8];exact⟨hS.t.b,aO (λe=>⟨eO hq,fe hS.r.r1 λF1=>aH (if_pos (kR e)).symm hK F1⟩) (λe=>⟨eO hq,lI ⟨hS.r.le (by decide),hb.1.h,hb.1.e⟩ λF2=>aH (if_neg (mU e)).symm hK F2 (hp:=eQ _ _ _ _ _)⟩)⟩
 ·exact hM.elim
theorem Qh:Body (fr:=fr) 98 (mSx λs x=>Ga (aj tk) s x.x):=by
 refine dy (n:=60) (yn tk ht) ?_;intro ar k s F Kb h0 hq hM;unfold mSx at hM;split at hM
 ·rename_i xl;split at hM
  ·rename_i x hx;obtain rfl:=ue hx;have hS:=hM.1;have hK:=hM.2;have h2:Rm (vX s 1 x.x ⟨1,0,s.c.samples⟩) 8:=hS.r;rw[acI];exact⟨⟨.inr rfl,rfl⟩,aO (λe=>⟨eO hq,fe hS.r.r1 λF1=>aH (if_pos (kR e)).symm hK F1⟩) (λe=>⟨hS.p,eO hq,fe h2.r1 λF2=>aH (if_neg (mU e)).symm hK F2⟩)⟩
  ·exact hM.elim
 ·exact hM.elim
end
def L6 (fr:Sd.Reply->Nat×Sd.Byt) (C:Sd.Crypt):List (dF (Gh fr)):=⟨97,false,pj (Tx (vZ C))⟩::⟨99,false,pj (Tx (v3 C))⟩::⟨98,false,pj (mSx λs x=>Ga C s x.x)⟩::L5 fr C
theorem Zf (tk:Nat->Sd.Byt->Option Sd.db) (ht:Body (fr:=fr) 130 bM):ah prog gS (L6 fr (aj tk)):=
 ah.cons (cX (Lj tk ht)) (ah.cons (cX (xD tk ht)) (ah.cons (cX (Qh tk ht)) (yn tk ht)))
def Is (s:Sd.Scene) (n:Int):Sd.Scene:={s with c:={s.c with beyond:=n}}
def C9 (s:Sd.Scene) (x:Sd.dq):Sd.Scene:={s with c:={s.c with samples:=Sd.sat s.c.samples 4294967295,beyond:=(Sd.oh s.c.p s.c.beyond x).1}}
def Wh (s:Sd.Scene):Sd.Tab:={dh s.c.tab with aA:=(true,.start s.c.p.bR)}
def AN (s:Sd.Scene) (x:Sd.dq):Sd.Scene:=dN (C9 s x) (s.c.tab.cV s.c.p)
section
variable(C:Sd.Crypt) (k:LK) (s:Sd.Scene) (F:cw fr (bV k s)) (Kb:SK fr k)
def Wi (x:Sd.dq):Prop:=cond (s.c.t.holder==0)
 (eg k (C9 s x) F/\mSx (λs x=>Ga C s x.x) [.agg (pd x)] k (qT (C9 s x) (Wh s)) F λv s' F'=>aM k s Kb (.aC []) (cO k s' F'++[⟨true,⟨57,(0,0)⟩,pd x⟩]) [cx k s' F'])
 (cond (Sd.oh s.c.p s.c.beyond x).2 (eg k (C9 s x) F/\Tx (v3 C) [] k (qT (C9 s x) (Wh s)) F λv s' F'=>aM k s Kb (.aC []) (cO k s' F'++[⟨true,⟨57,(0,0)⟩,pd x⟩]) [cx k s' F'])
  (aM k s Kb (.aC []) (cO k (AN s x) F++[⟨true,⟨57,(0,0)⟩,pd x⟩]) [cx k (AN s x) F]))
theorem Lk (x:Sd.dq):cI (dw prog gS (L6 fr C)) 60 61 [.ptr 2 0,.agg (pd x)] (cO k s F) [cx k s F] (aM k s Kb)
 =cond (!x.valid) (aM k s Kb (.aC []) (cO k (Is s 0) F++[⟨true,⟨57,(0,0)⟩,pd x⟩]) [cx k (Is s 0) F])
  ((dp s.c.samples/\dp 4294967295)/\(0<=s.c.p.bR/\s.c.p.bR<=1000)/\(Sd.cJ s.c.p/\dp s.c.beyond)/\
    cond (s.c.t.holder==0) (cond x.ED (eg k (C9 s x) F/\Tx (vZ C) [] k (qT (C9 s x) (Wh s)) F λv s' F'=>aM k s Kb (.aC []) (cO k s' F'++[⟨true,⟨57,(0,0)⟩,pd x⟩]) [cx k s' F']) (Wi C k s F Kb x)) (Wi C k s F Kb x)):=by kernel_rfl
end
theorem v5 (s:Sd.Scene) (x:Sd.dq):qT (C9 s x) (Wh s)=AN s x:=by
 refine qU rfl ?_ (λj=>rfl);intro j hj;have:j=0\/j=1\/j=2:=by omega
 rcases this with rfl|rfl|rfl<;>rfl
def Qi (C:Sd.Crypt):SM fr:=λar k s F K=>match ar with
 |[.agg xl]=>(match KC xl with
  |some x=>(St0 s/\dp s.c.samples/\dp s.c.beyond)/\∀F',K (.aC []) (s.cV C x) F'
  |none=>False)
 |_=>False
section
variable{k:LK} {s:Sd.Scene} {K:SK fr k}
end
theorem Qj (C:Sd.Crypt) (s:Sd.Scene) (x:Sd.dq) (h:x.valid=false):s.cV C x=Is s 0:=if_pos h
theorem qW (C:Sd.Crypt) (s:Sd.Scene) (x:Sd.dq) (h:¬x.valid=false):s.cV C x=if s.c.t.holder=0/\x.ED=true then vZ C (AN s x)else if s.c.t.holder=0 then Ga C (AN s x) x.x else if(Sd.oh s.c.p s.c.beyond x).2=true then v3 C (AN s x)else AN s x:=if_neg h
section
variable(tk:Nat->Sd.Byt->Option Sd.db) (ht:Body (fr:=fr) 130 bM)
theorem Qk (C:Sd.Crypt) (s:Sd.Scene):(vZ C s).c.p=s.c.p:=by
 unfold vZ;split
 ·rfl
 ·rw[eQ];rfl
theorem Qm (C:Sd.Crypt) (s:Sd.Scene):(v3 C s).c.p=s.c.p:=by
 unfold v3;split
 ·rfl
 ·rw[eQ]
theorem Wj (C:Sd.Crypt) (s:Sd.Scene) (x:Sd.X4):(Ga C s x).c.p=s.c.p:=by
 unfold Ga;split<;>rfl
include tk ht
theorem C_:Body (fr:=fr) 61 (Qi (aj tk)):=by
 refine dy (n:=60) (Zf tk ht) ?_;intro ar k s F Kb h0 hq hM;unfold Qi at hM;split at hM
 ·rename_i xl;split at hM
  ·rename_i x hx;obtain rfl:=ue hx;have hS:=hM.1.1;have hK:=hM.2;have hT:St0 (AN s x):=⟨hS.r,hS.p,hS.t⟩;have hX:(x.valid≠false)->¬(s.c.t.holder=0/\x.ED=true)->Wi (aj tk) k s F Kb x:=by
    intro hv hg;unfold Wi;refine aO (λe=>⟨eO hq,?_⟩) (λe=>aO (λe2=>⟨eO hq,?_⟩) (λe2=>?_))
    ·have e1:s.c.t.holder=0:=by simpa using e
     refine qO (M:=λs F=>mSx (λs x=>Ga (aj tk) s x.x) [.agg (pd x)] k s F _) (v5 s x) F ⟨hT,λF1=>aH ?_ hK F1 (hp:=Wj _ _ _)⟩;rw[qW _ _ _ hv,if_neg hg,if_pos e1]
    ·have e1:¬s.c.t.holder=0:=by simpa using e
     refine qO (M:=λs F=>Tx (v3 (aj tk)) [] k s F _) (v5 s x) F ⟨hT,λF1=>aH ?_ hK F1 (hp:=Qm _ _)⟩;rw[qW _ _ _ hv,if_neg hg,if_neg e1,if_pos e2]
    ·have e1:¬s.c.t.holder=0:=by simpa using e
     refine aH ?_ hK (show cw fr (bV k (AN s x))from F);rw[qW _ _ _ hv,if_neg hg,if_neg e1,if_neg (by rw[e2];decide)]
   rw[Lk];refine aO (λe=>aH ?_ hK (show cw fr (bV k (Is s 0))from F)) (λe=>⟨⟨hM.1.2.1,by decide,by decide⟩,⟨by have:=hS.p.bR.1;omega,hS.p.bR.2⟩,⟨hS.p,hM.1.2.2⟩,?_⟩)
   ·rw[Qj _ _ _ (by simpa using e)]
   ·have hv:x.valid≠false:=by simpa using e
    refine aO (λe1=>aO (λe2=>⟨eO hq,?_⟩) (λe2=>hX hv (by rw[e2];simp))) (λe1=>hX hv ?_)
    ·refine qO (M:=λs F=>Tx (vZ (aj tk)) [] k s F _) (v5 s x) F ⟨hT,λF1=>aH ?_ hK F1 (hp:=Qk _ _)⟩;rw[qW _ _ _ hv,if_pos ⟨by simpa using e1,e2⟩]
    ·have e3:¬s.c.t.holder=0:=by simpa using e1
     exact λh=>e3 h.1
  ·exact hM.elim
 ·exact hM.elim
end
def Qn:QG:=⟨111,2,λargs most q=>match args with
 |[.agg [.jN p ka kn kc],.agg tl,.bool th]=>(match kr tl with|some t=>some (dp t.epoch/\(dp t.la.n/\dp t.la.most)/\(1<=p.i 43/\p.i 43<=1000),.aC [.agg (cE (Sd.bK p t q th).1),.int .i64 (Sd.bK p t q th).2.1],(Sd.bK p t q th).2.2)|none=>none)
 |_=>none⟩
theorem Qo:Qn.Ok:=by
 intro args k q p v q' hv hm hp B hB bs ms w0 w S
 match args,hv,hm with
 |a::b::c::l,hv,hm=>
  have ha:c=.raw (vq k):=by simpa[Qn]using hv
  subst ha;replace hm:(match(generalizing:=false) a::b::l with
   |[.agg [.jN p ka kn kc],.agg tl,.bool th]=>(match kr tl with|some t=>some (dp t.epoch/\(dp t.la.n/\dp t.la.most)/\(1<=p.i 43/\p.i 43<=1000),V.aC [.agg (cE (Sd.bK p t q th).1),.int .i64 (Sd.bK p t q th).2.1],(Sd.bK p t q th).2.2)|none=>none)
   |_=>none)=some (p,v,q'):=hm
  split at hm
  ·rename_i p' ka kn kc tl th heq;obtain⟨rfl,h2⟩:=List.cons.inj heq;obtain⟨rfl,rfl⟩:=List.cons.inj h2;split at hm
   ·rename_i t ht;obtain rfl:=eL ht;simp only[Option.some.injEq,Prod.mk.injEq]at hm;obtain⟨rfl,rfl,rfl⟩:=hm;exact ajp hB p' ka kn kc th hp.1 hp.2.1 hp.2.2 S
   ·cases hm
  ·cases hm
def It:QF:=⟨30,λargs _=>match args with
 |[]=>some (True,.agg (l9 Sd.dH))
 |_=>none⟩
theorem Da (gl:Nat->Option Nat):It.Ok prog gl:=by
 intro args bl p_ v_ h hp ids w _ _;unfold It at h;dsimp only at h;split at h
 ·simp only[Option.some.injEq,Prod.mk.injEq]at h;obtain⟨rfl,rfl⟩:=h;exact told (af9 w)
 ·cases h
def L7 (fr:Sd.Reply->Nat×Sd.Byt) (C:Sd.Crypt):List (dF (Gh fr)):=⟨111,false,ghC Qn⟩::qE (Gh fr) It::L6 fr C
theorem Zg (tk:Nat->Sd.Byt->Option Sd.db) (ht:Body (fr:=fr) 130 bM):ah prog gS (L7 fr (aj tk)):=
 ah.cons (AA Qo) (ah.cons (Ik Da) (Zf tk ht))
abbrev gF (s:Sd.Scene):Sd.Tok×Int×List Sd.Ask:=Sd.bK s.c.p s.c.t s.c.q ((dh s.c.tab).on s.c.t.holder)
theorem Wk (C:Sd.Crypt) (k:LK) (s:Sd.Scene) (F:cw fr (bV k s)) (Kb:SK fr k):cI (dw prog gS (L7 fr C)) 60 69 [.ptr 2 0] (cO k s F) [cx k s F] (aM k s Kb)
 =(True/\(vq k=vq k/\(dp s.c.t.epoch/\(dp s.c.t.la.n/\dp s.c.t.la.most)/\(1<=s.c.p.i 43/\s.c.p.i 43<=1000)))/\∀B (hB:QS k.bq k.most (gF s).2.2 B),
  cond (decide ((gF s).2.1<=0)) (aM k s Kb (.aC []) (cO k (fA (bI s (gF s).2.2) (gF s).1) (F.bI (gF s).2.2 B hB)++[⟨true,⟨88,(0,0)⟩,cE (gF s).1⟩]) [cx k (fA (bI s (gF s).2.2) (gF s).1) (F.bI (gF s).2.2 B hB)])
  (eg k (bI s (gF s).2.2) (F.bI (gF s).2.2 B hB)/\kQ C [.agg (cE (gF s).1),.int .i64 (gF s).2.1,.int .i64 0] k (dg (bI s (gF s).2.2)) (F.bI (gF s).2.2 B hB) λv s2 F2=>
   cond ((gF s).2.1==5) (eg k s2 F2/\qQ [.int .i64 s2.c.p.lost,.agg (l9 ⟨3,4,0⟩)] k (dg s2) F2 λv s' F'=>aM k s Kb (.aC []) (cO k s' F'++[⟨true,⟨88,(0,0)⟩,cE (gF s).1⟩]) [cx k s' F'])
   (True/\eg k s2 F2/\qQ [.int .i64 s2.c.p.safe,.agg (l9 Sd.dH)] k (dg s2) F2 λv s' F'=>aM k s Kb (.aC []) (cO k s' F'++[⟨true,⟨88,(0,0)⟩,cE (gF s).1⟩]) [cx k s' F']))):=by kernel_rfl
theorem agI {p:Sd.Pol} {t:Sd.Tok} (h:TB t) (q:List Sd.Ask) (b:Bool):TB (Sd.bK p t q b).1:=by
 have h1:∀la,TB ({t with la:=la}:Sd.Tok):=λla=>⟨h.h,h.e⟩;unfold Sd.bK;split
 ·exact h1 _
 ·dsimp only;generalize (if t.la.most=0 then Sd.Timer.start p.cM else t.la).step=la;split
  ·exact h1 _
  ·split
   ·rename_i hs;refine⟨by simp[Sd.Tok.dB,Sd.Tok.pass,N4],?_⟩;have e1:=h.e.1;have e2:=h.e.2;simp only[Sd.Tok.dB,Sd.Tok.pass,Tu,Sd.sat];split
    ·split<;>omega
    ·omega
   ·split
    ·exact(lJ (h1 _) 4).1
    ·exact(Io (h1 _) q).1
theorem agJ {p:Sd.Pol} {t:Sd.Tok} {q:List Sd.Ask} {b:Bool} (h:(Sd.bK p t q b).2.1<=0):(Sd.bK p t q b).2.2=q:=by
 unfold Sd.bK at h⊢;split
 ·rfl
 ·rename_i h0;rw[if_neg h0]at h;dsimp only at h⊢;revert h;generalize (if t.la.most=0 then Sd.Timer.start p.cM else t.la).step=la;intro h;split
  ·rfl
  ·rename_i h1;rw[if_neg h1]at h;split
   ·rfl
   ·rename_i h2;rw[if_neg h2]at h;split
    ·rename_i h3;rw[if_pos h3]at h;simp at h
    ·rename_i h3;rw[if_neg h3]at h;simp at h
structure StL (s:Sd.Scene):Prop where
 r:Rm s 8
 p:Sd.cJ s.c.p
 t:TB s.c.t
 l1:dp s.c.t.la.n
 l2:dp s.c.t.la.most
def v7 (C:Sd.Crypt):SM fr:=λar k s F K=>match ar with
 |[]=>StL s/\∀F',K (.aC []) (s.cM C) F'
 |_=>False
theorem qX (C:Sd.Crypt) (s:Sd.Scene) (R:Sd.Tok×Int×List Sd.Ask) (h:R=Sd.bK s.c.p s.c.t s.c.q (s.c.tab.on s.c.t.holder)):s.cM C=if R.2.1<=0 then fA s R.1 else if R.2.1=5 then((bI s R.2.2).goes C R.1 R.2.1 0).dt ((bI s R.2.2).goes C R.1 R.2.1 0).c.p.lost ⟨3,4,0⟩else((bI s R.2.2).goes C R.1 R.2.1 0).dt ((bI s R.2.2).goes C R.1 R.2.1 0).c.p.safe Sd.dH:=by subst h;rfl
theorem uu (C:Sd.Crypt) (s:Sd.Scene) (t:Sd.Tok) (h n m:Int) (b:Sd.Label):((s.goes C t h n).dt m b).c.p=s.c.p:=eQ C s t h n
theorem Ll (tk:Nat->Sd.Byt->Option Sd.db) (ht:Body (fr:=fr) 130 bM):Body (fr:=fr) 69 (v7 (aj tk)):=by
 refine dy (n:=60) (Zg tk ht) ?_;intro ar k s F Kb h0 hq hM;unfold v7 at hM;split at hM
 ·have hS:=hM.1;have hK:=hM.2;have hr:gF s=Sd.bK s.c.p s.c.t s.c.q (s.c.tab.on s.c.t.holder):=by rw[gF,acp]
  have hb:=agI (p:=s.c.p) hS.t s.c.q ((dh s.c.tab).on s.c.t.holder);have h1:Rm (bI s (gF s).2.2) 8:=hS.r;rw[Wk];refine⟨trivial,⟨rfl,hS.t.b,⟨hS.l1,hS.l2⟩,hS.p.cM⟩,λB hB=>aO (λe=>?_) (λe=>⟨eO hq,lI ⟨h1.le (by decide),hb.h,hb.e⟩ λF2=>aO (λe2=>⟨eO ?_,AD λF3=>aH ?_ hK F3 (hp:=uu _ _ _ _ _ _ _)⟩) (λe2=>⟨trivial,eO ?_,AD λF3=>aH ?_ hK F3 (hp:=uu _ _ _ _ _ _ _)⟩)⟩)⟩
  ·have e1:(gF s).2.1<=0:=by simpa using e
   refine aH (s':=fA (bI s (gF s).2.2) (gF s).1) ?_ hK (F.bI (gF s).2.2 B hB);rw[qX _ _ _ hr,if_pos e1,nF (agJ e1)]
  ·rw[eQ];exact hq
  ·have e1:¬(gF s).2.1<=0:=by simpa using e
   have e3:(gF s).2.1=5:=by simpa using e2
   rw[qX _ _ _ hr,if_neg e1,if_pos e3]
  ·rw[eQ];exact hq
  ·have e1:¬(gF s).2.1<=0:=by simpa using e
   have e3:¬(gF s).2.1=5:=by simpa using e2
   rw[qX _ _ _ hr,if_neg e1,if_neg e3]
 ·exact hM.elim
def Db:List Sd.Ask->List V
 |[]=>[]
 |a::l=>.int .i64 a.source::.int .i64 a.aU::.int .i64 a.gu.n::.int .i64 a.gu.most::Db l
def kS (l:List Sd.Ask) (t:List Value):VB:=⟨true,⟨101,(0,0)⟩,Db l++[.rest t]⟩
theorem sP (ids:List Nat):∀l:List Sd.Ask,af ids (Db l)=kP l
 |[]=>rfl
 |a::l=>by
  have h:=sP ids l;simp only[Db,af,cl,den,h];rfl
def Qp:gZ (Gh fr):=λargs bl ch K=>match args,ch with
 |[.raw vp],g::rest=>cond (dE bl.length bl) (vp=vq g.d.k/\(g.d.q=[]->∀x c,K (.raw (.slice x 0 c)) bl (g::rest))/\(∀a,g.d.q=[a]->∀c t,K (.sl bl.length 0 1 c) (bl++[kS [a] t]) (g::rest))/\
  (∀a b,g.d.q=[a,b]->∀c t,K (.sl bl.length 0 2 c) (bl++[kS [a,b] t]) (g::rest))/\(∀a b d,g.d.q=[a,b,d]->∀c t,K (.sl bl.length 0 3 c) (bl++[kS [a,b,d] t]) (g::rest))) False
 |_,_=>False
theorem Zh {bq:Nat} {most:Int} {L:List Sd.Ask} {B:List ax} (h:QS bq most L B):L.length<=3:=by
 obtain⟨es,_,_,_,_,_,_,hH,rfl⟩:=h
 match es,hH with
 |[],_=>simp[bC]
 |[e0],_=>simp[bC]
 |[e0,e1],_=>simp only[bC];repeat' split
             all_goals simp
 |[e0,e1,e2],_=>simp only[bC];repeat' split
                all_goals simp
 |_::_::_::_::_,hH=>exact absurd hH (by simp[bP])
theorem Gb (gl:Nat->Option Nat):Sound prog gl 32 (Qp (fr:=fr)):=by
 intro args ids bl ch R ms w0 w K hg hl S hc;unfold Qp at hc;split at hc
 ·rename_i vp g rest;cases hq:dE bl.length bl with
  |false=>rw[hq]at hc;exact hc.elim
  |true=>
   rw[hq]at hc;rw[<-hl]at hq;obtain⟨rfl,k0,k1,k2,k3⟩:=hc;have e0:ag (g::rest) R=g.F.B++ag rest R:=rfl;have S':=S;rw[e0,tQ]at S;have hL:=acf g.F.hq (S.perm (pr _ _ _ _ _ _ _));have ea:(aq ids [.raw (vq g.d.k)]).toArray=#[.pointer (some ⟨g.d.k.bq,0,none⟩)]:=rfl;rw[ea];refine hL.mono ?_;rintro v w1 ⟨x,c1,rows,rfl,hr,S1⟩;have agK:=(S1.sub (List.sublist_append_right rows _)).perm (pr _ _ _ _ _ _ _).symm;have qY:∀(n:Nat),g.d.q.length=n+1->∃(b:Nat) (t:List Value),x=some ⟨b,0,none⟩/\((∀c t,K (.sl bl.length 0 (n+1) c) (bl++[kS g.d.q t]) (g::rest))->
    ∃(x':V) (more:List Nat) (bl':List VB) (ch':List (Gh fr)),Value.slice x g.d.q.length c1=den (ids++more) x'/\(ids++more).length=bl'.length/\St ms w0 (lits (ids++more) (ids++more) bl'++ag ch' R) w1/\K x' bl' ch'):=by
    intro n hn;rcases hr.2.2 with⟨_,h0,_⟩|⟨b,t,hx,agL,_⟩
    ·omega
    ·refine⟨b,t,hx,λh=>?_⟩;refine⟨.sl bl.length 0 (n+1) c1,[b],bl++[kS g.d.q t],g::rest,?_,by simp[hl],?_,h c1 t⟩
     ·rw[hx,hn,<-hl];simp only[den,cv]
     ·have e1:lits (ids++[b]) (ids++[b]) (bl++[kS g.d.q t])=lits ids ids bl++rows:=by
       rw[aQ _ _ _ _ hl,aR _ _ hq];have ed:(af (ids++[b]) (Db g.d.q++[.rest t])).toArray=(kP g.d.q++t).toArray:=by
        rw[bj,sP];simp[af,cl]
       simp only[lits,aL,kS,ed];rw[agL]
      rw[e1,e0,tQ,List.append_assoc];refine S1.perm ?_;refine(List.Perm.append_left rows (pr (lits ids ids bl) _ _ _ _ _ _).symm).trans ?_;exact List.perm_append_comm_assoc _ _ _
   have hlen:=Zh g.F.hq;revert k0 k1 k2 k3 qY hlen
   match g.d.q with
   |[]=>
    intro k0 k1 k2 k3 qY hlen;refine⟨.raw (.slice x 0 c1),[],bl,g::rest,?_,by simpa using hl,?_,k0 rfl x c1⟩
    ·simp[den]
    ·simp only[List.append_nil];rw[e0,tQ];exact agK
   |[a]=>intro k0 k1 k2 k3 qY hlen;obtain⟨b,t,_,h⟩:=qY 0 rfl;exact h (k1 a rfl)
   |[a,b']=>intro k0 k1 k2 k3 qY hlen;obtain⟨b,t,_,h⟩:=qY 1 rfl;exact h (k2 a b' rfl)
   |[a,b',d]=>intro k0 k1 k2 k3 qY hlen;obtain⟨b,t,_,h⟩:=qY 2 rfl;exact h (k3 a b' d rfl)
   |a::b'::d::e::l=>intro k0 k1 k2 k3 qY hlen;simp at hlen
 ·exact hc.elim
def L8 (fr:Sd.Reply->Nat×Sd.Byt) (C:Sd.Crypt):List (dF (Gh fr)):=⟨69,false,pj (v7 C)⟩::⟨32,false,Qp⟩::L7 fr C
theorem v8 (tk:Nat->Sd.Byt->Option Sd.db) (ht:Body (fr:=fr) 130 bM):ah prog gS (L8 fr (aj tk)):=
 ah.cons (cX (Ll tk ht)) (ah.cons ⟨Gb gS,λe=>by cases e⟩ (Zg tk ht))
section
variable(C:Sd.Crypt) (k:LK) (s0:Sd.Scene) (Kb:SK fr k)
def hlL:List Sd.Ask->(s:Sd.Scene)->cw fr (bV k s)->List VB->Prop
 |[],s,F,j=>True/\eg k s F/\qQ [.int .i64 s.c.p.safe,.agg (l9 Sd.dH)] k (dg s) F λv s' F'=>aM k s0 Kb (.aC []) (cO k s' F'++j) [cx k s' F']
 |a::l,s,F,j=>(vq k=vq k/\True)/\∀B (hB:QS k.bq k.most (Sd.Q.drop s.c.q a.source) B),eg k (qd s a.source) (F.bI (Sd.Q.drop s.c.q a.source) B hB)/\mS [.int .i64 a.source,.int .i64 4,.int .i64 29] k (dg (qd s a.source)) (F.bI (Sd.Q.drop s.c.q a.source) B hB) λv s2 F2=>hlL l s2 F2 (j++[⟨true,⟨101,(0,0)⟩,Pa a⟩])
def hlQ (s:Sd.Scene) (F:cw fr (bV k s)) (j:List VB):Prop:=vq k=vq k/\(s.c.q=[]->∀(x:Option Addr) (c:Nat),hlL k s0 Kb [] s F j)/\(∀a,s.c.q=[a]->∀(c:Nat) (t:List Value),hlL k s0 Kb [a] s F (j++[kS [a] t]))/\
 (∀a b,s.c.q=[a,b]->∀(c:Nat) (t:List Value),hlL k s0 Kb [a,b] s F (j++[kS [a,b] t]))/\(∀a b d,s.c.q=[a,b,d]->∀(c:Nat) (t:List Value),hlL k s0 Kb [a,b,d] s F (j++[kS [a,b,d] t]))
def qZ (s:Sd.Scene) (b:Bool):Sd.Scene:=fA s {s.c.t with bad:=b}
theorem Lm (s:Sd.Scene) (F:cw fr (bV k s)) (b:Bool):cI (dw prog gS (L8 fr C)) 80 62 [.ptr 2 0,.bool b] (cO k s F) [cx k s F] (aM k s Kb)
 =cond (!b) (aM k s Kb (.aC []) (cO k (qZ s b) F) [cx k (qZ s b) F])
  (dp s.c.t.epoch/\cond (s.c.t.holder !=4)
   (eg k (qZ s b) F/\kQ C [.agg (cE ({s.c.t with bad:=b}:Sd.Tok).dB),.int .i64 6,.int .i64 0] k (dg (qZ s b)) F λv s2 F2=>hlQ k s Kb s2 F2 [⟨true,⟨88,(0,0)⟩,cE ({s.c.t with bad:=b}:Sd.Tok).dB⟩])
   (hlQ k s Kb (fA s ({s.c.t with bad:=b}:Sd.Tok).dB) F [⟨true,⟨88,(0,0)⟩,cE ({s.c.t with bad:=b}:Sd.Tok).dB⟩])):=by kernel_rfl
end
def lX (s:Sd.Scene) (a:Sd.Ask):Sd.Scene:=(qd s a.source).gone a.source 4 29
theorem Dc (s:Sd.Scene) (a:Sd.Ask):(lX s a).c.p=s.c.p:=by unfold lX;rw[gone_c];rfl
theorem Rm.lX {s:Sd.Scene} {a:Sd.Ask} {n:Nat} (h:Rm s (n+1)):Rm (lX s a) n:=by
 have h1:Rm (qd s a.source) (n+1):=h;exact h1.gone
theorem v9 {k:LK} {s0:Sd.Scene} {Kb:SK fr k}:∀(l:List Sd.Ask) (s:Sd.Scene) (F:cw fr (bV k s)) (j:List VB),s.c.p=s0.c.p->s.c.p.queue=k.most->Rm s l.length->
 (∀F',Kb (.aC []) ((l.foldl lX s).dt (l.foldl lX s).c.p.safe Sd.dH) F')->hlL k s0 Kb l s F j
 |[],s,F,j,hp,hq,hr,hK=>⟨trivial,eO hq,AD λF1=>aH (s':=s.dt s.c.p.safe Sd.dH) rfl hK F1 (hp:=hp) (hb:=by kernel_rfl)⟩
 |a::l,s,F,j,hp,hq,hr,hK=>⟨⟨rfl,trivial⟩,λB hB=>⟨eO hq,qR ⟨(show Rm (qd s a.source) (l.length+1)from hr).le (by omega),⟨by decide,by decide⟩,⟨by decide,by decide⟩⟩ λF2=>v9 l (lX s a) F2 _ (by rw[Dc];exact hp) (by rw[Dc];exact hq) hr.lX hK⟩⟩
theorem Qq {k:LK} {s0:Sd.Scene} {Kb:SK fr k} (s:Sd.Scene) (F:cw fr (bV k s)) (j:List VB) (hp:s.c.p=s0.c.p) (hq:s.c.p.queue=k.most) (hr:Rm s 3)
 (hK:∀F',Kb (.aC []) ((s.c.q.foldl lX s).dt (s.c.q.foldl lX s).c.p.safe Sd.dH) F'):hlQ k s0 Kb s F j:=by
 refine⟨rfl,λe x c=>?_,λa e c t=>?_,λa b e c t=>?_,λa b d e c t=>?_⟩
 ·rw[e]at hK;exact v9 [] s F _ hp hq (hr.le (by simp)) hK
 ·rw[e]at hK;exact v9 [a] s F _ hp hq (hr.le (by simp)) hK
 ·rw[e]at hK;exact v9 [a,b] s F _ hp hq (hr.le (by simp)) hK
 ·rw[e]at hK;exact v9 [a,b,d] s F _ hp hq (hr.le (by simp)) hK
theorem Wl {t:Sd.Tok} (h:TB t):TB t.dB:=by
 have e1:=h.e.1;have e2:=h.e.2;refine⟨show(0:Int)<=4/\(4:Int)<=4 by decide,?_⟩;simp only[Sd.Tok.dB,Sd.Tok.pass,Tu,Sd.sat];split
 ·split<;>omega
 ·omega
def q_ (C:Sd.Crypt):SM fr:=λar k s F K=>match ar with
 |[.bool b]=>(Rm s 8/\TB s.c.t)/\∀F',K (.aC []) (s.fM C b) F'
 |_=>False
def gH (C:Sd.Crypt) (s:Sd.Scene):Sd.Scene:=if s.c.t.holder≠4 then s.goes C s.c.t.dB 6 0 else fA s s.c.t.dB
theorem Qr (C:Sd.Crypt) (s:Sd.Scene) (b:Bool) (h:b=false):s.fM C b=qZ s b:=if_pos h
theorem Qs (C:Sd.Crypt) (s:Sd.Scene) (b:Bool) (h:¬b=false):s.fM C b=(((gH C (qZ s b)).c.q.foldl lX (gH C (qZ s b))).dt ((gH C (qZ s b)).c.q.foldl lX (gH C (qZ s b))).c.p.safe Sd.dH):=if_neg h
theorem Dd (tk:Nat->Sd.Byt->Option Sd.db) (ht:Body (fr:=fr) 130 bM):Body (fr:=fr) 62 (q_ (aj tk)):=by
 refine dy (n:=80) (v8 tk ht) ?_;intro ar k s F Kb h0 hq hM;unfold q_ at hM;split at hM
 ·rename_i b;have hr:=hM.1.1;have hT:=hM.1.2;have hK:=hM.2;have h1:Rm (qZ s b) 8:=hr;have hb:TB ({s.c.t with bad:=b}:Sd.Tok).dB:=Wl ⟨hT.h,hT.e⟩;rw[Lm];refine aO (λe=>aH ?_ hK (show cw fr (bV k (qZ s b))from F)) (λe=>⟨hT.b,?_⟩)
  ·rw[Qr _ _ _ (by simpa using e)]
  ·have Bt:¬b=false:=by simpa using e
   rw[Qs _ _ _ Bt]at hK;refine aO (λe1=>⟨eO hq,lI ⟨h1.le (by decide),hb.h,hb.e⟩ λF2=>?_⟩) (λe1=>?_)
   ·have e2:gH (aj tk) (qZ s b)=(qZ s b).goes (aj tk) ({s.c.t with bad:=b}:Sd.Tok).dB 6 0:=if_pos (show s.c.t.holder≠4 by simpa using e1);rw[e2]at hK;exact Qq _ F2 _ (eQ _ _ _ _ _) (by rw[eQ];exact hq) (h1.goes.le (by decide)) hK
   ·have e2:gH (aj tk) (qZ s b)=fA s ({s.c.t with bad:=b}:Sd.Tok).dB:=if_neg (show¬s.c.t.holder≠4 by simpa using e1);rw[e2]at hK;exact Qq (fA s ({s.c.t with bad:=b}:Sd.Tok).dB) F _ rfl hq (hr.le (by decide)) hK
 ·exact hM.elim
theorem Wm {w:World} {n c b:Nat} {f:Nat->Int} {T:TypeId} (h:w.heap[b]?=some (.cells (cN n f c) T (0,0))):fl w b 0 n f:=by
 intro j hj;rw[cell_of h];simp only[cN,Nat.zero_add];rw[List.getElem?_toArray,List.getElem?_append_left (by rw[bW];exact hj)];simp[fi,hj]
theorem uv {w:World} {n c:Nat} {f:Nat->Int} {x:Option Addr} {b:List ax} (h:dG 5 n f x c b) (bD:∀y∈b,w.heap[y.id]?=some y.obj) (h0:0<n) (hn:n<=1000000):cn w x n c f:=by
 obtain⟨b',h1,rfl,rfl⟩:=pW h h0;exact cn.of8 (Wm (bD _ (List.mem_singleton.2 rfl))) hn h1
theorem Iu {ms:List Nat} {w0 w:World} {A R:List ax} {d:FD} (F:cw fr d) (S:St ms w0 (A++(F.B++R)) w) (i:Nat) (hi:i<4) (h0:0<d.k.kn i) (hn:d.k.kn i<=1000000):cn w (d.k.ka i) (d.k.kn i) (d.k.kc i) (d.k.kf i):=by
 obtain⟨b0,b1,b2,b3,b4,hB,k0,k1,k2,k3,k4⟩:=F.hk;have bD:∀y∈F.Bk,w.heap[y.id]?=some y.obj:=λy hy=>S.at' (by rw[tQ];simp[hy]);rw[hB]at bD;have:i=0\/i=1\/i=2\/i=3:=by omega
 rcases this with rfl|rfl|rfl|rfl
 ·exact uv k0 (λy hy=>bD y (by simp[hy])) h0 hn
 ·exact uv k1 (λy hy=>bD y (by simp[hy])) h0 hn
 ·exact uv k2 (λy hy=>bD y (by simp[hy])) h0 hn
 ·exact uv k3 (λy hy=>bD y (by simp[hy])) h0 hn
theorem Iv {ids:List Nat} {bl:List VB} {k:LK} {A:List ax} {ms:List Nat} {w0 w:World} (hg:Gl gS ids) (hl:ids.length=bl.length) (S:St ms w0 (lits ids ids bl++A) w) (h:bl[0]?=some (aF k)):w.heap[0]?=some (.cells (ai .u32 64 aT) k.tg (0,0)):=by
 have h1:=(cQ hl S h).2;rw[(hg 0 0 rfl).2]at h1;have e:(af ids (aF k).c).toArray=ai .u32 64 aT:=by kernel_rfl
 rw[e]at h1;exact h1
def wa:gZ (Gh fr):=λargs bl ch K=>match args,ch with
 |[.agg [.int .i64 m,.bool o,.dS .u8 8 nc],.raw vk,.int .i64 s],g::rest=>
  (vk=.slice (g.d.k.ka 3) (g.d.k.kn 3) (g.d.k.kc 3)/\bl[0]?=some (aF g.d.k)/\(0<=s/\s<4294967296)/\(0<=m/\m<=9223372036854775807)/\(1<=g.d.k.kn 3/\g.d.k.kn 3<=64))/\
  cond (decide (4294967295<=m)) (K (.aC [.agg [.int .i64 m,.bool o,.dS .u8 8 nc],.int .i64 24]) bl (g::rest)) (K (.aC [.agg [.int .i64 (m+1),.bool true,.dS .u8 8 (aV (g.d.k.kn 3) (g.d.k.kf 3) s (m+1))],.int .i64 0]) bl (g::rest))
 |_,_=>False
theorem De:Sound prog gS 129 (wa (fr:=fr)):=by
 intro args ids bl ch R ms w0 w K hg hl S hc;unfold wa at hc;split at hc
 ·rename_i m o nc vk s g rest;obtain⟨⟨rfl,hr,hs,hm,hk⟩,hK⟩:=hc;have e0:ag (g::rest) R=g.F.B++ag rest R:=rfl;have S':=S;rw[e0]at S';have Df:=Iu g.F S' 3 (by decide) (by omega) (by omega);have lY:=Iv hg hl S hr;by_cases h:4294967295<=m
  ·rw[show decide (4294967295<=m)=true by simp[h]]at hK;have hc:=CD (g.d.k.ka 3) (g.d.k.kn 3) (g.d.k.kc 3) (g.d.k.kf 3) s ⟨m,o,nc⟩ h hm.2 w;have e:(aq ids [.agg [.int .i64 m,.bool o,.dS .u8 8 nc],.raw (.slice (g.d.k.ka 3) (g.d.k.kn 3) (g.d.k.kc 3)),.int .i64 s]).toArray=#[.agg #[.int .i64 m,.bool o,.int .u8 (nc 0),.int .u8 (nc 1),.int .u8 (nc 2),.int .u8 (nc 3),.int .u8 (nc 4),.int .u8 (nc 5),.int .u8 (nc 6),.int .u8 (nc 7)],.slice (g.d.k.ka 3) (g.d.k.kn 3) (g.d.k.kc 3),.int .i64 s]:=by kernel_rfl
   rw[e];refine hc.mono ?_;rintro v w1 ⟨rfl,fP⟩;exact⟨_,[],bl,g::rest,by kernel_rfl,by simpa using hl,by simpa using S.quiet fP,hK⟩
  ·rw[show decide (4294967295<=m)=false by simp[h]]at hK;have hc:=OY (g.d.k.ka 3) (g.d.k.kn 3) (g.d.k.kc 3) (g.d.k.kf 3) s ⟨m,o,nc⟩ hk hs ⟨hm.1,Int.not_le.1 h⟩ w lY Df;have e:(aq ids [.agg [.int .i64 m,.bool o,.dS .u8 8 nc],.raw (.slice (g.d.k.ka 3) (g.d.k.kn 3) (g.d.k.kc 3)),.int .i64 s]).toArray=#[.agg #[.int .i64 m,.bool o,.int .u8 (nc 0),.int .u8 (nc 1),.int .u8 (nc 2),.int .u8 (nc 3),.int .u8 (nc 4),.int .u8 (nc 5),.int .u8 (nc 6),.int .u8 (nc 7)],.slice (g.d.k.ka 3) (g.d.k.kn 3) (g.d.k.kc 3),.int .i64 s]:=by kernel_rfl
   rw[e];refine hc.mono ?_;rintro v w1 ⟨rfl,fP⟩;exact⟨.aC [.agg [.int .i64 (m+1),.bool true,.dS .u8 8 (aV (g.d.k.kn 3) (g.d.k.kf 3) s (m+1))],.int .i64 0],[],bl,g::rest,by kernel_rfl,by simpa using hl,by simpa using S.quiet fP,hK⟩
 ·exact hc.elim
def dX (k:LK):Value:=.slice k.px k.pn k.pc
def wb (C:Sd.Crypt):gZ (Gh fr):=λargs bl ch K=>match args,ch with
 |[.raw vp],g::rest=>(vp=dX g.d.k/\g.d.k.pn<=1000/\By g.d.k.pf)/\(∀m,C.take g.d.k.pn g.d.k.pf=some m->K (.aC [.agg (cB m),.int .i64 0]) bl (g::rest))/\
  (C.take g.d.k.pn g.d.k.pf=none->∀m c,c≠0->K (.aC [.agg (cB m),.int .i64 c]) bl (g::rest))
 |_,_=>False
def LH (fr:Sd.Reply->Nat×Sd.Byt) (C:Sd.Crypt):List (dF (Gh fr)):=⟨126,true,wb C⟩::⟨129,true,wa⟩::L8 fr C
def Dg (s:Sd.Scene) (a b c:Sd.dR):Sd.Scene:={s with c:={s.c with doors:=r3 a b c s.c.doors,tab:=⟨s.c.tab.aA,r3 (s.c.tab.az 0) (s.c.tab.az 1) (s.c.tab.az 2) s.c.tab.az⟩}}
def Qt (d:Sd.dR):List V:=[.int .i64 d.many,.bool d.kz,.dS .u8 8 d.ab]
section
variable(C:Sd.Crypt) (k:LK) (s:Sd.Scene) (F:cw fr (bV k s)) (Kb:SK fr k) (l:Int) (d:Sd.dR) (D:Sd.dR->Sd.Scene)
def AO (k:LK) (l:Int) (d:Sd.dR):Sd.dR:=⟨d.many+1,true,aV (k.kn 3) (k.kf 3) l (d.many+1)⟩
def Wo (hD:∀e,bV k (D e)=bV k s) (m:Sd.db) (c:Int):Prop:=cond (c !=0) (eg k s F/\sL C [.int .i64 l,.int .i64 13] k (dg s) F λv s' F'=>aM k s Kb (.aC []) (cO k s' F'++[⟨true,⟨179,(0,0)⟩,cB m⟩]) [cx k s' F'])
 (True/\cond (!(Sd.jW s.c.p l m.role)) (eg k s F/\dQ C [.int .i64 l,.int .i64 0,.int .i64 18] k (dg s) F λv s' F'=>aM k s Kb (.aC []) (cO k s' F'++[⟨true,⟨179,(0,0)⟩,cB m⟩]) [cx k s' F'])
  ((Value.slice (k.ka 3) (k.kn 3) (k.kc 3)=.slice (k.ka 3) (k.kn 3) (k.kc 3)/\some (aF k)=some (aF k)/\(0<=l/\l<4294967296)/\(0<=d.many/\d.many<=9223372036854775807)/\(1<=k.kn 3/\k.kn 3<=64))/\
    cond (decide (4294967295<=d.many)) (eg k s F/\dQ C [.int .i64 l,.int .i64 0,.int .i64 24] k (dg s) F λv s' F'=>aM k s Kb (.aC []) (cO k s' F'++[⟨true,⟨179,(0,0)⟩,cB m⟩,⟨true,⟨94,(0,0)⟩,Qt d⟩]) [cx k s' F'])
    (eg k (D (AO k l d)) (hD (AO k l d)▸F)/\bM [.int .i64 l,.agg [.int .i64 129,.int .i64 0,.int .i64 0,.int .i64 0,.int .i64 0,.int .i64 0,.dS .u8 8 (AO k l d).ab]] k (D (AO k l d)) (hD (AO k l d)▸F) λv s2 F2=>
     eg k s2 F2/\gD C [.int .i64 2,.int .i64 l,.int .i64 0,.int .i64 0,.int .i64 0] k (dg s2) F2 λv s' F'=>aM k s Kb (.aC []) (cO k s' F'++[⟨true,⟨179,(0,0)⟩,cB m⟩,⟨true,⟨94,(0,0)⟩,Qt (AO k l d)⟩]) [cx k s' F'])))
end
def AP (fr:Sd.Reply->Nat×Sd.Byt) (C:Sd.Crypt) (l:Int) (i:Nat) (D:Sd.Scene->Sd.dR->Sd.Scene) (hD:∀k s e,bV k (D s e)=bV k s):Prop:=∀(k:LK) (s:Sd.Scene) (F:cw fr (bV k s)) (Kb:SK fr k),cI (dw prog gS (LH fr C)) 90 85 [.ptr 2 0,.int .i64 l,.raw (dX k)] (cO k s F) [cx k s F] (aM k s Kb)
 =((dX k=dX k/\k.pn<=1000/\By k.pf)/\(∀m,C.take k.pn k.pf=some m->Wo C k s F Kb l (s.c.doors i) (D s) (hD k s) m 0)/\(C.take k.pn k.pf=none->∀m c,c≠0->Wo C k s F Kb l (s.c.doors i) (D s) (hD k s) m c))
theorem Wp (fr:Sd.Reply->Nat×Sd.Byt) (C:Sd.Crypt):AP fr C 1 0 (λs e=>Dg s e (s.c.doors 1) (s.c.doors 2)) (λ_ _ _=>rfl):=λk s F Kb=>by kernel_rfl
theorem Wq (fr:Sd.Reply->Nat×Sd.Byt) (C:Sd.Crypt):AP fr C 2 1 (λs e=>Dg s (s.c.doors 0) e (s.c.doors 2)) (λ_ _ _=>rfl):=λk s F Kb=>by kernel_rfl
theorem Ws (fr:Sd.Reply->Nat×Sd.Byt) (C:Sd.Crypt):AP fr C 3 2 (λs e=>Dg s (s.c.doors 0) (s.c.doors 1) e) (λ_ _ _=>rfl):=λk s F Kb=>by kernel_rfl
def sQ (s:Sd.Scene) (i:Nat) (e:Sd.dR):Sd.Scene:={s with c:={s.c with doors:=λj=>if j=i then e else s.c.doors j}}
theorem je {s:Sd.Scene} {a b c:Sd.dR} {i:Nat} {e:Sd.dR} (hi:i<3) (ha:a=if 0=i then e else s.c.doors 0) (hb:b=if 1=i then e else s.c.doors 1) (hc:c=if 2=i then e else s.c.doors 2):Dg s a b c=sQ s i e:=by
 unfold Dg sQ;rw[ui];have h:r3 a b c s.c.doors=λj=>if j=i then e else s.c.doors j:=by
  funext j
  match j with
  |0=>exact ha
  |1=>exact hb
  |2=>exact hc
  |j+3=>exact(if_neg (by omega)).symm
 rw[h]
end Go.Proofs.YtlkpikfddnjilaaGreatDoor
namespace Go.Proofs.YtlkpikfddnjilaaGreatDoor
open Go Go.RowKit Go.BigFrame Sx
def acJ (n m:Int):Int:=(Int.tmod n m+m)%m
theorem agM (n:Int):bits .and .i64 n 14=n%16-n%2:=by
 have h15:=eT .i64 n 15 16 4 (by decide) (by decide) (by decide);have h1:=eT .i64 n 1 2 1 (by decide) (by decide) (by decide);unfold bits at*;simp only[BitVec.toNat_and]at*;have hk:∀m:Nat,m&&&14=(m&&&15)-(m&&&1):=by
  intro m;have e1:m&&&15=m%16:=Nat.and_two_pow_sub_one_eq_mod m 4;have e2:m&&&1=m%2:=Nat.and_two_pow_sub_one_eq_mod m 1;have e3:m&&&14=(m%16)&&&14:=by
   rw[<-e1,Nat.and_assoc];rfl
  have e4:m%2=(m%16)%2:=by omega
  rw[e1,e2,e3,e4];have h:m%16<16:=Nat.mod_lt _ (by omega);generalize m%16=k at h
  match k,h with
  |0,_=>rfl|1,_=>rfl|2,_=>rfl|3,_=>rfl|4,_=>rfl|5,_=>rfl|6,_=>rfl|7,_=>rfl
  |8,_=>rfl|9,_=>rfl|10,_=>rfl|11,_=>rfl|12,_=>rfl|13,_=>rfl|14,_=>rfl|15,_=>rfl
  |k+16,h=>exact absurd h (by omega)
 have c14:(BitVec.ofInt i64.bits 14).toNat=14:=by decide
 have c15:(BitVec.ofInt i64.bits 15).toNat=15:=by decide
 have c1:(BitVec.ofInt i64.bits 1).toNat=1:=by decide
 rw[c14];rw[c15]at h15;rw[c1]at h1;rw[hk];generalize (BitVec.ofInt i64.bits n).toNat=m at*;have ala:m&&&15<16:=Nat.lt_of_le_of_lt Nat.and_le_right (by omega);have w_:m&&&1<2:=Nat.lt_of_le_of_lt Nat.and_le_right (by omega);have w15:i64.wrap ((m&&&15:Nat):Int)=((m&&&15:Nat):Int):=by rw[IntKind.wrap_i64];omega
 have w1:i64.wrap ((m&&&1:Nat):Int)=((m&&&1:Nat):Int):=by rw[IntKind.wrap_i64];omega
 rw[w15]at h15;rw[w1]at h1;rw[IntKind.wrap_i64];omega
def Sw1 (k a b c:Int):Prop:=(k=0/\a=1/\b=2/\c=3)\/(k=1/\a=2/\b=1/\c=3)\/(k=2/\a=3/\b=2/\c=1)
def Qu (q:Nat->Int) (o1 o2 o3:Int):Prop:=∃b c,Sw1 (acJ (q 1) 3) o1 b c/\((acJ (q 2) 2=0/\o2=b/\o3=c)\/(acJ (q 2) 2=1/\o2=c/\o3=b))
theorem Qu.perm {q:Nat->Int} {o1 o2 o3:Int} (h:Qu q o1 o2 o3):(o1=1/\o2=2/\o3=3)\/(o1=1/\o2=3/\o3=2)\/(o1=2/\o2=1/\o3=3)\/(o1=2/\o2=3/\o3=1)\/(o1=3/\o2=1/\o3=2)\/(o1=3/\o2=2/\o3=1):=by
 obtain⟨b,c,h1,h2⟩:=h;rcases h1 with⟨_,rfl,rfl,rfl⟩|⟨_,rfl,rfl,rfl⟩|⟨_,rfl,rfl,rfl⟩<;>rcases h2 with⟨_,rfl,rfl⟩|⟨_,rfl,rfl⟩<;>simp
theorem Qu.one {q:Nat->Int} {a b c a' b' c':Int} (h:Qu q a b c) (k:Qu q a' b' c'):a=a'/\b=b'/\c=c':=by
 obtain⟨_,_,h1,h2⟩:=h;obtain⟨_,_,k1,k2⟩:=k;rcases h1 with⟨e,rfl,rfl,rfl⟩|⟨e,rfl,rfl,rfl⟩|⟨e,rfl,rfl,rfl⟩<;>rcases k1 with⟨f,rfl,rfl,rfl⟩|⟨f,rfl,rfl,rfl⟩|⟨f,rfl,rfl,rfl⟩<;>first|(exfalso;rw[e]at f;revert f;decide)|(rcases h2 with⟨e2,rfl,rfl⟩|⟨e2,rfl,rfl⟩<;>rcases k2 with⟨f2,rfl,rfl⟩|⟨f2,rfl,rfl⟩<;>first|(exfalso;rw[e2]at f2;revert f2;decide)|exact⟨rfl,rfl,rfl⟩)
def Qv (ms:List Nat) (w0:World) (a:Option Addr) (n c:Nat) (kb:Nat->Int):Prop:=n<=c/\(a=none->n=0/\c=0)/\∀ad,a=some ad->ad.block∉ms/\∀j,j<n->w0.cell? (ad.add j)=some (.int .u8 (kb j))
theorem agN (x:Int):0<=u8.wrap x/\u8.wrap x<=255:=by rw[IntKind.wrap_u8];omega
theorem Iw (H:Nat->Int):By (Ci H):=λj=>by unfold Ci;split<;>exact agN _
theorem Wt (n:Nat) (f:Nat->Int):By (jR n f):=by
 unfold jR;cases Nat.ble n 55
 ·exact Iw _
 ·exact Iw _
theorem Ln (kn:Nat) (kf:Nat->Int) (s n:Int):By (aV kn kf s n):=by unfold aV gm;exact Wt _ _
end Go.Proofs.YtlkpikfddnjilaaGreatDoor
namespace Go.Proofs.YtlkpikfddnjilaaGreatDoor
open Go Go.RowKit Go.BigFrame Sx Vx
variable{fr:Sd.Reply->Nat×Sd.Byt}
theorem Gc (C:Sd.Crypt):dU (wb (fr:=fr) C):=by
 intro args bl ch K h;unfold wb at h⊢;split at h
 ·exact⟨h.1,λm e=>⟨h.2.1 m e,[],by simp⟩,λe m c hc=>⟨h.2.2 e m c hc,[],by simp⟩⟩
 ·exact h.elim
theorem Dh:dU (wa (fr:=fr)):=by
 intro args bl ch K h;unfold wa at h⊢;split at h
 ·rename_i m o nc vk s' g rest;refine⟨h.1,?_⟩;have h2:=h.2;by_cases hm:4294967295<=m
  ·rw[show decide (4294967295<=m)=true by simp[hm]]at h2⊢;exact⟨h2,[],by simp⟩
  ·rw[show decide (4294967295<=m)=false by simp[hm]]at h2⊢;exact⟨h2,[],by simp⟩
 ·exact h.elim
theorem agO (tk:Nat->Sd.Byt->Option Sd.db) (ht:Body (fr:=fr) 130 bM) (h1:Sound prog gS 126 (wb (fr:=fr) (aj tk))):ah prog gS (LH fr (aj tk)):=
 ah.cons ⟨h1,λ_=>Gc _⟩ (ah.cons ⟨De,λ_=>Dh⟩ (v8 tk ht))
structure acK (k:LK) (s:Sd.Scene) (l:Int):Prop where
 r:Rm s 8
 d:∀i,i<3->0<=(s.c.doors i).many/\(s.c.doors i).many<=9223372036854775807
 key:1<=k.kn 3/\k.kn 3<=64
 ke:s.c.p.k 3=(k.kn 3,k.kf 3)
 Gd:k.pn<=1000/\By k.pf
 l:1<=l/\l<=3
def sR (C:Sd.Crypt):SM fr:=λar k s F K=>match ar with
 |[.int .i64 l,.raw vp]=>(vp=dX k/\acK k s l)/\∀F',K (.aC []) (s.jt C l k.pn k.pf) F'
 |_=>False
theorem Ge {C:Sd.Crypt} {s:Sd.Scene} {l:Int} {n:Nat} {f:Sd.Byt} (h:C.take n f=none):s.jt C l n f=s.cW C l 13:=by unfold Sd.Scene.jt;rw[h]
theorem Gf {C:Sd.Crypt} {s:Sd.Scene} {l:Int} {n:Nat} {f:Sd.Byt} {m:Sd.db} (h:C.take n f=some m):s.jt C l n f=if Sd.jW s.c.p l m.role=false then s.refuse C l 0 18 else if 4294967295<=(s.c.doors (l.toNat-1)).many then s.refuse C l 0 24 else
 ((sQ s (l.toNat-1) ⟨(s.c.doors (l.toNat-1)).many+1,true,C.ab (s.c.p.k 3) l ((s.c.doors (l.toNat-1)).many+1)⟩).tell l ⟨129,0,0,0,0,0,C.ab (s.c.p.k 3) l ((s.c.doors (l.toNat-1)).many+1)⟩).record C 2 l 0 0 0:=by unfold Sd.Scene.jt;rw[h];rfl
theorem nG (tk:Nat->Sd.Byt->Option Sd.db) {k:LK} {s:Sd.Scene} {F:cw fr (bV k s)} {Kb:SK fr k} {l:Int} {i:Nat} {D:Sd.dR->Sd.Scene} (hD:∀e,bV k (D e)=bV k s) (Zi:∀e,D e=sQ s i e) (hi:l.toNat-1=i) (h3:i<3) (hq:s.c.p.queue=k.most) (hP:acK k s l)
 (m:Sd.db) (c:Int) (hm:(c=0/\(aj tk).take k.pn k.pf=some m)\/(c≠0/\(aj tk).take k.pn k.pf=none)) (hK:∀F',Kb (.aC []) (s.jt (aj tk) l k.pn k.pf) F'):Wo (aj tk) k s F Kb l (s.c.doors i) D hD m c:=by
 subst hi;unfold Wo;refine aO (λe=>⟨eO hq,vU hP.r.r1 λF1=>aH ?_ hK F1⟩) (λe=>⟨trivial,aO (λe1=>⟨eO hq,gh ⟨hP.r.le (by decide),V1,⟨by decide,by decide⟩⟩ λF1=>aH ?_ hK F1⟩) (λe1=>⟨⟨rfl,rfl,⟨by have:=hP.l;omega,by have:=hP.l;omega⟩,hP.d _ h3,hP.key⟩,aO (λe2=>⟨eO hq,gh ⟨hP.r.le (by decide),V1,⟨by decide,by decide⟩⟩ λF1=>aH ?_ hK F1⟩) (λe2=>?_)⟩)⟩)
 ·have hc:c≠0:=kR e;rcases hm with⟨h,_⟩|⟨_,h⟩
  ·exact absurd h hc
  ·exact(Ge h).symm
 all_goals
  have hc:c=0:=by simpa using e
  have agP:(aj tk).take k.pn k.pf=some m:=by
   rcases hm with⟨_,h⟩|⟨h,_⟩
   ·exact h
   ·exact absurd hc h
  rw[Gf agP]at*
 ·exact(if_pos (by simpa using e1)).symm
 ·rw[if_neg (by simpa using e1),if_pos (by simpa using e2)]
 ·rw[if_neg (by simpa using e1),if_neg (by simpa using e2)]at hK;have hn:(aj tk).ab (s.c.p.k 3) l ((s.c.doors (l.toNat-1)).many+1)=aV (k.kn 3) (k.kf 3) l ((s.c.doors (l.toNat-1)).many+1):=by rw[hP.ke];rfl
  rw[hn]at hK;have key:∀(x:Sd.Scene) (hx:bV k x=bV k s),x=sQ s (l.toNat-1) (AO k l (s.c.doors (l.toNat-1)))->(eg k x (hx▸F)/\bM [.int .i64 l,.agg [.int .i64 129,.int .i64 0,.int .i64 0,.int .i64 0,.int .i64 0,.int .i64 0,.dS .u8 8 (AO k l (s.c.doors (l.toNat-1))).ab]] k x (hx▸F) λv s2 F2=>
   eg k s2 F2/\gD (aj tk) [.int .i64 2,.int .i64 l,.int .i64 0,.int .i64 0,.int .i64 0] k (dg s2) F2 λv s' F'=>aM k s Kb (.aC []) (cO k s' F'++[⟨true,⟨179,(0,0)⟩,cB m⟩,⟨true,⟨94,(0,0)⟩,Qt (AO k l (s.c.doors (l.toNat-1)))⟩]) [cx k s' F']):=by
   rintro x hx rfl;refine⟨eO hq,⟨⟨(show Rm (sQ s _ _) 8 from hP.r).le (by decide),⟨(show(129:Int)<=129/\(129:Int)<=136 by decide),⟨V1,.inr rfl⟩,⟨(show(0:Int)<=0/\(0:Int)<=3 by decide),.inr rfl⟩,⟨z4,.inr rfl⟩,⟨z16,.inr rfl⟩,⟨z8,.inr rfl⟩,⟨Ln _ _ _ _,.inl rfl⟩⟩⟩,λF1=>⟨eO hq,fe ?_ λF2=>aH rfl hK F2⟩⟩⟩;have:=hP.r.2;simp only[Sd.Scene.tell,sQ];omega
  exact key _ (hD _) (Zi _)
theorem Gg (tk:Nat->Sd.Byt->Option Sd.db) (ht:Body (fr:=fr) 130 bM) (h1:Sound prog gS 126 (wb (fr:=fr) (aj tk))):Body (fr:=fr) 85 (sR (aj tk)):=by
 refine dy (n:=90) (agO tk ht h1) ?_;intro ar k s F Kb h0 hq hM;unfold sR at hM;split at hM
 ·rename_i l vp;have hP:=hM.1.2;have hK:=hM.2;have hv:vp=dX k:=hM.1.1;subst hv;have hl:l=1\/l=2\/l=3:=by have:=hP.l;omega
  rcases hl with rfl|rfl|rfl
  ·rw[Wp];exact⟨⟨rfl,hP.Gd.1,hP.Gd.2⟩,λm e=>nG tk _ (λe=>je (i:=0) (by decide) rfl rfl rfl) rfl (by decide) hq hP m 0 (.inl ⟨rfl,e⟩) hK,λe m c hc=>nG tk _ (λe=>je (i:=0) (by decide) rfl rfl rfl) rfl (by decide) hq hP m c (.inr ⟨hc,e⟩) hK⟩
  ·rw[Wq];exact⟨⟨rfl,hP.Gd.1,hP.Gd.2⟩,λm e=>nG tk _ (λe=>je (i:=1) (by decide) rfl rfl rfl) rfl (by decide) hq hP m 0 (.inl ⟨rfl,e⟩) hK,λe m c hc=>nG tk _ (λe=>je (i:=1) (by decide) rfl rfl rfl) rfl (by decide) hq hP m c (.inr ⟨hc,e⟩) hK⟩
  ·rw[Ws];exact⟨⟨rfl,hP.Gd.1,hP.Gd.2⟩,λm e=>nG tk _ (λe=>je (i:=2) (by decide) rfl rfl rfl) rfl (by decide) hq hP m 0 (.inl ⟨rfl,e⟩) hK,λe m c hc=>nG tk _ (λe=>je (i:=2) (by decide) rfl rfl rfl) rfl (by decide) hq hP m c (.inr ⟨hc,e⟩) hK⟩
 ·exact hM.elim
end Go.Proofs.YtlkpikfddnjilaaGreatDoor
