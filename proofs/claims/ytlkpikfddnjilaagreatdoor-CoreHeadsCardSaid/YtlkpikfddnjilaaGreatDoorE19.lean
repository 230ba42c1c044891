/- Part 19 of the proof. -/
import Derived.Test.YtlkpikfddnjilaaGreatDoorRows
import Derived.Test.YtlkpikfddnjilaaGreatDoorE18
set_option linter.all false
set_option maxRecDepth 100000
set_option maxHeartbeats 4000000
open Go.Proofs.Tryz
open Go.IntKind (u8 u16 u32 u64 i64)
namespace Go.Proofs.YtlkpikfddnjilaaGreatDoor
open Go Go.RowKit Go.BigFrame Sx Vx
def Fd.num (d:Fd) (g:Nat->Int):Int:=bif d.sg then Xj (pd g)else bif Nat.beq d.sz 1 then tk1 g else bif Nat.beq d.sz 2 then pd g else Z4 g
def Fd.set (d:Fd) (v:Int) (m:Sd.dw):Sd.dw:=match d.at_ with
 |1=>{m with seq:=v}|2=>{m with role:=v}|3=>{m with cg:=v}|4=>{m with epoch:=v}|5=>{m with mode:=v}|6=>{m with cls:=v}|7=>{m with now:=v==1}
 |8=>{m with x:=⟨v,m.x.b,m.x.c,m.x.d⟩}|9=>{m with x:=⟨m.x.a,v,m.x.c,m.x.d⟩}|10=>{m with x:=⟨m.x.a,m.x.b,v,m.x.d⟩}|11=>{m with x:=⟨m.x.a,m.x.b,m.x.c,v⟩}|_=>m
def m7 (k:Int):Option (List Fd):=
 if k=1\/k=2 then some [vb]else if k=3\/k=4\/k=8\/k=9 then some [iX]else if k=5 then some [iX,JL]else if k=6 then some [iX,fTo]else if k=7 then some [iX,il]else if k=10 then some [iX,il,xI]
 else if k=11 then some [iX,il,w7,fX 0,fX 1,fX 2,fX 3]else none
def runM (n:Nat) (f:Nat->Int):List Fd->Nat->Sd.dw->Option Sd.dw
 |[],off,m=>if n-off=0 then some m else none
 |d::l,off,m=>if n-off<d.sz then none else if d.num (λj=>f (off+j))<d.low\/d.high<d.num (λj=>f (off+j))then none else runM n f l (off+d.sz) (d.set (d.num (λj=>f (off+j))) m)
def cu (n:Nat) (f:Nat->Int):Option Sd.dw:=if n=0 then none else match m7 (f 0)with
 |some l=>runM n f l 1 (Sd.jd (f 0))
 |none=>none
def se (d:Fd):Prop:=(d.sg=true->d.sz=2)/\∀v m,jT (cC m) d.at_ (bif d.b then .bool (v==1)else .int .i64 v)=cC (d.set v m)
theorem nH {x:Int} (h:-9223372036854775808<=x/\x<=9223372036854775807):i64.wrap x=x:=by simp[IntKind.wrap,IntKind.bits,IntKind.signed];omega
theorem By.at {f:Nat->Int} (h:By f) (o:Nat):By λj=>f (o+j):=λj=>h (o+j)
theorem Hw (d:Fd) {g:Nat->Int} (h:By g):d.val g=d.num g:=by
 have h1:=Z5 h;have h2:=NP h;have h4:=Z6 h
 unfold Fd.val Fd.num;cases d.sg<;>cases Nat.beq d.sz 1<;>cases Nat.beq d.sz 2<;>simp only[cond_true,cond_false]<;>first|rfl|(apply nH;omega)
theorem Hx {n:Nat} {f:Nat->Int} (hf:By f) {X:V->Prop}:∀(l:List Fd) (off:Nat) (m:Sd.dw),(∀d∈l,se d)->(∀r,runM n f l off m=some r->X (.aI [.agg (cC r),.int .i64 0]))->(runM n f l off m=none->X ph)->JK n f X l off (cC m)
 |[],off,m,_,h1,h2=>by
  unfold JK;unfold runM at h1 h2;by_cases h:n-off=0
  ·rw[if_pos h]at h1;rw[h];exact h1 m rfl
  ·rw[if_neg h]at h2;have:Nat.beq (n-off) 0=false:=by
    cases hb:Nat.beq (n-off) 0 with
    |true=>exact absurd (Nat.eq_of_beq_eq_true hb) h
    |false=>rfl
   rw[this];exact h2 rfl
 |d::l,off,m,hd,h1,h2=>by
  unfold JK;unfold runM at h1 h2;have hb:=hf.at off;by_cases h:n-off<d.sz
  ·rw[if_pos h]at h2;have:Nat.blt (n-off) d.sz=true:=by rw[Nat.blt_eq];exact h
   rw[this];exact h2 rfl
  ·rw[if_neg h]at h1 h2;have:Nat.blt (n-off) d.sz=false:=by
    cases hb:Nat.blt (n-off) d.sz with
    |true=>rw[Nat.blt_eq]at hb;exact absurd hb h
    |false=>rfl
   rw[this,Hw d hb];refine⟨hb,aS (λe=>?_) (λe=>aS (λe2=>?_) (λe2=>?_))⟩
   ·have e:=of_decide_eq_true e;rw[if_pos (.inl e)]at h2;exact h2 rfl
   ·have e2:=of_decide_eq_true e2;rw[if_pos (.inr e2)]at h2;exact h2 rfl
   ·have e:=of_decide_eq_false e;have e2:=of_decide_eq_false e2;have hn:¬(d.num (λj=>f (off+j))<d.low\/d.high<d.num (λj=>f (off+j))):=by omega
    rw[if_neg hn]at h1 h2;have:d.up (λj=>f (off+j)) (cC m)=cC (d.set (d.num (λj=>f (off+j))) m):=by
     unfold Fd.up;rw[Hw d hb];exact(hd d (by simp)).2 _ _
    rw[this];exact Hx hf l (off+d.sz) _ (λx hx=>hd x (by simp[hx])) h1 h2
theorem aeJ {k:Int} {l:List Fd} (h:m7 k=some l):∀d∈l,se d:=by
 have a1:se vb:=⟨by decide,λv m=>rfl⟩;have a2:se iX:=⟨by decide,λv m=>rfl⟩;have a3:se JL:=⟨by decide,λv m=>rfl⟩;have a4:se fTo:=⟨by decide,λv m=>rfl⟩;have a5:se il:=⟨by decide,λv m=>rfl⟩;have a6:se xI:=⟨by decide,λv m=>rfl⟩;have a7:se w7:=⟨by decide,λv m=>rfl⟩;have b0:se (fX 0):=⟨by decide,λv m=>rfl⟩;have b1:se (fX 1):=⟨by decide,λv m=>rfl⟩;have b2:se (fX 2):=⟨by decide,λv m=>rfl⟩;have b3:se (fX 3):=⟨by decide,λv m=>rfl⟩;unfold m7 at h
 repeat' split at h
 all_goals first|(cases h;done)|(obtain rfl:=Option.some.inj h;intro d hd;simp at hd;rcases hd with rfl|rfl|rfl|rfl|rfl|rfl|rfl<;>assumption)|(obtain rfl:=Option.some.inj h;intro d hd;simp at hd;rcases hd with rfl|rfl|rfl<;>assumption)|(obtain rfl:=Option.some.inj h;intro d hd;simp at hd;rcases hd with rfl|rfl<;>assumption)|(obtain rfl:=Option.some.inj h;intro d hd;simp at hd;subst hd;assumption)
theorem OY {n:Nat} {f:Nat->Int} (hf:By f) (hn:n≠0) {X:V->Prop} (h1:∀r,cu n f=some r->X (.aI [.agg (cC r),.int .i64 0])) (h2:cu n f=none->X ph):gx n f X:=by
 have hk:ln f=f 0:=nH (by have:=hf 0;omega);have hm:m0 f=cC (Sd.jd (f 0)):=by unfold m0;rw[hk];rfl
 unfold gx;rw[hk,hm];unfold cu at h1 h2;rw[if_neg hn]at h1 h2;have T:∀l,m7 (f 0)=some l->JK n f X l 1 (cC (Sd.jd (f 0))):=by
  intro l hl;rw[hl]at h1 h2;exact Hx hf l 1 _ (aeJ hl) h1 h2
 have eq:∀{k:Int},(f 0==k)=true->f 0=k:=λh=>by simpa using h
 have ne:∀{k:Int},(f 0==k)=false->f 0≠k:=λh=>by simpa using h
 refine aS (λe=>T _ (by rw[eq e];rfl)) (λe1=>aS (λe=>T _ (by rw[eq e];rfl)) (λe2=>aS (λe=>T _ (by rw[eq e];rfl)) (λe3=>aS (λe=>T _ (by rw[eq e];rfl)) (λe4=>aS (λe=>T _ (by rw[eq e];rfl)) (λe5=>aS (λe=>T _ (by rw[eq e];rfl)) (λe6=>
  aS (λe=>T _ (by rw[eq e];rfl)) (λe7=>aS (λe=>T _ (by rw[eq e];rfl)) (λe8=>aS (λe=>T _ (by rw[eq e];rfl)) (λe9=>aS (λe=>T _ (by rw[eq e];rfl)) (λe10=>aS (λe c u hc=>T _ (by rw[eq e];rfl)) (λe11=>?_)))))))))))
 refine h2 ?_;have:=ne e1;have:=ne e2;have:=ne e3;have:=ne e4;have:=ne e5;have:=ne e6;have:=ne e7;have:=ne e8;have:=ne e9;have:=ne e10;have:=ne e11
 have:m7 (f 0)=none:=by unfold m7;repeat' (rw[if_neg (by omega)])
 rw[this]
theorem aeK (P Q:Nat->Prop) (Z:Prop) (h0:P 0=Z) (h1:P 1=Q 1) (h2:P 2=Q 2) (h3:P 3=Q 3) (h4:P 4=Q 4) (h5:P 5=Q 5) (h6:P 6=Q 6) (h7:P 7=Q 7) (h8:P 8=Q 8) (h9:P 9=Q 9) (h10:P 10=Q 10) (h11:P 11=Q 11) (h12:P 12=Q 12) (h13:P 13=Q 13) (h14:P 14=Q 14) (h15:P 15=Q 15) (h16:P 16=Q 16) (h17:∀m,P (m+17)=Q (m+17)) (n:Nat):(n=0/\P n=Z)\/(n≠0/\P n=Q n):=by
 rcases Nat.lt_or_ge n 17 with h|h
 ·have h:n=0\/n=1\/n=2\/n=3\/n=4\/n=5\/n=6\/n=7\/n=8\/n=9\/n=10\/n=11\/n=12\/n=13\/n=14\/n=15\/n=16:=by omega
  rcases h with rfl|rfl|rfl|rfl|rfl|rfl|rfl|rfl|rfl|rfl|rfl|rfl|rfl|rfl|rfl|rfl|rfl
  ·exact .inl ⟨rfl,h0⟩
  ·exact .inr ⟨by decide,h1⟩
  ·exact .inr ⟨by decide,h2⟩
  ·exact .inr ⟨by decide,h3⟩
  ·exact .inr ⟨by decide,h4⟩
  ·exact .inr ⟨by decide,h5⟩
  ·exact .inr ⟨by decide,h6⟩
  ·exact .inr ⟨by decide,h7⟩
  ·exact .inr ⟨by decide,h8⟩
  ·exact .inr ⟨by decide,h9⟩
  ·exact .inr ⟨by decide,h10⟩
  ·exact .inr ⟨by decide,h11⟩
  ·exact .inr ⟨by decide,h12⟩
  ·exact .inr ⟨by decide,h13⟩
  ·exact .inr ⟨by decide,h14⟩
  ·exact .inr ⟨by decide,h15⟩
  ·exact .inr ⟨by decide,h16⟩
 ·obtain⟨m,rfl⟩:∃m,n=m+17:=⟨n-17,by omega⟩;exact .inr ⟨by omega,h17 m⟩
theorem UH (e:Nat) {f:Nat->Int} (hf:By f) (t:List Value) {X:V->Prop} (n:Nat) (h1:∀r,cu n f=some r->X (.aI [.agg (cC r),.int .i64 0])) (h2:cu n f=none->X ph):kJ n e f t X:=by
 rcases aeK (λn=>kJ n e f t X) (λn=>gx n f X) (X ph) (ahj e f t X) (ahk e f t X) (ahl e f t X) (ahm e f t X) (ahn e f t X) (aho e f t X) (ahp e f t X) (ahq e f t X) (ahr e f t X) (ahs e f t X) (aeB e f t X) (aeC e f t X) (aeD e f t X) (aeE e f t X) (aeF e f t X) (aeG e f t X) (aeH e f t X) (aeI e f t X) n with⟨h0,h⟩|⟨h0,h⟩
 ·exact Eq.mpr h (h2 (by rw[h0];rfl))
 ·exact Eq.mpr h (OY hf h0 h1 h2)
def Fq (n:Nat) (f:Nat->Int):V:=match cu n f with
 |some r=>.aI [.agg (cC r),.int .i64 0]
 |none=>ph
theorem Aj:ao prog AU LTm:=ao.cons ⟨Ai AU,λe=>by cases e⟩ (fZ (aX.cons (JJ AU) (aX.cons (E_ AU) aX.nil)))
theorem UI (b n c:Nat) (f:Nat->Int) (t:List Value) (hf:By f) (hc:n<=c) (w:World) (hB:w.heap[b]?=some (.cells ((List.range n).map (λj=>Value.int .u8 (f j))++t).toArray 5 (0,0))):
 au prog 126 #[.slice (some ⟨b,0,none⟩) n c] w λv w1=>v=den [] (Fq n f)/\Ch [] w w1:=by
 obtain⟨e,rfl⟩:∃e,c=e+n:=⟨c-n,by omega⟩;have fW:kJ n e f t (λv=>v=Fq n f):=UH e hf t n (λr h=>by unfold Fq;rw[h]) (λh=>by unfold Fq;rw[h]);have S0:=St.given (w:=w) [(b,.cells ((List.range n).map (λj=>Value.int .u8 (f j))++t).toArray 5 (0,0))] (all_cons hB all_nil);have S1:St [] w (lits [b] [b] [⟨false,⟨5,(0,0)⟩,[.ew .u8 n f,.rest t]⟩]++ak ([]:List Empty) []) w:=by
  simpa[lits,aW,ai,cl,ak]using S0
 refine(bW Aj.TS Aj.QS 90 (C:=KW prog AU LTm) (args:=[.sl 0 0 n (e+n)]) (λg i h=>by cases h) rfl S1 fW).mono ?_;rintro v w' ⟨x,more,bl',ch',rfl,DJ,S2,rfl⟩;refine⟨?_,S2.ch⟩;have hw:fR 0 (Fq n f)=true:=by unfold Fq;split<;>rfl
 have:=bR (ids:=[]) (more:=[b]++more) (Fq n f) hw;simpa using this
variable{fr:Sd.Reply->Nat×Sd.Byt}
def qP (s:Sd.Scene) (E:Sd.Tab):Sd.Scene:={s with c:={s.c with doors:=r3 (s.c.doors 0) (s.c.doors 1) (s.c.doors 2) s.c.doors,tab:=⟨E.aF,r3 (E.aE 0) (E.aE 1) (E.aE 2) s.c.tab.aE⟩}}
def dT (s:Sd.Scene) (t:Sd.Tab):Sd.Scene:={s with c:={s.c with tab:=t}}
theorem qQ {s:Sd.Scene} {E t:Sd.Tab} (h1:E.aF=t.aF) (h2:∀j,j<3->E.aE j=t.aE j) (h3:∀j,t.aE (j+3)=s.c.tab.aE (j+3)):qP s E=dT s t:=by
 unfold qP dT;rw[tR,h1];have e:r3 (E.aE 0) (E.aE 1) (E.aE 2) s.c.tab.aE=t.aE:=by
  funext j
  match j with
  |0=>exact h2 0 (by decide)
  |1=>exact h2 1 (by decide)
  |2=>exact h2 2 (by decide)
  |j+3=>exact(h3 j).symm
 rw[e]
theorem OZ (s:Sd.Scene) (l:Int):qP s ((cj s.c.tab).end_ l)=dT s (s.c.tab.end_ l):=by
 have key:∀l:Int,l=1\/l=2\/l=3->(s.c.tab.fw l=true)->qP s ((cj s.c.tab).fe (l.toNat-1) .zero)=dT s (s.c.tab.fe (l.toNat-1) .zero):=by
  intro l hl tp;refine qQ rfl ?_ ?_
  ·intro j hj;have:j=0\/j=1\/j=2:=by omega
   rcases hl with rfl|rfl|rfl<;>rcases this with rfl|rfl|rfl<;>rfl
  ·intro j;rcases hl with rfl|rfl|rfl<;>rfl
 unfold Sd.Tab.end_;rw[vo];by_cases h:s.c.tab.fw l=true
 ·rw[if_pos h,if_pos h];refine key l ?_ h;unfold Sd.Tab.fw at h;simp only[Bool.and_eq_true,decide_eq_true_eq]at h;omega
 ·rw[if_neg h,if_neg h];refine qQ rfl ?_ (λj=>rfl);intro j hj;have:j=0\/j=1\/j=2:=by omega
  rcases this with rfl|rfl|rfl<;>rfl
section
variable(C:Sd.Crypt) (k:LK) (s:Sd.Scene) (F:cz fr (b9 k s)) (Kb:SK fr k)
theorem aa0 (l:Int) (m:Sd.dw):c_ (dQ prog gS (L5 fr C)) 60 137 [.ptr 2 0,.int .i64 l,.agg (cC m)] (cT k s F) [cB k s F] (aN k s Kb)
 =(True/\eu k s F/\jL C [.int .i64 l] k (qP s ((cj s.c.tab).end_ l)) F λv s2 F2=>eu k s2 F2/\gT C [.int .i64 4,.int .i64 l,.int .i64 m.seq,.int .i64 0,.int .i64 0] k (du s2) F2 λv s3 F3=>
  eu k s3 F3/\jb [.int .i64 l,.int .i64 m.seq] k (du s3) F3 λv s' F'=>aN k s Kb (.aI []) (cT k s' F'++[⟨true,⟨179,(0,0)⟩,cC m⟩]) [cB k s' F']):=by kernel_rfl
abbrev gJ (s:Sd.Scene) (l:Int) (m:Sd.dw):Int:=Sd.i_ s.c.p s.c.t l ((cj s.c.tab).role l) s.c.mode m
def aa1 (s:Sd.Scene) (l:Int) (m:Sd.dw):Sd.Scene:={s with c:={s.c with mode:=m.mode,bP:=⟨1,l,m.seq⟩}}
def vx (s:Sd.Scene) (c:Int) (x:Sd.X4) (b:Sd.Label):Sd.Scene:={s with c:={s.c with pt:=s.c.pt.set s.c.p c x b}}
theorem Fs (l:Int) (m:Sd.dw):c_ (dQ prog gS (L5 fr C)) 60 143 [.ptr 2 0,.int .i64 l,.agg (cC m)] (cT k s F) [cB k s F] (aN k s Kb)
 =(True/\((m.kind=10\/m.kind=11)/\(iI k).c=(iI k).c)/\cond (gJ s l m !=0)
  (eu k s F/\dW C [.int .i64 l,.int .i64 m.seq,.int .i64 (gJ s l m)] k (du s) F λv s' F'=>aN k s Kb (.aI []) (cT k s' F'++[⟨true,⟨179,(0,0)⟩,cC m⟩]) [cB k s' F'])
  (cond (m.kind==10)
   (eu k (aa1 s l m) F/\gT C [.int .i64 6,.int .i64 l,.int .i64 m.seq,.int .i64 0,.int .i64 0] k (du (aa1 s l m)) F λv s3 F3=>eu k s3 F3/\jb [.int .i64 l,.int .i64 m.seq] k (du s3) F3 λv s' F'=>aN k s Kb (.aI []) (cT k s' F'++[⟨true,⟨179,(0,0)⟩,cC m⟩,⟨true,⟨38,(0,0)⟩,mr ⟨1,l,m.seq⟩⟩]) [cB k s' F'])
   (Sd.cP s.c.p/\eu k (vx s m.cls m.x ⟨1,l,m.seq⟩) F/\gT C [.int .i64 6,.int .i64 l,.int .i64 m.seq,.int .i64 0,.int .i64 0] k (du (vx s m.cls m.x ⟨1,l,m.seq⟩)) F λv s3 F3=>eu k s3 F3/\jb [.int .i64 l,.int .i64 m.seq] k (du s3) F3 λv s' F'=>aN k s Kb (.aI []) (cT k s' F'++[⟨true,⟨179,(0,0)⟩,cC m⟩,⟨true,⟨38,(0,0)⟩,mr ⟨1,l,m.seq⟩⟩]) [cB k s' F']))):=by kernel_rfl
theorem UJ:c_ (dQ prog gS (L5 fr C)) 60 97 [.ptr 2 0] (cT k s F) [cB k s F] (aN k s Kb)
 =((vq k=vq k/\dB s.c.t.epoch)/\∀B (hB:QS k.bq k.most (Sd.aw s.c.t s.c.q 0).2.2 B),
  cond ((Sd.aw s.c.t s.c.q 0).2.1!=0) (eu k (bI s (Sd.aw s.c.t s.c.q 0).2.2) (F.bI (Sd.aw s.c.t s.c.q 0).2.2 B hB)/\gT C [.int .i64 7,.int .i64 0,.int .i64 s.c.samples,.int .i64 (Sd.aw s.c.t s.c.q 0).2.1,.int .i64 0] k (du (bI s (Sd.aw s.c.t s.c.q 0).2.2)) (F.bI (Sd.aw s.c.t s.c.q 0).2.2 B hB) λv s' F'=>aN k s Kb (.aI []) (cT k s' F'++[⟨true,⟨88,(0,0)⟩,cI (Sd.aw s.c.t s.c.q 0).1⟩]) [cB k s' F'])
  (eu k (bI s (Sd.aw s.c.t s.c.q 0).2.2) (F.bI (Sd.aw s.c.t s.c.q 0).2.2 B hB)/\lu C [.agg (cI (Sd.aw s.c.t s.c.q 0).1),.int .i64 2,.int .i64 s.c.samples] k (du (bI s (Sd.aw s.c.t s.c.q 0).2.2)) (F.bI (Sd.aw s.c.t s.c.q 0).2.2 B hB) λv s' F'=>aN k s Kb (.aI []) (cT k s' F'++[⟨true,⟨88,(0,0)⟩,cI (Sd.aw s.c.t s.c.q 0).1⟩]) [cB k s' F'])):=by kernel_rfl
theorem CB:c_ (dQ prog gS (L5 fr C)) 60 99 [.ptr 2 0] (cT k s F) [cB k s F] (aN k s Kb)
 =(dB s.c.t.epoch/\cond ((s.c.t.bz 0).2!=0) (eu k s F/\gT C [.int .i64 7,.int .i64 0,.int .i64 s.c.samples,.int .i64 (s.c.t.bz 0).2,.int .i64 0] k (du s) F λv s' F'=>aN k s Kb (.aI []) (cT k s' F'++[⟨true,⟨88,(0,0)⟩,cI (s.c.t.bz 0).1⟩]) [cB k s' F'])
  (eu k s F/\lu C [.agg (cI (s.c.t.bz 0).1),.int .i64 4,.int .i64 s.c.samples] k (du s) F λv s' F'=>aN k s Kb (.aI []) (cT k s' F'++[⟨true,⟨88,(0,0)⟩,cI (s.c.t.bz 0).1⟩]) [cB k s' F'])):=by kernel_rfl
def J6 (s:Sd.Scene):Sd.dw:=⟨11,0,0,0,s.c.t.epoch,0,1,false,⟨0,0,0,0⟩⟩
theorem aa2 (x:Sd.dM):c_ (dQ prog gS (L5 fr C)) 60 98 [.ptr 2 0,.agg (pg x)] (cT k s F) [cB k s F] (aN k s Kb)
 =((((11:Int)=10\/(11:Int)=11)/\(iI k).c=(iI k).c)/\cond (Sd.i_ s.c.p s.c.t 0 0 s.c.mode (J6 s)!=0)
  (eu k s F/\gT C [.int .i64 7,.int .i64 0,.int .i64 s.c.samples,.int .i64 (Sd.i_ s.c.p s.c.t 0 0 s.c.mode (J6 s)),.int .i64 0] k (du s) F λv s' F'=>aN k s Kb (.aI []) (cT k s' F'++[⟨true,⟨57,(0,0)⟩,pg x⟩,⟨true,⟨179,(0,0)⟩,cC (J6 s)⟩]) [cB k s' F'])
  (Sd.cP s.c.p/\eu k (vx s 1 x.x ⟨1,0,s.c.samples⟩) F/\gT C [.int .i64 6,.int .i64 0,.int .i64 s.c.samples,.int .i64 0,.int .i64 0] k (du (vx s 1 x.x ⟨1,0,s.c.samples⟩)) F λv s' F'=>aN k s Kb (.aI []) (cT k s' F'++[⟨true,⟨57,(0,0)⟩,pg x⟩,⟨true,⟨179,(0,0)⟩,cC (J6 s)⟩,⟨true,⟨38,(0,0)⟩,mr ⟨1,0,s.c.samples⟩⟩]) [cB k s' F'])):=by kernel_rfl
end
theorem vy (C:Sd.Crypt) (s:Sd.Scene) (l:Int):s.leave C l=if(s.c.t.drop l).2=false then qd s l else((fF (qd s l) (s.c.t.drop l).1).gone (s.c.t.drop l).1.holder l 16).record C 12 l 0 16 0:=rfl
theorem qR (C:Sd.Crypt) (s:Sd.Scene) (l:Int):(s.leave C l).c.p=s.c.p:=by
 rw[vy];split
 ·rfl
 ·show(Sd.Scene.gone _ _ _ _).c.p=_;rw[gone_c];rfl
theorem Rm.leave {C:Sd.Crypt} {s:Sd.Scene} {l:Int} {m:Nat} (h:Rm s (m+2)):Rm (s.leave C l) m:=by
 rw[vy];have h1:Rm (qd s l) (m+2):=h;split
 ·exact h1.le (by omega)
 ·have h2:Rm (fF (qd s l) (s.c.t.drop l).1) (m+2):=h;exact(h2.gone).rec
theorem UK (p:Sd.Pol) (t:Sd.Tok) (a r mo:Int) (m:Sd.dw):N8 (Sd.i_ p t a r mo m):=by have:=Sd.pa p t a r mo m;exact⟨by omega,by omega⟩
def O0 (C:Sd.Crypt):SM fr:=λar k s F K=>match ar with
 |[.int .i64 l,.agg ml]=>(match Jx ml with
  |some m=>(Sy s l m/\(m.kind=10\/m.kind=11))/\∀F',K (.aI []) (s.command C l m) F'
  |none=>False)
 |_=>False
def vz (C:Sd.Crypt) (s:Sd.Scene):Sd.Scene:=if(Sd.aw s.c.t s.c.q 0).2.1≠0 then s.record C 7 0 s.c.samples (Sd.aw s.c.t s.c.q 0).2.1 0 else(bI s (Sd.aw s.c.t s.c.q 0).2.2).goes C (Sd.aw s.c.t s.c.q 0).1 2 s.c.samples
def vA (C:Sd.Crypt) (s:Sd.Scene):Sd.Scene:=if(s.c.t.bz 0).2≠0 then s.record C 7 0 s.c.samples (s.c.t.bz 0).2 0 else s.goes C (s.c.t.bz 0).1 4 s.c.samples
def Ft (C:Sd.Crypt) (s:Sd.Scene) (x:Sd.X4):Sd.Scene:=if Sd.i_ s.c.p s.c.t 0 0 s.c.mode (J6 s)≠0 then s.record C 7 0 s.c.samples (Sd.i_ s.c.p s.c.t 0 0 s.c.mode (J6 s)) 0 else(vx s 1 x ⟨1,0,s.c.samples⟩).record C 6 0 s.c.samples 0 0
structure St0 (s:Sd.Scene):Prop where
 r:Rm s 8
 p:Sd.cP s.c.p
 t:TB s.c.t
def RJ (act:Sd.Scene->Sd.Scene):SM fr:=λar k s F K=>match ar with
 |[]=>St0 s/\∀F',K (.aI []) (act s) F'
 |_=>False
def mSx (act:Sd.Scene->Sd.dM->Sd.Scene):SM fr:=λar k s F K=>match ar with
 |[.agg xl]=>(match Jy xl with
  |some x=>St0 s/\∀F',K (.aI []) (act s x) F'
  |none=>False)
 |_=>False
section
variable(tk:Nat->Sd.Byt->Option Sd.dw) (ht:Body (fr:=fr) 130 bN)
include tk ht
theorem O1:Body (fr:=fr) 137 (iY λs l m=>s.WJ (aq tk) l m):=by
 refine jM (tk:=tk) (n:=60) (xN tk ht) ?_;intro l m k s F Kb hq hS hK;have h1:Rm (dT s (s.c.tab.end_ l)) 8:=hS.r;rw[aa0];refine⟨trivial,eZ hq,qJ (M:=λs F=>jL (aq tk) [.int .i64 l] k s F _) (OZ s l) F ⟨⟨h1.le (by decide),by have:=hS.l1;omega,by have:=hS.l3;omega⟩,λF2=>⟨eZ ?_,fk (h1.leave).r1 λF3=>⟨eZ ?_,iu ⟨((h1.leave).rec).le (by decide),hS.n⟩ λF4=>aK rfl hK F4 (hp:=?_)⟩⟩⟩⟩
 ·rw[qR];exact hq
 ·show(Sd.Scene.leave _ _ _).c.p.queue=_;rw[qR];exact hq
 ·show(Sd.Scene.leave _ _ _).c.p=_;rw[qR]
theorem Ak:Body (fr:=fr) 143 (O0 (aq tk)):=by
 refine dG (n:=60) (xN tk ht) ?_;intro ar k s F Kb h0 hq hM;unfold O0 at hM;split at hM
 ·rename_i l ml;split at hM
  ·rename_i m hm;obtain rfl:=tM hm;have hS:=hM.1.1;have hk:=hM.1.2;have hK:=hM.2;have hj:gJ s l m=Sd.i_ s.c.p s.c.t l (s.c.tab.role l) s.c.mode m:=by rw[gJ,aaL]
   have hb:=UK s.c.p s.c.t l (s.c.tab.role l) s.c.mode m;have h1:Rm (aa1 s l m) 8:=hS.r;have h2:Rm (vx s m.cls m.x ⟨1,l,m.seq⟩) 8:=hS.r;rw[Fs,hj];refine⟨trivial,⟨hk,rfl⟩,aS (λe=>⟨eZ hq,gy ⟨hS.r.le (by decide),hS.n,hb⟩ λF1=>aK (if_pos (lv e)).symm hK F1⟩) (λe=>aS (λe2=>?_) (λe2=>?_))⟩
   ·refine⟨eZ hq,fk h1.r1 λF2=>⟨eZ hq,iu ⟨h1.rec.le (by decide),hS.n⟩ λF3=>aK ?_ hK F3⟩⟩;have e3:m.kind=10:=by simpa using e2
    refine Eq.trans ?_ (if_neg (m6 e)).symm;rw[if_pos e3];rfl
   ·refine⟨hS.i.p,eZ hq,fk h2.r1 λF2=>⟨eZ hq,iu ⟨h2.rec.le (by decide),hS.n⟩ λF3=>aK ?_ hK F3⟩⟩;have e3:¬m.kind=10:=by simpa using e2
    refine Eq.trans ?_ (if_neg (m6 e)).symm;rw[if_neg e3];rfl
  ·exact hM.elim
 ·exact hM.elim
theorem J7:Body (fr:=fr) 97 (RJ (vz (aq tk))):=by
 refine dG (n:=60) (xN tk ht) ?_;intro ar k s F Kb h0 hq hM;unfold RJ at hM;split at hM
 ·have hS:=hM.1;have hK:=hM.2;have hb:=Xs hS.t s.c.q 0;have h1:Rm (bI s (Sd.aw s.c.t s.c.q 0).2.2) 8:=hS.r;rw[UJ];refine⟨⟨rfl,hS.t.b⟩,λB hB=>aS (λe=>⟨eZ hq,fk h1.r1 λF1=>aK ?_ hK F1⟩) (λe=>⟨eZ hq,lY ⟨h1.le (by decide),hb.1.h,hb.1.e⟩ λF2=>aK (if_neg (m6 e)).symm hK F2 (hp:=e_ _ _ _ _ _)⟩)⟩;rw[nG (Xt (lv e))];exact(if_pos (lv e)).symm
 ·exact hM.elim
theorem w8:Body (fr:=fr) 99 (RJ (vA (aq tk))):=by
 refine dG (n:=60) (xN tk ht) ?_;intro ar k s F Kb h0 hq hM;unfold RJ at hM;split at hM
 ·have hS:=hM.1;have hK:=hM.2;have hb:=lZ hS.t 0;rw[CB];exact⟨hS.t.b,aS (λe=>⟨eZ hq,fk hS.r.r1 λF1=>aK (if_pos (lv e)).symm hK F1⟩) (λe=>⟨eZ hq,lY ⟨hS.r.le (by decide),hb.1.h,hb.1.e⟩ λF2=>aK (if_neg (m6 e)).symm hK F2 (hp:=e_ _ _ _ _ _)⟩)⟩
 ·exact hM.elim
theorem O2:Body (fr:=fr) 98 (mSx λs x=>Ft (aq tk) s x.x):=by
 refine dG (n:=60) (xN tk ht) ?_;intro ar k s F Kb h0 hq hM;unfold mSx at hM;split at hM
 ·rename_i xl;split at hM
  ·rename_i x hx;obtain rfl:=tN hx;have hS:=hM.1;have hK:=hM.2;have h2:Rm (vx s 1 x.x ⟨1,0,s.c.samples⟩) 8:=hS.r;rw[aa2];exact⟨⟨.inr rfl,rfl⟩,aS (λe=>⟨eZ hq,fk hS.r.r1 λF1=>aK (if_pos (lv e)).symm hK F1⟩) (λe=>⟨hS.p,eZ hq,fk h2.r1 λF2=>aK (if_neg (m6 e)).symm hK F2⟩)⟩
  ·exact hM.elim
 ·exact hM.elim
end
def L6 (fr:Sd.Reply->Nat×Sd.Byt) (C:Sd.Crypt):List (eG (Gh fr)):=⟨97,false,pk (RJ (vz C))⟩::⟨99,false,pk (RJ (vA C))⟩::⟨98,false,pk (mSx λs x=>Ft C s x.x)⟩::L5 fr C
theorem Xv (tk:Nat->Sd.Byt->Option Sd.dw) (ht:Body (fr:=fr) 130 bN):ao prog gS (L6 fr (aq tk)):=
 ao.cons (dh (J7 tk ht)) (ao.cons (dh (w8 tk ht)) (ao.cons (dh (O2 tk ht)) (xN tk ht)))
def Hy (s:Sd.Scene) (n:Int):Sd.Scene:={s with c:={s.c with beyond:=n}}
def CD (s:Sd.Scene) (x:Sd.dM):Sd.Scene:={s with c:={s.c with samples:=Sd.sat s.c.samples 4294967295,beyond:=(Sd.n9 s.c.p s.c.beyond x).1}}
def UL (s:Sd.Scene):Sd.Tab:={cj s.c.tab with aF:=(true,.start s.c.p.bU)}
def Al (s:Sd.Scene) (x:Sd.dM):Sd.Scene:=dT (CD s x) (s.c.tab.dD s.c.p)
section
variable(C:Sd.Crypt) (k:LK) (s:Sd.Scene) (F:cz fr (b9 k s)) (Kb:SK fr k)
def UM (x:Sd.dM):Prop:=cond (s.c.t.holder==0)
 (eu k (CD s x) F/\mSx (λs x=>Ft C s x.x) [.agg (pg x)] k (qP (CD s x) (UL s)) F λv s' F'=>aN k s Kb (.aI []) (cT k s' F'++[⟨true,⟨57,(0,0)⟩,pg x⟩]) [cB k s' F'])
 (cond (Sd.n9 s.c.p s.c.beyond x).2 (eu k (CD s x) F/\RJ (vA C) [] k (qP (CD s x) (UL s)) F λv s' F'=>aN k s Kb (.aI []) (cT k s' F'++[⟨true,⟨57,(0,0)⟩,pg x⟩]) [cB k s' F'])
  (aN k s Kb (.aI []) (cT k (Al s x) F++[⟨true,⟨57,(0,0)⟩,pg x⟩]) [cB k (Al s x) F]))
theorem J8 (x:Sd.dM):c_ (dQ prog gS (L6 fr C)) 60 61 [.ptr 2 0,.agg (pg x)] (cT k s F) [cB k s F] (aN k s Kb)
 =cond (!x.valid) (aN k s Kb (.aI []) (cT k (Hy s 0) F++[⟨true,⟨57,(0,0)⟩,pg x⟩]) [cB k (Hy s 0) F])
  ((dB s.c.samples/\dB 4294967295)/\(0<=s.c.p.bU/\s.c.p.bU<=1000)/\(Sd.cP s.c.p/\dB s.c.beyond)/\
    cond (s.c.t.holder==0) (cond x.D0 (eu k (CD s x) F/\RJ (vz C) [] k (qP (CD s x) (UL s)) F λv s' F'=>aN k s Kb (.aI []) (cT k s' F'++[⟨true,⟨57,(0,0)⟩,pg x⟩]) [cB k s' F']) (UM C k s F Kb x)) (UM C k s F Kb x)):=by kernel_rfl
end
theorem vB (s:Sd.Scene) (x:Sd.dM):qP (CD s x) (UL s)=Al s x:=by
 refine qQ rfl ?_ (λj=>rfl);intro j hj;have:j=0\/j=1\/j=2:=by omega
 rcases this with rfl|rfl|rfl<;>rfl
def O3 (C:Sd.Crypt):SM fr:=λar k s F K=>match ar with
 |[.agg xl]=>(match Jy xl with
  |some x=>(St0 s/\dB s.c.samples/\dB s.c.beyond)/\∀F',K (.aI []) (s.dD C x) F'
  |none=>False)
 |_=>False
section
variable{k:LK} {s:Sd.Scene} {K:SK fr k}
end
theorem O4 (C:Sd.Crypt) (s:Sd.Scene) (x:Sd.dM) (h:x.valid=false):s.dD C x=Hy s 0:=if_pos h
theorem qS (C:Sd.Crypt) (s:Sd.Scene) (x:Sd.dM) (h:¬x.valid=false):s.dD C x=if s.c.t.holder=0/\x.D0=true then vz C (Al s x)else if s.c.t.holder=0 then Ft C (Al s x) x.x else if(Sd.n9 s.c.p s.c.beyond x).2=true then vA C (Al s x)else Al s x:=if_neg h
section
variable(tk:Nat->Sd.Byt->Option Sd.dw) (ht:Body (fr:=fr) 130 bN)
theorem O5 (C:Sd.Crypt) (s:Sd.Scene):(vz C s).c.p=s.c.p:=by
 unfold vz;split
 ·rfl
 ·rw[e_];rfl
theorem O6 (C:Sd.Crypt) (s:Sd.Scene):(vA C s).c.p=s.c.p:=by
 unfold vA;split
 ·rfl
 ·rw[e_]
theorem UN (C:Sd.Crypt) (s:Sd.Scene) (x:Sd.X4):(Ft C s x).c.p=s.c.p:=by
 unfold Ft;split<;>rfl
include tk ht
theorem CE:Body (fr:=fr) 61 (O3 (aq tk)):=by
 refine dG (n:=60) (Xv tk ht) ?_;intro ar k s F Kb h0 hq hM;unfold O3 at hM;split at hM
 ·rename_i xl;split at hM
  ·rename_i x hx;obtain rfl:=tN hx;have hS:=hM.1.1;have hK:=hM.2;have hT:St0 (Al s x):=⟨hS.r,hS.p,hS.t⟩;have hX:(x.valid≠false)->¬(s.c.t.holder=0/\x.D0=true)->UM (aq tk) k s F Kb x:=by
    intro hv hg;unfold UM;refine aS (λe=>⟨eZ hq,?_⟩) (λe=>aS (λe2=>⟨eZ hq,?_⟩) (λe2=>?_))
    ·have e1:s.c.t.holder=0:=by simpa using e
     refine qJ (M:=λs F=>mSx (λs x=>Ft (aq tk) s x.x) [.agg (pg x)] k s F _) (vB s x) F ⟨hT,λF1=>aK ?_ hK F1 (hp:=UN _ _ _)⟩;rw[qS _ _ _ hv,if_neg hg,if_pos e1]
    ·have e1:¬s.c.t.holder=0:=by simpa using e
     refine qJ (M:=λs F=>RJ (vA (aq tk)) [] k s F _) (vB s x) F ⟨hT,λF1=>aK ?_ hK F1 (hp:=O6 _ _)⟩;rw[qS _ _ _ hv,if_neg hg,if_neg e1,if_pos e2]
    ·have e1:¬s.c.t.holder=0:=by simpa using e
     refine aK ?_ hK (show cz fr (b9 k (Al s x))from F);rw[qS _ _ _ hv,if_neg hg,if_neg e1,if_neg (by rw[e2];decide)]
   rw[J8];refine aS (λe=>aK ?_ hK (show cz fr (b9 k (Hy s 0))from F)) (λe=>⟨⟨hM.1.2.1,by decide,by decide⟩,⟨by have:=hS.p.bU.1;omega,hS.p.bU.2⟩,⟨hS.p,hM.1.2.2⟩,?_⟩)
   ·rw[O4 _ _ _ (by simpa using e)]
   ·have hv:x.valid≠false:=by simpa using e
    refine aS (λe1=>aS (λe2=>⟨eZ hq,?_⟩) (λe2=>hX hv (by rw[e2];simp))) (λe1=>hX hv ?_)
    ·refine qJ (M:=λs F=>RJ (vz (aq tk)) [] k s F _) (vB s x) F ⟨hT,λF1=>aK ?_ hK F1 (hp:=O5 _ _)⟩;rw[qS _ _ _ hv,if_pos ⟨by simpa using e1,e2⟩]
    ·have e3:¬s.c.t.holder=0:=by simpa using e1
     exact λh=>e3 h.1
  ·exact hM.elim
 ·exact hM.elim
end
def O7:QG:=⟨111,2,λargs most q=>match args with
 |[.agg [.jS p ka kn kc],.agg tl,.bool th]=>(match kI tl with|some t=>some (dB t.epoch/\(dB t.la.n/\dB t.la.most)/\(1<=p.i 43/\p.i 43<=1000),.aI [.agg (cI (Sd.bM p t q th).1),.int .i64 (Sd.bM p t q th).2.1],(Sd.bM p t q th).2.2)|none=>none)
 |_=>none⟩
theorem O8:O7.Ok:=by
 intro args k q p v q' hv hm hp B hB bs ms w0 w S
 match args,hv,hm with
 |a::b::c::l,hv,hm=>
  have ha:c=.raw (vq k):=by simpa[O7]using hv
  subst ha;replace hm:(match(generalizing:=false) a::b::l with
   |[.agg [.jS p ka kn kc],.agg tl,.bool th]=>(match kI tl with|some t=>some (dB t.epoch/\(dB t.la.n/\dB t.la.most)/\(1<=p.i 43/\p.i 43<=1000),V.aI [.agg (cI (Sd.bM p t q th).1),.int .i64 (Sd.bM p t q th).2.1],(Sd.bM p t q th).2.2)|none=>none)
   |_=>none)=some (p,v,q'):=hm
  split at hm
  ·rename_i p' ka kn kc tl th heq;obtain⟨rfl,h2⟩:=List.cons.inj heq;obtain⟨rfl,rfl⟩:=List.cons.inj h2;split at hm
   ·rename_i t ht;obtain rfl:=eV ht;simp only[Option.some.injEq,Prod.mk.injEq]at hm;obtain⟨rfl,rfl,rfl⟩:=hm;exact ahh hB p' ka kn kc th hp.1 hp.2.1 hp.2.2 S
   ·cases hm
  ·cases hm
def Hz:QF:=⟨30,λargs _=>match args with
 |[]=>some (True,.agg (mr Sd.dN))
 |_=>none⟩
theorem CF (gl:Nat->Option Nat):Hz.Ok prog gl:=by
 intro args bl p_ v_ h hp ids w _ _;unfold Hz at h;dsimp only at h;split at h
 ·simp only[Option.some.injEq,Prod.mk.injEq]at h;obtain⟨rfl,rfl⟩:=h;exact told (aed w)
 ·cases h
def L7 (fr:Sd.Reply->Nat×Sd.Byt) (C:Sd.Crypt):List (eG (Gh fr)):=⟨111,false,ghC O7⟩::qE (Gh fr) Hz::L6 fr C
theorem Xw (tk:Nat->Sd.Byt->Option Sd.dw) (ht:Body (fr:=fr) 130 bN):ao prog gS (L7 fr (aq tk)):=
 ao.cons (z_ O8) (ao.cons (Hr CF) (Xv tk ht))
abbrev gU (s:Sd.Scene):Sd.Tok×Int×List Sd.Ask:=Sd.bM s.c.p s.c.t s.c.q ((cj s.c.tab).on s.c.t.holder)
theorem UO (C:Sd.Crypt) (k:LK) (s:Sd.Scene) (F:cz fr (b9 k s)) (Kb:SK fr k):c_ (dQ prog gS (L7 fr C)) 60 69 [.ptr 2 0] (cT k s F) [cB k s F] (aN k s Kb)
 =(True/\(vq k=vq k/\(dB s.c.t.epoch/\(dB s.c.t.la.n/\dB s.c.t.la.most)/\(1<=s.c.p.i 43/\s.c.p.i 43<=1000)))/\∀B (hB:QS k.bq k.most (gU s).2.2 B),
  cond (decide ((gU s).2.1<=0)) (aN k s Kb (.aI []) (cT k (fF (bI s (gU s).2.2) (gU s).1) (F.bI (gU s).2.2 B hB)++[⟨true,⟨88,(0,0)⟩,cI (gU s).1⟩]) [cB k (fF (bI s (gU s).2.2) (gU s).1) (F.bI (gU s).2.2 B hB)])
  (eu k (bI s (gU s).2.2) (F.bI (gU s).2.2 B hB)/\lu C [.agg (cI (gU s).1),.int .i64 (gU s).2.1,.int .i64 0] k (du (bI s (gU s).2.2)) (F.bI (gU s).2.2 B hB) λv s2 F2=>
   cond ((gU s).2.1==5) (eu k s2 F2/\qM [.int .i64 s2.c.p.lost,.agg (mr ⟨3,4,0⟩)] k (du s2) F2 λv s' F'=>aN k s Kb (.aI []) (cT k s' F'++[⟨true,⟨88,(0,0)⟩,cI (gU s).1⟩]) [cB k s' F'])
   (True/\eu k s2 F2/\qM [.int .i64 s2.c.p.safe,.agg (mr Sd.dN)] k (du s2) F2 λv s' F'=>aN k s Kb (.aI []) (cT k s' F'++[⟨true,⟨88,(0,0)⟩,cI (gU s).1⟩]) [cB k s' F']))):=by kernel_rfl
theorem aeL {p:Sd.Pol} {t:Sd.Tok} (h:TB t) (q:List Sd.Ask) (b:Bool):TB (Sd.bM p t q b).1:=by
 have h1:∀la,TB ({t with la:=la}:Sd.Tok):=λla=>⟨h.h,h.e⟩;unfold Sd.bM;split
 ·exact h1 _
 ·dsimp only;generalize (if t.la.most=0 then Sd.Timer.start p.dg else t.la).step=la;split
  ·exact h1 _
  ·split
   ·rename_i hs;refine⟨by simp[Sd.Tok.dJ,Sd.Tok.pass,N4],?_⟩;have e1:=h.e.1;have e2:=h.e.2;simp only[Sd.Tok.dJ,Sd.Tok.pass,RG,Sd.sat];split
    ·split<;>omega
    ·omega
   ·split
    ·exact(lZ (h1 _) 4).1
    ·exact(Hu (h1 _) q).1
theorem aeM {p:Sd.Pol} {t:Sd.Tok} {q:List Sd.Ask} {b:Bool} (h:(Sd.bM p t q b).2.1<=0):(Sd.bM p t q b).2.2=q:=by
 unfold Sd.bM at h⊢;split
 ·rfl
 ·rename_i h0;rw[if_neg h0]at h;dsimp only at h⊢;revert h;generalize (if t.la.most=0 then Sd.Timer.start p.dg else t.la).step=la;intro h;split
  ·rfl
  ·rename_i h1;rw[if_neg h1]at h;split
   ·rfl
   ·rename_i h2;rw[if_neg h2]at h;split
    ·rename_i h3;rw[if_pos h3]at h;simp at h
    ·rename_i h3;rw[if_neg h3]at h;simp at h
structure StL (s:Sd.Scene):Prop where
 r:Rm s 8
 p:Sd.cP s.c.p
 t:TB s.c.t
 l1:dB s.c.t.la.n
 l2:dB s.c.t.la.most
def vC (C:Sd.Crypt):SM fr:=λar k s F K=>match ar with
 |[]=>StL s/\∀F',K (.aI []) (s.dg C) F'
 |_=>False
theorem qT (C:Sd.Crypt) (s:Sd.Scene) (R:Sd.Tok×Int×List Sd.Ask) (h:R=Sd.bM s.c.p s.c.t s.c.q (s.c.tab.on s.c.t.holder)):s.dg C=if R.2.1<=0 then fF s R.1 else if R.2.1=5 then((bI s R.2.2).goes C R.1 R.2.1 0).dF ((bI s R.2.2).goes C R.1 R.2.1 0).c.p.lost ⟨3,4,0⟩else((bI s R.2.2).goes C R.1 R.2.1 0).dF ((bI s R.2.2).goes C R.1 R.2.1 0).c.p.safe Sd.dN:=by subst h;rfl
theorem tX (C:Sd.Crypt) (s:Sd.Scene) (t:Sd.Tok) (h n m:Int) (b:Sd.Label):((s.goes C t h n).dF m b).c.p=s.c.p:=e_ C s t h n
theorem J9 (tk:Nat->Sd.Byt->Option Sd.dw) (ht:Body (fr:=fr) 130 bN):Body (fr:=fr) 69 (vC (aq tk)):=by
 refine dG (n:=60) (Xw tk ht) ?_;intro ar k s F Kb h0 hq hM;unfold vC at hM;split at hM
 ·have hS:=hM.1;have hK:=hM.2;have hr:gU s=Sd.bM s.c.p s.c.t s.c.q (s.c.tab.on s.c.t.holder):=by rw[gU,aaK]
  have hb:=aeL (p:=s.c.p) hS.t s.c.q ((cj s.c.tab).on s.c.t.holder);have h1:Rm (bI s (gU s).2.2) 8:=hS.r;rw[UO];refine⟨trivial,⟨rfl,hS.t.b,⟨hS.l1,hS.l2⟩,hS.p.dg⟩,λB hB=>aS (λe=>?_) (λe=>⟨eZ hq,lY ⟨h1.le (by decide),hb.h,hb.e⟩ λF2=>aS (λe2=>⟨eZ ?_,Ab λF3=>aK ?_ hK F3 (hp:=tX _ _ _ _ _ _ _)⟩) (λe2=>⟨trivial,eZ ?_,Ab λF3=>aK ?_ hK F3 (hp:=tX _ _ _ _ _ _ _)⟩)⟩)⟩
  ·have e1:(gU s).2.1<=0:=by simpa using e
   refine aK (s':=fF (bI s (gU s).2.2) (gU s).1) ?_ hK (F.bI (gU s).2.2 B hB);rw[qT _ _ _ hr,if_pos e1,nG (aeM e1)]
  ·rw[e_];exact hq
  ·have e1:¬(gU s).2.1<=0:=by simpa using e
   have e3:(gU s).2.1=5:=by simpa using e2
   rw[qT _ _ _ hr,if_neg e1,if_pos e3]
  ·rw[e_];exact hq
  ·have e1:¬(gU s).2.1<=0:=by simpa using e
   have e3:¬(gU s).2.1=5:=by simpa using e2
   rw[qT _ _ _ hr,if_neg e1,if_neg e3]
 ·exact hM.elim
def CG:List Sd.Ask->List V
 |[]=>[]
 |a::l=>.int .i64 a.source::.int .i64 a.aU::.int .i64 a.gF.n::.int .i64 a.gF.most::CG l
def lx (l:List Sd.Ask) (t:List Value):VB:=⟨true,⟨101,(0,0)⟩,CG l++[.rest t]⟩
theorem sf (ids:List Nat):∀l:List Sd.Ask,ai ids (CG l)=lr l
 |[]=>rfl
 |a::l=>by
  have h:=sf ids l;simp only[CG,ai,cl,den,h];rfl
def O9:jq (Gh fr):=λargs bl ch K=>match args,ch with
 |[.raw vp],g::rest=>cond (ez bl.length bl) (vp=vq g.d.k/\(g.d.q=[]->∀x c,K (.raw (.slice x 0 c)) bl (g::rest))/\(∀a,g.d.q=[a]->∀c t,K (.sl bl.length 0 1 c) (bl++[lx [a] t]) (g::rest))/\
  (∀a b,g.d.q=[a,b]->∀c t,K (.sl bl.length 0 2 c) (bl++[lx [a,b] t]) (g::rest))/\(∀a b d,g.d.q=[a,b,d]->∀c t,K (.sl bl.length 0 3 c) (bl++[lx [a,b,d] t]) (g::rest))) False
 |_,_=>False
theorem Xx {bq:Nat} {most:Int} {L:List Sd.Ask} {B:List aC} (h:QS bq most L B):L.length<=3:=by
 obtain⟨es,_,_,_,_,_,_,hH,rfl⟩:=h
 match es,hH with
 |[],_=>simp[bC]
 |[e0],_=>simp[bC]
 |[e0,e1],_=>simp only[bC];repeat' split
             all_goals simp
 |[e0,e1,e2],_=>simp only[bC];repeat' split
                all_goals simp
 |_::_::_::_::_,hH=>exact absurd hH (by simp[bT])
theorem Fu (gl:Nat->Option Nat):Sound prog gl 32 (O9 (fr:=fr)):=by
 intro args ids bl ch R ms w0 w K hg hl S hc;unfold O9 at hc;split at hc
 ·rename_i vp g rest;cases hq:ez bl.length bl with
  |false=>rw[hq]at hc;exact hc.elim
  |true=>
   rw[hq]at hc;rw[<-hl]at hq;obtain⟨rfl,k0,k1,k2,k3⟩:=hc;have e0:ak (g::rest) R=g.F.B++ak rest R:=rfl;have S':=S;rw[e0,tq]at S;have hL:=aaB g.F.hq (S.perm (py _ _ _ _ _ _ _));have ea:(az ids [.raw (vq g.d.k)]).toArray=#[.pointer (some ⟨g.d.k.bq,0,none⟩)]:=rfl;rw[ea];refine hL.mono ?_;rintro v w1 ⟨x,c1,rows,rfl,hr,S1⟩;have aeN:=(S1.sub (List.sublist_append_right rows _)).perm (py _ _ _ _ _ _ _).symm;have qU:∀(n:Nat),g.d.q.length=n+1->∃(b:Nat) (t:List Value),x=some ⟨b,0,none⟩/\((∀c t,K (.sl bl.length 0 (n+1) c) (bl++[lx g.d.q t]) (g::rest))->
    ∃(x':V) (more:List Nat) (bl':List VB) (ch':List (Gh fr)),Value.slice x g.d.q.length c1=den (ids++more) x'/\(ids++more).length=bl'.length/\St ms w0 (lits (ids++more) (ids++more) bl'++ak ch' R) w1/\K x' bl' ch'):=by
    intro n hn;rcases hr.2.2 with⟨_,h0,_⟩|⟨b,t,hx,aeO,_⟩
    ·omega
    ·refine⟨b,t,hx,λh=>?_⟩;refine⟨.sl bl.length 0 (n+1) c1,[b],bl++[lx g.d.q t],g::rest,?_,by simp[hl],?_,h c1 t⟩
     ·rw[hx,hn,<-hl];simp only[den,cQ]
     ·have e1:lits (ids++[b]) (ids++[b]) (bl++[lx g.d.q t])=lits ids ids bl++rows:=by
       rw[aY _ _ _ _ hl,a_ _ _ hq];have ed:(ai (ids++[b]) (CG g.d.q++[.rest t])).toArray=(lr g.d.q++t).toArray:=by
        rw[bH,sf];simp[ai,cl]
       simp only[lits,aW,lx,ed];rw[aeO]
      rw[e1,e0,tq,List.append_assoc];refine S1.perm ?_;refine(List.Perm.append_left rows (py (lits ids ids bl) _ _ _ _ _ _).symm).trans ?_;exact List.perm_append_comm_assoc _ _ _
   have hlen:=Xx g.F.hq;revert k0 k1 k2 k3 qU hlen
   match g.d.q with
   |[]=>
    intro k0 k1 k2 k3 qU hlen;refine⟨.raw (.slice x 0 c1),[],bl,g::rest,?_,by simpa using hl,?_,k0 rfl x c1⟩
    ·simp[den]
    ·simp only[List.append_nil];rw[e0,tq];exact aeN
   |[a]=>intro k0 k1 k2 k3 qU hlen;obtain⟨b,t,_,h⟩:=qU 0 rfl;exact h (k1 a rfl)
   |[a,b']=>intro k0 k1 k2 k3 qU hlen;obtain⟨b,t,_,h⟩:=qU 1 rfl;exact h (k2 a b' rfl)
   |[a,b',d]=>intro k0 k1 k2 k3 qU hlen;obtain⟨b,t,_,h⟩:=qU 2 rfl;exact h (k3 a b' d rfl)
   |a::b'::d::e::l=>intro k0 k1 k2 k3 qU hlen;simp at hlen
 ·exact hc.elim
def L8 (fr:Sd.Reply->Nat×Sd.Byt) (C:Sd.Crypt):List (eG (Gh fr)):=⟨69,false,pk (vC C)⟩::⟨32,false,O9⟩::L7 fr C
theorem vD (tk:Nat->Sd.Byt->Option Sd.dw) (ht:Body (fr:=fr) 130 bN):ao prog gS (L8 fr (aq tk)):=
 ao.cons (dh (J9 tk ht)) (ao.cons ⟨Fu gS,λe=>by cases e⟩ (Xw tk ht))
section
variable(C:Sd.Crypt) (k:LK) (s0:Sd.Scene) (Kb:SK fr k)
def hlL:List Sd.Ask->(s:Sd.Scene)->cz fr (b9 k s)->List VB->Prop
 |[],s,F,j=>True/\eu k s F/\qM [.int .i64 s.c.p.safe,.agg (mr Sd.dN)] k (du s) F λv s' F'=>aN k s0 Kb (.aI []) (cT k s' F'++j) [cB k s' F']
 |a::l,s,F,j=>(vq k=vq k/\True)/\∀B (hB:QS k.bq k.most (Sd.Q.drop s.c.q a.source) B),eu k (qd s a.source) (F.bI (Sd.Q.drop s.c.q a.source) B hB)/\mZ [.int .i64 a.source,.int .i64 4,.int .i64 29] k (du (qd s a.source)) (F.bI (Sd.Q.drop s.c.q a.source) B hB) λv s2 F2=>hlL l s2 F2 (j++[⟨true,⟨101,(0,0)⟩,NT a⟩])
def hlQ (s:Sd.Scene) (F:cz fr (b9 k s)) (j:List VB):Prop:=vq k=vq k/\(s.c.q=[]->∀(x:Option Addr) (c:Nat),hlL k s0 Kb [] s F j)/\(∀a,s.c.q=[a]->∀(c:Nat) (t:List Value),hlL k s0 Kb [a] s F (j++[lx [a] t]))/\
 (∀a b,s.c.q=[a,b]->∀(c:Nat) (t:List Value),hlL k s0 Kb [a,b] s F (j++[lx [a,b] t]))/\(∀a b d,s.c.q=[a,b,d]->∀(c:Nat) (t:List Value),hlL k s0 Kb [a,b,d] s F (j++[lx [a,b,d] t]))
def qV (s:Sd.Scene) (b:Bool):Sd.Scene:=fF s {s.c.t with bad:=b}
theorem J_ (s:Sd.Scene) (F:cz fr (b9 k s)) (b:Bool):c_ (dQ prog gS (L8 fr C)) 80 62 [.ptr 2 0,.bool b] (cT k s F) [cB k s F] (aN k s Kb)
 =cond (!b) (aN k s Kb (.aI []) (cT k (qV s b) F) [cB k (qV s b) F])
  (dB s.c.t.epoch/\cond (s.c.t.holder !=4)
   (eu k (qV s b) F/\lu C [.agg (cI ({s.c.t with bad:=b}:Sd.Tok).dJ),.int .i64 6,.int .i64 0] k (du (qV s b)) F λv s2 F2=>hlQ k s Kb s2 F2 [⟨true,⟨88,(0,0)⟩,cI ({s.c.t with bad:=b}:Sd.Tok).dJ⟩])
   (hlQ k s Kb (fF s ({s.c.t with bad:=b}:Sd.Tok).dJ) F [⟨true,⟨88,(0,0)⟩,cI ({s.c.t with bad:=b}:Sd.Tok).dJ⟩])):=by kernel_rfl
end
def mg (s:Sd.Scene) (a:Sd.Ask):Sd.Scene:=(qd s a.source).gone a.source 4 29
theorem CH (s:Sd.Scene) (a:Sd.Ask):(mg s a).c.p=s.c.p:=by unfold mg;rw[gone_c];rfl
theorem Rm.mg {s:Sd.Scene} {a:Sd.Ask} {n:Nat} (h:Rm s (n+1)):Rm (mg s a) n:=by
 have h1:Rm (qd s a.source) (n+1):=h;exact h1.gone
theorem vE {k:LK} {s0:Sd.Scene} {Kb:SK fr k}:∀(l:List Sd.Ask) (s:Sd.Scene) (F:cz fr (b9 k s)) (j:List VB),s.c.p=s0.c.p->s.c.p.queue=k.most->Rm s l.length->
 (∀F',Kb (.aI []) ((l.foldl mg s).dF (l.foldl mg s).c.p.safe Sd.dN) F')->hlL k s0 Kb l s F j
 |[],s,F,j,hp,hq,hr,hK=>⟨trivial,eZ hq,Ab λF1=>aK (s':=s.dF s.c.p.safe Sd.dN) rfl hK F1 (hp:=hp) (hb:=by kernel_rfl)⟩
 |a::l,s,F,j,hp,hq,hr,hK=>⟨⟨rfl,trivial⟩,λB hB=>⟨eZ hq,qN ⟨(show Rm (qd s a.source) (l.length+1)from hr).le (by omega),⟨by decide,by decide⟩,⟨by decide,by decide⟩⟩ λF2=>vE l (mg s a) F2 _ (by rw[CH];exact hp) (by rw[CH];exact hq) hr.mg hK⟩⟩
theorem O_ {k:LK} {s0:Sd.Scene} {Kb:SK fr k} (s:Sd.Scene) (F:cz fr (b9 k s)) (j:List VB) (hp:s.c.p=s0.c.p) (hq:s.c.p.queue=k.most) (hr:Rm s 3)
 (hK:∀F',Kb (.aI []) ((s.c.q.foldl mg s).dF (s.c.q.foldl mg s).c.p.safe Sd.dN) F'):hlQ k s0 Kb s F j:=by
 refine⟨rfl,λe x c=>?_,λa e c t=>?_,λa b e c t=>?_,λa b d e c t=>?_⟩
 ·rw[e]at hK;exact vE [] s F _ hp hq (hr.le (by simp)) hK
 ·rw[e]at hK;exact vE [a] s F _ hp hq (hr.le (by simp)) hK
 ·rw[e]at hK;exact vE [a,b] s F _ hp hq (hr.le (by simp)) hK
 ·rw[e]at hK;exact vE [a,b,d] s F _ hp hq (hr.le (by simp)) hK
theorem UP {t:Sd.Tok} (h:TB t):TB t.dJ:=by
 have e1:=h.e.1;have e2:=h.e.2;refine⟨show(0:Int)<=4/\(4:Int)<=4 by decide,?_⟩;simp only[Sd.Tok.dJ,Sd.Tok.pass,RG,Sd.sat];split
 ·split<;>omega
 ·omega
def qW (C:Sd.Crypt):SM fr:=λar k s F K=>match ar with
 |[.bool b]=>(Rm s 8/\TB s.c.t)/\∀F',K (.aI []) (s.h_ C b) F'
 |_=>False
def ja (C:Sd.Crypt) (s:Sd.Scene):Sd.Scene:=if s.c.t.holder≠4 then s.goes C s.c.t.dJ 6 0 else fF s s.c.t.dJ
theorem Pa (C:Sd.Crypt) (s:Sd.Scene) (b:Bool) (h:b=false):s.h_ C b=qV s b:=if_pos h
theorem Pb (C:Sd.Crypt) (s:Sd.Scene) (b:Bool) (h:¬b=false):s.h_ C b=(((ja C (qV s b)).c.q.foldl mg (ja C (qV s b))).dF ((ja C (qV s b)).c.q.foldl mg (ja C (qV s b))).c.p.safe Sd.dN):=if_neg h
theorem CI (tk:Nat->Sd.Byt->Option Sd.dw) (ht:Body (fr:=fr) 130 bN):Body (fr:=fr) 62 (qW (aq tk)):=by
 refine dG (n:=80) (vD tk ht) ?_;intro ar k s F Kb h0 hq hM;unfold qW at hM;split at hM
 ·rename_i b;have hr:=hM.1.1;have hT:=hM.1.2;have hK:=hM.2;have h1:Rm (qV s b) 8:=hr;have hb:TB ({s.c.t with bad:=b}:Sd.Tok).dJ:=UP ⟨hT.h,hT.e⟩;rw[J_];refine aS (λe=>aK ?_ hK (show cz fr (b9 k (qV s b))from F)) (λe=>⟨hT.b,?_⟩)
  ·rw[Pa _ _ _ (by simpa using e)]
  ·have Ef:¬b=false:=by simpa using e
   rw[Pb _ _ _ Ef]at hK;refine aS (λe1=>⟨eZ hq,lY ⟨h1.le (by decide),hb.h,hb.e⟩ λF2=>?_⟩) (λe1=>?_)
   ·have e2:ja (aq tk) (qV s b)=(qV s b).goes (aq tk) ({s.c.t with bad:=b}:Sd.Tok).dJ 6 0:=if_pos (show s.c.t.holder≠4 by simpa using e1);rw[e2]at hK;exact O_ _ F2 _ (e_ _ _ _ _ _) (by rw[e_];exact hq) (h1.goes.le (by decide)) hK
   ·have e2:ja (aq tk) (qV s b)=fF s ({s.c.t with bad:=b}:Sd.Tok).dJ:=if_neg (show¬s.c.t.holder≠4 by simpa using e1);rw[e2]at hK;exact O_ (fF s ({s.c.t with bad:=b}:Sd.Tok).dJ) F _ rfl hq (hr.le (by decide)) hK
 ·exact hM.elim
theorem UQ {w:World} {n c b:Nat} {f:Nat->Int} {T:TypeId} (h:w.heap[b]?=some (.cells (cd n f c) T (0,0))):fK w b 0 n f:=by
 intro j hj;rw[cell_of h];simp only[cd,Nat.zero_add];rw[List.getElem?_toArray,List.getElem?_append_left (by rw[fI];exact hj)];simp[fQ,hj]
theorem tY {w:World} {n c:Nat} {f:Nat->Int} {x:Option Addr} {b:List aC} (h:cL 5 n f x c b) (cD:∀y∈b,w.heap[y.id]?=some y.obj) (h0:0<n) (hn:n<=1000000):cA w x n c f:=by
 obtain⟨b',h1,rfl,rfl⟩:=cy h h0;exact cA.of8 (UQ (cD _ (List.mem_singleton.2 rfl))) hn h1
theorem HA {ms:List Nat} {w0 w:World} {A R:List aC} {d:FD} (F:cz fr d) (S:St ms w0 (A++(F.B++R)) w) (i:Nat) (hi:i<4) (h0:0<d.k.kn i) (hn:d.k.kn i<=1000000):cA w (d.k.ka i) (d.k.kn i) (d.k.kc i) (d.k.kf i):=by
 obtain⟨b0,b1,b2,b3,b4,hB,k0,k1,k2,k3,k4⟩:=F.hk;have cD:∀y∈F.Bk,w.heap[y.id]?=some y.obj:=λy hy=>S.at' (by rw[tq];simp[hy]);rw[hB]at cD;have:i=0\/i=1\/i=2\/i=3:=by omega
 rcases this with rfl|rfl|rfl|rfl
 ·exact tY k0 (λy hy=>cD y (by simp[hy])) h0 hn
 ·exact tY k1 (λy hy=>cD y (by simp[hy])) h0 hn
 ·exact tY k2 (λy hy=>cD y (by simp[hy])) h0 hn
 ·exact tY k3 (λy hy=>cD y (by simp[hy])) h0 hn
theorem HB {ids:List Nat} {bl:List VB} {k:LK} {A:List aC} {ms:List Nat} {w0 w:World} (hg:Gl gS ids) (hl:ids.length=bl.length) (S:St ms w0 (lits ids ids bl++A) w) (h:bl[0]?=some (aG k)):w.heap[0]?=some (.cells (aj .u32 64 aT) k.tg (0,0)):=by
 have h1:=(dY hl S h).2;rw[(hg 0 0 rfl).2]at h1;have e:(ai ids (aG k).c).toArray=aj .u32 64 aT:=by kernel_rfl
 rw[e]at h1;exact h1
def vF:jq (Gh fr):=λargs bl ch K=>match args,ch with
 |[.agg [.int .i64 m,.bool o,.ew .u8 8 nc],.raw vk,.int .i64 s],g::rest=>
  (vk=.slice (g.d.k.ka 3) (g.d.k.kn 3) (g.d.k.kc 3)/\bl[0]?=some (aG g.d.k)/\(0<=s/\s<4294967296)/\(0<=m/\m<=9223372036854775807)/\(1<=g.d.k.kn 3/\g.d.k.kn 3<=64))/\
  cond (decide (4294967295<=m)) (K (.aI [.agg [.int .i64 m,.bool o,.ew .u8 8 nc],.int .i64 24]) bl (g::rest)) (K (.aI [.agg [.int .i64 (m+1),.bool true,.ew .u8 8 (aV (g.d.k.kn 3) (g.d.k.kf 3) s (m+1))],.int .i64 0]) bl (g::rest))
 |_,_=>False
theorem CJ:Sound prog gS 129 (vF (fr:=fr)):=by
 intro args ids bl ch R ms w0 w K hg hl S hc;unfold vF at hc;split at hc
 ·rename_i m o nc vk s g rest;obtain⟨⟨rfl,hr,hs,hm,hk⟩,hK⟩:=hc;have e0:ak (g::rest) R=g.F.B++ak rest R:=rfl;have S':=S;rw[e0]at S';have CK:=HA g.F S' 3 (by decide) (by omega) (by omega);have mh:=HB hg hl S hr;by_cases h:4294967295<=m
  ·rw[show decide (4294967295<=m)=true by simp[h]]at hK;have hc:=B5 (g.d.k.ka 3) (g.d.k.kn 3) (g.d.k.kc 3) (g.d.k.kf 3) s ⟨m,o,nc⟩ h hm.2 w;have e:(az ids [.agg [.int .i64 m,.bool o,.ew .u8 8 nc],.raw (.slice (g.d.k.ka 3) (g.d.k.kn 3) (g.d.k.kc 3)),.int .i64 s]).toArray=#[.agg #[.int .i64 m,.bool o,.int .u8 (nc 0),.int .u8 (nc 1),.int .u8 (nc 2),.int .u8 (nc 3),.int .u8 (nc 4),.int .u8 (nc 5),.int .u8 (nc 6),.int .u8 (nc 7)],.slice (g.d.k.ka 3) (g.d.k.kn 3) (g.d.k.kc 3),.int .i64 s]:=by kernel_rfl
   rw[e];refine hc.mono ?_;rintro v w1 ⟨rfl,kq⟩;exact⟨_,[],bl,g::rest,by kernel_rfl,by simpa using hl,by simpa using S.quiet kq,hK⟩
  ·rw[show decide (4294967295<=m)=false by simp[h]]at hK;have hc:=NG (g.d.k.ka 3) (g.d.k.kn 3) (g.d.k.kc 3) (g.d.k.kf 3) s ⟨m,o,nc⟩ hk hs ⟨hm.1,Int.not_le.1 h⟩ w mh CK;have e:(az ids [.agg [.int .i64 m,.bool o,.ew .u8 8 nc],.raw (.slice (g.d.k.ka 3) (g.d.k.kn 3) (g.d.k.kc 3)),.int .i64 s]).toArray=#[.agg #[.int .i64 m,.bool o,.int .u8 (nc 0),.int .u8 (nc 1),.int .u8 (nc 2),.int .u8 (nc 3),.int .u8 (nc 4),.int .u8 (nc 5),.int .u8 (nc 6),.int .u8 (nc 7)],.slice (g.d.k.ka 3) (g.d.k.kn 3) (g.d.k.kc 3),.int .i64 s]:=by kernel_rfl
   rw[e];refine hc.mono ?_;rintro v w1 ⟨rfl,kq⟩;exact⟨.aI [.agg [.int .i64 (m+1),.bool true,.ew .u8 8 (aV (g.d.k.kn 3) (g.d.k.kf 3) s (m+1))],.int .i64 0],[],bl,g::rest,by kernel_rfl,by simpa using hl,by simpa using S.quiet kq,hK⟩
 ·exact hc.elim
def eb (k:LK):Value:=.slice k.px k.pn k.pc
def vG (C:Sd.Crypt):jq (Gh fr):=λargs bl ch K=>match args,ch with
 |[.raw vp],g::rest=>(vp=eb g.d.k/\g.d.k.pn<=1000/\By g.d.k.pf)/\(∀m,C.take g.d.k.pn g.d.k.pf=some m->K (.aI [.agg (cC m),.int .i64 0]) bl (g::rest))/\
  (C.take g.d.k.pn g.d.k.pf=none->∀m c,c≠0->K (.aI [.agg (cC m),.int .i64 c]) bl (g::rest))
 |_,_=>False
def LH (fr:Sd.Reply->Nat×Sd.Byt) (C:Sd.Crypt):List (eG (Gh fr)):=⟨126,true,vG C⟩::⟨129,true,vF⟩::L8 fr C
def CL (s:Sd.Scene) (a b c:Sd.dX):Sd.Scene:={s with c:={s.c with doors:=r3 a b c s.c.doors,tab:=⟨s.c.tab.aF,r3 (s.c.tab.aE 0) (s.c.tab.aE 1) (s.c.tab.aE 2) s.c.tab.aE⟩}}
def Pc (d:Sd.dX):List V:=[.int .i64 d.many,.bool d.kL,.ew .u8 8 d.ae]
section
variable(C:Sd.Crypt) (k:LK) (s:Sd.Scene) (F:cz fr (b9 k s)) (Kb:SK fr k) (l:Int) (d:Sd.dX) (D:Sd.dX->Sd.Scene)
def Am (k:LK) (l:Int) (d:Sd.dX):Sd.dX:=⟨d.many+1,true,aV (k.kn 3) (k.kf 3) l (d.many+1)⟩
def UR (hD:∀e,b9 k (D e)=b9 k s) (m:Sd.dw) (c:Int):Prop:=cond (c !=0) (eu k s F/\sd C [.int .i64 l,.int .i64 13] k (du s) F λv s' F'=>aN k s Kb (.aI []) (cT k s' F'++[⟨true,⟨179,(0,0)⟩,cC m⟩]) [cB k s' F'])
 (True/\cond (!(Sd.j6 s.c.p l m.role)) (eu k s F/\dW C [.int .i64 l,.int .i64 0,.int .i64 18] k (du s) F λv s' F'=>aN k s Kb (.aI []) (cT k s' F'++[⟨true,⟨179,(0,0)⟩,cC m⟩]) [cB k s' F'])
  ((Value.slice (k.ka 3) (k.kn 3) (k.kc 3)=.slice (k.ka 3) (k.kn 3) (k.kc 3)/\some (aG k)=some (aG k)/\(0<=l/\l<4294967296)/\(0<=d.many/\d.many<=9223372036854775807)/\(1<=k.kn 3/\k.kn 3<=64))/\
    cond (decide (4294967295<=d.many)) (eu k s F/\dW C [.int .i64 l,.int .i64 0,.int .i64 24] k (du s) F λv s' F'=>aN k s Kb (.aI []) (cT k s' F'++[⟨true,⟨179,(0,0)⟩,cC m⟩,⟨true,⟨94,(0,0)⟩,Pc d⟩]) [cB k s' F'])
    (eu k (D (Am k l d)) (hD (Am k l d)▸F)/\bN [.int .i64 l,.agg [.int .i64 129,.int .i64 0,.int .i64 0,.int .i64 0,.int .i64 0,.int .i64 0,.ew .u8 8 (Am k l d).ae]] k (D (Am k l d)) (hD (Am k l d)▸F) λv s2 F2=>
     eu k s2 F2/\gT C [.int .i64 2,.int .i64 l,.int .i64 0,.int .i64 0,.int .i64 0] k (du s2) F2 λv s' F'=>aN k s Kb (.aI []) (cT k s' F'++[⟨true,⟨179,(0,0)⟩,cC m⟩,⟨true,⟨94,(0,0)⟩,Pc (Am k l d)⟩]) [cB k s' F'])))
end
def An (fr:Sd.Reply->Nat×Sd.Byt) (C:Sd.Crypt) (l:Int) (i:Nat) (D:Sd.Scene->Sd.dX->Sd.Scene) (hD:∀k s e,b9 k (D s e)=b9 k s):Prop:=∀(k:LK) (s:Sd.Scene) (F:cz fr (b9 k s)) (Kb:SK fr k),c_ (dQ prog gS (LH fr C)) 90 85 [.ptr 2 0,.int .i64 l,.raw (eb k)] (cT k s F) [cB k s F] (aN k s Kb)
 =((eb k=eb k/\k.pn<=1000/\By k.pf)/\(∀m,C.take k.pn k.pf=some m->UR C k s F Kb l (s.c.doors i) (D s) (hD k s) m 0)/\(C.take k.pn k.pf=none->∀m c,c≠0->UR C k s F Kb l (s.c.doors i) (D s) (hD k s) m c))
theorem US (fr:Sd.Reply->Nat×Sd.Byt) (C:Sd.Crypt):An fr C 1 0 (λs e=>CL s e (s.c.doors 1) (s.c.doors 2)) (λ_ _ _=>rfl):=λk s F Kb=>by kernel_rfl
theorem UT (fr:Sd.Reply->Nat×Sd.Byt) (C:Sd.Crypt):An fr C 2 1 (λs e=>CL s (s.c.doors 0) e (s.c.doors 2)) (λ_ _ _=>rfl):=λk s F Kb=>by kernel_rfl
theorem UU (fr:Sd.Reply->Nat×Sd.Byt) (C:Sd.Crypt):An fr C 3 2 (λs e=>CL s (s.c.doors 0) (s.c.doors 1) e) (λ_ _ _=>rfl):=λk s F Kb=>by kernel_rfl
def sh (s:Sd.Scene) (i:Nat) (e:Sd.dX):Sd.Scene:={s with c:={s.c with doors:=λj=>if j=i then e else s.c.doors j}}
theorem EN {s:Sd.Scene} {a b c:Sd.dX} {i:Nat} {e:Sd.dX} (hi:i<3) (ha:a=if 0=i then e else s.c.doors 0) (hb:b=if 1=i then e else s.c.doors 1) (hc:c=if 2=i then e else s.c.doors 2):CL s a b c=sh s i e:=by
 unfold CL sh;rw[tR];have h:r3 a b c s.c.doors=λj=>if j=i then e else s.c.doors j:=by
  funext j
  match j with
  |0=>exact ha
  |1=>exact hb
  |2=>exact hc
  |j+3=>exact(if_neg (by omega)).symm
 rw[h]
end Go.Proofs.YtlkpikfddnjilaaGreatDoor
namespace Go.Proofs.YtlkpikfddnjilaaGreatDoor
open Go Go.RowKit Go.BigFrame Sx
def aa3 (n m:Int):Int:=(Int.tmod n m+m)%m
theorem aeP (n:Int):bits .and .i64 n 14=n%16-n%2:=by
 have h15:=ee .i64 n 15 16 4 (by decide) (by decide) (by decide);have h1:=ee .i64 n 1 2 1 (by decide) (by decide) (by decide);unfold bits at*;simp only[BitVec.toNat_and]at*;have hk:∀m:Nat,m&&&14=(m&&&15)-(m&&&1):=by
  intro m;have e1:m&&&15=m%16:=Nat.and_two_pow_sub_one_eq_mod m 4;have e2:m&&&1=m%2:=Nat.and_two_pow_sub_one_eq_mod m 1;have e3:m&&&14=(m%16)&&&14:=by
   rw[<-e1,Nat.and_assoc];rfl
  have e4:m%2=(m%16)%2:=by omega
  rw[e1,e2,e3,e4];have h:m%16<16:=Nat.mod_lt _ (by omega);generalize m%16=k at h
  match k,h with
  |0,_=>rfl|1,_=>rfl|2,_=>rfl|3,_=>rfl|4,_=>rfl|5,_=>rfl|6,_=>rfl|7,_=>rfl
  |8,_=>rfl|9,_=>rfl|10,_=>rfl|11,_=>rfl|12,_=>rfl|13,_=>rfl|14,_=>rfl|15,_=>rfl
  |k+16,h=>exact absurd h (by omega)
 have c14:(BitVec.ofInt i64.bits 14).toNat=14:=by decide
 have c15:(BitVec.ofInt i64.bits 15).toNat=15:=by decide
 have c1:(BitVec.ofInt i64.bits 1).toNat=1:=by decide
 rw[c14];rw[c15]at h15;rw[c1]at h1;rw[hk];generalize (BitVec.ofInt i64.bits n).toNat=m at*;have aiY:m&&&15<16:=Nat.lt_of_le_of_lt Nat.and_le_right (by omega);have um:m&&&1<2:=Nat.lt_of_le_of_lt Nat.and_le_right (by omega);have w15:i64.wrap ((m&&&15:Nat):Int)=((m&&&15:Nat):Int):=by rw[IntKind.wrap_i64];omega
 have w1:i64.wrap ((m&&&1:Nat):Int)=((m&&&1:Nat):Int):=by rw[IntKind.wrap_i64];omega
 rw[w15]at h15;rw[w1]at h1;rw[IntKind.wrap_i64];omega
def Sw1 (k a b c:Int):Prop:=(k=0/\a=1/\b=2/\c=3)\/(k=1/\a=2/\b=1/\c=3)\/(k=2/\a=3/\b=2/\c=1)
def Pd (q:Nat->Int) (o1 o2 o3:Int):Prop:=∃b c,Sw1 (aa3 (q 1) 3) o1 b c/\((aa3 (q 2) 2=0/\o2=b/\o3=c)\/(aa3 (q 2) 2=1/\o2=c/\o3=b))
theorem Pd.perm {q:Nat->Int} {o1 o2 o3:Int} (h:Pd q o1 o2 o3):(o1=1/\o2=2/\o3=3)\/(o1=1/\o2=3/\o3=2)\/(o1=2/\o2=1/\o3=3)\/(o1=2/\o2=3/\o3=1)\/(o1=3/\o2=1/\o3=2)\/(o1=3/\o2=2/\o3=1):=by
 obtain⟨b,c,h1,h2⟩:=h;rcases h1 with⟨_,rfl,rfl,rfl⟩|⟨_,rfl,rfl,rfl⟩|⟨_,rfl,rfl,rfl⟩<;>rcases h2 with⟨_,rfl,rfl⟩|⟨_,rfl,rfl⟩<;>simp
theorem Pd.one {q:Nat->Int} {a b c a' b' c':Int} (h:Pd q a b c) (k:Pd q a' b' c'):a=a'/\b=b'/\c=c':=by
 obtain⟨_,_,h1,h2⟩:=h;obtain⟨_,_,k1,k2⟩:=k;rcases h1 with⟨e,rfl,rfl,rfl⟩|⟨e,rfl,rfl,rfl⟩|⟨e,rfl,rfl,rfl⟩<;>rcases k1 with⟨f,rfl,rfl,rfl⟩|⟨f,rfl,rfl,rfl⟩|⟨f,rfl,rfl,rfl⟩<;>first|(exfalso;rw[e]at f;revert f;decide)|(rcases h2 with⟨e2,rfl,rfl⟩|⟨e2,rfl,rfl⟩<;>rcases k2 with⟨f2,rfl,rfl⟩|⟨f2,rfl,rfl⟩<;>first|(exfalso;rw[e2]at f2;revert f2;decide)|exact⟨rfl,rfl,rfl⟩)
def Pe (ms:List Nat) (w0:World) (a:Option Addr) (n c:Nat) (kb:Nat->Int):Prop:=n<=c/\(a=none->n=0/\c=0)/\∀ad,a=some ad->ad.block∉ms/\∀j,j<n->w0.cell? (ad.add j)=some (.int .u8 (kb j))
theorem aeQ (x:Int):0<=u8.wrap x/\u8.wrap x<=255:=by rw[IntKind.wrap_u8];omega
theorem HC (H:Nat->Int):By (BJ H):=λj=>by unfold BJ;split<;>exact aeQ _
theorem UW (n:Nat) (f:Nat->Int):By (jU n f):=by
 unfold jU;cases Nat.ble n 55
 ·exact HC _
 ·exact HC _
theorem Ka (kn:Nat) (kf:Nat->Int) (s n:Int):By (aV kn kf s n):=by unfold aV gB;exact UW _ _
end Go.Proofs.YtlkpikfddnjilaaGreatDoor
namespace Go.Proofs.YtlkpikfddnjilaaGreatDoor
open Go Go.RowKit Go.BigFrame Sx Vx
variable{fr:Sd.Reply->Nat×Sd.Byt}
theorem Fv (C:Sd.Crypt):fC (vG (fr:=fr) C):=by
 intro args bl ch K h;unfold vG at h⊢;split at h
 ·exact⟨h.1,λm e=>⟨h.2.1 m e,[],by simp⟩,λe m c hc=>⟨h.2.2 e m c hc,[],by simp⟩⟩
 ·exact h.elim
theorem CM:fC (vF (fr:=fr)):=by
 intro args bl ch K h;unfold vF at h⊢;split at h
 ·rename_i m o nc vk s' g rest;refine⟨h.1,?_⟩;have h2:=h.2;by_cases hm:4294967295<=m
  ·rw[show decide (4294967295<=m)=true by simp[hm]]at h2⊢;exact⟨h2,[],by simp⟩
  ·rw[show decide (4294967295<=m)=false by simp[hm]]at h2⊢;exact⟨h2,[],by simp⟩
 ·exact h.elim
theorem aeR (tk:Nat->Sd.Byt->Option Sd.dw) (ht:Body (fr:=fr) 130 bN) (h1:Sound prog gS 126 (vG (fr:=fr) (aq tk))):ao prog gS (LH fr (aq tk)):=
 ao.cons ⟨h1,λ_=>Fv _⟩ (ao.cons ⟨CJ,λ_=>CM⟩ (vD tk ht))
structure aa4 (k:LK) (s:Sd.Scene) (l:Int):Prop where
 r:Rm s 8
 d:∀i,i<3->0<=(s.c.doors i).many/\(s.c.doors i).many<=9223372036854775807
 key:1<=k.kn 3/\k.kn 3<=64
 ke:s.c.p.k 3=(k.kn 3,k.kf 3)
 Fw:k.pn<=1000/\By k.pf
 l:1<=l/\l<=3
def si (C:Sd.Crypt):SM fr:=λar k s F K=>match ar with
 |[.int .i64 l,.raw vp]=>(vp=eb k/\aa4 k s l)/\∀F',K (.aI []) (s.kW C l k.pn k.pf) F'
 |_=>False
theorem Fx {C:Sd.Crypt} {s:Sd.Scene} {l:Int} {n:Nat} {f:Sd.Byt} (h:C.take n f=none):s.kW C l n f=s.dp C l 13:=by unfold Sd.Scene.kW;rw[h]
theorem Fy {C:Sd.Crypt} {s:Sd.Scene} {l:Int} {n:Nat} {f:Sd.Byt} {m:Sd.dw} (h:C.take n f=some m):s.kW C l n f=if Sd.j6 s.c.p l m.role=false then s.refuse C l 0 18 else if 4294967295<=(s.c.doors (l.toNat-1)).many then s.refuse C l 0 24 else
 ((sh s (l.toNat-1) ⟨(s.c.doors (l.toNat-1)).many+1,true,C.ae (s.c.p.k 3) l ((s.c.doors (l.toNat-1)).many+1)⟩).tell l ⟨129,0,0,0,0,0,C.ae (s.c.p.k 3) l ((s.c.doors (l.toNat-1)).many+1)⟩).record C 2 l 0 0 0:=by unfold Sd.Scene.kW;rw[h];rfl
theorem nI (tk:Nat->Sd.Byt->Option Sd.dw) {k:LK} {s:Sd.Scene} {F:cz fr (b9 k s)} {Kb:SK fr k} {l:Int} {i:Nat} {D:Sd.dX->Sd.Scene} (hD:∀e,b9 k (D e)=b9 k s) (Xy:∀e,D e=sh s i e) (hi:l.toNat-1=i) (h3:i<3) (hq:s.c.p.queue=k.most) (hP:aa4 k s l)
 (m:Sd.dw) (c:Int) (hm:(c=0/\(aq tk).take k.pn k.pf=some m)\/(c≠0/\(aq tk).take k.pn k.pf=none)) (hK:∀F',Kb (.aI []) (s.kW (aq tk) l k.pn k.pf) F'):UR (aq tk) k s F Kb l (s.c.doors i) D hD m c:=by
 subst hi;unfold UR;refine aS (λe=>⟨eZ hq,vt hP.r.r1 λF1=>aK ?_ hK F1⟩) (λe=>⟨trivial,aS (λe1=>⟨eZ hq,gy ⟨hP.r.le (by decide),Uu,⟨by decide,by decide⟩⟩ λF1=>aK ?_ hK F1⟩) (λe1=>⟨⟨rfl,rfl,⟨by have:=hP.l;omega,by have:=hP.l;omega⟩,hP.d _ h3,hP.key⟩,aS (λe2=>⟨eZ hq,gy ⟨hP.r.le (by decide),Uu,⟨by decide,by decide⟩⟩ λF1=>aK ?_ hK F1⟩) (λe2=>?_)⟩)⟩)
 ·have hc:c≠0:=lv e;rcases hm with⟨h,_⟩|⟨_,h⟩
  ·exact absurd h hc
  ·exact(Fx h).symm
 all_goals
  have hc:c=0:=by simpa using e
  have aeS:(aq tk).take k.pn k.pf=some m:=by
   rcases hm with⟨_,h⟩|⟨h,_⟩
   ·exact h
   ·exact absurd hc h
  rw[Fy aeS]at*
 ·exact(if_pos (by simpa using e1)).symm
 ·rw[if_neg (by simpa using e1),if_pos (by simpa using e2)]
 ·rw[if_neg (by simpa using e1),if_neg (by simpa using e2)]at hK;have hn:(aq tk).ae (s.c.p.k 3) l ((s.c.doors (l.toNat-1)).many+1)=aV (k.kn 3) (k.kf 3) l ((s.c.doors (l.toNat-1)).many+1):=by rw[hP.ke];rfl
  rw[hn]at hK;have key:∀(x:Sd.Scene) (hx:b9 k x=b9 k s),x=sh s (l.toNat-1) (Am k l (s.c.doors (l.toNat-1)))->(eu k x (hx▸F)/\bN [.int .i64 l,.agg [.int .i64 129,.int .i64 0,.int .i64 0,.int .i64 0,.int .i64 0,.int .i64 0,.ew .u8 8 (Am k l (s.c.doors (l.toNat-1))).ae]] k x (hx▸F) λv s2 F2=>
   eu k s2 F2/\gT (aq tk) [.int .i64 2,.int .i64 l,.int .i64 0,.int .i64 0,.int .i64 0] k (du s2) F2 λv s' F'=>aN k s Kb (.aI []) (cT k s' F'++[⟨true,⟨179,(0,0)⟩,cC m⟩,⟨true,⟨94,(0,0)⟩,Pc (Am k l (s.c.doors (l.toNat-1)))⟩]) [cB k s' F']):=by
   rintro x hx rfl;refine⟨eZ hq,⟨⟨(show Rm (sh s _ _) 8 from hP.r).le (by decide),⟨(show(129:Int)<=129/\(129:Int)<=136 by decide),⟨Uu,.inr rfl⟩,⟨(show(0:Int)<=0/\(0:Int)<=3 by decide),.inr rfl⟩,⟨z4,.inr rfl⟩,⟨z16,.inr rfl⟩,⟨z8,.inr rfl⟩,⟨Ka _ _ _ _,.inl rfl⟩⟩⟩,λF1=>⟨eZ hq,fk ?_ λF2=>aK rfl hK F2⟩⟩⟩;have:=hP.r.2;simp only[Sd.Scene.tell,sh];omega
  exact key _ (hD _) (Xy _)
theorem Fz (tk:Nat->Sd.Byt->Option Sd.dw) (ht:Body (fr:=fr) 130 bN) (h1:Sound prog gS 126 (vG (fr:=fr) (aq tk))):Body (fr:=fr) 85 (si (aq tk)):=by
 refine dG (n:=90) (aeR tk ht h1) ?_;intro ar k s F Kb h0 hq hM;unfold si at hM;split at hM
 ·rename_i l vp;have hP:=hM.1.2;have hK:=hM.2;have hv:vp=eb k:=hM.1.1;subst hv;have hl:l=1\/l=2\/l=3:=by have:=hP.l;omega
  rcases hl with rfl|rfl|rfl
  ·rw[US];exact⟨⟨rfl,hP.Fw.1,hP.Fw.2⟩,λm e=>nI tk _ (λe=>EN (i:=0) (by decide) rfl rfl rfl) rfl (by decide) hq hP m 0 (.inl ⟨rfl,e⟩) hK,λe m c hc=>nI tk _ (λe=>EN (i:=0) (by decide) rfl rfl rfl) rfl (by decide) hq hP m c (.inr ⟨hc,e⟩) hK⟩
  ·rw[UT];exact⟨⟨rfl,hP.Fw.1,hP.Fw.2⟩,λm e=>nI tk _ (λe=>EN (i:=1) (by decide) rfl rfl rfl) rfl (by decide) hq hP m 0 (.inl ⟨rfl,e⟩) hK,λe m c hc=>nI tk _ (λe=>EN (i:=1) (by decide) rfl rfl rfl) rfl (by decide) hq hP m c (.inr ⟨hc,e⟩) hK⟩
  ·rw[UU];exact⟨⟨rfl,hP.Fw.1,hP.Fw.2⟩,λm e=>nI tk _ (λe=>EN (i:=2) (by decide) rfl rfl rfl) rfl (by decide) hq hP m 0 (.inl ⟨rfl,e⟩) hK,λe m c hc=>nI tk _ (λe=>EN (i:=2) (by decide) rfl rfl rfl) rfl (by decide) hq hP m c (.inr ⟨hc,e⟩) hK⟩
 ·exact hM.elim
end Go.Proofs.YtlkpikfddnjilaaGreatDoor
