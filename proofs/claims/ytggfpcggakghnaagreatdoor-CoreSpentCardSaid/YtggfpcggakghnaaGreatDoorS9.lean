/- Part 9 of the proof. -/
import Derived.Test.YtggfpcggakghnaaGreatDoorRows
import Derived.Test.YtggfpcggakghnaaGreatDoorS8
set_option linter.all false
set_option maxRecDepth 100000
set_option maxHeartbeats 4000000
open Go.Proofs.Tryz
open Go.IntKind (u8 u16 u32 u64 i64)
namespace Go.Proofs.YtggfpcggakghnaaGreatDoor
open Go Go.RowKit Go.BigFrame Sx Vx
def Fd.num (d:Fd) (g:Nat->Int):Int:=bif d.sg then oV (pL g)else bif Nat.beq d.sz 1 then YQ g else bif Nat.beq d.sz 2 then pL g else Ka g
def Fd.set (d:Fd) (v:Int) (m:Sd.bW):Sd.bW:=match d.at_ with
 |1=>{m with seq:=v}|2=>{m with role:=v}|3=>{m with bx:=v}|4=>{m with epoch:=v}|5=>{m with mode:=v}|6=>{m with cls:=v}|7=>{m with now:=v==1}
 |8=>{m with x:=⟨v,m.x.b,m.x.c,m.x.d⟩}|9=>{m with x:=⟨m.x.a,v,m.x.c,m.x.d⟩}|10=>{m with x:=⟨m.x.a,m.x.b,v,m.x.d⟩}|11=>{m with x:=⟨m.x.a,m.x.b,m.x.c,v⟩}|_=>m
def Wc (k:Int):Option (List Fd):=
 if k=1\/k=2 then some [oS]else if k=3\/k=4\/k=8\/k=9 then some [ig]else if k=5 then some [ig,D0]else if k=6 then some [ig,rN]else if k=7 then some [ig,gf]else if k=10 then some [ig,gf,rj]
 else if k=11 then some [ig,gf,yQ,fX 0,fX 1,fX 2,fX 3]else none
def runM (n:Nat) (f:Nat->Int):List Fd->Nat->Sd.bW->Option Sd.bW
 |[],off,m=>if n-off=0 then some m else none
 |d::l,off,m=>if n-off<d.sz then none else if d.num (λj=>f (off+j))<d.low\/d.high<d.num (λj=>f (off+j))then none else runM n f l (off+d.sz) (d.set (d.num (λj=>f (off+j))) m)
def aT (n:Nat) (f:Nat->Int):Option Sd.bW:=if n=0 then none else match Wc (f 0)with
 |some l=>runM n f l 1 (Sd.aD (f 0))
 |none=>none
def tN (d:Fd):Prop:=(d.sg=true->d.sz=2)/\∀v m,j9 (cw m) d.at_ (bif d.b then .bool (v==1)else .int .i64 v)=cw (d.set v m)
theorem fG {x:Int} (h:-9223372036854775808<=x/\x<=9223372036854775807):i64.wrap x=x:=by simp[IntKind.wrap,IntKind.bits,IntKind.signed];omega
theorem By.at {f:Nat->Int} (h:By f) (o:Nat):By λj=>f (o+j):=λj=>h (o+j)
theorem J1 (d:Fd) {g:Nat->Int} (h:By g):d.val g=d.num g:=by
 have h1:=adR h;have h2:=Ri h;have h4:=adS h
 unfold Fd.val Fd.num;cases d.sg<;>cases Nat.beq d.sz 1<;>cases Nat.beq d.sz 2<;>simp only[cond_true,cond_false]<;>first|rfl|(apply fG;omega)
theorem J2 {n:Nat} {f:Nat->Int} (hf:By f) {X:V->Prop}:∀(l:List Fd) (off:Nat) (m:Sd.bW),(∀d∈l,tN d)->(∀r,runM n f l off m=some r->X (.az [.agg (cw r),.int .i64 0]))->(runM n f l off m=none->X pM)->Nf n f X l off (cw m)
 |[],off,m,_,h1,h2=>by
  unfold Nf;unfold runM at h1 h2;by_cases h:n-off=0
  ·rw[if_pos h]at h1;rw[h];exact h1 m rfl
  ·rw[if_neg h]at h2;have:Nat.beq (n-off) 0=false:=by
    cases hb:Nat.beq (n-off) 0 with
    |true=>exact absurd (Nat.eq_of_beq_eq_true hb) h
    |false=>rfl
   rw[this];exact h2 rfl
 |d::l,off,m,hd,h1,h2=>by
  unfold Nf;unfold runM at h1 h2;have hb:=hf.at off;by_cases h:n-off<d.sz
  ·rw[if_pos h]at h2;have:Nat.blt (n-off) d.sz=true:=by rw[Nat.blt_eq];exact h
   rw[this];exact h2 rfl
  ·rw[if_neg h]at h1 h2;have:Nat.blt (n-off) d.sz=false:=by
    cases hb:Nat.blt (n-off) d.sz with
    |true=>rw[Nat.blt_eq]at hb;exact absurd hb h
    |false=>rfl
   rw[this,J1 d hb];refine⟨hb,aU (λe=>?_) (λe=>aU (λe2=>?_) (λe2=>?_))⟩
   ·have e:=of_decide_eq_true e;rw[if_pos (.inl e)]at h2;exact h2 rfl
   ·have e2:=of_decide_eq_true e2;rw[if_pos (.inr e2)]at h2;exact h2 rfl
   ·have e:=of_decide_eq_false e;have e2:=of_decide_eq_false e2;have hn:¬(d.num (λj=>f (off+j))<d.low\/d.high<d.num (λj=>f (off+j))):=by omega
    rw[if_neg hn]at h1 h2;have:d.up (λj=>f (off+j)) (cw m)=cw (d.set (d.num (λj=>f (off+j))) m):=by
     unfold Fd.up;rw[J1 d hb];exact(hd d (by simp)).2 _ _
    rw[this];exact J2 hf l (off+d.sz) _ (λx hx=>hd x (by simp[hx])) h1 h2
theorem aiP {k:Int} {l:List Fd} (h:Wc k=some l):∀d∈l,tN d:=by
 have a1:tN oS:=⟨by decide,λv m=>rfl⟩;have a2:tN ig:=⟨by decide,λv m=>rfl⟩;have a3:tN D0:=⟨by decide,λv m=>rfl⟩;have a4:tN rN:=⟨by decide,λv m=>rfl⟩;have a5:tN gf:=⟨by decide,λv m=>rfl⟩;have a6:tN rj:=⟨by decide,λv m=>rfl⟩;have a7:tN yQ:=⟨by decide,λv m=>rfl⟩;have b0:tN (fX 0):=⟨by decide,λv m=>rfl⟩;have b1:tN (fX 1):=⟨by decide,λv m=>rfl⟩;have b2:tN (fX 2):=⟨by decide,λv m=>rfl⟩;have b3:tN (fX 3):=⟨by decide,λv m=>rfl⟩;unfold Wc at h
 repeat' split at h
 all_goals first|(cases h;done)|(obtain rfl:=Option.some.inj h;intro d hd;simp at hd;rcases hd with rfl|rfl|rfl|rfl|rfl|rfl|rfl<;>assumption)|(obtain rfl:=Option.some.inj h;intro d hd;simp at hd;rcases hd with rfl|rfl|rfl<;>assumption)|(obtain rfl:=Option.some.inj h;intro d hd;simp at hd;rcases hd with rfl|rfl<;>assumption)|(obtain rfl:=Option.some.inj h;intro d hd;simp at hd;subst hd;assumption)
theorem Sv {n:Nat} {f:Nat->Int} (hf:By f) (hn:n≠0) {X:V->Prop} (h1:∀r,aT n f=some r->X (.az [.agg (cw r),.int .i64 0])) (h2:aT n f=none->X pM):gI n f X:=by
 have hk:k9 f=f 0:=fG (by have:=hf 0;omega);have hm:m0 f=cw (Sd.aD (f 0)):=by unfold m0;rw[hk];rfl
 unfold gI;rw[hk,hm];unfold aT at h1 h2;rw[if_neg hn]at h1 h2;have T:∀l,Wc (f 0)=some l->Nf n f X l 1 (cw (Sd.aD (f 0))):=by
  intro l hl;rw[hl]at h1 h2;exact J2 hf l 1 _ (aiP hl) h1 h2
 have eq:∀{k:Int},(f 0==k)=true->f 0=k:=λh=>by simpa using h
 have ne:∀{k:Int},(f 0==k)=false->f 0≠k:=λh=>by simpa using h
 refine aU (λe=>T _ (by rw[eq e];rfl)) (λe1=>aU (λe=>T _ (by rw[eq e];rfl)) (λe2=>aU (λe=>T _ (by rw[eq e];rfl)) (λe3=>aU (λe=>T _ (by rw[eq e];rfl)) (λe4=>aU (λe=>T _ (by rw[eq e];rfl)) (λe5=>aU (λe=>T _ (by rw[eq e];rfl)) (λe6=>
  aU (λe=>T _ (by rw[eq e];rfl)) (λe7=>aU (λe=>T _ (by rw[eq e];rfl)) (λe8=>aU (λe=>T _ (by rw[eq e];rfl)) (λe9=>aU (λe=>T _ (by rw[eq e];rfl)) (λe10=>aU (λe c u hc=>T _ (by rw[eq e];rfl)) (λe11=>?_)))))))))))
 refine h2 ?_;have:=ne e1;have:=ne e2;have:=ne e3;have:=ne e4;have:=ne e5;have:=ne e6;have:=ne e7;have:=ne e8;have:=ne e9;have:=ne e10;have:=ne e11
 have:Wc (f 0)=none:=by unfold Wc;repeat' (rw[if_neg (by omega)])
 rw[this]
theorem aiQ (P Q:Nat->Prop) (Z:Prop) (h0:P 0=Z) (h1:P 1=Q 1) (h2:P 2=Q 2) (h3:P 3=Q 3) (h4:P 4=Q 4) (h5:P 5=Q 5) (h6:P 6=Q 6) (h7:P 7=Q 7) (h8:P 8=Q 8) (h9:P 9=Q 9) (h10:P 10=Q 10) (h11:P 11=Q 11) (h12:P 12=Q 12) (h13:P 13=Q 13) (h14:P 14=Q 14) (Zj:P 15=Q 15) (h16:P 16=Q 16) (h17:∀m,P (m+17)=Q (m+17)) (n:Nat):(n=0/\P n=Z)\/(n≠0/\P n=Q n):=by
 rcases Nat.lt_or_ge n 17 with h|h
 ·have h:n=0\/n=1\/n=2\/n=3\/n=4\/n=5\/n=6\/n=7\/n=8\/n=9\/n=10\/n=11\/n=12\/n=13\/n=14\/n=15\/n=16:=by omega
  rcases h with rfl|rfl|rfl|rfl|rfl|rfl|rfl|rfl|rfl|rfl|rfl|rfl|rfl|rfl|rfl|rfl|rfl
  ·exact .inl ⟨rfl,h0⟩
  ·exact .inr ⟨by decide,h1⟩
  ·exact .inr ⟨by decide,h2⟩
  ·exact .inr ⟨by decide,h3⟩
  ·exact .inr ⟨by decide,h4⟩
  ·exact .inr ⟨by decide,h5⟩
  ·exact .inr ⟨by decide,h6⟩
  ·exact .inr ⟨by decide,h7⟩
  ·exact .inr ⟨by decide,h8⟩
  ·exact .inr ⟨by decide,h9⟩
  ·exact .inr ⟨by decide,h10⟩
  ·exact .inr ⟨by decide,h11⟩
  ·exact .inr ⟨by decide,h12⟩
  ·exact .inr ⟨by decide,h13⟩
  ·exact .inr ⟨by decide,h14⟩
  ·exact .inr ⟨by decide,Zj⟩
  ·exact .inr ⟨by decide,h16⟩
 ·obtain⟨m,rfl⟩:∃m,n=m+17:=⟨n-17,by omega⟩;exact .inr ⟨by omega,h17 m⟩
theorem YM (e:Nat) {f:Nat->Int} (hf:By f) (t:List Value) {X:V->Prop} (n:Nat) (h1:∀r,aT n f=some r->X (.az [.agg (cw r),.int .i64 0])) (h2:aT n f=none->X pM):kL n e f t X:=by
 rcases aiQ (λn=>kL n e f t X) (λn=>gI n f X) (X pM) (alY e f t X) (alZ e f t X) (al0 e f t X) (al1 e f t X) (al2 e f t X) (al3 e f t X) (al4 e f t X) (al5 e f t X) (al6 e f t X) (al7 e f t X) (aiH e f t X) (aiI e f t X) (aiJ e f t X) (aiK e f t X) (aiL e f t X) (aiM e f t X) (aiN e f t X) (aiO e f t X) n with⟨h0,h⟩|⟨h0,h⟩
 ·exact Eq.mpr h (h2 (by rw[h0];rfl))
 ·exact Eq.mpr h (Sv hf h0 h1 h2)
def Hu (n:Nat) (f:Nat->Int):V:=match aT n f with
 |some r=>.az [.agg (cw r),.int .i64 0]
 |none=>pM
theorem BJ:ai prog Cx Y1:=ai.cons ⟨BI Cx,λe=>by cases e⟩ (f_ (aZ.cons (Nd Cx) (aZ.cons (He Cx) aZ.nil)))
theorem YN (b n c:Nat) (f:Nat->Int) (t:List Value) (hf:By f) (hc:n<=c) (w:World) (hB:w.heap[b]?=some (.cells ((List.range n).map (λj=>Value.int .u8 (f j))++t).toArray 5 (0,0))):
 aj prog 143 #[.slice (some ⟨b,0,none⟩) n c] w λv w1=>v=den [] (Hu n f)/\Ch [] w w1:=by
 obtain⟨e,rfl⟩:∃e,c=e+n:=⟨c-n,by omega⟩;have fU:kL n e f t (λv=>v=Hu n f):=YM e hf t n (λr h=>by unfold Hu;rw[h]) (λh=>by unfold Hu;rw[h]);have S0:=St.given (w:=w) [(b,.cells ((List.range n).map (λj=>Value.int .u8 (f j))++t).toArray 5 (0,0))] (all_cons hB all_nil);have S1:St [] w (lits [b] [b] [⟨false,⟨5,(0,0)⟩,[.dC .u8 n f,.rest t]⟩]++af ([]:List Empty) []) w:=by
  simpa[lits,aE,ab,cl,af]using S0
 refine(bw BJ.TS BJ.QS 90 (C:=OL prog Cx Y1) (args:=[.sl 0 0 n (e+n)]) (λg i h=>by cases h) rfl S1 fU).mono ?_;rintro v w' ⟨x,more,bl',ch',rfl,D8,S2,rfl⟩;refine⟨?_,S2.ch⟩;have hw:fK 0 (Hu n f)=true:=by unfold Hu;split<;>rfl
 have:=bC (ids:=[]) (more:=[b]++more) (Hu n f) hw;simpa using this
variable{fr:Sd.Reply->Nat×Sd.Byt}
def rH (s:Sd.Scene) (E:Sd.Tab):Sd.Scene:={s with c:={s.c with doors:=r3 (s.c.doors 0) (s.c.doors 1) (s.c.doors 2) s.c.doors,tab:=⟨E.aA,r3 (E.ay 0) (E.ay 1) (E.ay 2) s.c.tab.ay⟩}}
def dZ (s:Sd.Scene) (t:Sd.Tab):Sd.Scene:={s with c:={s.c with tab:=t}}
theorem rI {s:Sd.Scene} {E t:Sd.Tab} (h1:E.aA=t.aA) (h2:∀j,j<3->E.ay j=t.ay j) (h3:∀j,t.ay (j+3)=s.c.tab.ay (j+3)):rH s E=dZ s t:=by
 unfold rH dZ;rw[vn,h1];have e:r3 (E.ay 0) (E.ay 1) (E.ay 2) s.c.tab.ay=t.ay:=by
  funext j
  match j with
  |0=>exact h2 0 (by decide)
  |1=>exact h2 1 (by decide)
  |2=>exact h2 2 (by decide)
  |j+3=>exact(h3 j).symm
 rw[e]
theorem Sw (s:Sd.Scene) (l:Int):rH s ((dw s.c.tab).end_ l)=dZ s (s.c.tab.end_ l):=by
 have key:∀l:Int,l=1\/l=2\/l=3->(s.c.tab.cZ l=true)->rH s ((dw s.c.tab).dT (l.toNat-1) .zero)=dZ s (s.c.tab.dT (l.toNat-1) .zero):=by
  intro l hl tD;refine rI rfl ?_ ?_
  ·intro j hj;have:j=0\/j=1\/j=2:=by omega
   rcases hl with rfl|rfl|rfl<;>rcases this with rfl|rfl|rfl<;>rfl
  ·intro j;rcases hl with rfl|rfl|rfl<;>rfl
 unfold Sd.Tab.end_;rw[w9];by_cases h:s.c.tab.cZ l=true
 ·rw[if_pos h,if_pos h];refine key l ?_ h;unfold Sd.Tab.cZ at h;simp only[Bool.and_eq_true,decide_eq_true_eq]at h;omega
 ·rw[if_neg h,if_neg h];refine rI rfl ?_ (λj=>rfl);intro j hj;have:j=0\/j=1\/j=2:=by omega
  rcases this with rfl|rfl|rfl<;>rfl
section
variable(C:Sd.Crypt) (k:LK) (s:Sd.Scene) (F:bN fr (bA k s)) (Kb:SK fr k)
theorem aeL (l:Int) (m:Sd.bW):cJ (dR prog gS (L5 fr C)) 60 153 [.ptr 2 0,.int .i64 l,.agg (cw m)] (cS k s F) [cB k s F] (aO k s Kb)
 =(True/\ez k s F/\jY C [.int .i64 l] k (rH s ((dw s.c.tab).end_ l)) F λv s2 F2=>ez k s2 F2/\hU C [.int .i64 4,.int .i64 l,.int .i64 m.seq,.int .i64 0,.int .i64 0] k (dv s2) F2 λv s3 F3=>
  ez k s3 F3/\jq [.int .i64 l,.int .i64 m.seq] k (dv s3) F3 λv s' F'=>aO k s Kb (.az []) (cS k s' F'++[⟨true,⟨66,(0,0)⟩,cw m⟩]) [cB k s' F']):=by kernel_rfl
abbrev gJ (s:Sd.Scene) (l:Int) (m:Sd.bW):Int:=Sd.fM s.c.p s.c.t l ((dw s.c.tab).role l) s.c.mode m
def aeM (s:Sd.Scene) (l:Int) (m:Sd.bW):Sd.Scene:={s with c:={s.c with mode:=m.mode,bj:=⟨1,l,m.seq⟩}}
def xf (s:Sd.Scene) (c:Int) (x:Sd.X4) (b:Sd.Label):Sd.Scene:={s with c:={s.c with pt:=s.c.pt.set s.c.p c x b}}
theorem Hv (l:Int) (m:Sd.bW):cJ (dR prog gS (L5 fr C)) 60 159 [.ptr 2 0,.int .i64 l,.agg (cw m)] (cS k s F) [cB k s F] (aO k s Kb)
 =(True/\((m.kind=10\/m.kind=11)/\(iA k).c=(iA k).c)/\cond (gJ s l m !=0)
  (ez k s F/\rp C [.int .i64 l,.int .i64 m.seq,.int .i64 (gJ s l m)] k (dv s) F λv s' F'=>aO k s Kb (.az []) (cS k s' F'++[⟨true,⟨66,(0,0)⟩,cw m⟩]) [cB k s' F'])
  (cond (m.kind==10)
   (ez k (aeM s l m) F/\hU C [.int .i64 6,.int .i64 l,.int .i64 m.seq,.int .i64 0,.int .i64 0] k (dv (aeM s l m)) F λv s3 F3=>ez k s3 F3/\jq [.int .i64 l,.int .i64 m.seq] k (dv s3) F3 λv s' F'=>aO k s Kb (.az []) (cS k s' F'++[⟨true,⟨66,(0,0)⟩,cw m⟩,⟨true,⟨44,(0,0)⟩,oF ⟨1,l,m.seq⟩⟩]) [cB k s' F'])
   (Sd.cK s.c.p/\ez k (xf s m.cls m.x ⟨1,l,m.seq⟩) F/\hU C [.int .i64 6,.int .i64 l,.int .i64 m.seq,.int .i64 0,.int .i64 0] k (dv (xf s m.cls m.x ⟨1,l,m.seq⟩)) F λv s3 F3=>ez k s3 F3/\jq [.int .i64 l,.int .i64 m.seq] k (dv s3) F3 λv s' F'=>aO k s Kb (.az []) (cS k s' F'++[⟨true,⟨66,(0,0)⟩,cw m⟩,⟨true,⟨44,(0,0)⟩,oF ⟨1,l,m.seq⟩⟩]) [cB k s' F']))):=by kernel_rfl
theorem YO:cJ (dR prog gS (L5 fr C)) 60 81 [.ptr 2 0] (cS k s F) [cB k s F] (aO k s Kb)
 =((vq k=vq k/\db s.c.t.epoch)/\∀B (hB:QS k.bq k.most (Sd.dy s.c.t s.c.q 0).2.2 B),
  cond ((Sd.dy s.c.t s.c.q 0).2.1!=0) (ez k (bH s (Sd.dy s.c.t s.c.q 0).2.2) (F.bH (Sd.dy s.c.t s.c.q 0).2.2 B hB)/\hU C [.int .i64 7,.int .i64 0,.int .i64 s.c.samples,.int .i64 (Sd.dy s.c.t s.c.q 0).2.1,.int .i64 0] k (dv (bH s (Sd.dy s.c.t s.c.q 0).2.2)) (F.bH (Sd.dy s.c.t s.c.q 0).2.2 B hB) λv s' F'=>aO k s Kb (.az []) (cS k s' F'++[⟨true,⟨95,(0,0)⟩,cI (Sd.dy s.c.t s.c.q 0).1⟩]) [cB k s' F'])
  (ez k (bH s (Sd.dy s.c.t s.c.q 0).2.2) (F.bH (Sd.dy s.c.t s.c.q 0).2.2 B hB)/\lg C [.agg (cI (Sd.dy s.c.t s.c.q 0).1),.int .i64 2,.int .i64 s.c.samples] k (dv (bH s (Sd.dy s.c.t s.c.q 0).2.2)) (F.bH (Sd.dy s.c.t s.c.q 0).2.2 B hB) λv s' F'=>aO k s Kb (.az []) (cS k s' F'++[⟨true,⟨95,(0,0)⟩,cI (Sd.dy s.c.t s.c.q 0).1⟩]) [cB k s' F'])):=by kernel_rfl
theorem Ei:cJ (dR prog gS (L5 fr C)) 60 83 [.ptr 2 0] (cS k s F) [cB k s F] (aO k s Kb)
 =(db s.c.t.epoch/\cond ((s.c.t.bz 0).2!=0) (ez k s F/\hU C [.int .i64 7,.int .i64 0,.int .i64 s.c.samples,.int .i64 (s.c.t.bz 0).2,.int .i64 0] k (dv s) F λv s' F'=>aO k s Kb (.az []) (cS k s' F'++[⟨true,⟨95,(0,0)⟩,cI (s.c.t.bz 0).1⟩]) [cB k s' F'])
  (ez k s F/\lg C [.agg (cI (s.c.t.bz 0).1),.int .i64 4,.int .i64 s.c.samples] k (dv s) F λv s' F'=>aO k s Kb (.az []) (cS k s' F'++[⟨true,⟨95,(0,0)⟩,cI (s.c.t.bz 0).1⟩]) [cB k s' F'])):=by kernel_rfl
def NA (s:Sd.Scene):Sd.bW:=⟨11,0,0,0,s.c.t.epoch,0,1,false,⟨0,0,0,0⟩⟩
theorem aeN (x:Sd.dS):cJ (dR prog gS (L5 fr C)) 60 82 [.ptr 2 0,.agg (ri x)] (cS k s F) [cB k s F] (aO k s Kb)
 =((((11:Int)=10\/(11:Int)=11)/\(iA k).c=(iA k).c)/\cond (Sd.fM s.c.p s.c.t 0 0 s.c.mode (NA s)!=0)
  (ez k s F/\hU C [.int .i64 7,.int .i64 0,.int .i64 s.c.samples,.int .i64 (Sd.fM s.c.p s.c.t 0 0 s.c.mode (NA s)),.int .i64 0] k (dv s) F λv s' F'=>aO k s Kb (.az []) (cS k s' F'++[⟨true,⟨72,(0,0)⟩,ri x⟩,⟨true,⟨66,(0,0)⟩,cw (NA s)⟩]) [cB k s' F'])
  (Sd.cK s.c.p/\ez k (xf s 1 x.x ⟨1,0,s.c.samples⟩) F/\hU C [.int .i64 6,.int .i64 0,.int .i64 s.c.samples,.int .i64 0,.int .i64 0] k (dv (xf s 1 x.x ⟨1,0,s.c.samples⟩)) F λv s' F'=>aO k s Kb (.az []) (cS k s' F'++[⟨true,⟨72,(0,0)⟩,ri x⟩,⟨true,⟨66,(0,0)⟩,cw (NA s)⟩,⟨true,⟨44,(0,0)⟩,oF ⟨1,0,s.c.samples⟩⟩]) [cB k s' F'])):=by kernel_rfl
end
theorem xg (C:Sd.Crypt) (s:Sd.Scene) (l:Int):s.leave C l=if(s.c.t.drop l).2=false then qd s l else((fQ (qd s l) (s.c.t.drop l).1).gone (s.c.t.drop l).1.holder l 16).record C 12 l 0 16 0:=rfl
theorem rJ (C:Sd.Crypt) (s:Sd.Scene) (l:Int):(s.leave C l).c.p=s.c.p:=by
 rw[xg];split
 ·rfl
 ·show(Sd.Scene.gone _ _ _ _).c.p=_;rw[gone_c];rfl
theorem Rm.leave {C:Sd.Crypt} {s:Sd.Scene} {l:Int} {m:Nat} (h:Rm s (m+2)):Rm (s.leave C l) m:=by
 rw[xg];have h1:Rm (qd s l) (m+2):=h;split
 ·exact h1.le (by omega)
 ·have h2:Rm (fQ (qd s l) (s.c.t.drop l).1) (m+2):=h;exact(h2.gone).rec
theorem YP (p:Sd.Pol) (t:Sd.Tok) (a r mo:Int) (m:Sd.bW):N8 (Sd.fM p t a r mo m):=by have:=Sd.pJ p t a r mo m;exact⟨by omega,by omega⟩
def Sz (C:Sd.Crypt):SM fr:=λar k s F K=>match ar with
 |[.int .i64 l,.agg ml]=>(match DU ml with
  |some m=>(Sy s l m/\(m.kind=10\/m.kind=11))/\∀F',K (.az []) (s.command C l m) F'
  |none=>False)
 |_=>False
def xi (C:Sd.Crypt) (s:Sd.Scene):Sd.Scene:=if(Sd.dy s.c.t s.c.q 0).2.1≠0 then s.record C 7 0 s.c.samples (Sd.dy s.c.t s.c.q 0).2.1 0 else(bH s (Sd.dy s.c.t s.c.q 0).2.2).goes C (Sd.dy s.c.t s.c.q 0).1 2 s.c.samples
def xk (C:Sd.Crypt) (s:Sd.Scene):Sd.Scene:=if(s.c.t.bz 0).2≠0 then s.record C 7 0 s.c.samples (s.c.t.bz 0).2 0 else s.goes C (s.c.t.bz 0).1 4 s.c.samples
def Hw (C:Sd.Crypt) (s:Sd.Scene) (x:Sd.X4):Sd.Scene:=if Sd.fM s.c.p s.c.t 0 0 s.c.mode (NA s)≠0 then s.record C 7 0 s.c.samples (Sd.fM s.c.p s.c.t 0 0 s.c.mode (NA s)) 0 else(xf s 1 x ⟨1,0,s.c.samples⟩).record C 6 0 s.c.samples 0 0
structure St0 (s:Sd.Scene):Prop where
 r:Rm s 8
 p:Sd.cK s.c.p
 t:TB s.c.t
def V2 (act:Sd.Scene->Sd.Scene):SM fr:=λar k s F K=>match ar with
 |[]=>St0 s/\∀F',K (.az []) (act s) F'
 |_=>False
def mSx (act:Sd.Scene->Sd.dS->Sd.Scene):SM fr:=λar k s F K=>match ar with
 |[.agg xl]=>(match M3 xl with
  |some x=>St0 s/\∀F',K (.az []) (act s x) F'
  |none=>False)
 |_=>False
section
variable(tk:Nat->Sd.Byt->Option Sd.bW) (ht:Body (fr:=fr) 147 bV)
include tk ht
theorem SA:Body (fr:=fr) 153 (jn λs l m=>s.En (ah tk) l m):=by
 refine jZ (tk:=tk) (n:=60) (zE tk ht) ?_;intro l m k s F Kb hq hS hK;have h1:Rm (dZ s (s.c.tab.end_ l)) 8:=hS.r;rw[aeL];refine⟨trivial,eY hq,H7 (M:=λs F=>jY (ah tk) [.int .i64 l] k s F _) (Sw s l) F ⟨⟨h1.le (by decide),by have:=hS.l1;omega,by have:=hS.l3;omega⟩,λF2=>⟨eY ?_,fD (h1.leave).r1 λF3=>⟨eY ?_,iH ⟨((h1.leave).rec).le (by decide),hS.n⟩ λF4=>aM rfl hK F4 (hp:=?_)⟩⟩⟩⟩
 ·rw[rJ];exact hq
 ·show(Sd.Scene.leave _ _ _).c.p.queue=_;rw[rJ];exact hq
 ·show(Sd.Scene.leave _ _ _).c.p=_;rw[rJ]
theorem BK:Body (fr:=fr) 159 (Sz (ah tk)):=by
 refine dJ (n:=60) (zE tk ht) ?_;intro ar k s F Kb h0 hq hM;unfold Sz at hM;split at hM
 ·rename_i l ml;split at hM
  ·rename_i m hm;obtain rfl:=n8 hm;have hS:=hM.1.1;have hk:=hM.1.2;have hK:=hM.2;have hj:gJ s l m=Sd.fM s.c.p s.c.t l (s.c.tab.role l) s.c.mode m:=by rw[gJ,aew]
   have hb:=YP s.c.p s.c.t l (s.c.tab.role l) s.c.mode m;have h1:Rm (aeM s l m) 8:=hS.r;have h2:Rm (xf s m.cls m.x ⟨1,l,m.seq⟩) 8:=hS.r;rw[Hv,hj];refine⟨trivial,⟨hk,rfl⟩,aU (λe=>⟨eY hq,gL ⟨hS.r.le (by decide),hS.n,hb⟩ λF1=>aM (if_pos (lh e)).symm hK F1⟩) (λe=>aU (λe2=>?_) (λe2=>?_))⟩
   ·refine⟨eY hq,fD h1.r1 λF2=>⟨eY hq,iH ⟨h1.rec.le (by decide),hS.n⟩ λF3=>aM ?_ hK F3⟩⟩;have e3:m.kind=10:=by simpa using e2
    refine Eq.trans ?_ (if_neg (nA e)).symm;rw[if_pos e3];rfl
   ·refine⟨hS.i.p,eY hq,fD h2.r1 λF2=>⟨eY hq,iH ⟨h2.rec.le (by decide),hS.n⟩ λF3=>aM ?_ hK F3⟩⟩;have e3:¬m.kind=10:=by simpa using e2
    refine Eq.trans ?_ (if_neg (nA e)).symm;rw[if_neg e3];rfl
  ·exact hM.elim
 ·exact hM.elim
theorem NB:Body (fr:=fr) 81 (V2 (xi (ah tk))):=by
 refine dJ (n:=60) (zE tk ht) ?_;intro ar k s F Kb h0 hq hM;unfold V2 at hM;split at hM
 ·have hS:=hM.1;have hK:=hM.2;have hb:=abD hS.t s.c.q 0;have h1:Rm (bH s (Sd.dy s.c.t s.c.q 0).2.2) 8:=hS.r;rw[YO];refine⟨⟨rfl,hS.t.b⟩,λB hB=>aU (λe=>⟨eY hq,fD h1.r1 λF1=>aM ?_ hK F1⟩) (λe=>⟨eY hq,l9 ⟨h1.le (by decide),hb.1.h,hb.1.e⟩ λF2=>aM (if_neg (nA e)).symm hK F2 (hp:=fj _ _ _ _ _)⟩)⟩;rw[n_ (abE (lh e))];exact(if_pos (lh e)).symm
 ·exact hM.elim
theorem yR:Body (fr:=fr) 83 (V2 (xk (ah tk))):=by
 refine dJ (n:=60) (zE tk ht) ?_;intro ar k s F Kb h0 hq hM;unfold V2 at hM;split at hM
 ·have hS:=hM.1;have hK:=hM.2;have hb:=l_ hS.t 0;rw[Ei];exact⟨hS.t.b,aU (λe=>⟨eY hq,fD hS.r.r1 λF1=>aM (if_pos (lh e)).symm hK F1⟩) (λe=>⟨eY hq,l9 ⟨hS.r.le (by decide),hb.1.h,hb.1.e⟩ λF2=>aM (if_neg (nA e)).symm hK F2 (hp:=fj _ _ _ _ _)⟩)⟩
 ·exact hM.elim
theorem SB:Body (fr:=fr) 82 (mSx λs x=>Hw (ah tk) s x.x):=by
 refine dJ (n:=60) (zE tk ht) ?_;intro ar k s F Kb h0 hq hM;unfold mSx at hM;split at hM
 ·rename_i xl;split at hM
  ·rename_i x hx;obtain rfl:=vi hx;have hS:=hM.1;have hK:=hM.2;have h2:Rm (xf s 1 x.x ⟨1,0,s.c.samples⟩) 8:=hS.r;rw[aeN];exact⟨⟨.inr rfl,rfl⟩,aU (λe=>⟨eY hq,fD hS.r.r1 λF1=>aM (if_pos (lh e)).symm hK F1⟩) (λe=>⟨hS.p,eY hq,fD h2.r1 λF2=>aM (if_neg (nA e)).symm hK F2⟩)⟩
  ·exact hM.elim
 ·exact hM.elim
end
def L6 (fr:Sd.Reply->Nat×Sd.Byt) (C:Sd.Crypt):List (dI (Gh fr)):=⟨81,false,pP (V2 (xi C))⟩::⟨83,false,pP (V2 (xk C))⟩::⟨82,false,pP (mSx λs x=>Hw C s x.x)⟩::L5 fr C
theorem abG (tk:Nat->Sd.Byt->Option Sd.bW) (ht:Body (fr:=fr) 147 bV):ai prog gS (L6 fr (ah tk)):=
 ai.cons (c_ (NB tk ht)) (ai.cons (c_ (yR tk ht)) (ai.cons (c_ (SB tk ht)) (zE tk ht)))
def KT (s:Sd.Scene) (n:Int):Sd.Scene:={s with c:={s.c with beyond:=n}}
def G1 (s:Sd.Scene) (x:Sd.dS):Sd.Scene:={s with c:={s.c with samples:=Sd.sat s.c.samples 4294967295,beyond:=(Sd.kS s.c.p s.c.beyond x).1}}
def aa0 (s:Sd.Scene):Sd.Tab:={dw s.c.tab with aA:=(true,.start s.c.p.bh)}
def yx (s:Sd.Scene) (x:Sd.dS):Sd.Scene:=dZ (G1 s x) (s.c.tab.dU s.c.p)
section
variable(C:Sd.Crypt) (k:LK) (s:Sd.Scene) (F:bN fr (bA k s)) (Kb:SK fr k)
def aa1 (x:Sd.dS):Prop:=cond (s.c.t.holder==0)
 (ez k (G1 s x) F/\mSx (λs x=>Hw C s x.x) [.agg (ri x)] k (rH (G1 s x) (aa0 s)) F λv s' F'=>aO k s Kb (.az []) (cS k s' F'++[⟨true,⟨72,(0,0)⟩,ri x⟩]) [cB k s' F'])
 (cond (Sd.kS s.c.p s.c.beyond x).2 (ez k (G1 s x) F/\V2 (xk C) [] k (rH (G1 s x) (aa0 s)) F λv s' F'=>aO k s Kb (.az []) (cS k s' F'++[⟨true,⟨72,(0,0)⟩,ri x⟩]) [cB k s' F'])
  (aO k s Kb (.az []) (cS k (yx s x) F++[⟨true,⟨72,(0,0)⟩,ri x⟩]) [cB k (yx s x) F]))
theorem LQ (x:Sd.dS):cJ (dR prog gS (L6 fr C)) 60 50 [.ptr 2 0,.agg (ri x)] (cS k s F) [cB k s F] (aO k s Kb)
 =cond (!x.valid) (aO k s Kb (.az []) (cS k (KT s 0) F++[⟨true,⟨72,(0,0)⟩,ri x⟩]) [cB k (KT s 0) F])
  ((db s.c.samples/\db 4294967295)/\(0<=s.c.p.bh/\s.c.p.bh<=1000)/\(Sd.cK s.c.p/\db s.c.beyond)/\
    cond (s.c.t.holder==0) (cond x.FQ (ez k (G1 s x) F/\V2 (xi C) [] k (rH (G1 s x) (aa0 s)) F λv s' F'=>aO k s Kb (.az []) (cS k s' F'++[⟨true,⟨72,(0,0)⟩,ri x⟩]) [cB k s' F']) (aa1 C k s F Kb x)) (aa1 C k s F Kb x)):=by kernel_rfl
end
theorem lb (s:Sd.Scene) (x:Sd.dS):rH (G1 s x) (aa0 s)=yx s x:=by
 refine rI rfl ?_ (λj=>rfl);intro j hj;have:j=0\/j=1\/j=2:=by omega
 rcases this with rfl|rfl|rfl<;>rfl
def SC (C:Sd.Crypt):SM fr:=λar k s F K=>match ar with
 |[.agg xl]=>(match M3 xl with
  |some x=>(St0 s/\db s.c.samples/\db s.c.beyond)/\∀F',K (.az []) (s.dU C x) F'
  |none=>False)
 |_=>False
section
variable{k:LK} {s:Sd.Scene} {K:SK fr k}
end
theorem T4 (C:Sd.Crypt) (s:Sd.Scene) (x:Sd.dS) (h:x.valid=false):s.dU C x=KT s 0:=if_pos h
theorem eh (C:Sd.Crypt) (s:Sd.Scene) (x:Sd.dS) (h:¬x.valid=false):s.dU C x=if s.c.t.holder=0/\x.FQ=true then xi C (yx s x)else if s.c.t.holder=0 then Hw C (yx s x) x.x else if(Sd.kS s.c.p s.c.beyond x).2=true then xk C (yx s x)else yx s x:=if_neg h
section
variable(tk:Nat->Sd.Byt->Option Sd.bW) (ht:Body (fr:=fr) 147 bV)
theorem T5 (C:Sd.Crypt) (s:Sd.Scene):(xi C s).c.p=s.c.p:=by
 unfold xi;split
 ·rfl
 ·rw[fj];rfl
theorem T6 (C:Sd.Crypt) (s:Sd.Scene):(xk C s).c.p=s.c.p:=by
 unfold xk;split
 ·rfl
 ·rw[fj]
theorem aa2 (C:Sd.Crypt) (s:Sd.Scene) (x:Sd.X4):(Hw C s x).c.p=s.c.p:=by
 unfold Hw;split<;>rfl
include tk ht
theorem H8:Body (fr:=fr) 50 (SC (ah tk)):=by
 refine dJ (n:=60) (abG tk ht) ?_;intro ar k s F Kb h0 hq hM;unfold SC at hM;split at hM
 ·rename_i xl;split at hM
  ·rename_i x hx;obtain rfl:=vi hx;have hS:=hM.1.1;have hK:=hM.2;have hT:St0 (yx s x):=⟨hS.r,hS.p,hS.t⟩;have hX:(x.valid≠false)->¬(s.c.t.holder=0/\x.FQ=true)->aa1 (ah tk) k s F Kb x:=by
    intro hv hg;unfold aa1;refine aU (λe=>⟨eY hq,?_⟩) (λe=>aU (λe2=>⟨eY hq,?_⟩) (λe2=>?_))
    ·have e1:s.c.t.holder=0:=by simpa using e
     refine H7 (M:=λs F=>mSx (λs x=>Hw (ah tk) s x.x) [.agg (ri x)] k s F _) (lb s x) F ⟨hT,λF1=>aM ?_ hK F1 (hp:=aa2 _ _ _)⟩;rw[eh _ _ _ hv,if_neg hg,if_pos e1]
    ·have e1:¬s.c.t.holder=0:=by simpa using e
     refine H7 (M:=λs F=>V2 (xk (ah tk)) [] k s F _) (lb s x) F ⟨hT,λF1=>aM ?_ hK F1 (hp:=T6 _ _)⟩;rw[eh _ _ _ hv,if_neg hg,if_neg e1,if_pos e2]
    ·have e1:¬s.c.t.holder=0:=by simpa using e
     refine aM ?_ hK (show bN fr (bA k (yx s x))from F);rw[eh _ _ _ hv,if_neg hg,if_neg e1,if_neg (by rw[e2];decide)]
   rw[LQ];refine aU (λe=>aM ?_ hK (show bN fr (bA k (KT s 0))from F)) (λe=>⟨⟨hM.1.2.1,by decide,by decide⟩,⟨by have:=hS.p.bh.1;omega,hS.p.bh.2⟩,⟨hS.p,hM.1.2.2⟩,?_⟩)
   ·rw[T4 _ _ _ (by simpa using e)]
   ·have hv:x.valid≠false:=by simpa using e
    refine aU (λe1=>aU (λe2=>⟨eY hq,?_⟩) (λe2=>hX hv (by rw[e2];simp))) (λe1=>hX hv ?_)
    ·refine H7 (M:=λs F=>V2 (xi (ah tk)) [] k s F _) (lb s x) F ⟨hT,λF1=>aM ?_ hK F1 (hp:=T5 _ _)⟩;rw[eh _ _ _ hv,if_pos ⟨by simpa using e1,e2⟩]
    ·have e3:¬s.c.t.holder=0:=by simpa using e1
     exact λh=>e3 h.1
  ·exact hM.elim
 ·exact hM.elim
end
def SH:QG:=⟨141,2,λargs most q=>match args with
 |[.agg [.j8 p ka kn kc],.agg tl,.bool th]=>(match kK tl with|some t=>some (db t.epoch/\(db t.la.n/\db t.la.most)/\(1<=p.i 43/\p.i 43<=1000),.az [.agg (cI (Sd.bM p t q th).1),.int .i64 (Sd.bM p t q th).2.1],(Sd.bM p t q th).2.2)|none=>none)
 |_=>none⟩
theorem SI:SH.Ok:=by
 intro args k q p v q' hv hm hp B hB bs ms w0 w S
 match args,hv,hm with
 |a::b::c::l,hv,hm=>
  have ha:c=.raw (vq k):=by simpa[SH]using hv
  subst ha;replace hm:(match(generalizing:=false) a::b::l with
   |[.agg [.j8 p ka kn kc],.agg tl,.bool th]=>(match kK tl with|some t=>some (db t.epoch/\(db t.la.n/\db t.la.most)/\(1<=p.i 43/\p.i 43<=1000),V.az [.agg (cI (Sd.bM p t q th).1),.int .i64 (Sd.bM p t q th).2.1],(Sd.bM p t q th).2.2)|none=>none)
   |_=>none)=some (p,v,q'):=hm
  split at hm
  ·rename_i p' ka kn kc tl th heq;obtain⟨rfl,h2⟩:=List.cons.inj heq;obtain⟨rfl,rfl⟩:=List.cons.inj h2;split at hm
   ·rename_i t ht;obtain rfl:=fh ht;simp only[Option.some.injEq,Prod.mk.injEq]at hm;obtain⟨rfl,rfl,rfl⟩:=hm;exact alW hB p' ka kn kc th hp.1 hp.2.1 hp.2.2 S
   ·cases hm
  ·cases hm
def J4:QF:=⟨32,λargs _=>match args with
 |[]=>some (True,.agg (oF Sd.dV))
 |_=>none⟩
theorem El (gl:Nat->Option Nat):J4.Ok prog gl:=by
 intro args bl p_ v_ h hp ids w _ _;unfold J4 at h;dsimp only at h;split at h
 ·simp only[Option.some.injEq,Prod.mk.injEq]at h;obtain⟨rfl,rfl⟩:=h;exact told (aij w)
 ·cases h
def L7 (fr:Sd.Reply->Nat×Sd.Byt) (C:Sd.Crypt):List (dI (Gh fr)):=⟨141,false,Ke SH⟩::qE (Gh fr) J4::L6 fr C
theorem abH (tk:Nat->Sd.Byt->Option Sd.bW) (ht:Body (fr:=fr) 147 bV):ai prog gS (L7 fr (ah tk)):=
 ai.cons (Bz SI) (ai.cons (JW El) (abG tk ht))
abbrev hY (s:Sd.Scene):Sd.Tok×Int×List Sd.Ask:=Sd.bM s.c.p s.c.t s.c.q ((dw s.c.tab).on s.c.t.holder)
theorem YT (C:Sd.Crypt) (k:LK) (s:Sd.Scene) (F:bN fr (bA k s)) (Kb:SK fr k):cJ (dR prog gS (L7 fr C)) 60 94 [.ptr 2 0] (cS k s F) [cB k s F] (aO k s Kb)
 =(True/\(vq k=vq k/\(db s.c.t.epoch/\(db s.c.t.la.n/\db s.c.t.la.most)/\(1<=s.c.p.i 43/\s.c.p.i 43<=1000)))/\∀B (hB:QS k.bq k.most (hY s).2.2 B),
  cond (decide ((hY s).2.1<=0)) (aO k s Kb (.az []) (cS k (fQ (bH s (hY s).2.2) (hY s).1) (F.bH (hY s).2.2 B hB)++[⟨true,⟨95,(0,0)⟩,cI (hY s).1⟩]) [cB k (fQ (bH s (hY s).2.2) (hY s).1) (F.bH (hY s).2.2 B hB)])
  (ez k (bH s (hY s).2.2) (F.bH (hY s).2.2 B hB)/\lg C [.agg (cI (hY s).1),.int .i64 (hY s).2.1,.int .i64 0] k (dv (bH s (hY s).2.2)) (F.bH (hY s).2.2 B hB) λv s2 F2=>
   cond ((hY s).2.1==5) (ez k s2 F2/\rD [.int .i64 s2.c.p.lost,.agg (oF ⟨3,4,0⟩)] k (dv s2) F2 λv s' F'=>aO k s Kb (.az []) (cS k s' F'++[⟨true,⟨95,(0,0)⟩,cI (hY s).1⟩]) [cB k s' F'])
   (True/\ez k s2 F2/\rD [.int .i64 s2.c.p.safe,.agg (oF Sd.dV)] k (dv s2) F2 λv s' F'=>aO k s Kb (.az []) (cS k s' F'++[⟨true,⟨95,(0,0)⟩,cI (hY s).1⟩]) [cB k s' F']))):=by kernel_rfl
theorem aiR {p:Sd.Pol} {t:Sd.Tok} (h:TB t) (q:List Sd.Ask) (b:Bool):TB (Sd.bM p t q b).1:=by
 have h1:∀la,TB ({t with la:=la}:Sd.Tok):=λla=>⟨h.h,h.e⟩;unfold Sd.bM;split
 ·exact h1 _
 ·dsimp only;generalize (if t.la.most=0 then Sd.Timer.start p.cY else t.la).step=la;split
  ·exact h1 _
  ·split
   ·rename_i hs;refine⟨by simp[Sd.Tok.dO,Sd.Tok.pass,N4],?_⟩;have e1:=h.e.1;have e2:=h.e.2;simp only[Sd.Tok.dO,Sd.Tok.pass,VZ,Sd.sat];split
    ·split<;>omega
    ·omega
   ·split
    ·exact(l_ (h1 _) 4).1
    ·exact(JZ (h1 _) q).1
theorem aiS {p:Sd.Pol} {t:Sd.Tok} {q:List Sd.Ask} {b:Bool} (h:(Sd.bM p t q b).2.1<=0):(Sd.bM p t q b).2.2=q:=by
 unfold Sd.bM at h⊢;split
 ·rfl
 ·rename_i h0;rw[if_neg h0]at h;dsimp only at h⊢;revert h;generalize (if t.la.most=0 then Sd.Timer.start p.cY else t.la).step=la;intro h;split
  ·rfl
  ·rename_i h1;rw[if_neg h1]at h;split
   ·rfl
   ·rename_i h2;rw[if_neg h2]at h;split
    ·rename_i h3;rw[if_pos h3]at h;simp at h
    ·rename_i h3;rw[if_neg h3]at h;simp at h
structure StL (s:Sd.Scene):Prop where
 r:Rm s 8
 p:Sd.cK s.c.p
 t:TB s.c.t
 l1:db s.c.t.la.n
 l2:db s.c.t.la.most
def xn (C:Sd.Crypt):SM fr:=λar k s F K=>match ar with
 |[]=>StL s/\∀F',K (.az []) (s.cY C) F'
 |_=>False
theorem rL (C:Sd.Crypt) (s:Sd.Scene) (R:Sd.Tok×Int×List Sd.Ask) (h:R=Sd.bM s.c.p s.c.t s.c.q (s.c.tab.on s.c.t.holder)):s.cY C=if R.2.1<=0 then fQ s R.1 else if R.2.1=5 then((bH s R.2.2).goes C R.1 R.2.1 0).dH ((bH s R.2.2).goes C R.1 R.2.1 0).c.p.lost ⟨3,4,0⟩else((bH s R.2.2).goes C R.1 R.2.1 0).dH ((bH s R.2.2).goes C R.1 R.2.1 0).c.p.safe Sd.dV:=by subst h;rfl
theorem vy (C:Sd.Crypt) (s:Sd.Scene) (t:Sd.Tok) (h n m:Int) (b:Sd.Label):((s.goes C t h n).dH m b).c.p=s.c.p:=fj C s t h n
theorem ND (tk:Nat->Sd.Byt->Option Sd.bW) (ht:Body (fr:=fr) 147 bV):Body (fr:=fr) 94 (xn (ah tk)):=by
 refine dJ (n:=60) (abH tk ht) ?_;intro ar k s F Kb h0 hq hM;unfold xn at hM;split at hM
 ·have hS:=hM.1;have hK:=hM.2;have hr:hY s=Sd.bM s.c.p s.c.t s.c.q (s.c.tab.on s.c.t.holder):=by rw[hY,aev]
  have hb:=aiR (p:=s.c.p) hS.t s.c.q ((dw s.c.tab).on s.c.t.holder);have h1:Rm (bH s (hY s).2.2) 8:=hS.r;rw[YT];refine⟨trivial,⟨rfl,hS.t.b,⟨hS.l1,hS.l2⟩,hS.p.cY⟩,λB hB=>aU (λe=>?_) (λe=>⟨eY hq,l9 ⟨h1.le (by decide),hb.h,hb.e⟩ λF2=>aU (λe2=>⟨eY ?_,BB λF3=>aM ?_ hK F3 (hp:=vy _ _ _ _ _ _ _)⟩) (λe2=>⟨trivial,eY ?_,BB λF3=>aM ?_ hK F3 (hp:=vy _ _ _ _ _ _ _)⟩)⟩)⟩
  ·have e1:(hY s).2.1<=0:=by simpa using e
   refine aM (s':=fQ (bH s (hY s).2.2) (hY s).1) ?_ hK (F.bH (hY s).2.2 B hB);rw[rL _ _ _ hr,if_pos e1,n_ (aiS e1)]
  ·rw[fj];exact hq
  ·have e1:¬(hY s).2.1<=0:=by simpa using e
   have e3:(hY s).2.1=5:=by simpa using e2
   rw[rL _ _ _ hr,if_neg e1,if_pos e3]
  ·rw[fj];exact hq
  ·have e1:¬(hY s).2.1<=0:=by simpa using e
   have e3:¬(hY s).2.1=5:=by simpa using e2
   rw[rL _ _ _ hr,if_neg e1,if_neg e3]
 ·exact hM.elim
def Em:List Sd.Ask->List V
 |[]=>[]
 |a::l=>.int .i64 a.source::.int .i64 a.aV::.int .i64 a.gU.n::.int .i64 a.gU.most::Em l
def lj (l:List Sd.Ask) (t:List Value):VB:=⟨true,⟨112,(0,0)⟩,Em l++[.rest t]⟩
theorem tO (ids:List Nat):∀l:List Sd.Ask,ab ids (Em l)=abP l
 |[]=>rfl
 |a::l=>by
  have h:=tO ids l;simp only[Em,ab,cl,den,h];rfl
def SJ:gm (Gh fr):=λargs bl ch K=>match args,ch with
 |[.raw vp],g::rest=>cond (dk bl.length bl) (vp=vq g.d.k/\(g.d.q=[]->∀x c,K (.raw (.slice x 0 c)) bl (g::rest))/\(∀a,g.d.q=[a]->∀c t,K (.sl bl.length 0 1 c) (bl++[lj [a] t]) (g::rest))/\
  (∀a b,g.d.q=[a,b]->∀c t,K (.sl bl.length 0 2 c) (bl++[lj [a,b] t]) (g::rest))/\(∀a b d,g.d.q=[a,b,d]->∀c t,K (.sl bl.length 0 3 c) (bl++[lj [a,b,d] t]) (g::rest))) False
 |_,_=>False
theorem abI {bq:Nat} {most:Int} {L:List Sd.Ask} {B:List av} (h:QS bq most L B):L.length<=3:=by
 obtain⟨es,_,_,_,_,_,_,hH,rfl⟩:=h
 match es,hH with
 |[],_=>simp[bD]
 |[e0],_=>simp[bD]
 |[e0,e1],_=>simp only[bD];repeat' split
             all_goals simp
 |[e0,e1,e2],_=>simp only[bD];repeat' split
                all_goals simp
 |_::_::_::_::_,hH=>exact absurd hH (by simp[bS])
theorem Hx (gl:Nat->Option Nat):Sound prog gl 39 (SJ (fr:=fr)):=by
 intro args ids bl ch R ms w0 w K hg hl S hc;unfold SJ at hc;split at hc
 ·rename_i vp g rest;cases hq:dk bl.length bl with
  |false=>rw[hq]at hc;exact hc.elim
  |true=>
   rw[hq]at hc;rw[<-hl]at hq;obtain⟨rfl,k0,k1,k2,k3⟩:=hc;have e0:af (g::rest) R=g.F.B++af rest R:=rfl;have S':=S;rw[e0,uS]at S;have hL:=aem g.F.hq (S.perm (pS _ _ _ _ _ _ _));have ea:(ao ids [.raw (vq g.d.k)]).toArray=#[.pointer (some ⟨g.d.k.bq,0,none⟩)]:=rfl;rw[ea];refine hL.mono ?_;rintro v w1 ⟨x,c1,rows,rfl,hr,S1⟩;have aiT:=(S1.sub (List.sublist_append_right rows _)).perm (pS _ _ _ _ _ _ _).symm;have rM:∀(n:Nat),g.d.q.length=n+1->∃(b:Nat) (t:List Value),x=some ⟨b,0,none⟩/\((∀c t,K (.sl bl.length 0 (n+1) c) (bl++[lj g.d.q t]) (g::rest))->
    ∃(x':V) (more:List Nat) (bl':List VB) (ch':List (Gh fr)),Value.slice x g.d.q.length c1=den (ids++more) x'/\(ids++more).length=bl'.length/\St ms w0 (lits (ids++more) (ids++more) bl'++af ch' R) w1/\K x' bl' ch'):=by
    intro n hn;rcases hr.2.2 with⟨_,h0,_⟩|⟨b,t,hx,aiU,_⟩
    ·omega
    ·refine⟨b,t,hx,λh=>?_⟩;refine⟨.sl bl.length 0 (n+1) c1,[b],bl++[lj g.d.q t],g::rest,?_,by simp[hl],?_,h c1 t⟩
     ·rw[hx,hn,<-hl];simp only[den,cy]
     ·have e1:lits (ids++[b]) (ids++[b]) (bl++[lj g.d.q t])=lits ids ids bl++rows:=by
       rw[aI _ _ _ _ hl,aJ _ _ hq];have ed:(ab (ids++[b]) (Em g.d.q++[.rest t])).toArray=(abP g.d.q++t).toArray:=by
        rw[bo,tO];simp[ab,cl]
       simp only[lits,aE,lj,ed];rw[aiU]
      rw[e1,e0,uS,List.append_assoc];refine S1.perm ?_;refine(List.Perm.append_left rows (pS (lits ids ids bl) _ _ _ _ _ _).symm).trans ?_;exact List.perm_append_comm_assoc _ _ _
   have hlen:=abI g.F.hq;revert k0 k1 k2 k3 rM hlen
   match g.d.q with
   |[]=>
    intro k0 k1 k2 k3 rM hlen;refine⟨.raw (.slice x 0 c1),[],bl,g::rest,?_,by simpa using hl,?_,k0 rfl x c1⟩
    ·simp[den]
    ·simp only[List.append_nil];rw[e0,uS];exact aiT
   |[a]=>intro k0 k1 k2 k3 rM hlen;obtain⟨b,t,_,h⟩:=rM 0 rfl;exact h (k1 a rfl)
   |[a,b']=>intro k0 k1 k2 k3 rM hlen;obtain⟨b,t,_,h⟩:=rM 1 rfl;exact h (k2 a b' rfl)
   |[a,b',d]=>intro k0 k1 k2 k3 rM hlen;obtain⟨b,t,_,h⟩:=rM 2 rfl;exact h (k3 a b' d rfl)
   |a::b'::d::e::l=>intro k0 k1 k2 k3 rM hlen;simp at hlen
 ·exact hc.elim
def L8 (fr:Sd.Reply->Nat×Sd.Byt) (C:Sd.Crypt):List (dI (Gh fr)):=⟨94,false,pP (xn C)⟩::⟨39,false,SJ⟩::L7 fr C
theorem xp (tk:Nat->Sd.Byt->Option Sd.bW) (ht:Body (fr:=fr) 147 bV):ai prog gS (L8 fr (ah tk)):=
 ai.cons (c_ (ND tk ht)) (ai.cons ⟨Hx gS,λe=>by cases e⟩ (abH tk ht))
section
variable(C:Sd.Crypt) (k:LK) (s0:Sd.Scene) (Kb:SK fr k)
def hlL:List Sd.Ask->(s:Sd.Scene)->bN fr (bA k s)->List VB->Prop
 |[],s,F,j=>True/\ez k s F/\rD [.int .i64 s.c.p.safe,.agg (oF Sd.dV)] k (dv s) F λv s' F'=>aO k s0 Kb (.az []) (cS k s' F'++j) [cB k s' F']
 |a::l,s,F,j=>(vq k=vq k/\True)/\∀B (hB:QS k.bq k.most (Sd.Q.drop s.c.q a.source) B),ez k (qd s a.source) (F.bH (Sd.Q.drop s.c.q a.source) B hB)/\ny [.int .i64 a.source,.int .i64 4,.int .i64 29] k (dv (qd s a.source)) (F.bH (Sd.Q.drop s.c.q a.source) B hB) λv s2 F2=>hlL l s2 F2 (j++[⟨true,⟨112,(0,0)⟩,Rn a⟩])
def hlQ (s:Sd.Scene) (F:bN fr (bA k s)) (j:List VB):Prop:=vq k=vq k/\(s.c.q=[]->∀(x:Option Addr) (c:Nat),hlL k s0 Kb [] s F j)/\(∀a,s.c.q=[a]->∀(c:Nat) (t:List Value),hlL k s0 Kb [a] s F (j++[lj [a] t]))/\
 (∀a b,s.c.q=[a,b]->∀(c:Nat) (t:List Value),hlL k s0 Kb [a,b] s F (j++[lj [a,b] t]))/\(∀a b d,s.c.q=[a,b,d]->∀(c:Nat) (t:List Value),hlL k s0 Kb [a,b,d] s F (j++[lj [a,b,d] t]))
def j1 (s:Sd.Scene) (b:Bool):Sd.Scene:=fQ s {s.c.t with bad:=b}
theorem L9 (s:Sd.Scene) (F:bN fr (bA k s)) (b:Bool):cJ (dR prog gS (L8 fr C)) 80 52 [.ptr 2 0,.bool b] (cS k s F) [cB k s F] (aO k s Kb)
 =cond (!b) (aO k s Kb (.az []) (cS k (j1 s b) F) [cB k (j1 s b) F])
  (db s.c.t.epoch/\cond (s.c.t.holder !=4)
   (ez k (j1 s b) F/\lg C [.agg (cI ({s.c.t with bad:=b}:Sd.Tok).dO),.int .i64 6,.int .i64 0] k (dv (j1 s b)) F λv s2 F2=>hlQ k s Kb s2 F2 [⟨true,⟨95,(0,0)⟩,cI ({s.c.t with bad:=b}:Sd.Tok).dO⟩])
   (hlQ k s Kb (fQ s ({s.c.t with bad:=b}:Sd.Tok).dO) F [⟨true,⟨95,(0,0)⟩,cI ({s.c.t with bad:=b}:Sd.Tok).dO⟩])):=by kernel_rfl
end
def ef (s:Sd.Scene) (a:Sd.Ask):Sd.Scene:=(qd s a.source).gone a.source 4 29
theorem IF (s:Sd.Scene) (a:Sd.Ask):(ef s a).c.p=s.c.p:=by unfold ef;rw[gone_c];rfl
theorem Rm.ef {s:Sd.Scene} {a:Sd.Ask} {n:Nat} (h:Rm s (n+1)):Rm (ef s a) n:=by
 have h1:Rm (qd s a.source) (n+1):=h;exact h1.gone
theorem mu {k:LK} {s0:Sd.Scene} {Kb:SK fr k}:∀(l:List Sd.Ask) (s:Sd.Scene) (F:bN fr (bA k s)) (j:List VB),s.c.p=s0.c.p->s.c.p.queue=k.most->Rm s l.length->
 (∀F',Kb (.az []) ((l.foldl ef s).dH (l.foldl ef s).c.p.safe Sd.dV) F')->hlL k s0 Kb l s F j
 |[],s,F,j,hp,hq,hr,hK=>⟨trivial,eY hq,BB λF1=>aM (s':=s.dH s.c.p.safe Sd.dV) rfl hK F1 (hp:=hp) (hb:=by kernel_rfl)⟩
 |a::l,s,F,j,hp,hq,hr,hK=>⟨⟨rfl,trivial⟩,λB hB=>⟨eY hq,rF ⟨(show Rm (qd s a.source) (l.length+1)from hr).le (by omega),⟨by decide,by decide⟩,⟨by decide,by decide⟩⟩ λF2=>mu l (ef s a) F2 _ (by rw[IF];exact hp) (by rw[IF];exact hq) hr.ef hK⟩⟩
theorem UB {k:LK} {s0:Sd.Scene} {Kb:SK fr k} (s:Sd.Scene) (F:bN fr (bA k s)) (j:List VB) (hp:s.c.p=s0.c.p) (hq:s.c.p.queue=k.most) (hr:Rm s 3)
 (hK:∀F',Kb (.az []) ((s.c.q.foldl ef s).dH (s.c.q.foldl ef s).c.p.safe Sd.dV) F'):hlQ k s0 Kb s F j:=by
 refine⟨rfl,λe x c=>?_,λa e c t=>?_,λa b e c t=>?_,λa b d e c t=>?_⟩
 ·rw[e]at hK;exact mu [] s F _ hp hq (hr.le (by simp)) hK
 ·rw[e]at hK;exact mu [a] s F _ hp hq (hr.le (by simp)) hK
 ·rw[e]at hK;exact mu [a,b] s F _ hp hq (hr.le (by simp)) hK
 ·rw[e]at hK;exact mu [a,b,d] s F _ hp hq (hr.le (by simp)) hK
theorem abJ {t:Sd.Tok} (h:TB t):TB t.dO:=by
 have e1:=h.e.1;have e2:=h.e.2;refine⟨show(0:Int)<=4/\(4:Int)<=4 by decide,?_⟩;simp only[Sd.Tok.dO,Sd.Tok.pass,VZ,Sd.sat];split
 ·split<;>omega
 ·omega
def j3 (C:Sd.Crypt):SM fr:=λar k s F K=>match ar with
 |[.bool b]=>(Rm s 8/\TB s.c.t)/\∀F',K (.az []) (s.jg C b) F'
 |_=>False
def gx (C:Sd.Crypt) (s:Sd.Scene):Sd.Scene:=if s.c.t.holder≠4 then s.goes C s.c.t.dO 6 0 else fQ s s.c.t.dO
theorem UD (C:Sd.Crypt) (s:Sd.Scene) (b:Bool) (h:b=false):s.jg C b=j1 s b:=if_pos h
theorem U2 (C:Sd.Crypt) (s:Sd.Scene) (b:Bool) (h:¬b=false):s.jg C b=(((gx C (j1 s b)).c.q.foldl ef (gx C (j1 s b))).dH ((gx C (j1 s b)).c.q.foldl ef (gx C (j1 s b))).c.p.safe Sd.dV):=if_neg h
theorem IG (tk:Nat->Sd.Byt->Option Sd.bW) (ht:Body (fr:=fr) 147 bV):Body (fr:=fr) 52 (j3 (ah tk)):=by
 refine dJ (n:=80) (xp tk ht) ?_;intro ar k s F Kb h0 hq hM;unfold j3 at hM;split at hM
 ·rename_i b;have hr:=hM.1.1;have hT:=hM.1.2;have hK:=hM.2;have h1:Rm (j1 s b) 8:=hr;have hb:TB ({s.c.t with bad:=b}:Sd.Tok).dO:=abJ ⟨hT.h,hT.e⟩;rw[L9];refine aU (λe=>aM ?_ hK (show bN fr (bA k (j1 s b))from F)) (λe=>⟨hT.b,?_⟩)
  ·rw[UD _ _ _ (by simpa using e)]
  ·have AD:¬b=false:=by simpa using e
   rw[U2 _ _ _ AD]at hK;refine aU (λe1=>⟨eY hq,l9 ⟨h1.le (by decide),hb.h,hb.e⟩ λF2=>?_⟩) (λe1=>?_)
   ·have e2:gx (ah tk) (j1 s b)=(j1 s b).goes (ah tk) ({s.c.t with bad:=b}:Sd.Tok).dO 6 0:=if_pos (show s.c.t.holder≠4 by simpa using e1);rw[e2]at hK;exact UB _ F2 _ (fj _ _ _ _ _) (by rw[fj];exact hq) (h1.goes.le (by decide)) hK
   ·have e2:gx (ah tk) (j1 s b)=fQ s ({s.c.t with bad:=b}:Sd.Tok).dO:=if_neg (show¬s.c.t.holder≠4 by simpa using e1);rw[e2]at hK;exact UB (fQ s ({s.c.t with bad:=b}:Sd.Tok).dO) F _ rfl hq (hr.le (by decide)) hK
 ·exact hM.elim
theorem YV {w:World} {n c b:Nat} {f:Nat->Int} {T:TypeId} (h:w.heap[b]?=some (.cells (dc n f c) T (0,0))):eS w b 0 n f:=by
 intro j hj;rw[cell_of h];simp only[dc,Nat.zero_add];rw[List.getElem?_toArray,List.getElem?_append_left (by rw[bQ];exact hj)];simp[eE,hj]
theorem vz {w:World} {n c:Nat} {f:Nat->Int} {x:Option Addr} {b:List av} (h:eK 5 n f x c b) (ba:∀y∈b,w.heap[y.id]?=some y.obj) (h0:0<n) (hn:n<=1000000):cz w x n c f:=by
 obtain⟨b',h1,rfl,rfl⟩:=qt h h0;exact cz.of8 (YV (ba _ (List.mem_singleton.2 rfl))) hn h1
theorem J5 {ms:List Nat} {w0 w:World} {A R:List av} {d:FD} (F:bN fr d) (S:St ms w0 (A++(F.B++R)) w) (i:Nat) (hi:i<4) (h0:0<d.k.kn i) (hn:d.k.kn i<=1000000):cz w (d.k.ka i) (d.k.kn i) (d.k.kc i) (d.k.kf i):=by
 obtain⟨b0,b1,b2,b3,b4,hB,k0,k1,k2,k3,k4⟩:=F.hk;have ba:∀y∈F.Bk,w.heap[y.id]?=some y.obj:=λy hy=>S.at' (by rw[uS];simp[hy]);rw[hB]at ba;have:i=0\/i=1\/i=2\/i=3:=by omega
 rcases this with rfl|rfl|rfl|rfl
 ·exact vz k0 (λy hy=>ba y (by simp[hy])) h0 hn
 ·exact vz k1 (λy hy=>ba y (by simp[hy])) h0 hn
 ·exact vz k2 (λy hy=>ba y (by simp[hy])) h0 hn
 ·exact vz k3 (λy hy=>ba y (by simp[hy])) h0 hn
theorem J6 {ids:List Nat} {bl:List VB} {k:LK} {A:List av} {ms:List Nat} {w0 w:World} (hg:Gl gS ids) (hl:ids.length=bl.length) (S:St ms w0 (lits ids ids bl++A) w) (h:bl[0]?=some (aG k)):w.heap[1]?=some (.cells (ak .u32 64 aX) k.tg (0,0)):=by
 have h1:=(cA hl S h).2;rw[(hg 1 0 rfl).2]at h1;have e:(ab ids (aG k).c).toArray=ak .u32 64 aX:=by kernel_rfl
 rw[e]at h1;exact h1
def xu:gm (Gh fr):=λargs bl ch K=>match args,ch with
 |[.agg [.int .i64 m,.bool o,.dC .u8 8 nc],.raw vk,.int .i64 s],g::rest=>
  (vk=.slice (g.d.k.ka 3) (g.d.k.kn 3) (g.d.k.kc 3)/\bl[0]?=some (aG g.d.k)/\(0<=s/\s<4294967296)/\(0<=m/\m<=9223372036854775807)/\(1<=g.d.k.kn 3/\g.d.k.kn 3<=64))/\
  cond (decide (4294967295<=m)) (K (.az [.agg [.int .i64 m,.bool o,.dC .u8 8 nc],.int .i64 24]) bl (g::rest)) (K (.az [.agg [.int .i64 (m+1),.bool true,.dC .u8 8 (dq (g.d.k.kn 3) (g.d.k.kf 3) s (m+1))],.int .i64 0]) bl (g::rest))
 |_,_=>False
theorem Ep:Sound prog gS 146 (xu (fr:=fr)):=by
 intro args ids bl ch R ms w0 w K hg hl S hc;unfold xu at hc;split at hc
 ·rename_i m o nc vk s g rest;obtain⟨⟨rfl,hr,hs,hm,hk⟩,hK⟩:=hc;have e0:af (g::rest) R=g.F.B++af rest R:=rfl;have S':=S;rw[e0]at S';have Er:=J5 g.F S' 3 (by decide) (by omega) (by omega);have gd:=J6 hg hl S hr;by_cases h:4294967295<=m
  ·rw[show decide (4294967295<=m)=true by simp[h]]at hK;have hc:=DH (g.d.k.ka 3) (g.d.k.kn 3) (g.d.k.kc 3) (g.d.k.kf 3) s ⟨m,o,nc⟩ h hm.2 w;have e:(ao ids [.agg [.int .i64 m,.bool o,.dC .u8 8 nc],.raw (.slice (g.d.k.ka 3) (g.d.k.kn 3) (g.d.k.kc 3)),.int .i64 s]).toArray=#[.agg #[.int .i64 m,.bool o,.int .u8 (nc 0),.int .u8 (nc 1),.int .u8 (nc 2),.int .u8 (nc 3),.int .u8 (nc 4),.int .u8 (nc 5),.int .u8 (nc 6),.int .u8 (nc 7)],.slice (g.d.k.ka 3) (g.d.k.kn 3) (g.d.k.kc 3),.int .i64 s]:=by kernel_rfl
   rw[e];refine hc.mono ?_;rintro v w1 ⟨rfl,eZ⟩;exact⟨_,[],bl,g::rest,by kernel_rfl,by simpa using hl,by simpa using S.quiet eZ,hK⟩
  ·rw[show decide (4294967295<=m)=false by simp[h]]at hK;have hc:=Ra (g.d.k.ka 3) (g.d.k.kn 3) (g.d.k.kc 3) (g.d.k.kf 3) s ⟨m,o,nc⟩ hk hs ⟨hm.1,Int.not_le.1 h⟩ w gd Er;have e:(ao ids [.agg [.int .i64 m,.bool o,.dC .u8 8 nc],.raw (.slice (g.d.k.ka 3) (g.d.k.kn 3) (g.d.k.kc 3)),.int .i64 s]).toArray=#[.agg #[.int .i64 m,.bool o,.int .u8 (nc 0),.int .u8 (nc 1),.int .u8 (nc 2),.int .u8 (nc 3),.int .u8 (nc 4),.int .u8 (nc 5),.int .u8 (nc 6),.int .u8 (nc 7)],.slice (g.d.k.ka 3) (g.d.k.kn 3) (g.d.k.kc 3),.int .i64 s]:=by kernel_rfl
   rw[e];refine hc.mono ?_;rintro v w1 ⟨rfl,eZ⟩;exact⟨.az [.agg [.int .i64 (m+1),.bool true,.dC .u8 8 (dq (g.d.k.kn 3) (g.d.k.kf 3) s (m+1))],.int .i64 0],[],bl,g::rest,by kernel_rfl,by simpa using hl,by simpa using S.quiet eZ,hK⟩
 ·exact hc.elim
def ei (k:LK):Value:=.slice k.px k.pn k.pc
def xw (C:Sd.Crypt):gm (Gh fr):=λargs bl ch K=>match args,ch with
 |[.raw vp],g::rest=>(vp=ei g.d.k/\g.d.k.pn<=1000/\By g.d.k.pf)/\(∀m,C.take g.d.k.pn g.d.k.pf=some m->K (.az [.agg (cw m),.int .i64 0]) bl (g::rest))/\
  (C.take g.d.k.pn g.d.k.pf=none->∀m c,c≠0->K (.az [.agg (cw m),.int .i64 c]) bl (g::rest))
 |_,_=>False
def LH (fr:Sd.Reply->Nat×Sd.Byt) (C:Sd.Crypt):List (dI (Gh fr)):=⟨143,true,xw C⟩::⟨146,true,xu⟩::L8 fr C
def Es (s:Sd.Scene) (a b c:Sd.dQ):Sd.Scene:={s with c:={s.c with doors:=r3 a b c s.c.doors,tab:=⟨s.c.tab.aA,r3 (s.c.tab.ay 0) (s.c.tab.ay 1) (s.c.tab.ay 2) s.c.tab.ay⟩}}
def SP (d:Sd.dQ):List V:=[.int .i64 d.many,.bool d.sG,.dC .u8 8 d.ae]
section
variable(C:Sd.Crypt) (k:LK) (s:Sd.Scene) (F:bN fr (bA k s)) (Kb:SK fr k) (l:Int) (d:Sd.dQ) (D:Sd.dQ->Sd.Scene)
def BM (k:LK) (l:Int) (d:Sd.dQ):Sd.dQ:=⟨d.many+1,true,dq (k.kn 3) (k.kf 3) l (d.many+1)⟩
def YW (hD:∀e,bA k (D e)=bA k s) (m:Sd.bW) (c:Int):Prop:=cond (c !=0) (ez k s F/\tM C [.int .i64 l,.int .i64 13] k (dv s) F λv s' F'=>aO k s Kb (.az []) (cS k s' F'++[⟨true,⟨66,(0,0)⟩,cw m⟩]) [cB k s' F'])
 (True/\cond (!(Sd.fm s.c.p l m.role)) (ez k s F/\rp C [.int .i64 l,.int .i64 0,.int .i64 18] k (dv s) F λv s' F'=>aO k s Kb (.az []) (cS k s' F'++[⟨true,⟨66,(0,0)⟩,cw m⟩]) [cB k s' F'])
  ((Value.slice (k.ka 3) (k.kn 3) (k.kc 3)=.slice (k.ka 3) (k.kn 3) (k.kc 3)/\some (aG k)=some (aG k)/\(0<=l/\l<4294967296)/\(0<=d.many/\d.many<=9223372036854775807)/\(1<=k.kn 3/\k.kn 3<=64))/\
    cond (decide (4294967295<=d.many)) (ez k s F/\rp C [.int .i64 l,.int .i64 0,.int .i64 24] k (dv s) F λv s' F'=>aO k s Kb (.az []) (cS k s' F'++[⟨true,⟨66,(0,0)⟩,cw m⟩,⟨true,⟨102,(0,0)⟩,SP d⟩]) [cB k s' F'])
    (ez k (D (BM k l d)) (hD (BM k l d)▸F)/\bV [.int .i64 l,.agg [.int .i64 129,.int .i64 0,.int .i64 0,.int .i64 0,.int .i64 0,.int .i64 0,.dC .u8 8 (BM k l d).ae]] k (D (BM k l d)) (hD (BM k l d)▸F) λv s2 F2=>
     ez k s2 F2/\hU C [.int .i64 2,.int .i64 l,.int .i64 0,.int .i64 0,.int .i64 0] k (dv s2) F2 λv s' F'=>aO k s Kb (.az []) (cS k s' F'++[⟨true,⟨66,(0,0)⟩,cw m⟩,⟨true,⟨102,(0,0)⟩,SP (BM k l d)⟩]) [cB k s' F'])))
end
def BN (fr:Sd.Reply->Nat×Sd.Byt) (C:Sd.Crypt) (l:Int) (i:Nat) (D:Sd.Scene->Sd.dQ->Sd.Scene) (hD:∀k s e,bA k (D s e)=bA k s):Prop:=∀(k:LK) (s:Sd.Scene) (F:bN fr (bA k s)) (Kb:SK fr k),cJ (dR prog gS (LH fr C)) 90 98 [.ptr 2 0,.int .i64 l,.raw (ei k)] (cS k s F) [cB k s F] (aO k s Kb)
 =((ei k=ei k/\k.pn<=1000/\By k.pf)/\(∀m,C.take k.pn k.pf=some m->YW C k s F Kb l (s.c.doors i) (D s) (hD k s) m 0)/\(C.take k.pn k.pf=none->∀m c,c≠0->YW C k s F Kb l (s.c.doors i) (D s) (hD k s) m c))
theorem YX (fr:Sd.Reply->Nat×Sd.Byt) (C:Sd.Crypt):BN fr C 1 0 (λs e=>Es s e (s.c.doors 1) (s.c.doors 2)) (λ_ _ _=>rfl):=λk s F Kb=>by kernel_rfl
theorem YY (fr:Sd.Reply->Nat×Sd.Byt) (C:Sd.Crypt):BN fr C 2 1 (λs e=>Es s (s.c.doors 0) e (s.c.doors 2)) (λ_ _ _=>rfl):=λk s F Kb=>by kernel_rfl
theorem YZ (fr:Sd.Reply->Nat×Sd.Byt) (C:Sd.Crypt):BN fr C 3 2 (λs e=>Es s (s.c.doors 0) (s.c.doors 1) e) (λ_ _ _=>rfl):=λk s F Kb=>by kernel_rfl
def tP (s:Sd.Scene) (i:Nat) (e:Sd.dQ):Sd.Scene:={s with c:={s.c with doors:=λj=>if j=i then e else s.c.doors j}}
theorem jA {s:Sd.Scene} {a b c:Sd.dQ} {i:Nat} {e:Sd.dQ} (hi:i<3) (ha:a=if 0=i then e else s.c.doors 0) (hb:b=if 1=i then e else s.c.doors 1) (hc:c=if 2=i then e else s.c.doors 2):Es s a b c=tP s i e:=by
 unfold Es tP;rw[vn];have h:r3 a b c s.c.doors=λj=>if j=i then e else s.c.doors j:=by
  funext j
  match j with
  |0=>exact ha
  |1=>exact hb
  |2=>exact hc
  |j+3=>exact(if_neg (by omega)).symm
 rw[h]
end Go.Proofs.YtggfpcggakghnaaGreatDoor
namespace Go.Proofs.YtggfpcggakghnaaGreatDoor
open Go Go.RowKit Go.BigFrame Sx
def aeO (n m:Int):Int:=(Int.tmod n m+m)%m
theorem aiV (n:Int):bits .and .i64 n 14=n%16-n%2:=by
 have Zj:=fl .i64 n 15 16 4 (by decide) (by decide) (by decide);have h1:=fl .i64 n 1 2 1 (by decide) (by decide) (by decide);unfold bits at*;simp only[BitVec.toNat_and]at*;have hk:∀m:Nat,m&&&14=(m&&&15)-(m&&&1):=by
  intro m;have e1:m&&&15=m%16:=Nat.and_two_pow_sub_one_eq_mod m 4;have e2:m&&&1=m%2:=Nat.and_two_pow_sub_one_eq_mod m 1;have e3:m&&&14=(m%16)&&&14:=by
   rw[<-e1,Nat.and_assoc];rfl
  have e4:m%2=(m%16)%2:=by omega
  rw[e1,e2,e3,e4];have h:m%16<16:=Nat.mod_lt _ (by omega);generalize m%16=k at h
  match k,h with
  |0,_=>rfl|1,_=>rfl|2,_=>rfl|3,_=>rfl|4,_=>rfl|5,_=>rfl|6,_=>rfl|7,_=>rfl
  |8,_=>rfl|9,_=>rfl|10,_=>rfl|11,_=>rfl|12,_=>rfl|13,_=>rfl|14,_=>rfl|15,_=>rfl
  |k+16,h=>exact absurd h (by omega)
 have c14:(BitVec.ofInt i64.bits 14).toNat=14:=by decide
 have c15:(BitVec.ofInt i64.bits 15).toNat=15:=by decide
 have c1:(BitVec.ofInt i64.bits 1).toNat=1:=by decide
 rw[c14];rw[c15]at Zj;rw[c1]at h1;rw[hk];generalize (BitVec.ofInt i64.bits n).toNat=m at*;have anM:m&&&15<16:=Nat.lt_of_le_of_lt Nat.and_le_right (by omega);have sE:m&&&1<2:=Nat.lt_of_le_of_lt Nat.and_le_right (by omega);have w15:i64.wrap ((m&&&15:Nat):Int)=((m&&&15:Nat):Int):=by rw[IntKind.wrap_i64];omega
 have w1:i64.wrap ((m&&&1:Nat):Int)=((m&&&1:Nat):Int):=by rw[IntKind.wrap_i64];omega
 rw[w15]at Zj;rw[w1]at h1;rw[IntKind.wrap_i64];omega
def Sw1 (k a b c:Int):Prop:=(k=0/\a=1/\b=2/\c=3)\/(k=1/\a=2/\b=1/\c=3)\/(k=2/\a=3/\b=2/\c=1)
def SQ (q:Nat->Int) (o1 o2 o3:Int):Prop:=∃b c,Sw1 (aeO (q 1) 3) o1 b c/\((aeO (q 2) 2=0/\o2=b/\o3=c)\/(aeO (q 2) 2=1/\o2=c/\o3=b))
theorem SQ.perm {q:Nat->Int} {o1 o2 o3:Int} (h:SQ q o1 o2 o3):(o1=1/\o2=2/\o3=3)\/(o1=1/\o2=3/\o3=2)\/(o1=2/\o2=1/\o3=3)\/(o1=2/\o2=3/\o3=1)\/(o1=3/\o2=1/\o3=2)\/(o1=3/\o2=2/\o3=1):=by
 obtain⟨b,c,h1,h2⟩:=h;rcases h1 with⟨_,rfl,rfl,rfl⟩|⟨_,rfl,rfl,rfl⟩|⟨_,rfl,rfl,rfl⟩<;>rcases h2 with⟨_,rfl,rfl⟩|⟨_,rfl,rfl⟩<;>simp
theorem SQ.one {q:Nat->Int} {a b c a' b' c':Int} (h:SQ q a b c) (k:SQ q a' b' c'):a=a'/\b=b'/\c=c':=by
 obtain⟨_,_,h1,h2⟩:=h;obtain⟨_,_,k1,k2⟩:=k;rcases h1 with⟨e,rfl,rfl,rfl⟩|⟨e,rfl,rfl,rfl⟩|⟨e,rfl,rfl,rfl⟩<;>rcases k1 with⟨f,rfl,rfl,rfl⟩|⟨f,rfl,rfl,rfl⟩|⟨f,rfl,rfl,rfl⟩<;>first|(exfalso;rw[e]at f;revert f;decide)|(rcases h2 with⟨e2,rfl,rfl⟩|⟨e2,rfl,rfl⟩<;>rcases k2 with⟨f2,rfl,rfl⟩|⟨f2,rfl,rfl⟩<;>first|(exfalso;rw[e2]at f2;revert f2;decide)|exact⟨rfl,rfl,rfl⟩)
def SR (ms:List Nat) (w0:World) (a:Option Addr) (n c:Nat) (kb:Nat->Int):Prop:=n<=c/\(a=none->n=0/\c=0)/\∀ad,a=some ad->ad.block∉ms/\∀j,j<n->w0.cell? (ad.add j)=some (.int .u8 (kb j))
theorem aiW (x:Int):0<=u8.wrap x/\u8.wrap x<=255:=by rw[IntKind.wrap_u8];omega
theorem J7 (H:Nat->Int):By (Dm H):=λj=>by unfold Dm;split<;>exact aiW _
theorem J8 (n:Nat) (f:Nat->Int):By (ji n f):=by
 unfold ji;cases Nat.ble n 55
 ·exact J7 _
 ·exact J7 _
theorem NG (kn:Nat) (kf:Nat->Int) (s n:Int):By (dq kn kf s n):=by unfold dq fA;exact J8 _ _
end Go.Proofs.YtggfpcggakghnaaGreatDoor
namespace Go.Proofs.YtggfpcggakghnaaGreatDoor
open Go Go.RowKit Go.BigFrame Sx Vx
variable{fr:Sd.Reply->Nat×Sd.Byt}
theorem Hy (C:Sd.Crypt):cT (xw (fr:=fr) C):=by
 intro args bl ch K h;unfold xw at h⊢;split at h
 ·exact⟨h.1,λm e=>⟨h.2.1 m e,[],by simp⟩,λe m c hc=>⟨h.2.2 e m c hc,[],by simp⟩⟩
 ·exact h.elim
theorem Et:cT (xu (fr:=fr)):=by
 intro args bl ch K h;unfold xu at h⊢;split at h
 ·rename_i m o nc vk s' g rest;refine⟨h.1,?_⟩;have h2:=h.2;by_cases hm:4294967295<=m
  ·rw[show decide (4294967295<=m)=true by simp[hm]]at h2⊢;exact⟨h2,[],by simp⟩
  ·rw[show decide (4294967295<=m)=false by simp[hm]]at h2⊢;exact⟨h2,[],by simp⟩
 ·exact h.elim
theorem aiX (tk:Nat->Sd.Byt->Option Sd.bW) (ht:Body (fr:=fr) 147 bV) (h1:Sound prog gS 143 (xw (fr:=fr) (ah tk))):ai prog gS (LH fr (ah tk)):=
 ai.cons ⟨h1,λ_=>Hy _⟩ (ai.cons ⟨Ep,λ_=>Et⟩ (xp tk ht))
structure aeP (k:LK) (s:Sd.Scene) (l:Int):Prop where
 r:Rm s 8
 d:∀i,i<3->0<=(s.c.doors i).many/\(s.c.doors i).many<=9223372036854775807
 key:1<=k.kn 3/\k.kn 3<=64
 ke:s.c.p.k 3=(k.kn 3,k.kf 3)
 zF:k.pn<=1000/\By k.pf
 l:1<=l/\l<=3
def tQ (C:Sd.Crypt):SM fr:=λar k s F K=>match ar with
 |[.int .i64 l,.raw vp]=>(vp=ei k/\aeP k s l)/\∀F',K (.az []) (s.gW C l k.pn k.pf) F'
 |_=>False
theorem Hz {C:Sd.Crypt} {s:Sd.Scene} {l:Int} {n:Nat} {f:Sd.Byt} (h:C.take n f=none):s.gW C l n f=s.dp C l 13:=by unfold Sd.Scene.gW;rw[h]
theorem HA {C:Sd.Crypt} {s:Sd.Scene} {l:Int} {n:Nat} {f:Sd.Byt} {m:Sd.bW} (h:C.take n f=some m):s.gW C l n f=if Sd.fm s.c.p l m.role=false then s.refuse C l 0 18 else if 4294967295<=(s.c.doors (l.toNat-1)).many then s.refuse C l 0 24 else
 ((tP s (l.toNat-1) ⟨(s.c.doors (l.toNat-1)).many+1,true,C.ae (s.c.p.k 3) l ((s.c.doors (l.toNat-1)).many+1)⟩).tell l ⟨129,0,0,0,0,0,C.ae (s.c.p.k 3) l ((s.c.doors (l.toNat-1)).many+1)⟩).record C 2 l 0 0 0:=by unfold Sd.Scene.gW;rw[h];rfl
theorem oc (tk:Nat->Sd.Byt->Option Sd.bW) {k:LK} {s:Sd.Scene} {F:bN fr (bA k s)} {Kb:SK fr k} {l:Int} {i:Nat} {D:Sd.dQ->Sd.Scene} (hD:∀e,bA k (D e)=bA k s) (rU:∀e,D e=tP s i e) (hi:l.toNat-1=i) (h3:i<3) (hq:s.c.p.queue=k.most) (hP:aeP k s l)
 (m:Sd.bW) (c:Int) (hm:(c=0/\(ah tk).take k.pn k.pf=some m)\/(c≠0/\(ah tk).take k.pn k.pf=none)) (hK:∀F',Kb (.az []) (s.gW (ah tk) l k.pn k.pf) F'):YW (ah tk) k s F Kb l (s.c.doors i) D hD m c:=by
 subst hi;unfold YW;refine aU (λe=>⟨eY hq,w_ hP.r.r1 λF1=>aM ?_ hK F1⟩) (λe=>⟨trivial,aU (λe1=>⟨eY hq,gL ⟨hP.r.le (by decide),Yz,⟨by decide,by decide⟩⟩ λF1=>aM ?_ hK F1⟩) (λe1=>⟨⟨rfl,rfl,⟨by have:=hP.l;omega,by have:=hP.l;omega⟩,hP.d _ h3,hP.key⟩,aU (λe2=>⟨eY hq,gL ⟨hP.r.le (by decide),Yz,⟨by decide,by decide⟩⟩ λF1=>aM ?_ hK F1⟩) (λe2=>?_)⟩)⟩)
 ·have hc:c≠0:=lh e;rcases hm with⟨h,_⟩|⟨_,h⟩
  ·exact absurd h hc
  ·exact(Hz h).symm
 all_goals
  have hc:c=0:=by simpa using e
  have aiY:(ah tk).take k.pn k.pf=some m:=by
   rcases hm with⟨_,h⟩|⟨h,_⟩
   ·exact h
   ·exact absurd hc h
  rw[HA aiY]at*
 ·exact(if_pos (by simpa using e1)).symm
 ·rw[if_neg (by simpa using e1),if_pos (by simpa using e2)]
 ·rw[if_neg (by simpa using e1),if_neg (by simpa using e2)]at hK;have hn:(ah tk).ae (s.c.p.k 3) l ((s.c.doors (l.toNat-1)).many+1)=dq (k.kn 3) (k.kf 3) l ((s.c.doors (l.toNat-1)).many+1):=by rw[hP.ke];rfl
  rw[hn]at hK;have key:∀(x:Sd.Scene) (hx:bA k x=bA k s),x=tP s (l.toNat-1) (BM k l (s.c.doors (l.toNat-1)))->(ez k x (hx▸F)/\bV [.int .i64 l,.agg [.int .i64 129,.int .i64 0,.int .i64 0,.int .i64 0,.int .i64 0,.int .i64 0,.dC .u8 8 (BM k l (s.c.doors (l.toNat-1))).ae]] k x (hx▸F) λv s2 F2=>
   ez k s2 F2/\hU (ah tk) [.int .i64 2,.int .i64 l,.int .i64 0,.int .i64 0,.int .i64 0] k (dv s2) F2 λv s' F'=>aO k s Kb (.az []) (cS k s' F'++[⟨true,⟨66,(0,0)⟩,cw m⟩,⟨true,⟨102,(0,0)⟩,SP (BM k l (s.c.doors (l.toNat-1)))⟩]) [cB k s' F']):=by
   rintro x hx rfl;refine⟨eY hq,⟨⟨(show Rm (tP s _ _) 8 from hP.r).le (by decide),⟨(show(129:Int)<=129/\(129:Int)<=136 by decide),⟨Yz,.inr rfl⟩,⟨(show(0:Int)<=0/\(0:Int)<=3 by decide),.inr rfl⟩,⟨z4,.inr rfl⟩,⟨z16,.inr rfl⟩,⟨z8,.inr rfl⟩,⟨NG _ _ _ _,.inl rfl⟩⟩⟩,λF1=>⟨eY hq,fD ?_ λF2=>aM rfl hK F2⟩⟩⟩;have:=hP.r.2;simp only[Sd.Scene.tell,tP];omega
  exact key _ (hD _) (rU _)
theorem HB (tk:Nat->Sd.Byt->Option Sd.bW) (ht:Body (fr:=fr) 147 bV) (h1:Sound prog gS 143 (xw (fr:=fr) (ah tk))):Body (fr:=fr) 98 (tQ (ah tk)):=by
 refine dJ (n:=90) (aiX tk ht h1) ?_;intro ar k s F Kb h0 hq hM;unfold tQ at hM;split at hM
 ·rename_i l vp;have hP:=hM.1.2;have hK:=hM.2;have hv:vp=ei k:=hM.1.1;subst hv;have hl:l=1\/l=2\/l=3:=by have:=hP.l;omega
  rcases hl with rfl|rfl|rfl
  ·rw[YX];exact⟨⟨rfl,hP.zF.1,hP.zF.2⟩,λm e=>oc tk _ (λe=>jA (i:=0) (by decide) rfl rfl rfl) rfl (by decide) hq hP m 0 (.inl ⟨rfl,e⟩) hK,λe m c hc=>oc tk _ (λe=>jA (i:=0) (by decide) rfl rfl rfl) rfl (by decide) hq hP m c (.inr ⟨hc,e⟩) hK⟩
  ·rw[YY];exact⟨⟨rfl,hP.zF.1,hP.zF.2⟩,λm e=>oc tk _ (λe=>jA (i:=1) (by decide) rfl rfl rfl) rfl (by decide) hq hP m 0 (.inl ⟨rfl,e⟩) hK,λe m c hc=>oc tk _ (λe=>jA (i:=1) (by decide) rfl rfl rfl) rfl (by decide) hq hP m c (.inr ⟨hc,e⟩) hK⟩
  ·rw[YZ];exact⟨⟨rfl,hP.zF.1,hP.zF.2⟩,λm e=>oc tk _ (λe=>jA (i:=2) (by decide) rfl rfl rfl) rfl (by decide) hq hP m 0 (.inl ⟨rfl,e⟩) hK,λe m c hc=>oc tk _ (λe=>jA (i:=2) (by decide) rfl rfl rfl) rfl (by decide) hq hP m c (.inr ⟨hc,e⟩) hK⟩
 ·exact hM.elim
def TB3 (t:Sd.Tab):Prop:=(db t.aA.2.n/\db t.aA.2.most)/\(db (t.ay 0).aH.n/\db (t.ay 0).aH.most)/\(db (t.ay 1).aH.n/\db (t.ay 1).aH.most)/\(db (t.ay 2).aH.n/\db (t.ay 2).aH.most)
section
variable(C:Sd.Crypt) (k:LK) (s0:Sd.Scene) (Kb:SK fr k)
def PtB (p:Sd.Point):Prop:=db p.bx.a/\db p.bx.b/\db p.bx.c/\db p.bx.d/\db p.now.a/\db p.now.b/\db p.now.c/\db p.now.d
def pT (s:Sd.Scene):Sd.Scene:={s with c:={s.c with pt:=s.c.pt.step s.c.p}}
end
def gN:Nat->Option Nat:=λ_=>none
section
variable(most came:Int) (gq:aC) (es:List One) (K:VK aC)
end
def uT (n:Nat) (f:Nat->Int):Sd.bW:=match aT n f with
 |some m=>m
 |none=>Sd.aD 0
def xB (n:Nat) (f:Nat->Int):Int:=match aT n f with
 |some _=>0
 |none=>13
def Y2 (n:Nat) (f:Nat->Int):V:=.az [.agg (cw (uT n f)),.int .i64 (xB n f)]
theorem HG (n:Nat) (f:Nat->Int):Hu n f=Y2 n f:=by
 unfold Hu Y2 uT xB;cases aT n f<;>rfl
theorem HH (n:Nat) (f:Nat->Int):fK 0 (Y2 n f)=true:=rfl
theorem aeW (x:Option Addr) (c:Nat) (X:V->Prop):cJ (OL prog Cx Y1) 90 143 [.raw (.slice x 0 c)] [] [] (λv _ _=>X v)=X pM:=by kernel_rfl
theorem take_nil (x:Option Addr) (c:Nat) (f:Nat->Int) (w:World):aj prog 143 #[.slice x 0 c] w λv w1=>v=den [] (Hu 0 f)/\Ch [] w w1:=by
 have fU:cJ (OL prog Cx Y1) 90 143 [.raw (.slice x 0 c)] [] [] (λv _ _=>v=pM):=by rw[aeW]
 refine(bw BJ.TS BJ.QS 90 (C:=OL prog Cx Y1) (ids:=[]) (bl:=[]) (ch:=[]) (R:=[]) (ms:=[]) (w0:=w) (args:=[.raw (.slice x 0 c)]) (λg i h=>by cases h) rfl (St.nil [] w) fU).mono ?_;rintro v w' ⟨x,more,bl',ch',rfl,D8,S2,rfl⟩;refine⟨?_,S2.ch⟩;have:=bC (ids:=[]) (more:=[]++more) pM rfl;have e:Hu 0 f=pM:=rfl;rw[e];simpa using this
theorem Ew {b m n c:Nat} {f:Nat->Int} {t:List Value} {w:World} (hf:By f) (hn:n<=m) (hc:n<=c) (hB:w.heap[b]?=some (.cells ((List.range m).map (λj=>Value.int .u8 (f j))++t).toArray 5 (0,0))):
 aj prog 143 #[.slice (some ⟨b,0,none⟩) n c] w λv w1=>v=den [] (Hu n f)/\Ch [] w w1:=by
 refine YN b n c f (((List.range m).map (λj=>Value.int .u8 (f j))).drop n++t) hf hc w ?_;have e:(List.range n).map (λj=>Value.int .u8 (f j))=((List.range m).map (λj=>Value.int .u8 (f j))).take n:=by
  rw[<-List.map_take,List.take_range,Nat.min_eq_left hn]
 rw[e,<-List.append_assoc,List.take_append_drop];exact hB
def qtk:QF:=⟨143,λargs bl=>match args with
 |[.sl i 0 n c]=>(match bl[i]?with
  |some b=>(match b.c with
   |[.dC .u8 m f,.rest t]=>bif CR b.ty 5 then some ((n<=m/\n<=c/\By f),Y2 n f)else none
   |_=>none)
  |none=>none)
 |[.raw (.slice x 0 c)]=>some (True,Y2 0 λ_=>0)
 |_=>none⟩
theorem SW (gl:Nat->Option Nat):qtk.Ok prog gl:=by
 intro args bl p v h hp ids w hg hm;unfold qtk at h;dsimp only at h;split at h
 ·rename_i i n c;split at h
  ·rename_i b hb;split at h
   ·rename_i m f t hc;cases hq:CR b.ty 5 with
    |false=>rw[hq]at h;cases h
    |true=>
     rw[hq]at h;simp only[cond_true,Option.some.injEq,Prod.mk.injEq]at h;obtain⟨rfl,rfl⟩:=h;have ba:=hm.2 i b hb;rw[hc,Ar hq]at ba;have e:(ab ids [V.dC .u8 m f,.rest t]).toArray=((List.range m).map (λj=>Value.int .u8 (f j))++t).toArray:=by simp[ab,cl]
     rw[e]at ba;refine(Ew hp.2.2 hp.1 hp.2.1 ba).mono ?_;rintro x w' ⟨rfl,eZ⟩;refine⟨?_,eZ⟩;rw[HG];have:=bC (ids:=[]) (more:=ids) (Y2 n f) (HH n f);simpa using this.symm
   ·cases h
  ·cases h
 ·rename_i x c;obtain⟨rfl,rfl⟩:True=p/\Y2 0 (λ_=>0)=v:=by simpa using h
  refine(take_nil x c (λ_=>0) w).mono ?_;rintro y w' ⟨rfl,eZ⟩;refine⟨?_,eZ⟩;rw[HG];have:=bC (ids:=[]) (more:=ids) (Y2 0 λ_=>0) (HH 0 _);simpa using this.symm
 ·cases h
theorem Ex:Sound prog gS 143 (xw (fr:=fr) (ah aT)):=by
 intro args ids bl ch R ms w0 w K hg hl S hc;unfold xw at hc;split at hc
 ·rename_i vp g rest;obtain⟨⟨rfl,hn,hf⟩,h1,h2⟩:=hc;have e0:af (g::rest) R=g.F.B++af rest R:=rfl;have S':=S;rw[e0]at S';have main:aj prog 143 #[.slice g.d.k.px g.d.k.pn g.d.k.pc] w λv w1=>v=den [] (Hu g.d.k.pn g.d.k.pf)/\Ch [] w w1:=by
   obtain⟨b0,b1,b2,b3,b4,hB,k0,k1,k2,k3,k4⟩:=g.F.hk;have ba:∀y∈g.F.Bk,w.heap[y.id]?=some y.obj:=λy hy=>S'.at' (by rw[uS];simp[hy]);rw[hB]at ba;obtain⟨hle,h|⟨b,hx,hb⟩⟩:=k4
   ·obtain⟨_,hz,_,_⟩:=h;rw[hz];exact take_nil _ _ _ w
   ·have h4:=ba ⟨b,true,.cells (dc g.d.k.pn g.d.k.pf g.d.k.pc) 5 (0,0)⟩ (by simp[hb]);rw[hx];have e:∃t,dc g.d.k.pn g.d.k.pf g.d.k.pc=((List.range g.d.k.pn).map (λj=>Value.int .u8 (g.d.k.pf j))++t).toArray:=by
     exact⟨List.replicate (g.d.k.pc-g.d.k.pn) (.int .u8 0),by unfold dc;congr 2⟩
    obtain⟨t,e⟩:=e;rw[e]at h4;exact Ew hf (Nat.le_refl _) hle h4
  have ea:(ao ids [.raw (ei g.d.k)]).toArray=#[.slice g.d.k.px g.d.k.pn g.d.k.pc]:=rfl;rw[ea];refine main.mono ?_;rintro v w1 ⟨rfl,eZ⟩;refine⟨Hu g.d.k.pn g.d.k.pf,[],bl,g::rest,?_,by simpa using hl,by simpa using S.quiet eZ,?_⟩
  ·rw[HG];have:=bC (ids:=[]) (more:=ids++[]) (Y2 g.d.k.pn g.d.k.pf) (HH _ _);simpa using this.symm
  ·unfold Hu;cases h:aT g.d.k.pn g.d.k.pf with
   |some m=>exact h1 m h
   |none=>exact h2 h (Sd.aD 0) 13 (by decide)
 ·exact hc.elim
theorem NH (ht:Body (fr:=fr) 147 bV):Body (fr:=fr) 98 (tQ (ah aT)):=HB aT ht Ex
def pY (b m:Int):Sd.Pol:=⟨λi=>if i=42 then b else if i=49 then m else 0,λ_=>(0,λ_=>0)⟩
def SX:QT:=⟨149,λar y=>match ar with
 |[.int .i64 s,.int .i64 r,.agg [.dC .u8 32 key]]=>some ((0<=y.b/\y.b<=1000)/\1<=s/\s<=3,.int .i64 (Sd.Tab.br (pY y.b y.m) (aN y) s r key).2,(Sd.Tab.br (pY y.b y.m) (aN y) s r key).1)
 |_=>none⟩
theorem NI:SX.Ok:=by
 intro ar y p v t hm hp bt bs ms w0 w S;replace hm:(match(generalizing:=false) ar with
  |[.int .i64 s,.int .i64 r,.agg [.dC .u8 32 key]]=>some ((0<=y.b/\y.b<=1000)/\1<=s/\s<=3,V.int .i64 (Sd.Tab.br (pY y.b y.m) (aN y) s r key).2,(Sd.Tab.br (pY y.b y.m) (aN y) s r key).1)
  |_=>none)=some (p,v,t):=hm
 split at hm
 ·rename_i s r key;simp only[Option.some.injEq,Prod.mk.injEq]at hm;obtain⟨rfl,rfl,rfl⟩:=hm;obtain⟨hb,h1,h3⟩:=hp;rcases(by omega:s=1\/s=2\/s=3)with rfl|rfl|rfl
  ·exact Bw y 0 (by omega) r key (pY y.b y.m) rfl rfl S
  ·exact Bw y 1 (by omega) r key (pY y.b y.m) rfl rfl S
  ·exact Bw y 2 (by omega) r key (pY y.b y.m) rfl rfl S
 ·cases hm
def xC:gm (Gh fr):=λargs bl ch K=>match args,ch with
 |[.agg [.int .i64 m,.bool o,.dC .u8 8 nc],.raw vk,.int .i64 s,.int .i64 r,.agg [.dC .u8 8 pf]],g::rest=>
  (vk=.slice (g.d.k.ka (s.toNat-1)) (g.d.k.kn (s.toNat-1)) (g.d.k.kc (s.toNat-1))/\bl[0]?=some (aG g.d.k)/\(1<=s/\s<=3)/\(0<=r/\r<4294967296)/\(1<=g.d.k.kn (s.toNat-1)/\g.d.k.kn (s.toNat-1)<=64))/\
  cond (!o) (K (.az [.agg [.int .i64 m,.bool o,.dC .u8 8 nc],.agg [.dC .u8 32 λ_=>0],.int .i64 17]) bl (g::rest))
   (cond (lY (g.d.k.kn (s.toNat-1)) (g.d.k.kf (s.toNat-1)) s r nc pf)
    (K (.az [.agg [.int .i64 m,.bool false,.dC .u8 8 λ_=>0],.agg [.dC .u8 32 (jl (g.d.k.kn (s.toNat-1)) (g.d.k.kf (s.toNat-1)) s r nc)],.int .i64 0]) bl (g::rest))
    (K (.az [.agg [.int .i64 m,.bool false,.dC .u8 8 λ_=>0],.agg [.dC .u8 32 λ_=>0],.int .i64 14]) bl (g::rest)))
 |_,_=>False
theorem Ey:cT (xC (fr:=fr)):=by
 intro args bl ch K h;unfold xC at h⊢;split at h
 ·rename_i m o nc vk s r pf g rest;refine⟨h.1,?_⟩;have h2:=h.2;cases o with
  |false=>exact⟨h2,[],by simp⟩
  |true=>
   cases hr:lY (g.d.k.kn (s.toNat-1)) (g.d.k.kf (s.toNat-1)) s r nc pf with
   |true=>rw[hr]at h2;exact⟨h2,[],by simp⟩
   |false=>rw[hr]at h2;exact⟨h2,[],by simp⟩
 ·exact h.elim
theorem Ez:Sound prog gS 148 (xC (fr:=fr)):=by
 intro args ids bl ch R ms w0 w K hg hl S hc;unfold xC at hc;split at hc
 ·rename_i m o nc vk s r pf g rest;obtain⟨⟨rfl,hr,hs,hrr,hk⟩,hK⟩:=hc;have e0:af (g::rest) R=g.F.B++af rest R:=rfl;have S':=S;rw[e0]at S';have hi:s.toNat-1<4:=by omega
  have Er:=J5 g.F S' (s.toNat-1) hi (by omega) (by omega);have gd:=J6 hg hl S hr;generalize hI:s.toNat-1=i at*;have e:(ao ids [.agg [.int .i64 m,.bool o,.dC .u8 8 nc],.raw (.slice (g.d.k.ka i) (g.d.k.kn i) (g.d.k.kc i)),.int .i64 s,.int .i64 r,.agg [.dC .u8 8 pf]]).toArray=#[.agg #[.int .i64 m,.bool o,.int .u8 (nc 0),.int .u8 (nc 1),.int .u8 (nc 2),.int .u8 (nc 3),.int .u8 (nc 4),.int .u8 (nc 5),.int .u8 (nc 6),.int .u8 (nc 7)],.slice (g.d.k.ka i) (g.d.k.kn i) (g.d.k.kc i),.int .i64 s,.int .i64 r,.agg (ak .u8 8 pf)]:=by kernel_rfl
  rw[e];have Wk:0<=s/\s<4294967296:=by omega
  cases o with
  |false=>
   refine(GI (g.d.k.ka i) (g.d.k.kn i) (g.d.k.kc i) (g.d.k.kf i) s r ⟨m,false,nc⟩ pf rfl w).mono ?_;rintro v w1 ⟨rfl,eZ⟩;exact⟨_,[],bl,g::rest,by kernel_rfl,by simpa using hl,by simpa using S.quiet eZ,hK⟩
  |true=>
   cases hq:lY (g.d.k.kn i) (g.d.k.kf i) s r nc pf with
   |true=>
    rw[hq]at hK;refine(Rb (g.d.k.ka i) (g.d.k.kn i) (g.d.k.kc i) (g.d.k.kf i) s r ⟨m,true,nc⟩ pf hk Wk hrr rfl hq w gd Er).mono ?_;rintro v w1 ⟨rfl,eZ⟩;exact⟨.az [.agg [.int .i64 m,.bool false,.dC .u8 8 λ_=>0],.agg [.dC .u8 32 (jl (g.d.k.kn i) (g.d.k.kf i) s r nc)],.int .i64 0],[],bl,g::rest,by kernel_rfl,by simpa using hl,by simpa using S.quiet eZ,hK⟩
   |false=>
    rw[hq]at hK;refine(MU (g.d.k.ka i) (g.d.k.kn i) (g.d.k.kc i) (g.d.k.kf i) s r ⟨m,true,nc⟩ pf hk Wk hrr rfl hq w gd Er).mono ?_;rintro v w1 ⟨rfl,eZ⟩;exact⟨.az [.agg [.int .i64 m,.bool false,.dC .u8 8 λ_=>0],.agg [.dC .u8 32 λ_=>0],.int .i64 14],[],bl,g::rest,by kernel_rfl,by simpa using hl,by simpa using S.quiet eZ,hK⟩
 ·exact hc.elim
def LP (fr:Sd.Reply->Nat×Sd.Byt) (C:Sd.Crypt):List (dI (Gh fr)):=qE (Gh fr) qtk::⟨148,true,xC⟩::⟨149,false,YU SX⟩::L8 fr C
theorem ai8 (tk:Nat->Sd.Byt->Option Sd.bW) (ht:Body (fr:=fr) 147 bV):ai prog gS (LP fr (ah tk)):=
 ai.cons ⟨qI (SW gS),λ_=>qH _⟩ (ai.cons ⟨Ez,λ_=>Ey⟩ (ai.cons (Hs NI) (xp tk ht)))
def eM (n:Nat) (f:Nat->Int) (t:List Value):VB:=⟨true,⟨5,(0,0)⟩,[.dC .u8 n f,.rest t]⟩
def SY (k:LK) (s:Sd.Scene) (n:Nat) (f:Nat->Int) (t:List Value) (Kb:SK fr k):V->List VB->List (Gh fr)->Prop:=λv bl ch=>∃s' F',fK 0 v=true/\s'.c.p=s.c.p/\Kb v s' F'/\bl.take 6=cS k s' F'++[eM n f t]/\ch=[cB k s' F']
def EA (s:Sd.Scene) (a b c:Sd.dQ) (E:Sd.Tab):Sd.Scene:={s with c:={s.c with doors:=r3 a b c s.c.doors,tab:=⟨E.aA,r3 (E.ay 0) (E.ay 1) (E.ay 2) s.c.tab.ay⟩}}
def Zk (s:Sd.Scene) (l r:Int) (key:Nat->Int):Sd.Tab×Int:=Sd.Tab.br (pY s.c.p.bh s.c.p.aR) (dw s.c.tab) l r key
section
variable(C:Sd.Crypt) (k:LK) (s:Sd.Scene) (F:bN fr (bA k s)) (Kb:SK fr k) (l:Int) (i:Nat) (e:Nat) (f:Nat->Int) (t:List Value) (D:Sd.dQ->Sd.Scene) (DT:Sd.dQ->Sd.Tab->Sd.Scene)
def lf (s0:Sd.Scene) (s':Sd.Scene) (F':bN fr (bA k s')):Prop:=SY k s0 10 f t Kb (.az []) (cS k s' F'++[eM 10 f t]) [cB k s' F']
def yS (d:Sd.dQ):Sd.dQ:=⟨d.many,false,λ_=>0⟩
def aeX (hD:∀e,bA k (D e)=bA k s) (V3:∀e E,bA k (DT e E)=bA k s):Prop:=
 let d:=s.c.doors i
 let m:=uT 2 f
 let key:=jl (k.kn i) (k.kf i) l m.role d.ae
 let E:=Zk s l m.role key
 (2<=10/\2<=e+10/\By f)/\cond (xB 2 f !=0) (ez k s F/\tM C [.int .i64 l,.int .i64 13] k (dv s) F λv s' F'=>lf k Kb f t s s' F')
 ((Value.slice (k.ka i) (k.kn i) (k.kc i)=.slice (k.ka i) (k.kn i) (k.kc i)/\some (aG k)=some (aG k)/\(1<=l/\l<=3)/\(0<=m.role/\m.role<4294967296)/\(1<=k.kn i/\k.kn i<=64))/\
   cond (!d.sG) (ez k (D d) (hD d▸F)/\rp C [.int .i64 l,.int .i64 0,.int .i64 17] k (D d) (hD d▸F) λv s' F'=>lf k Kb f t s s' F')
   (cond (lY (k.kn i) (k.kf i) l m.role d.ae λj=>f (2+j))
    (True/\cond (!(Sd.fm s.c.p l m.role)) (ez k (D (yS d)) (hD (yS d)▸F)/\rp C [.int .i64 l,.int .i64 0,.int .i64 18] k (D (yS d)) (hD (yS d)▸F) λv s' F'=>lf k Kb f t s s' F')
     (((0<=s.c.p.bh/\s.c.p.bh<=1000)/\1<=l/\l<=3)/\cond (E.2!=0) (ez k (DT (yS d) E.1) (V3 (yS d) E.1▸F)/\rp C [.int .i64 l,.int .i64 0,.int .i64 E.2] k (DT (yS d) E.1) (V3 (yS d) E.1▸F) λv s' F'=>lf k Kb f t s s' F')
       (ez k (DT (yS d) E.1) (V3 (yS d) E.1▸F)/\bV [.int .i64 l,.agg (il 130 0 m.role s.c.t.holder s.c.t.epoch 0)] k (DT (yS d) E.1) (V3 (yS d) E.1▸F) λv s2 F2=>
        ez k s2 F2/\hU C [.int .i64 3,.int .i64 l,.int .i64 0,.int .i64 0,.int .i64 0] k (dv s2) F2 λv s' F'=>lf k Kb f t s s' F')))
    (ez k (D (yS d)) (hD (yS d)▸F)/\tM C [.int .i64 l,.int .i64 14] k (D (yS d)) (hD (yS d)▸F) λv s' F'=>lf k Kb f t s s' F')))
end
def BP (fr:Sd.Reply->Nat×Sd.Byt) (C:Sd.Crypt) (l:Int) (i:Nat) (D:Sd.Scene->Sd.dQ->Sd.Scene) (DT:Sd.Scene->Sd.dQ->Sd.Tab->Sd.Scene) (hD:∀k s e,bA k (D s e)=bA k s) (V3:∀k s e E,bA k (DT s e E)=bA k s):Prop:=∀(k:LK) (s:Sd.Scene) (F:bN fr (bA k s)) (Kb:SK fr k) (e:Nat) (f:Nat->Int) (t:List Value),
 cJ (dR prog gS (LP fr C)) 90 99 [.ptr 2 0,.int .i64 l,.sl 5 0 10 (e+10)] (cS k s F++[eM 10 f t]) [cB k s F] (SY k s 10 f t Kb)=aeX C k s F Kb l i e f t (D s) (DT s) (hD k s) (V3 k s)
theorem Y3 (fr:Sd.Reply->Nat×Sd.Byt) (C:Sd.Crypt):BP fr C 1 0 (λs e=>Es s e (s.c.doors 1) (s.c.doors 2)) (λs e E=>EA s e (s.c.doors 1) (s.c.doors 2) E) (λ_ _ _=>rfl) (λ_ _ _ _=>rfl):=λk s F Kb e f t=>by kernel_rfl
theorem Y4 (fr:Sd.Reply->Nat×Sd.Byt) (C:Sd.Crypt):BP fr C 2 1 (λs e=>Es s (s.c.doors 0) e (s.c.doors 2)) (λs e E=>EA s (s.c.doors 0) e (s.c.doors 2) E) (λ_ _ _=>rfl) (λ_ _ _ _=>rfl):=λk s F Kb e f t=>by kernel_rfl
theorem Y5 (fr:Sd.Reply->Nat×Sd.Byt) (C:Sd.Crypt):BP fr C 3 2 (λs e=>Es s (s.c.doors 0) (s.c.doors 1) e) (λs e E=>EA s (s.c.doors 0) (s.c.doors 1) e E) (λ_ _ _=>rfl) (λ_ _ _ _=>rfl):=λk s F Kb e f t=>by kernel_rfl
theorem NJ (fr:Sd.Reply->Nat×Sd.Byt) (C:Sd.Crypt) (k:LK) (s:Sd.Scene) (F:bN fr (bA k s)) (Kb:SK fr k) (l:Int):cJ (dR prog gS (LP fr C)) 90 99 [.ptr 2 0,.int .i64 l,.raw (ei k)] (cS k s F) [cB k s F] (aO k s Kb)
 =cond ((k.pn:Int)!=10) (ez k s F/\tM C [.int .i64 l,.int .i64 13] k (dv s) F λv s' F'=>aO k s Kb (.az []) (cS k s' F') [cB k s' F']) (((0:Int)<=2/\(2:Int)<=(k.pc:Int))/\False):=by kernel_rfl
structure Y6 (k:LK) (s:Sd.Scene) (l:Int):Prop where
 r:Rm s 8
 lo:1<=l/\l<=3
 key:1<=k.kn (l.toNat-1)/\k.kn (l.toNat-1)<=64
 ke:s.c.p.k (l.toNat-1)=(k.kn (l.toNat-1),k.kf (l.toNat-1))
 bh:0<=s.c.p.bh/\s.c.p.bh<=1000
 fT:N4 s.c.t.holder
 ep:VZ s.c.t.epoch
def xD (s:Sd.Scene) (i:Nat) (e:Sd.dQ) (t:Sd.Tab):Sd.Scene:={s with c:={s.c with doors:=λj=>if j=i then e else s.c.doors j,tab:=t}}
theorem nB (s:Sd.Scene) (l r:Int) (key:Nat->Int):(Zk s l r key).2=(Sd.Tab.br s.c.p s.c.tab l r key).2/\(Zk s l r key).1.aA=(Sd.Tab.br s.c.p s.c.tab l r key).1.aA/\(1<=l/\l<=3->(∀j,j<3->(Zk s l r key).1.ay j=(Sd.Tab.br s.c.p s.c.tab l r key).1.ay j)/\∀j,(Sd.Tab.br s.c.p s.c.tab l r key).1.ay (j+3)=s.c.tab.ay (j+3)):=by
 have hm:(dw s.c.tab).many=s.c.tab.many:=rfl;have hp:(pY s.c.p.bh s.c.p.aR).aR=s.c.p.aR:=rfl;have hb:(pY s.c.p.bh s.c.p.aR).bh=s.c.p.bh:=rfl;have q3:∀j,j<3->(dw s.c.tab).ay j=s.c.tab.ay j:=by
  intro j hj;have:j=0\/j=1\/j=2:=by omega
  rcases this with rfl|rfl|rfl<;>rfl
 unfold Zk Sd.Tab.br;rw[w9,hm,hp,hb];split
 ·exact⟨rfl,rfl,λ_=>⟨q3,λ_=>rfl⟩⟩
 ·split
  ·exact⟨rfl,rfl,λ_=>⟨q3,λ_=>rfl⟩⟩
  ·refine⟨rfl,rfl,λhl=>⟨λj hj=>?_,λj=>?_⟩⟩
   ·simp only[Sd.Tab.dT];split
    ·rfl
    ·exact q3 j hj
   ·simp only[Sd.Tab.dT];rw[if_neg (by omega)]
theorem xE {s:Sd.Scene} {a b c:Sd.dQ} {i:Nat} {e:Sd.dQ} {E t:Sd.Tab} (hi:i<3) (ha:a=if 0=i then e else s.c.doors 0) (hb:b=if 1=i then e else s.c.doors 1) (hc:c=if 2=i then e else s.c.doors 2) (h1:E.aA=t.aA) (h2:∀j,j<3->E.ay j=t.ay j) (h3:∀j,t.ay (j+3)=s.c.tab.ay (j+3)):EA s a b c E=xD s i e t:=by
 unfold EA xD;have h:r3 a b c s.c.doors=λj=>if j=i then e else s.c.doors j:=by
  funext j
  match j with
  |0=>exact ha
  |1=>exact hb
  |2=>exact hc
  |j+3=>exact(if_neg (by omega)).symm
 have e:r3 (E.ay 0) (E.ay 1) (E.ay 2) s.c.tab.ay=t.ay:=by
  funext j
  match j with
  |0=>exact h2 0 (by decide)
  |1=>exact h2 1 (by decide)
  |2=>exact h2 2 (by decide)
  |j+3=>exact(h3 j).symm
 rw[h,e,h1]
theorem Kf {k:LK} {s0:Sd.Scene} {Kb:SK fr k} {f:Nat->Int} {t:List Value} {s' sF:Sd.Scene} (e:s'=sF) (hK:∀F,Kb (.az []) sF F) (F':bN fr (bA k s')) (hp:s'.c.p=s0.c.p:=by rfl):lf k Kb f t s0 s' F':=by
 subst e;exact⟨s',F',rfl,hp,hK F',rfl,rfl⟩
theorem rQ {n:Nat} {f:Nat->Int} (P:Sd.bW->Prop):∀(l:List Fd) (off:Nat) (m r:Sd.bW),(∀d∈l,∀v,d.low<=v->v<=d.high->∀m,P m->P (d.set v m))->P m->runM n f l off m=some r->P r
 |[],off,m,r,_,hm,h=>by
  unfold runM at h;split at h
  ·cases h;exact hm
  ·cases h
 |d::l,off,m,r,hd,hm,h=>by
  unfold runM at h;split at h
  ·cases h
  ·split at h
   ·cases h
   ·rename_i hv;exact rQ P l _ _ r (λx hx=>hd x (by simp[hx])) (hd d (by simp) _ (by omega) (by omega) m hm) h
structure Kg (k:Int) (m:Sd.bW):Prop where
 kind:m.kind=k
 seq:0<=m.seq/\m.seq<=4294967295
 role:0<=m.role/\m.role<=3
 bx:0<=m.bx/\m.bx<=4
 epoch:0<=m.epoch/\m.epoch<=65535
 mode:0<=m.mode/\m.mode<=4
 cls:0<=m.cls/\m.cls<=3
def okB (d:Fd):Prop:=∀v,d.low<=v->v<=d.high->∀k m,Kg k m->Kg k (d.set v m)
theorem Y7:okB oS:=λv h1 h2 k m h=>⟨h.kind,h.seq,⟨h1,h2⟩,h.bx,h.epoch,h.mode,h.cls⟩
theorem aeY:okB ig:=λv h1 h2 k m h=>⟨h.kind,⟨h1,h2⟩,h.role,h.bx,h.epoch,h.mode,h.cls⟩
theorem ai9:okB rN:=λv h1 h2 k m h=>⟨h.kind,h.seq,h.role,⟨h1,h2⟩,h.epoch,h.mode,h.cls⟩
theorem SZ:okB gf:=λv h1 h2 k m h=>⟨h.kind,h.seq,h.role,h.bx,⟨h1,h2⟩,h.mode,h.cls⟩
theorem Y8:okB rj:=λv h1 h2 k m h=>⟨h.kind,h.seq,h.role,h.bx,h.epoch,⟨h1,h2⟩,h.cls⟩
theorem aeZ:okB yQ:=λv h1 h2 k m h=>⟨h.kind,h.seq,h.role,h.bx,h.epoch,h.mode,⟨Int.le_trans (by decide) h1,h2⟩⟩
theorem ae0:okB D0:=λv h1 h2 k m h=>⟨h.kind,h.seq,h.role,h.bx,h.epoch,h.mode,h.cls⟩
theorem abK (i:Nat) (hi:i<4) (v:Int) (m:Sd.bW):((fX i).set v m).kind=m.kind/\((fX i).set v m).seq=m.seq/\((fX i).set v m).role=m.role/\((fX i).set v m).bx=m.bx/\((fX i).set v m).epoch=m.epoch/\((fX i).set v m).mode=m.mode/\((fX i).set v m).cls=m.cls:=by
 have:i=0\/i=1\/i=2\/i=3:=by omega
 rcases this with rfl|rfl|rfl|rfl<;>exact⟨rfl,rfl,rfl,rfl,rfl,rfl,rfl⟩
theorem Y9 (i:Nat) (hi:i<4):okB (fX i):=λv h1 h2 k m h=>by
 obtain⟨a,b,c,d,e,g,j⟩:=abK i hi v m;exact⟨a.trans h.kind,by rw[b];exact h.seq,by rw[c];exact h.role,by rw[d];exact h.bx,by rw[e];exact h.epoch,by rw[g];exact h.mode,by rw[j];exact h.cls⟩
theorem z0 (n:Int) (h:0<=n):(0:Int)<=0/\(0:Int)<=n:=⟨Int.le_refl 0,h⟩
theorem Y_ (k:Int):Kg k (Sd.aD k):=⟨rfl,z0 _ (by decide),z0 _ (by decide),z0 _ (by decide),z0 _ (by decide),z0 _ (by decide),z0 _ (by decide)⟩
theorem ae1 {k:Int} {l:List Fd} (h:Wc k=some l):∀d∈l,okB d:=by
 have a1:=Y7;have a2:=aeY;have a3:=ai9;have a4:=SZ;have a5:=Y8;have a6:=aeZ;have a7:=ae0
 have b0:=Y9 0 (by decide);have b1:=Y9 1 (by decide);have b2:=Y9 2 (by decide);have b3:=Y9 3 (by decide)
 unfold Wc at h
 repeat' split at h
 all_goals first|(cases h;done)|(obtain rfl:=Option.some.inj h;intro d hd;simp at hd;rcases hd with rfl|rfl|rfl|rfl|rfl|rfl|rfl<;>assumption)|(obtain rfl:=Option.some.inj h;intro d hd;simp at hd;rcases hd with rfl|rfl|rfl<;>assumption)|(obtain rfl:=Option.some.inj h;intro d hd;simp at hd;rcases hd with rfl|rfl<;>assumption)|(obtain rfl:=Option.some.inj h;intro d hd;simp at hd;subst hd;assumption)
theorem S7 {k:Int} {l:List Fd} (h:Wc k=some l):1<=k/\k<=11:=by
 unfold Wc at h
 repeat' split at h
 all_goals first|(cases h;done)|omega
theorem HI {n:Nat} {f:Nat->Int} {m:Sd.bW} (h:aT n f=some m):Sd.wN m:=by
 unfold aT at h;split at h
 ·cases h
 ·split at h
  ·rename_i l hl;have hb:=rQ (Kg (f 0)) l 1 _ m (λd hd v h1 h2 m hm=>ae1 hl d hd v h1 h2 _ m hm) (Y_ _) h;have hk:=S7 hl;refine⟨by rw[hb.kind];exact hk,hb.seq,hb.role,hb.bx,hb.epoch,hb.mode,hb.cls,?_⟩;intro h11;rw[hb.kind]at h11;have ama:l=[ig,gf,yQ,fX 0,fX 1,fX 2,fX 3]:=by
    rw[h11]at hl;exact(Option.some.inj hl).symm
   subst ama;unfold runM at h;split at h
   ·cases h
   split at h
   ·cases h
   unfold runM at h;split at h
   ·cases h
   split at h
   ·cases h
   unfold runM at h;split at h
   ·cases h
   split at h
   ·cases h
   rename_i hv;refine rQ (λm=>1<=m.cls) _ _ _ m ?_ ?_ h
   ·intro d hd v _ _ m hm;have:∃i,i<4/\d=fX i:=by
     simp at hd;rcases hd with rfl|rfl|rfl|rfl
     ·exact⟨0,by decide,rfl⟩
     ·exact⟨1,by decide,rfl⟩
     ·exact⟨2,by decide,rfl⟩
     ·exact⟨3,by decide,rfl⟩
    obtain⟨i,hi,rfl⟩:=this;show 1<=((fX i).set v m).cls;rw[(abK i hi v m).2.2.2.2.2.2];exact hm
   ·have h1:yQ.low=1:=rfl;have:∀v m,(yQ.set v m).cls=v:=λv m=>rfl;show 1<=(yQ.set _ _).cls;rw[this];omega
  ·cases h
theorem ai_ {n:Nat} {f:Nat->Int} (h:aT n f≠none):0<=(uT n f).role/\(uT n f).role<=3:=by
 unfold uT;cases hh:aT n f with
 |some m=>exact(HI hh).role
 |none=>exact absurd hh h
theorem Kh {n:Nat} {f:Nat->Int} (h:(xB n f !=0)=false):aT n f=some (uT n f):=by
 unfold xB at h;unfold uT;cases hh:aT n f with
 |some m=>rfl
 |none=>rw[hh]at h;simp at h
theorem Ki {n:Nat} {f:Nat->Int} (h:(xB n f !=0)=true):aT n f=none:=by
 unfold xB at h;cases hh:aT n f with
 |some m=>rw[hh]at h;simp at h
 |none=>rfl
theorem BQ {k:LK} {s:Sd.Scene} {F:bN fr (bA k s)} {Kb:SK fr k} {l:Int} {i e:Nat} {f:Nat->Int} {t:List Value} {D:Sd.dQ->Sd.Scene} {DT:Sd.dQ->Sd.Tab->Sd.Scene} {hD:∀e,bA k (D e)=bA k s} {V3:∀e E,bA k (DT e E)=bA k s}
 (rU:∀e,D e=tP s i e) (ae2:∀e r key,DT e (Zk s l r key).1=xD s i e (Sd.Tab.br s.c.p s.c.tab l r key).1) (hi:l.toNat-1=i) (h3:i<3) (hq:s.c.p.queue=k.most) (hP:Y6 k s l) (hf:By f) (hK:∀F',Kb (.az []) (s.prove (ah aT) l 10 f) F'):
 aeX (ah aT) k s F Kb l i e f t D DT hD V3:=by
 subst hi;have hP1:=hP.r;have hKk:s.c.p.k (l.toNat-1)=(k.kn (l.toNat-1),k.kf (l.toNat-1)):=hP.ke;have ae3:∀(x:Sd.Scene) (hx:bA k x=bA k s) (c:Int) (sF:Sd.Scene),x.c.p=s.c.p->N8 c->x.refuse (ah aT) l 0 c=sF->(∀F,Kb (.az []) sF F)->ez k x (hx▸F)/\rp (ah aT) [.int .i64 l,.int .i64 0,.int .i64 c] k x (hx▸F) λv s' F'=>lf k Kb f t s s' F':=by
  intro x hx c sF hp hc hE hKF;have hs:x.sent=s.sent:=congrArg FD.sent hx;have hr:x.recs=s.recs:=congrArg FD.recs hx;refine⟨eY (by rw[hp];exact hq),⟨⟨by rw[hs];have:=hP1.1;omega,by rw[hr];have:=hP1.2;omega⟩,Yz,hc⟩,λF1=>Kf hE hKF F1 hp⟩
 have amb:∀(x:Sd.Scene) (hx:bA k x=bA k s) (c:Int) (sF:Sd.Scene),x.c.p=s.c.p->x.dp (ah aT) l c=sF->(∀F,Kb (.az []) sF F)->ez k x (hx▸F)/\tM (ah aT) [.int .i64 l,.int .i64 c] k x (hx▸F) λv s' F'=>lf k Kb f t s s' F':=by
  intro x hx c sF hp hE hKF;have hr:x.recs=s.recs:=congrArg FD.recs hx;exact⟨eY (by rw[hp];exact hq),by show x.recs.length<=1000;rw[hr];have:=hP1.2;omega,λF1=>Kf hE hKF F1 hp⟩
 have hpr:s.prove (ah aT) l 10 f=match aT 2 f with
  |none=>s.dp (ah aT) l 13
  |some m=>if(s.c.doors (l.toNat-1)).sG=false then s.refuse (ah aT) l 0 17
   else if lY (k.kn (l.toNat-1)) (k.kf (l.toNat-1)) l m.role (s.c.doors (l.toNat-1)).ae (λj=>f (2+j))=false then(tP s (l.toNat-1) (yS (s.c.doors (l.toNat-1)))).dp (ah aT) l 14
   else if Sd.fm s.c.p l m.role=false then(tP s (l.toNat-1) (yS (s.c.doors (l.toNat-1)))).refuse (ah aT) l 0 18
   else if(Sd.Tab.br s.c.p s.c.tab l m.role (jl (k.kn (l.toNat-1)) (k.kf (l.toNat-1)) l m.role (s.c.doors (l.toNat-1)).ae)).2≠0 then(tP s (l.toNat-1) (yS (s.c.doors (l.toNat-1)))).refuse (ah aT) l 0 (Sd.Tab.br s.c.p s.c.tab l m.role (jl (k.kn (l.toNat-1)) (k.kf (l.toNat-1)) l m.role (s.c.doors (l.toNat-1)).ae)).2
   else((xD s (l.toNat-1) (yS (s.c.doors (l.toNat-1))) (Sd.Tab.br s.c.p s.c.tab l m.role (jl (k.kn (l.toNat-1)) (k.kf (l.toNat-1)) l m.role (s.c.doors (l.toNat-1)).ae)).1).tell l ⟨130,0,m.role,s.c.t.holder,s.c.t.epoch,0,λ_=>0⟩).record (ah aT) 3 l 0 0 0:=by
  unfold Sd.Scene.prove;rw[if_neg (by decide)];show(match aT 2 f with|none=>_|some m=>_)=_;cases aT 2 f with
  |none=>rfl
  |some m=>
   simp only[ah,hKk];rfl
 unfold aeX;refine⟨⟨by decide,by omega,hf⟩,aU (λe=>?_) (λe=>?_)⟩
 ·rw[hpr,Ki e]at hK;exact⟨eY hq,w_ hP.r.r1 λF1=>Kf rfl hK F1⟩
 ·have hm:=Kh e;have abL:=ai_ (n:=2) (f:=f) (by rw[hm];simp);rw[hpr,hm]at hK;simp only at hK;refine⟨⟨rfl,rfl,hP.lo,⟨abL.1,by omega⟩,hP.key⟩,aU (λe1=>?_) (λe1=>aU (λe2=>⟨trivial,aU (λe3=>?_) (λe3=>⟨⟨hP.bh,hP.lo⟩,aU (λe4=>?_) (λe4=>?_)⟩)⟩) (λe2=>?_))⟩
  ·rw[if_pos (by simpa using e1)]at hK;refine ae3 _ (hD _) 17 _ (by rw[rU];rfl) ⟨by decide,by decide⟩ ?_ hK;rw[rU];have:tP s (l.toNat-1) (s.c.doors (l.toNat-1))=s:=by
    unfold tP;have:(λj=>if j=l.toNat-1 then s.c.doors (l.toNat-1)else s.c.doors j)=s.c.doors:=by funext j;split<;>simp_all
    rw[this]
   rw[this]
  ·rw[if_neg (by simpa using e1),if_neg (by rw[e2];decide),if_pos (by simpa using e3)]at hK;exact ae3 _ (hD _) 18 _ (by rw[rU];rfl) ⟨by decide,by decide⟩ (by rw[rU]) hK
  ·obtain⟨b2,b1,b3⟩:=nB s l (uT 2 f).role (jl (k.kn (l.toNat-1)) (k.kf (l.toNat-1)) l (uT 2 f).role (s.c.doors (l.toNat-1)).ae);rw[b2]at e4⊢;have e4':(Sd.Tab.br s.c.p s.c.tab l (uT 2 f).role (jl (k.kn (l.toNat-1)) (k.kf (l.toNat-1)) l (uT 2 f).role (s.c.doors (l.toNat-1)).ae)).2≠0:=by simpa using e4
   rw[if_neg (by simpa using e1),if_neg (by rw[e2];decide),if_neg (by simpa using e3),if_pos e4']at hK;have hbg:(Sd.Tab.br s.c.p s.c.tab l (uT 2 f).role (jl (k.kn (l.toNat-1)) (k.kf (l.toNat-1)) l (uT 2 f).role (s.c.doors (l.toNat-1)).ae)).1=s.c.tab/\N8 (Sd.Tab.br s.c.p s.c.tab l (uT 2 f).role (jl (k.kn (l.toNat-1)) (k.kf (l.toNat-1)) l (uT 2 f).role (s.c.doors (l.toNat-1)).ae)).2:=by
    revert e4';unfold Sd.Tab.br;split
    ·intro _;exact⟨rfl,(show N8 1 from⟨by decide,by decide⟩)⟩
    ·split
     ·intro _;exact⟨rfl,(show N8 19 from⟨by decide,by decide⟩)⟩
     ·intro h;exact absurd rfl h
   refine ae3 _ (V3 _ _) _ _ (by rw[ae2];rfl) hbg.2 ?_ hK;rw[ae2,hbg.1];rfl
  ·obtain⟨b2,b1,b3⟩:=nB s l (uT 2 f).role (jl (k.kn (l.toNat-1)) (k.kf (l.toNat-1)) l (uT 2 f).role (s.c.doors (l.toNat-1)).ae);rw[b2]at e4;rw[if_neg (by simpa using e1),if_neg (by rw[e2];decide),if_neg (by simpa using e3),if_neg (by simpa using e4)]at hK;have key:∀(x:Sd.Scene) (hx:bA k x=bA k s),x=xD s (l.toNat-1) (yS (s.c.doors (l.toNat-1))) (Sd.Tab.br s.c.p s.c.tab l (uT 2 f).role (jl (k.kn (l.toNat-1)) (k.kf (l.toNat-1)) l (uT 2 f).role (s.c.doors (l.toNat-1)).ae)).1->
    (ez k x (hx▸F)/\bV [.int .i64 l,.agg (il 130 0 (uT 2 f).role s.c.t.holder s.c.t.epoch 0)] k x (hx▸F) λv s2 F2=>ez k s2 F2/\hU (ah aT) [.int .i64 3,.int .i64 l,.int .i64 0,.int .i64 0,.int .i64 0] k (dv s2) F2 λv s' F'=>lf k Kb f t s s' F'):=by
    rintro x hx rfl;refine⟨eY hq,⟨⟨(show Rm (xD s _ _ _) 8 from hP.r).le (by decide),⟨(show(129:Int)<=130/\(130:Int)<=136 by decide),⟨Yz,.inr rfl⟩,⟨abL,.inl rfl⟩,⟨hP.fT,.inl (.inl rfl)⟩,⟨hP.ep,.inl (.inl rfl)⟩,⟨(show N8 0 from⟨by decide,by decide⟩),.inr rfl⟩,⟨λj=>(show(0:Int)<=0/\(0:Int)<=255 from⟨by decide,by decide⟩),.inr rfl⟩⟩⟩,λF2=>⟨eY hq,fD ?_ λF3=>Kf rfl hK F3⟩⟩⟩;have:=hP.r.2;simp only[Sd.Scene.tell,xD];omega
   exact key _ (V3 _ _) (ae2 _ _ _)
  ·rw[if_neg (by simpa using e1),if_pos e2]at hK;exact amb _ (hD _) 14 _ (by rw[rU];rfl) (by rw[rU]) hK
def ll (k:LK):LK:={k with px:=none,pn:=0,pc:=0}
def xF (C:Sd.Crypt):SM fr:=λar k s F K=>match ar with
 |[.int .i64 l,.raw vp]=>(vp=ei k/\Y6 k s l/\By k.pf)/\∀F',K (.az []) (s.prove C l k.pn k.pf) F'
 |_=>False
theorem aja (a b c:Nat) (more:List Nat):Gl gS (a_ a b c++more):=by
 intro g i iX;unfold gS at iX;split at iX
 ·obtain rfl:=Option.some.inj iX;exact⟨by simp,rfl⟩
 ·obtain rfl:=Option.some.inj iX;exact⟨by simp,rfl⟩
 ·cases iX
theorem Za {k:LK} {s:Sd.Scene} (F:bN fr (bA k s)) (h0:0<k.pn):∃(bp:Nat) (t:List Value) (F0:bN fr (bA (ll k) s)),k.px=some ⟨bp,0,none⟩/\k.pn<=k.pc/\F0.vs=F.vs/\F0.vr=F.vr/\F.B=F0.B++[⟨bp,true,.cells (ab [] (eM k.pn k.pf t).c).toArray 5 (0,0)⟩]/\
 (ab [] (eM k.pn k.pf t).c).toArray=dc k.pn k.pf k.pc:=by
 obtain⟨b0,b1,b2,b3,b4,hB,k0,k1,k2,k3,k4⟩:=F.hk;obtain⟨hle,h|⟨bp,hx,hb⟩⟩:=k4
 ·have:=h.2.1;simp only[bA]at this;omega
 ·have e:(ab [] (eM k.pn k.pf (List.replicate (k.pc-k.pn) (.int .u8 0))).c).toArray=dc k.pn k.pf k.pc:=by
   simp[eM,ab,cl,dc,eE]
  refine⟨bp,List.replicate (k.pc-k.pn) (.int .u8 0),{F with Bk:=b0++(b1++(b2++(b3++[]))),hk:=⟨b0,b1,b2,b3,[],rfl,k0,k1,k2,k3,⟨Nat.le_refl _,.inl ⟨rfl,rfl,rfl,rfl⟩⟩⟩},hx,hle,rfl,rfl,?_,e⟩;rw[e,uS,uS];show _=(F.Br++(F.Bs++(F.Bf++(F.Bq++(b0++(b1++(b2++(b3++[]))))))))++_;rw[hB,hb];simp[List.append_assoc,bA]
theorem ae4 {k:LK} {s:Sd.Scene} (F0:bN fr (bA (ll k) s)) {bp:Nat} (hx:k.px=some ⟨bp,0,none⟩) (hle:k.pn<=k.pc):∃F:bN fr (bA k s),F.vs=F0.vs/\F.vr=F0.vr/\F.B=F0.B++[⟨bp,true,.cells (dc k.pn k.pf k.pc) 5 (0,0)⟩]:=by
 obtain⟨b0,b1,b2,b3,b4,hB,k0,k1,k2,k3,k4⟩:=F0.hk;have h4:b4=[]:=by
  obtain⟨_,h|⟨b,hx,_⟩⟩:=k4
  ·exact h.2.2.2
  ·cases hx
 subst h4;refine⟨{F0 with Bk:=b0++(b1++(b2++(b3++[⟨bp,true,.cells (dc k.pn k.pf k.pc) 5 (0,0)⟩]))),hk:=⟨b0,b1,b2,b3,_,rfl,k0,k1,k2,k3,⟨hle,.inr ⟨bp,hx,rfl⟩⟩⟩},rfl,rfl,?_⟩;rw[uS,uS];show(F0.Br++(F0.Bs++(F0.Bf++(F0.Bq++(b0++(b1++(b2++(b3++[(⟨bp,true,.cells (dc k.pn k.pf k.pc) 5 (0,0)⟩:av)]))))))))=_;rw[hB];simp[List.append_assoc]
theorem Kj {k:LK} {s:Sd.Scene} (F:bN fr (bA k s)) (F0:bN fr (bA (ll k) s)) (h1:F0.vs=F.vs) (h2:F0.vr=F.vr):cS (ll k) s F0=cS k s F:=by
 have e:w7 3 F0=w7 3 F:=by unfold w7;rw[h1,h2]
 show[aG (ll k),iA (ll k),w7 3 F0,ew (ll k) 4 s,gP s]=_;rw[e];rfl
theorem HJ (ht:Body (fr:=fr) 147 bV):Body (fr:=fr) 99 (xF (ah aT)):=by
 intro ar k s F Kb a b c R ms w0 w h0 hq hM S;unfold xF at hM;split at hM
 ·rename_i l vp;obtain⟨⟨rfl,hP,hf⟩,hK⟩:=hM;have hLP:=ai8 (fr:=fr) aT ht;by_cases hn:k.pn=10
  ·obtain⟨bp,t,F0,hx,hle,v1,v2,hB,jr⟩:=Za F (by omega);obtain⟨e,he⟩:∃e,k.pc=e+10:=⟨k.pc-10,by omega⟩;rw[hn]at hB jr hK;have eP:lits (a_ a b c++[bp]) (a_ a b c++[bp]) (cS (ll k) s F0++[eM 10 k.pf t])=lits (a_ a b c) (a_ a b c) (cS k s F)++[⟨bp,true,.cells (ab [] (eM 10 k.pf t).c).toArray 5 (0,0)⟩]:=by
    rw[Kj F F0 v1 v2,aI _ _ _ _ rfl,aJ (ids:=a_ a b c) (more:=[bp]) (a_ a b c) (cS k s F) rfl];rfl
   have S1:St ms w0 (lits (a_ a b c++[bp]) (a_ a b c++[bp]) (cS (ll k) s F0++[eM 10 k.pf t])++af [cB (ll k) s F0] R) w:=by
    rw[eP];have en:af [cB (ll k) s F0] R=F0.B++R:=rfl;rw[en];rw[hB]at S;refine S.perm ?_;rw[List.append_assoc,List.append_assoc];refine List.Perm.append_left _ ?_;exact List.perm_append_comm_assoc _ _ _
   have fU:cJ (dR prog gS (LP fr (ah aT))) 90 99 [.ptr 2 0,.int .i64 l,.sl 5 0 10 (e+10)] (cS (ll k) s F0++[eM 10 k.pf t]) [cB (ll k) s F0] (SY (ll k) s 10 k.pf t λv s' _=>∀F',Kb v s' F'):=by
    have hP0:Y6 (ll k) s l:=⟨hP.r,hP.lo,hP.key,hP.ke,hP.bh,hP.fT,hP.ep⟩;have hl:l=1\/l=2\/l=3:=by have:=hP.lo;omega
    have Qo:∀F0':bN fr (bA (ll k) (s.prove (ah aT) l 10 k.pf)),∀F',Kb (.az []) (s.prove (ah aT) l 10 k.pf) F':=λ_=>hK;rcases hl with rfl|rfl|rfl
    ·rw[Y3];refine BQ (λe=>jA (i:=0) (by decide) rfl rfl rfl) (λe r key=>?_) rfl (by decide) hq hP0 hf Qo;obtain⟨_,b1,b3⟩:=nB s 1 r key;exact xE (i:=0) (by decide) rfl rfl rfl b1 (b3 (by decide)).1 (b3 (by decide)).2
    ·rw[Y4];refine BQ (λe=>jA (i:=1) (by decide) rfl rfl rfl) (λe r key=>?_) rfl (by decide) hq hP0 hf Qo;obtain⟨_,b1,b3⟩:=nB s 2 r key;exact xE (i:=1) (by decide) rfl rfl rfl b1 (b3 (by decide)).1 (b3 (by decide)).2
    ·rw[Y5];refine BQ (λe=>jA (i:=2) (by decide) rfl rfl rfl) (λe r key=>?_) rfl (by decide) hq hP0 hf Qo;obtain⟨_,b1,b3⟩:=nB s 3 r key;exact xE (i:=2) (by decide) rfl rfl rfl b1 (b3 (by decide)).1 (b3 (by decide)).2
   have ea:(ao (a_ a b c) (.ptr 2 0::[.int .i64 l,.raw (ei k)])).toArray=(ao (a_ a b c++[bp]) [.ptr 2 0,.int .i64 l,.sl 5 0 10 (e+10)]).toArray:=by
    have:ei k=.slice (some ⟨bp,0,none⟩) 10 (e+10):=by unfold ei;rw[hx,hn,he]
    rw[this];rfl
   rw[ea];refine(bw hLP.T hLP.Q 90 (C:=dR prog gS (LP fr (ah aT))) (aja a b c [bp]) rfl S1 fU).mono ?_;rintro v w' ⟨x,more,bl',ch',rfl,h1,S',s',F',hv,hp,hK',hb,rfl⟩;have ev:den (a_ a b c++[bp]++more) x=den [] x:=by have:=bC (ids:=[]) (more:=a_ a b c++[bp]++more) x hv;simpa using this
   rw[<-hn]at jr;obtain⟨F2,u1,u2,hB2⟩:=ae4 F' hx hle;refine⟨x,s',F2,ev,hv,hp,hK' F2,?_⟩;have gz:bl'=(cS (ll k) s' F'++[eM 10 k.pf t])++bl'.drop 6:=by rw[<-hb,List.take_append_drop]
   rw[gz]at S';have e2:lits (a_ a b c++[bp]++more) (a_ a b c++[bp]++more) ((cS (ll k) s' F'++[eM 10 k.pf t])++bl'.drop 6)=(lits (a_ a b c) (a_ a b c) (cS k s' F2)++[⟨bp,true,.cells (ab [] (eM 10 k.pf t).c).toArray 5 (0,0)⟩])++lits (a_ a b c++[bp]++more) more (bl'.drop 6):=by
    rw[aI _ _ _ _ rfl,aJ (ids:=a_ a b c++[bp]) (more:=more) (a_ a b c++[bp]) _ rfl];rw[<-Kj F2 F' u1.symm u2.symm,aI _ _ _ _ rfl,aJ (ids:=a_ a b c) (more:=[bp]) (a_ a b c) (cS (ll k) s' F') rfl];rfl
   rw[e2]at S';have e3:af [cB (ll k) s' F'] R=F'.B++R:=rfl;rw[e3]at S';have S2:=S'.sub (bs':=(lits (a_ a b c) (a_ a b c) (cS k s' F2)++[⟨bp,true,.cells (ab [] (eM 10 k.pf t).c).toArray 5 (0,0)⟩])++(F'.B++R)) (by
    rw[List.append_assoc (lits _ _ _++_)];exact List.Sublist.append_left (List.sublist_append_right _ _) _)
   rw[hB2];rw[hn]at jr⊢;rw[jr]at S2;refine S2.perm ?_;rw[List.append_assoc,List.append_assoc];refine List.Perm.append_left _ ?_;exact List.perm_append_comm_assoc _ _ _
  ·refine dJ (M:=λar k s F K=>(ar=[.int .i64 l,.raw (ei k)]/\k.pn≠10/\s.recs.length<=1000)/\∀F',K (.az []) (s.dp (ah aT) l 13) F') (n:=90) hLP ?_ _ k s F Kb a b c R ms w0 w h0 hq ⟨⟨rfl,hn,by have:=hP.r.2;omega⟩,?_⟩ S
   ·rintro ar k s F Kb _ hq ⟨⟨rfl,hn,hr⟩,hK⟩;rw[NJ];refine aU (λe=>⟨eY hq,w_ hr λF1=>aM rfl hK F1⟩) (λe=>?_);have:(k.pn:Int)=10:=by simpa using e
    omega
   ·have:s.prove (ah aT) l k.pn k.pf=s.dp (ah aT) l 13:=by unfold Sd.Scene.prove;rw[if_pos hn]
    rw[this]at hK;exact hK
 ·exact hM.elim
end Go.Proofs.YtggfpcggakghnaaGreatDoor
namespace Go.Proofs.YtggfpcggakghnaaGreatDoor
open Go Go.RowKit Go.BigFrame Sx Vx
def gR:Nat->Option Nat
 |1=>some 0
 |_=>none
def ae5:QF:=⟨151,λargs _=>match args with
 |[.agg wl,.int .i64 n]=>(match adU wl with
  |some z=>some ((0<=z.high/\z.high<=4294967295)/\(0<=n/\n<=4294967295),.az [.agg (aie (dD z n)),.bool (DJ (dD z n) z)])
  |none=>none)
 |_=>none⟩
theorem Zb (gl:Nat->Option Nat):ae5.Ok prog gl:=by
 intro args bl p v h hp ids w _ _;unfold ae5 at h;dsimp only at h;split at h
 ·rename_i wl n;split at h
  ·rename_i z hz;simp only[Option.some.injEq,Prod.mk.injEq]at h;obtain⟨rfl,rfl⟩:=h;obtain rfl:=Yb hz;exact told (aia z n hp.1 hp.2 w)
  ·cases h
 ·cases h
def S8 {G:Type} (k:LK):gm G:=λargs bl ch K=>match args with
 |[.agg [.dC .u8 32 key],.int .i64 l,.sl i 0 n c]=>(match bl[i]?with
  |some b=>(match b.c with
   |[.dC .u8 n' f,.rest t]=>cond (CR b.ty 5&&dk bl.length bl) ((bl[0]?=some (aG k)/\n=n'/\n<=58/\n<=c/\(0<=l/\l<4294967296))/\
    ((n<8\/eV key l (n-8) f=false)->K (.az [.raw (.slice none 0 0),.int .i64 14]) bl ch)/\
    (8<=n->eV key l (n-8) f=true->(n=8->∀(x:Option Addr) (c':Nat),K (.az [.raw (.slice x 0 c'),.int .i64 0]) bl ch)/\
     (8<n->∀(c':Nat) (t':List Value),n-8<=c'->K (.az [.sl bl.length 0 (n-8) c',.int .i64 0]) (bl++[eM (n-8) f t']) ch))) False
   |_=>False)
  |none=>False)
 |[.agg [.dC .u8 32 key],.int .i64 l,.raw (.slice x 0 c)]=>K (.az [.raw (.slice none 0 0),.int .i64 14]) bl ch
 |_=>False
theorem HK {G:Type} [Bl G] (k:LK):Sound (G:=G) prog gR 150 (S8 k):=by
 intro args ids bl ch R ms w0 w K hg hl S hc;unfold S8 at hc;split at hc
 ·rename_i key l i n c;split at hc
  ·rename_i b hb;split at hc
   ·rename_i n' f t hbc;cases hq:CR b.ty 5&&dk bl.length bl with
    |false=>rw[hq]at hc;exact hc.elim
    |true=>
     rw[hq]at hc;simp only[cond_true]at hc;simp only[Bool.and_eq_true]at hq;obtain⟨⟨hr,rfl,hn,vQ,Px⟩,OJ,ajb⟩:=hc;have ba:=(cA hl S hb).2;rw[hbc,Ar hq.1]at ba;have gd:w.heap[1]?=some (.cells (ak .u32 64 aX) k.tg (0,0)):=by
      have h1:=(cA hl S hr).2;rw[(hg 1 0 rfl).2]at h1;have e:(ab ids (aG k).c).toArray=ak .u32 64 aX:=by kernel_rfl
      rw[e]at h1;exact h1
     have h8:eS w (ids.getD i 0) 0 n f:=by
      intro j hj;rw[cell_of ba];have e:(ab ids [V.dC .u8 n f,.rest t]).toArray=((List.range n).map (λj=>Value.int .u8 (f j))++t).toArray:=by simp[ab,cl]
      rw[e];simp only[Nat.zero_add,List.getElem?_toArray];rw[List.getElem?_append_left (by simpa using hj),List.getElem?_map,List.getElem?_range hj];rfl
     have ea:(ao ids [.agg [.dC .u8 32 key],.int .i64 l,.sl i 0 n c]).toArray=#[.agg (ak .u8 32 key),.int .i64 l,.slice (some ⟨ids.getD i 0,0,none⟩) n c]:=by kernel_rfl
     rw[ea];have fin:∀{v:Value} {w1:World},v=.tuple #[.slice none 0 0,.int .i64 14]->Ch [] w w1->K (.az [.raw (.slice none 0 0),.int .i64 14]) bl ch->∃x more bl' ch',v=den (ids++more) x/\(ids++more).length=bl'.length/\St ms w0 (lits (ids++more) (ids++more) bl'++af ch' R) w1/\K x bl' ch':=by
      rintro v w1 rfl eZ hk;exact⟨_,[],bl,ch,by simp[den,ao],by simpa using hl,by simpa using S.quiet eZ,hk⟩
     rcases Nat.lt_or_ge n 8 with h|h
     ·exact(wI key l _ n c h w).mono λv w1 ⟨hv,eZ⟩=>fin hv eZ (OJ (.inl h))
     ·obtain⟨m,rfl⟩:∃m,n=m+8:=⟨n-8,by omega⟩;rw[Nat.add_sub_cancel]at OJ ajb;cases ho:eV key l m f with
      |false=>exact(XH key l _ 0 m c f (by omega) vQ Px ho w gd h8).mono λv w1 ⟨hv,eZ⟩=>fin hv eZ (OJ (.inr ho))
      |true=>
       refine(QP key l _ 0 m c f (by omega) vQ Px ho w gd h8).mono ?_;rintro v w1 ⟨x1,c1,yA,rfl,h8',S1⟩;obtain⟨y0,y1⟩:=ajb h ho;have hS:=S.quiet S1.ch;rcases Nat.eq_zero_or_pos m with rfl|h0
       ·exact⟨_,[],bl,ch,by simp[den,ao],by simpa using hl,by simpa using hS,y0 rfl x1 c1⟩
       ·obtain⟨bn,hle,rfl,rfl⟩:=qt h8' h0;refine⟨_,[bn],_,ch,?_,by simp[hl],?_,y1 (by omega) c1 (List.replicate (c1-m) (.int .u8 0)) hle⟩
        ·simp only[den,ao];rw[<-hl,cy]
        ·rw[aI _ _ _ _ hl,aJ _ _ (by rw[hl];exact hq.2)];have e2:lits (ids++[bn]) [bn] [eM m f (List.replicate (c1-m) (.int .u8 0))]=[⟨bn,true,.cells (dc m f c1) 5 (0,0)⟩]:=by
          simp[lits,aE,eM,ab,cl,dc,eE]
         rw[e2];have amc:=S1.ql (x:=⟨bn,true,.cells (dc m f c1) 5 (0,0)⟩) (by simp) rfl;have jI:w.heap.size<=bn:=by rcases amc with h|h;cases h;exact h
         have:=S.new S1.ch jI (S1.at' (x:=⟨bn,true,.cells (dc m f c1) 5 (0,0)⟩) (by simp));refine this.perm ?_;rw[List.append_assoc];exact List.perm_middle.symm
   ·exact hc.elim
  ·exact hc.elim
 ·rename_i key l x c;have ea:(ao ids [.agg [.dC .u8 32 key],.int .i64 l,.raw (.slice x 0 c)]).toArray=#[.agg (ak .u8 32 key),.int .i64 l,.slice x 0 c]:=by kernel_rfl
  rw[ea];refine(wI key l x 0 c (by decide) w).mono ?_;rintro v w1 ⟨rfl,eZ⟩;exact⟨_,[],bl,ch,by simp[den,ao],by simpa using hl,by simpa using S.quiet eZ,hc⟩
 ·exact hc.elim
def LO (k:LK):List (dI Empty):=⟨150,false,S8 k⟩::qL Empty (qtk::ae5::QV)
theorem Kk (k:LK):ai prog gR (LO k):=ai.cons ⟨HK k,λe=>by cases e⟩ (f_ (aZ.cons (SW gR) (aZ.cons (Zb gR) (uq gR))))
def gA (e:Int):V:=.az [.agg (cw (Sd.aD 0)),.int .i64 e]
def xG (w:Sd.cN) (b:Int) (m:Sd.bW) (e:Int) (X:V->Option (Sd.cN×Sd.Timer)->Prop):Prop:=
 cond (e !=0) (X (gA 13) none) (cond (m.kind==1) (X (gA 13) none) (cond (m.kind==2) (X (gA 13) none)
  (((0<=w.high/\w.high<=4294967295)/\(0<=m.seq/\m.seq<=4294967295))/\cond (!(DJ (dD w m.seq) w)) (X (gA 15) none)
    ((-9223372036854775808<=b/\b<=9223372036854775807)/\X (.az [.agg (cw m),.int .i64 0]) (some (dD w m.seq,Sd.Timer.start b))))))
def xH (k:LK) (s:Sd.bm) (b l:Int) (n c:Nat) (f:Nat->Int) (X:V->Option (Sd.cN×Sd.Timer)->Prop):Prop:=
 cond (!s.on) (X (gA 16) none) ((some (aG k)=some (aG k)/\n=n/\n<=58/\n<=c/\(0<=l/\l<4294967296))/\
  ((n<8\/eV s.key l (n-8) f=false)->X (gA 14) none)/\
  (8<=n->eV s.key l (n-8) f=true->(n=8->∀(x:Option Addr) (c':Nat),True/\xG s.seen b (uT 0 λ_=>0) (xB 0 λ_=>0) X)/\
   (8<n->∀(c':Nat) (t':List Value),n-8<=c'->(n-8<=n-8/\n-8<=c'/\By f)/\xG s.seen b (uT (n-8) f) (xB (n-8) f) X)))
def OP (s:Sd.bm):Option (Sd.cN×Sd.Timer)->Sd.bm
 |none=>s
 |some (w,t)=>{s with seen:=w,on:=true,aH:=t}
def kT (X:V->List VB->Prop):VK Empty:=λv bl _=>X v (bl.take 3)
section
variable(k:LK) (y:TC) (n c:Nat) (f:Nat->Int) (t:List Value) (X:V->List VB->Prop)
theorem amd:cJ (dR prog gR (LO k)) 60 100 [.ptr 1 0,.int .i64 1,.sl 2 0 n c] [aG k,⟨true,⟨157,(0,0)⟩,cd y⟩,eM n f t] [] (kT X)=xH k y.s0 y.b 1 n c f λv o=>X v [aG k,⟨true,⟨157,(0,0)⟩,cd {y with s0:=OP y.s0 o}⟩,eM n f t]:=by kernel_rfl
theorem ame:cJ (dR prog gR (LO k)) 60 100 [.ptr 1 0,.int .i64 2,.sl 2 0 n c] [aG k,⟨true,⟨157,(0,0)⟩,cd y⟩,eM n f t] [] (kT X)=xH k y.sa y.b 2 n c f λv o=>X v [aG k,⟨true,⟨157,(0,0)⟩,cd {y with sa:=OP y.sa o}⟩,eM n f t]:=by kernel_rfl
theorem amf:cJ (dR prog gR (LO k)) 60 100 [.ptr 1 0,.int .i64 3,.sl 2 0 n c] [aG k,⟨true,⟨157,(0,0)⟩,cd y⟩,eM n f t] [] (kT X)=xH k y.sb y.b 3 n c f λv o=>X v [aG k,⟨true,⟨157,(0,0)⟩,cd {y with sb:=OP y.sb o}⟩,eM n f t]:=by kernel_rfl
def ma (y:TC) (l:Int):Sd.bm:=if l=1 then y.s0 else if l=2 then y.sa else y.sb
theorem amg (x:Option Addr):cJ (dR prog gR (LO k)) 60 100 [.ptr 1 0,.int .i64 1,.raw (.slice x 0 c)] [aG k,⟨true,⟨157,(0,0)⟩,cd y⟩] [] (λv bl _=>X v (bl.take 2))=cond (!y.s0.on) (X (gA 16) [aG k,⟨true,⟨157,(0,0)⟩,cd y⟩]) (X (gA 14) [aG k,⟨true,⟨157,(0,0)⟩,cd y⟩]):=by kernel_rfl
theorem amh (x:Option Addr):cJ (dR prog gR (LO k)) 60 100 [.ptr 1 0,.int .i64 2,.raw (.slice x 0 c)] [aG k,⟨true,⟨157,(0,0)⟩,cd y⟩] [] (λv bl _=>X v (bl.take 2))=cond (!y.sa.on) (X (gA 16) [aG k,⟨true,⟨157,(0,0)⟩,cd y⟩]) (X (gA 14) [aG k,⟨true,⟨157,(0,0)⟩,cd y⟩]):=by kernel_rfl
theorem ami (x:Option Addr):cJ (dR prog gR (LO k)) 60 100 [.ptr 1 0,.int .i64 3,.raw (.slice x 0 c)] [aG k,⟨true,⟨157,(0,0)⟩,cd y⟩] [] (λv bl _=>X v (bl.take 2))=cond (!y.sb.on) (X (gA 16) [aG k,⟨true,⟨157,(0,0)⟩,cd y⟩]) (X (gA 14) [aG k,⟨true,⟨157,(0,0)⟩,cd y⟩]):=by kernel_rfl
end
end Go.Proofs.YtggfpcggakghnaaGreatDoor
