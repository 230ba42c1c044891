/- Part 18 of the proof. -/
import Derived.Test.YtlkpikfddnjilaaGreatDoorE17
set_option linter.all false
set_option maxRecDepth 100000
set_option maxHeartbeats 4000000
open Go.Proofs.Tryz
namespace Go.Proofs.YtlkpikfddnjilaaGreatDoor
open Go Go.RowKit Go.BigFrame Sx Vx
def dB (n:Int):Prop:=-9223372036854775808<=n/\n<=9223372036854775807
theorem di {a b:List aC} (h:∀f:aC->Bool,a.countP f=b.countP f):a.Perm b:=by
 classical
 refine List.perm_iff_count.2 λx=>?_;exact h _
structure QH where
 k:LK
 q:List Sd.Ask
 B:List aC
 h:QS k.bq k.most q B
instance:Bl QH:=⟨λg=>g.B⟩
def qhC (x:QG):jq QH:=λargs bl ch K=>match ch with
 |[g]=>(match args[x.pos]?with
  |some (.raw vp)=>(match x.m (args.eraseIdx x.pos) g.k.most g.q with
   |some (p,v,q')=>cond (cK 0 args&&fR 0 v) ((vp=vq g.k/\p)/\∀B (h:QS g.k.bq g.k.most q' B),K v bl [⟨g.k,q',B,h⟩]) False
   |none=>False)
  |_=>False)
 |_=>False
theorem OH {x:QG} (h:x.Ok) (gl:Nat->Option Nat):Sound prog gl x.f (qhC x):=by
 intro args ids bl ch R ms w0 w K hg hl S hc;unfold qhC at hc;split at hc
 ·rename_i g;split at hc
  ·rename_i vp hvp;split at hc
   ·rename_i p v q' hm;cases hq:cK 0 args&&fR 0 v with
    |false=>rw[hq]at hc;exact hc.elim
    |true=>
     rw[hq]at hc;simp only[Bool.and_eq_true]at hq;obtain⟨⟨rfl,hp⟩,hK⟩:=hc;have a1:az ids args=az [] args:=by have:=dO (ids:=[]) (more:=ids) args hq.1;simpa using this
     have e0:∀(B:List aC) (h:QS g.k.bq g.k.most q' B),ak ([⟨g.k,q',B,h⟩]:List QH) R=B++R:=λ_ _=>rfl;have S1:St ms w0 (g.B++(lits ids ids bl++R)) w:=S.perm (by show List.Perm (lits ids ids bl++(g.B++R)) _;exact di λf=>by simp only[List.countP_append];omega);rw[a1];refine(h args g.k g.q p v q' hvp hm hp _ g.h _ ms w0 w S1).mono ?_;rintro y w1 ⟨B',rfl,hB,S2⟩;refine⟨v,[],bl,_,?_,by simpa using hl,?_,hK B' hB⟩
     ·have:=bR (ids:=[]) (more:=ids++[]) v hq.2;simpa using this.symm
     ·rw[e0,List.append_nil];exact S2.perm (di λf=>by simp only[List.countP_append];omega)
   ·exact hc.elim
  ·exact hc.elim
 ·exact hc.elim
def qhE (x:QG):eG QH:=⟨x.f,false,qhC x⟩
theorem Ac {x:QG} (h:x.Ok) {gl:Nat->Option Nat}:oc (G:=QH) prog gl (qhE x):=⟨OH h gl,λe=>by cases e⟩
theorem OI {L:List (eG QH)} (hL:ao prog (λ_=>none) L) (n:Nat) {f:Nat} {args:List V} {v:V} {k:LK} {q q':List Sd.Ask} {B:List aC} (hB:QS k.bq k.most q B) (h:c_ (dQ prog (λ_=>none) L) n f args [] [⟨k,q,B,hB⟩] (eB 0 λx b c=>x=v/\b=[]/\∃B h,c=[⟨k,q',B,h⟩])) (hv:fR 0 v=true)
 {bs:List aC} {ms:List Nat} {w0 w:World} (S:St ms w0 (B++bs) w):au prog f (az [] args).toArray w λy w1=>∃B',y=den [] v/\QS k.bq k.most q' B'/\St ms w0 (B'++bs) w1:=by
 refine(bW hL.T hL.Q n (C:=dQ prog (λ_=>none) L) (ids:=[]) (bl:=[]) (ch:=[⟨k,q,B,hB⟩]) (R:=bs) Gl.none rfl S h).mono ?_;rintro x w' ⟨y,more,bl',ch',rfl,h1,S',hK⟩;obtain⟨v2,bj,bl2,e,ja,S2,rfl,rfl,B1,SZ,rfl⟩:=eQ (n0:=0) h1 (by simp) S' hK;have hm:bj=[]:=by simpa using ja
 subst hm;exact⟨B1,e,SZ,S2⟩
def OJ:QG:=⟨197,0,λargs _ q=>match args with
 |[]=>some (True,.aI [.agg (NT (fS q).1),.int .i64 (fS q).2],q)
 |_=>none⟩
theorem OK:OJ.Ok:=by
 intro args k q p v q' hv hm hp B hB bs ms w0 w S
 match args,hv,hm with
 |[a],hv,hm=>
  have ha:a=.raw (vq k):=by simpa[OJ]using hv
  subst ha;replace hm:some (True,V.aI [.agg (NT (fS q).1),.int .i64 (fS q).2],q)=some (p,v,q'):=hm;simp only[Option.some.injEq,Prod.mk.injEq]at hm;obtain⟨rfl,rfl,rfl⟩:=hm;exact(aaw hB S).mono (by rintro y w1 ⟨rfl,h⟩;exact⟨B,rfl,hB,S.quiet h⟩)
 |_::_::_,_,hm=>cases hm
def OL:QG:=⟨208,0,λargs most q=>match args with
 |[.agg al]=>(match T7 al with|some a=>some (most<=3/\(∀e∈q,e.source=a.source\/¬e.aU=a.aU),.int .i64 (Sd.Q.push most q a).2,(Sd.Q.push most q a).1)|none=>none)
 |_=>none⟩
theorem OM:OL.Ok:=by
 intro args k q p v q' hv hm hp B hB bs ms w0 w S
 match args,hv,hm with
 |a::l,hv,hm=>
  have ha:a=.raw (vq k):=by simpa[OL]using hv
  subst ha;replace hm:(match(generalizing:=false) l with
   |[.agg al]=>(match T7 al with|some a=>some (k.most<=3/\(∀e∈q,e.source=a.source\/¬e.aU=a.aU),V.int .i64 (Sd.Q.push k.most q a).2,(Sd.Q.push k.most q a).1)|none=>none)
   |_=>none)=some (p,v,q'):=hm
  split at hm
  ·split at hm
   ·rename_i a ha;obtain rfl:=T8 ha;simp only[Option.some.injEq,Prod.mk.injEq]at hm;obtain⟨rfl,rfl,rfl⟩:=hm;exact aav a hB hp.1 hp.2 S
   ·cases hm
  ·cases hm
theorem Fj (t:Sd.Tok) (q:List Sd.Ask):Sd.bg t q=if(fS q).2≠0 then(t,(fS q).2,q)else if(t.bz (fS q).1.source).2≠0 then(t,(t.bz (fS q).1.source).2,q)else((t.bz (fS q).1.source).1,0,Sd.Q.drop q (fS q).1.source):=by
 cases q with
 |nil=>rfl
 |cons a q=>rfl
def LA:List (eG QH):=qhE Hq::qhE OJ::qL QH QV
theorem Xr:ao prog (λ_=>none) LA:=ao.cons (Ac Cw) (ao.cons (Ac OK) (fZ (sW _)))
def one (g:QH) (q:List Sd.Ask) (X:List QH->Prop):Prop:=∀B (h:QS g.k.bq g.k.most q B),X [⟨g.k,q,B,h⟩]
def m5 (t:Sd.Tok) (n:Int):V:=.aI [.agg (cI t),.int .i64 n]
theorem ON (g:QH) (t:Sd.Tok) (K:VK QH):c_ (dQ prog (λ_=>none) LA) 60 156 [.agg (cI t),.raw (vq g.k)] [] [g] (eB 0 K)=
 ((vq g.k=vq g.k/\True)/\one g g.q λc=>cond ((fS g.q).2!=0) (K (m5 t (fS g.q).2) [] c) (dB t.epoch/\cond ((t.bz (fS g.q).1.source).2!=0) (K (m5 t (t.bz (fS g.q).1.source).2) [] c)
   ((vq g.k=vq g.k/\True)/\one g (Sd.Q.drop g.q (fS g.q).1.source) λc=>K (m5 (t.bz (fS g.q).1.source).1 0) [] c))):=by kernel_rfl
def Ad:QG:=⟨156,1,λargs _ q=>match args with
 |[.agg tl]=>(match kI tl with|some t=>some (dB t.epoch,m5 (Sd.bg t q).1 (Sd.bg t q).2.1,(Sd.bg t q).2.2)|none=>none)
 |_=>none⟩
theorem JZ:Ad.Ok:=by
 intro args k q p v q' hv hm hp B hB bs ms w0 w S
 match args,hv,hm with
 |a::b::l,hv,hm=>
  have ha:b=.raw (vq k):=by simpa[Ad]using hv
  subst ha;replace hm:(match(generalizing:=false) a::l with
   |[.agg tl]=>(match kI tl with|some t=>some (dB t.epoch,m5 (Sd.bg t q).1 (Sd.bg t q).2.1,(Sd.bg t q).2.2)|none=>none)
   |_=>none)=some (p,v,q'):=hm
  split at hm
  ·rename_i tl heq;obtain⟨rfl,rfl⟩:=List.cons.inj heq;split at hm
   ·rename_i t ht;obtain rfl:=eV ht;simp only[Option.some.injEq,Prod.mk.injEq]at hm;obtain⟨rfl,rfl,rfl⟩:=hm;refine OI Xr 60 hB ?_ rfl S;rw[show c_ (dQ prog (λ_=>none) LA) 60 Ad.f=c_ (dQ prog (λ_=>none) LA) 60 156 from rfl,ON ⟨k,q,B,hB⟩,Fj];refine⟨⟨rfl,trivial⟩,λB h=>aS (λh1=>?_) (λh1=>⟨hp,aS (λh2=>?_) λh2=>⟨⟨rfl,trivial⟩,λB h=>?_⟩⟩)⟩
    ·rw[if_pos (by simpa using h1)];exact⟨rfl,rfl,B,h,rfl⟩
    ·rw[if_neg (by simpa using h1),if_pos (by simpa using h2)];exact⟨rfl,rfl,B,h,rfl⟩
    ·rw[if_neg (by simpa using h1),if_neg (by simpa using h2)];exact⟨rfl,rfl,B,h,rfl⟩
   ·cases hm
  ·cases hm
def LB:List (eG QH):=qhE Ad::qhE OL::LA
theorem aes:ao prog (λ_=>none) LB:=ao.cons (Ac JZ) (ao.cons (Ac OM) Xr)
def vcB (f:Nat) (args:List V) (g:QH) (K:VK QH):Prop:=c_ (dQ prog (λ_=>none) LB) 60 f args [] [g] (eB 0 K)
theorem Ae {f:Nat} {args:List V} {v:V} {k:LK} {q q':List Sd.Ask} {B:List aC} (hB:QS k.bq k.most q B) (h:vcB f args ⟨k,q,B,hB⟩ λx b c=>x=v/\b=[]/\∃B h,c=[⟨k,q',B,h⟩]) (hv:fR 0 v=true)
 {bs:List aC} {ms:List Nat} {w0 w:World} (S:St ms w0 (B++bs) w):au prog f (az [] args).toArray w λy w1=>∃B',y=den [] v/\QS k.bq k.most q' B'/\St ms w0 (B'++bs) w1:=OI aes 60 hB h hv S
theorem aaN (g:QH) (t:Sd.Tok) (f:Int) (K:VK QH):vcB 148 [.agg (cI t),.raw (vq g.k),.int .i64 f] g K=
 cond (f !=t.holder) (K (m5 t 20) [] [g]) (cond (decide (t.epoch>=65535)) (K (m5 t 24) [] [g]) ((vq g.k=vq g.k/\dB t.epoch)/\one g (Sd.bg t g.q).2.2 λc=>K (m5 (Sd.bg t g.q).1 (Sd.bg t g.q).2.1) [] c)):=by kernel_rfl
theorem ahg {k:LK} {q:List Sd.Ask} {B:List aC} (hB:QS k.bq k.most q B) {t:Sd.Tok} (he:dB t.epoch) (f:Int) {bs:List aC} {ms:List Nat} {w0 w:World} (S:St ms w0 (B++bs) w):
 au prog 148 (az [] [.agg (cI t),.raw (vq k),.int .i64 f]).toArray w λy w1=>∃B',y=den [] (m5 (Sd.aw t q f).1 (Sd.aw t q f).2.1)/\QS k.bq k.most (Sd.aw t q f).2.2 B'/\St ms w0 (B'++bs) w1:=by
 refine Ae hB ?_ rfl S;rw[aaN ⟨k,q,B,hB⟩];unfold Sd.aw;refine aS (λh=>?_) (λh=>aS (λh2=>?_) λh2=>⟨⟨rfl,he⟩,λB h3=>?_⟩)
 ·rw[if_pos (by simpa using h)];exact⟨rfl,rfl,B,hB,rfl⟩
 ·rw[if_neg (by simpa using h),if_pos (by simpa using h2)];exact⟨rfl,rfl,B,hB,rfl⟩
 ·rw[if_neg (by simpa using h),if_neg (by simpa using h2)];exact⟨rfl,rfl,B,h3,rfl⟩
def loT (g:QH) (t:Sd.Tok) (la:Sd.Timer) (K:VK QH):Prop:=
 let t1:Sd.Tok:={t with la:=la.step}
 (dB la.n/\dB la.most)/\True/\cond (!la.step.due) (K (m5 t1 0) [] [g]) (cond (decide (t.epoch>=65535)) (dB t.epoch/\K (m5 t1.dJ 6) [] [g]) ((vq g.k=vq g.k/\dB t.epoch)/\one g (Sd.bg t1 g.q).2.2 λc=>
  cond ((Sd.bg t1 g.q).2.1!=0) (dB t.epoch/\K (m5 (t1.bz 4).1 5) [] c) (K (m5 (Sd.bg t1 g.q).1 5) [] c)))
theorem aaO (g:QH) (p:Sd.Pol) (ka:Nat->Option Addr) (kn kc:Nat->Nat) (t:Sd.Tok) (th:Bool) (K:VK QH):vcB 111 [.agg [.jS p ka kn kc],.agg (cI t),.raw (vq g.k),.bool th] g K=
 cond (t.holder==4) (K (m5 {t with la:=.zero} 0) [] [g]) (cond th (K (m5 {t with la:=.zero} 0) [] [g]) (cond (t.la.most==0) (dB (p.i 43)/\loT g t (.start (p.i 43)) K) (loT g t t.la K))):=by kernel_rfl
def OO (t:Sd.Tok) (a n:Int):V:=.aI [.agg (cI t),.int .i64 a,.int .i64 n]
def akG (g:QH) (t:Sd.Tok) (f:Int) (K:VK QH):Prop:=dB t.epoch/\cond ((t.bz f).2!=0) (K (OO t 0 (t.bz f).2) [] [g]) ((vq g.k=vq g.k/\True)/\one g (Sd.Q.drop g.q f) λc=>K (OO (t.bz f).1 3 0) [] c)
def akP (g:QH) (p:Sd.Pol) (t:Sd.Tok) (f:Int) (K:VK QH):Prop:=
 let a:Sd.Ask:=⟨f,Sd.placeOf p f,.start (p.i 45)⟩
 True/\dB (p.i 45)/\(vq g.k=vq g.k/\g.k.most<=3/\∀e∈g.q,e.source=f\/¬e.aU=Sd.placeOf p f)/\one g (Sd.Q.push g.k.most g.q a).1 λc=>K (OO t 0 (Sd.Q.push g.k.most g.q a).2) [] c
theorem aet (g:QH) (p:Sd.Pol) (ka:Nat->Option Addr) (kn kc:Nat->Nat) (t:Sd.Tok) (f:Int) (nw:Bool) (K:VK QH):vcB 176 [.agg [.jS p ka kn kc],.agg (cI t),.raw (vq g.k),.int .i64 f,.bool nw] g K=
 cond t.bad (K (OO t 0 29) [] [g]) (cond (f==t.holder) (K (OO t 0 25) [] [g]) (cond (decide (t.epoch>=65535)) (K (OO t 0 24) [] [g]) (cond (t.holder==4) (akG g t f K)
  (cond nw (True/\cond (Sd.cp p f t.holder) (akG g t f K) (cond nw (K (OO t 0 26) [] [g]) (akP g p t f K))) (cond nw (K (OO t 0 26) [] [g]) (akP g p t f K)))))):=by kernel_rfl
def loB (t:Sd.Tok) (la:Sd.Timer) (q:List Sd.Ask):Sd.Tok×Int×List Sd.Ask:=
 let t1:Sd.Tok:={t with la:=la.step}
 if la.step.due=false then(t1,0,q)else if 65535<=t.epoch then(t1.dJ,6,q)else if(Sd.bg t1 q).2.1≠0 then((t1.bz 4).1,5,(Sd.bg t1 q).2.2)else((Sd.bg t1 q).1,5,(Sd.bg t1 q).2.2)
theorem OP {k:LK} {q:List Sd.Ask} {B:List aC} (hB:QS k.bq k.most q B) {t:Sd.Tok} (he:dB t.epoch) {la:Sd.Timer} (Lj:dB la.n/\dB la.most):
 loT ⟨k,q,B,hB⟩ t la λx b c=>x=m5 (loB t la q).1 (loB t la q).2.1/\b=[]/\∃B h,c=[⟨k,(loB t la q).2.2,B,h⟩]:=by
 unfold loT loB;refine⟨Lj,trivial,aS (λh=>?_) (λh=>aS (λh2=>⟨he,?_⟩) λh2=>⟨⟨rfl,he⟩,λB1 h1=>aS (λh3=>⟨he,?_⟩) λh3=>?_⟩)⟩
 ·rw[if_pos (by simpa using h)];exact⟨rfl,rfl,B,hB,rfl⟩
 ·rw[if_neg (by simpa using h),if_pos (by simpa using h2)];exact⟨rfl,rfl,B,hB,rfl⟩
 ·rw[if_neg (by simpa using h),if_neg (by simpa using h2),if_pos (by simpa using h3)];exact⟨rfl,rfl,B1,h1,rfl⟩
 ·rw[if_neg (by simpa using h),if_neg (by simpa using h2),if_neg (by simpa using h3)];exact⟨rfl,rfl,B1,h1,rfl⟩
theorem ahh {k:LK} {q:List Sd.Ask} {B:List aC} (hB:QS k.bq k.most q B) (p:Sd.Pol) (ka:Nat->Option Addr) (kn kc:Nat->Nat) {t:Sd.Tok} (th:Bool) (he:dB t.epoch) (Lj:dB t.la.n/\dB t.la.most) (hp:1<=p.i 43/\p.i 43<=1000) {bs:List aC} {ms:List Nat} {w0 w:World} (S:St ms w0 (B++bs) w):
 au prog 111 (az [] [.agg [.jS p ka kn kc],.agg (cI t),.raw (vq k),.bool th]).toArray w λy w1=>∃B',y=den [] (m5 (Sd.bM p t q th).1 (Sd.bM p t q th).2.1)/\QS k.bq k.most (Sd.bM p t q th).2.2 B'/\St ms w0 (B'++bs) w1:=by
 refine Ae hB ?_ rfl S;rw[aaO ⟨k,q,B,hB⟩];have e:Sd.bM p t q th=if t.holder=4\/th=true then({t with la:=.zero},0,q)else loB t (if t.la.most=0 then .start (p.i 43)else t.la) q:=rfl
 rw[e];refine aS (λh=>?_) (λh=>aS (λh2=>?_) λh2=>?_)
 ·rw[if_pos (.inl (by simpa using h))];exact⟨rfl,rfl,B,hB,rfl⟩
 ·rw[if_pos (.inr h2)];exact⟨rfl,rfl,B,hB,rfl⟩
 ·rw[if_neg (by simp at h;simp[h,h2])];refine aS (λh3=>⟨by unfold dB;omega,?_⟩) (λh3=>?_)
  ·rw[if_pos (by simpa using h3)];refine OP hB he ?_;rw[mU,if_neg (by omega)];exact⟨⟨by show(-9223372036854775808:Int)<=0;omega,by show(0:Int)<=9223372036854775807;omega⟩,by unfold dB;show _<=p.i 43/\p.i 43<=_;omega⟩
  ·rw[if_neg (by simpa using h3)];exact OP hB he Lj
theorem OQ {k:LK} {q:List Sd.Ask} {B:List aC} (hB:QS k.bq k.most q B) {t:Sd.Tok} (he:dB t.epoch) {f:Int} {R:Sd.Tok×Int×Int×List Sd.Ask} (e:R=if(t.bz f).2≠0 then(t,0,(t.bz f).2,q)else((t.bz f).1,3,0,Sd.Q.drop q f)):
 akG ⟨k,q,B,hB⟩ t f λx b c=>x=OO R.1 R.2.1 R.2.2.1/\b=[]/\∃B h,c=[⟨k,R.2.2.2,B,h⟩]:=by
 unfold akG;subst e;refine⟨he,aS (λh=>?_) (λh=>⟨⟨rfl,trivial⟩,λB1 h1=>?_⟩)⟩
 ·rw[if_pos (by simpa using h)];exact⟨rfl,rfl,B,hB,rfl⟩
 ·rw[if_neg (by simpa using h)];exact⟨rfl,rfl,B1,h1,rfl⟩
theorem ahi {k:LK} {q:List Sd.Ask} {B:List aC} (hB:QS k.bq k.most q B) (p:Sd.Pol) (ka:Nat->Option Addr) (kn kc:Nat->Nat) {t:Sd.Tok} (f:Int) (nw:Bool) (he:dB t.epoch) (hm:k.most<=3) (hr:∀e∈q,e.source=f\/¬e.aU=Sd.placeOf p f) (hp:1<=p.i 45/\p.i 45<=1000) {bs:List aC} {ms:List Nat} {w0 w:World} (S:St ms w0 (B++bs) w):
 au prog 176 (az [] [.agg [.jS p ka kn kc],.agg (cI t),.raw (vq k),.int .i64 f,.bool nw]).toArray w λy w1=>∃B',y=den [] (OO (Sd.cF p t k.most q f nw).1 (Sd.cF p t k.most q f nw).2.1 (Sd.cF p t k.most q f nw).2.2.1)/\QS k.bq k.most (Sd.cF p t k.most q f nw).2.2.2 B'/\St ms w0 (B'++bs) w1:=by
 refine Ae hB ?_ rfl S;rw[aet ⟨k,q,B,hB⟩];have hP:∀R:Sd.Tok×Int×Int×List Sd.Ask,R=(t,0,(Sd.Q.push k.most q ⟨f,Sd.aU p f,.start p.ask⟩).2,(Sd.Q.push k.most q ⟨f,Sd.aU p f,.start p.ask⟩).1)->akP ⟨k,q,B,hB⟩ p t f λx b c=>x=OO R.1 R.2.1 R.2.2.1/\b=[]/\∃B h,c=[⟨k,R.2.2.2,B,h⟩]:=by
  rintro R rfl;exact⟨trivial,by unfold dB;omega,⟨rfl,hm,hr⟩,λB1 h1=>⟨rfl,rfl,B1,h1,rfl⟩⟩
 unfold Sd.cF;refine aS (λh=>?_) (λh=>?_)
 ·rw[if_pos h];exact⟨rfl,rfl,B,hB,rfl⟩
 rw[if_neg (by simp[h])];refine aS (λh=>?_) (λh=>?_)
 ·rw[if_pos (by simpa using h)];exact⟨rfl,rfl,B,hB,rfl⟩
 rw[if_neg (by simpa using h)];refine aS (λh=>?_) (λh=>?_)
 ·rw[if_pos (by simpa using h)];exact⟨rfl,rfl,B,hB,rfl⟩
 rw[if_neg (by simpa using h)];refine aS (λh=>?_) (λh4=>aS (λh5=>⟨trivial,aS (λh6=>?_) λh6=>aS (λh7=>?_) λh7=>?_⟩) λh5=>aS (λh7=>?_) λh7=>?_)
 ·rw[if_pos (.inl (by simpa using h))];exact OQ hB he rfl
 ·rw[if_pos (.inr ⟨h5,h6⟩)];exact OQ hB he rfl
 ·rw[if_neg (by simp at h4;simp[h4,h6]),if_pos h7];exact⟨rfl,rfl,B,hB,rfl⟩
 ·rw[h5]at h7;cases h7
 ·rw[h5]at h7;cases h7
 ·rw[if_neg (by simp at h4;simp[h4,h5]),if_neg (by simp[h5])];exact hP _ rfl
variable{fr:Sd.Reply->Nat×Sd.Byt}
def aaP:QG:=⟨148,1,λargs _ q=>match args with
 |[.agg tl,.int .i64 f]=>(match kI tl with|some t=>some (dB t.epoch,.aI [.agg (cI (Sd.aw t q f).1),.int .i64 (Sd.aw t q f).2.1],(Sd.aw t q f).2.2)|none=>none)
 |_=>none⟩
theorem Uy:aaP.Ok:=by
 intro args k q p v q' hv hm hp B hB bs ms w0 w S
 match args,hv,hm with
 |a::b::l,hv,hm=>
  have ha:b=.raw (vq k):=by simpa[aaP]using hv
  subst ha;replace hm:(match(generalizing:=false) a::l with
   |[.agg tl,.int .i64 f]=>(match kI tl with|some t=>some (dB t.epoch,V.aI [.agg (cI (Sd.aw t q f).1),.int .i64 (Sd.aw t q f).2.1],(Sd.aw t q f).2.2)|none=>none)
   |_=>none)=some (p,v,q'):=hm
  split at hm
  ·rename_i tl f heq;obtain⟨rfl,rfl⟩:=List.cons.inj heq;split at hm
   ·rename_i t ht;obtain rfl:=eV ht;simp only[Option.some.injEq,Prod.mk.injEq]at hm;obtain⟨rfl,rfl,rfl⟩:=hm;exact ahg hB hp f S
   ·cases hm
  ·cases hm
def aaQ:QG:=⟨176,2,λargs most q=>match args with
 |[.agg [.jS p ka kn kc],.agg tl,.int .i64 f,.bool nw]=>(match kI tl with|some t=>some (dB t.epoch/\most<=3/\(∀e∈q,e.source=f\/¬e.aU=Sd.placeOf p f)/\(1<=p.i 45/\p.i 45<=1000),.aI [.agg (cI (Sd.cF p t most q f nw).1),.int .i64 (Sd.cF p t most q f nw).2.1,.int .i64 (Sd.cF p t most q f nw).2.2.1],(Sd.cF p t most q f nw).2.2.2)|none=>none)
 |_=>none⟩
theorem Uz:aaQ.Ok:=by
 intro args k q p v q' hv hm hp B hB bs ms w0 w S
 match args,hv,hm with
 |a::b::c::l,hv,hm=>
  have ha:c=.raw (vq k):=by simpa[aaQ]using hv
  subst ha;replace hm:(match(generalizing:=false) a::b::l with
   |[.agg [.jS p ka kn kc],.agg tl,.int .i64 f,.bool nw]=>(match kI tl with|some t=>some (dB t.epoch/\k.most<=3/\(∀e∈q,e.source=f\/¬e.aU=Sd.placeOf p f)/\(1<=p.i 45/\p.i 45<=1000),V.aI [.agg (cI (Sd.cF p t k.most q f nw).1),.int .i64 (Sd.cF p t k.most q f nw).2.1,.int .i64 (Sd.cF p t k.most q f nw).2.2.1],(Sd.cF p t k.most q f nw).2.2.2)|none=>none)
   |_=>none)=some (p,v,q'):=hm
  split at hm
  ·rename_i p' ka kn kc tl f nw heq;obtain⟨rfl,h2⟩:=List.cons.inj heq;obtain⟨rfl,rfl⟩:=List.cons.inj h2;split at hm
   ·rename_i t ht;obtain rfl:=eV ht;simp only[Option.some.injEq,Prod.mk.injEq]at hm;obtain⟨rfl,rfl,rfl⟩:=hm;exact ahi hB p' ka kn kc f nw hp.1 hp.2.1 hp.2.2.1 hp.2.2.2 S
   ·cases hm
  ·cases hm
def bI (s:Sd.Scene) (q:List Sd.Ask):Sd.Scene:={s with c:={s.c with q:=q}}
def L4 (fr:Sd.Reply->Nat×Sd.Byt) (C:Sd.Crypt):List (eG (Gh fr)):=⟨65,false,pk (jL C)⟩::⟨148,false,ghC aaP⟩::⟨176,false,ghC aaQ⟩::L3 fr C
theorem vu (tk:Nat->Sd.Byt->Option Sd.dw) (ht:Body (fr:=fr) 130 bN):ao prog gS (L4 fr (aq tk)):=
 ao.cons (dh (Fi tk ht)) (ao.cons (z_ Uy) (ao.cons (z_ Uz) (Xq tk ht)))
section
variable(C:Sd.Crypt) (k:LK) (s:Sd.Scene) (F:cz fr (b9 k s)) (Kb:SK fr k)
theorem UA (l:Int) (m:Sd.dw):c_ (dQ prog gS (L4 fr C)) 60 136 [.ptr 2 0,.int .i64 l,.agg (cC m)] (cT k s F) [cB k s F] (aN k s Kb)
 =(eu k s F/\jb [.int .i64 l,.int .i64 m.seq] k (du s) F λv s' F'=>aN k s Kb (.aI []) (cT k s' F'++[⟨true,⟨179,(0,0)⟩,cC m⟩]) [cB k s' F']):=by kernel_rfl
theorem J0 (l:Int) (m:Sd.dw):c_ (dQ prog gS (L4 fr C)) 60 140 [.ptr 2 0,.int .i64 l,.agg (cC m)] (cT k s F) [cB k s F] (aN k s Kb)
 =(dB s.c.t.epoch/\cond ((s.c.t.accept l m.epoch).2!=0) (eu k s F/\dW C [.int .i64 l,.int .i64 m.seq,.int .i64 (s.c.t.accept l m.epoch).2] k (du s) F λv s' F'=>aN k s Kb (.aI []) (cT k s' F'++[⟨true,⟨179,(0,0)⟩,cC m⟩,⟨true,⟨88,(0,0)⟩,cI (s.c.t.accept l m.epoch).1⟩]) [cB k s' F'])
  (eu k s F/\lu C [.agg (cI (s.c.t.accept l m.epoch).1),.int .i64 1,.int .i64 m.seq] k (du s) F λv s2 F2=>eu k s2 F2/\jb [.int .i64 l,.int .i64 m.seq] k (du s2) F2 λv s' F'=>aN k s Kb (.aI []) (cT k s' F'++[⟨true,⟨179,(0,0)⟩,cC m⟩,⟨true,⟨88,(0,0)⟩,cI (s.c.t.accept l m.epoch).1⟩]) [cB k s' F'])):=by kernel_rfl
theorem UB (l:Int) (m:Sd.dw):c_ (dQ prog gS (L4 fr C)) 60 141 [.ptr 2 0,.int .i64 l,.agg (cC m)] (cT k s F) [cB k s F] (aN k s Kb)
 =(True/\cond ((s.c.t.ft l).2!=0) (eu k s F/\dW C [.int .i64 l,.int .i64 m.seq,.int .i64 (s.c.t.ft l).2] k (du s) F λv s' F'=>aN k s Kb (.aI []) (cT k s' F'++[⟨true,⟨179,(0,0)⟩,cC m⟩,⟨true,⟨88,(0,0)⟩,cI (s.c.t.ft l).1⟩]) [cB k s' F'])
  (eu k (fF s (s.c.t.ft l).1) F/\mZ [.int .i64 (s.c.t.ft l).1.holder,.int .i64 l,.int .i64 0] k (du (fF s (s.c.t.ft l).1)) F λv s2 F2=>eu k s2 F2/\gT C [.int .i64 11,.int .i64 l,.int .i64 m.seq,.int .i64 0,.int .i64 0] k (du s2) F2 λv s3 F3=>
   eu k s3 F3/\jb [.int .i64 l,.int .i64 m.seq] k (du s3) F3 λv s' F'=>aN k s Kb (.aI []) (cT k s' F'++[⟨true,⟨179,(0,0)⟩,cC m⟩,⟨true,⟨88,(0,0)⟩,cI (s.c.t.ft l).1⟩]) [cB k s' F'])):=by kernel_rfl
theorem OR (l:Int) (m:Sd.dw):c_ (dQ prog gS (L4 fr C)) 60 139 [.ptr 2 0,.int .i64 l,.agg (cC m)] (cT k s F) [cB k s F] (aN k s Kb)
 =(True/\Sd.cP s.c.p/\cond ((Sd.Tok.make s.c.p s.c.t l m.cg ((cj s.c.tab).on m.cg)).2!=0) (eu k s F/\dW C [.int .i64 l,.int .i64 m.seq,.int .i64 (Sd.Tok.make s.c.p s.c.t l m.cg ((cj s.c.tab).on m.cg)).2] k (du s) F λv s' F'=>aN k s Kb (.aI []) (cT k s' F'++[⟨true,⟨179,(0,0)⟩,cC m⟩,⟨true,⟨88,(0,0)⟩,cI (Sd.Tok.make s.c.p s.c.t l m.cg ((cj s.c.tab).on m.cg)).1⟩]) [cB k s' F'])
  (eu k (fF s (Sd.Tok.make s.c.p s.c.t l m.cg ((cj s.c.tab).on m.cg)).1) F/\om [.int .i64 m.cg,.agg (g9 135 0 0 l (Sd.Tok.make s.c.p s.c.t l m.cg ((cj s.c.tab).on m.cg)).1.epoch 0)] k (du (fF s (Sd.Tok.make s.c.p s.c.t l m.cg ((cj s.c.tab).on m.cg)).1)) F λv s2 F2=>
   eu k s2 F2/\gT C [.int .i64 9,.int .i64 l,.int .i64 m.seq,.int .i64 0,.int .i64 m.cg] k (du s2) F2 λv s3 F3=>
   eu k s3 F3/\jb [.int .i64 l,.int .i64 m.seq] k (du s3) F3 λv s' F'=>aN k s Kb (.aI []) (cT k s' F'++[⟨true,⟨179,(0,0)⟩,cC m⟩,⟨true,⟨88,(0,0)⟩,cI (Sd.Tok.make s.c.p s.c.t l m.cg ((cj s.c.tab).on m.cg)).1⟩]) [cB k s' F'])):=by kernel_rfl
theorem Fk (l:Int) (m:Sd.dw):c_ (dQ prog gS (L4 fr C)) 60 142 [.ptr 2 0,.int .i64 l,.agg (cC m)] (cT k s F) [cB k s F] (aN k s Kb)
 =((vq k=vq k/\dB s.c.t.epoch)/\∀B (hB:QS k.bq k.most (Sd.aw s.c.t s.c.q l).2.2 B),
  cond ((Sd.aw s.c.t s.c.q l).2.1!=0) (eu k (bI s (Sd.aw s.c.t s.c.q l).2.2) (F.bI (Sd.aw s.c.t s.c.q l).2.2 B hB)/\dW C [.int .i64 l,.int .i64 m.seq,.int .i64 (Sd.aw s.c.t s.c.q l).2.1] k (du (bI s (Sd.aw s.c.t s.c.q l).2.2)) (F.bI (Sd.aw s.c.t s.c.q l).2.2 B hB) λv s' F'=>aN k s Kb (.aI []) (cT k s' F'++[⟨true,⟨179,(0,0)⟩,cC m⟩,⟨true,⟨88,(0,0)⟩,cI (Sd.aw s.c.t s.c.q l).1⟩]) [cB k s' F'])
  (eu k (bI s (Sd.aw s.c.t s.c.q l).2.2) (F.bI (Sd.aw s.c.t s.c.q l).2.2 B hB)/\lu C [.agg (cI (Sd.aw s.c.t s.c.q l).1),.int .i64 2,.int .i64 m.seq] k (du (bI s (Sd.aw s.c.t s.c.q l).2.2)) (F.bI (Sd.aw s.c.t s.c.q l).2.2 B hB) λv s2 F2=>eu k s2 F2/\jb [.int .i64 l,.int .i64 m.seq] k (du s2) F2 λv s' F'=>aN k s Kb (.aI []) (cT k s' F'++[⟨true,⟨179,(0,0)⟩,cC m⟩,⟨true,⟨88,(0,0)⟩,cI (Sd.aw s.c.t s.c.q l).1⟩]) [cB k s' F'])):=by kernel_rfl
abbrev gE (s:Sd.Scene) (k:LK) (l:Int) (m:Sd.dw):Sd.Tok×Int×Int×List Sd.Ask:=Sd.cF s.c.p s.c.t k.most s.c.q l m.now
theorem aaR (l:Int) (m:Sd.dw):c_ (dQ prog gS (L4 fr C)) 60 138 [.ptr 2 0,.int .i64 l,.agg (cC m)] (cT k s F) [cB k s F] (aN k s Kb)
 =((vq k=vq k/\(dB s.c.t.epoch/\k.most<=3/\(∀e∈s.c.q,e.source=l\/¬e.aU=Sd.placeOf s.c.p l)/\(1<=s.c.p.i 45/\s.c.p.i 45<=1000)))/\∀B (hB:QS k.bq k.most (gE s k l m).2.2.2 B),
  cond ((gE s k l m).2.2.1!=0) (eu k (bI s (gE s k l m).2.2.2) (F.bI (gE s k l m).2.2.2 B hB)/\dW C [.int .i64 l,.int .i64 m.seq,.int .i64 (gE s k l m).2.2.1] k (du (bI s (gE s k l m).2.2.2)) (F.bI (gE s k l m).2.2.2 B hB) λv s' F'=>aN k s Kb (.aI []) (cT k s' F'++[⟨true,⟨179,(0,0)⟩,cC m⟩,⟨true,⟨88,(0,0)⟩,cI (gE s k l m).1⟩]) [cB k s' F'])
  (cond (decide ((gE s k l m).2.1>0)) (eu k (bI s (gE s k l m).2.2.2) (F.bI (gE s k l m).2.2.2 B hB)/\lu C [.agg (cI (gE s k l m).1),.int .i64 (gE s k l m).2.1,.int .i64 m.seq] k (du (bI s (gE s k l m).2.2.2)) (F.bI (gE s k l m).2.2.2 B hB) λv s2 F2=>eu k s2 F2/\jb [.int .i64 l,.int .i64 m.seq] k (du s2) F2 λv s' F'=>aN k s Kb (.aI []) (cT k s' F'++[⟨true,⟨179,(0,0)⟩,cC m⟩,⟨true,⟨88,(0,0)⟩,cI (gE s k l m).1⟩]) [cB k s' F'])
  (eu k (fF (bI s (gE s k l m).2.2.2) (gE s k l m).1) (F.bI (gE s k l m).2.2.2 B hB)/\gT C [.int .i64 10,.int .i64 l,.int .i64 m.seq,.int .i64 0,.int .i64 0] k (du (fF (bI s (gE s k l m).2.2.2) (gE s k l m).1)) (F.bI (gE s k l m).2.2.2 B hB) λv s2 F2=>eu k s2 F2/\jb [.int .i64 l,.int .i64 m.seq] k (du s2) F2 λv s' F'=>aN k s Kb (.aI []) (cT k s' F'++[⟨true,⟨179,(0,0)⟩,cC m⟩,⟨true,⟨88,(0,0)⟩,cI (gE s k l m).1⟩]) [cB k s' F']))):=by kernel_rfl
end
structure TB (t:Sd.Tok):Prop where
 h:N4 t.holder
 e:RG t.epoch
theorem lZ {t:Sd.Tok} (h:TB t) (o:Int):TB (t.bz o).1/\N8 (t.bz o).2:=by
 obtain⟨⟨h1,h2⟩,h3,h4⟩:=h;unfold Sd.Tok.bz;split
 ·exact⟨⟨⟨h1,h2⟩,h3,h4⟩,by simp[N8]⟩
 ·split
  ·exact⟨⟨⟨h1,h2⟩,h3,h4⟩,by simp[N8]⟩
  ·split
   ·exact⟨⟨⟨h1,h2⟩,h3,h4⟩,by simp[N8]⟩
   ·exact⟨⟨⟨by simp only[Sd.Tok.pass];omega,by simp only[Sd.Tok.pass];omega⟩,by simp only[Sd.Tok.pass];omega,by simp only[Sd.Tok.pass];omega⟩,by simp[N8]⟩
theorem OS {t:Sd.Tok} (h:TB t) (l e:Int):TB (t.accept l e).1/\N8 (t.accept l e).2:=by
 unfold Sd.Tok.accept;split
 ·exact⟨h,by simp[N8]⟩
 ·split
  ·exact⟨h,by simp[N8]⟩
  ·exact lZ h l
theorem aaS {t:Sd.Tok} (h:TB t) (l:Int):TB (t.ft l).1/\N8 (t.ft l).2:=by
 unfold Sd.Tok.ft;split
 ·exact⟨h,by simp[N8]⟩
 ·exact⟨⟨h.h,h.e⟩,by simp[N8]⟩
theorem aaT {t:Sd.Tok} (h:TB t) (p:Sd.Pol) (l o:Int) (b:Bool):TB (Sd.Tok.make p t l o b).1/\N8 (Sd.Tok.make p t l o b).2:=by
 unfold Sd.Tok.make
 repeat' split
 all_goals first|exact⟨h,by simp[N8]⟩|exact⟨⟨h.h,h.e⟩,by simp[N8]⟩
theorem Hu {t:Sd.Tok} (h:TB t) (q:List Sd.Ask):TB (Sd.bg t q).1/\N8 (Sd.bg t q).2.1:=by
 unfold Sd.bg;split
 ·exact⟨h,by simp[N8]⟩
 ·split
  ·exact⟨h,(lZ h _).2⟩
  ·exact⟨(lZ h _).1,by simp[N8]⟩
theorem Xs {t:Sd.Tok} (h:TB t) (q:List Sd.Ask) (l:Int):TB (Sd.aw t q l).1/\N8 (Sd.aw t q l).2.1:=by
 unfold Sd.aw;split
 ·exact⟨h,by simp[N8]⟩
 ·split
  ·exact⟨h,by simp[N8]⟩
  ·exact Hu h q
theorem Xt {t:Sd.Tok} {q:List Sd.Ask} {l:Int} (h:(Sd.aw t q l).2.1≠0):(Sd.aw t q l).2.2=q:=by
 unfold Sd.aw at h⊢;split
 ·rfl
 ·split
  ·rfl
  ·rename_i h1 h2;rw[if_neg h1,if_neg h2]at h;unfold Sd.bg at h⊢;split
   ·rfl
   ·split
    ·rfl
    ·rename_i a q' h3;simp only[if_neg h3,ne_eq,not_true_eq_false]at h
theorem aaU (most:Int) (q:List Sd.Ask) (a:Sd.Ask):N8 (Sd.Q.push most q a).2:=by
 unfold Sd.Q.push
 repeat' split
 all_goals simp[N8]
theorem aaV {most:Int} {q:List Sd.Ask} {a:Sd.Ask} (h:(Sd.Q.push most q a).2≠0):(Sd.Q.push most q a).1=q:=by
 unfold Sd.Q.push at h⊢;split
 ·rfl
 ·split
  ·rfl
  ·rename_i h1 h2;simp[if_neg h1,if_neg h2]at h
theorem aeu {p:Sd.Pol} {t:Sd.Tok} (h:TB t) (most:Int) (q:List Sd.Ask) (f:Int) (nw:Bool):TB (Sd.cF p t most q f nw).1/\N8 (Sd.cF p t most q f nw).2.2.1:=by
 unfold Sd.cF
 repeat' split
 all_goals first|exact⟨h,(lZ h _).2⟩|exact⟨h,aaU _ _ _⟩|exact⟨(lZ h _).1,show N8 0 from z8⟩|exact⟨h,show 0<=_/\_<=255 by simp⟩
theorem aev {p:Sd.Pol} {t:Sd.Tok} {most:Int} {q:List Sd.Ask} {f:Int} {nw:Bool} (h:(Sd.cF p t most q f nw).2.2.1≠0):(Sd.cF p t most q f nw).2.2.2=q:=by
 unfold Sd.cF at h⊢
 repeat' split
 all_goals first|rfl|skip
 ·rename_i h1 h2 h3 h4 h5;simp only[if_neg h1,if_neg h2,if_neg h3,if_pos h4,if_neg h5,ne_eq,not_true_eq_false]at h
 ·rename_i h1 h2 h3 h4 h5;simp only[if_neg h1,if_neg h2,if_neg h3,if_neg h4,if_neg h5]at h;exact aaV h
theorem tb {c:Sd.Core} (h:Sd.Inv c):TB c.t:=⟨⟨h.tok.holder.1,by have:=h.tok.holder.2;omega⟩,by have:=h.tok.epoch.1;have:=h.p.epoch.1;omega,h.tok.epoch.2⟩
theorem TB.b {t:Sd.Tok} (h:TB t):dB t.epoch:=⟨by have:=h.e.1;omega,by have:=h.e.2;omega⟩
theorem e_ (C:Sd.Crypt) (s:Sd.Scene) (t:Sd.Tok) (h n:Int):(s.goes C t h n).c.p=s.c.p:=by
 show(Sd.Scene.hear _ _ _).c.p=_;rw[hear_c,hear_c]
theorem Rm.goes {C:Sd.Crypt} {s:Sd.Scene} {t:Sd.Tok} {h n:Int} {m:Nat} (hh:Rm s (m+3)):Rm (s.goes C t h n) m:=by
 have h1:Rm ({s with c:={s.c with t:=t,q:=Sd.Q.drop s.c.q t.holder}}:Sd.Scene) (m+3):=hh;exact(Rm.hear (Rm.hear h1)).rec
theorem lv {n:Int} (h:(n !=0)=true):n≠0:=by simpa using h
theorem m6 {n:Int} (h:(n !=0)=false):¬n≠0:=by simpa using h
structure Sy (s:Sd.Scene) (l:Int) (m:Sd.dw):Prop where
 r:Rm s 8
 i:Sd.Inv s.c
 n:RH m.seq
 l1:1<=l
 l3:l<=3
def iY (act:Sd.Scene->Int->Sd.dw->Sd.Scene):SM fr:=λar k s F K=>match ar with
 |[.int .i64 l,.agg ml]=>(match Jx ml with
  |some m=>Sy s l m/\∀F',K (.aI []) (act s l m) F'
  |none=>False)
 |_=>False
theorem jM {tk:Nat->Sd.Byt->Option Sd.dw} {act:Sd.Scene->Int->Sd.dw->Sd.Scene} {f n:Nat} {L:List (eG (Gh fr))} (hL:ao prog gS L)
 (h:∀(l:Int) (m:Sd.dw) (k:LK) (s:Sd.Scene) (F:cz fr (b9 k s)) (Kb:SK fr k),s.c.p.queue=k.most->Sy s l m->(∀F',Kb (.aI []) (act s l m) F')->c_ (dQ prog gS L) n f [.ptr 2 0,.int .i64 l,.agg (cC m)] (cT k s F) [cB k s F] (aN k s Kb)):Body f (iY (fr:=fr) act):=by
 refine dG (n:=n) hL ?_;intro ar k s F Kb h0 hq hM;unfold iY at hM;split at hM
 ·rename_i l ml;split at hM
  ·rename_i m hm;obtain rfl:=tM hm;exact h l m k s F Kb hq hM.1 hM.2
  ·exact hM.elim
 ·exact hM.elim
theorem nG {s:Sd.Scene} {q:List Sd.Ask} (h:q=s.c.q):bI s q=s:=by subst h;rfl
theorem Fl (C:Sd.Crypt) (s:Sd.Scene) (l:Int) (m:Sd.dw) (R:Sd.Tok×Int×Int×List Sd.Ask) (h:R=Sd.cF s.c.p s.c.t s.c.p.queue s.c.q l m.now):
 s.ask C l m=if R.2.2.1≠0 then s.refuse C l m.seq R.2.2.1 else(if 0<R.2.1 then(bI s R.2.2.2).goes C R.1 R.2.1 m.seq else(fF (bI s R.2.2.2) R.1).record C 10 l m.seq 0 0).done l m.seq:=by subst h;rfl
section
variable(tk:Nat->Sd.Byt->Option Sd.dw) (ht:Body (fr:=fr) 130 bN)
include tk ht
theorem J1:Body (fr:=fr) 136 (iY λs l m=>s.done l m.seq):=by
 refine jM (tk:=tk) (n:=60) (vu tk ht) ?_;intro l m k s F Kb hq hS hK;rw[UA];exact⟨eZ hq,iu ⟨hS.r.le (by decide),hS.n⟩ λF1=>aK rfl hK F1⟩
theorem Cy:Body (fr:=fr) 140 (iY λs l m=>s.accept (aq tk) l m):=by
 refine jM (tk:=tk) (n:=60) (vu tk ht) ?_;intro l m k s F Kb hq hS hK;have hb:=OS (tb hS.i) l m.epoch;rw[J0];refine⟨(tb hS.i).b,aS (λe=>⟨eZ hq,gy ⟨hS.r.le (by decide),hS.n,hb.2⟩ λF1=>aK (if_pos (lv e)).symm hK F1⟩) (λe=>⟨eZ hq,lY ⟨hS.r.le (by decide),hb.1.h,hb.1.e⟩ λF2=>⟨eZ ?_,iu ⟨hS.r.goes.le (by decide),hS.n⟩ λF3=>aK (if_neg (m6 e)).symm hK F3 (hp:=e_ _ _ _ _ _)⟩⟩)⟩;rw[e_];exact hq
theorem J2:Body (fr:=fr) 141 (iY λs l m=>s.ft (aq tk) l m):=by
 refine jM (tk:=tk) (n:=60) (vu tk ht) ?_;intro l m k s F Kb hq hS hK;have hb:=aaS (tb hS.i) l;have h1:Rm (fF s (s.c.t.ft l).1) 8:=hS.r;rw[UB];refine⟨trivial,aS (λe=>⟨eZ hq,gy ⟨hS.r.le (by decide),hS.n,hb.2⟩ λF1=>aK (if_pos (lv e)).symm hK F1⟩) (λe=>⟨eZ hq,qN ⟨h1.le (by decide),⟨by have:=hS.l1;omega,by have:=hS.l3;omega⟩,z8⟩ λF2=>⟨eZ ?_,fk h1.gone.r1 λF3=>⟨eZ ?_,iu ⟨(h1.gone.rec).le (by decide),hS.n⟩ λF4=>aK (if_neg (m6 e)).symm hK F4 (hp:=?_)⟩⟩⟩)⟩
 ·rw[gone_c];exact hq
 ·show(Sd.Scene.gone _ _ _ _).c.p.queue=_;rw[gone_c];exact hq
 ·show(Sd.Scene.gone _ _ _ _).c.p=_;rw[gone_c];rfl
theorem Fm:Body (fr:=fr) 139 (iY λs l m=>s.offer (aq tk) l m):=by
 refine jM (tk:=tk) (n:=60) (vu tk ht) ?_;intro l m k s F Kb hq hS hK;have hb:=aaT (tb hS.i) s.c.p l m.cg (s.c.tab.on m.cg);have h1:Rm (fF s (Sd.Tok.make s.c.p s.c.t l m.cg (s.c.tab.on m.cg)).1) 8:=hS.r;rw[OR,aaK];refine⟨trivial,hS.i.p,aS (λe=>⟨eZ hq,gy ⟨hS.r.le (by decide),hS.n,hb.2⟩ λF1=>aK (if_pos (lv e)).symm hK F1⟩) (λe=>⟨eZ hq,tW ⟨h1.le (by decide),rb (by decide) Uu ⟨by have:=hS.l1;omega,by have:=hS.l3;omega⟩ hb.1.e z8⟩ λF2=>⟨eZ ?_,fk h1.hear.r1 λF3=>⟨eZ ?_,iu ⟨(h1.hear.rec).le (by decide),hS.n⟩ λF4=>aK (if_neg (m6 e)).symm hK F4 (hp:=?_)⟩⟩⟩)⟩
 ·rw[hear_c];exact hq
 ·show(Sd.Scene.hear _ _ _).c.p.queue=_;rw[hear_c];exact hq
 ·show(Sd.Scene.hear _ _ _).c.p=_;rw[hear_c];rfl
theorem Af:Body (fr:=fr) 142 (iY λs l m=>s.release (aq tk) l m):=by
 refine jM (tk:=tk) (n:=60) (vu tk ht) ?_;intro l m k s F Kb hq hS hK;have hb:=Xs (tb hS.i) s.c.q l;have h1:Rm (bI s (Sd.aw s.c.t s.c.q l).2.2) 8:=hS.r;rw[Fk];refine⟨⟨rfl,(tb hS.i).b⟩,λB hB=>aS (λe=>⟨eZ hq,gy ⟨h1.le (by decide),hS.n,hb.2⟩ λF1=>aK ?_ hK F1⟩) (λe=>⟨eZ hq,lY ⟨h1.le (by decide),hb.1.h,hb.1.e⟩ λF2=>⟨eZ ?_,iu ⟨h1.goes.le (by decide),hS.n⟩ λF3=>aK (if_neg (m6 e)).symm hK F3 (hp:=e_ _ _ _ _ _)⟩⟩)⟩
 ·rw[nG (Xt (lv e))];exact(if_pos (lv e)).symm
 ·rw[e_];exact hq
theorem OT:Body (fr:=fr) 138 (iY λs l m=>s.ask (aq tk) l m):=by
 refine jM (tk:=tk) (n:=60) (vu tk ht) ?_;intro l m k s F Kb hq hS hK;have hb:=aeu (p:=s.c.p) (tb hS.i) k.most s.c.q l m.now;have h1:Rm (bI s (gE s k l m).2.2.2) 8:=hS.r;have h2:Rm (fF (bI s (gE s k l m).2.2.2) (gE s k l m).1) 8:=hS.r;have hka:gE s k l m=Sd.cF s.c.p s.c.t s.c.p.queue s.c.q l m.now:=by rw[gE,hq]
 rw[aaR];refine⟨⟨rfl,(tb hS.i).b,by rw[<-hq];exact hS.i.p.queue.2,?_,hS.i.p.ask⟩,λB hB=>aS (λe=>⟨eZ hq,gy ⟨h1.le (by decide),hS.n,hb.2⟩ λF1=>aK ?_ hK F1⟩) (λe=>aS (λe2=>⟨eZ hq,lY ⟨h1.le (by decide),hb.1.h,hb.1.e⟩ λF2=>⟨eZ ?_,iu ⟨h1.goes.le (by decide),hS.n⟩ λF3=>aK ?_ hK F3 (hp:=e_ _ _ _ _ _)⟩⟩)
  (λe2=>⟨eZ hq,fk h2.r1 λF2=>⟨eZ hq,iu ⟨h2.rec.le (by decide),hS.n⟩ λF3=>aK ?_ hK F3⟩⟩))⟩
 ·intro a ha;by_cases hs:a.source=l
  ·exact .inl hs
  ·refine .inr λhr=>hs ?_;have h:=hS.i.q.each a ha;have h1:=hS.l1;have h3:=hS.l3;exact Sd.xi hS.i.p ⟨by omega,by omega⟩ ⟨by omega,by omega⟩ (by rw[<-hr,h.1];rfl)
 ·rw[nG (aev (lv e)),Fl _ _ _ _ _ hka];exact(if_pos (lv e)).symm
 ·rw[e_];exact hq
 ·have e3:0<(gE s k l m).2.1:=by simpa using e2
  rw[Fl _ _ _ _ _ hka,if_neg (m6 e),if_pos e3]
 ·have e3:¬0<(gE s k l m).2.1:=by simpa using e2
  rw[Fl _ _ _ _ _ hka,if_neg (m6 e),if_neg e3]
end
structure QT where
 f:Nat
 m:List V->TC->Option (Prop×V×Sd.Tab)
def DK (t:Sd.Tab) (b m:Int):TC:=⟨t.aF.1,t.aF.2.n,t.aF.2.most,t.aE 0,t.aE 1,t.aE 2,b,m⟩
def tbC (x:QT):jq (Gh fr):=λargs bl ch K=>match args with
 |.ptr it 0::ar=>(match bl[it]?with
  |some ⟨true,⟨143,(0,0)⟩,tc⟩=>(match vj tc with
   |some y=>(match x.m ar y with
    |some (p,v,t)=>cond (cK 0 ar&&fR 0 v) (p/\K v (bl.set it ⟨true,⟨143,(0,0)⟩,bZ (DK t y.b y.m)⟩) ch) False
    |none=>False)
   |none=>False)
  |_=>False)
 |_=>False
def QT.Ok (x:QT):Prop:=∀(ar:List V) (y:TC) (p:Prop) (v:V) (t:Sd.Tab),x.m ar y=some (p,v,t)->p->∀(bt:Nat) (bs:List aC) (ms:List Nat) (w0 w:World),St ms w0 ([⟨bt,true,.cells (jm (aM y).aF (aM y).aE y.b y.m) 143 (0,0)⟩]++bs) w->
 au prog x.f (az [bt] (.ptr 0 0::ar)).toArray w λu w1=>u=den [] v/\St ms w0 ([⟨bt,true,.cells (jm t.aF t.aE y.b y.m) 143 (0,0)⟩]++bs) w1
theorem OU {bl:List VB} {ids:List Nat} (h:ids.length=bl.length) {i:Nat} (hi:i<bl.length):
 ∃r:List Nat,(∀j∈r,j≠i)/\∀bl':List VB,bl'.length=bl.length->(lits ids ids bl').Perm (aW ids (ids.getD i 0) (bl'.getD i ir)::r.map λj=>aW ids (ids.getD j 0) (bl'.getD j ir)):=by
 obtain⟨r,h1,h2⟩:=vm h (is:=[i]) (by simp) (by simp[hi]);exact⟨r,λj hj=>by simpa using h1 j hj,λbl' hl=>by simpa using h2 bl' hl⟩
theorem OV {x:QT} (h:x.Ok) (gl:Nat->Option Nat):Sound prog gl x.f (tbC (fr:=fr) x):=by
 intro args ids bl ch R ms w0 w K hg hl S hc;unfold tbC at hc;split at hc
 ·rename_i it ar;split at hc
  ·rename_i tc hb;split at hc
   ·rename_i y hy;split at hc
    ·rename_i p v t hm;cases hq:cK 0 ar&&fR 0 v with
     |false=>rw[hq]at hc;exact hc.elim
     |true=>
      rw[hq]at hc;simp only[Bool.and_eq_true]at hq;obtain⟨hp,hK⟩:=hc;obtain rfl:=kl hy;have hi:=ct hb;obtain⟨r,hr,eo⟩:=OU hl hi;have a1:az ids (.ptr it 0::ar)=az [ids.getD it 0] (.ptr 0 0::ar):=by
       have b1:az ids ar=az [] ar:=by have:=dO (ids:=[]) (more:=ids) ar hq.1;simpa using this
       have b2:az [ids.getD it 0] ar=az [] ar:=by have:=dO (ids:=[]) (more:=[ids.getD it 0]) ar hq.1;simpa using this
       simp only[az,den,b1,b2];rfl
      have e1:aW ids (ids.getD it 0) (bl.getD it ir)=⟨ids.getD it 0,true,.cells (jm (aM y).aF (aM y).aE y.b y.m) 143 (0,0)⟩:=by rw[cR hb];kernel_rfl
      have p1:=eo bl rfl;rw[e1]at p1;have S1:=S.perm (p1.append_right _);rw[a1];refine(h ar y p v t hm hp _ _ ms w0 w S1).mono ?_;rintro u w1 ⟨rfl,S2⟩;refine⟨v,[],_,ch,?_,by simp[hl],?_,hK⟩
      ·have:=bR (ids:=[]) (more:=ids++[]) v hq.2;simpa using this.symm
      ·simp only[List.append_nil];refine S2.perm ?_;have p2:=eo (bl.set it ⟨true,⟨143,(0,0)⟩,bZ (DK t y.b y.m)⟩) (by simp);have e2:aW ids (ids.getD it 0) ((bl.set it ⟨true,⟨143,(0,0)⟩,bZ (DK t y.b y.m)⟩).getD it ir)=⟨ids.getD it 0,true,.cells (jm t.aF t.aE y.b y.m) 143 (0,0)⟩:=by rw[cR (mY hi)];kernel_rfl
       have e3:(r.map λj=>aW ids (ids.getD j 0) ((bl.set it ⟨true,⟨143,(0,0)⟩,bZ (DK t y.b y.m)⟩).getD j ir))=r.map λj=>aW ids (ids.getD j 0) (bl.getD j ir):=by
        apply List.map_congr_left;intro j hj;simp only[List.getD];rw[eY (Ne.symm (hr j hj))]
       rw[e2,e3]at p2;exact p2.symm.append_right _
    ·exact hc.elim
   ·exact hc.elim
  ·exact hc.elim
 ·exact hc.elim
theorem Fo {x:QT} (h:x.Ok):oc (G:=Gh fr) prog gS ⟨x.f,false,tbC x⟩:=⟨OV h gS,λe=>by cases e⟩
def aew:QT:=⟨175,λar y=>match ar with
 |[.int .i64 s]=>some (True,.bool ((aM y).fw s),(aM y).end_ s)
 |_=>none⟩
theorem UC:aew.Ok:=by
 intro ar y p v t hm hp bt bs ms w0 w S;replace hm:(match(generalizing:=false) ar with
  |[.int .i64 s]=>some (True,V.bool ((aM y).fw s),(aM y).end_ s)
  |_=>none)=some (p,v,t):=hm
 split at hm
 ·simp only[Option.some.injEq,Prod.mk.injEq]at hm;obtain⟨rfl,rfl,rfl⟩:=hm;exact aeo y _ S
 ·cases hm
def aex:QT:=⟨95,λar y=>match ar with
 |[]=>some (0<=y.b/\y.b<=1000,.aI [],{aM y with aF:=(true,.start y.b)})
 |_=>none⟩
theorem UD:aex.Ok:=by
 intro ar y p v t hm hp bt bs ms w0 w S;replace hm:(match(generalizing:=false) ar with
  |[]=>some (0<=y.b/\y.b<=1000,V.aI [],{aM y with aF:=(true,.start y.b)})
  |_=>none)=some (p,v,t):=hm
 split at hm
 ·simp only[Option.some.injEq,Prod.mk.injEq]at hm;obtain⟨rfl,rfl,rfl⟩:=hm;exact aep y hp S
 ·cases hm
def gJd (g:Nat):Option Nat:=bif Nat.beq g 2 then some 0 else none
def kLd:List V:=[.bool false,.bool false,.bool false,.bool false,.bool false,.bool false,.bool false,.bool false,.bool false,.bool false,.bool true,.bool true]
def aaW (ka:Nat->Option Addr) (kn kc:Nat->Nat) (T:TypeId) (p:Sd.Pol) (t:Sd.Tok) (s r mo:Int) (m:Sd.dw) (K:VK Empty):Prop:=c_ (dQ prog gJd (qL Empty QV)) 60 149 [.agg [.jS p ka kn kc],.agg (cI t),.int .i64 s,.int .i64 r,.int .i64 mo,.agg (cC m)] [⟨false,⟨T,(0,0)⟩,kLd⟩] [] K
theorem Xu (ka:Nat->Option Addr) (kn kc:Nat->Nat) (T:TypeId) (p:Sd.Pol) (t:Sd.Tok) (s r mo:Int) (m:Sd.dw) (K:VK Empty):
 aaW ka kn kc T p t s r mo {m with kind:=10} (eB 0 K)=cond (s !=t.holder) (K (.int .i64 20) [] []) (cond (m.epoch !=t.epoch) (K (.int .i64 21) [] []) (True/\cond (!Sd.may p mo r 0) (K (.int .i64 22) [] []) (True/\cond (!Sd.goes p mo m.mode) (K (.int .i64 23) [] []) (K (.int .i64 0) [] []))))/\
 aaW ka kn kc T p t s r mo {m with kind:=11} (eB 0 K)=cond (s !=t.holder) (K (.int .i64 20) [] []) (cond (m.epoch !=t.epoch) (K (.int .i64 21) [] []) (True/\cond (!Sd.may p mo r m.cls) (K (.int .i64 22) [] []) (K (.int .i64 0) [] []))):=⟨by kernel_rfl,by kernel_rfl⟩
theorem OW (ka:Nat->Option Addr) (kn kc:Nat->Nat) {T:TypeId} (p:Sd.Pol) (t:Sd.Tok) (s r mo:Int) (m:Sd.dw) {v:V} (hv:aaW ka kn kc T p t s r mo m (eB 0 λx _ _=>x=v)) (hw:fR 0 v=true) {w:World} (hC:w.heap[2]?=some (.cells (ai [] kLd).toArray T (0,0))):
 au prog 149 (az [2] [.agg [.jS p ka kn kc],.agg (cI t),.int .i64 s,.int .i64 r,.int .i64 mo,.agg (cC m)]).toArray w λx w1=>x=den [] v/\Ch [] w w1:=by
 have S:=St.given (w:=w) [(2,.cells (ai [2] kLd).toArray T (0,0))] (by intro p hp;simp only[List.mem_singleton]at hp;subst hp;exact hC);refine(bW (fZ (sW gJd)).T (fZ (sW gJd)).Q 60 (C:=dQ prog gJd (qL Empty QV)) (ids:=[2]) (bl:=[⟨false,⟨T,(0,0)⟩,kLd⟩]) (ch:=[]) (R:=[]) (λg i h=>?_) rfl S hv).mono ?_
 ·replace h:gJd g=some i:=h;unfold gJd at h;cases hg:Nat.beq g 2 with
  |false=>rw[hg]at h;cases h
  |true=>rw[hg]at h;cases h;exact⟨by simp,(Nat.eq_of_beq_eq_true hg).symm⟩
 ·rintro x w' ⟨y,more,bl',ch',rfl,h1,S',hK⟩;obtain⟨v2,bj,bl2,e,ja,S2,rfl⟩:=eQ (n0:=0) h1 (by simp) S' hK;exact⟨e.trans (bR (ids:=[]) _ hw),S'.ch⟩
theorem aaX (p:Sd.Pol) (ka:Nat->Option Addr) (kn kc:Nat->Nat) (t:Sd.Tok) (s r mo:Int) (m:Sd.dw) (hk:m.kind=10\/m.kind=11) {T:TypeId} {w:World} (hC:w.heap[2]?=some (.cells (ai [] kLd).toArray T (0,0))):
 au prog 149 (az [2] [.agg [.jS p ka kn kc],.agg (cI t),.int .i64 s,.int .i64 r,.int .i64 mo,.agg (cC m)]).toArray w λx w1=>x=den [] (.int .i64 (Sd.i_ p t s r mo m))/\Ch [] w w1:=by
 rcases hk with hk|hk
 ·have e:m={m with kind:=10}:=by cases m;simp only at hk;subst hk;rfl
  rw[e];refine OW ka kn kc p t s r mo _ ?_ rfl hC;rw[(Xu ka kn kc T p t s r mo m _).1];unfold Sd.i_;rw[if_neg (by simp)];refine aS (λh=>by rw[if_pos (by simpa using h)]) (λh=>?_);rw[if_neg (by simpa using h)];refine aS (λh=>by rw[if_pos (by simpa using h)]) (λh=>⟨trivial,?_⟩);rw[if_neg (by simpa using h)];refine aS (λh=>by rw[if_pos (by simpa using h)]) (λh=>⟨trivial,?_⟩);rw[if_neg (by simpa using h)];exact aS (λh=>by rw[if_pos (by simpa using h)]) (λh=>by rw[if_neg (by simpa using h)])
 ·have e:m={m with kind:=11}:=by cases m;simp only at hk;subst hk;rfl
  rw[e];refine OW ka kn kc p t s r mo _ ?_ rfl hC;rw[(Xu ka kn kc T p t s r mo m _).2];unfold Sd.i_;rw[if_neg (by simp)];refine aS (λh=>by rw[if_pos (by simpa using h)]) (λh=>?_);rw[if_neg (by simpa using h)];refine aS (λh=>by rw[if_pos (by simpa using h)]) (λh=>⟨trivial,?_⟩);rw[if_neg (by simpa using h)];refine aS (λh=>by rw[if_pos (by simpa using h)]) (λh=>?_);rw[if_neg (by simpa using h),if_neg (by simp)]
def Ag:QF:=⟨149,λargs bl=>match args with
 |[.agg [.jS p ka kn kc],.agg tl,.int .i64 s,.int .i64 r,.int .i64 mo,.agg ml]=>(match kI tl,Jx ml,bl[1]?with
  |some t,some m,some (VB.mk _ (BT.mk _ (0,0)) bc)=>some ((m.kind=10\/m.kind=11)/\bc=[.bool false,.bool false,.bool false,.bool false,.bool false,.bool false,.bool false,.bool false,.bool false,.bool false,.bool true,.bool true],.int .i64 (Sd.i_ p t s r mo m))
  |_,_,_=>none)
 |_=>none⟩
theorem J3:Ag.Ok prog gS:=by
 intro args bl p_ v_ h hp ids w hg hm;unfold Ag at h;dsimp only at h;split at h
 ·rename_i p ka kn kc tl s r mo ml;split at h
  ·rename_i t m _ _ bc ht Ix hb;simp only[Option.some.injEq,Prod.mk.injEq]at h;obtain⟨rfl,rfl⟩:=h;obtain rfl:=eV ht;obtain rfl:=tM Ix;obtain⟨hk,hc⟩:=hp;have h2:=hm.2 1 _ hb;rw[(hg 2 1 rfl).2,hc]at h2;exact told (aaX p ka kn kc t s r mo m hk h2)
  ·cases h
 ·cases h
def L5 (fr:Sd.Reply->Nat×Sd.Byt) (C:Sd.Crypt):List (eG (Gh fr)):=⟨175,false,tbC aew⟩::⟨95,false,tbC aex⟩::qE (Gh fr) Ag::L4 fr C
theorem xN (tk:Nat->Sd.Byt->Option Sd.dw) (ht:Body (fr:=fr) 130 bN):ao prog gS (L5 fr (aq tk)):=
 ao.cons (Fo UC) (ao.cons (Fo UD) (ao.cons ⟨qb J3,λ_=>qa Ag.F⟩ (vu tk ht)))
end Go.Proofs.YtlkpikfddnjilaaGreatDoor
namespace Go.Proofs.YtlkpikfddnjilaaGreatDoor
open Go Go.RowKit Go.BigFrame Sx Vx
def fdC (d:Fd) (k:Nat):List V:=[.int .i64 d.sz,.int .i64 d.low,.int .i64 d.high,.fn (bif d.b then 223 else 159) [] [.ptr k 0],.fn (bif d.b then 224 else 160) [] [.ptr k 0]]
def OX:List Fd->Nat->List V
 |[],_=>[]
 |d::l,k=>fdC d k++OX l (k+1)
def Fp (i:Nat):List Fd->List VB
 |[]=>[]
 |d::l=>⟨true,bif d.b then 285 else 172,[.ptr i d.at_]⟩::Fp i l
def tlO:Option (List Value)->List V
 |none=>[]
 |some t=>[.rest t]
def J4 (l:List Fd) (u:Option (List Value)) (i b:Nat):List VB:=⟨true,⟨168,(0,0)⟩,OX l (b+1)++tlO u⟩::Fp i l
def UE (kd:Int) (T11:(Nat->Option (List Value)->Prop)->Prop) (k:List Fd->Nat->Option (List Value)->Prop) (k0:Prop):Prop:=
 cond (kd==1) (k [vb] 1 none) (cond (kd==2) (k [vb] 1 none) (cond (kd==3) (k [iX] 1 none) (cond (kd==4) (k [iX] 1 none) (cond (kd==8) (k [iX] 1 none) (cond (kd==9) (k [iX] 1 none) (cond (kd==5) (k [iX,JL] 2 none) (cond (kd==6) (k [iX,fTo] 2 none) (cond (kd==7) (k [iX,il] 2 none)
  (cond (kd==10) (k [iX,il,xI] 3 none) (cond (kd==11) (T11 λc u=>k [iX,il,w7,fX 0,fX 1,fX 2,fX 3] c u) k0))))))))))
def RI (n c:Nat) (a:List V) (k:Nat->List Value->Prop):Prop:=(n<=c/\fb a=c*5)/\(∀(c':Nat) (u:List Value),n+1<=c'->fb (sY (n+1)++[.rest u])=c'*5->k c' u)/\(∀(c':Nat) (u:List Value),n+1<=c'->fb (sY (n+1)++[.rest u])=c'*5->k c' u)
def qO (n:Nat) (u:List Value):List V:=sY n++[.rest u]
def aey (k:Nat->Option (List Value)->Prop):Prop:=RI 3 3 (sY 3) λc u=>RI 4 c (qO 4 u) λc u=>RI 5 c (qO 5 u) λc u=>RI 6 c (qO 6 u) λc u=>k c (some u)
def vw (m:Sd.dw):VB:=⟨true,⟨179,(0,0)⟩,cC m⟩
def aez (X:VK Empty) (m:Sd.dw) (l:List Fd) (c:Nat) (u:Option (List Value)):Prop:=X (.aI [.sl 1 0 l.length c,.bool true]) (vw m::J4 l u 0 1) []
theorem aaY (m:Sd.dw) (X:VK Empty):c_ (KW prog AU (qL Empty [])) 60 161 [.ptr 0 0] [vw m] [] (eB 1 X)=UE m.kind aey (aez X m) (X (.aI [.raw (.slice none 0 0),.bool false]) [vw m] []):=by kernel_rfl
def aeA (k:Nat->Option (List Value)->Prop):Prop:=∀(c:Nat) (u:List Value),7<=c->k c (some u)
def Ah {G:Type}:jq G:=λargs bl ch K=>match args with
 |[.ptr i 0]=>(match bl[i]?with
  |some b=>(match Jx b.c with
   |some m=>cond (A5 b.ty 179&&(b.wr&&ez bl.length bl)) (UE m.kind aeA (λl c u=>K (.aI [.sl bl.length 0 l.length c,.bool true]) (bl++J4 l u i bl.length) ch) (K (.aI [.raw (.slice none 0 0),.bool false]) bl ch)) False
   |none=>False)
  |none=>False)
 |_=>False
theorem J5 {kd:Int} {A B:(Nat->Option (List Value)->Prop)->Prop} {k k':List Fd->Nat->Option (List Value)->Prop} {k0 k0':Prop} (hA:∀q q':Nat->Option (List Value)->Prop,(∀c u,q c u->q' c u)->A q->B q') (hk:∀l c u,k l c u->k' l c u) (h0:k0->k0') (h:UE kd A k k0):UE kd B k' k0':=by
 have cm:∀{b:Bool} {X X' Y Y':Prop},(X->X')->(Y->Y')->cond b X Y->cond b X' Y':=by
  intro b X X' Y Y' h1 h2;cases b
  ·exact h2
  ·exact h1
 exact cm (hk _ _ _) (cm (hk _ _ _) (cm (hk _ _ _) (cm (hk _ _ _) (cm (hk _ _ _) (cm (hk _ _ _) (cm (hk _ _ _) (cm (hk _ _ _) (cm (hk _ _ _) (cm (hk _ _ _) (cm (hA _ _ λc u=>hk _ c u) h0)))))))))) h
theorem aaZ {q q':Nat->Option (List Value)->Prop} (hq:∀c u,q c u->q' c u) (h:aeA q):aey q':=by
 refine⟨⟨by decide,rfl⟩,?_⟩;have a4:∀(c':Nat) (u:List Value),3+1<=c'->fb (sY (3+1)++[.rest u])=c'*5->RI 4 c' (qO 4 u) λc u=>RI 5 c (qO 5 u) λc u=>RI 6 c (qO 6 u) λc u=>q' c (some u):=by
  intro c1 u1 h1 s1;have a5:∀(c':Nat) (u:List Value),4+1<=c'->fb (sY (4+1)++[.rest u])=c'*5->RI 5 c' (qO 5 u) λc u=>RI 6 c (qO 6 u) λc u=>q' c (some u):=by
   intro c2 u2 h2 s2;have a6:∀(c':Nat) (u:List Value),5+1<=c'->fb (sY (5+1)++[.rest u])=c'*5->RI 6 c' (qO 6 u) λc u=>q' c (some u):=by
    intro c3 u3 h3 s3;exact⟨⟨h3,s3⟩,λc4 u4 h4 _=>hq _ _ (h c4 u4 h4),λc4 u4 h4 _=>hq _ _ (h c4 u4 h4)⟩
   exact⟨⟨h2,s2⟩,a6,a6⟩
  exact⟨⟨h1,s1⟩,a5,a5⟩
 exact⟨a4,a4⟩
theorem UF {is js:List Nat} (d:Fd) (k k':Nat) (h:is.getD k 0=js.getD k' 0):ai is (fdC d k)=ai js (fdC d k'):=by
 simp only[fdC,ai,cl,den,az,h]
theorem Cz {is js:List Nat}:∀(l:List Fd) (k k':Nat),(∀j,is.getD (k+j) 0=js.getD (k'+j) 0)->ai is (OX l k)=ai js (OX l k')
 |[],_,_,_=>rfl
 |d::l,k,k',h=>by
  simp only[OX,bH];rw[UF d k k' (by simpa using h 0),Cz l (k+1) (k'+1) (λj=>by have:=h (1+j);rwa [<-Nat.add_assoc,<-Nat.add_assoc]at this)]
theorem CA {is js:List Nat} {i i':Nat} (h:is.getD i 0=js.getD i' 0):∀(l:List Fd) (more:List Nat),lits is more (Fp i l)=lits js more (Fp i' l)
 |[],more=>by cases more<;>rfl
 |d::l,[]=>rfl
 |d::l,x::more=>by
  simp only[Fp,lits,aW,ai,cl,den,h,CA h l more]
theorem UG {is js:List Nat} {i i' b b':Nat} (h:is.getD i 0=js.getD i' 0) (hb:∀j,is.getD (b+j) 0=js.getD (b'+j) 0) (l:List Fd) (u:Option (List Value)) (more:List Nat):lits is more (J4 l u i b)=lits js more (J4 l u i' b'):=by
 cases more with
 |nil=>rfl
 |cons x more=>
  have hu:ai is (tlO u)=ai js (tlO u):=by cases u<;>simp[tlO,ai,cl]
  simp only[J4,lits,aW,bH,hu,CA h l more];rw[Cz l (b+1) (b'+1) (λj=>by have:=hb (1+j);rwa [<-Nat.add_assoc,<-Nat.add_assoc]at this)]
theorem Hv (l:List Fd) (u:Option (List Value)) (i b:Nat):(J4 l u i b).length=l.length+1:=by
 have:∀l:List Fd,(Fp i l).length=l.length:=by
  intro l;induction l with
  |nil=>rfl
  |cons d l ih=>simp[Fp,ih]
 simp[J4,this]
def KF (m:Sd.dw) (P:List Fd->Nat->Option (List Value)->Prop) (P0:Prop):VK Empty:=λv bl ch=>ch=[]/\((∃l c u,P l c u/\v=.aI [.sl 1 0 l.length c,.bool true]/\bl=vw m::J4 l u 0 1)\/(P0/\v=.aI [.raw (.slice none 0 0),.bool false]/\bl=[vw m]))
theorem Ai {G:Type} [Bl G] (gl:Nat->Option Nat):Sound (G:=G) prog gl 161 Ah:=by
 intro args ids bl ch R ms w0 w K hg hl S hc;unfold Ah at hc;split at hc
 ·rename_i i;split at hc
  ·rename_i b hb;split at hc
   ·rename_i m hm;cases hq:A5 b.ty 179&&(b.wr&&ez bl.length bl)with
    |false=>rw[hq]at hc;exact hc.elim
    |true=>
     rw[hq]at hc;simp only[cond_true]at hc;simp only[Bool.and_eq_true]at hq;obtain⟨q1,q2,q3⟩:=hq;have q1:=yJ q1;obtain⟨wr,ty,bc⟩:=b;simp only at q1 q2 hm;subst q1 q2;obtain rfl:=tM hm;have hi:=ct hb;have hbb:=hb;obtain⟨r,hr,eo⟩:=OU hl hi;have p1:=eo bl rfl;have S1:=S.perm (p1.append_right _);rw[cR hb]at S1;have em:∀is:List Nat,ai is (cC m)=ai [] (cC m):=λis=>by have:=b_ (ids:=[]) (more:=is) (cC m) rfl;simpa using this
     have S2:St ms w0 (lits [ids.getD i 0] [ids.getD i 0] [vw m]++ak ([]:List Empty) ((r.map λj=>aW ids (ids.getD j 0) (bl.getD j ir))++ak ch R)) w:=by
      have e:lits [ids.getD i 0] [ids.getD i 0] [vw m]=[aW ids (ids.getD i 0) ⟨true,⟨179,(0,0)⟩,cC m⟩]:=by
       simp only[lits,aW,vw,em]
      rw[e];simpa[ak]using S1
     have hv:c_ (KW prog AU (qL Empty [])) 60 161 [.ptr 0 0] [vw m] [] (eB 1 (KF m (λl c u=>K (.aI [.sl bl.length 0 l.length c,.bool true]) (bl++J4 l u i bl.length) ch) (K (.aI [.raw (.slice none 0 0),.bool false]) bl ch))):=by
      rw[aaY];exact J5 (λq q' h=>aaZ h) (λl c u hP=>⟨rfl,.inl ⟨l,c,u,hP,rfl,rfl⟩⟩) (λhP=>⟨rfl,.inr ⟨hP,rfl,rfl⟩⟩) hc
     have main:=bW (G:=Empty) (ao.nil (P:=prog) (gl:=AU)).TS (ao.nil).QS 60 (C:=KW prog AU (qL Empty [])) (args:=[.ptr 0 0]) (λg i h=>by cases h) rfl S2 hv;have a1:(az ids [.ptr i 0]).toArray=(az [ids.getD i 0] [.ptr 0 0]).toArray:=rfl;rw[a1];refine main.mono ?_;rintro v w' ⟨x,more,bl',ch',rfl,DJ,S3,hgc⟩;obtain⟨v',bj,bl2,ev,ja,S4,rfl,hk⟩:=eQ (n0:=1) DJ (by simp) S3 hgc;rw[ev];have et:List.take 1 ([ids.getD i 0]++more)=[ids.getD i 0]:=rfl;rw[et]at ja S4⊢;simp only[ak]at S4;have back:∀(M:List VB),lits ([ids.getD i 0]++bj) ([ids.getD i 0]++bj) (vw m::M)=aW ids (ids.getD i 0) ⟨true,⟨179,(0,0)⟩,cC m⟩::lits ([ids.getD i 0]++bj) bj M:=by
      intro M;simp only[List.singleton_append,lits,aW,vw,em]
     rcases hk with⟨l,c,u,hP,rfl,rfl⟩|⟨hP,rfl,rfl⟩
     ·have hlen:bj.length=(J4 l u i bl.length).length:=by
       rw[Hv];rw[List.length_cons,Hv]at ja;simpa using ja
      have hb:∀j,([ids.getD i 0]++bj).getD (1+j) 0=(ids++bj).getD (bl.length+j) 0:=by
       intro j;rw[<-hl];simp[List.getD,List.getElem?_append_right,Nat.add_comm 1 j]
      have h0:([ids.getD i 0]++bj).getD 0 0=(ids++bj).getD i 0:=by
       exact(kX (ids:=ids) (more:=bj) (by rw[Nat.blt_eq,hl];exact hi)).symm
      refine⟨_,bj,_,ch,?_,by rw[List.length_append,List.length_append,hl,hlen],?_,hP⟩
      ·have:=hb 0;simp only[Nat.add_zero]at this;simp only[den,az,this]
      ·rw[back]at S4;have e2:lits (ids++bj) (ids++bj) (bl++J4 l u i bl.length)=lits ids ids bl++lits ([ids.getD i 0]++bj) bj (J4 l u 0 1):=by
        rw[aY _ _ _ _ hl,a_ _ _ (by rw[hl];exact q3),UG (i:=0) (i':=i) (b:=1) (b':=bl.length) h0 hb l u]
       rw[e2];refine S4.perm ?_;have p3:=(p1.symm.append_right (lits ([ids.getD i 0]++bj) bj (J4 l u 0 1))).append_right (ak ch R);rw[cR hbb]at p3;refine List.Perm.trans ?_ p3;simp only[List.cons_append,List.append_assoc];refine List.Perm.cons _ ?_;exact List.perm_append_comm_assoc _ _ _
     ·refine⟨_,[],bl,ch,?_,by simpa using hl,?_,hP⟩
      ·simp[den,az]
      ·rw[List.append_nil];rw[back]at S4;have IA:bj=[]:=by cases bj with
        |nil=>rfl
        |cons=>simp at ja
       subst IA;refine S4.perm ?_;have p3:=p1.symm.append_right (ak ch R);rw[cR hb]at p3;exact p3
   ·exact hc.elim
  ·exact hc.elim
 ·exact hc.elim
def LTm:List (eG Empty):=⟨161,false,Ah⟩::qL Empty LTk
def kJ (n e:Nat) (f:Nat->Int) (t:List Value) (X:V->Prop):Prop:=c_ (KW prog AU LTm) 90 126 [.sl 0 0 n (e+n)] [⟨false,⟨5,(0,0)⟩,[.ew .u8 n f,.rest t]⟩] [] λv _ _=>X v
section
variable(e:Nat) (f:Nat->Int) (t:List Value) (X:V->Prop)
theorem ahj:kJ 0 e f t X=X ph:=by kernel_rfl
theorem ahk:kJ 1 e f t X=gx 1 f X:=by kernel_rfl
theorem ahl:kJ 2 e f t X=gx 2 f X:=by kernel_rfl
theorem ahm:kJ 3 e f t X=gx 3 f X:=by kernel_rfl
theorem ahn:kJ 4 e f t X=gx 4 f X:=by kernel_rfl
theorem aho:kJ 5 e f t X=gx 5 f X:=by kernel_rfl
theorem ahp:kJ 6 e f t X=gx 6 f X:=by kernel_rfl
theorem ahq:kJ 7 e f t X=gx 7 f X:=by kernel_rfl
theorem ahr:kJ 8 e f t X=gx 8 f X:=by kernel_rfl
theorem ahs:kJ 9 e f t X=gx 9 f X:=by kernel_rfl
theorem aeB:kJ 10 e f t X=gx 10 f X:=by kernel_rfl
theorem aeC:kJ 11 e f t X=gx 11 f X:=by kernel_rfl
theorem aeD:kJ 12 e f t X=gx 12 f X:=by kernel_rfl
theorem aeE:kJ 13 e f t X=gx 13 f X:=by kernel_rfl
theorem aeF:kJ 14 e f t X=gx 14 f X:=by kernel_rfl
theorem aeG:kJ 15 e f t X=gx 15 f X:=by kernel_rfl
theorem aeH:kJ 16 e f t X=gx 16 f X:=by kernel_rfl
theorem aeI (m:Nat):kJ (m+17) e f t X=gx (m+17) f X:=by kernel_rfl
end
end Go.Proofs.YtlkpikfddnjilaaGreatDoor
