/- Part 17 of the proof. -/
import Derived.Test.YtlkpikfddnjilaaGreatDoorQ16
set_option linter.all false
set_option maxRecDepth 100000
set_option maxHeartbeats 4000000
open Go.Proofs.Tryz
namespace Go.Proofs.YtlkpikfddnjilaaGreatDoor
open Go Go.RowKit Go.BigFrame Sx Vx
def dp (n:Int):Prop:=-9223372036854775808<=n/\n<=9223372036854775807
theorem cH {a b:List ax} (h:∀f:ax->Bool,a.countP f=b.countP f):a.Perm b:=by
 classical
 refine List.perm_iff_count.2 λx=>?_;exact h _
structure QH where
 k:LK
 q:List Sd.Ask
 B:List ax
 h:QS k.bq k.most q B
instance:Bl QH:=⟨λg=>g.B⟩
def qhC (x:QG):gZ QH:=λargs bl ch K=>match ch with
 |[g]=>(match args[x.pos]?with
  |some (.raw vp)=>(match x.m (args.eraseIdx x.pos) g.k.most g.q with
   |some (p,v,q')=>cond (cG 0 args&&fu 0 v) ((vp=vq g.k/\p)/\∀B (h:QS g.k.bq g.k.most q' B),K v bl [⟨g.k,q',B,h⟩]) False
   |none=>False)
  |_=>False)
 |_=>False
theorem PW {x:QG} (h:x.Ok) (gl:Nat->Option Nat):Sound prog gl x.f (qhC x):=by
 intro args ids bl ch R ms w0 w K hg hl S hc;unfold qhC at hc;split at hc
 ·rename_i g;split at hc
  ·rename_i vp hvp;split at hc
   ·rename_i p v q' hm;cases hq:cG 0 args&&fu 0 v with
    |false=>rw[hq]at hc;exact hc.elim
    |true=>
     rw[hq]at hc;simp only[Bool.and_eq_true]at hq;obtain⟨⟨rfl,hp⟩,hK⟩:=hc;have a1:aq ids args=aq [] args:=by have:=dI (ids:=[]) (more:=ids) args hq.1;simpa using this
     have e0:∀(B:List ax) (h:QS g.k.bq g.k.most q' B),ag ([⟨g.k,q',B,h⟩]:List QH) R=B++R:=λ_ _=>rfl;have S1:St ms w0 (g.B++(lits ids ids bl++R)) w:=S.perm (by show List.Perm (lits ids ids bl++(g.B++R)) _;exact cH λf=>by simp only[List.countP_append];omega);rw[a1];refine(h args g.k g.q p v q' hvp hm hp _ g.h _ ms w0 w S1).mono ?_;rintro y w1 ⟨B',rfl,hB,S2⟩;refine⟨v,[],bl,_,?_,by simpa using hl,?_,hK B' hB⟩
     ·have:=bx (ids:=[]) (more:=ids++[]) v hq.2;simpa using this.symm
     ·rw[e0,List.append_nil];exact S2.perm (cH λf=>by simp only[List.countP_append];omega)
   ·exact hc.elim
  ·exact hc.elim
 ·exact hc.elim
def qhE (x:QG):dF QH:=⟨x.f,false,qhC x⟩
theorem AE {x:QG} (h:x.Ok) {gl:Nat->Option Nat}:oq (G:=QH) prog gl (qhE x):=⟨PW h gl,λe=>by cases e⟩
theorem PX {L:List (dF QH)} (hL:ah prog (λ_=>none) L) (n:Nat) {f:Nat} {args:List V} {v:V} {k:LK} {q q':List Sd.Ask} {B:List ax} (hB:QS k.bq k.most q B) (h:cI (dw prog (λ_=>none) L) n f args [] [⟨k,q,B,hB⟩] (du 0 λx b c=>x=v/\b=[]/\∃B h,c=[⟨k,q',B,h⟩])) (hv:fu 0 v=true)
 {bs:List ax} {ms:List Nat} {w0 w:World} (S:St ms w0 (B++bs) w):ak prog f (aq [] args).toArray w λy w1=>∃B',y=den [] v/\QS k.bq k.most q' B'/\St ms w0 (B'++bs) w1:=by
 refine(bw hL.T hL.Q n (C:=dw prog (λ_=>none) L) (ids:=[]) (bl:=[]) (ch:=[⟨k,q,B,hB⟩]) (R:=bs) Gl.none rfl S h).mono ?_;rintro x w' ⟨y,more,bl',ch',rfl,h1,S',hK⟩;obtain⟨v2,aS,bl2,e,gH,S2,rfl,rfl,B1,UF,rfl⟩:=dr (n0:=0) h1 (by simp) S' hK;have hm:aS=[]:=by simpa using gH
 subst hm;exact⟨B1,e,UF,S2⟩
def PY:QG:=⟨197,0,λargs _ q=>match args with
 |[]=>some (True,.aC [.agg (Pa (fK q).1),.int .i64 (fK q).2],q)
 |_=>none⟩
theorem PZ:PY.Ok:=by
 intro args k q p v q' hv hm hp B hB bs ms w0 w S
 match args,hv,hm with
 |[a],hv,hm=>
  have ha:a=.raw (vq k):=by simpa[PY]using hv
  subst ha;replace hm:some (True,V.aC [.agg (Pa (fK q).1),.int .i64 (fK q).2],q)=some (p,v,q'):=hm;simp only[Option.some.injEq,Prod.mk.injEq]at hm;obtain⟨rfl,rfl,rfl⟩:=hm;exact(ab_ hB S).mono (by rintro y w1 ⟨rfl,h⟩;exact⟨B,rfl,hB,S.quiet h⟩)
 |_::_::_,_,hm=>cases hm
def P1:QG:=⟨208,0,λargs most q=>match args with
 |[.agg al]=>(match VA al with|some a=>some (most<=3/\(∀e∈q,e.source=a.source\/¬e.aU=a.aU),.int .i64 (Sd.Q.push most q a).2,(Sd.Q.push most q a).1)|none=>none)
 |_=>none⟩
theorem P2:P1.Ok:=by
 intro args k q p v q' hv hm hp B hB bs ms w0 w S
 match args,hv,hm with
 |a::l,hv,hm=>
  have ha:a=.raw (vq k):=by simpa[P1]using hv
  subst ha;replace hm:(match(generalizing:=false) l with
   |[.agg al]=>(match VA al with|some a=>some (k.most<=3/\(∀e∈q,e.source=a.source\/¬e.aU=a.aU),V.int .i64 (Sd.Q.push k.most q a).2,(Sd.Q.push k.most q a).1)|none=>none)
   |_=>none)=some (p,v,q'):=hm
  split at hm
  ·split at hm
   ·rename_i a ha;obtain rfl:=VC ha;simp only[Option.some.injEq,Prod.mk.injEq]at hm;obtain⟨rfl,rfl,rfl⟩:=hm;exact ab9 a hB hp.1 hp.2 S
   ·cases hm
  ·cases hm
theorem FY (t:Sd.Tok) (q:List Sd.Ask):Sd.a9 t q=if(fK q).2≠0 then(t,(fK q).2,q)else if(t.bA (fK q).1.source).2≠0 then(t,(t.bA (fK q).1.source).2,q)else((t.bA (fK q).1.source).1,0,Sd.Q.drop q (fK q).1.source):=by
 cases q with
 |nil=>rfl
 |cons a q=>rfl
def LA:List (dF QH):=qhE Ij::qhE PY::qL QH QV
theorem Zb:ah prog (λ_=>none) LA:=ah.cons (AE C3) (ah.cons (AE PZ) (fJ (tm _)))
def one (g:QH) (q:List Sd.Ask) (X:List QH->Prop):Prop:=∀B (h:QS g.k.bq g.k.most q B),X [⟨g.k,q,B,h⟩]
def mT (t:Sd.Tok) (n:Int):V:=.aC [.agg (cE t),.int .i64 n]
theorem P3 (g:QH) (t:Sd.Tok) (K:VK QH):cI (dw prog (λ_=>none) LA) 60 156 [.agg (cE t),.raw (vq g.k)] [] [g] (du 0 K)=
 ((vq g.k=vq g.k/\True)/\one g g.q λc=>cond ((fK g.q).2!=0) (K (mT t (fK g.q).2) [] c) (dp t.epoch/\cond ((t.bA (fK g.q).1.source).2!=0) (K (mT t (t.bA (fK g.q).1.source).2) [] c)
   ((vq g.k=vq g.k/\True)/\one g (Sd.Q.drop g.q (fK g.q).1.source) λc=>K (mT (t.bA (fK g.q).1.source).1 0) [] c))):=by kernel_rfl
def AF:QG:=⟨156,1,λargs _ q=>match args with
 |[.agg tl]=>(match kr tl with|some t=>some (dp t.epoch,mT (Sd.a9 t q).1 (Sd.a9 t q).2.1,(Sd.a9 t q).2.2)|none=>none)
 |_=>none⟩
theorem Lb:AF.Ok:=by
 intro args k q p v q' hv hm hp B hB bs ms w0 w S
 match args,hv,hm with
 |a::b::l,hv,hm=>
  have ha:b=.raw (vq k):=by simpa[AF]using hv
  subst ha;replace hm:(match(generalizing:=false) a::l with
   |[.agg tl]=>(match kr tl with|some t=>some (dp t.epoch,mT (Sd.a9 t q).1 (Sd.a9 t q).2.1,(Sd.a9 t q).2.2)|none=>none)
   |_=>none)=some (p,v,q'):=hm
  split at hm
  ·rename_i tl heq;obtain⟨rfl,rfl⟩:=List.cons.inj heq;split at hm
   ·rename_i t ht;obtain rfl:=eL ht;simp only[Option.some.injEq,Prod.mk.injEq]at hm;obtain⟨rfl,rfl,rfl⟩:=hm;refine PX Zb 60 hB ?_ rfl S;rw[show cI (dw prog (λ_=>none) LA) 60 AF.f=cI (dw prog (λ_=>none) LA) 60 156 from rfl,P3 ⟨k,q,B,hB⟩,FY];refine⟨⟨rfl,trivial⟩,λB h=>aO (λh1=>?_) (λh1=>⟨hp,aO (λh2=>?_) λh2=>⟨⟨rfl,trivial⟩,λB h=>?_⟩⟩)⟩
    ·rw[if_pos (by simpa using h1)];exact⟨rfl,rfl,B,h,rfl⟩
    ·rw[if_neg (by simpa using h1),if_pos (by simpa using h2)];exact⟨rfl,rfl,B,h,rfl⟩
    ·rw[if_neg (by simpa using h1),if_neg (by simpa using h2)];exact⟨rfl,rfl,B,h,rfl⟩
   ·cases hm
  ·cases hm
def LB:List (dF QH):=qhE AF::qhE P1::LA
theorem agp:ah prog (λ_=>none) LB:=ah.cons (AE Lb) (ah.cons (AE P2) Zb)
def vcB (f:FuncId) (args:List V) (g:QH) (K:VK QH):Prop:=cI (dw prog (λ_=>none) LB) 60 f args [] [g] (du 0 K)
theorem AG {f:Nat} {args:List V} {v:V} {k:LK} {q q':List Sd.Ask} {B:List ax} (hB:QS k.bq k.most q B) (h:vcB f args ⟨k,q,B,hB⟩ λx b c=>x=v/\b=[]/\∃B h,c=[⟨k,q',B,h⟩]) (hv:fu 0 v=true)
 {bs:List ax} {ms:List Nat} {w0 w:World} (S:St ms w0 (B++bs) w):ak prog f (aq [] args).toArray w λy w1=>∃B',y=den [] v/\QS k.bq k.most q' B'/\St ms w0 (B'++bs) w1:=PX agp 60 hB h hv S
theorem acs (g:QH) (t:Sd.Tok) (f:Int) (K:VK QH):vcB 148 [.agg (cE t),.raw (vq g.k),.int .i64 f] g K=
 cond (f !=t.holder) (K (mT t 20) [] [g]) (cond (decide (t.epoch>=65535)) (K (mT t 24) [] [g]) ((vq g.k=vq g.k/\dp t.epoch)/\one g (Sd.a9 t g.q).2.2 λc=>K (mT (Sd.a9 t g.q).1 (Sd.a9 t g.q).2.1) [] c)):=by kernel_rfl
theorem ajo {k:LK} {q:List Sd.Ask} {B:List ax} (hB:QS k.bq k.most q B) {t:Sd.Tok} (he:dp t.epoch) (f:Int) {bs:List ax} {ms:List Nat} {w0 w:World} (S:St ms w0 (B++bs) w):
 ak prog 148 (aq [] [.agg (cE t),.raw (vq k),.int .i64 f]).toArray w λy w1=>∃B',y=den [] (mT (Sd.an t q f).1 (Sd.an t q f).2.1)/\QS k.bq k.most (Sd.an t q f).2.2 B'/\St ms w0 (B'++bs) w1:=by
 refine AG hB ?_ rfl S;rw[acs ⟨k,q,B,hB⟩];unfold Sd.an;refine aO (λh=>?_) (λh=>aO (λh2=>?_) λh2=>⟨⟨rfl,he⟩,λB h3=>?_⟩)
 ·rw[if_pos (by simpa using h)];exact⟨rfl,rfl,B,hB,rfl⟩
 ·rw[if_neg (by simpa using h),if_pos (by simpa using h2)];exact⟨rfl,rfl,B,hB,rfl⟩
 ·rw[if_neg (by simpa using h),if_neg (by simpa using h2)];exact⟨rfl,rfl,B,h3,rfl⟩
def loT (g:QH) (t:Sd.Tok) (la:Sd.Timer) (K:VK QH):Prop:=
 let t1:Sd.Tok:={t with la:=la.step}
 (dp la.n/\dp la.most)/\True/\cond (!la.step.due) (K (mT t1 0) [] [g]) (cond (decide (t.epoch>=65535)) (dp t.epoch/\K (mT t1.dB 6) [] [g]) ((vq g.k=vq g.k/\dp t.epoch)/\one g (Sd.a9 t1 g.q).2.2 λc=>
  cond ((Sd.a9 t1 g.q).2.1!=0) (dp t.epoch/\K (mT (t1.bA 4).1 5) [] c) (K (mT (Sd.a9 t1 g.q).1 5) [] c)))
theorem acu (g:QH) (p:Sd.Pol) (ka:Nat->Option Addr) (kn kc:Nat->Nat) (t:Sd.Tok) (th:Bool) (K:VK QH):vcB 111 [.agg [.jN p ka kn kc],.agg (cE t),.raw (vq g.k),.bool th] g K=
 cond (t.holder==4) (K (mT {t with la:=.zero} 0) [] [g]) (cond th (K (mT {t with la:=.zero} 0) [] [g]) (cond (t.la.most==0) (dp (p.i 43)/\loT g t (.start (p.i 43)) K) (loT g t t.la K))):=by kernel_rfl
def P4 (t:Sd.Tok) (a n:Int):V:=.aC [.agg (cE t),.int .i64 a,.int .i64 n]
def akG (g:QH) (t:Sd.Tok) (f:Int) (K:VK QH):Prop:=dp t.epoch/\cond ((t.bA f).2!=0) (K (P4 t 0 (t.bA f).2) [] [g]) ((vq g.k=vq g.k/\True)/\one g (Sd.Q.drop g.q f) λc=>K (P4 (t.bA f).1 3 0) [] c)
def akP (g:QH) (p:Sd.Pol) (t:Sd.Tok) (f:Int) (K:VK QH):Prop:=
 let a:Sd.Ask:=⟨f,Sd.placeOf p f,.start (p.i 45)⟩
 True/\dp (p.i 45)/\(vq g.k=vq g.k/\g.k.most<=3/\∀e∈g.q,e.source=f\/¬e.aU=Sd.placeOf p f)/\one g (Sd.Q.push g.k.most g.q a).1 λc=>K (P4 t 0 (Sd.Q.push g.k.most g.q a).2) [] c
theorem agq (g:QH) (p:Sd.Pol) (ka:Nat->Option Addr) (kn kc:Nat->Nat) (t:Sd.Tok) (f:Int) (nw:Bool) (K:VK QH):vcB 176 [.agg [.jN p ka kn kc],.agg (cE t),.raw (vq g.k),.int .i64 f,.bool nw] g K=
 cond t.bad (K (P4 t 0 29) [] [g]) (cond (f==t.holder) (K (P4 t 0 25) [] [g]) (cond (decide (t.epoch>=65535)) (K (P4 t 0 24) [] [g]) (cond (t.holder==4) (akG g t f K)
  (cond nw (True/\cond (Sd.b9 p f t.holder) (akG g t f K) (cond nw (K (P4 t 0 26) [] [g]) (akP g p t f K))) (cond nw (K (P4 t 0 26) [] [g]) (akP g p t f K)))))):=by kernel_rfl
def loB (t:Sd.Tok) (la:Sd.Timer) (q:List Sd.Ask):Sd.Tok×Int×List Sd.Ask:=
 let t1:Sd.Tok:={t with la:=la.step}
 if la.step.due=false then(t1,0,q)else if 65535<=t.epoch then(t1.dB,6,q)else if(Sd.a9 t1 q).2.1≠0 then((t1.bA 4).1,5,(Sd.a9 t1 q).2.2)else((Sd.a9 t1 q).1,5,(Sd.a9 t1 q).2.2)
theorem P5 {k:LK} {q:List Sd.Ask} {B:List ax} (hB:QS k.bq k.most q B) {t:Sd.Tok} (he:dp t.epoch) {la:Sd.Timer} (MU:dp la.n/\dp la.most):
 loT ⟨k,q,B,hB⟩ t la λx b c=>x=mT (loB t la q).1 (loB t la q).2.1/\b=[]/\∃B h,c=[⟨k,(loB t la q).2.2,B,h⟩]:=by
 unfold loT loB;refine⟨MU,trivial,aO (λh=>?_) (λh=>aO (λh2=>⟨he,?_⟩) λh2=>⟨⟨rfl,he⟩,λB1 h1=>aO (λh3=>⟨he,?_⟩) λh3=>?_⟩)⟩
 ·rw[if_pos (by simpa using h)];exact⟨rfl,rfl,B,hB,rfl⟩
 ·rw[if_neg (by simpa using h),if_pos (by simpa using h2)];exact⟨rfl,rfl,B,hB,rfl⟩
 ·rw[if_neg (by simpa using h),if_neg (by simpa using h2),if_pos (by simpa using h3)];exact⟨rfl,rfl,B1,h1,rfl⟩
 ·rw[if_neg (by simpa using h),if_neg (by simpa using h2),if_neg (by simpa using h3)];exact⟨rfl,rfl,B1,h1,rfl⟩
theorem ajp {k:LK} {q:List Sd.Ask} {B:List ax} (hB:QS k.bq k.most q B) (p:Sd.Pol) (ka:Nat->Option Addr) (kn kc:Nat->Nat) {t:Sd.Tok} (th:Bool) (he:dp t.epoch) (MU:dp t.la.n/\dp t.la.most) (hp:1<=p.i 43/\p.i 43<=1000) {bs:List ax} {ms:List Nat} {w0 w:World} (S:St ms w0 (B++bs) w):
 ak prog 111 (aq [] [.agg [.jN p ka kn kc],.agg (cE t),.raw (vq k),.bool th]).toArray w λy w1=>∃B',y=den [] (mT (Sd.bK p t q th).1 (Sd.bK p t q th).2.1)/\QS k.bq k.most (Sd.bK p t q th).2.2 B'/\St ms w0 (B'++bs) w1:=by
 refine AG hB ?_ rfl S;rw[acu ⟨k,q,B,hB⟩];have e:Sd.bK p t q th=if t.holder=4\/th=true then({t with la:=.zero},0,q)else loB t (if t.la.most=0 then .start (p.i 43)else t.la) q:=rfl
 rw[e];refine aO (λh=>?_) (λh=>aO (λh2=>?_) λh2=>?_)
 ·rw[if_pos (.inl (by simpa using h))];exact⟨rfl,rfl,B,hB,rfl⟩
 ·rw[if_pos (.inr h2)];exact⟨rfl,rfl,B,hB,rfl⟩
 ·rw[if_neg (by simp at h;simp[h,h2])];refine aO (λh3=>⟨by unfold dp;omega,?_⟩) (λh3=>?_)
  ·rw[if_pos (by simpa using h3)];refine P5 hB he ?_;rw[mM,if_neg (by omega)];exact⟨⟨by show(-9223372036854775808:Int)<=0;omega,by show(0:Int)<=9223372036854775807;omega⟩,by unfold dp;show _<=p.i 43/\p.i 43<=_;omega⟩
  ·rw[if_neg (by simpa using h3)];exact P5 hB he MU
theorem P6 {k:LK} {q:List Sd.Ask} {B:List ax} (hB:QS k.bq k.most q B) {t:Sd.Tok} (he:dp t.epoch) {f:Int} {R:Sd.Tok×Int×Int×List Sd.Ask} (e:R=if(t.bA f).2≠0 then(t,0,(t.bA f).2,q)else((t.bA f).1,3,0,Sd.Q.drop q f)):
 akG ⟨k,q,B,hB⟩ t f λx b c=>x=P4 R.1 R.2.1 R.2.2.1/\b=[]/\∃B h,c=[⟨k,R.2.2.2,B,h⟩]:=by
 unfold akG;subst e;refine⟨he,aO (λh=>?_) (λh=>⟨⟨rfl,trivial⟩,λB1 h1=>?_⟩)⟩
 ·rw[if_pos (by simpa using h)];exact⟨rfl,rfl,B,hB,rfl⟩
 ·rw[if_neg (by simpa using h)];exact⟨rfl,rfl,B1,h1,rfl⟩
theorem ajq {k:LK} {q:List Sd.Ask} {B:List ax} (hB:QS k.bq k.most q B) (p:Sd.Pol) (ka:Nat->Option Addr) (kn kc:Nat->Nat) {t:Sd.Tok} (f:Int) (nw:Bool) (he:dp t.epoch) (hm:k.most<=3) (hr:∀e∈q,e.source=f\/¬e.aU=Sd.placeOf p f) (hp:1<=p.i 45/\p.i 45<=1000) {bs:List ax} {ms:List Nat} {w0 w:World} (S:St ms w0 (B++bs) w):
 ak prog 176 (aq [] [.agg [.jN p ka kn kc],.agg (cE t),.raw (vq k),.int .i64 f,.bool nw]).toArray w λy w1=>∃B',y=den [] (P4 (Sd.cC p t k.most q f nw).1 (Sd.cC p t k.most q f nw).2.1 (Sd.cC p t k.most q f nw).2.2.1)/\QS k.bq k.most (Sd.cC p t k.most q f nw).2.2.2 B'/\St ms w0 (B'++bs) w1:=by
 refine AG hB ?_ rfl S;rw[agq ⟨k,q,B,hB⟩];have hP:∀R:Sd.Tok×Int×Int×List Sd.Ask,R=(t,0,(Sd.Q.push k.most q ⟨f,Sd.aU p f,.start p.ask⟩).2,(Sd.Q.push k.most q ⟨f,Sd.aU p f,.start p.ask⟩).1)->akP ⟨k,q,B,hB⟩ p t f λx b c=>x=P4 R.1 R.2.1 R.2.2.1/\b=[]/\∃B h,c=[⟨k,R.2.2.2,B,h⟩]:=by
  rintro R rfl;exact⟨trivial,by unfold dp;omega,⟨rfl,hm,hr⟩,λB1 h1=>⟨rfl,rfl,B1,h1,rfl⟩⟩
 unfold Sd.cC;refine aO (λh=>?_) (λh=>?_)
 ·rw[if_pos h];exact⟨rfl,rfl,B,hB,rfl⟩
 rw[if_neg (by simp[h])];refine aO (λh=>?_) (λh=>?_)
 ·rw[if_pos (by simpa using h)];exact⟨rfl,rfl,B,hB,rfl⟩
 rw[if_neg (by simpa using h)];refine aO (λh=>?_) (λh=>?_)
 ·rw[if_pos (by simpa using h)];exact⟨rfl,rfl,B,hB,rfl⟩
 rw[if_neg (by simpa using h)];refine aO (λh=>?_) (λh4=>aO (λh5=>⟨trivial,aO (λh6=>?_) λh6=>aO (λh7=>?_) λh7=>?_⟩) λh5=>aO (λh7=>?_) λh7=>?_)
 ·rw[if_pos (.inl (by simpa using h))];exact P6 hB he rfl
 ·rw[if_pos (.inr ⟨h5,h6⟩)];exact P6 hB he rfl
 ·rw[if_neg (by simp at h4;simp[h4,h6]),if_pos h7];exact⟨rfl,rfl,B,hB,rfl⟩
 ·rw[h5]at h7;cases h7
 ·rw[h5]at h7;cases h7
 ·rw[if_neg (by simp at h4;simp[h4,h5]),if_neg (by simp[h5])];exact hP _ rfl
variable{fr:Sd.Reply->Nat×Sd.Byt}
def acv:QG:=⟨148,1,λargs _ q=>match args with
 |[.agg tl,.int .i64 f]=>(match kr tl with|some t=>some (dp t.epoch,.aC [.agg (cE (Sd.an t q f).1),.int .i64 (Sd.an t q f).2.1],(Sd.an t q f).2.2)|none=>none)
 |_=>none⟩
theorem V5:acv.Ok:=by
 intro args k q p v q' hv hm hp B hB bs ms w0 w S
 match args,hv,hm with
 |a::b::l,hv,hm=>
  have ha:b=.raw (vq k):=by simpa[acv]using hv
  subst ha;replace hm:(match(generalizing:=false) a::l with
   |[.agg tl,.int .i64 f]=>(match kr tl with|some t=>some (dp t.epoch,V.aC [.agg (cE (Sd.an t q f).1),.int .i64 (Sd.an t q f).2.1],(Sd.an t q f).2.2)|none=>none)
   |_=>none)=some (p,v,q'):=hm
  split at hm
  ·rename_i tl f heq;obtain⟨rfl,rfl⟩:=List.cons.inj heq;split at hm
   ·rename_i t ht;obtain rfl:=eL ht;simp only[Option.some.injEq,Prod.mk.injEq]at hm;obtain⟨rfl,rfl,rfl⟩:=hm;exact ajo hB hp f S
   ·cases hm
  ·cases hm
def acw:QG:=⟨176,2,λargs most q=>match args with
 |[.agg [.jN p ka kn kc],.agg tl,.int .i64 f,.bool nw]=>(match kr tl with|some t=>some (dp t.epoch/\most<=3/\(∀e∈q,e.source=f\/¬e.aU=Sd.placeOf p f)/\(1<=p.i 45/\p.i 45<=1000),.aC [.agg (cE (Sd.cC p t most q f nw).1),.int .i64 (Sd.cC p t most q f nw).2.1,.int .i64 (Sd.cC p t most q f nw).2.2.1],(Sd.cC p t most q f nw).2.2.2)|none=>none)
 |_=>none⟩
theorem V6:acw.Ok:=by
 intro args k q p v q' hv hm hp B hB bs ms w0 w S
 match args,hv,hm with
 |a::b::c::l,hv,hm=>
  have ha:c=.raw (vq k):=by simpa[acw]using hv
  subst ha;replace hm:(match(generalizing:=false) a::b::l with
   |[.agg [.jN p ka kn kc],.agg tl,.int .i64 f,.bool nw]=>(match kr tl with|some t=>some (dp t.epoch/\k.most<=3/\(∀e∈q,e.source=f\/¬e.aU=Sd.placeOf p f)/\(1<=p.i 45/\p.i 45<=1000),V.aC [.agg (cE (Sd.cC p t k.most q f nw).1),.int .i64 (Sd.cC p t k.most q f nw).2.1,.int .i64 (Sd.cC p t k.most q f nw).2.2.1],(Sd.cC p t k.most q f nw).2.2.2)|none=>none)
   |_=>none)=some (p,v,q'):=hm
  split at hm
  ·rename_i p' ka kn kc tl f nw heq;obtain⟨rfl,h2⟩:=List.cons.inj heq;obtain⟨rfl,rfl⟩:=List.cons.inj h2;split at hm
   ·rename_i t ht;obtain rfl:=eL ht;simp only[Option.some.injEq,Prod.mk.injEq]at hm;obtain⟨rfl,rfl,rfl⟩:=hm;exact ajq hB p' ka kn kc f nw hp.1 hp.2.1 hp.2.2.1 hp.2.2.2 S
   ·cases hm
  ·cases hm
def bI (s:Sd.Scene) (q:List Sd.Ask):Sd.Scene:={s with c:={s.c with q:=q}}
def L4 (fr:Sd.Reply->Nat×Sd.Byt) (C:Sd.Crypt):List (dF (Gh fr)):=⟨65,false,pj (jH C)⟩::⟨148,false,ghC acv⟩::⟨176,false,ghC acw⟩::L3 fr C
theorem vV (tk:Nat->Sd.Byt->Option Sd.db) (ht:Body (fr:=fr) 130 bM):ah prog gS (L4 fr (aj tk)):=
 ah.cons (cX (FX tk ht)) (ah.cons (AA V5) (ah.cons (AA V6) (Za tk ht)))
section
variable(C:Sd.Crypt) (k:LK) (s:Sd.Scene) (F:cw fr (bV k s)) (Kb:SK fr k)
theorem V7 (l:Int) (m:Sd.db):cI (dw prog gS (L4 fr C)) 60 136 [.ptr 2 0,.int .i64 l,.agg (cB m)] (cO k s F) [cx k s F] (aM k s Kb)
 =(eg k s F/\iT [.int .i64 l,.int .i64 m.seq] k (dg s) F λv s' F'=>aM k s Kb (.aC []) (cO k s' F'++[⟨true,⟨179,(0,0)⟩,cB m⟩]) [cx k s' F']):=by kernel_rfl
theorem Lc (l:Int) (m:Sd.db):cI (dw prog gS (L4 fr C)) 60 140 [.ptr 2 0,.int .i64 l,.agg (cB m)] (cO k s F) [cx k s F] (aM k s Kb)
 =(dp s.c.t.epoch/\cond ((s.c.t.accept l m.epoch).2!=0) (eg k s F/\dQ C [.int .i64 l,.int .i64 m.seq,.int .i64 (s.c.t.accept l m.epoch).2] k (dg s) F λv s' F'=>aM k s Kb (.aC []) (cO k s' F'++[⟨true,⟨179,(0,0)⟩,cB m⟩,⟨true,⟨88,(0,0)⟩,cE (s.c.t.accept l m.epoch).1⟩]) [cx k s' F'])
  (eg k s F/\kQ C [.agg (cE (s.c.t.accept l m.epoch).1),.int .i64 1,.int .i64 m.seq] k (dg s) F λv s2 F2=>eg k s2 F2/\iT [.int .i64 l,.int .i64 m.seq] k (dg s2) F2 λv s' F'=>aM k s Kb (.aC []) (cO k s' F'++[⟨true,⟨179,(0,0)⟩,cB m⟩,⟨true,⟨88,(0,0)⟩,cE (s.c.t.accept l m.epoch).1⟩]) [cx k s' F'])):=by kernel_rfl
theorem V8 (l:Int) (m:Sd.db):cI (dw prog gS (L4 fr C)) 60 141 [.ptr 2 0,.int .i64 l,.agg (cB m)] (cO k s F) [cx k s F] (aM k s Kb)
 =(True/\cond ((s.c.t.fb l).2!=0) (eg k s F/\dQ C [.int .i64 l,.int .i64 m.seq,.int .i64 (s.c.t.fb l).2] k (dg s) F λv s' F'=>aM k s Kb (.aC []) (cO k s' F'++[⟨true,⟨179,(0,0)⟩,cB m⟩,⟨true,⟨88,(0,0)⟩,cE (s.c.t.fb l).1⟩]) [cx k s' F'])
  (eg k (fA s (s.c.t.fb l).1) F/\mS [.int .i64 (s.c.t.fb l).1.holder,.int .i64 l,.int .i64 0] k (dg (fA s (s.c.t.fb l).1)) F λv s2 F2=>eg k s2 F2/\gD C [.int .i64 11,.int .i64 l,.int .i64 m.seq,.int .i64 0,.int .i64 0] k (dg s2) F2 λv s3 F3=>
   eg k s3 F3/\iT [.int .i64 l,.int .i64 m.seq] k (dg s3) F3 λv s' F'=>aM k s Kb (.aC []) (cO k s' F'++[⟨true,⟨179,(0,0)⟩,cB m⟩,⟨true,⟨88,(0,0)⟩,cE (s.c.t.fb l).1⟩]) [cx k s' F'])):=by kernel_rfl
theorem P7 (l:Int) (m:Sd.db):cI (dw prog gS (L4 fr C)) 60 139 [.ptr 2 0,.int .i64 l,.agg (cB m)] (cO k s F) [cx k s F] (aM k s Kb)
 =(True/\Sd.cJ s.c.p/\cond ((Sd.Tok.make s.c.p s.c.t l m.bZ ((dh s.c.tab).on m.bZ)).2!=0) (eg k s F/\dQ C [.int .i64 l,.int .i64 m.seq,.int .i64 (Sd.Tok.make s.c.p s.c.t l m.bZ ((dh s.c.tab).on m.bZ)).2] k (dg s) F λv s' F'=>aM k s Kb (.aC []) (cO k s' F'++[⟨true,⟨179,(0,0)⟩,cB m⟩,⟨true,⟨88,(0,0)⟩,cE (Sd.Tok.make s.c.p s.c.t l m.bZ ((dh s.c.tab).on m.bZ)).1⟩]) [cx k s' F'])
  (eg k (fA s (Sd.Tok.make s.c.p s.c.t l m.bZ ((dh s.c.tab).on m.bZ)).1) F/\ow [.int .i64 m.bZ,.agg (gM 135 0 0 l (Sd.Tok.make s.c.p s.c.t l m.bZ ((dh s.c.tab).on m.bZ)).1.epoch 0)] k (dg (fA s (Sd.Tok.make s.c.p s.c.t l m.bZ ((dh s.c.tab).on m.bZ)).1)) F λv s2 F2=>
   eg k s2 F2/\gD C [.int .i64 9,.int .i64 l,.int .i64 m.seq,.int .i64 0,.int .i64 m.bZ] k (dg s2) F2 λv s3 F3=>
   eg k s3 F3/\iT [.int .i64 l,.int .i64 m.seq] k (dg s3) F3 λv s' F'=>aM k s Kb (.aC []) (cO k s' F'++[⟨true,⟨179,(0,0)⟩,cB m⟩,⟨true,⟨88,(0,0)⟩,cE (Sd.Tok.make s.c.p s.c.t l m.bZ ((dh s.c.tab).on m.bZ)).1⟩]) [cx k s' F'])):=by kernel_rfl
theorem FZ (l:Int) (m:Sd.db):cI (dw prog gS (L4 fr C)) 60 142 [.ptr 2 0,.int .i64 l,.agg (cB m)] (cO k s F) [cx k s F] (aM k s Kb)
 =((vq k=vq k/\dp s.c.t.epoch)/\∀B (hB:QS k.bq k.most (Sd.an s.c.t s.c.q l).2.2 B),
  cond ((Sd.an s.c.t s.c.q l).2.1!=0) (eg k (bI s (Sd.an s.c.t s.c.q l).2.2) (F.bI (Sd.an s.c.t s.c.q l).2.2 B hB)/\dQ C [.int .i64 l,.int .i64 m.seq,.int .i64 (Sd.an s.c.t s.c.q l).2.1] k (dg (bI s (Sd.an s.c.t s.c.q l).2.2)) (F.bI (Sd.an s.c.t s.c.q l).2.2 B hB) λv s' F'=>aM k s Kb (.aC []) (cO k s' F'++[⟨true,⟨179,(0,0)⟩,cB m⟩,⟨true,⟨88,(0,0)⟩,cE (Sd.an s.c.t s.c.q l).1⟩]) [cx k s' F'])
  (eg k (bI s (Sd.an s.c.t s.c.q l).2.2) (F.bI (Sd.an s.c.t s.c.q l).2.2 B hB)/\kQ C [.agg (cE (Sd.an s.c.t s.c.q l).1),.int .i64 2,.int .i64 m.seq] k (dg (bI s (Sd.an s.c.t s.c.q l).2.2)) (F.bI (Sd.an s.c.t s.c.q l).2.2 B hB) λv s2 F2=>eg k s2 F2/\iT [.int .i64 l,.int .i64 m.seq] k (dg s2) F2 λv s' F'=>aM k s Kb (.aC []) (cO k s' F'++[⟨true,⟨179,(0,0)⟩,cB m⟩,⟨true,⟨88,(0,0)⟩,cE (Sd.an s.c.t s.c.q l).1⟩]) [cx k s' F'])):=by kernel_rfl
abbrev gr (s:Sd.Scene) (k:LK) (l:Int) (m:Sd.db):Sd.Tok×Int×Int×List Sd.Ask:=Sd.cC s.c.p s.c.t k.most s.c.q l m.now
theorem acx (l:Int) (m:Sd.db):cI (dw prog gS (L4 fr C)) 60 138 [.ptr 2 0,.int .i64 l,.agg (cB m)] (cO k s F) [cx k s F] (aM k s Kb)
 =((vq k=vq k/\(dp s.c.t.epoch/\k.most<=3/\(∀e∈s.c.q,e.source=l\/¬e.aU=Sd.placeOf s.c.p l)/\(1<=s.c.p.i 45/\s.c.p.i 45<=1000)))/\∀B (hB:QS k.bq k.most (gr s k l m).2.2.2 B),
  cond ((gr s k l m).2.2.1!=0) (eg k (bI s (gr s k l m).2.2.2) (F.bI (gr s k l m).2.2.2 B hB)/\dQ C [.int .i64 l,.int .i64 m.seq,.int .i64 (gr s k l m).2.2.1] k (dg (bI s (gr s k l m).2.2.2)) (F.bI (gr s k l m).2.2.2 B hB) λv s' F'=>aM k s Kb (.aC []) (cO k s' F'++[⟨true,⟨179,(0,0)⟩,cB m⟩,⟨true,⟨88,(0,0)⟩,cE (gr s k l m).1⟩]) [cx k s' F'])
  (cond (decide ((gr s k l m).2.1>0)) (eg k (bI s (gr s k l m).2.2.2) (F.bI (gr s k l m).2.2.2 B hB)/\kQ C [.agg (cE (gr s k l m).1),.int .i64 (gr s k l m).2.1,.int .i64 m.seq] k (dg (bI s (gr s k l m).2.2.2)) (F.bI (gr s k l m).2.2.2 B hB) λv s2 F2=>eg k s2 F2/\iT [.int .i64 l,.int .i64 m.seq] k (dg s2) F2 λv s' F'=>aM k s Kb (.aC []) (cO k s' F'++[⟨true,⟨179,(0,0)⟩,cB m⟩,⟨true,⟨88,(0,0)⟩,cE (gr s k l m).1⟩]) [cx k s' F'])
  (eg k (fA (bI s (gr s k l m).2.2.2) (gr s k l m).1) (F.bI (gr s k l m).2.2.2 B hB)/\gD C [.int .i64 10,.int .i64 l,.int .i64 m.seq,.int .i64 0,.int .i64 0] k (dg (fA (bI s (gr s k l m).2.2.2) (gr s k l m).1)) (F.bI (gr s k l m).2.2.2 B hB) λv s2 F2=>eg k s2 F2/\iT [.int .i64 l,.int .i64 m.seq] k (dg s2) F2 λv s' F'=>aM k s Kb (.aC []) (cO k s' F'++[⟨true,⟨179,(0,0)⟩,cB m⟩,⟨true,⟨88,(0,0)⟩,cE (gr s k l m).1⟩]) [cx k s' F']))):=by kernel_rfl
end
structure TB (t:Sd.Tok):Prop where
 h:N4 t.holder
 e:Tu t.epoch
theorem lJ {t:Sd.Tok} (h:TB t) (o:Int):TB (t.bA o).1/\N8 (t.bA o).2:=by
 obtain⟨⟨h1,h2⟩,h3,h4⟩:=h;unfold Sd.Tok.bA;split
 ·exact⟨⟨⟨h1,h2⟩,h3,h4⟩,by simp[N8]⟩
 ·split
  ·exact⟨⟨⟨h1,h2⟩,h3,h4⟩,by simp[N8]⟩
  ·split
   ·exact⟨⟨⟨h1,h2⟩,h3,h4⟩,by simp[N8]⟩
   ·exact⟨⟨⟨by simp only[Sd.Tok.pass];omega,by simp only[Sd.Tok.pass];omega⟩,by simp only[Sd.Tok.pass];omega,by simp only[Sd.Tok.pass];omega⟩,by simp[N8]⟩
theorem P8 {t:Sd.Tok} (h:TB t) (l e:Int):TB (t.accept l e).1/\N8 (t.accept l e).2:=by
 unfold Sd.Tok.accept;split
 ·exact⟨h,by simp[N8]⟩
 ·split
  ·exact⟨h,by simp[N8]⟩
  ·exact lJ h l
theorem acy {t:Sd.Tok} (h:TB t) (l:Int):TB (t.fb l).1/\N8 (t.fb l).2:=by
 unfold Sd.Tok.fb;split
 ·exact⟨h,by simp[N8]⟩
 ·exact⟨⟨h.h,h.e⟩,by simp[N8]⟩
theorem acz {t:Sd.Tok} (h:TB t) (p:Sd.Pol) (l o:Int) (b:Bool):TB (Sd.Tok.make p t l o b).1/\N8 (Sd.Tok.make p t l o b).2:=by
 unfold Sd.Tok.make
 repeat' split
 all_goals first|exact⟨h,by simp[N8]⟩|exact⟨⟨h.h,h.e⟩,by simp[N8]⟩
theorem Io {t:Sd.Tok} (h:TB t) (q:List Sd.Ask):TB (Sd.a9 t q).1/\N8 (Sd.a9 t q).2.1:=by
 unfold Sd.a9;split
 ·exact⟨h,by simp[N8]⟩
 ·split
  ·exact⟨h,(lJ h _).2⟩
  ·exact⟨(lJ h _).1,by simp[N8]⟩
theorem Zc {t:Sd.Tok} (h:TB t) (q:List Sd.Ask) (l:Int):TB (Sd.an t q l).1/\N8 (Sd.an t q l).2.1:=by
 unfold Sd.an;split
 ·exact⟨h,by simp[N8]⟩
 ·split
  ·exact⟨h,by simp[N8]⟩
  ·exact Io h q
theorem Zd {t:Sd.Tok} {q:List Sd.Ask} {l:Int} (h:(Sd.an t q l).2.1≠0):(Sd.an t q l).2.2=q:=by
 unfold Sd.an at h⊢;split
 ·rfl
 ·split
  ·rfl
  ·rename_i h1 h2;rw[if_neg h1,if_neg h2]at h;unfold Sd.a9 at h⊢;split
   ·rfl
   ·split
    ·rfl
    ·rename_i a q' h3;simp only[if_neg h3,ne_eq,not_true_eq_false]at h
theorem acA (most:Int) (q:List Sd.Ask) (a:Sd.Ask):N8 (Sd.Q.push most q a).2:=by
 unfold Sd.Q.push
 repeat' split
 all_goals simp[N8]
theorem acB {most:Int} {q:List Sd.Ask} {a:Sd.Ask} (h:(Sd.Q.push most q a).2≠0):(Sd.Q.push most q a).1=q:=by
 unfold Sd.Q.push at h⊢;split
 ·rfl
 ·split
  ·rfl
  ·rename_i h1 h2;simp[if_neg h1,if_neg h2]at h
theorem agr {p:Sd.Pol} {t:Sd.Tok} (h:TB t) (most:Int) (q:List Sd.Ask) (f:Int) (nw:Bool):TB (Sd.cC p t most q f nw).1/\N8 (Sd.cC p t most q f nw).2.2.1:=by
 unfold Sd.cC
 repeat' split
 all_goals first|exact⟨h,(lJ h _).2⟩|exact⟨h,acA _ _ _⟩|exact⟨(lJ h _).1,show N8 0 from z8⟩|exact⟨h,show 0<=_/\_<=255 by simp⟩
theorem ags {p:Sd.Pol} {t:Sd.Tok} {most:Int} {q:List Sd.Ask} {f:Int} {nw:Bool} (h:(Sd.cC p t most q f nw).2.2.1≠0):(Sd.cC p t most q f nw).2.2.2=q:=by
 unfold Sd.cC at h⊢
 repeat' split
 all_goals first|rfl|skip
 ·rename_i h1 h2 h3 h4 h5;simp only[if_neg h1,if_neg h2,if_neg h3,if_pos h4,if_neg h5,ne_eq,not_true_eq_false]at h
 ·rename_i h1 h2 h3 h4 h5;simp only[if_neg h1,if_neg h2,if_neg h3,if_neg h4,if_neg h5]at h;exact acB h
theorem tb {c:Sd.Core} (h:Sd.Inv c):TB c.t:=⟨⟨h.tok.holder.1,by have:=h.tok.holder.2;omega⟩,by have:=h.tok.epoch.1;have:=h.p.epoch.1;omega,h.tok.epoch.2⟩
theorem TB.b {t:Sd.Tok} (h:TB t):dp t.epoch:=⟨by have:=h.e.1;omega,by have:=h.e.2;omega⟩
theorem eQ (C:Sd.Crypt) (s:Sd.Scene) (t:Sd.Tok) (h n:Int):(s.goes C t h n).c.p=s.c.p:=by
 show(Sd.Scene.hear _ _ _).c.p=_;rw[hear_c,hear_c]
theorem Rm.goes {C:Sd.Crypt} {s:Sd.Scene} {t:Sd.Tok} {h n:Int} {m:Nat} (hh:Rm s (m+3)):Rm (s.goes C t h n) m:=by
 have h1:Rm ({s with c:={s.c with t:=t,q:=Sd.Q.drop s.c.q t.holder}}:Sd.Scene) (m+3):=hh;exact(Rm.hear (Rm.hear h1)).rec
theorem kR {n:Int} (h:(n !=0)=true):n≠0:=by simpa using h
theorem mU {n:Int} (h:(n !=0)=false):¬n≠0:=by simpa using h
structure Sy (s:Sd.Scene) (l:Int) (m:Sd.db):Prop where
 r:Rm s 8
 i:Sd.Inv s.c
 n:Tv m.seq
 l1:1<=l
 l3:l<=3
def iP (act:Sd.Scene->Int->Sd.db->Sd.Scene):SM fr:=λar k s F K=>match ar with
 |[.int .i64 l,.agg ml]=>(match KB ml with
  |some m=>Sy s l m/\∀F',K (.aC []) (act s l m) F'
  |none=>False)
 |_=>False
theorem jI {tk:Nat->Sd.Byt->Option Sd.db} {act:Sd.Scene->Int->Sd.db->Sd.Scene} {f n:Nat} {L:List (dF (Gh fr))} (hL:ah prog gS L)
 (h:∀(l:Int) (m:Sd.db) (k:LK) (s:Sd.Scene) (F:cw fr (bV k s)) (Kb:SK fr k),s.c.p.queue=k.most->Sy s l m->(∀F',Kb (.aC []) (act s l m) F')->cI (dw prog gS L) n f [.ptr 2 0,.int .i64 l,.agg (cB m)] (cO k s F) [cx k s F] (aM k s Kb)):Body f (iP (fr:=fr) act):=by
 refine dy (n:=n) hL ?_;intro ar k s F Kb h0 hq hM;unfold iP at hM;split at hM
 ·rename_i l ml;split at hM
  ·rename_i m hm;obtain rfl:=ud hm;exact h l m k s F Kb hq hM.1 hM.2
  ·exact hM.elim
 ·exact hM.elim
theorem nF {s:Sd.Scene} {q:List Sd.Ask} (h:q=s.c.q):bI s q=s:=by subst h;rfl
theorem F5 (C:Sd.Crypt) (s:Sd.Scene) (l:Int) (m:Sd.db) (R:Sd.Tok×Int×Int×List Sd.Ask) (h:R=Sd.cC s.c.p s.c.t s.c.p.queue s.c.q l m.now):
 s.ask C l m=if R.2.2.1≠0 then s.refuse C l m.seq R.2.2.1 else(if 0<R.2.1 then(bI s R.2.2.2).goes C R.1 R.2.1 m.seq else(fA (bI s R.2.2.2) R.1).record C 10 l m.seq 0 0).done l m.seq:=by subst h;rfl
section
variable(tk:Nat->Sd.Byt->Option Sd.db) (ht:Body (fr:=fr) 130 bM)
include tk ht
theorem Ld:Body (fr:=fr) 136 (iP λs l m=>s.done l m.seq):=by
 refine jI (tk:=tk) (n:=60) (vV tk ht) ?_;intro l m k s F Kb hq hS hK;rw[V7];exact⟨eO hq,hJ ⟨hS.r.le (by decide),hS.n⟩ λF1=>aH rfl hK F1⟩
theorem C5:Body (fr:=fr) 140 (iP λs l m=>s.accept (aj tk) l m):=by
 refine jI (tk:=tk) (n:=60) (vV tk ht) ?_;intro l m k s F Kb hq hS hK;have hb:=P8 (tb hS.i) l m.epoch;rw[Lc];refine⟨(tb hS.i).b,aO (λe=>⟨eO hq,gh ⟨hS.r.le (by decide),hS.n,hb.2⟩ λF1=>aH (if_pos (kR e)).symm hK F1⟩) (λe=>⟨eO hq,lI ⟨hS.r.le (by decide),hb.1.h,hb.1.e⟩ λF2=>⟨eO ?_,hJ ⟨hS.r.goes.le (by decide),hS.n⟩ λF3=>aH (if_neg (mU e)).symm hK F3 (hp:=eQ _ _ _ _ _)⟩⟩)⟩;rw[eQ];exact hq
theorem Le:Body (fr:=fr) 141 (iP λs l m=>s.fb (aj tk) l m):=by
 refine jI (tk:=tk) (n:=60) (vV tk ht) ?_;intro l m k s F Kb hq hS hK;have hb:=acy (tb hS.i) l;have h1:Rm (fA s (s.c.t.fb l).1) 8:=hS.r;rw[V8];refine⟨trivial,aO (λe=>⟨eO hq,gh ⟨hS.r.le (by decide),hS.n,hb.2⟩ λF1=>aH (if_pos (kR e)).symm hK F1⟩) (λe=>⟨eO hq,qR ⟨h1.le (by decide),⟨by have:=hS.l1;omega,by have:=hS.l3;omega⟩,z8⟩ λF2=>⟨eO ?_,fe h1.gone.r1 λF3=>⟨eO ?_,hJ ⟨(h1.gone.rec).le (by decide),hS.n⟩ λF4=>aH (if_neg (mU e)).symm hK F4 (hp:=?_)⟩⟩⟩)⟩
 ·rw[gone_c];exact hq
 ·show(Sd.Scene.gone _ _ _ _).c.p.queue=_;rw[gone_c];exact hq
 ·show(Sd.Scene.gone _ _ _ _).c.p=_;rw[gone_c];rfl
theorem F6:Body (fr:=fr) 139 (iP λs l m=>s.offer (aj tk) l m):=by
 refine jI (tk:=tk) (n:=60) (vV tk ht) ?_;intro l m k s F Kb hq hS hK;have hb:=acz (tb hS.i) s.c.p l m.bZ (s.c.tab.on m.bZ);have h1:Rm (fA s (Sd.Tok.make s.c.p s.c.t l m.bZ (s.c.tab.on m.bZ)).1) 8:=hS.r;rw[P7,acp];refine⟨trivial,hS.i.p,aO (λe=>⟨eO hq,gh ⟨hS.r.le (by decide),hS.n,hb.2⟩ λF1=>aH (if_pos (kR e)).symm hK F1⟩) (λe=>⟨eO hq,uq ⟨h1.le (by decide),rb (by decide) V1 ⟨by have:=hS.l1;omega,by have:=hS.l3;omega⟩ hb.1.e z8⟩ λF2=>⟨eO ?_,fe h1.hear.r1 λF3=>⟨eO ?_,hJ ⟨(h1.hear.rec).le (by decide),hS.n⟩ λF4=>aH (if_neg (mU e)).symm hK F4 (hp:=?_)⟩⟩⟩)⟩
 ·rw[hear_c];exact hq
 ·show(Sd.Scene.hear _ _ _).c.p.queue=_;rw[hear_c];exact hq
 ·show(Sd.Scene.hear _ _ _).c.p=_;rw[hear_c];rfl
theorem AH:Body (fr:=fr) 142 (iP λs l m=>s.release (aj tk) l m):=by
 refine jI (tk:=tk) (n:=60) (vV tk ht) ?_;intro l m k s F Kb hq hS hK;have hb:=Zc (tb hS.i) s.c.q l;have h1:Rm (bI s (Sd.an s.c.t s.c.q l).2.2) 8:=hS.r;rw[FZ];refine⟨⟨rfl,(tb hS.i).b⟩,λB hB=>aO (λe=>⟨eO hq,gh ⟨h1.le (by decide),hS.n,hb.2⟩ λF1=>aH ?_ hK F1⟩) (λe=>⟨eO hq,lI ⟨h1.le (by decide),hb.1.h,hb.1.e⟩ λF2=>⟨eO ?_,hJ ⟨h1.goes.le (by decide),hS.n⟩ λF3=>aH (if_neg (mU e)).symm hK F3 (hp:=eQ _ _ _ _ _)⟩⟩)⟩
 ·rw[nF (Zd (kR e))];exact(if_pos (kR e)).symm
 ·rw[eQ];exact hq
theorem P9:Body (fr:=fr) 138 (iP λs l m=>s.ask (aj tk) l m):=by
 refine jI (tk:=tk) (n:=60) (vV tk ht) ?_;intro l m k s F Kb hq hS hK;have hb:=agr (p:=s.c.p) (tb hS.i) k.most s.c.q l m.now;have h1:Rm (bI s (gr s k l m).2.2.2) 8:=hS.r;have h2:Rm (fA (bI s (gr s k l m).2.2.2) (gr s k l m).1) 8:=hS.r;have hka:gr s k l m=Sd.cC s.c.p s.c.t s.c.p.queue s.c.q l m.now:=by rw[gr,hq]
 rw[acx];refine⟨⟨rfl,(tb hS.i).b,by rw[<-hq];exact hS.i.p.queue.2,?_,hS.i.p.ask⟩,λB hB=>aO (λe=>⟨eO hq,gh ⟨h1.le (by decide),hS.n,hb.2⟩ λF1=>aH ?_ hK F1⟩) (λe=>aO (λe2=>⟨eO hq,lI ⟨h1.le (by decide),hb.1.h,hb.1.e⟩ λF2=>⟨eO ?_,hJ ⟨h1.goes.le (by decide),hS.n⟩ λF3=>aH ?_ hK F3 (hp:=eQ _ _ _ _ _)⟩⟩)
  (λe2=>⟨eO hq,fe h2.r1 λF2=>⟨eO hq,hJ ⟨h2.rec.le (by decide),hS.n⟩ λF3=>aH ?_ hK F3⟩⟩))⟩
 ·intro a ha;by_cases hs:a.source=l
  ·exact .inl hs
  ·refine .inr λhr=>hs ?_;have h:=hS.i.q.each a ha;have h1:=hS.l1;have h3:=hS.l3;exact Sd.xO hS.i.p ⟨by omega,by omega⟩ ⟨by omega,by omega⟩ (by rw[<-hr,h.1];rfl)
 ·rw[nF (ags (kR e)),F5 _ _ _ _ _ hka];exact(if_pos (kR e)).symm
 ·rw[eQ];exact hq
 ·have e3:0<(gr s k l m).2.1:=by simpa using e2
  rw[F5 _ _ _ _ _ hka,if_neg (mU e),if_pos e3]
 ·have e3:¬0<(gr s k l m).2.1:=by simpa using e2
  rw[F5 _ _ _ _ _ hka,if_neg (mU e),if_neg e3]
end
structure QT where
 f:Nat
 m:List V->TC->Option (Prop×V×Sd.Tab)
def En (t:Sd.Tab) (b m:Int):TC:=⟨t.aA.1,t.aA.2.n,t.aA.2.most,t.az 0,t.az 1,t.az 2,b,m⟩
def tbC (x:QT):gZ (Gh fr):=λargs bl ch K=>match args with
 |.ptr it 0::ar=>(match bl[it]?with
  |some ⟨true,⟨143,(0,0)⟩,tc⟩=>(match vP tc with
   |some y=>(match x.m ar y with
    |some (p,v,t)=>cond (cG 0 ar&&fu 0 v) (p/\K v (bl.set it ⟨true,⟨143,(0,0)⟩,bU (En t y.b y.m)⟩) ch) False
    |none=>False)
   |none=>False)
  |_=>False)
 |_=>False
def QT.Ok (x:QT):Prop:=∀(ar:List V) (y:TC) (p:Prop) (v:V) (t:Sd.Tab),x.m ar y=some (p,v,t)->p->∀(bt:Nat) (bs:List ax) (ms:List Nat) (w0 w:World),St ms w0 ([⟨bt,true,.cells (jd (aK y).aA (aK y).az y.b y.m) 143 (0,0)⟩]++bs) w->
 ak prog x.f (aq [bt] (.ptr 0 0::ar)).toArray w λu w1=>u=den [] v/\St ms w0 ([⟨bt,true,.cells (jd t.aA t.az y.b y.m) 143 (0,0)⟩]++bs) w1
theorem P_ {bl:List VB} {ids:List Nat} (h:ids.length=bl.length) {i:Nat} (hi:i<bl.length):
 ∃r:List Nat,(∀j∈r,j≠i)/\∀bl':List VB,bl'.length=bl.length->(lits ids ids bl').Perm (aL ids (ids.getD i 0) (bl'.getD i g_)::r.map λj=>aL ids (ids.getD j 0) (bl'.getD j g_)):=by
 obtain⟨r,h1,h2⟩:=vR h (is:=[i]) (by simp) (by simp[hi]);exact⟨r,λj hj=>by simpa using h1 j hj,λbl' hl=>by simpa using h2 bl' hl⟩
theorem Qa {x:QT} (h:x.Ok) (gl:Nat->Option Nat):Sound prog gl x.f (tbC (fr:=fr) x):=by
 intro args ids bl ch R ms w0 w K hg hl S hc;unfold tbC at hc;split at hc
 ·rename_i it ar;split at hc
  ·rename_i tc hb;split at hc
   ·rename_i y hy;split at hc
    ·rename_i p v t hm;cases hq:cG 0 ar&&fu 0 v with
     |false=>rw[hq]at hc;exact hc.elim
     |true=>
      rw[hq]at hc;simp only[Bool.and_eq_true]at hq;obtain⟨hp,hK⟩:=hc;obtain rfl:=j7 hy;have hi:=ck hb;obtain⟨r,hr,ef⟩:=P_ hl hi;have a1:aq ids (.ptr it 0::ar)=aq [ids.getD it 0] (.ptr 0 0::ar):=by
       have b1:aq ids ar=aq [] ar:=by have:=dI (ids:=[]) (more:=ids) ar hq.1;simpa using this
       have b2:aq [ids.getD it 0] ar=aq [] ar:=by have:=dI (ids:=[]) (more:=[ids.getD it 0]) ar hq.1;simpa using this
       simp only[aq,den,b1,b2];rfl
      have e1:aL ids (ids.getD it 0) (bl.getD it g_)=⟨ids.getD it 0,true,.cells (jd (aK y).aA (aK y).az y.b y.m) 143 (0,0)⟩:=by rw[cL hb];kernel_rfl
      have p1:=ef bl rfl;rw[e1]at p1;have S1:=S.perm (p1.append_right _);rw[a1];refine(h ar y p v t hm hp _ _ ms w0 w S1).mono ?_;rintro u w1 ⟨rfl,S2⟩;refine⟨v,[],_,ch,?_,by simp[hl],?_,hK⟩
      ·have:=bx (ids:=[]) (more:=ids++[]) v hq.2;simpa using this.symm
      ·simp only[List.append_nil];refine S2.perm ?_;have p2:=ef (bl.set it ⟨true,⟨143,(0,0)⟩,bU (En t y.b y.m)⟩) (by simp);have e2:aL ids (ids.getD it 0) ((bl.set it ⟨true,⟨143,(0,0)⟩,bU (En t y.b y.m)⟩).getD it g_)=⟨ids.getD it 0,true,.cells (jd t.aA t.az y.b y.m) 143 (0,0)⟩:=by rw[cL (mR hi)];kernel_rfl
       have e3:(r.map λj=>aL ids (ids.getD j 0) ((bl.set it ⟨true,⟨143,(0,0)⟩,bU (En t y.b y.m)⟩).getD j g_))=r.map λj=>aL ids (ids.getD j 0) (bl.getD j g_):=by
        apply List.map_congr_left;intro j hj;simp only[List.getD];rw[eN (Ne.symm (hr j hj))]
       rw[e2,e3]at p2;exact p2.symm.append_right _
    ·exact hc.elim
   ·exact hc.elim
  ·exact hc.elim
 ·exact hc.elim
theorem F7 {x:QT} (h:x.Ok):oq (G:=Gh fr) prog gS ⟨x.f,false,tbC x⟩:=⟨Qa h gS,λe=>by cases e⟩
def agt:QT:=⟨175,λar y=>match ar with
 |[.int .i64 s]=>some (True,.bool ((aK y).fq s),(aK y).end_ s)
 |_=>none⟩
theorem V9:agt.Ok:=by
 intro ar y p v t hm hp bt bs ms w0 w S;replace hm:(match(generalizing:=false) ar with
  |[.int .i64 s]=>some (True,V.bool ((aK y).fq s),(aK y).end_ s)
  |_=>none)=some (p,v,t):=hm
 split at hm
 ·simp only[Option.some.injEq,Prod.mk.injEq]at hm;obtain⟨rfl,rfl,rfl⟩:=hm;exact agl y _ S
 ·cases hm
def agu:QT:=⟨95,λar y=>match ar with
 |[]=>some (0<=y.b/\y.b<=1000,.aC [],{aK y with aA:=(true,.start y.b)})
 |_=>none⟩
theorem V_:agu.Ok:=by
 intro ar y p v t hm hp bt bs ms w0 w S;replace hm:(match(generalizing:=false) ar with
  |[]=>some (0<=y.b/\y.b<=1000,V.aC [],{aK y with aA:=(true,.start y.b)})
  |_=>none)=some (p,v,t):=hm
 split at hm
 ·simp only[Option.some.injEq,Prod.mk.injEq]at hm;obtain⟨rfl,rfl,rfl⟩:=hm;exact agm y hp S
 ·cases hm
def gJd (g:Nat):Option Nat:=bif Nat.beq g 2 then some 0 else none
def kLd:List V:=[.bool false,.bool false,.bool false,.bool false,.bool false,.bool false,.bool false,.bool false,.bool false,.bool false,.bool true,.bool true]
def acC (ka:Nat->Option Addr) (kn kc:Nat->Nat) (T:TypeId) (p:Sd.Pol) (t:Sd.Tok) (s r mo:Int) (m:Sd.db) (K:VK Empty):Prop:=cI (dw prog gJd (qL Empty QV)) 60 149 [.agg [.jN p ka kn kc],.agg (cE t),.int .i64 s,.int .i64 r,.int .i64 mo,.agg (cB m)] [⟨false,⟨T,(0,0)⟩,kLd⟩] [] K
theorem Ze (ka:Nat->Option Addr) (kn kc:Nat->Nat) (T:TypeId) (p:Sd.Pol) (t:Sd.Tok) (s r mo:Int) (m:Sd.db) (K:VK Empty):
 acC ka kn kc T p t s r mo {m with kind:=10} (du 0 K)=cond (s !=t.holder) (K (.int .i64 20) [] []) (cond (m.epoch !=t.epoch) (K (.int .i64 21) [] []) (True/\cond (!Sd.may p mo r 0) (K (.int .i64 22) [] []) (True/\cond (!Sd.goes p mo m.mode) (K (.int .i64 23) [] []) (K (.int .i64 0) [] []))))/\
 acC ka kn kc T p t s r mo {m with kind:=11} (du 0 K)=cond (s !=t.holder) (K (.int .i64 20) [] []) (cond (m.epoch !=t.epoch) (K (.int .i64 21) [] []) (True/\cond (!Sd.may p mo r m.cls) (K (.int .i64 22) [] []) (K (.int .i64 0) [] []))):=⟨by kernel_rfl,by kernel_rfl⟩
theorem Qb (ka:Nat->Option Addr) (kn kc:Nat->Nat) {T:TypeId} (p:Sd.Pol) (t:Sd.Tok) (s r mo:Int) (m:Sd.db) {v:V} (hv:acC ka kn kc T p t s r mo m (du 0 λx _ _=>x=v)) (hw:fu 0 v=true) {w:World} (hC:w.heap[2]?=some (.cells (af [] kLd).toArray T (0,0))):
 ak prog 149 (aq [2] [.agg [.jN p ka kn kc],.agg (cE t),.int .i64 s,.int .i64 r,.int .i64 mo,.agg (cB m)]).toArray w λx w1=>x=den [] v/\Ch [] w w1:=by
 have S:=St.given (w:=w) [(2,.cells (af [2] kLd).toArray T (0,0))] (by intro p hp;simp only[List.mem_singleton]at hp;subst hp;exact hC);refine(bw (fJ (tm gJd)).T (fJ (tm gJd)).Q 60 (C:=dw prog gJd (qL Empty QV)) (ids:=[2]) (bl:=[⟨false,⟨T,(0,0)⟩,kLd⟩]) (ch:=[]) (R:=[]) (λg i h=>?_) rfl S hv).mono ?_
 ·replace h:gJd g=some i:=h;unfold gJd at h;cases hg:Nat.beq g 2 with
  |false=>rw[hg]at h;cases h
  |true=>rw[hg]at h;cases h;exact⟨by simp,(Nat.eq_of_beq_eq_true hg).symm⟩
 ·rintro x w' ⟨y,more,bl',ch',rfl,h1,S',hK⟩;obtain⟨v2,aS,bl2,e,gH,S2,rfl⟩:=dr (n0:=0) h1 (by simp) S' hK;exact⟨e.trans (bx (ids:=[]) _ hw),S'.ch⟩
theorem acD (p:Sd.Pol) (ka:Nat->Option Addr) (kn kc:Nat->Nat) (t:Sd.Tok) (s r mo:Int) (m:Sd.db) (hk:m.kind=10\/m.kind=11) {T:TypeId} {w:World} (hC:w.heap[2]?=some (.cells (af [] kLd).toArray T (0,0))):
 ak prog 149 (aq [2] [.agg [.jN p ka kn kc],.agg (cE t),.int .i64 s,.int .i64 r,.int .i64 mo,.agg (cB m)]).toArray w λx w1=>x=den [] (.int .i64 (Sd.iR p t s r mo m))/\Ch [] w w1:=by
 rcases hk with hk|hk
 ·have e:m={m with kind:=10}:=by cases m;simp only at hk;subst hk;rfl
  rw[e];refine Qb ka kn kc p t s r mo _ ?_ rfl hC;rw[(Ze ka kn kc T p t s r mo m _).1];unfold Sd.iR;rw[if_neg (by simp)];refine aO (λh=>by rw[if_pos (by simpa using h)]) (λh=>?_);rw[if_neg (by simpa using h)];refine aO (λh=>by rw[if_pos (by simpa using h)]) (λh=>⟨trivial,?_⟩);rw[if_neg (by simpa using h)];refine aO (λh=>by rw[if_pos (by simpa using h)]) (λh=>⟨trivial,?_⟩);rw[if_neg (by simpa using h)];exact aO (λh=>by rw[if_pos (by simpa using h)]) (λh=>by rw[if_neg (by simpa using h)])
 ·have e:m={m with kind:=11}:=by cases m;simp only at hk;subst hk;rfl
  rw[e];refine Qb ka kn kc p t s r mo _ ?_ rfl hC;rw[(Ze ka kn kc T p t s r mo m _).2];unfold Sd.iR;rw[if_neg (by simp)];refine aO (λh=>by rw[if_pos (by simpa using h)]) (λh=>?_);rw[if_neg (by simpa using h)];refine aO (λh=>by rw[if_pos (by simpa using h)]) (λh=>⟨trivial,?_⟩);rw[if_neg (by simpa using h)];refine aO (λh=>by rw[if_pos (by simpa using h)]) (λh=>?_);rw[if_neg (by simpa using h),if_neg (by simp)]
def AI:QF:=⟨149,λargs bl=>match args with
 |[.agg [.jN p ka kn kc],.agg tl,.int .i64 s,.int .i64 r,.int .i64 mo,.agg ml]=>(match kr tl,KB ml,bl[1]?with
  |some t,some m,some (VB.mk _ (BT.mk _ (0,0)) bc)=>some ((m.kind=10\/m.kind=11)/\bc=[.bool false,.bool false,.bool false,.bool false,.bool false,.bool false,.bool false,.bool false,.bool false,.bool false,.bool true,.bool true],.int .i64 (Sd.iR p t s r mo m))
  |_,_,_=>none)
 |_=>none⟩
theorem Lf:AI.Ok prog gS:=by
 intro args bl p_ v_ h hp ids w hg hm;unfold AI at h;dsimp only at h;split at h
 ·rename_i p ka kn kc tl s r mo ml;split at h
  ·rename_i t m _ _ bc ht Jo hb;simp only[Option.some.injEq,Prod.mk.injEq]at h;obtain⟨rfl,rfl⟩:=h;obtain rfl:=eL ht;obtain rfl:=ud Jo;obtain⟨hk,hc⟩:=hp;have h2:=hm.2 1 _ hb;rw[(hg 2 1 rfl).2,hc]at h2;exact told (acD p ka kn kc t s r mo m hk h2)
  ·cases h
 ·cases h
def L5 (fr:Sd.Reply->Nat×Sd.Byt) (C:Sd.Crypt):List (dF (Gh fr)):=⟨175,false,tbC agt⟩::⟨95,false,tbC agu⟩::qE (Gh fr) AI::L4 fr C
theorem yn (tk:Nat->Sd.Byt->Option Sd.db) (ht:Body (fr:=fr) 130 bM):ah prog gS (L5 fr (aj tk)):=
 ah.cons (F7 V9) (ah.cons (F7 V_) (ah.cons ⟨qi Lf,λ_=>qh AI.F⟩ (vV tk ht)))
end Go.Proofs.YtlkpikfddnjilaaGreatDoor
namespace Go.Proofs.YtlkpikfddnjilaaGreatDoor
open Go Go.RowKit Go.BigFrame Sx Vx
def fdC (d:Fd) (k:Nat):List V:=[.int .i64 d.sz,.int .i64 d.low,.int .i64 d.high,.fn (bif d.b then 223 else 159) [] [.ptr k 0],.fn (bif d.b then 224 else 160) [] [.ptr k 0]]
def Qc:List Fd->Nat->List V
 |[],_=>[]
 |d::l,k=>fdC d k++Qc l (k+1)
def F8 (i:Nat):List Fd->List VB
 |[]=>[]
 |d::l=>⟨true,bif d.b then 285 else 172,[.ptr i d.at_]⟩::F8 i l
def tlO:Option (List Value)->List V
 |none=>[]
 |some t=>[.rest t]
def Lg (l:List Fd) (u:Option (List Value)) (i b:Nat):List VB:=⟨true,⟨168,(0,0)⟩,Qc l (b+1)++tlO u⟩::F8 i l
def Wa (kd:Int) (T11:(Nat->Option (List Value)->Prop)->Prop) (k:List Fd->Nat->Option (List Value)->Prop) (k0:Prop):Prop:=
 cond (kd==1) (k [vI] 1 none) (cond (kd==2) (k [vI] 1 none) (cond (kd==3) (k [iO] 1 none) (cond (kd==4) (k [iO] 1 none) (cond (kd==8) (k [iO] 1 none) (cond (kd==9) (k [iO] 1 none) (cond (kd==5) (k [iO,KX] 2 none) (cond (kd==6) (k [iO,fTo] 2 none) (cond (kd==7) (k [iO,gW] 2 none)
  (cond (kd==10) (k [iO,gW,yi] 3 none) (cond (kd==11) (T11 λc u=>k [iO,gW,xC,fX 0,fX 1,fX 2,fX 3] c u) k0))))))))))
def Tw (n c:Nat) (a:List V) (k:Nat->List Value->Prop):Prop:=(n<=c/\eF a=c*5)/\(∀(c':Nat) (u:List Value),n+1<=c'->eF (tn (n+1)++[.rest u])=c'*5->k c' u)/\(∀(c':Nat) (u:List Value),n+1<=c'->eF (tn (n+1)++[.rest u])=c'*5->k c' u)
def qS (n:Nat) (u:List Value):List V:=tn n++[.rest u]
def agv (k:Nat->Option (List Value)->Prop):Prop:=Tw 3 3 (tn 3) λc u=>Tw 4 c (qS 4 u) λc u=>Tw 5 c (qS 5 u) λc u=>Tw 6 c (qS 6 u) λc u=>k c (some u)
def vW (m:Sd.db):VB:=⟨true,⟨179,(0,0)⟩,cB m⟩
def agw (X:VK Empty) (m:Sd.db) (l:List Fd) (c:Nat) (u:Option (List Value)):Prop:=X (.aC [.sl 1 0 l.length c,.bool true]) (vW m::Lg l u 0 1) []
theorem acE (m:Sd.db) (X:VK Empty):cI (Mx prog Bv (qL Empty [])) 60 161 [.ptr 0 0] [vW m] [] (du 1 X)=Wa m.kind agv (agw X m) (X (.aC [.raw (.slice none 0 0),.bool false]) [vW m] []):=by kernel_rfl
def agx (k:Nat->Option (List Value)->Prop):Prop:=∀(c:Nat) (u:List Value),7<=c->k c (some u)
def AJ {G:Type}:gZ G:=λargs bl ch K=>match args with
 |[.ptr i 0]=>(match bl[i]?with
  |some b=>(match KB b.c with
   |some m=>cond (BK b.ty 179&&(b.wr&&dE bl.length bl)) (Wa m.kind agx (λl c u=>K (.aC [.sl bl.length 0 l.length c,.bool true]) (bl++Lg l u i bl.length) ch) (K (.aC [.raw (.slice none 0 0),.bool false]) bl ch)) False
   |none=>False)
  |none=>False)
 |_=>False
theorem Lh {kd:Int} {A B:(Nat->Option (List Value)->Prop)->Prop} {k k':List Fd->Nat->Option (List Value)->Prop} {k0 k0':Prop} (hA:∀q q':Nat->Option (List Value)->Prop,(∀c u,q c u->q' c u)->A q->B q') (hk:∀l c u,k l c u->k' l c u) (h0:k0->k0') (h:Wa kd A k k0):Wa kd B k' k0':=by
 have cm:∀{b:Bool} {X X' Y Y':Prop},(X->X')->(Y->Y')->cond b X Y->cond b X' Y':=by
  intro b X X' Y Y' h1 h2;cases b
  ·exact h2
  ·exact h1
 exact cm (hk _ _ _) (cm (hk _ _ _) (cm (hk _ _ _) (cm (hk _ _ _) (cm (hk _ _ _) (cm (hk _ _ _) (cm (hk _ _ _) (cm (hk _ _ _) (cm (hk _ _ _) (cm (hk _ _ _) (cm (hA _ _ λc u=>hk _ c u) h0)))))))))) h
theorem acF {q q':Nat->Option (List Value)->Prop} (hq:∀c u,q c u->q' c u) (h:agx q):agv q':=by
 refine⟨⟨by decide,rfl⟩,?_⟩;have a4:∀(c':Nat) (u:List Value),3+1<=c'->eF (tn (3+1)++[.rest u])=c'*5->Tw 4 c' (qS 4 u) λc u=>Tw 5 c (qS 5 u) λc u=>Tw 6 c (qS 6 u) λc u=>q' c (some u):=by
  intro c1 u1 h1 s1;have a5:∀(c':Nat) (u:List Value),4+1<=c'->eF (tn (4+1)++[.rest u])=c'*5->Tw 5 c' (qS 5 u) λc u=>Tw 6 c (qS 6 u) λc u=>q' c (some u):=by
   intro c2 u2 h2 s2;have a6:∀(c':Nat) (u:List Value),5+1<=c'->eF (tn (5+1)++[.rest u])=c'*5->Tw 6 c' (qS 6 u) λc u=>q' c (some u):=by
    intro c3 u3 h3 s3;exact⟨⟨h3,s3⟩,λc4 u4 h4 _=>hq _ _ (h c4 u4 h4),λc4 u4 h4 _=>hq _ _ (h c4 u4 h4)⟩
   exact⟨⟨h2,s2⟩,a6,a6⟩
  exact⟨⟨h1,s1⟩,a5,a5⟩
 exact⟨a4,a4⟩
theorem Wb {is js:List Nat} (d:Fd) (k k':Nat) (h:is.getD k 0=js.getD k' 0):af is (fdC d k)=af js (fdC d k'):=by
 simp only[fdC,af,cl,den,aq,h]
theorem C6 {is js:List Nat}:∀(l:List Fd) (k k':Nat),(∀j,is.getD (k+j) 0=js.getD (k'+j) 0)->af is (Qc l k)=af js (Qc l k')
 |[],_,_,_=>rfl
 |d::l,k,k',h=>by
  simp only[Qc,bj];rw[Wb d k k' (by simpa using h 0),C6 l (k+1) (k'+1) (λj=>by have:=h (1+j);rwa [<-Nat.add_assoc,<-Nat.add_assoc]at this)]
theorem C7 {is js:List Nat} {i i':Nat} (h:is.getD i 0=js.getD i' 0):∀(l:List Fd) (more:List Nat),lits is more (F8 i l)=lits js more (F8 i' l)
 |[],more=>by cases more<;>rfl
 |d::l,[]=>rfl
 |d::l,x::more=>by
  simp only[F8,lits,aL,af,cl,den,h,C7 h l more]
theorem Wc {is js:List Nat} {i i' b b':Nat} (h:is.getD i 0=js.getD i' 0) (hb:∀j,is.getD (b+j) 0=js.getD (b'+j) 0) (l:List Fd) (u:Option (List Value)) (more:List Nat):lits is more (Lg l u i b)=lits js more (Lg l u i' b'):=by
 cases more with
 |nil=>rfl
 |cons x more=>
  have hu:af is (tlO u)=af js (tlO u):=by cases u<;>simp[tlO,af,cl]
  simp only[Lg,lits,aL,bj,hu,C7 h l more];rw[C6 l (b+1) (b'+1) (λj=>by have:=hb (1+j);rwa [<-Nat.add_assoc,<-Nat.add_assoc]at this)]
theorem Ip (l:List Fd) (u:Option (List Value)) (i b:Nat):(Lg l u i b).length=l.length+1:=by
 have:∀l:List Fd,(F8 i l).length=l.length:=by
  intro l;induction l with
  |nil=>rfl
  |cons d l ih=>simp[F8,ih]
 simp[Lg,this]
def KF (m:Sd.db) (P:List Fd->Nat->Option (List Value)->Prop) (P0:Prop):VK Empty:=λv bl ch=>ch=[]/\((∃l c u,P l c u/\v=.aC [.sl 1 0 l.length c,.bool true]/\bl=vW m::Lg l u 0 1)\/(P0/\v=.aC [.raw (.slice none 0 0),.bool false]/\bl=[vW m]))
theorem AK {G:Type} [Bl G] (gl:Nat->Option Nat):Sound (G:=G) prog gl 161 AJ:=by
 intro args ids bl ch R ms w0 w K hg hl S hc;unfold AJ at hc;split at hc
 ·rename_i i;split at hc
  ·rename_i b hb;split at hc
   ·rename_i m hm;cases hq:BK b.ty 179&&(b.wr&&dE bl.length bl)with
    |false=>rw[hq]at hc;exact hc.elim
    |true=>
     rw[hq]at hc;simp only[cond_true]at hc;simp only[Bool.and_eq_true]at hq;obtain⟨q1,q2,q3⟩:=hq;have q1:=zj q1;obtain⟨wr,ty,bc⟩:=b;simp only at q1 q2 hm;subst q1 q2;obtain rfl:=ud hm;have hi:=ck hb;have hbb:=hb;obtain⟨r,hr,ef⟩:=P_ hl hi;have p1:=ef bl rfl;have S1:=S.perm (p1.append_right _);rw[cL hb]at S1;have em:∀is:List Nat,af is (cB m)=af [] (cB m):=λis=>by have:=bY (ids:=[]) (more:=is) (cB m) rfl;simpa using this
     have S2:St ms w0 (lits [ids.getD i 0] [ids.getD i 0] [vW m]++ag ([]:List Empty) ((r.map λj=>aL ids (ids.getD j 0) (bl.getD j g_))++ag ch R)) w:=by
      have e:lits [ids.getD i 0] [ids.getD i 0] [vW m]=[aL ids (ids.getD i 0) ⟨true,⟨179,(0,0)⟩,cB m⟩]:=by
       simp only[lits,aL,vW,em]
      rw[e];simpa[ag]using S1
     have hv:cI (Mx prog Bv (qL Empty [])) 60 161 [.ptr 0 0] [vW m] [] (du 1 (KF m (λl c u=>K (.aC [.sl bl.length 0 l.length c,.bool true]) (bl++Lg l u i bl.length) ch) (K (.aC [.raw (.slice none 0 0),.bool false]) bl ch))):=by
      rw[acE];exact Lh (λq q' h=>acF h) (λl c u hP=>⟨rfl,.inl ⟨l,c,u,hP,rfl,rfl⟩⟩) (λhP=>⟨rfl,.inr ⟨hP,rfl,rfl⟩⟩) hc
     have main:=bw (G:=Empty) (ah.nil (P:=prog) (gl:=Bv)).TS (ah.nil).QS 60 (C:=Mx prog Bv (qL Empty [])) (args:=[.ptr 0 0]) (λg i h=>by cases h) rfl S2 hv;have a1:(aq ids [.ptr i 0]).toArray=(aq [ids.getD i 0] [.ptr 0 0]).toArray:=rfl;rw[a1];refine main.mono ?_;rintro v w' ⟨x,more,bl',ch',rfl,Em,S3,hgc⟩;obtain⟨v',aS,bl2,ev,gH,S4,rfl,hk⟩:=dr (n0:=1) Em (by simp) S3 hgc;rw[ev];have et:List.take 1 ([ids.getD i 0]++more)=[ids.getD i 0]:=rfl;rw[et]at gH S4⊢;simp only[ag]at S4;have back:∀(M:List VB),lits ([ids.getD i 0]++aS) ([ids.getD i 0]++aS) (vW m::M)=aL ids (ids.getD i 0) ⟨true,⟨179,(0,0)⟩,cB m⟩::lits ([ids.getD i 0]++aS) aS M:=by
      intro M;simp only[List.singleton_append,lits,aL,vW,em]
     rcases hk with⟨l,c,u,hP,rfl,rfl⟩|⟨hP,rfl,rfl⟩
     ·have hlen:aS.length=(Lg l u i bl.length).length:=by
       rw[Ip];rw[List.length_cons,Ip]at gH;simpa using gH
      have hb:∀j,([ids.getD i 0]++aS).getD (1+j) 0=(ids++aS).getD (bl.length+j) 0:=by
       intro j;rw[<-hl];simp[List.getD,List.getElem?_append_right,Nat.add_comm 1 j]
      have h0:([ids.getD i 0]++aS).getD 0 0=(ids++aS).getD i 0:=by
       exact(kG (ids:=ids) (more:=aS) (by rw[Nat.blt_eq,hl];exact hi)).symm
      refine⟨_,aS,_,ch,?_,by rw[List.length_append,List.length_append,hl,hlen],?_,hP⟩
      ·have:=hb 0;simp only[Nat.add_zero]at this;simp only[den,aq,this]
      ·rw[back]at S4;have e2:lits (ids++aS) (ids++aS) (bl++Lg l u i bl.length)=lits ids ids bl++lits ([ids.getD i 0]++aS) aS (Lg l u 0 1):=by
        rw[aQ _ _ _ _ hl,aR _ _ (by rw[hl];exact q3),Wc (i:=0) (i':=i) (b:=1) (b':=bl.length) h0 hb l u]
       rw[e2];refine S4.perm ?_;have p3:=(p1.symm.append_right (lits ([ids.getD i 0]++aS) aS (Lg l u 0 1))).append_right (ag ch R);rw[cL hbb]at p3;refine List.Perm.trans ?_ p3;simp only[List.cons_append,List.append_assoc];refine List.Perm.cons _ ?_;exact List.perm_append_comm_assoc _ _ _
     ·refine⟨_,[],bl,ch,?_,by simpa using hl,?_,hP⟩
      ·simp[den,aq]
      ·rw[List.append_nil];rw[back]at S4;have yS:aS=[]:=by cases aS with
        |nil=>rfl
        |cons=>simp at gH
       subst yS;refine S4.perm ?_;have p3:=p1.symm.append_right (ag ch R);rw[cL hb]at p3;exact p3
   ·exact hc.elim
  ·exact hc.elim
 ·exact hc.elim
def LTm:List (dF Empty):=⟨161,false,AJ⟩::qL Empty LTk
def ku (n e:Nat) (f:Nat->Int) (t:List Value) (X:V->Prop):Prop:=cI (Mx prog Bv LTm) 90 126 [.sl 0 0 n (e+n)] [⟨false,⟨5,(0,0)⟩,[.dS .u8 n f,.rest t]⟩] [] λv _ _=>X v
section
variable(e:Nat) (f:Nat->Int) (t:List Value) (X:V->Prop)
theorem ajr:ku 0 e f t X=X pg:=by kernel_rfl
theorem ajs:ku 1 e f t X=gf 1 f X:=by kernel_rfl
theorem ajt:ku 2 e f t X=gf 2 f X:=by kernel_rfl
theorem aju:ku 3 e f t X=gf 3 f X:=by kernel_rfl
theorem ajv:ku 4 e f t X=gf 4 f X:=by kernel_rfl
theorem ajw:ku 5 e f t X=gf 5 f X:=by kernel_rfl
theorem ajx:ku 6 e f t X=gf 6 f X:=by kernel_rfl
theorem ajy:ku 7 e f t X=gf 7 f X:=by kernel_rfl
theorem ajz:ku 8 e f t X=gf 8 f X:=by kernel_rfl
theorem ajA:ku 9 e f t X=gf 9 f X:=by kernel_rfl
theorem agy:ku 10 e f t X=gf 10 f X:=by kernel_rfl
theorem agz:ku 11 e f t X=gf 11 f X:=by kernel_rfl
theorem agA:ku 12 e f t X=gf 12 f X:=by kernel_rfl
theorem agB:ku 13 e f t X=gf 13 f X:=by kernel_rfl
theorem agC:ku 14 e f t X=gf 14 f X:=by kernel_rfl
theorem agD:ku 15 e f t X=gf 15 f X:=by kernel_rfl
theorem agE:ku 16 e f t X=gf 16 f X:=by kernel_rfl
theorem agF (m:Nat):ku (m+17) e f t X=gf (m+17) f X:=by kernel_rfl
end
end Go.Proofs.YtlkpikfddnjilaaGreatDoor
