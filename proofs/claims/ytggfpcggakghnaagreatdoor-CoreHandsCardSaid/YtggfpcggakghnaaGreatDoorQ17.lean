/- Part 17 of the proof. -/
import Derived.Test.YtggfpcggakghnaaGreatDoorQ16
set_option linter.all false
set_option maxRecDepth 100000
set_option maxHeartbeats 4000000
open Go.Proofs.Tryz
namespace Go.Proofs.YtggfpcggakghnaaGreatDoor
open Go Go.RowKit Go.BigFrame Sx Vx
def dy (n:Int):Prop:=-9223372036854775808<=n/\n<=9223372036854775807
theorem cj {a b:List av} (h:∀f:av->Bool,a.countP f=b.countP f):a.Perm b:=by
 classical
 refine List.perm_iff_count.2 λx=>?_;exact h _
structure QH where
 k:LK
 q:List Sd.Ask
 B:List av
 h:QS k.bq k.most q B
instance:Bl QH:=⟨λg=>g.B⟩
def qhC (x:QG):gm QH:=λargs bl ch K=>match ch with
 |[g]=>(match args[x.pos]?with
  |some (.raw vp)=>(match x.m (args.eraseIdx x.pos) g.k.most g.q with
   |some (p,v,q')=>cond (cH 0 args&&fK 0 v) ((vp=vq g.k/\p)/\∀B (h:QS g.k.bq g.k.most q' B),K v bl [⟨g.k,q',B,h⟩]) False
   |none=>False)
  |_=>False)
 |_=>False
theorem R_ {x:QG} (h:x.Ok) (gl:Nat->Option Nat):Sound prog gl x.f (qhC x):=by
 intro args ids bl ch R ms w0 w K hg hl S hc;unfold qhC at hc;split at hc
 ·rename_i g;split at hc
  ·rename_i vp hvp;split at hc
   ·rename_i p v q' hm;cases hq:cH 0 args&&fK 0 v with
    |false=>rw[hq]at hc;exact hc.elim
    |true=>
     rw[hq]at hc;simp only[Bool.and_eq_true]at hq;obtain⟨⟨rfl,hp⟩,hK⟩:=hc;have a1:ao ids args=ao [] args:=by have:=dW (ids:=[]) (more:=ids) args hq.1;simpa using this
     have e0:∀(B:List av) (h:QS g.k.bq g.k.most q' B),af ([⟨g.k,q',B,h⟩]:List QH) R=B++R:=λ_ _=>rfl;have S1:St ms w0 (g.B++(lits ids ids bl++R)) w:=S.perm (by show List.Perm (lits ids ids bl++(g.B++R)) _;exact cj λf=>by simp only[List.countP_append];omega);rw[a1];refine(h args g.k g.q p v q' hvp hm hp _ g.h _ ms w0 w S1).mono ?_;rintro y w1 ⟨B',rfl,hB,S2⟩;refine⟨v,[],bl,_,?_,by simpa using hl,?_,hK B' hB⟩
     ·have:=bC (ids:=[]) (more:=ids++[]) v hq.2;simpa using this.symm
     ·rw[e0,List.append_nil];exact S2.perm (cj λf=>by simp only[List.countP_append];omega)
   ·exact hc.elim
  ·exact hc.elim
 ·exact hc.elim
def qhE (x:QG):dI QH:=⟨x.f,false,qhC x⟩
theorem BC {x:QG} (h:x.Ok) {gl:Nat->Option Nat}:oP (G:=QH) prog gl (qhE x):=⟨R_ h gl,λe=>by cases e⟩
theorem Sa {L:List (dI QH)} (hL:ai prog (λ_=>none) L) (n:Nat) {f:Nat} {args:List V} {v:V} {k:LK} {q q':List Sd.Ask} {B:List av} (hB:QS k.bq k.most q B) (h:cJ (dR prog (λ_=>none) L) n f args [] [⟨k,q,B,hB⟩] (cP 0 λx b c=>x=v/\b=[]/\∃B h,c=[⟨k,q',B,h⟩])) (hv:fK 0 v=true)
 {bs:List av} {ms:List Nat} {w0 w:World} (S:St ms w0 (B++bs) w):aj prog f (ao [] args).toArray w λy w1=>∃B',y=den [] v/\QS k.bq k.most q' B'/\St ms w0 (B'++bs) w1:=by
 refine(bw hL.T hL.Q n (C:=dR prog (λ_=>none) L) (ids:=[]) (bl:=[]) (ch:=[⟨k,q,B,hB⟩]) (R:=bs) Gl.none rfl S h).mono ?_;rintro x w' ⟨y,more,bl',ch',rfl,h1,S',hK⟩;obtain⟨v2,aP,bl2,e,gx,S2,rfl,rfl,B1,Xj,rfl⟩:=c9 (n0:=0) h1 (by simp) S' hK;have hm:aP=[]:=by simpa using gx
 subst hm;exact⟨B1,e,Xj,S2⟩
def Sb:QG:=⟨213,0,λargs _ q=>match args with
 |[]=>some (True,.az [.agg (Rn (gb q).1),.int .i64 (gb q).2],q)
 |_=>none⟩
theorem Sc:Sb.Ok:=by
 intro args k q p v q' hv hm hp B hB bs ms w0 w S
 match args,hv,hm with
 |[a],hv,hm=>
  have ha:a=.raw (vq k):=by simpa[Sb]using hv
  subst ha;replace hm:some (True,V.az [.agg (Rn (gb q).1),.int .i64 (gb q).2],q)=some (p,v,q'):=hm;simp only[Option.some.injEq,Prod.mk.injEq]at hm;obtain⟨rfl,rfl,rfl⟩:=hm;exact(aeh hB S).mono (by rintro y w1 ⟨rfl,h⟩;exact⟨B,rfl,hB,S.quiet h⟩)
 |_::_::_,_,hm=>cases hm
def Se:QG:=⟨216,0,λargs most q=>match args with
 |[.agg al]=>(match Yc al with|some a=>some (most<=3/\(∀e∈q,e.source=a.source\/¬e.aV=a.aV),.int .i64 (Sd.Q.push most q a).2,(Sd.Q.push most q a).1)|none=>none)
 |_=>none⟩
theorem Sf:Se.Ok:=by
 intro args k q p v q' hv hm hp B hB bs ms w0 w S
 match args,hv,hm with
 |a::l,hv,hm=>
  have ha:a=.raw (vq k):=by simpa[Se]using hv
  subst ha;replace hm:(match(generalizing:=false) l with
   |[.agg al]=>(match Yc al with|some a=>some (k.most<=3/\(∀e∈q,e.source=a.source\/¬e.aV=a.aV),V.int .i64 (Sd.Q.push k.most q a).2,(Sd.Q.push k.most q a).1)|none=>none)
   |_=>none)=some (p,v,q'):=hm
  split at hm
  ·split at hm
   ·rename_i a ha;obtain rfl:=Yd ha;simp only[Option.some.injEq,Prod.mk.injEq]at hm;obtain⟨rfl,rfl,rfl⟩:=hm;exact aeg a hB hp.1 hp.2 S
   ·cases hm
  ·cases hm
theorem Ho (t:Sd.Tok) (q:List Sd.Ask):Sd.bg t q=if(gb q).2≠0 then(t,(gb q).2,q)else if(t.bz (gb q).1.source).2≠0 then(t,(t.bz (gb q).1.source).2,q)else((t.bz (gb q).1.source).1,0,Sd.Q.drop q (gb q).1.source):=by
 cases q with
 |nil=>rfl
 |cons a q=>rfl
def LA:List (dI QH):=qhE JV::qhE Sb::qL QH QV
theorem abC:ai prog (λ_=>none) LA:=ai.cons (BC Ed) (ai.cons (BC Sc) (f_ (uq _)))
def one (g:QH) (q:List Sd.Ask) (X:List QH->Prop):Prop:=∀B (h:QS g.k.bq g.k.most q B),X [⟨g.k,q,B,h⟩]
def nz (t:Sd.Tok) (n:Int):V:=.az [.agg (cI t),.int .i64 n]
theorem Sg (g:QH) (t:Sd.Tok) (K:VK QH):cJ (dR prog (λ_=>none) LA) 60 180 [.agg (cI t),.raw (vq g.k)] [] [g] (cP 0 K)=
 ((vq g.k=vq g.k/\True)/\one g g.q λc=>cond ((gb g.q).2!=0) (K (nz t (gb g.q).2) [] c) (dy t.epoch/\cond ((t.bz (gb g.q).1.source).2!=0) (K (nz t (t.bz (gb g.q).1.source).2) [] c)
   ((vq g.k=vq g.k/\True)/\one g (Sd.Q.drop g.q (gb g.q).1.source) λc=>K (nz (t.bz (gb g.q).1.source).1 0) [] c))):=by kernel_rfl
def BD:QG:=⟨180,1,λargs _ q=>match args with
 |[.agg tl]=>(match kK tl with|some t=>some (dy t.epoch,nz (Sd.bg t q).1 (Sd.bg t q).2.1,(Sd.bg t q).2.2)|none=>none)
 |_=>none⟩
theorem Nt:BD.Ok:=by
 intro args k q p v q' hv hm hp B hB bs ms w0 w S
 match args,hv,hm with
 |a::b::l,hv,hm=>
  have ha:b=.raw (vq k):=by simpa[BD]using hv
  subst ha;replace hm:(match(generalizing:=false) a::l with
   |[.agg tl]=>(match kK tl with|some t=>some (dy t.epoch,nz (Sd.bg t q).1 (Sd.bg t q).2.1,(Sd.bg t q).2.2)|none=>none)
   |_=>none)=some (p,v,q'):=hm
  split at hm
  ·rename_i tl heq;obtain⟨rfl,rfl⟩:=List.cons.inj heq;split at hm
   ·rename_i t ht;obtain rfl:=fh ht;simp only[Option.some.injEq,Prod.mk.injEq]at hm;obtain⟨rfl,rfl,rfl⟩:=hm;refine Sa abC 60 hB ?_ rfl S;rw[show cJ (dR prog (λ_=>none) LA) 60 BD.f=cJ (dR prog (λ_=>none) LA) 60 180 from rfl,Sg ⟨k,q,B,hB⟩,Ho];refine⟨⟨rfl,trivial⟩,λB h=>aU (λh1=>?_) (λh1=>⟨hp,aU (λh2=>?_) λh2=>⟨⟨rfl,trivial⟩,λB h=>?_⟩⟩)⟩
    ·rw[if_pos (by simpa using h1)];exact⟨rfl,rfl,B,h,rfl⟩
    ·rw[if_neg (by simpa using h1),if_pos (by simpa using h2)];exact⟨rfl,rfl,B,h,rfl⟩
    ·rw[if_neg (by simpa using h1),if_neg (by simpa using h2)];exact⟨rfl,rfl,B,h,rfl⟩
   ·cases hm
  ·cases hm
def LB:List (dI QH):=qhE BD::qhE Se::LA
theorem aiy:ai prog (λ_=>none) LB:=ai.cons (BC Nt) (ai.cons (BC Sf) abC)
def vcB (f:FuncId) (args:List V) (g:QH) (K:VK QH):Prop:=cJ (dR prog (λ_=>none) LB) 60 f args [] [g] (cP 0 K)
theorem BE {f:Nat} {args:List V} {v:V} {k:LK} {q q':List Sd.Ask} {B:List av} (hB:QS k.bq k.most q B) (h:vcB f args ⟨k,q,B,hB⟩ λx b c=>x=v/\b=[]/\∃B h,c=[⟨k,q',B,h⟩]) (hv:fK 0 v=true)
 {bs:List av} {ms:List Nat} {w0 w:World} (S:St ms w0 (B++bs) w):aj prog f (ao [] args).toArray w λy w1=>∃B',y=den [] v/\QS k.bq k.most q' B'/\St ms w0 (B'++bs) w1:=Sa aiy 60 hB h hv S
theorem aey (g:QH) (t:Sd.Tok) (f:Int) (K:VK QH):vcB 127 [.agg (cI t),.raw (vq g.k),.int .i64 f] g K=
 cond (f !=t.holder) (K (nz t 20) [] [g]) (cond (decide (t.epoch>=65535)) (K (nz t 24) [] [g]) ((vq g.k=vq g.k/\dy t.epoch)/\one g (Sd.bg t g.q).2.2 λc=>K (nz (Sd.bg t g.q).1 (Sd.bg t g.q).2.1) [] c)):=by kernel_rfl
theorem alV {k:LK} {q:List Sd.Ask} {B:List av} (hB:QS k.bq k.most q B) {t:Sd.Tok} (he:dy t.epoch) (f:Int) {bs:List av} {ms:List Nat} {w0 w:World} (S:St ms w0 (B++bs) w):
 aj prog 127 (ao [] [.agg (cI t),.raw (vq k),.int .i64 f]).toArray w λy w1=>∃B',y=den [] (nz (Sd.an t q f).1 (Sd.an t q f).2.1)/\QS k.bq k.most (Sd.an t q f).2.2 B'/\St ms w0 (B'++bs) w1:=by
 refine BE hB ?_ rfl S;rw[aey ⟨k,q,B,hB⟩];unfold Sd.an;refine aU (λh=>?_) (λh=>aU (λh2=>?_) λh2=>⟨⟨rfl,he⟩,λB h3=>?_⟩)
 ·rw[if_pos (by simpa using h)];exact⟨rfl,rfl,B,hB,rfl⟩
 ·rw[if_neg (by simpa using h),if_pos (by simpa using h2)];exact⟨rfl,rfl,B,hB,rfl⟩
 ·rw[if_neg (by simpa using h),if_neg (by simpa using h2)];exact⟨rfl,rfl,B,h3,rfl⟩
def loT (g:QH) (t:Sd.Tok) (la:Sd.Timer) (K:VK QH):Prop:=
 let t1:Sd.Tok:={t with la:=la.step}
 (dy la.n/\dy la.most)/\True/\cond (!la.step.due) (K (nz t1 0) [] [g]) (cond (decide (t.epoch>=65535)) (dy t.epoch/\K (nz t1.dO 6) [] [g]) ((vq g.k=vq g.k/\dy t.epoch)/\one g (Sd.bg t1 g.q).2.2 λc=>
  cond ((Sd.bg t1 g.q).2.1!=0) (dy t.epoch/\K (nz (t1.bz 4).1 5) [] c) (K (nz (Sd.bg t1 g.q).1 5) [] c)))
theorem aez (g:QH) (p:Sd.Pol) (ka:Nat->Option Addr) (kn kc:Nat->Nat) (t:Sd.Tok) (th:Bool) (K:VK QH):vcB 141 [.agg [.j8 p ka kn kc],.agg (cI t),.raw (vq g.k),.bool th] g K=
 cond (t.holder==4) (K (nz {t with la:=.zero} 0) [] [g]) (cond th (K (nz {t with la:=.zero} 0) [] [g]) (cond (t.la.most==0) (dy (p.i 43)/\loT g t (.start (p.i 43)) K) (loT g t t.la K))):=by kernel_rfl
def Sh (t:Sd.Tok) (a n:Int):V:=.az [.agg (cI t),.int .i64 a,.int .i64 n]
def akG (g:QH) (t:Sd.Tok) (f:Int) (K:VK QH):Prop:=dy t.epoch/\cond ((t.bz f).2!=0) (K (Sh t 0 (t.bz f).2) [] [g]) ((vq g.k=vq g.k/\True)/\one g (Sd.Q.drop g.q f) λc=>K (Sh (t.bz f).1 3 0) [] c)
def akP (g:QH) (p:Sd.Pol) (t:Sd.Tok) (f:Int) (K:VK QH):Prop:=
 let a:Sd.Ask:=⟨f,Sd.placeOf p f,.start (p.i 45)⟩
 True/\dy (p.i 45)/\(vq g.k=vq g.k/\g.k.most<=3/\∀e∈g.q,e.source=f\/¬e.aV=Sd.placeOf p f)/\one g (Sd.Q.push g.k.most g.q a).1 λc=>K (Sh t 0 (Sd.Q.push g.k.most g.q a).2) [] c
theorem aiz (g:QH) (p:Sd.Pol) (ka:Nat->Option Addr) (kn kc:Nat->Nat) (t:Sd.Tok) (f:Int) (nw:Bool) (K:VK QH):vcB 197 [.agg [.j8 p ka kn kc],.agg (cI t),.raw (vq g.k),.int .i64 f,.bool nw] g K=
 cond t.bad (K (Sh t 0 29) [] [g]) (cond (f==t.holder) (K (Sh t 0 25) [] [g]) (cond (decide (t.epoch>=65535)) (K (Sh t 0 24) [] [g]) (cond (t.holder==4) (akG g t f K)
  (cond nw (True/\cond (Sd.cu p f t.holder) (akG g t f K) (cond nw (K (Sh t 0 26) [] [g]) (akP g p t f K))) (cond nw (K (Sh t 0 26) [] [g]) (akP g p t f K)))))):=by kernel_rfl
def loB (t:Sd.Tok) (la:Sd.Timer) (q:List Sd.Ask):Sd.Tok×Int×List Sd.Ask:=
 let t1:Sd.Tok:={t with la:=la.step}
 if la.step.due=false then(t1,0,q)else if 65535<=t.epoch then(t1.dO,6,q)else if(Sd.bg t1 q).2.1≠0 then((t1.bz 4).1,5,(Sd.bg t1 q).2.2)else((Sd.bg t1 q).1,5,(Sd.bg t1 q).2.2)
theorem Si {k:LK} {q:List Sd.Ask} {B:List av} (hB:QS k.bq k.most q B) {t:Sd.Tok} (he:dy t.epoch) {la:Sd.Timer} (O7:dy la.n/\dy la.most):
 loT ⟨k,q,B,hB⟩ t la λx b c=>x=nz (loB t la q).1 (loB t la q).2.1/\b=[]/\∃B h,c=[⟨k,(loB t la q).2.2,B,h⟩]:=by
 unfold loT loB;refine⟨O7,trivial,aU (λh=>?_) (λh=>aU (λh2=>⟨he,?_⟩) λh2=>⟨⟨rfl,he⟩,λB1 h1=>aU (λh3=>⟨he,?_⟩) λh3=>?_⟩)⟩
 ·rw[if_pos (by simpa using h)];exact⟨rfl,rfl,B,hB,rfl⟩
 ·rw[if_neg (by simpa using h),if_pos (by simpa using h2)];exact⟨rfl,rfl,B,hB,rfl⟩
 ·rw[if_neg (by simpa using h),if_neg (by simpa using h2),if_pos (by simpa using h3)];exact⟨rfl,rfl,B1,h1,rfl⟩
 ·rw[if_neg (by simpa using h),if_neg (by simpa using h2),if_neg (by simpa using h3)];exact⟨rfl,rfl,B1,h1,rfl⟩
theorem alW {k:LK} {q:List Sd.Ask} {B:List av} (hB:QS k.bq k.most q B) (p:Sd.Pol) (ka:Nat->Option Addr) (kn kc:Nat->Nat) {t:Sd.Tok} (th:Bool) (he:dy t.epoch) (O7:dy t.la.n/\dy t.la.most) (hp:1<=p.i 43/\p.i 43<=1000) {bs:List av} {ms:List Nat} {w0 w:World} (S:St ms w0 (B++bs) w):
 aj prog 141 (ao [] [.agg [.j8 p ka kn kc],.agg (cI t),.raw (vq k),.bool th]).toArray w λy w1=>∃B',y=den [] (nz (Sd.bM p t q th).1 (Sd.bM p t q th).2.1)/\QS k.bq k.most (Sd.bM p t q th).2.2 B'/\St ms w0 (B'++bs) w1:=by
 refine BE hB ?_ rfl S;rw[aez ⟨k,q,B,hB⟩];have e:Sd.bM p t q th=if t.holder=4\/th=true then({t with la:=.zero},0,q)else loB t (if t.la.most=0 then .start (p.i 43)else t.la) q:=rfl
 rw[e];refine aU (λh=>?_) (λh=>aU (λh2=>?_) λh2=>?_)
 ·rw[if_pos (.inl (by simpa using h))];exact⟨rfl,rfl,B,hB,rfl⟩
 ·rw[if_pos (.inr h2)];exact⟨rfl,rfl,B,hB,rfl⟩
 ·rw[if_neg (by simp at h;simp[h,h2])];refine aU (λh3=>⟨by unfold dy;omega,?_⟩) (λh3=>?_)
  ·rw[if_pos (by simpa using h3)];refine Si hB he ?_;rw[nq,if_neg (by omega)];exact⟨⟨by show(-9223372036854775808:Int)<=0;omega,by show(0:Int)<=9223372036854775807;omega⟩,by unfold dy;show _<=p.i 43/\p.i 43<=_;omega⟩
  ·rw[if_neg (by simpa using h3)];exact Si hB he O7
theorem Sj {k:LK} {q:List Sd.Ask} {B:List av} (hB:QS k.bq k.most q B) {t:Sd.Tok} (he:dy t.epoch) {f:Int} {R:Sd.Tok×Int×Int×List Sd.Ask} (e:R=if(t.bz f).2≠0 then(t,0,(t.bz f).2,q)else((t.bz f).1,3,0,Sd.Q.drop q f)):
 akG ⟨k,q,B,hB⟩ t f λx b c=>x=Sh R.1 R.2.1 R.2.2.1/\b=[]/\∃B h,c=[⟨k,R.2.2.2,B,h⟩]:=by
 unfold akG;subst e;refine⟨he,aU (λh=>?_) (λh=>⟨⟨rfl,trivial⟩,λB1 h1=>?_⟩)⟩
 ·rw[if_pos (by simpa using h)];exact⟨rfl,rfl,B,hB,rfl⟩
 ·rw[if_neg (by simpa using h)];exact⟨rfl,rfl,B1,h1,rfl⟩
theorem alX {k:LK} {q:List Sd.Ask} {B:List av} (hB:QS k.bq k.most q B) (p:Sd.Pol) (ka:Nat->Option Addr) (kn kc:Nat->Nat) {t:Sd.Tok} (f:Int) (nw:Bool) (he:dy t.epoch) (hm:k.most<=3) (hr:∀e∈q,e.source=f\/¬e.aV=Sd.placeOf p f) (hp:1<=p.i 45/\p.i 45<=1000) {bs:List av} {ms:List Nat} {w0 w:World} (S:St ms w0 (B++bs) w):
 aj prog 197 (ao [] [.agg [.j8 p ka kn kc],.agg (cI t),.raw (vq k),.int .i64 f,.bool nw]).toArray w λy w1=>∃B',y=den [] (Sh (Sd.cv p t k.most q f nw).1 (Sd.cv p t k.most q f nw).2.1 (Sd.cv p t k.most q f nw).2.2.1)/\QS k.bq k.most (Sd.cv p t k.most q f nw).2.2.2 B'/\St ms w0 (B'++bs) w1:=by
 refine BE hB ?_ rfl S;rw[aiz ⟨k,q,B,hB⟩];have hP:∀R:Sd.Tok×Int×Int×List Sd.Ask,R=(t,0,(Sd.Q.push k.most q ⟨f,Sd.aV p f,.start p.ask⟩).2,(Sd.Q.push k.most q ⟨f,Sd.aV p f,.start p.ask⟩).1)->akP ⟨k,q,B,hB⟩ p t f λx b c=>x=Sh R.1 R.2.1 R.2.2.1/\b=[]/\∃B h,c=[⟨k,R.2.2.2,B,h⟩]:=by
  rintro R rfl;exact⟨trivial,by unfold dy;omega,⟨rfl,hm,hr⟩,λB1 h1=>⟨rfl,rfl,B1,h1,rfl⟩⟩
 unfold Sd.cv;refine aU (λh=>?_) (λh=>?_)
 ·rw[if_pos h];exact⟨rfl,rfl,B,hB,rfl⟩
 rw[if_neg (by simp[h])];refine aU (λh=>?_) (λh=>?_)
 ·rw[if_pos (by simpa using h)];exact⟨rfl,rfl,B,hB,rfl⟩
 rw[if_neg (by simpa using h)];refine aU (λh=>?_) (λh=>?_)
 ·rw[if_pos (by simpa using h)];exact⟨rfl,rfl,B,hB,rfl⟩
 rw[if_neg (by simpa using h)];refine aU (λh=>?_) (λh4=>aU (λh5=>⟨trivial,aU (λh6=>?_) λh6=>aU (λh7=>?_) λh7=>?_⟩) λh5=>aU (λh7=>?_) λh7=>?_)
 ·rw[if_pos (.inl (by simpa using h))];exact Sj hB he rfl
 ·rw[if_pos (.inr ⟨h5,h6⟩)];exact Sj hB he rfl
 ·rw[if_neg (by simp at h4;simp[h4,h6]),if_pos h7];exact⟨rfl,rfl,B,hB,rfl⟩
 ·rw[h5]at h7;cases h7
 ·rw[h5]at h7;cases h7
 ·rw[if_neg (by simp at h4;simp[h4,h5]),if_neg (by simp[h5])];exact hP _ rfl
variable{fr:Sd.Reply->Nat×Sd.Byt}
def aeA:QG:=⟨127,1,λargs _ q=>match args with
 |[.agg tl,.int .i64 f]=>(match kK tl with|some t=>some (dy t.epoch,.az [.agg (cI (Sd.an t q f).1),.int .i64 (Sd.an t q f).2.1],(Sd.an t q f).2.2)|none=>none)
 |_=>none⟩
theorem YD:aeA.Ok:=by
 intro args k q p v q' hv hm hp B hB bs ms w0 w S
 match args,hv,hm with
 |a::b::l,hv,hm=>
  have ha:b=.raw (vq k):=by simpa[aeA]using hv
  subst ha;replace hm:(match(generalizing:=false) a::l with
   |[.agg tl,.int .i64 f]=>(match kK tl with|some t=>some (dy t.epoch,V.az [.agg (cI (Sd.an t q f).1),.int .i64 (Sd.an t q f).2.1],(Sd.an t q f).2.2)|none=>none)
   |_=>none)=some (p,v,q'):=hm
  split at hm
  ·rename_i tl f heq;obtain⟨rfl,rfl⟩:=List.cons.inj heq;split at hm
   ·rename_i t ht;obtain rfl:=fh ht;simp only[Option.some.injEq,Prod.mk.injEq]at hm;obtain⟨rfl,rfl,rfl⟩:=hm;exact alV hB hp f S
   ·cases hm
  ·cases hm
def aeB:QG:=⟨197,2,λargs most q=>match args with
 |[.agg [.j8 p ka kn kc],.agg tl,.int .i64 f,.bool nw]=>(match kK tl with|some t=>some (dy t.epoch/\most<=3/\(∀e∈q,e.source=f\/¬e.aV=Sd.placeOf p f)/\(1<=p.i 45/\p.i 45<=1000),.az [.agg (cI (Sd.cv p t most q f nw).1),.int .i64 (Sd.cv p t most q f nw).2.1,.int .i64 (Sd.cv p t most q f nw).2.2.1],(Sd.cv p t most q f nw).2.2.2)|none=>none)
 |_=>none⟩
theorem YE:aeB.Ok:=by
 intro args k q p v q' hv hm hp B hB bs ms w0 w S
 match args,hv,hm with
 |a::b::c::l,hv,hm=>
  have ha:c=.raw (vq k):=by simpa[aeB]using hv
  subst ha;replace hm:(match(generalizing:=false) a::b::l with
   |[.agg [.j8 p ka kn kc],.agg tl,.int .i64 f,.bool nw]=>(match kK tl with|some t=>some (dy t.epoch/\k.most<=3/\(∀e∈q,e.source=f\/¬e.aV=Sd.placeOf p f)/\(1<=p.i 45/\p.i 45<=1000),V.az [.agg (cI (Sd.cv p t k.most q f nw).1),.int .i64 (Sd.cv p t k.most q f nw).2.1,.int .i64 (Sd.cv p t k.most q f nw).2.2.1],(Sd.cv p t k.most q f nw).2.2.2)|none=>none)
   |_=>none)=some (p,v,q'):=hm
  split at hm
  ·rename_i p' ka kn kc tl f nw heq;obtain⟨rfl,h2⟩:=List.cons.inj heq;obtain⟨rfl,rfl⟩:=List.cons.inj h2;split at hm
   ·rename_i t ht;obtain rfl:=fh ht;simp only[Option.some.injEq,Prod.mk.injEq]at hm;obtain⟨rfl,rfl,rfl⟩:=hm;exact alX hB p' ka kn kc f nw hp.1 hp.2.1 hp.2.2.1 hp.2.2.2 S
   ·cases hm
  ·cases hm
def bH (s:Sd.Scene) (q:List Sd.Ask):Sd.Scene:={s with c:={s.c with q:=q}}
def L4 (fr:Sd.Reply->Nat×Sd.Byt) (C:Sd.Crypt):List (dI (Gh fr)):=⟨91,false,pP (jY C)⟩::⟨127,false,Ke aeA⟩::⟨197,false,Ke aeB⟩::L3 fr C
theorem xb (tk:Nat->Sd.Byt->Option Sd.bW) (ht:Body (fr:=fr) 147 bV):ai prog gS (L4 fr (ah tk)):=
 ai.cons (c_ (Hn tk ht)) (ai.cons (Bz YD) (ai.cons (Bz YE) (abB tk ht)))
section
variable(C:Sd.Crypt) (k:LK) (s:Sd.Scene) (F:bN fr (bA k s)) (Kb:SK fr k)
theorem YF (l:Int) (m:Sd.bW):cJ (dR prog gS (L4 fr C)) 60 152 [.ptr 2 0,.int .i64 l,.agg (cw m)] (cS k s F) [cB k s F] (aO k s Kb)
 =(ez k s F/\jq [.int .i64 l,.int .i64 m.seq] k (dv s) F λv s' F'=>aO k s Kb (.az []) (cS k s' F'++[⟨true,⟨66,(0,0)⟩,cw m⟩]) [cB k s' F']):=by kernel_rfl
theorem Nu (l:Int) (m:Sd.bW):cJ (dR prog gS (L4 fr C)) 60 156 [.ptr 2 0,.int .i64 l,.agg (cw m)] (cS k s F) [cB k s F] (aO k s Kb)
 =(dy s.c.t.epoch/\cond ((s.c.t.accept l m.epoch).2!=0) (ez k s F/\ef C [.int .i64 l,.int .i64 m.seq,.int .i64 (s.c.t.accept l m.epoch).2] k (dv s) F λv s' F'=>aO k s Kb (.az []) (cS k s' F'++[⟨true,⟨66,(0,0)⟩,cw m⟩,⟨true,⟨95,(0,0)⟩,cI (s.c.t.accept l m.epoch).1⟩]) [cB k s' F'])
  (ez k s F/\lg C [.agg (cI (s.c.t.accept l m.epoch).1),.int .i64 1,.int .i64 m.seq] k (dv s) F λv s2 F2=>ez k s2 F2/\jq [.int .i64 l,.int .i64 m.seq] k (dv s2) F2 λv s' F'=>aO k s Kb (.az []) (cS k s' F'++[⟨true,⟨66,(0,0)⟩,cw m⟩,⟨true,⟨95,(0,0)⟩,cI (s.c.t.accept l m.epoch).1⟩]) [cB k s' F'])):=by kernel_rfl
theorem YG (l:Int) (m:Sd.bW):cJ (dR prog gS (L4 fr C)) 60 157 [.ptr 2 0,.int .i64 l,.agg (cw m)] (cS k s F) [cB k s F] (aO k s Kb)
 =(True/\cond ((s.c.t.fJ l).2!=0) (ez k s F/\ef C [.int .i64 l,.int .i64 m.seq,.int .i64 (s.c.t.fJ l).2] k (dv s) F λv s' F'=>aO k s Kb (.az []) (cS k s' F'++[⟨true,⟨66,(0,0)⟩,cw m⟩,⟨true,⟨95,(0,0)⟩,cI (s.c.t.fJ l).1⟩]) [cB k s' F'])
  (ez k (fQ s (s.c.t.fJ l).1) F/\ny [.int .i64 (s.c.t.fJ l).1.holder,.int .i64 l,.int .i64 0] k (dv (fQ s (s.c.t.fJ l).1)) F λv s2 F2=>ez k s2 F2/\hU C [.int .i64 11,.int .i64 l,.int .i64 m.seq,.int .i64 0,.int .i64 0] k (dv s2) F2 λv s3 F3=>
   ez k s3 F3/\jq [.int .i64 l,.int .i64 m.seq] k (dv s3) F3 λv s' F'=>aO k s Kb (.az []) (cS k s' F'++[⟨true,⟨66,(0,0)⟩,cw m⟩,⟨true,⟨95,(0,0)⟩,cI (s.c.t.fJ l).1⟩]) [cB k s' F'])):=by kernel_rfl
theorem Sk (l:Int) (m:Sd.bW):cJ (dR prog gS (L4 fr C)) 60 155 [.ptr 2 0,.int .i64 l,.agg (cw m)] (cS k s F) [cB k s F] (aO k s Kb)
 =(True/\Sd.cK s.c.p/\cond ((Sd.Tok.make s.c.p s.c.t l m.bx ((dw s.c.tab).on m.bx)).2!=0) (ez k s F/\ef C [.int .i64 l,.int .i64 m.seq,.int .i64 (Sd.Tok.make s.c.p s.c.t l m.bx ((dw s.c.tab).on m.bx)).2] k (dv s) F λv s' F'=>aO k s Kb (.az []) (cS k s' F'++[⟨true,⟨66,(0,0)⟩,cw m⟩,⟨true,⟨95,(0,0)⟩,cI (Sd.Tok.make s.c.p s.c.t l m.bx ((dw s.c.tab).on m.bx)).1⟩]) [cB k s' F'])
  (ez k (fQ s (Sd.Tok.make s.c.p s.c.t l m.bx ((dw s.c.tab).on m.bx)).1) F/\oU [.int .i64 m.bx,.agg (il 135 0 0 l (Sd.Tok.make s.c.p s.c.t l m.bx ((dw s.c.tab).on m.bx)).1.epoch 0)] k (dv (fQ s (Sd.Tok.make s.c.p s.c.t l m.bx ((dw s.c.tab).on m.bx)).1)) F λv s2 F2=>
   ez k s2 F2/\hU C [.int .i64 9,.int .i64 l,.int .i64 m.seq,.int .i64 0,.int .i64 m.bx] k (dv s2) F2 λv s3 F3=>
   ez k s3 F3/\jq [.int .i64 l,.int .i64 m.seq] k (dv s3) F3 λv s' F'=>aO k s Kb (.az []) (cS k s' F'++[⟨true,⟨66,(0,0)⟩,cw m⟩,⟨true,⟨95,(0,0)⟩,cI (Sd.Tok.make s.c.p s.c.t l m.bx ((dw s.c.tab).on m.bx)).1⟩]) [cB k s' F'])):=by kernel_rfl
theorem Hp (l:Int) (m:Sd.bW):cJ (dR prog gS (L4 fr C)) 60 158 [.ptr 2 0,.int .i64 l,.agg (cw m)] (cS k s F) [cB k s F] (aO k s Kb)
 =((vq k=vq k/\dy s.c.t.epoch)/\∀B (hB:QS k.bq k.most (Sd.an s.c.t s.c.q l).2.2 B),
  cond ((Sd.an s.c.t s.c.q l).2.1!=0) (ez k (bH s (Sd.an s.c.t s.c.q l).2.2) (F.bH (Sd.an s.c.t s.c.q l).2.2 B hB)/\ef C [.int .i64 l,.int .i64 m.seq,.int .i64 (Sd.an s.c.t s.c.q l).2.1] k (dv (bH s (Sd.an s.c.t s.c.q l).2.2)) (F.bH (Sd.an s.c.t s.c.q l).2.2 B hB) λv s' F'=>aO k s Kb (.az []) (cS k s' F'++[⟨true,⟨66,(0,0)⟩,cw m⟩,⟨true,⟨95,(0,0)⟩,cI (Sd.an s.c.t s.c.q l).1⟩]) [cB k s' F'])
  (ez k (bH s (Sd.an s.c.t s.c.q l).2.2) (F.bH (Sd.an s.c.t s.c.q l).2.2 B hB)/\lg C [.agg (cI (Sd.an s.c.t s.c.q l).1),.int .i64 2,.int .i64 m.seq] k (dv (bH s (Sd.an s.c.t s.c.q l).2.2)) (F.bH (Sd.an s.c.t s.c.q l).2.2 B hB) λv s2 F2=>ez k s2 F2/\jq [.int .i64 l,.int .i64 m.seq] k (dv s2) F2 λv s' F'=>aO k s Kb (.az []) (cS k s' F'++[⟨true,⟨66,(0,0)⟩,cw m⟩,⟨true,⟨95,(0,0)⟩,cI (Sd.an s.c.t s.c.q l).1⟩]) [cB k s' F'])):=by kernel_rfl
abbrev gQ (s:Sd.Scene) (k:LK) (l:Int) (m:Sd.bW):Sd.Tok×Int×Int×List Sd.Ask:=Sd.cv s.c.p s.c.t k.most s.c.q l m.now
theorem aeC (l:Int) (m:Sd.bW):cJ (dR prog gS (L4 fr C)) 60 154 [.ptr 2 0,.int .i64 l,.agg (cw m)] (cS k s F) [cB k s F] (aO k s Kb)
 =((vq k=vq k/\(dy s.c.t.epoch/\k.most<=3/\(∀e∈s.c.q,e.source=l\/¬e.aV=Sd.placeOf s.c.p l)/\(1<=s.c.p.i 45/\s.c.p.i 45<=1000)))/\∀B (hB:QS k.bq k.most (gQ s k l m).2.2.2 B),
  cond ((gQ s k l m).2.2.1!=0) (ez k (bH s (gQ s k l m).2.2.2) (F.bH (gQ s k l m).2.2.2 B hB)/\ef C [.int .i64 l,.int .i64 m.seq,.int .i64 (gQ s k l m).2.2.1] k (dv (bH s (gQ s k l m).2.2.2)) (F.bH (gQ s k l m).2.2.2 B hB) λv s' F'=>aO k s Kb (.az []) (cS k s' F'++[⟨true,⟨66,(0,0)⟩,cw m⟩,⟨true,⟨95,(0,0)⟩,cI (gQ s k l m).1⟩]) [cB k s' F'])
  (cond (decide ((gQ s k l m).2.1>0)) (ez k (bH s (gQ s k l m).2.2.2) (F.bH (gQ s k l m).2.2.2 B hB)/\lg C [.agg (cI (gQ s k l m).1),.int .i64 (gQ s k l m).2.1,.int .i64 m.seq] k (dv (bH s (gQ s k l m).2.2.2)) (F.bH (gQ s k l m).2.2.2 B hB) λv s2 F2=>ez k s2 F2/\jq [.int .i64 l,.int .i64 m.seq] k (dv s2) F2 λv s' F'=>aO k s Kb (.az []) (cS k s' F'++[⟨true,⟨66,(0,0)⟩,cw m⟩,⟨true,⟨95,(0,0)⟩,cI (gQ s k l m).1⟩]) [cB k s' F'])
  (ez k (fQ (bH s (gQ s k l m).2.2.2) (gQ s k l m).1) (F.bH (gQ s k l m).2.2.2 B hB)/\hU C [.int .i64 10,.int .i64 l,.int .i64 m.seq,.int .i64 0,.int .i64 0] k (dv (fQ (bH s (gQ s k l m).2.2.2) (gQ s k l m).1)) (F.bH (gQ s k l m).2.2.2 B hB) λv s2 F2=>ez k s2 F2/\jq [.int .i64 l,.int .i64 m.seq] k (dv s2) F2 λv s' F'=>aO k s Kb (.az []) (cS k s' F'++[⟨true,⟨66,(0,0)⟩,cw m⟩,⟨true,⟨95,(0,0)⟩,cI (gQ s k l m).1⟩]) [cB k s' F']))):=by kernel_rfl
end
structure TB (t:Sd.Tok):Prop where
 h:N4 t.holder
 e:VZ t.epoch
theorem l_ {t:Sd.Tok} (h:TB t) (o:Int):TB (t.bz o).1/\N8 (t.bz o).2:=by
 obtain⟨⟨h1,h2⟩,h3,h4⟩:=h;unfold Sd.Tok.bz;split
 ·exact⟨⟨⟨h1,h2⟩,h3,h4⟩,by simp[N8]⟩
 ·split
  ·exact⟨⟨⟨h1,h2⟩,h3,h4⟩,by simp[N8]⟩
  ·split
   ·exact⟨⟨⟨h1,h2⟩,h3,h4⟩,by simp[N8]⟩
   ·exact⟨⟨⟨by simp only[Sd.Tok.pass];omega,by simp only[Sd.Tok.pass];omega⟩,by simp only[Sd.Tok.pass];omega,by simp only[Sd.Tok.pass];omega⟩,by simp[N8]⟩
theorem Sl {t:Sd.Tok} (h:TB t) (l e:Int):TB (t.accept l e).1/\N8 (t.accept l e).2:=by
 unfold Sd.Tok.accept;split
 ·exact⟨h,by simp[N8]⟩
 ·split
  ·exact⟨h,by simp[N8]⟩
  ·exact l_ h l
theorem aeD {t:Sd.Tok} (h:TB t) (l:Int):TB (t.fJ l).1/\N8 (t.fJ l).2:=by
 unfold Sd.Tok.fJ;split
 ·exact⟨h,by simp[N8]⟩
 ·exact⟨⟨h.h,h.e⟩,by simp[N8]⟩
theorem aeE {t:Sd.Tok} (h:TB t) (p:Sd.Pol) (l o:Int) (b:Bool):TB (Sd.Tok.make p t l o b).1/\N8 (Sd.Tok.make p t l o b).2:=by
 unfold Sd.Tok.make
 repeat' split
 all_goals first|exact⟨h,by simp[N8]⟩|exact⟨⟨h.h,h.e⟩,by simp[N8]⟩
theorem JZ {t:Sd.Tok} (h:TB t) (q:List Sd.Ask):TB (Sd.bg t q).1/\N8 (Sd.bg t q).2.1:=by
 unfold Sd.bg;split
 ·exact⟨h,by simp[N8]⟩
 ·split
  ·exact⟨h,(l_ h _).2⟩
  ·exact⟨(l_ h _).1,by simp[N8]⟩
theorem abD {t:Sd.Tok} (h:TB t) (q:List Sd.Ask) (l:Int):TB (Sd.an t q l).1/\N8 (Sd.an t q l).2.1:=by
 unfold Sd.an;split
 ·exact⟨h,by simp[N8]⟩
 ·split
  ·exact⟨h,by simp[N8]⟩
  ·exact JZ h q
theorem abE {t:Sd.Tok} {q:List Sd.Ask} {l:Int} (h:(Sd.an t q l).2.1≠0):(Sd.an t q l).2.2=q:=by
 unfold Sd.an at h⊢;split
 ·rfl
 ·split
  ·rfl
  ·rename_i h1 h2;rw[if_neg h1,if_neg h2]at h;unfold Sd.bg at h⊢;split
   ·rfl
   ·split
    ·rfl
    ·rename_i a q' h3;simp only[if_neg h3,ne_eq,not_true_eq_false]at h
theorem aeF (most:Int) (q:List Sd.Ask) (a:Sd.Ask):N8 (Sd.Q.push most q a).2:=by
 unfold Sd.Q.push
 repeat' split
 all_goals simp[N8]
theorem aeG {most:Int} {q:List Sd.Ask} {a:Sd.Ask} (h:(Sd.Q.push most q a).2≠0):(Sd.Q.push most q a).1=q:=by
 unfold Sd.Q.push at h⊢;split
 ·rfl
 ·split
  ·rfl
  ·rename_i h1 h2;simp[if_neg h1,if_neg h2]at h
theorem aiA {p:Sd.Pol} {t:Sd.Tok} (h:TB t) (most:Int) (q:List Sd.Ask) (f:Int) (nw:Bool):TB (Sd.cv p t most q f nw).1/\N8 (Sd.cv p t most q f nw).2.2.1:=by
 unfold Sd.cv
 repeat' split
 all_goals first|exact⟨h,(l_ h _).2⟩|exact⟨h,aeF _ _ _⟩|exact⟨(l_ h _).1,show N8 0 from z8⟩|exact⟨h,show 0<=_/\_<=255 by simp⟩
theorem aiB {p:Sd.Pol} {t:Sd.Tok} {most:Int} {q:List Sd.Ask} {f:Int} {nw:Bool} (h:(Sd.cv p t most q f nw).2.2.1≠0):(Sd.cv p t most q f nw).2.2.2=q:=by
 unfold Sd.cv at h⊢
 repeat' split
 all_goals first|rfl|skip
 ·rename_i h1 h2 h3 h4 h5;simp only[if_neg h1,if_neg h2,if_neg h3,if_pos h4,if_neg h5,ne_eq,not_true_eq_false]at h
 ·rename_i h1 h2 h3 h4 h5;simp only[if_neg h1,if_neg h2,if_neg h3,if_neg h4,if_neg h5]at h;exact aeG h
theorem tb {c:Sd.Core} (h:Sd.Inv c):TB c.t:=⟨⟨h.tok.holder.1,by have:=h.tok.holder.2;omega⟩,by have:=h.tok.epoch.1;have:=h.p.epoch.1;omega,h.tok.epoch.2⟩
theorem TB.b {t:Sd.Tok} (h:TB t):dy t.epoch:=⟨by have:=h.e.1;omega,by have:=h.e.2;omega⟩
theorem fj (C:Sd.Crypt) (s:Sd.Scene) (t:Sd.Tok) (h n:Int):(s.goes C t h n).c.p=s.c.p:=by
 show(Sd.Scene.hear _ _ _).c.p=_;rw[hear_c,hear_c]
theorem Rm.goes {C:Sd.Crypt} {s:Sd.Scene} {t:Sd.Tok} {h n:Int} {m:Nat} (hh:Rm s (m+3)):Rm (s.goes C t h n) m:=by
 have h1:Rm ({s with c:={s.c with t:=t,q:=Sd.Q.drop s.c.q t.holder}}:Sd.Scene) (m+3):=hh;exact(Rm.hear (Rm.hear h1)).rec
theorem lh {n:Int} (h:(n !=0)=true):n≠0:=by simpa using h
theorem nA {n:Int} (h:(n !=0)=false):¬n≠0:=by simpa using h
structure Sy (s:Sd.Scene) (l:Int) (m:Sd.bW):Prop where
 r:Rm s 8
 i:Sd.Inv s.c
 n:V0 m.seq
 l1:1<=l
 l3:l<=3
def jn (act:Sd.Scene->Int->Sd.bW->Sd.Scene):SM fr:=λar k s F K=>match ar with
 |[.int .i64 l,.agg ml]=>(match DU ml with
  |some m=>Sy s l m/\∀F',K (.az []) (act s l m) F'
  |none=>False)
 |_=>False
theorem jZ {tk:Nat->Sd.Byt->Option Sd.bW} {act:Sd.Scene->Int->Sd.bW->Sd.Scene} {f n:Nat} {L:List (dI (Gh fr))} (hL:ai prog gS L)
 (h:∀(l:Int) (m:Sd.bW) (k:LK) (s:Sd.Scene) (F:bN fr (bA k s)) (Kb:SK fr k),s.c.p.queue=k.most->Sy s l m->(∀F',Kb (.az []) (act s l m) F')->cJ (dR prog gS L) n f [.ptr 2 0,.int .i64 l,.agg (cw m)] (cS k s F) [cB k s F] (aO k s Kb)):Body f (jn (fr:=fr) act):=by
 refine dJ (n:=n) hL ?_;intro ar k s F Kb h0 hq hM;unfold jn at hM;split at hM
 ·rename_i l ml;split at hM
  ·rename_i m hm;obtain rfl:=n8 hm;exact h l m k s F Kb hq hM.1 hM.2
  ·exact hM.elim
 ·exact hM.elim
theorem n_ {s:Sd.Scene} {q:List Sd.Ask} (h:q=s.c.q):bH s q=s:=by subst h;rfl
theorem Hq (C:Sd.Crypt) (s:Sd.Scene) (l:Int) (m:Sd.bW) (R:Sd.Tok×Int×Int×List Sd.Ask) (h:R=Sd.cv s.c.p s.c.t s.c.p.queue s.c.q l m.now):
 s.ask C l m=if R.2.2.1≠0 then s.refuse C l m.seq R.2.2.1 else(if 0<R.2.1 then(bH s R.2.2.2).goes C R.1 R.2.1 m.seq else(fQ (bH s R.2.2.2) R.1).record C 10 l m.seq 0 0).done l m.seq:=by subst h;rfl
section
variable(tk:Nat->Sd.Byt->Option Sd.bW) (ht:Body (fr:=fr) 147 bV)
include tk ht
theorem Nv:Body (fr:=fr) 152 (jn λs l m=>s.done l m.seq):=by
 refine jZ (tk:=tk) (n:=60) (xb tk ht) ?_;intro l m k s F Kb hq hS hK;rw[YF];exact⟨eY hq,iH ⟨hS.r.le (by decide),hS.n⟩ λF1=>aM rfl hK F1⟩
theorem Ef:Body (fr:=fr) 156 (jn λs l m=>s.accept (ah tk) l m):=by
 refine jZ (tk:=tk) (n:=60) (xb tk ht) ?_;intro l m k s F Kb hq hS hK;have hb:=Sl (tb hS.i) l m.epoch;rw[Nu];refine⟨(tb hS.i).b,aU (λe=>⟨eY hq,gL ⟨hS.r.le (by decide),hS.n,hb.2⟩ λF1=>aM (if_pos (lh e)).symm hK F1⟩) (λe=>⟨eY hq,l9 ⟨hS.r.le (by decide),hb.1.h,hb.1.e⟩ λF2=>⟨eY ?_,iH ⟨hS.r.goes.le (by decide),hS.n⟩ λF3=>aM (if_neg (nA e)).symm hK F3 (hp:=fj _ _ _ _ _)⟩⟩)⟩;rw[fj];exact hq
theorem Nw:Body (fr:=fr) 157 (jn λs l m=>s.fJ (ah tk) l m):=by
 refine jZ (tk:=tk) (n:=60) (xb tk ht) ?_;intro l m k s F Kb hq hS hK;have hb:=aeD (tb hS.i) l;have h1:Rm (fQ s (s.c.t.fJ l).1) 8:=hS.r;rw[YG];refine⟨trivial,aU (λe=>⟨eY hq,gL ⟨hS.r.le (by decide),hS.n,hb.2⟩ λF1=>aM (if_pos (lh e)).symm hK F1⟩) (λe=>⟨eY hq,rF ⟨h1.le (by decide),⟨by have:=hS.l1;omega,by have:=hS.l3;omega⟩,z8⟩ λF2=>⟨eY ?_,fD h1.gone.r1 λF3=>⟨eY ?_,iH ⟨(h1.gone.rec).le (by decide),hS.n⟩ λF4=>aM (if_neg (nA e)).symm hK F4 (hp:=?_)⟩⟩⟩)⟩
 ·rw[gone_c];exact hq
 ·show(Sd.Scene.gone _ _ _ _).c.p.queue=_;rw[gone_c];exact hq
 ·show(Sd.Scene.gone _ _ _ _).c.p=_;rw[gone_c];rfl
theorem Hr:Body (fr:=fr) 155 (jn λs l m=>s.offer (ah tk) l m):=by
 refine jZ (tk:=tk) (n:=60) (xb tk ht) ?_;intro l m k s F Kb hq hS hK;have hb:=aeE (tb hS.i) s.c.p l m.bx (s.c.tab.on m.bx);have h1:Rm (fQ s (Sd.Tok.make s.c.p s.c.t l m.bx (s.c.tab.on m.bx)).1) 8:=hS.r;rw[Sk,aev];refine⟨trivial,hS.i.p,aU (λe=>⟨eY hq,gL ⟨hS.r.le (by decide),hS.n,hb.2⟩ λF1=>aM (if_pos (lh e)).symm hK F1⟩) (λe=>⟨eY hq,vx ⟨h1.le (by decide),rb (by decide) Yz ⟨by have:=hS.l1;omega,by have:=hS.l3;omega⟩ hb.1.e z8⟩ λF2=>⟨eY ?_,fD h1.hear.r1 λF3=>⟨eY ?_,iH ⟨(h1.hear.rec).le (by decide),hS.n⟩ λF4=>aM (if_neg (nA e)).symm hK F4 (hp:=?_)⟩⟩⟩)⟩
 ·rw[hear_c];exact hq
 ·show(Sd.Scene.hear _ _ _).c.p.queue=_;rw[hear_c];exact hq
 ·show(Sd.Scene.hear _ _ _).c.p=_;rw[hear_c];rfl
theorem BF:Body (fr:=fr) 158 (jn λs l m=>s.release (ah tk) l m):=by
 refine jZ (tk:=tk) (n:=60) (xb tk ht) ?_;intro l m k s F Kb hq hS hK;have hb:=abD (tb hS.i) s.c.q l;have h1:Rm (bH s (Sd.an s.c.t s.c.q l).2.2) 8:=hS.r;rw[Hp];refine⟨⟨rfl,(tb hS.i).b⟩,λB hB=>aU (λe=>⟨eY hq,gL ⟨h1.le (by decide),hS.n,hb.2⟩ λF1=>aM ?_ hK F1⟩) (λe=>⟨eY hq,l9 ⟨h1.le (by decide),hb.1.h,hb.1.e⟩ λF2=>⟨eY ?_,iH ⟨h1.goes.le (by decide),hS.n⟩ λF3=>aM (if_neg (nA e)).symm hK F3 (hp:=fj _ _ _ _ _)⟩⟩)⟩
 ·rw[n_ (abE (lh e))];exact(if_pos (lh e)).symm
 ·rw[fj];exact hq
theorem Sn:Body (fr:=fr) 154 (jn λs l m=>s.ask (ah tk) l m):=by
 refine jZ (tk:=tk) (n:=60) (xb tk ht) ?_;intro l m k s F Kb hq hS hK;have hb:=aiA (p:=s.c.p) (tb hS.i) k.most s.c.q l m.now;have h1:Rm (bH s (gQ s k l m).2.2.2) 8:=hS.r;have h2:Rm (fQ (bH s (gQ s k l m).2.2.2) (gQ s k l m).1) 8:=hS.r;have hka:gQ s k l m=Sd.cv s.c.p s.c.t s.c.p.queue s.c.q l m.now:=by rw[gQ,hq]
 rw[aeC];refine⟨⟨rfl,(tb hS.i).b,by rw[<-hq];exact hS.i.p.queue.2,?_,hS.i.p.ask⟩,λB hB=>aU (λe=>⟨eY hq,gL ⟨h1.le (by decide),hS.n,hb.2⟩ λF1=>aM ?_ hK F1⟩) (λe=>aU (λe2=>⟨eY hq,l9 ⟨h1.le (by decide),hb.1.h,hb.1.e⟩ λF2=>⟨eY ?_,iH ⟨h1.goes.le (by decide),hS.n⟩ λF3=>aM ?_ hK F3 (hp:=fj _ _ _ _ _)⟩⟩)
  (λe2=>⟨eY hq,fD h2.r1 λF2=>⟨eY hq,iH ⟨h2.rec.le (by decide),hS.n⟩ λF3=>aM ?_ hK F3⟩⟩))⟩
 ·intro a ha;by_cases hs:a.source=l
  ·exact .inl hs
  ·refine .inr λhr=>hs ?_;have h:=hS.i.q.each a ha;have h1:=hS.l1;have h3:=hS.l3;exact Sd.y_ hS.i.p ⟨by omega,by omega⟩ ⟨by omega,by omega⟩ (by rw[<-hr,h.1];rfl)
 ·rw[n_ (aiB (lh e)),Hq _ _ _ _ _ hka];exact(if_pos (lh e)).symm
 ·rw[fj];exact hq
 ·have e3:0<(gQ s k l m).2.1:=by simpa using e2
  rw[Hq _ _ _ _ _ hka,if_neg (nA e),if_pos e3]
 ·have e3:¬0<(gQ s k l m).2.1:=by simpa using e2
  rw[Hq _ _ _ _ _ hka,if_neg (nA e),if_neg e3]
end
structure QT where
 f:Nat
 m:List V->TC->Option (Prop×V×Sd.Tab)
def Fz (t:Sd.Tab) (b m:Int):TC:=⟨t.aA.1,t.aA.2.n,t.aA.2.most,t.ay 0,t.ay 1,t.ay 2,b,m⟩
def YU (x:QT):gm (Gh fr):=λargs bl ch K=>match args with
 |.ptr it 0::ar=>(match bl[it]?with
  |some ⟨true,⟨157,(0,0)⟩,tc⟩=>(match uR tc with
   |some y=>(match x.m ar y with
    |some (p,v,t)=>cond (cH 0 ar&&fK 0 v) (p/\K v (bl.set it ⟨true,⟨157,(0,0)⟩,cd (Fz t y.b y.m)⟩) ch) False
    |none=>False)
   |none=>False)
  |_=>False)
 |_=>False
def QT.Ok (x:QT):Prop:=∀(ar:List V) (y:TC) (p:Prop) (v:V) (t:Sd.Tab),x.m ar y=some (p,v,t)->p->∀(bt:Nat) (bs:List av) (ms:List Nat) (w0 w:World),St ms w0 ([⟨bt,true,.cells (jy (aN y).aA (aN y).ay y.b y.m) 157 (0,0)⟩]++bs) w->
 aj prog x.f (ao [bt] (.ptr 0 0::ar)).toArray w λu w1=>u=den [] v/\St ms w0 ([⟨bt,true,.cells (jy t.aA t.ay y.b y.m) 157 (0,0)⟩]++bs) w1
theorem So {bl:List VB} {ids:List Nat} (h:ids.length=bl.length) {i:Nat} (hi:i<bl.length):
 ∃r:List Nat,(∀j∈r,j≠i)/\∀bl':List VB,bl'.length=bl.length->(lits ids ids bl').Perm (aE ids (ids.getD i 0) (bl'.getD i gK)::r.map λj=>aE ids (ids.getD j 0) (bl'.getD j gK)):=by
 obtain⟨r,h1,h2⟩:=ux h (is:=[i]) (by simp) (by simp[hi]);exact⟨r,λj hj=>by simpa using h1 j hj,λbl' hl=>by simpa using h2 bl' hl⟩
theorem Sr {x:QT} (h:x.Ok) (gl:Nat->Option Nat):Sound prog gl x.f (YU (fr:=fr) x):=by
 intro args ids bl ch R ms w0 w K hg hl S hc;unfold YU at hc;split at hc
 ·rename_i it ar;split at hc
  ·rename_i tc hb;split at hc
   ·rename_i y hy;split at hc
    ·rename_i p v t hm;cases hq:cH 0 ar&&fK 0 v with
     |false=>rw[hq]at hc;exact hc.elim
     |true=>
      rw[hq]at hc;simp only[Bool.and_eq_true]at hq;obtain⟨hp,hK⟩:=hc;obtain rfl:=jz hy;have hi:=bO hb;obtain⟨r,hr,dP⟩:=So hl hi;have a1:ao ids (.ptr it 0::ar)=ao [ids.getD it 0] (.ptr 0 0::ar):=by
       have b1:ao ids ar=ao [] ar:=by have:=dW (ids:=[]) (more:=ids) ar hq.1;simpa using this
       have b2:ao [ids.getD it 0] ar=ao [] ar:=by have:=dW (ids:=[]) (more:=[ids.getD it 0]) ar hq.1;simpa using this
       simp only[ao,den,b1,b2];rfl
      have e1:aE ids (ids.getD it 0) (bl.getD it gK)=⟨ids.getD it 0,true,.cells (jy (aN y).aA (aN y).ay y.b y.m) 157 (0,0)⟩:=by rw[cG hb];kernel_rfl
      have p1:=dP bl rfl;rw[e1]at p1;have S1:=S.perm (p1.append_right _);rw[a1];refine(h ar y p v t hm hp _ _ ms w0 w S1).mono ?_;rintro u w1 ⟨rfl,S2⟩;refine⟨v,[],_,ch,?_,by simp[hl],?_,hK⟩
      ·have:=bC (ids:=[]) (more:=ids++[]) v hq.2;simpa using this.symm
      ·simp only[List.append_nil];refine S2.perm ?_;have p2:=dP (bl.set it ⟨true,⟨157,(0,0)⟩,cd (Fz t y.b y.m)⟩) (by simp);have e2:aE ids (ids.getD it 0) ((bl.set it ⟨true,⟨157,(0,0)⟩,cd (Fz t y.b y.m)⟩).getD it gK)=⟨ids.getD it 0,true,.cells (jy t.aA t.ay y.b y.m) 157 (0,0)⟩:=by rw[cG (nx hi)];kernel_rfl
       have e3:(r.map λj=>aE ids (ids.getD j 0) ((bl.set it ⟨true,⟨157,(0,0)⟩,cd (Fz t y.b y.m)⟩).getD j gK))=r.map λj=>aE ids (ids.getD j 0) (bl.getD j gK):=by
        apply List.map_congr_left;intro j hj;simp only[List.getD];rw[eG (Ne.symm (hr j hj))]
       rw[e2,e3]at p2;exact p2.symm.append_right _
    ·exact hc.elim
   ·exact hc.elim
  ·exact hc.elim
 ·exact hc.elim
theorem Hs {x:QT} (h:x.Ok):oP (G:=Gh fr) prog gS ⟨x.f,false,YU x⟩:=⟨Sr h gS,λe=>by cases e⟩
def aiC:QT:=⟨196,λar y=>match ar with
 |[.int .i64 s]=>some (True,.bool ((aN y).cZ s),(aN y).end_ s)
 |_=>none⟩
theorem YH:aiC.Ok:=by
 intro ar y p v t hm hp bt bs ms w0 w S;replace hm:(match(generalizing:=false) ar with
  |[.int .i64 s]=>some (True,V.bool ((aN y).cZ s),(aN y).end_ s)
  |_=>none)=some (p,v,t):=hm
 split at hm
 ·simp only[Option.some.injEq,Prod.mk.injEq]at hm;obtain⟨rfl,rfl,rfl⟩:=hm;exact aiu y _ S
 ·cases hm
def aiD:QT:=⟨79,λar y=>match ar with
 |[]=>some (0<=y.b/\y.b<=1000,.az [],{aN y with aA:=(true,.start y.b)})
 |_=>none⟩
theorem YI:aiD.Ok:=by
 intro ar y p v t hm hp bt bs ms w0 w S;replace hm:(match(generalizing:=false) ar with
  |[]=>some (0<=y.b/\y.b<=1000,V.az [],{aN y with aA:=(true,.start y.b)})
  |_=>none)=some (p,v,t):=hm
 split at hm
 ·simp only[Option.some.injEq,Prod.mk.injEq]at hm;obtain⟨rfl,rfl,rfl⟩:=hm;exact aiv y hp S
 ·cases hm
def Y0 (g:Nat):Option Nat:=bif Nat.beq g 0 then some 0 else none
def kLd:List V:=[.bool false,.bool false,.bool false,.bool false,.bool false,.bool false,.bool false,.bool false,.bool false,.bool false,.bool true,.bool true]
def aeH (ka:Nat->Option Addr) (kn kc:Nat->Nat) (T:TypeId) (p:Sd.Pol) (t:Sd.Tok) (s r mo:Int) (m:Sd.bW) (K:VK Empty):Prop:=cJ (dR prog Y0 (qL Empty QV)) 60 128 [.agg [.j8 p ka kn kc],.agg (cI t),.int .i64 s,.int .i64 r,.int .i64 mo,.agg (cw m)] [⟨false,⟨T,(0,0)⟩,kLd⟩] [] K
theorem abF (ka:Nat->Option Addr) (kn kc:Nat->Nat) (T:TypeId) (p:Sd.Pol) (t:Sd.Tok) (s r mo:Int) (m:Sd.bW) (K:VK Empty):
 aeH ka kn kc T p t s r mo {m with kind:=10} (cP 0 K)=cond (s !=t.holder) (K (.int .i64 20) [] []) (cond (m.epoch !=t.epoch) (K (.int .i64 21) [] []) (True/\cond (!Sd.may p mo r 0) (K (.int .i64 22) [] []) (True/\cond (!Sd.goes p mo m.mode) (K (.int .i64 23) [] []) (K (.int .i64 0) [] []))))/\
 aeH ka kn kc T p t s r mo {m with kind:=11} (cP 0 K)=cond (s !=t.holder) (K (.int .i64 20) [] []) (cond (m.epoch !=t.epoch) (K (.int .i64 21) [] []) (True/\cond (!Sd.may p mo r m.cls) (K (.int .i64 22) [] []) (K (.int .i64 0) [] []))):=⟨by kernel_rfl,by kernel_rfl⟩
theorem Ss (ka:Nat->Option Addr) (kn kc:Nat->Nat) {T:TypeId} (p:Sd.Pol) (t:Sd.Tok) (s r mo:Int) (m:Sd.bW) {v:V} (hv:aeH ka kn kc T p t s r mo m (cP 0 λx _ _=>x=v)) (hw:fK 0 v=true) {w:World} (hC:w.heap[0]?=some (.cells (ab [] kLd).toArray T (0,0))):
 aj prog 128 (ao [0] [.agg [.j8 p ka kn kc],.agg (cI t),.int .i64 s,.int .i64 r,.int .i64 mo,.agg (cw m)]).toArray w λx w1=>x=den [] v/\Ch [] w w1:=by
 have S:=St.given (w:=w) [(0,.cells (ab [0] kLd).toArray T (0,0))] (by intro p hp;simp only[List.mem_singleton]at hp;subst hp;exact hC);refine(bw (f_ (uq Y0)).T (f_ (uq Y0)).Q 60 (C:=dR prog Y0 (qL Empty QV)) (ids:=[0]) (bl:=[⟨false,⟨T,(0,0)⟩,kLd⟩]) (ch:=[]) (R:=[]) (λg i h=>?_) rfl S hv).mono ?_
 ·replace h:Y0 g=some i:=h;unfold Y0 at h;cases hg:Nat.beq g 0 with
  |false=>rw[hg]at h;cases h
  |true=>rw[hg]at h;cases h;exact⟨by simp,(Nat.eq_of_beq_eq_true hg).symm⟩
 ·rintro x w' ⟨y,more,bl',ch',rfl,h1,S',hK⟩;obtain⟨v2,aP,bl2,e,gx,S2,rfl⟩:=c9 (n0:=0) h1 (by simp) S' hK;exact⟨e.trans (bC (ids:=[]) _ hw),S'.ch⟩
theorem aeI (p:Sd.Pol) (ka:Nat->Option Addr) (kn kc:Nat->Nat) (t:Sd.Tok) (s r mo:Int) (m:Sd.bW) (hk:m.kind=10\/m.kind=11) {T:TypeId} {w:World} (hC:w.heap[0]?=some (.cells (ab [] kLd).toArray T (0,0))):
 aj prog 128 (ao [0] [.agg [.j8 p ka kn kc],.agg (cI t),.int .i64 s,.int .i64 r,.int .i64 mo,.agg (cw m)]).toArray w λx w1=>x=den [] (.int .i64 (Sd.fM p t s r mo m))/\Ch [] w w1:=by
 rcases hk with hk|hk
 ·have e:m={m with kind:=10}:=by cases m;simp only at hk;subst hk;rfl
  rw[e];refine Ss ka kn kc p t s r mo _ ?_ rfl hC;rw[(abF ka kn kc T p t s r mo m _).1];unfold Sd.fM;rw[if_neg (by simp)];refine aU (λh=>by rw[if_pos (by simpa using h)]) (λh=>?_);rw[if_neg (by simpa using h)];refine aU (λh=>by rw[if_pos (by simpa using h)]) (λh=>⟨trivial,?_⟩);rw[if_neg (by simpa using h)];refine aU (λh=>by rw[if_pos (by simpa using h)]) (λh=>⟨trivial,?_⟩);rw[if_neg (by simpa using h)];exact aU (λh=>by rw[if_pos (by simpa using h)]) (λh=>by rw[if_neg (by simpa using h)])
 ·have e:m={m with kind:=11}:=by cases m;simp only at hk;subst hk;rfl
  rw[e];refine Ss ka kn kc p t s r mo _ ?_ rfl hC;rw[(abF ka kn kc T p t s r mo m _).2];unfold Sd.fM;rw[if_neg (by simp)];refine aU (λh=>by rw[if_pos (by simpa using h)]) (λh=>?_);rw[if_neg (by simpa using h)];refine aU (λh=>by rw[if_pos (by simpa using h)]) (λh=>⟨trivial,?_⟩);rw[if_neg (by simpa using h)];refine aU (λh=>by rw[if_pos (by simpa using h)]) (λh=>?_);rw[if_neg (by simpa using h),if_neg (by simp)]
def BG:QF:=⟨128,λargs bl=>match args with
 |[.agg [.j8 p ka kn kc],.agg tl,.int .i64 s,.int .i64 r,.int .i64 mo,.agg ml]=>(match kK tl,DU ml,bl[1]?with
  |some t,some m,some (VB.mk _ (BT.mk _ (0,0)) bc)=>some ((m.kind=10\/m.kind=11)/\bc=[.bool false,.bool false,.bool false,.bool false,.bool false,.bool false,.bool false,.bool false,.bool false,.bool false,.bool true,.bool true],.int .i64 (Sd.fM p t s r mo m))
  |_,_,_=>none)
 |_=>none⟩
theorem Nx:BG.Ok prog gS:=by
 intro args bl p_ v_ h hp ids w hg hm;unfold BG at h;dsimp only at h;split at h
 ·rename_i p ka kn kc tl s r mo ml;split at h
  ·rename_i t m _ _ bc ht OE hb;simp only[Option.some.injEq,Prod.mk.injEq]at h;obtain⟨rfl,rfl⟩:=h;obtain rfl:=fh ht;obtain rfl:=n8 OE;obtain⟨hk,hc⟩:=hp;have h2:=hm.2 1 _ hb;rw[(hg 0 1 rfl).2,hc]at h2;exact told (aeI p ka kn kc t s r mo m hk h2)
  ·cases h
 ·cases h
def L5 (fr:Sd.Reply->Nat×Sd.Byt) (C:Sd.Crypt):List (dI (Gh fr)):=⟨196,false,YU aiC⟩::⟨79,false,YU aiD⟩::qE (Gh fr) BG::L4 fr C
theorem zE (tk:Nat->Sd.Byt->Option Sd.bW) (ht:Body (fr:=fr) 147 bV):ai prog gS (L5 fr (ah tk)):=
 ai.cons (Hs YH) (ai.cons (Hs YI) (ai.cons ⟨qI Nx,λ_=>qH BG.F⟩ (xb tk ht)))
end Go.Proofs.YtggfpcggakghnaaGreatDoor
namespace Go.Proofs.YtggfpcggakghnaaGreatDoor
open Go Go.RowKit Go.BigFrame Sx Vx
def fdC (d:Fd) (k:Nat):List V:=[.int .i64 d.sz,.int .i64 d.low,.int .i64 d.high,.fn (bif d.b then 166 else 168) [] [.ptr k 0],.fn (bif d.b then 167 else 169) [] [.ptr k 0]]
def Su:List Fd->Nat->List V
 |[],_=>[]
 |d::l,k=>fdC d k++Su l (k+1)
def Ht (i:Nat):List Fd->List VB
 |[]=>[]
 |d::l=>⟨true,bif d.b then 212 else 210,[.ptr i d.at_]⟩::Ht i l
def tlO:Option (List Value)->List V
 |none=>[]
 |some t=>[.rest t]
def Ny (l:List Fd) (u:Option (List Value)) (i b:Nat):List VB:=⟨true,⟨175,(0,0)⟩,Su l (b+1)++tlO u⟩::Ht i l
def YJ (kd:Int) (T11:(Nat->Option (List Value)->Prop)->Prop) (k:List Fd->Nat->Option (List Value)->Prop) (k0:Prop):Prop:=
 cond (kd==1) (k [oS] 1 none) (cond (kd==2) (k [oS] 1 none) (cond (kd==3) (k [ig] 1 none) (cond (kd==4) (k [ig] 1 none) (cond (kd==8) (k [ig] 1 none) (cond (kd==9) (k [ig] 1 none) (cond (kd==5) (k [ig,D0] 2 none) (cond (kd==6) (k [ig,rN] 2 none) (cond (kd==7) (k [ig,gf] 2 none)
  (cond (kd==10) (k [ig,gf,rj] 3 none) (cond (kd==11) (T11 λc u=>k [ig,gf,yQ,fX 0,fX 1,fX 2,fX 3] c u) k0))))))))))
def V1 (n c:Nat) (a:List V) (k:Nat->List Value->Prop):Prop:=(n<=c/\eL a=c*5)/\(∀(c':Nat) (u:List Value),n+1<=c'->eL (uu (n+1)++[.rest u])=c'*5->k c' u)/\(∀(c':Nat) (u:List Value),n+1<=c'->eL (uu (n+1)++[.rest u])=c'*5->k c' u)
def rG (n:Nat) (u:List Value):List V:=uu n++[.rest u]
def aiE (k:Nat->Option (List Value)->Prop):Prop:=V1 3 3 (uu 3) λc u=>V1 4 c (rG 4 u) λc u=>V1 5 c (rG 5 u) λc u=>V1 6 c (rG 6 u) λc u=>k c (some u)
def xd (m:Sd.bW):VB:=⟨true,⟨66,(0,0)⟩,cw m⟩
def aiF (X:VK Empty) (m:Sd.bW) (l:List Fd) (c:Nat) (u:Option (List Value)):Prop:=X (.az [.sl 1 0 l.length c,.bool true]) (xd m::Ny l u 0 1) []
theorem aeJ (m:Sd.bW) (X:VK Empty):cJ (OL prog Cx (qL Empty [])) 60 71 [.ptr 0 0] [xd m] [] (cP 1 X)=YJ m.kind aiE (aiF X m) (X (.az [.raw (.slice none 0 0),.bool false]) [xd m] []):=by kernel_rfl
def aiG (k:Nat->Option (List Value)->Prop):Prop:=∀(c:Nat) (u:List Value),7<=c->k c (some u)
def BH {G:Type}:gm G:=λargs bl ch K=>match args with
 |[.ptr i 0]=>(match bl[i]?with
  |some b=>(match DU b.c with
   |some m=>cond (CR b.ty 66&&(b.wr&&dk bl.length bl)) (YJ m.kind aiG (λl c u=>K (.az [.sl bl.length 0 l.length c,.bool true]) (bl++Ny l u i bl.length) ch) (K (.az [.raw (.slice none 0 0),.bool false]) bl ch)) False
   |none=>False)
  |none=>False)
 |_=>False
theorem Nz {kd:Int} {A B:(Nat->Option (List Value)->Prop)->Prop} {k k':List Fd->Nat->Option (List Value)->Prop} {k0 k0':Prop} (hA:∀q q':Nat->Option (List Value)->Prop,(∀c u,q c u->q' c u)->A q->B q') (hk:∀l c u,k l c u->k' l c u) (h0:k0->k0') (h:YJ kd A k k0):YJ kd B k' k0':=by
 have cm:∀{b:Bool} {X X' Y Y':Prop},(X->X')->(Y->Y')->cond b X Y->cond b X' Y':=by
  intro b X X' Y Y' h1 h2;cases b
  ·exact h2
  ·exact h1
 exact cm (hk _ _ _) (cm (hk _ _ _) (cm (hk _ _ _) (cm (hk _ _ _) (cm (hk _ _ _) (cm (hk _ _ _) (cm (hk _ _ _) (cm (hk _ _ _) (cm (hk _ _ _) (cm (hk _ _ _) (cm (hA _ _ λc u=>hk _ c u) h0)))))))))) h
theorem aeK {q q':Nat->Option (List Value)->Prop} (hq:∀c u,q c u->q' c u) (h:aiG q):aiE q':=by
 refine⟨⟨by decide,rfl⟩,?_⟩;have a4:∀(c':Nat) (u:List Value),3+1<=c'->eL (uu (3+1)++[.rest u])=c'*5->V1 4 c' (rG 4 u) λc u=>V1 5 c (rG 5 u) λc u=>V1 6 c (rG 6 u) λc u=>q' c (some u):=by
  intro c1 u1 h1 s1;have a5:∀(c':Nat) (u:List Value),4+1<=c'->eL (uu (4+1)++[.rest u])=c'*5->V1 5 c' (rG 5 u) λc u=>V1 6 c (rG 6 u) λc u=>q' c (some u):=by
   intro c2 u2 h2 s2;have a6:∀(c':Nat) (u:List Value),5+1<=c'->eL (uu (5+1)++[.rest u])=c'*5->V1 6 c' (rG 6 u) λc u=>q' c (some u):=by
    intro c3 u3 h3 s3;exact⟨⟨h3,s3⟩,λc4 u4 h4 _=>hq _ _ (h c4 u4 h4),λc4 u4 h4 _=>hq _ _ (h c4 u4 h4)⟩
   exact⟨⟨h2,s2⟩,a6,a6⟩
  exact⟨⟨h1,s1⟩,a5,a5⟩
 exact⟨a4,a4⟩
theorem YK {is js:List Nat} (d:Fd) (k k':Nat) (h:is.getD k 0=js.getD k' 0):ab is (fdC d k)=ab js (fdC d k'):=by
 simp only[fdC,ab,cl,den,ao,h]
theorem Eg {is js:List Nat}:∀(l:List Fd) (k k':Nat),(∀j,is.getD (k+j) 0=js.getD (k'+j) 0)->ab is (Su l k)=ab js (Su l k')
 |[],_,_,_=>rfl
 |d::l,k,k',h=>by
  simp only[Su,bo];rw[YK d k k' (by simpa using h 0),Eg l (k+1) (k'+1) (λj=>by have:=h (1+j);rwa [<-Nat.add_assoc,<-Nat.add_assoc]at this)]
theorem Eh {is js:List Nat} {i i':Nat} (h:is.getD i 0=js.getD i' 0):∀(l:List Fd) (more:List Nat),lits is more (Ht i l)=lits js more (Ht i' l)
 |[],more=>by cases more<;>rfl
 |d::l,[]=>rfl
 |d::l,x::more=>by
  simp only[Ht,lits,aE,ab,cl,den,h,Eh h l more]
theorem YL {is js:List Nat} {i i' b b':Nat} (h:is.getD i 0=js.getD i' 0) (hb:∀j,is.getD (b+j) 0=js.getD (b'+j) 0) (l:List Fd) (u:Option (List Value)) (more:List Nat):lits is more (Ny l u i b)=lits js more (Ny l u i' b'):=by
 cases more with
 |nil=>rfl
 |cons x more=>
  have hu:ab is (tlO u)=ab js (tlO u):=by cases u<;>simp[tlO,ab,cl]
  simp only[Ny,lits,aE,bo,hu,Eh h l more];rw[Eg l (b+1) (b'+1) (λj=>by have:=hb (1+j);rwa [<-Nat.add_assoc,<-Nat.add_assoc]at this)]
theorem J0 (l:List Fd) (u:Option (List Value)) (i b:Nat):(Ny l u i b).length=l.length+1:=by
 have:∀l:List Fd,(Ht i l).length=l.length:=by
  intro l;induction l with
  |nil=>rfl
  |cons d l ih=>simp[Ht,ih]
 simp[Ny,this]
def KF (m:Sd.bW) (P:List Fd->Nat->Option (List Value)->Prop) (P0:Prop):VK Empty:=λv bl ch=>ch=[]/\((∃l c u,P l c u/\v=.az [.sl 1 0 l.length c,.bool true]/\bl=xd m::Ny l u 0 1)\/(P0/\v=.az [.raw (.slice none 0 0),.bool false]/\bl=[xd m]))
theorem BI {G:Type} [Bl G] (gl:Nat->Option Nat):Sound (G:=G) prog gl 71 BH:=by
 intro args ids bl ch R ms w0 w K hg hl S hc;unfold BH at hc;split at hc
 ·rename_i i;split at hc
  ·rename_i b hb;split at hc
   ·rename_i m hm;cases hq:CR b.ty 66&&(b.wr&&dk bl.length bl)with
    |false=>rw[hq]at hc;exact hc.elim
    |true=>
     rw[hq]at hc;simp only[cond_true]at hc;simp only[Bool.and_eq_true]at hq;obtain⟨q1,q2,q3⟩:=hq;have q1:=Ar q1;obtain⟨wr,ty,bc⟩:=b;simp only at q1 q2 hm;subst q1 q2;obtain rfl:=n8 hm;have hi:=bO hb;have hbb:=hb;obtain⟨r,hr,dP⟩:=So hl hi;have p1:=dP bl rfl;have S1:=S.perm (p1.append_right _);rw[cG hb]at S1;have em:∀is:List Nat,ab is (cw m)=ab [] (cw m):=λis=>by have:=bU (ids:=[]) (more:=is) (cw m) rfl;simpa using this
     have S2:St ms w0 (lits [ids.getD i 0] [ids.getD i 0] [xd m]++af ([]:List Empty) ((r.map λj=>aE ids (ids.getD j 0) (bl.getD j gK))++af ch R)) w:=by
      have e:lits [ids.getD i 0] [ids.getD i 0] [xd m]=[aE ids (ids.getD i 0) ⟨true,⟨66,(0,0)⟩,cw m⟩]:=by
       simp only[lits,aE,xd,em]
      rw[e];simpa[af]using S1
     have hv:cJ (OL prog Cx (qL Empty [])) 60 71 [.ptr 0 0] [xd m] [] (cP 1 (KF m (λl c u=>K (.az [.sl bl.length 0 l.length c,.bool true]) (bl++Ny l u i bl.length) ch) (K (.az [.raw (.slice none 0 0),.bool false]) bl ch))):=by
      rw[aeJ];exact Nz (λq q' h=>aeK h) (λl c u hP=>⟨rfl,.inl ⟨l,c,u,hP,rfl,rfl⟩⟩) (λhP=>⟨rfl,.inr ⟨hP,rfl,rfl⟩⟩) hc
     have main:=bw (G:=Empty) (ai.nil (P:=prog) (gl:=Cx)).TS (ai.nil).QS 60 (C:=OL prog Cx (qL Empty [])) (args:=[.ptr 0 0]) (λg i h=>by cases h) rfl S2 hv;have a1:(ao ids [.ptr i 0]).toArray=(ao [ids.getD i 0] [.ptr 0 0]).toArray:=rfl;rw[a1];refine main.mono ?_;rintro v w' ⟨x,more,bl',ch',rfl,D8,S3,hgc⟩;obtain⟨v',aP,bl2,ev,gx,S4,rfl,hk⟩:=c9 (n0:=1) D8 (by simp) S3 hgc;rw[ev];have et:List.take 1 ([ids.getD i 0]++more)=[ids.getD i 0]:=rfl;rw[et]at gx S4⊢;simp only[af]at S4;have back:∀(M:List VB),lits ([ids.getD i 0]++aP) ([ids.getD i 0]++aP) (xd m::M)=aE ids (ids.getD i 0) ⟨true,⟨66,(0,0)⟩,cw m⟩::lits ([ids.getD i 0]++aP) aP M:=by
      intro M;simp only[List.singleton_append,lits,aE,xd,em]
     rcases hk with⟨l,c,u,hP,rfl,rfl⟩|⟨hP,rfl,rfl⟩
     ·have hlen:aP.length=(Ny l u i bl.length).length:=by
       rw[J0];rw[List.length_cons,J0]at gx;simpa using gx
      have hb:∀j,([ids.getD i 0]++aP).getD (1+j) 0=(ids++aP).getD (bl.length+j) 0:=by
       intro j;rw[<-hl];simp[List.getD,List.getElem?_append_right,Nat.add_comm 1 j]
      have h0:([ids.getD i 0]++aP).getD 0 0=(ids++aP).getD i 0:=by
       exact(kU (ids:=ids) (more:=aP) (by rw[Nat.blt_eq,hl];exact hi)).symm
      refine⟨_,aP,_,ch,?_,by rw[List.length_append,List.length_append,hl,hlen],?_,hP⟩
      ·have:=hb 0;simp only[Nat.add_zero]at this;simp only[den,ao,this]
      ·rw[back]at S4;have e2:lits (ids++aP) (ids++aP) (bl++Ny l u i bl.length)=lits ids ids bl++lits ([ids.getD i 0]++aP) aP (Ny l u 0 1):=by
        rw[aI _ _ _ _ hl,aJ _ _ (by rw[hl];exact q3),YL (i:=0) (i':=i) (b:=1) (b':=bl.length) h0 hb l u]
       rw[e2];refine S4.perm ?_;have p3:=(p1.symm.append_right (lits ([ids.getD i 0]++aP) aP (Ny l u 0 1))).append_right (af ch R);rw[cG hbb]at p3;refine List.Perm.trans ?_ p3;simp only[List.cons_append,List.append_assoc];refine List.Perm.cons _ ?_;exact List.perm_append_comm_assoc _ _ _
     ·refine⟨_,[],bl,ch,?_,by simpa using hl,?_,hP⟩
      ·simp[den,ao]
      ·rw[List.append_nil];rw[back]at S4;have Ah:aP=[]:=by cases aP with
        |nil=>rfl
        |cons=>simp at gx
       subst Ah;refine S4.perm ?_;have p3:=p1.symm.append_right (af ch R);rw[cG hb]at p3;exact p3
   ·exact hc.elim
  ·exact hc.elim
 ·exact hc.elim
def Y1:List (dI Empty):=⟨71,false,BH⟩::qL Empty LTk
def kL (n e:Nat) (f:Nat->Int) (t:List Value) (X:V->Prop):Prop:=cJ (OL prog Cx Y1) 90 143 [.sl 0 0 n (e+n)] [⟨false,⟨5,(0,0)⟩,[.dC .u8 n f,.rest t]⟩] [] λv _ _=>X v
section
variable(e:Nat) (f:Nat->Int) (t:List Value) (X:V->Prop)
theorem alY:kL 0 e f t X=X pM:=by kernel_rfl
theorem alZ:kL 1 e f t X=gI 1 f X:=by kernel_rfl
theorem al0:kL 2 e f t X=gI 2 f X:=by kernel_rfl
theorem al1:kL 3 e f t X=gI 3 f X:=by kernel_rfl
theorem al2:kL 4 e f t X=gI 4 f X:=by kernel_rfl
theorem al3:kL 5 e f t X=gI 5 f X:=by kernel_rfl
theorem al4:kL 6 e f t X=gI 6 f X:=by kernel_rfl
theorem al5:kL 7 e f t X=gI 7 f X:=by kernel_rfl
theorem al6:kL 8 e f t X=gI 8 f X:=by kernel_rfl
theorem al7:kL 9 e f t X=gI 9 f X:=by kernel_rfl
theorem aiH:kL 10 e f t X=gI 10 f X:=by kernel_rfl
theorem aiI:kL 11 e f t X=gI 11 f X:=by kernel_rfl
theorem aiJ:kL 12 e f t X=gI 12 f X:=by kernel_rfl
theorem aiK:kL 13 e f t X=gI 13 f X:=by kernel_rfl
theorem aiL:kL 14 e f t X=gI 14 f X:=by kernel_rfl
theorem aiM:kL 15 e f t X=gI 15 f X:=by kernel_rfl
theorem aiN:kL 16 e f t X=gI 16 f X:=by kernel_rfl
theorem aiO (m:Nat):kL (m+17) e f t X=gI (m+17) f X:=by kernel_rfl
end
end Go.Proofs.YtggfpcggakghnaaGreatDoor
