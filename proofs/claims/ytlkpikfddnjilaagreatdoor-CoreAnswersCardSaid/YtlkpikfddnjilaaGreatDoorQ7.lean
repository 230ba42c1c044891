/- Part 7 of the proof. -/
import Derived.Test.YtlkpikfddnjilaaGreatDoorQ6
set_option linter.all false
set_option maxRecDepth 100000
set_option maxHeartbeats 4000000
namespace Vx
open Go Go.RowKit Go.BigFrame Sx
variable{G:Type} [Bl G]
abbrev Tm (G:Type):=Exit->List V->List VB->List G->Prop
abbrev xX (G:Type):=Code->List V->List VB->List G->Tm G->Prop
def zz (P:Program) (fr:List V) (bl:List VB):List ResultVar->Option (List V)
 |[]=>some []
 |.tmp t::l=>(match zz P fr bl l with|some r=>some (nth fr t::r)|none=>none)
 |.cell a t::l=>(match Tg P bl t (nth fr a),zz P fr bl l with|some v,some r=>some (v::r)|_,_=>none)
def B5:List V->V
 |[v]=>v
 |l=>.aC l
def NF (P:Program) (fn:Func) (K:VK G):Tm G:=λe fr bl ch=>match e with
 |.normal=>(match zz P fr bl fn.results.toList with|some vs=>K (B5 vs) bl ch|none=>False)
 |.ret=>(match zz P fr bl fn.results.toList with|some vs=>K (B5 vs) bl ch|none=>False)
 |_=>False
def EN:Nat->List V
 |0=>[]
 |n+1=>cD::EN n
def xY (C:Ctx G) (rec:xX G):gb G:=λf args bl ch K=>match C.T f with
 |some c=>c args bl ch K
 |none=>match C.P.funcs[f]?with
  |some fn=>(match fn.body with
   |some c=>rec c (args++EN (fn.ntmps-args.length)) bl ch (NF C.P fn K)
   |none=>False)
  |none=>False
def aev (C:Ctx G) (call:gb G) (l1 l2:List Oper) (Tk ts1 Tl ts2:List Nat) (i j:Nat) (fr:List V) (bl:List VB) (ch:List G) (k:xp G):Prop:=
 cond (okS C l1 Tk ts1 i fr.length&&(okS C l2 Tl ts2 j fr.length&&(!(Nat.beq i j)&&cG bl.length fr))) (tI C call l1.toArray (Tj l1 ts1) fr bl ch k/\tI C call l2.toArray (Tj l2 ts2) fr bl ch k) False
def aew (C:Ctx G) (call:gb G) (l1 l2:List Oper) (Tk Tl:List Nat) (i j:Nat) (fr:List V) (bl:List VB) (ch:List G) (k:xp G):Prop:=aev C call l1 l2 Tk (nn l1 Tk) Tl (nn l2 Tl) i j fr bl ch k
def vcS (C:Ctx G) (call:gb G) (l:List Oper) (pm ts:List Nat) (fr:List V) (bl:List VB) (ch:List G) (k:xp G):Prop:=match oM l ts with
 |some (i,r)=>(match oM l r with
  |some (j,_)=>aew C call (eE l i j) (eE l j i) (uV (eE l i j) [] pm) (uV (eE l j i) [] pm) i j fr bl ch k
  |none=>False)
 |none=>False
def aex (C:Ctx G) (call:gb G) (l:List Oper) (pm ts:List Nat) (fr:List V) (bl:List VB) (ch:List G) (k:xp G):Prop:=
 cond (uU C C.q l pm ts fr.length&&cG bl.length fr) (tI C call l.toArray (Tj l ts) fr bl ch k) (vcS C call l pm ts fr bl ch k)
def vcD (C:Ctx G) (call:gb G) (l:List Oper) (pm:List Nat) (fr:List V) (bl:List VB) (ch:List G) (k:xp G):Prop:=aex C call l pm (nn l pm) fr bl ch k
def aey (k:xp G) (K:Tm G):Tm G:=λe fr bl ch=>match e with
 |.normal=>k fr bl ch
 |e=>K e fr bl ch
def NG (id:Nat) (K:Tm G):Tm G:=λe fr bl ch=>match e with
 |.exit j=>cond (Nat.beq j id) (K .normal fr bl ch) (K (.exit j) fr bl ch)
 |e=>K e fr bl ch
def lpB:Code->Option Code
 |.loop c=>some c
 |_=>none
def lpK (I:Lp G) (x:I.X) (K:Tm G):Tm G:=λe fr bl ch=>match e with
 |.normal=>I.en x fr bl ch
 |e=>K e fr bl ch
def HE (C:Ctx G) (rec:xX G):xX G:=λc fr bl ch K=>match c with
 |.skip=>K .normal fr bl ch
 |.seq a b=>rec a fr bl ch (aey (λfr bl ch=>rec b fr bl ch K) K)
 |.cond x t f=>(match x with
  |.tmp i=>(match nth fr i with
   |.bool b=>cond b (rec t (jO fr i (.bool true)) bl ch K) (rec f (jO fr i (.bool false)) bl ch K)
   |_=>False)
  |.const (.bool b)=>cond b (rec t fr bl ch K) (rec f fr bl ch K)
  |_=>False)
 |.block id b=>(match C.lp id fr with
  |some I=>(match lpB b with
   |some c=>I.en0 fr bl ch/\∀(x:I.X) (g:Nat->Value),rec c (fill (I.fr x) g 0) (I.bl x) (I.ch x) (lpK I x (NG id K))
   |none=>rec b fr bl ch (NG id K))
  |none=>rec b fr bl ch (NG id K))
 |.loop b=>rec b fr bl ch (aey (λfr bl ch=>rec (.loop b) fr bl ch K) K)
 |.exit id=>K (.exit id) fr bl ch
 |.ret=>K .ret fr bl ch
 |.region _ ops false=>tI C (xY C rec) ops ops.toList fr bl ch λfr bl ch=>K .normal fr bl ch
 |.region _ ops true=>vcD C (xY C rec) ops.toList (Hx ops.toList []) fr bl ch λfr bl ch=>K .normal fr bl ch
 |_=>False
def vcC (C:Ctx G) (n:Nat):xX G:=Nat.rec (motive:=λ_=>xX G) (λ_ _ _ _ _=>False) (λ_ ih=>HE C ih) n
def cI (C:Ctx G) (n:Nat) (f:FuncId) (args:List V) (bl:List VB) (ch:List G) (K:VK G):Prop:=match C.P.funcs[f]?with
 |some fn=>(match fn.body with
  |some c=>vcC C n c (args++EN (fn.ntmps-args.length)) bl ch (NF C.P fn K)
  |none=>False)
 |none=>False
section
variable{C:Ctx G} {call:gb G}
theorem Un {n:Nat} {ts:List Nat} (h1:ts.length=n) (h2:∀i∈ts,i<n) (h3:ts.Nodup):∀i,i<n->i∈ts:=by
 intro i hi;obtain⟨r,hr⟩:=my ts (List.range n) h3 (λx hx=>List.mem_range.2 (h2 x hx));have hlen:=hr.length_eq;simp[h1]at hlen;subst hlen;have hs:(List.range n).Perm ts:=by simpa using hr
 exact hs.mem_iff.1 (List.mem_range.2 hi)
theorem DI.start {l:List Oper} {pm ts:List Nat} {R:List ax} {ms:List Nat} {w0 w:World} {k:xp G} {ids:List Nat} {bl:List VB} {ch:List G} {fr:List V}
 (hg:Gl C.gl ids) (hl:ids.length=bl.length) (S:St ms w0 (lits ids ids bl++ag ch R) w) (hd:uU C C.q l pm ts fr.length=true) (hwf:cG bl.length fr=true) (h:tI C call l.toArray (Tj l ts) fr bl ch k):
 (DI C call C.q l pm R ms w0 k fr ids [] ts fr ids bl ch [] (Array.replicate l.length false) (act ids fr) {w with drawn:=w.drawn+1}/\xq l pm=true/\jZ l l.length=true)/\C.P.follows .mixedOrders=true:=by
 unfold uU Hz at hd;simp only[Bool.and_eq_true]at hd;obtain⟨⟨⟨⟨⟨⟨⟨⟨⟨d1,d2⟩,d3⟩,d4⟩,d5⟩,d6⟩,d7⟩,d8⟩,d10⟩,d9⟩:=hd;have hlen:=Nat.eq_of_beq_eq_true d4;have aal:∀i∈ts,i<l.length:=λi hi=>by have:=List.all_eq_true.1 d5 i hi;rwa [Nat.blt_eq]at this
 have Tn:=oN d6;have hff:∀j,j<l.length->(Array.replicate l.length false)[j]?=some false:=λj hj=>by simp[Array.getElem?_replicate];exact hj
 have hft:∀(j:Nat),(Array.replicate l.length false)[j]?=some true->False:=λj hj=>by
  rw[Array.getElem?_replicate]at hj;split at hj<;>simp at hj
 have S':St ms w0 (lits ids ids bl++ag ch R) {w with drawn:=w.drawn+1}:=S.quiet (Ch.refl [] w).drew;exact⟨⟨{gd:=d7,Ue:=d8,BU:=λi hi=>Un hlen aal Tn i hi,BV:=aal,nd:=Tn,oO:=d9,Uf:=λi hi=>(by have:=List.all_eq_true.1 d10 i hi;simpa using this),ls:=(by simp),Mt:=λi hi=>(nomatch hi),l6:=λi hi _=>hff i (aal i hi),back:=λj hj=>(hft j hj).elim,vc:=h,sz:=(by simp[act,jX]),df:=rfl,slot:=λt _ _=>zq t,old:=λi hi=>(nomatch hi),uY:=λt _=>rfl,recs:=λi hi=>(nomatch hi),Mu:=λi hi hj=>(hft i hj).elim,nT:=λp hp=>(nomatch hp),znd:=List.nodup_nil,S:=(by simpa using S'),hl:=hl,gl:=hg,wf0:=(by rw[hl];exact hwf),idp:=⟨[],by simp⟩},d1,d2⟩,d3⟩
theorem nx {l:List Oper} {pm:List Nat} {q:Nat->Bool} {i:Nat} {r:List Nat}:∀{ts:List Nat},eB (lq q l pm) ts=true->oM l ts=some (i,r)->i∈ts/\xU (aG l i)=true/\∀x∈ts,xU (aG l x)=true->x=i\/lq q l pm i x=true
 |[],_,h=>by cases h
 |y::ts,hp,h=>by
  simp only[eB,Bool.and_eq_true,List.all_eq_true]at hp;unfold oM at h;cases hX:xU (aG l y)with
  |true=>
   rw[hX]at h;obtain⟨rfl,rfl⟩:y=i/\ts=r:=by simpa using h
   exact⟨by simp,hX,λx hx _=>by rcases List.mem_cons.1 hx with e|hx;exact .inl e;exact .inr (hp.1 x hx)⟩
  |false=>
   rw[hX]at h;obtain⟨h1,h2,h3⟩:=nx hp.2 h;exact⟨List.mem_cons_of_mem _ h1,h2,λx hx hx2=>by
    rcases List.mem_cons.1 hx with rfl|hx
    ·rw[hX]at hx2;cases hx2
    ·exact h3 x hx hx2⟩
theorem DI.head {q:Nat->Bool} {l:List Oper} {pm ts bS rest:List Nat} {R:List ax} {ms:List Nat} {w0 w:World} {k:xp G} {i_ fr:List V} {dT ids:List Nat} {bl:List VB} {ch:List G} {Z:List (Nat×ax)} {a:Act} {n i:Nat} {r:List Nat}
 (D:DI C call q l pm R ms w0 k i_ dT bS rest fr ids bl ch Z (Array.replicate n false) a w) (hA:(l.all λo=>!(om o))=true) (hh:rest=[]\/∃i s,rest=i::s/\xd (aG l i)=false) (hp:eB (lq q l pm) ts=true) (jL:∀x,x<l.length->x∈ts) (hX:oM l ts=some (i,r)) (hi:i<l.length):
 ∃s,rest=i::s/\xd (aG l i)=false:=by
 obtain⟨_,h2,h3⟩:=nx hp hX;have hm:i∈rest:=by
  rcases List.mem_append.1 (D.BU i hi)with h|h
  ·have:=D.Mt i h (by rcases gw (aG l i)with e|e|e<;>simp_all);rw[Array.getElem?_replicate]at this;split at this<;>simp at this
  ·exact h
 rcases hh with rfl|⟨x,s,rfl,hf⟩
 ·cases hm
 ·have hx:xU (aG l x)=true:=by have:=lu hA x;rcases gw (aG l x)with e|e|e<;>simp_all
  rcases List.mem_cons.1 hm with rfl|hm
  ·exact⟨s,rfl,hf⟩
  ·exfalso;have TH:x<l.length:=D.BV x (by simp);have JK:=(fV D.gd).2.2;simp only[eB,Bool.and_eq_true,List.all_eq_true]at JK;have hb:=(mE (JK.1 i hm)).xj hx (lu hA i);rcases h3 x (jL x TH) hx with rfl|h
   ·have Tn:=D.nd;have:=(List.nodup_append.1 Tn).2.1;exact(List.nodup_cons.1 this).1 hm
   ·have:=(mE h).nb;rw[hb]at this;cases this
theorem aam (hc:rS C.P C.gl call) (hqk:u9 C.q call) {id:Nat} {ops:Array Oper} {R:List ax} {ms:List Nat} {w0 w:World} {Q:Exit->Act->World->Prop} {k:xp G} {ids:List Nat} {bl:List VB} {ch:List G} {fr:List V}
 (hg:Gl C.gl ids) (hl:ids.length=bl.length) (S:St ms w0 (lits ids ids bl++ag ch R) w) (h:vcD C call ops.toList (Hx ops.toList []) fr bl ch k)
 (hk:∀fr' more bl' ch' w',(ids++more).length=bl'.length->St ms w0 (lits (ids++more) (ids++more) bl'++ag ch' R) w'->k fr' bl' ch'->Q .normal (act (ids++more) fr') w'):
 (Code.region id ops true).wp C.P Q (act ids fr) w:=by
 unfold vcD aex at h;generalize T7:ops.toList=l at h;generalize Hx l []=pm at h;generalize nn l pm=ts at h;have aia:ops=l.toArray:=by rw[<-T7]
 subst aia;cases hd:uU C C.q l pm ts fr.length&&cG bl.length fr with
 |true=>
  rw[hd]at h;simp only[Bool.and_eq_true]at hd;obtain⟨⟨D,d1,d2⟩,d3⟩:=DI.start hg hl S hd.1 hd.2 h;refine wp_region_any d3 ?_;obtain⟨bS,r,fr',D',hh⟩:=D.mH ts;exact kC hc hqk d1 d2 hk _ D' hh (by simp[List.count_replicate_self])
 |false=>
  rw[hd]at h;simp only[cond_false]at h;unfold vcS at h;split at h
  ·rename_i i r1 hf1;split at h
   ·rename_i j r2 hf2;unfold aew aev at h;generalize uV (eE l i j) [] pm=Tk at h;generalize uV (eE l j i) [] pm=Tl at h;generalize nn (eE l i j) Tk=ts1 at h;generalize nn (eE l j i) Tl=ts2 at h;cases hq:okS C (eE l i j) Tk ts1 i fr.length&&(okS C (eE l j i) Tl ts2 j fr.length&&(!(Nat.beq i j)&&cG bl.length fr))with
    |false=>rw[hq]at h;exact h.elim
    |true=>
     rw[hq]at h;simp only[Bool.and_eq_true,Bool.not_eq_true']at hq;obtain⟨q1,q2,q3,q4⟩:=hq;have Mo:i≠j:=λe=>by rw[e,Nat.beq_refl]at q3;cases q3
     unfold okS at q1 q2;simp only[Bool.and_eq_true]at q1 q2;obtain⟨⟨a1,a2⟩,a3⟩:=q1;obtain⟨⟨c1,c2⟩,c3⟩:=q2;obtain⟨⟨D1,d1,d2⟩,d3⟩:=DI.start hg hl S a1 q4 h.1;obtain⟨⟨D2,e1,e2⟩,_⟩:=DI.start hg hl S c1 q4 h.2;rw[qg]at D1 D2;split at a3
     ·rename_i x1 y1 g1;obtain rfl:=Nat.eq_of_beq_eq_true a3;split at c3
      ·rename_i x2 y2 g2;obtain rfl:=Nat.eq_of_beq_eq_true c3;obtain⟨ab1,rs1,f1,D1',h1⟩:=D1.mH ts1;obtain⟨ab2,rs2,f2,D2',h2⟩:=D2.mH ts2;have p1:=nx D1.gd g1;have p2:=nx D2.gd g2;obtain⟨s1,rfl,hn1⟩:=D1'.head a2 h1 D1.gd (λx hx=>by simpa using D1.BU x hx) g1 (D1.BV _ (by simpa using p1.1));obtain⟨s2,rfl,hn2⟩:=D2'.head c2 h2 D2.gd (λx hx=>by simpa using D2.BU x hx) g2 (D2.BV _ (by simpa using p2.1));refine wp_region_any d3 ?_;exact JJ hc hqk Mo d1 d2 e1 e2 a2 c2 hk _ D1' hn1 D2' hn2 (by simp[List.count_replicate_self])
      ·cases c3
     ·cases a3
   ·exact h.elim
  ·exact h.elim
def gy (C:Ctx G):Prop:=∀f,C.q f=true->∃c,C.T f=some c/\∀args bl ch K,c args bl ch K->c args bl ch λv bl' ch'=>K v bl' ch'/\∃e,bl'=bl++e
theorem B6 (hQ:gy C) {rec:xX G}:u9 C.q (xY C rec):=by
 intro f hf args bl ch K h;obtain⟨c,hc,hq⟩:=hQ f hf;unfold xY at h⊢;rw[hc]at h⊢;exact hq args bl ch K h
theorem JM {ids:List Nat} (n:Nat):aq ids (EN n)=List.replicate n undef:=by
 induction n with
 |zero=>rfl
 |succ n ih=>simp[EN,aq,ih,List.replicate_succ,cD,den]
theorem JN {ids:List Nat} (a b:List V):aq ids (a++b)=aq ids a++aq ids b:=by simp[jX]
theorem zA {P:Program} {ids:List Nat} {fr:List V} {bl:List VB} {R:List ax} {ms:List Nat} {w0 w:World} (hl:ids.length=bl.length) (S:St ms w0 (lits ids ids bl++R) w):
 ∀(rs:List ResultVar) {vs:List V},zz P fr bl rs=some vs->yM P w (aq ids fr).toArray rs (aq ids vs)
 |[],vs,h=>by simp only[zz,Option.some.injEq]at h;subst h;exact trivial
 |.tmp t::l,vs,h=>by
  simp only[zz]at h;split at h
  ·rename_i r hr;simp only[Option.some.injEq]at h;subst h;refine⟨?_,zA hl S l hr⟩;simp only[mg,<-ll];rfl
  ·cases h
 |.cell a t::l,vs,h=>by
  simp only[zz]at h;split at h
  ·rename_i v r hv hr;simp only[Option.some.injEq]at h;subst h;refine⟨?_,zA hl S l hr⟩;have h1:=zl (P:=P) hl S hv;have h2:∃x,den ids (nth fr a)=.pointer (some x):=by
    unfold Tg at hv;split at hv
    ·rename_i i off hx;exact⟨⟨ids.getD i 0,off,none⟩,by rw[hx];simp only[den]⟩
    ·cases hv
   obtain⟨x,hx⟩:=h2;rw[hx]at h1;simp only[Instr.loadAt,Instr.sureAddr,Sem.run_bind,Sem.run_pure,Result.andThen_ok]at h1;simp only[mg,<-ll,hx,asAddr,Sem.run_bind,Sem.run_pure,Result.andThen_ok,h1]
  ·cases h
theorem NH {ids:List Nat} (vs:List V):yN (aq ids vs)=den ids (B5 vs):=by
 match vs with
 |[]=>rfl
 |[v]=>rfl
 |_::_::_=>simp[aq,yN,B5,den]
theorem Uo {P:Program} {fn:Func} {K:VK G} {e:Exit} {fr:List V} {bl:List VB} {ch:List G} {ids:List Nat} {R:List ax} {ms:List Nat} {w0 w:World} (hl:ids.length=bl.length) (S:St ms w0 (lits ids ids bl++R) w)
 (h:NF P fn K e fr bl ch) {R':Value->World->Prop} (hk:∀x,K x bl ch->R' (den ids x) w):bodyPost P fn (λe w'=>∃v,e=.returned v/\R' v w') e (act ids fr) w:=by
 have main:(match zz P fr bl fn.results.toList with|some vs=>K (B5 vs) bl ch|none=>False)->∃v,(results fn (act ids fr).tmps).run P w=.ok v w/\R' v w:=by
  intro h;split at h
  ·rename_i vs hvs;exact⟨_,ei (fn:=fn) fn.results.toList _ _ (zA hl S _ hvs) (by simp) (NH vs),hk _ h⟩
  ·exact h.elim
 unfold NF at h;split at h
 ·obtain⟨v,h1,h2⟩:=main h;exact⟨rfl,v,h1,v,rfl,h2⟩
 ·obtain⟨v,h1,h2⟩:=main h;exact⟨rfl,v,h1,v,rfl,h2⟩
 ·exact h.elim
theorem tZ {ids more:List Nat}:∀(l:List (Option V)) (fr:List V) (i:Nat) (g:Nat->Value),frM ids.length l fr->(∀t,g (i+t)=den (ids++more) (nth fr t))->aq (ids++more) fr=aq ids (fill l g i)
 |[],[],_,_,_,_=>by simp[fill,aq]
 |some v::l,u::fr,i,g,h,hg=>by
  obtain⟨rfl,hw,h⟩:=h;simp only[fill,aq];rw[bx u hw,tZ l fr (i+1) g h (λt=>by have:=hg (t+1);simp only[nth]at this;rw[<-this];congr 1;omega)]
 |none::l,u::fr,i,g,h,hg=>by
  simp only[fill,aq,den];rw[tZ l fr (i+1) g h (λt=>by have:=hg (t+1);simp only[nth]at this;rw[<-this];congr 1;omega)];have:=hg 0;simp only[nth,Nat.add_zero]at this;rw[this]
 |[],_::_,_,_,h,_=>h.elim
 |some _::_,[],_,_,h,_=>h.elim
 |none::_,[],_,_,h,_=>h.elim
theorem NI (ids more:List Nat) (bl j:List VB) (hl:bl.length=ids.length) (hw:dE ids.length bl=true):lits (ids++more) (ids++more) (bl++j)=lits ids ids bl++lits (ids++more) more j:=by
 rw[aQ _ _ _ _ hl.symm,aR _ _ hw]
theorem aib {ms:List Nat} {w0 w:World} {A B R:List ax} (S:St ms w0 ((A++B)++R) w):St ms w0 (A++R) w:=S.sub (List.Sublist.append_right (List.sublist_append_left A B) R)
def EO (C:Ctx G) (n:Nat):Prop:=∀(c:Code) {fr:List V} {bl:List VB} {ch:List G} {K:Tm G} {ids:List Nat} {R:List ax} {ms:List Nat} {w0 w:World} {Q:Exit->Act->World->Prop},
 Gl C.gl ids->ids.length=bl.length->St ms w0 (lits ids ids bl++ag ch R) w->vcC C n c fr bl ch K->
 (∀e fr' more bl' ch' w',(ids++more).length=bl'.length->St ms w0 (lits (ids++more) (ids++more) bl'++ag ch' R) w'->K e fr' bl' ch'->Q e (act (ids++more) fr') w')->
 c.wp C.P Q (act ids fr) w/\(∀b,c=.loop b->Code.rounds C.P b Q n (act ids fr) w)
theorem YK {n:Nat} (ih:EO C n) {f:Nat} {fn:Func} {c:Code} (hf:C.P.funcs[f]?=some fn) (hb:fn.body=some c) {args:List V} {ids:List Nat} {bl:List VB} {ch:List G} {R:List ax} {ms:List Nat} {w0 w:World} {K:VK G}
 (hg:Gl C.gl ids) (hl:ids.length=bl.length) (S:St ms w0 (lits ids ids bl++ag ch R) w) (h:vcC C n c (args++EN (fn.ntmps-args.length)) bl ch (NF C.P fn K)):
 ak C.P f (aq ids args).toArray w λv w'=>∃x more bl' ch',v=den (ids++more) x/\(ids++more).length=bl'.length/\St ms w0 (lits (ids++more) (ids++more) bl'++ag ch' R) w'/\K x bl' ch':=by
 refine calls_of_wp hf hb ?_;have e:({tmps:=(aq ids args).toArray++Array.replicate (fn.ntmps-(aq ids args).toArray.size) undef,defers:=[]}:Act)=act ids (args++EN (fn.ntmps-args.length)):=by
  simp only[act,JN,JM];congr 1;apply Array.ext';simp[jX]
 rw[e];refine(ih c hg hl S h ?_).1;intro e fr' more bl' ch' w' g1 g2 g3;refine Uo g1 g2 g3 ?_;intro x hx;exact⟨x,more,bl',ch',rfl,g1,g2,hx⟩
theorem B7 {n:Nat} (hT:∀f c,C.T f=some c->Sound C.P C.gl f c) (ih:EO C n):rS C.P C.gl (xY C (vcC C n)):=by
 intro f hf args ids bl ch R ms w0 w K hg hl S h;unfold xY at h;split at h
 ·rename_i c hc;exact hT f c hc args ids bl ch R ms w0 w K hg hl S h
 ·split at h
  ·rename_i fn hfn;split at h
   ·rename_i c hc;exact YK ih hfn hc hg hl S h
   ·exact h.elim
  ·exact h.elim
theorem NJ {ids:List Nat} {fr:List V} (i:Nat):(act ids fr).eval (.tmp i)=den ids (nth fr i):=by simp only[Act.eval,act,ll]
theorem sound (hT:∀f c,C.T f=some c->Sound C.P C.gl f c) (hQ:gy C):∀n,EO C n:=by
 intro n;induction n with
 |zero=>intro c fr bl ch K ids R ms w0 w Q hg hl S h;exact h.elim
 |succ n ih=>
  intro c fr bl ch K ids R ms w0 w Q hg hl S h hk;replace h:HE C (vcC C n) c fr bl ch K:=h;generalize aan:vcC C n=rec at h;have NK:∀(c:Code) {fr:List V} {bl:List VB} {ch:List G} {K:Tm G} {ids:List Nat} {R:List ax} {ms:List Nat} {w0 w:World} {Q:Exit->Act->World->Prop},Gl C.gl ids->ids.length=bl.length->St ms w0 (lits ids ids bl++ag ch R) w->rec c fr bl ch K->(∀e fr' more bl' ch' w',(ids++more).length=bl'.length->St ms w0 (lits (ids++more) (ids++more) bl'++ag ch' R) w'->K e fr' bl' ch'->Q e (act (ids++more) fr') w')->c.wp C.P Q (act ids fr) w/\(∀b,c=.loop b->Code.rounds C.P b Q n (act ids fr) w):=by rw[<-aan];exact ih
  have Ms:∀e,K e fr bl ch->Q e (act ids fr) w:=λe he=>by
   have:=hk e fr [] bl ch w (by simpa using hl) (by simpa using S) he;simpa using this
  have trans:∀{more:List Nat} {e:Exit} {fr':List V} {bl':List VB} {ch':List G} {w':World},(∀e Ti aS bl2 ch2 w2,((ids++more)++aS).length=bl2.length->St ms w0 (lits ((ids++more)++aS) ((ids++more)++aS) bl2++ag ch2 R) w2->K e Ti bl2 ch2->Q e (act ((ids++more)++aS) Ti) w2):=by
   intro more e fr' bl' ch' w' e Ti aS bl2 ch2 w2 g1 g2 g3;rw[List.append_assoc]at g1 g2⊢;exact hk e Ti (more++aS) bl2 ch2 w2 g1 g2 g3
  cases c with
  |skip=>exact⟨wp_skip (Ms _ h),λb e=>nomatch e⟩
  |seq a b=>
   refine⟨?_,λb e=>nomatch e⟩;refine wp_seq ((NK a hg hl S h ?_).1);intro e fr' more bl' ch' w' g1 g2 g3;cases e with
   |normal=>exact(NK b (hg.app more) g1 g2 g3 (trans (e:=.normal) (fr':=fr') (bl':=bl') (ch':=ch') (w':=w'))).1
   |_=>exact hk _ fr' more bl' ch' w' g1 g2 g3
  |cond x t f=>
   refine⟨?_,λb e=>nomatch e⟩;unfold HE at h;dsimp only at h;split at h
   ·rename_i i;split at h
    ·rename_i b hb;have hs:=qe fr i;rw[hb]at hs;have hev:(act ids fr).eval (.tmp i)=.bool b:=by rw[NJ,hb];simp only[den]
     cases b with
     |true=>rw[hs]at h;exact wp_cond_true hev (NK t hg hl S h hk).1
     |false=>rw[hs]at h;exact wp_cond_false hev (NK f hg hl S h hk).1
    ·exact h.elim
   ·rename_i b;cases b with
    |true=>exact wp_cond_true rfl (NK t hg hl S h hk).1
    |false=>exact wp_cond_false rfl (NK f hg hl S h hk).1
   ·exact h.elim
  |block id b=>
   refine⟨?_,λb e=>nomatch e⟩;have fin:∀e fr' more bl' ch' w',(ids++more).length=bl'.length->St ms w0 (lits (ids++more) (ids++more) bl'++ag ch' R) w'->NG id K e fr' bl' ch'->Exit.inBlock id Q e (act (ids++more) fr') w':=by
    intro e fr' more bl' ch' w' g1 g2 g3;cases e with
    |exit j=>
     simp only[NG]at g3;unfold Exit.inBlock;by_cases hj:j=id
     ·subst hj;rw[Nat.beq_refl]at g3;simp only[if_true];exact hk _ _ _ _ _ _ g1 g2 g3
     ·have:Nat.beq j id=false:=by
       cases hb:Nat.beq j id with
       |true=>exact absurd (Nat.eq_of_beq_eq_true hb) hj
       |false=>rfl
      rw[this]at g3;simp only[if_neg hj];exact hk _ _ _ _ _ _ g1 g2 g3
    |_=>exact hk _ _ _ _ _ _ g1 g2 g3
   unfold HE at h;dsimp only at h;split at h
   ·rename_i I hI;split at h
    ·rename_i c hc;obtain rfl:b=.loop c:=by
      unfold lpB at hc;split at hc
      ·cases hc;rfl
      ·cases hc
     obtain⟨h0,hx⟩:=h;have key:∀N (x:I.X) (g:Nat->Value) w',I.m x<N->(I.bl x).length=ids.length->St ms w0 (lits ids ids (I.bl x)++ag (I.ch x) R) w'->Code.rounds C.P c (Exit.inBlock id Q) N (act ids (fill (I.fr x) g 0)) w':=by
      intro N;induction N with
      |zero=>intro x g w' hN;omega
      |succ N ihN=>
       intro x g w' hN Mp Sx;refine(NK c hg Mp.symm Sx (hx x g) ?_).1;intro e fr' more bl' ch' w2 g1 g2 g3;cases e with
       |normal=>
        obtain⟨y,hm,hf,hly,hwf,⟨j,rfl⟩,rfl⟩:=I.ok x fr' bl' ch' g3;have e1:act (ids++more) fr'=act ids (fill (I.fr y) (λt=>den (ids++more) (nth fr' t)) 0):=by
         simp only[act];rw[tZ (I.fr y) fr' 0 (λt=>den (ids++more) (nth fr' t)) (by rw[<-Mp];exact hf) (λt=>by simp)]
        show Code.rounds C.P c _ N (act (ids++more) fr') w2;rw[e1];refine ihN y _ w2 (by omega) (hly.trans Mp) ?_;rw[Mp]at hwf hly;rw[NI ids more (I.bl y) j hly hwf]at g2;exact aib g2
       |_=>exact fin _ fr' more bl' ch' w2 g1 g2 (by first|exact g3|(unfold lpK at g3;exact g3))
     obtain⟨x0,hf,rfl,rfl⟩:=I.ok0 fr bl ch h0;refine wp_block (wp_loop_rounds (I.m x0+1) ?_);have e1:act ids fr=act ids (fill (I.fr x0) (λt=>den ids (nth fr t)) 0):=by
      have:=tZ (ids:=ids) (more:=[]) (I.fr x0) fr 0 (λt=>den ids (nth fr t)) (by rw[hl];exact hf) (λt=>by simp);simp only[act];simp only[List.append_nil]at this;rw[this]
     rw[e1];exact key _ x0 _ w (Nat.lt_succ_self _) hl.symm S
    ·exact wp_block ((NK b hg hl S h fin).1)
   ·exact wp_block ((NK b hg hl S h fin).1)
  |loop b=>
   have key:Code.rounds C.P b Q (n+1) (act ids fr) w:=by
    refine(NK b hg hl S h ?_).1;intro e fr' more bl' ch' w' g1 g2 g3;cases e with
    |normal=>exact(NK (.loop b) (hg.app more) g1 g2 g3 (trans (e:=.normal) (fr':=fr') (bl':=bl') (ch':=ch') (w':=w'))).2 b rfl
    |_=>exact hk _ fr' more bl' ch' w' g1 g2 g3
   exact⟨wp_loop_rounds (n+1) key,λb' e=>by cases e;exact key⟩
  |exit id=>exact⟨wp_exit (Ms _ h),λb e=>nomatch e⟩
  |ret=>exact⟨wp_ret (Ms _ h),λb e=>nomatch e⟩
  |region id ops d=>
   refine⟨?_,λb e=>nomatch e⟩;cases d with
   |true=>exact aam (aan▸B7 hT ih) (B6 hQ) hg hl S h (λfr' more bl' ch' w' g1 g2 g3=>hk _ _ _ _ _ _ g1 g2 g3)
   |false=>
    refine wp_region_list ?_;exact(EK (B7 hT ih) ops.toList hg hl S (by rw[aan];exact h) (λfr' more bl' ch' w' g1 g2 g3=>hk _ _ _ _ _ _ g1 g2 g3)).out
  |_=>exact h.elim
theorem bw (hT:∀f c,C.T f=some c->Sound C.P C.gl f c) (hQ:gy C) (n:Nat) {f:Nat} {args:List V} {ids:List Nat} {bl:List VB} {ch:List G} {R:List ax} {ms:List Nat} {w0 w:World} {K:VK G}
 (hg:Gl C.gl ids) (hl:ids.length=bl.length) (S:St ms w0 (lits ids ids bl++ag ch R) w) (h:cI C n f args bl ch K):
 ak C.P f (aq ids args).toArray w λv w'=>∃x more bl' ch',v=den (ids++more) x/\(ids++more).length=bl'.length/\St ms w0 (lits (ids++more) (ids++more) bl'++ag ch' R) w'/\K x bl' ch':=by
 unfold cI at h;split at h
 ·rename_i fn hf;split at h
  ·rename_i c hb;exact YK (sound hT hQ n) hf hb hg hl S h
  ·exact h.elim
 ·exact h.elim
end
structure dF (G:Type) where
 f:FuncId
 q:Bool
 c:gZ G
def Mw:List (dF G)->FuncId->Option (gZ G)
 |[],_=>none
 |e::l,f=>bif Nat.beq e.f f then some e.c else Mw l f
def To:List (dF G)->FuncId->Bool
 |[],_=>false
 |e::l,f=>bif Nat.beq e.f f then e.q else To l f
def dw (P:Program) (gl:Nat->Option Nat) (L:List (dF G)):Ctx G:=⟨P,Mw L,gl,To L,noH,EH,λ_ _=>none⟩
def dU (c:gZ G):Prop:=∀args bl ch K,c args bl ch K->c args bl ch λv bl' ch'=>K v bl' ch'/\∃e,bl'=bl++e
def oq (P:Program) (gl:Nat->Option Nat) (e:dF G):Prop:=Sound P gl e.f e.c/\(e.q=true->dU e.c)
def ah (P:Program) (gl:Nat->Option Nat) (L:List (dF G)):Prop:=∀e∈L,oq P gl e
theorem ah.nil {P:Program} {gl:Nat->Option Nat}:ah (G:=G) P gl []:=λe h=>nomatch h
theorem ah.cons {P:Program} {gl:Nat->Option Nat} {e:dF G} {L:List (dF G)} (h:oq P gl e) (k:ah P gl L):ah P gl (e::L):=λx hx=>by
 rcases List.mem_cons.1 hx with rfl|hx
 ·exact h
 ·exact k x hx
theorem ah.app {P:Program} {gl:Nat->Option Nat} {L M:List (dF G)} (h:ah P gl L) (k:ah P gl M):ah P gl (L++M):=λx hx=>by
 rcases List.mem_append.1 hx with hx|hx
 ·exact h x hx
 ·exact k x hx
theorem ah.T {P:Program} {gl:Nat->Option Nat} {L:List (dF G)} (h:ah P gl L):∀f c,(dw P gl L).T f=some c->Sound (dw P gl L).P (dw P gl L).gl f c:=by
 intro f c hc;replace hc:Mw L f=some c:=hc;show Sound P gl f c;induction L with
 |nil=>cases hc
 |cons e L ih=>
  unfold Mw at hc;cases hb:Nat.beq e.f f with
  |true=>
   rw[hb]at hc;obtain rfl:e.c=c:=by simpa using hc
   obtain rfl:=Nat.eq_of_beq_eq_true hb;exact(h e (by simp)).1
  |false=>
   rw[hb]at hc;exact ih (λx hx=>h x (by simp[hx])) hc
theorem ah.Q {P:Program} {gl:Nat->Option Nat} {L:List (dF G)} (h:ah P gl L):gy (dw P gl L):=by
 intro f hf;replace hf:To L f=true:=hf;show∃c,Mw L f=some c/\_;induction L with
 |nil=>cases hf
 |cons e L ih=>
  unfold To at hf;unfold Mw;cases hb:Nat.beq e.f f with
  |true=>
   rw[hb]at hf;exact⟨e.c,rfl,(h e (by simp)).2 (by simpa using hf)⟩
  |false=>
   rw[hb]at hf;exact ih (λx hx=>h x (by simp[hx])) hf
def qC (F:List V->List VB->Option (Prop×V)):gZ G:=λargs bl ch K=>match F args bl with
 |some (p,v)=>p/\K v bl ch
 |none=>False
theorem qh (F:List V->List VB->Option (Prop×V)):dU (G:=G) (qC F):=by
 intro args bl ch K h;unfold qC at h⊢;split at h
 ·exact⟨h.1,h.2,[],by simp⟩
 ·exact h
def Mem (ids:List Nat) (bl:List VB) (w:World):Prop:=ids.length=bl.length/\∀(i:Nat) (b:VB),bl[i]?=some b->w.heap[ids.getD i 0]?=some (.cells (af ids b.c).toArray b.ty.t b.ty.fz)
structure QF where
 f:FuncId
 F:List V->List VB->Option (Prop×V)
def QF.Ok (P:Program) (gl:Nat->Option Nat) (q:QF):Prop:=∀args bl p v,q.F args bl=some (p,v)->p->∀ids w,Gl gl ids->Mem ids bl w->ak P q.f (aq ids args).toArray w λx w'=>x=den ids v/\Ch [] w w'
theorem qi {P:Program} {gl:Nat->Option Nat} {q:QF} (h:q.Ok P gl):Sound P gl q.f (qC (G:=G) q.F):=by
 intro args ids bl ch R ms w0 w K hg hl S hc;unfold qC at hc;split at hc
 ·rename_i p v hF;refine(h args bl p v hF hc.1 ids w hg ⟨hl,λi b hb=>(cQ hl S hb).2⟩).mono ?_;rintro x w' ⟨rfl,fP⟩;exact⟨v,[],bl,ch,by simp,by simpa using hl,by simpa using S.quiet fP,hc.2⟩
 ·exact hc.elim
def qE (G:Type) [Bl G] (q:QF):dF G:=⟨q.f,true,qC q.F⟩
def qL (G:Type) [Bl G]:List QF->List (dF G)
 |[]=>[]
 |q::l=>qE G q::qL G l
def aW (P:Program) (gl:Nat->Option Nat) (L:List QF):Prop:=∀q∈L,QF.Ok P gl q
theorem fJ {P:Program} {gl:Nat->Option Nat}:∀{L:List QF},aW P gl L->ah (G:=G) P gl (qL G L)
 |[],_=>ah.nil
 |q::l,h=>ah.cons ⟨qi (h q (by simp)),λ_=>qh q.F⟩ (fJ λx hx=>h x (by simp[hx]))
theorem aW.nil {P:Program} {gl:Nat->Option Nat}:aW P gl []:=λe h=>nomatch h
theorem aW.cons {P:Program} {gl:Nat->Option Nat} {e:QF} {L:List QF} (h:e.Ok P gl) (k:aW P gl L):aW P gl (e::L):=λx hx=>by
 rcases List.mem_cons.1 hx with rfl|hx
 ·exact h
 ·exact k x hx
theorem aW.app {P:Program} {gl:Nat->Option Nat} {L M:List QF} (h:aW P gl L) (k:aW P gl M):aW P gl (L++M):=λx hx=>by
 rcases List.mem_append.1 hx with hx|hx
 ·exact h x hx
 ·exact k x hx
instance:Bl Empty:=⟨λ_=>[]⟩
def jh (P:Program) (L:List QF) (n:Nat) (f:FuncId) (args:List V) (X:V->Prop):Prop:=cI (dw P (λ_=>none) (qL Empty L)) n f args [] [] λv _ _=>X v
theorem Gl.none {ids:List Nat}:Gl (λ_=>none) ids:=λg i h=>nomatch h
theorem oQ {P:Program} {L:List QF} (hL:aW P (λ_=>none) L) (n:Nat) {f:Nat} {args:List V} {v:V} (h:jh P L n f args (·=v)) (ha:cG 0 args=true) (hv:fu 0 v=true) (ids:List Nat) (w:World):
 ak P f (aq ids args).toArray w λx w'=>x=den ids v/\Ch [] w w':=by
 have e1:aq ids args=aq [] args:=by have:=dI (ids:=[]) (more:=ids) args ha;simpa using this
 have e2:∀is,den is v=den [] v:=λis=>by have:=bx (ids:=[]) (more:=is) v hv;simpa using this
 rw[e1];refine(bw (fJ hL).T (fJ hL).Q n (C:=dw P (λ_=>none) (qL Empty L)) (ids:=[]) (bl:=[]) (ch:=[]) (R:=[]) (ms:=[]) (w0:=w) (w:=w) Gl.none rfl (St.nil [] w) h).mono ?_;rintro x w' ⟨y,more,bl',ch',rfl,h1,S,rfl⟩;exact⟨by rw[e2 ids,e2],S.ch⟩
theorem aO {b:Bool} {X Y:Prop} (h:b=true->X) (k:b=false->Y):cond b X Y:=by cases b;exact k rfl;exact h rfl
end Vx
namespace Vx
open Go Go.RowKit Go.BigFrame Sx
structure aE where
 T:TypeId
 z:Nat
 os:List Value
 x:Option Addr
 n:Nat
 c:Nat
 bl:List ax
 h:eH z T os x n c bl
instance:Bl aE:=⟨λg=>g.bl⟩
def aE.v (g:aE):V:=.raw (.slice g.x g.n g.c)
def aE.nil (T z:Nat):aE:=⟨T,z,[],none,0,0,[],ib z T⟩
def g9 (P:Program) (T:TypeId):Option (Nat×Nat):=match P.info? T with
 |some i=>(match i.zero with
  |some v=>bif Nat.beq v.cells.size i.size then some (i.size,i.bytes)else none
  |none=>none)
 |none=>none
def Up (T z:Nat) (s:V) (m:Nat) (news:List Value) (bl:List VB) (K:VK aE):List aE->List aE->Prop
 |_,[]=>False
 |pre,g::l=>bif Nat.beq g.T T then cond (Nat.beq g.z z) ((s=g.v/\g.n+m<=1000000)/\∀(x:Option Addr) (c:Nat) (bk:List ax) (h:eH g.z g.T (g.os++news) x (g.n+m) c bk),K (.raw (.slice x (g.n+m) c)) bl (pre++⟨g.T,g.z,g.os++news,x,g.n+m,c,bk,h⟩::l)) False
  else Up T z s m news bl K (pre++[g]) l
def Uq (P:Program):(Operand->V)->Op->List VB->List aE->VK aE->Prop:=λe op bl ch K=>match op with
 |.call c=>(match c.callee,c.args.toList,c.argTypes.toList with
  |.builtin .append,[s,xs],[t,tx]=>(match P.underlying t,P.underlying tx with
   |some (.slice T),some (.slice _)=>(match g9 P T,e xs with
    |some (z,eo),.sl i 0 m _=>(match bl[i]?with
     |some b=>cond (Nat.beq (eF b.c) (m*z)&&(cG 0 b.c&&(oL b.c&&Nat.ble eo 10000000))) (Up T z (e s) m (af [] b.c) bl K [] ch) False
     |none=>False)
    |_,_=>False)
   |_,_=>False)
  |_,_,_=>False)
 |_=>False
theorem dY {G:Type} [Bl G] (R:List ax):∀(a b:List G),ag (a++b) R=ag a (ag b R)
 |[],b=>rfl
 |g::a,b=>by simp only[List.cons_append,ag,dY R a b]
theorem bH {G:Type} [Bl G] (R:List ax):∀(a:List G),ag a R=ag a []++R
 |[]=>rfl
 |g::a=>by simp only[ag,bH R a,List.append_assoc]
theorem B8 {T z:Nat} {s:V} {m:Nat} {news:List Value} {bl:List VB} {K:VK aE}:∀(ch pre:List aE),Up T z s m news bl K pre ch->∃(l1:List aE) (g:aE) (l2:List aE),ch=l1++g::l2/\g.T=T/\g.z=z/\s=g.v/\g.n+m<=1000000/\
 ∀(x:Option Addr) (c:Nat) (bk:List ax) (h:eH g.z g.T (g.os++news) x (g.n+m) c bk),K (.raw (.slice x (g.n+m) c)) bl ((pre++l1)++⟨g.T,g.z,g.os++news,x,g.n+m,c,bk,h⟩::l2)
 |[],pre,h=>h.elim
 |g::l,pre,h=>by
  unfold Up at h;cases hb:Nat.beq g.T T with
  |true=>
   rw[hb]at h;simp only[cond_true]at h;cases hz:Nat.beq g.z z with
   |false=>rw[hz]at h;exact h.elim
   |true=>
    rw[hz]at h;exact⟨[],g,l,rfl,Nat.eq_of_beq_eq_true hb,Nat.eq_of_beq_eq_true hz,h.1.1,h.1.2,by simpa using h.2⟩
  |false=>
   rw[hb]at h;obtain⟨l1,g',l2,rfl,h1,h2,h3,h4,h5⟩:=B8 l _ h;refine⟨g::l1,g',l2,rfl,h1,h2,h3,h4,?_⟩;intro x c bk hh;have:=h5 x c bk hh;simpa[List.append_assoc]using this
theorem HF {P:Program} {gl:Nat->Option Nat}:rR P gl (Uq P):=by
 intro e op ids bl ch R ms w0 w K ρ o hg hl S cz ho h;unfold Uq at h;split at h
 ·rename_i c;split at h
  ·rename_i s xs t tx eV bd jL;split at h
   ·rename_i T T' ht pJ;split at h
    ·rename_i z eo i m cc aI pI;split at h
     ·rename_i b hb;cases hq:Nat.beq (eF b.c) (m*z)&&(cG 0 b.c&&(oL b.c&&Nat.ble eo 10000000))with
      |false=>rw[hq]at h;exact h.elim
      |true=>
       rw[hq]at h;simp only[cond_true]at h;simp only[Bool.and_eq_true]at hq;obtain⟨q1,q2,q3,q4⟩:=hq;have q1:=Nat.eq_of_beq_eq_true q1;have q4:=Nat.le_of_ble_eq_true q4;obtain⟨l1,g,l2,rfl,rfl,rfl,hs,hn,hK⟩:=B8 _ _ h;have hi:(P.info? g.T).map (λi=>(i.zero.map (·.cells.size),i.size,i.bytes))=some (some g.z,g.z,eo):=by
        unfold g9 at aI;split at aI
        ·rename_i inf va;split at aI
         ·rename_i v hv;cases JO:Nat.beq v.cells.size inf.size with
          |false=>rw[JO]at aI;simp at aI
          |true=>
           rw[JO]at aI;simp only[cond_true,Option.some.injEq,Prod.mk.injEq]at aI;have:=Nat.eq_of_beq_eq_true JO;simp[va,hv,this,aI.1,aI.2]
         ·cases aI
        ·cases aI
       have hd:af ids b.c=af [] b.c:=by have:=bY (ids:=[]) (more:=ids) b.c q2;simpa using this
       have bD:=(cQ hl S hb).2;have hlen:(af [] b.c).length=m*g.z:=by rw[<-q1];exact cP b.c
       have fp:Src P g.z tx (.slice (some ⟨ids.getD i 0,0,none⟩) m cc) m (af [] b.c) w:=by
        refine Src.ofSlice w pJ ⟨ids.getD i 0,0,none⟩ m cc _ hlen (λj u hj=>?_) (λu hu=>ni q3 u hu);rw[Addr.add_lit,cell_of bD,hd];simpa using hj
       have e1:lits ids ids bl++ag (l1++g::l2) R=(lits ids ids bl++ag l1 [])++(g.bl++ag l2 R):=by
        rw[dY,bH (ag (g::l2) R) l1];simp only[ag,List.append_assoc];rfl
       rw[e1]at S;have Bt:(g.n+m)*eo<=140737488355328:=Nat.le_trans (Nat.mul_le_mul hn q4) (by decide);obtain⟨v,w',a_,hc,x',c',bl',rfl,oG,vb⟩:=ie (P:=P) (ty:=o.type) g.h (λy hy=>S.at' (by simp[hy])) eo fp ht hi Bt (Nat.le_trans hn (by decide));have S2:=S.BD g.h.wr hc (λy hy=>(vb y hy).1) (λy hy=>(vb y hy).2) oG.pw;refine⟨_,[],bl,_,w',.inl ?_,by simpa using hl,?_,hK x' c' bl' oG⟩
       ·obtain⟨HA,ar,tJ⟩:=c;simp only at eV bd jL;have e2:ar=#[s,xs]:=by rw[<-bd]
        have e3:tJ=#[t,tx]:=by rw[<-jL]
        subst eV e2 e3;have:=bN (P:=P) (ρ:=ρ) (o:=o) ho (sv:=.slice g.x g.n g.c) (xv:=.slice (some ⟨ids.getD i 0,0,none⟩) m cc) (by rw[cz,hs];simp only[aE.v,den]) (by rw[cz,pI];simp only[den]) a_;simpa[den]using this
       ·rw[List.append_nil];have e4:lits ids ids bl++ag (([]++l1)++⟨g.T,g.z,g.os++af [] b.c,x',g.n+m,c',bl',oG⟩::l2) R=(lits ids ids bl++ag l1 [])++(bl'++ag l2 R):=by
         rw[List.nil_append,dY,bH (ag (_::l2) R) l1];simp only[ag,List.append_assoc];rfl
        rw[e4];exact S2
     ·exact h.elim
    ·exact h.elim
   ·exact h.elim
  ·exact h.elim
 ·exact h.elim
def Bu (P:Program) (gl:Nat->Option Nat) (L:List (dF aE)):Ctx aE:=⟨P,Mw L,gl,To L,Uq P,HF,λ_ _=>none⟩
theorem ah.TR {P:Program} {gl:Nat->Option Nat} {L:List (dF aE)} (h:ah P gl L):∀f c,(Bu P gl L).T f=some c->Sound (Bu P gl L).P (Bu P gl L).gl f c:=h.T
theorem ah.QR {P:Program} {gl:Nat->Option Nat} {L:List (dF aE)} (h:ah P gl L):gy (Bu P gl L):=h.Q
theorem xu {P:Program} {w:World} {z T n c m b:Nat} {olds tail news:List Value} (hlen:olds.length=n*z) (Ey:(olds++tail).length=c*z) (Bo:n<=c) (bD:w.heap[b]?=some (.cells (olds++tail).toArray T (0,0)))
 {t tx ty:TypeId} {xv:Value} (bytes:Nat) (hs:Src P z tx xv m news w) (yS:0<m) (ht:P.underlying t=some (.slice T)) (hi:(P.info? T).map (λi=>(i.zero.map (·.cells.size),i.size,i.bytes))=some (some z,z,bytes))
 (hb:(n+m)*bytes<=140737488355328) (h63:n+m<=maxLen):
 (∃w',(Builtin.append_ #[t,tx] ty #[.slice (some ⟨b,0,none⟩) n c,xv]).run P w=.ok (.slice (some ⟨b,0,none⟩) (n+m) c) w'/\Ch [b] w w'/\w'.heap[b]?=some (.cells ((olds++news)++tail.drop news.length).toArray T (0,0))/\n+m<=c)\/
 (∃b' c' te w',(Builtin.append_ #[t,tx] ty #[.slice (some ⟨b,0,none⟩) n c,xv]).run P w=.ok (.slice (some ⟨b',0,none⟩) (n+m) c') w'/\Ch [] w w'/\w.heap.size<=b'/\w'.heap[b']?=some (.cells ((olds++news)++te).toArray T (0,0))/\
  ((olds++news)++te).length=c'*z/\n+m<=c'):=by
 obtain⟨i,aI,hi⟩:=Option.map_eq_some_iff.1 hi;simp only[Prod.mk.injEq]at hi;obtain⟨hz,iQ,Bn⟩:=hi;obtain⟨z0,Eg,Jp⟩:=Option.map_eq_some_iff.1 hz;have Jq:=hs.newsLen;have w9:Src P i.size tx xv m news w:=by rw[iQ];exact hs
 by_cases jq:n+m<=c
 ·left;have hbd:n*z+news.length<=(olds++tail).length:=by
   rw[Ey,Jq,<-Nat.add_mul];exact Nat.mul_le_mul_right _ jq
  have ng:=run_storeCells_at (P:=P) b (n*z) T news 0 (olds++tail).toArray w bD (by simpa using hbd) hs.one;simp only[Nat.add_zero]at ng;have a_:(Builtin.append_ #[t,tx] ty #[.slice (some ⟨b,0,none⟩) n c,xv]).run P w=.ok (.slice (some ⟨b,0,none⟩) (n+m) c) (w.setRow b ((olds++tail).take (n*z)++news++(olds++tail).drop (n*z+news.length)).toArray):=by
   rcases w9.kind with⟨e',hk⟩|hk<;>simp[Builtin.append_,run_underlying ht,run_underlying hk,Go.sizeOf,typeInfo,aI,w9.len,jq,hs.cells,Addr.add_lit,iQ,ng,Result.andThen]
  refine⟨_,a_,by simpa using Ch.setRow w b _,?_,jq⟩;have:=setRow_heap w b (olds++tail).toArray ((olds++tail).take (n*z)++news++(olds++tail).drop (n*z+news.length)).toArray T (0,0) bD;rw[this];congr 3;rw[<-hlen,List.take_left,List.drop_append,List.drop_eq_nil_of_le (by omega)];simp
 ·right;have hg:c<n+m:=by omega
  have hold:(Builtin.firstCells i.size n (.slice (some ⟨b,0,none⟩) n c)).run P w.drew=.ok olds.toArray w.drew:=by
   refine run_firstCells_some (P:=P) w.drew i.size n ⟨b,0,none⟩ n c olds (by rw[hlen,iQ]) (λj v hj=>?_);rw[Addr.add_lit];have:w.drew.cell? ⟨b,0+j,none⟩=w.cell? ⟨b,j,none⟩:=by simp
   rw[this,cell_of bD];have Bp:j<olds.length:=by
    rcases Nat.lt_or_ge j olds.length with h|h
    ·exact h
    ·simp[h]at hj
   simp[List.getElem?_append_left Bp,hj]
  have a_:=run_append_grow_src (P:=P) w t tx ty T i z0 ht aI Eg (some ⟨b,0,none⟩) n c olds hold xv m news w9 hg (by simp only[maxLen]at h63;omega) (by rw[Bn];exact growslice_fits hg hb);have mj:=grownCap_ge w (n+m) c T;refine⟨w.heap.size,grownCap w (n+m) c T,(Builtin.zeroCells z0.cells (grownCap w (n+m) c T-(n+m))).toList,_,a_,?_,Nat.le_refl _,?_,?_,mj⟩
  ·exact((Ch.refl [] w).drew).trans (Ch.alloc [] w.drew _) (λx hx=>.inl hx)
  ·have:=heap_alloc_new w.drew (.cells ((olds++news).toArray++Builtin.zeroCells z0.cells (grownCap w (n+m) c T-(n+m))) T);refine Eq.trans this ?_;congr 2;apply Array.ext';simp
  ·rw[List.length_append,List.length_append,hlen,Jq,Array.length_toList,size_zeroCells,Jp,<-Nat.add_mul,<-Nat.add_mul];congr 1;omega
variable{G:Type} [Bl G]
def Ur (P:Program):(Operand->V)->Op->List VB->List G->VK G->Prop:=λe op bl ch K=>match op with
 |.call c=>(match c.callee,c.args.toList,c.argTypes.toList with
  |.builtin .append,[s,xs],[t,tx]=>(match P.underlying t,P.underlying tx with
   |some (.slice T),some (.slice _)=>(match g9 P T,e s,e xs with
    |some (z,eo),.sl j 0 n c,.sl i 0 (m+1) _=>(match bl[j]?,bl[i]?with
     |some ⟨wr,⟨Ta,(0,0)⟩,ac⟩,some b=>(match BG ac 0 (n*z)with
      |some C=>cond (Nat.beq Ta T&&(wr&&(Nat.beq (eF b.c) ((m+1)*z)&&(oL b.c&&(Nat.ble eo 10000000&&(Nat.ble (n+(m+1)) 1000000&&(cG bl.length C&&(cG bl.length b.c&&dE bl.length bl))))))))
       ((n<=c/\eF ac=c*z)/\(∀(c':Nat) (u:List Value),n+(m+1)<=c'->eF (C++(b.c++[.rest u]))=c'*z->K (.sl j 0 (n+(m+1)) c') (bl.set j ⟨true,T,C++(b.c++[.rest u])⟩) ch)/\
         (∀(c':Nat) (u:List Value),n+(m+1)<=c'->eF (C++(b.c++[.rest u]))=c'*z->K (.sl bl.length 0 (n+(m+1)) c') (bl++[⟨true,T,C++(b.c++[.rest u])⟩]) ch)) False
      |none=>False)
     |_,_=>False)
    |_,_,_=>False)
   |_,_=>False)
  |_,_,_=>False)
 |_=>False
theorem lv {P:Program} {T z eo:Nat} (aI:g9 P T=some (z,eo)):(P.info? T).map (λi=>(i.zero.map (·.cells.size),i.size,i.bytes))=some (some z,z,eo):=by
 unfold g9 at aI;split at aI
 ·rename_i inf va;split at aI
  ·rename_i v hv;cases JO:Nat.beq v.cells.size inf.size with
   |false=>rw[JO]at aI;simp at aI
   |true=>
    rw[JO]at aI;simp only[cond_true,Option.some.injEq,Prod.mk.injEq]at aI;have:=Nat.eq_of_beq_eq_true JO;simp[va,hv,this,aI.1,aI.2]
  ·cases aI
 ·cases aI
theorem HG {P:Program} {gl:Nat->Option Nat}:rR (G:=G) P gl (Ur P):=by
 intro e op ids bl ch R ms w0 w K ρ o hg hl S cz ho h;unfold Ur at h;split at h
 ·rename_i c;split at h
  ·rename_i s xs t tx eV bd jL;split at h
   ·rename_i T T' ht pJ;split at h
    ·rename_i z eo j n cc i m Eh aI rJ pI;split at h
     ·rename_i wr Ta ac b ha hb;split at h
      ·rename_i C hC;cases hq:Nat.beq Ta T&&(wr&&(Nat.beq (eF b.c) ((m+1)*z)&&(oL b.c&&(Nat.ble eo 10000000&&(Nat.ble (n+(m+1)) 1000000&&(cG bl.length C&&(cG bl.length b.c&&dE bl.length bl)))))))with
       |false=>rw[hq]at h;exact h.elim
       |true=>
        rw[hq]at h;simp only[cond_true]at h;simp only[Bool.and_eq_true]at hq;obtain⟨q1,q2,q3,q4,q5,q6,q8,q9,q10⟩:=hq;have q1:=Nat.eq_of_beq_eq_true q1;have q3:=Nat.eq_of_beq_eq_true q3;have q5:=Nat.le_of_ble_eq_true q5;have q6:=Nat.le_of_ble_eq_true q6;obtain⟨⟨q7,iQ⟩,Ef,Z6⟩:=h;subst q1 q2;have bD:=(cQ hl S hb).2;obtain⟨hj,aao⟩:=cQ hl S ha;obtain⟨g1,g2,g3⟩:=jY (ids:=ids) hC;rw[List.drop_zero]at g1;have qj:(af ids b.c).length=(m+1)*z:=by rw[cP,q3]
        have fp:Src P z tx (.slice (some ⟨ids.getD i 0,0,none⟩) (m+1) Eh) (m+1) (af ids b.c) w:=by
         refine Src.ofSlice w pJ ⟨ids.getD i 0,0,none⟩ (m+1) Eh _ qj (λj u hj=>?_) (λu hu=>ni q4 u hu);rw[Addr.add_lit,cell_of bD];simpa using hj
        have Ey:(af ids C++(af ids ac).drop (n*z)).length=cc*z:=by
         rw[<-g1,List.take_append_drop,cP,iQ]
        have NL:w.heap[ids.getD j 0]?=some (.cells (af ids C++(af ids ac).drop (n*z)).toArray Ta (0,0)):=by
         rw[<-g1,List.take_append_drop];exact aao
        have Bt:(n+(m+1))*eo<=140737488355328:=Nat.le_trans (Nat.mul_le_mul q6 q5) (by decide);have dd:∀(is:List Nat) (u:List Value),af is (C++(b.c++[.rest u]))=(af is C++af is b.c)++u:=λis u=>by
         rw[bj,bj];simp[af,cl]
        have sz:∀(is:List Nat) (u:List Value) (c':Nat),((af is C++af is b.c)++u).length=c'*z->eF (C++(b.c++[.rest u]))=c'*z:=λis u c' hh=>by
         rw[<-cP (ids:=is),dd,hh]
        obtain⟨HA,ar,tJ⟩:=c;simp only at eV bd jL;have e2:ar=#[s,xs]:=by rw[<-bd]
        have e3:tJ=#[t,tx]:=by rw[<-jL]
        subst eV e2 e3;have run:∀{v w'},(Builtin.append_ #[t,tx] o.type #[.slice (some ⟨ids.getD j 0,0,none⟩) n cc,.slice (some ⟨ids.getD i 0,0,none⟩) (m+1) Eh]).run P w=.ok v w'->(execOp ρ o).run P w=.ok (.value v) w':=λa_=>
         bN (P:=P) (ρ:=ρ) (o:=o) ho (by rw[cz,rJ];simp only[den]) (by rw[cz,pI];simp only[den]) a_
        rcases xu (P:=P) (ty:=o.type) g2 Ey q7 NL eo fp (Nat.succ_pos m) ht (lv aI) Bt (Nat.le_trans q6 (by decide))with⟨w',a_,hc,hh,jq⟩|⟨b',c',te,w',a_,hc,aez,hh,aeA,jq⟩
        ·refine⟨_,[],_,ch,w',.inl ?_,by simpa using hl,?_,Ef cc (((af ids ac).drop (n*z)).drop (af ids b.c).length) jq (sz ids _ _ ?_)⟩
         ·have:=run a_;simpa[den]using this
         ·simp only[List.append_nil];have ng:=S.step hj rfl hc hh;have Bp:j<(lits ids ids bl).length:=by rw[ik ids bl hl];rcases Nat.lt_or_ge j bl.length with h'|h';exact h';simp[h']at ha
          rw[<-il (ids:=ids) ids bl j _ hl,<-List.set_append_left _ _ Bp];simp only[aL,dd];exact ng
         ·rw[<-Ey];simp only[List.length_append,List.length_drop];have:(af ids C).length+(af ids b.c).length<=(af ids C++(af ids ac).drop (n*z)).length:=by
           rw[Ey,g2,qj,<-Nat.add_mul];exact Nat.mul_le_mul_right _ jq
          simp only[List.length_append,List.length_drop]at this;omega
        ·have NM:cG ids.length (C++(b.c++[.rest te]))=true:=by
          rw[hl];have JQ:∀(x y:List V),cG bl.length x=true->cG bl.length y=true->cG bl.length (x++y)=true:=by
           intro x y;induction x with
           |nil=>intro _ h;simpa using h
           |cons v x ih=>intro h1 h2;simp only[List.cons_append,cG,Bool.and_eq_true]at h1⊢;exact⟨h1.1,ih h1.2 h2⟩
          exact JQ _ _ q8 (JQ _ _ q9 rfl)
         refine⟨_,[b'],_,ch,w',.inl ?_,by simp[hl],?_,Z6 c' te jq (sz ids _ _ aeA)⟩
         ·have:=run a_;rw[this];simp only[den];rw[<-hl,cv]
         ·rw[aQ _ _ _ _ hl,aR _ _ (by rw[hl];exact q10)];simp only[lits,aL];rw[bY _ NM,dd];have:=S.new hc aez hh;refine this.perm ?_;rw[List.append_assoc (lits ids ids bl)];exact(List.perm_middle).symm
      ·exact h.elim
     ·exact h.elim
    ·exact h.elim
   ·exact h.elim
  ·exact h.elim
 ·exact h.elim
def Mx (P:Program) (gl:Nat->Option Nat) (L:List (dF G)):Ctx G:=⟨P,Mw L,gl,To L,Ur P,HG,λ_ _=>none⟩
theorem ah.TS {P:Program} {gl:Nat->Option Nat} {L:List (dF G)} (h:ah P gl L):∀f c,(Mx P gl L).T f=some c->Sound (Mx P gl L).P (Mx P gl L).gl f c:=h.T
theorem ah.QS {P:Program} {gl:Nat->Option Nat} {L:List (dF G)} (h:ah P gl L):gy (Mx P gl L):=h.Q
end Vx
namespace Vx
open Go Go.RowKit Go.BigFrame Sx
def zB (i:Nat):List Nat->Nat->Option Nat
 |[],_=>none
 |j::l,k=>bif Nat.beq j i then some k else zB i l (k+1)
def vbz:VB:=⟨false,⟨0,(0,0)⟩,[]⟩
mutual
def Us:V->List Nat
 |.ptr i _=>[i]
 |.sl i _ _ _=>[i]
 |.ij i _ _ _ _=>[i]
 |.pe i _ _ _ _=>[i]
 |.fn _ a b=>JR a++JR b
 |.BF _ v=>Us v
 |.agg l=>JR l
 |.aC l=>JR l
 |_=>[]
def JR:List V->List Nat
 |[]=>[]
 |v::l=>Us v++JR l
end
mutual
def rW (cZ:List Nat):V->Option V
 |.ptr i off=>match zB i cZ 0 with|some k=>some (.ptr k off)|none=>none
 |.sl i off n c=>match zB i cZ 0 with|some k=>some (.sl k off n c)|none=>none
 |.ij i off n c x=>match zB i cZ 0 with|some k=>some (.ij k off n c x)|none=>none
 |.pe i o j z q=>match zB i cZ 0 with|some k=>some (.pe k o j z q)|none=>none
 |.fn f a b=>match xw cZ a,xw cZ b with|some a',some b'=>some (.fn f a' b')|_,_=>none
 |.BF t v=>match rW cZ v with|some v'=>some (.BF t v')|none=>none
 |.agg l=>match xw cZ l with|some l'=>some (.agg l')|none=>none
 |.aC l=>match xw cZ l with|some l'=>some (.aC l')|none=>none
 |v=>some v
def xw (cZ:List Nat):List V->Option (List V)
 |[]=>some []
 |v::l=>match rW cZ v,xw cZ l with|some v',some l'=>some (v'::l')|_,_=>none
end
def Ut (bl:List VB) (cZ:List Nat):List Nat->Option (List VB)
 |[]=>some []
 |i::is=>match bl[i]?with
  |some b=>(match xw cZ b.c,Ut bl cZ is with
   |some c,some l=>some (⟨b.wr,b.ty,c⟩::l)
   |_,_=>none)
  |none=>none
def NN (cZ:List Nat):List Nat->List Nat
 |[]=>cZ
 |i::l=>match zB i cZ 0 with|some _=>NN cZ l|none=>NN (cZ++[i]) l
def gcN (bl:List VB):Nat->Nat->List Nat->List Nat
 |0,_,cZ=>cZ
 |n+1,k,cZ=>match cZ[k]?with
  |some i=>(match bl[i]?with
   |some b=>gcN bl n (k+1) (NN cZ (JR b.c))
   |none=>cZ)
  |none=>cZ
def mJ:Nat->List Nat
 |0=>[]
 |n+1=>mJ n++[n]
def gcR (n0:Nat) (v:V) (bl:List VB) (cZ:List Nat):Option (V×List VB):=bif rU cZ&&B9 (mJ n0) cZ then(match rW cZ v,Ut bl cZ cZ with|some v',some bl'=>some (v',bl')|_,_=>none)else none
where B9:List Nat->List Nat->Bool
 |[],_=>true
 |i::a,j::b=>Nat.beq i j&&B9 a b
 |_::_,[]=>false
def du {G:Type} (n0:Nat) (K:VK G):VK G:=λv bl ch=>match gcR n0 v bl (gcN bl bl.length 0 (NN (mJ n0) (Us v)))with
 |some (v',bl')=>K v' bl' ch
 |none=>False
theorem HH {i:Nat}:∀{l:List Nat} {k m:Nat},zB i l k=some m->k<=m/\l[m-k]?=some i
 |[],k,m,h=>by cases h
 |j::l,k,m,h=>by
  unfold zB at h;cases hb:Nat.beq j i with
  |true=>
   rw[hb]at h;obtain rfl:k=m:=by simpa using h
   exact⟨Nat.le_refl _,by simp[Nat.eq_of_beq_eq_true hb]⟩
  |false=>
   rw[hb]at h;obtain⟨h1,h2⟩:=HH (l:=l) h;refine⟨by omega,?_⟩;rw[show m-k=(m-(k+1))+1 by omega];simpa using h2
theorem t_ {ids cZ:List Nat} {i k:Nat} (h:zB i cZ 0=some k):(cZ.map λj=>ids.getD j 0).getD k 0=ids.getD i 0:=by
 have:=(HH h).2;simp only[Nat.sub_zero]at this;simp[List.getD,this]
mutual
theorem qk {ids cZ:List Nat}:∀(v:V) {v':V},rW cZ v=some v'->den (cZ.map λj=>ids.getD j 0) v'=den ids v
 |.ptr i off,v',h=>by
  simp only[rW]at h;split at h
  ·rename_i k hk;cases h;simp only[den,t_ hk]
  ·cases h
 |.sl i off n c,v',h=>by
  simp only[rW]at h;split at h
  ·rename_i k hk;cases h;simp only[den,t_ hk]
  ·cases h
 |.ij i off n c x,v',h=>by
  simp only[rW]at h;split at h
  ·rename_i k hk;cases h;simp only[den,t_ hk]
  ·cases h
 |.fn f a b,v',h=>by
  simp only[rW]at h;split at h
  ·rename_i a' b' ha hb;cases h;simp only[den,ny a ha,ny b hb]
  ·cases h
 |.BF t v,v',h=>by
  simp only[rW]at h;split at h
  ·rename_i u hu;cases h;simp only[den,qk v hu]
  ·cases h
 |.agg l,v',h=>by
  simp only[rW]at h;split at h
  ·rename_i u hu;cases h;simp only[den,rX l hu]
  ·cases h
 |.aC l,v',h=>by
  simp only[rW]at h;split at h
  ·rename_i u hu;cases h;simp only[den,ny l hu]
  ·cases h
 |.int _ _,v',h=>by cases h;simp[den]
 |.bool _,v',h=>by cases h;simp[den]
 |.dS _ _ _,v',h=>by cases h;simp[den]
 |.arr _ _ _,v',h=>by cases h;simp[den]
 |.jN _ _ _ _,v',h=>by cases h;simp[den]
 |.rest _,v',h=>by cases h;simp[den]
 |.fN _ _ _,v',h=>by cases h;simp[den]
 |.pe i o j z q,v',h=>by
  simp only[rW]at h;split at h
  ·rename_i k hk;cases h;simp only[den,t_ hk]
  ·cases h
 |.raw _,v',h=>by cases h;simp[den]
theorem ny {ids cZ:List Nat}:∀(l:List V) {l':List V},xw cZ l=some l'->aq (cZ.map λj=>ids.getD j 0) l'=aq ids l
 |[],l',h=>by cases h;rfl
 |v::l,l',h=>by
  simp only[xw]at h;split at h
  ·rename_i v1 l1 hv hl;cases h;simp only[aq,qk v hv,ny l hl]
  ·cases h
theorem rX {ids cZ:List Nat}:∀(l:List V) {l':List V},xw cZ l=some l'->af (cZ.map λj=>ids.getD j 0) l'=af ids l
 |[],l',h=>by cases h;rfl
 |v::l,l',h=>by
  simp only[xw]at h;split at h
  ·rename_i v1 l1 hv hl;cases h;simp only[af,qk v hv,rX l hl];congr 1;cases v<;>simp only[rW]at hv<;>(try split at hv)<;>first|(cases hv;rfl)|(cases hv;done)
  ·cases h
end
theorem HI {ids cZ:List Nat} {bl:List VB} (hl:ids.length=bl.length):∀(is:List Nat) {bl':List VB},Ut bl cZ is=some bl'->(is.map λj=>ids.getD j 0).length=bl'.length/\
 lits (cZ.map λj=>ids.getD j 0) (is.map λj=>ids.getD j 0) bl'=(is.map λj=>aL ids (ids.getD j 0) (bl.getD j vbz))/\∀j∈is,j<bl.length
 |[],bl',h=>by cases h;simp[lits]
 |i::is,bl',h=>by
  unfold Ut at h;split at h
  ·rename_i b hb;split at h
   ·rename_i c l hc hL;cases h;obtain⟨h1,h2,h3⟩:=HI hl is hL;have f_:i<bl.length:=by rcases Nat.lt_or_ge i bl.length with h'|h';exact h';simp[h']at hb
    refine⟨by simpa using h1,?_,?_⟩
    ·simp only[List.map_cons,lits,h2];congr 1;simp only[aL,rX _ hc];simp[List.getD,hb]
    ·intro j hj;rcases List.mem_cons.1 hj with rfl|hj
     ·exact f_
     ·exact h3 j hj
   ·cases h
  ·cases h
theorem xZ (ids:List Nat):∀(is:List Nat) (bl:List VB),is.length=bl.length->lits ids is bl=(List.range bl.length).map λj=>aL ids (is.getD j 0) (bl.getD j vbz)
 |[],[],_=>rfl
 |i::is,b::bl,h=>by
  rw[List.length_cons,List.range_succ_eq_map,List.map_cons,List.map_map];simp only[lits];rw[xZ ids is bl (by simpa using h)];rfl
theorem B_:∀{a b:List Nat},gcR.B9 a b=true->∃c,b=a++c
 |[],b,_=>⟨b,rfl⟩
 |i::a,j::b,h=>by
  simp only[gcR.B9,Bool.and_eq_true]at h;obtain⟨c,rfl⟩:=B_ h.2;exact⟨c,by simp[Nat.eq_of_beq_eq_true h.1]⟩
 |_::_,[],h=>by cases h
theorem vd (ids:List Nat):∀n,n<=ids.length->(mJ n).map (λj=>ids.getD j 0)=ids.take n
 |0,_=>by simp[mJ]
 |n+1,h=>by
  simp only[mJ,List.map_append,List.map_cons,List.map_nil,vd ids n (by omega)];rw[List.take_add_one];congr 1;have:n<ids.length:=by omega
  simp[List.getD,List.getElem?_eq_getElem this]
theorem dr {G:Type} {n0:Nat} {K:VK G} {v:V} {bl:List VB} {ch:List G} {ids:List Nat} {X:List ax} {ms:List Nat} {w0 w:World} (hl:ids.length=bl.length) (hn:n0<=ids.length) (S:St ms w0 (lits ids ids bl++X) w) (h:du n0 K v bl ch):
 ∃v' more bl',den ids v=den (ids.take n0++more) v'/\(ids.take n0++more).length=bl'.length/\St ms w0 (lits (ids.take n0++more) (ids.take n0++more) bl'++X) w/\K v' bl' ch:=by
 unfold du at h;generalize gcN bl bl.length 0 (NN (mJ n0) (Us v))=cZ at h;unfold gcR at h;cases hq:rU cZ&&gcR.B9 (mJ n0) cZ with
 |false=>rw[hq]at h;exact h.elim
 |true=>
  rw[hq]at h;simp only[cond_true]at h;simp only[Bool.and_eq_true]at hq;have Tn:=oN hq.1;obtain⟨c,hc⟩:=B_ hq.2;split at h
  ·rename_i v' bl' hv;split at hv
   ·rename_i v1 xf Te Bt;cases hv;obtain⟨h1,h2,h3⟩:=HI hl cZ Bt;have e:cZ.map (λj=>ids.getD j 0)=ids.take n0++c.map λj=>ids.getD j 0:=by
     rw[hc,List.map_append,vd ids n0 hn]
    refine⟨_,c.map λj=>ids.getD j 0,_,?_,?_,?_,h⟩
    ·rw[<-e];exact(qk v Te).symm
    ·rw[<-e];exact h1
    ·rw[<-e,h2];obtain⟨r,hr⟩:=my cZ (List.range bl.length) Tn (λx hx=>List.mem_range.2 (h3 x hx));rw[xZ ids ids bl hl]at S;have S1:=S.perm ((hr.map _).append_right X);rw[List.map_append]at S1;exact S1.sub (List.Sublist.append_right (List.sublist_append_left _ _) _)
   ·cases hv
  ·exact h.elim
theorem EP {P:Program} {w:World} {b:Nat} {kd:IntKind} {l:List (Int×Value)} {kv:Int} {vv:Value} {mt kt et:TypeId} (hu:P.underlying mt=some (.map kt et)) (hk:P.underlying kt=some (.int kd)) (bD:w.heap[b]?=some (nQ kd l)) (hn:l.all (λx=>x.1!=kv)=true):
 (Instr.mapUpdate mt (.map (some b)) (.int kd kv) vv).run P w=.ok () {w with heap:=w.heap.setIfInBounds b (nQ kd (l++[(kv,vv)]))}:=by
 have tK:w.heap[b]?=some (.map ((l.zipIdx.map λx=>(⟨.int kd x.1.1,x.1.2,x.2⟩:MapEntry)).toArray) l.length):=bD;have hf:Instr.findNow (.int kd) (.int kd kv) ((l.zipIdx.map λx=>(⟨.int kd x.1.1,x.1.2,x.2⟩:MapEntry)).toArray).toList 0=some none:=uN kd kv _ 0 (M4 hn);have hc:(Instr.checkKey false 10000 kt (.int kd kv)).run P w=.ok () w:=MapKept.run_checkKey (k:=.int kd kv) hk (by simp[MapKept.IsKey]) false 9999;have aeB:(Instr.mapUpdate mt (.map (some b)) (.int kd kv) vv).run P w=.ok () {w with heap:=w.heap.setIfInBounds b (Obj.map (((l.zipIdx.map λx=>(⟨.int kd x.1.1,x.1.2,x.2⟩:MapEntry)).toArray).push ⟨.int kd kv,vv,l.length⟩) (l.length+1))}:=by
  generalize ((l.zipIdx.map λx=>(⟨.int kd x.1.1,x.1.2,x.2⟩:MapEntry)).toArray)=es at*;simp[Instr.mapUpdate,run_underlying hu,MapKept.run_getObj_map tK,hc,MapKept.run_findKey hk hf,MapKept.run_setObj_map _ tK,Result.andThen]
 rw[aeB,Jv]
theorem ER {P:Program} {w:World} {b:Nat} {kd:IntKind} {l:List (Int×Value)} {kv:Int} {v:Value} {mt kt et:TypeId} (hu:P.underlying mt=some (.map kt et)) (hk:P.underlying kt=some (.int kd)) (bD:w.heap[b]?=some (nQ kd l))
 (hn:∃j,Instr.findNow (.int kd) (.int kd kv) ((l.zipIdx.map λx=>(⟨.int kd x.1.1,x.1.2,x.2⟩:MapEntry)).toArray).toList 0=some (some (j,v))):(Instr.lookup mt (.map (some b)) (.int kd kv) true).run P w=.ok (.tuple #[v,.bool true]) w:=by
 obtain⟨j,hf⟩:=hn;have tK:w.heap[b]?=some (.map ((l.zipIdx.map λx=>(⟨.int kd x.1.1,x.1.2,x.2⟩:MapEntry)).toArray) l.length):=bD;have hc:∀e,(Instr.checkKey e 10000 kt (.int kd kv)).run P w=.ok () w:=λe=>MapKept.run_checkKey (k:=.int kd kv) hk (by simp[MapKept.IsKey]) e 9999;simp[Instr.lookup,run_underlying hu,MapKept.run_getObj_map tK,hc,MapKept.run_findKey hk hf,Result.andThen]
structure Ca where
 id:Nat
 tb:List (Int×Value)
instance:Bl Ca:=⟨λg=>[⟨g.id,true,nQ .i64 g.tb⟩]⟩
def aap (P:Program):(Operand->V)->Op->List VB->List Ca->VK Ca->Prop:=λe op bl ch K=>match op with
 |.makeMap t none=>(match ch with
  |[]=>∀id,K (.raw (.map (some id))) bl [⟨id,[]⟩]
  |_=>False)
 |.insert mt m k x=>(match ch,e m,e k with
  |[g],.raw mv,.int .i64 kv=>(match P.underlying mt with
   |some (.map kt _)=>(match P.underlying kt with
    |some (.int .i64)=>cond (g.tb.all (λx=>x.1!=kv)&&fu 0 (e x)) (mv=.map (some g.id)/\K cD bl [⟨g.id,g.tb++[(kv,den [] (e x))]⟩]) False
    |_=>False)
   |_=>False)
  |_,_,_=>False)
 |_=>False
theorem Uu {P:Program} {gl:Nat->Option Nat}:rR P gl (aap P):=by
 intro e op ids bl ch R ms w0 w K ρ o hg hl S cz ho h;unfold aap at h;split at h
 ·rename_i t;split at h
  ·refine⟨_,[],bl,_,w.alloc (.map #[] 0),.inl ?_,by simpa using hl,?_,h w.heap.size⟩
   ·unfold execOp;simp[ho,run_makeMap,Result.andThen,den]
   ·have:=S.new (Ch.alloc [] w (.map #[] 0)) (Nat.le_refl _) (heap_alloc_new w _);rw[List.append_nil];refine this.perm ?_;exact List.perm_middle.symm
  ·exact h.elim
 ·rename_i mt m k x;split at h
  ·rename_i g mv kv hm hk;split at h
   ·rename_i kt et hu;split at h
    ·rename_i hkt;cases hq:g.tb.all (λx=>x.1!=kv)&&fu 0 (e x)with
     |false=>rw[hq]at h;exact h.elim
     |true=>
      rw[hq]at h;simp only[cond_true]at h;simp only[Bool.and_eq_true]at hq;obtain⟨rfl,hK⟩:=h;have e0:lits ids ids bl++ag [g] R=lits ids ids bl++(⟨g.id,true,nQ .i64 g.tb⟩::R):=rfl;rw[e0]at S;have bD:=S.at' (x:=⟨g.id,true,nQ .i64 g.tb⟩) (by simp);have hx:den ids (e x)=den [] (e x):=by have:=bx (ids:=[]) (more:=ids) (e x) hq.2;simpa using this
      have a_:=EP (P:=P) (vv:=den ids (e x)) hu hkt bD hq.1;refine⟨cD,[],bl,_,{w with heap:=w.heap.setIfInBounds g.id (nQ .i64 (g.tb++[(kv,den ids (e x))]))},.inr ⟨?_,rfl⟩,by simpa using hl,?_,hK⟩
      ·unfold execOp;simp only[ho,cz,hm,hk,den]at a_⊢;simp only[Sem.run_bind,a_,Result.andThen_ok];rfl
      ·rw[List.append_nil,<-hx];have hi:(lits ids ids bl++(⟨g.id,true,nQ .i64 g.tb⟩::R))[(lits ids ids bl).length]?=some ⟨g.id,true,nQ .i64 g.tb⟩:=by simp
       have:=S.step hi rfl (Ch.aek w g.id (nQ .i64 (g.tb++[(kv,den ids (e x))]))) (MapKept.heap_set bD).1;rw[List.set_append_right _ _ (Nat.le_refl _),Nat.sub_self]at this;exact this
    ·exact h.elim
   ·exact h.elim
  ·exact h.elim
 ·exact h.elim
def aaq (P:Program) (gl:Nat->Option Nat) (L:List (dF Ca)):Ctx Ca:=⟨P,Mw L,gl,To L,aap P,Uu,λ_ _=>none⟩
def nz {G:Type} [Bl G] (P:Program) (gl:Nat->Option Nat) (L:List (dF G)) (h:(Operand->V)->Op->List VB->List G->VK G->Prop) (hok:rR P gl h):Ctx G:=⟨P,Mw L,gl,To L,h,hok,λ_ _=>none⟩
theorem Sound.gl {G:Type} [Bl G] {P:Program} {gl gl':Nat->Option Nat} {f:Nat} {c:gZ G} (h:Sound P gl f c) (hg:∀ids,Gl gl' ids->Gl gl ids):Sound P gl' f c:=
 λargs ids bl ch R ms w0 w K h1 h2 S hc=>h args ids bl ch R ms w0 w K (hg ids h1) h2 S hc
inductive Sm (G:Type) where
 |g (x:G)
 |m (x:Ca)
instance{G:Type} [Bl G]:Bl (Sm G):=⟨λx=>match x with|.g x=>Bl.B x|.m x=>Bl.B x⟩
def gs {G:Type}:List G->List (Sm G)
 |[]=>[]
 |x::l=>.g x::gs l
theorem HJ {G:Type} [Bl G] (R:List ax):∀(l:List G) (r:List (Sm G)),ag (gs l++r) R=ag l (ag r R)
 |[],r=>rfl
 |x::l,r=>by
  simp only[gs,List.cons_append,ag,HJ R l r];rfl
def Cb {G:Type} (c:gZ G):gZ (Sm G):=λargs bl ch K=>match ch with
 |.g x::rest=>c args bl [x] λv bl' ch'=>K v bl' (gs ch'++rest)
 |_=>False
theorem ES {G:Type} [Bl G] {P:Program} {gl:Nat->Option Nat} {f:Nat} {c:gZ G} (h:Sound P gl f c):Sound P gl f (Cb c):=by
 intro args ids bl ch R ms w0 w K hg hl S hc;unfold Cb at hc;split at hc
 ·rename_i x rest;have e:ag (.g x::rest:List (Sm G)) R=ag [x] (ag rest R):=rfl;rw[e]at S;refine(h args ids bl [x] (ag rest R) ms w0 w _ hg hl S hc).mono ?_;rintro v w' ⟨y,more,bl',ch',rfl,h1,S1,hK⟩;exact⟨y,more,bl',_,rfl,h1,by rw[HJ];exact S1,hK⟩
 ·exact hc.elim
theorem ET {G:Type} {c:gZ G} (h:dU c):dU (Cb c):=by
 intro args bl ch K hc;unfold Cb at hc⊢;split at hc
 ·exact h _ _ _ _ hc
 ·exact hc.elim
def NO {G:Type}:List (dF G)->List (dF (Sm G))
 |[]=>[]
 |e::l=>⟨e.f,e.q,Cb e.c⟩::NO l
theorem Cc {G:Type} [Bl G] {P:Program} {gl gl':Nat->Option Nat} (hg:∀ids,Gl gl' ids->Gl gl ids):∀{L:List (dF G)},ah P gl L->ah P gl' (NO L)
 |[],_=>ah.nil
 |e::l,h=>ah.cons ⟨ES ((h e (by simp)).1.gl hg),λhq=>ET ((h e (by simp)).2 hq)⟩ (Cc hg λx hx=>h x (by simp[hx]))
end Vx
