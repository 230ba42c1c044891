/- Part 7 of the proof. -/
import Derived.Test.YtlkpikfddnjilaaGreatDoorE6
set_option linter.all false
set_option maxRecDepth 100000
set_option maxHeartbeats 4000000
namespace Vx
open Go Go.RowKit Go.BigFrame Sx
variable{G:Type} [Bl G]
abbrev Rx (G:Type):=Exit->List V->List VB->List G->Prop
abbrev xA (G:Type):=Code->List V->List VB->List G->Rx G->Prop
def yS (P:Program) (fr:List V) (bl:List VB):List ResultVar->Option (List V)
 |[]=>some []
 |.tmp t::l=>(match yS P fr bl l with|some r=>some (nth fr t::r)|none=>none)
 |.cell a t::l=>(match Rq P bl t (nth fr a),yS P fr bl l with|some v,some r=>some (v::r)|_,_=>none)
def Bt:List V->V
 |[v]=>v
 |l=>.aI l
def Mp (P:Program) (fn:Func) (K:VK G):Rx G:=λe fr bl ch=>match e with
 |.normal=>(match yS P fr bl fn.results.toList with|some vs=>K (Bt vs) bl ch|none=>False)
 |.ret=>(match yS P fr bl fn.results.toList with|some vs=>K (Bt vs) bl ch|none=>False)
 |_=>False
def Ec:Nat->List V
 |0=>[]
 |n+1=>cG::Ec n
def xB (C:Ctx G) (rec:xA G):gv G:=λf args bl ch K=>match C.T f with
 |some c=>c args bl ch K
 |none=>match C.P.funcs[f]?with
  |some fn=>(match fn.body with
   |some c=>rec c (args++Ec (fn.ntmps-args.length)) bl ch (Mp C.P fn K)
   |none=>False)
  |none=>False
def acE (C:Ctx G) (call:gv G) (l1 l2:List Oper) (Rv ts1 Rw ts2:List Nat) (i j:Nat) (fr:List V) (bl:List VB) (ch:List G) (k:wQ G):Prop:=
 cond (okS C l1 Rv ts1 i fr.length&&(okS C l2 Rw ts2 j fr.length&&(!(Nat.beq i j)&&cK bl.length fr))) (tf C call l1.toArray (Rt l1 ts1) fr bl ch k/\tf C call l2.toArray (Rt l2 ts2) fr bl ch k) False
def acF (C:Ctx G) (call:gv G) (l1 l2:List Oper) (Rv Rw:List Nat) (i j:Nat) (fr:List V) (bl:List VB) (ch:List G) (k:wQ G):Prop:=acE C call l1 l2 Rv (nu l1 Rv) Rw (nu l2 Rw) i j fr bl ch k
def vcS (C:Ctx G) (call:gv G) (l:List Oper) (pm ts:List Nat) (fr:List V) (bl:List VB) (ch:List G) (k:wQ G):Prop:=match oG l ts with
 |some (i,r)=>(match oG l r with
  |some (j,_)=>acF C call (eL l i j) (eL l j i) (uC (eL l i j) [] pm) (uC (eL l j i) [] pm) i j fr bl ch k
  |none=>False)
 |none=>False
def acG (C:Ctx G) (call:gv G) (l:List Oper) (pm ts:List Nat) (fr:List V) (bl:List VB) (ch:List G) (k:wQ G):Prop:=
 cond (uB C C.q l pm ts fr.length&&cK bl.length fr) (tf C call l.toArray (Rt l ts) fr bl ch k) (vcS C call l pm ts fr bl ch k)
def vcD (C:Ctx G) (call:gv G) (l:List Oper) (pm:List Nat) (fr:List V) (bl:List VB) (ch:List G) (k:wQ G):Prop:=acG C call l pm (nu l pm) fr bl ch k
def acH (k:wQ G) (K:Rx G):Rx G:=λe fr bl ch=>match e with
 |.normal=>k fr bl ch
 |e=>K e fr bl ch
def Mq (id:Nat) (K:Rx G):Rx G:=λe fr bl ch=>match e with
 |.exit j=>cond (Nat.beq j id) (K .normal fr bl ch) (K (.exit j) fr bl ch)
 |e=>K e fr bl ch
def lpB:Code->Option Code
 |.loop c=>some c
 |_=>none
def lpK (I:Lp G) (x:I.X) (K:Rx G):Rx G:=λe fr bl ch=>match e with
 |.normal=>I.en x fr bl ch
 |e=>K e fr bl ch
def GP (C:Ctx G) (rec:xA G):xA G:=λc fr bl ch K=>match c with
 |.skip=>K .normal fr bl ch
 |.seq a b=>rec a fr bl ch (acH (λfr bl ch=>rec b fr bl ch K) K)
 |.cond x t f=>(match x with
  |.tmp i=>(match nth fr i with
   |.bool b=>cond b (rec t (jT fr i (.bool true)) bl ch K) (rec f (jT fr i (.bool false)) bl ch K)
   |_=>False)
  |.const (.bool b)=>cond b (rec t fr bl ch K) (rec f fr bl ch K)
  |_=>False)
 |.block id b=>(match C.lp id fr with
  |some I=>(match lpB b with
   |some c=>I.en0 fr bl ch/\∀(x:I.X) (g:Nat->Value),rec c (fill (I.fr x) g 0) (I.bl x) (I.ch x) (lpK I x (Mq id K))
   |none=>rec b fr bl ch (Mq id K))
  |none=>rec b fr bl ch (Mq id K))
 |.loop b=>rec b fr bl ch (acH (λfr bl ch=>rec (.loop b) fr bl ch K) K)
 |.exit id=>K (.exit id) fr bl ch
 |.ret=>K .ret fr bl ch
 |.region _ ops false=>tf C (xB C rec) ops ops.toList fr bl ch λfr bl ch=>K .normal fr bl ch
 |.region _ ops true=>vcD C (xB C rec) ops.toList (GJ ops.toList []) fr bl ch λfr bl ch=>K .normal fr bl ch
 |_=>False
def vcC (C:Ctx G) (n:Nat):xA G:=Nat.rec (motive:=λ_=>xA G) (λ_ _ _ _ _=>False) (λ_ ih=>GP C ih) n
def c_ (C:Ctx G) (n f:Nat) (args:List V) (bl:List VB) (ch:List G) (K:VK G):Prop:=match C.P.funcs[f]?with
 |some fn=>(match fn.body with
  |some c=>vcC C n c (args++Ec (fn.ntmps-args.length)) bl ch (Mp C.P fn K)
  |none=>False)
 |none=>False
section
variable{C:Ctx G} {call:gv G}
theorem Sw {n:Nat} {ts:List Nat} (h1:ts.length=n) (h2:∀i∈ts,i<n) (h3:ts.Nodup):∀i,i<n->i∈ts:=by
 intro i hi;obtain⟨r,hr⟩:=mI ts (List.range n) h3 (λx hx=>List.mem_range.2 (h2 x hx));have hlen:=hr.length_eq;simp[h1]at hlen;subst hlen;have hs:(List.range n).Perm ts:=by simpa using hr
 exact hs.mem_iff.1 (List.mem_range.2 hi)
theorem DI.start {l:List Oper} {pm ts:List Nat} {R:List aC} {ms:List Nat} {w0 w:World} {k:wQ G} {ids:List Nat} {bl:List VB} {ch:List G} {fr:List V}
 (hg:Gl C.gl ids) (hl:ids.length=bl.length) (S:St ms w0 (lits ids ids bl++ak ch R) w) (hd:uB C C.q l pm ts fr.length=true) (hwf:cK bl.length fr=true) (h:tf C call l.toArray (Rt l ts) fr bl ch k):
 (DI C call C.q l pm R ms w0 k fr ids [] ts fr ids bl ch [] (Array.replicate l.length false) (act ids fr) {w with drawn:=w.drawn+1}/\wR l pm=true/\j_ l l.length=true)/\C.P.follows .mixedOrders=true:=by
 unfold uB GL at hd;simp only[Bool.and_eq_true]at hd;obtain⟨⟨⟨⟨⟨⟨⟨⟨⟨d1,d2⟩,d3⟩,d4⟩,d5⟩,d6⟩,d7⟩,d8⟩,d10⟩,d9⟩:=hd;have hlen:=Nat.eq_of_beq_eq_true d4;have YE:∀i∈ts,i<l.length:=λi hi=>by have:=List.all_eq_true.1 d5 i hi;rwa [Nat.blt_eq]at this
 have Ry:=oH d6;have hff:∀j,j<l.length->(Array.replicate l.length false)[j]?=some false:=λj hj=>by simp[Array.getElem?_replicate];exact hj
 have hft:∀(j:Nat),(Array.replicate l.length false)[j]?=some true->False:=λj hj=>by
  rw[Array.getElem?_replicate]at hj;split at hj<;>simp at hj
 have S':St ms w0 (lits ids ids bl++ak ch R) {w with drawn:=w.drawn+1}:=S.quiet (Ch.refl [] w).drew;exact⟨⟨{gw:=d7,Sj:=d8,Be:=λi hi=>Sw hlen YE Ry i hi,Bg:=YE,nd:=Ry,oI:=d9,Sk:=λi hi=>(by have:=List.all_eq_true.1 d10 i hi;simpa using this),ls:=(by simp),KO:=λi hi=>(nomatch hi),mj:=λi hi _=>hff i (YE i hi),back:=λj hj=>(hft j hj).elim,vc:=h,sz:=(by simp[act,j7]),df:=rfl,slot:=λt _ _=>yN t,old:=λi hi=>(nomatch hi),uF:=λt _=>rfl,recs:=λi hi=>(nomatch hi),KR:=λi hi hj=>(hft i hj).elim,nO:=λp hp=>(nomatch hp),znd:=List.nodup_nil,S:=(by simpa using S'),hl:=hl,gl:=hg,Yy:=(by rw[hl];exact hwf),idp:=⟨[],by simp⟩},d1,d2⟩,d3⟩
theorem nB {l:List Oper} {pm:List Nat} {q:Nat->Bool} {i:Nat} {r:List Nat}:∀{ts:List Nat},eF (lN q l pm) ts=true->oG l ts=some (i,r)->i∈ts/\xw (aJ l i)=true/\∀x∈ts,xw (aJ l x)=true->x=i\/lN q l pm i x=true
 |[],_,h=>by cases h
 |y::ts,hp,h=>by
  simp only[eF,Bool.and_eq_true,List.all_eq_true]at hp;unfold oG at h;cases hX:xw (aJ l y)with
  |true=>
   rw[hX]at h;obtain⟨rfl,rfl⟩:y=i/\ts=r:=by simpa using h
   exact⟨by simp,hX,λx hx _=>by rcases List.mem_cons.1 hx with e|hx;exact .inl e;exact .inr (hp.1 x hx)⟩
  |false=>
   rw[hX]at h;obtain⟨h1,h2,h3⟩:=nB hp.2 h;exact⟨List.mem_cons_of_mem _ h1,h2,λx hx YF=>by
    rcases List.mem_cons.1 hx with rfl|hx
    ·rw[hX]at YF;cases YF
    ·exact h3 x hx YF⟩
theorem DI.head {q:Nat->Bool} {l:List Oper} {pm ts bV rest:List Nat} {R:List aC} {ms:List Nat} {w0 w:World} {k:wQ G} {jf fr:List V} {dZ ids:List Nat} {bl:List VB} {ch:List G} {Z:List (Nat×aC)} {a:Act} {n i:Nat} {r:List Nat}
 (D:DI C call q l pm R ms w0 k jf dZ bV rest fr ids bl ch Z (Array.replicate n false) a w) (hA:(l.all λo=>!(n_ o))=true) (hh:rest=[]\/∃i s,rest=i::s/\wF (aJ l i)=false) (hp:eF (lN q l pm) ts=true) (nj:∀x,x<l.length->x∈ts) (hX:oG l ts=some (i,r)) (hi:i<l.length):
 ∃s,rest=i::s/\wF (aJ l i)=false:=by
 obtain⟨_,h2,h3⟩:=nB hp hX;have hm:i∈rest:=by
  rcases List.mem_append.1 (D.Be i hi)with h|h
  ·have:=D.KO i h (by rcases gG (aJ l i)with e|e|e<;>simp_all);rw[Array.getElem?_replicate]at this;split at this<;>simp at this
  ·exact h
 rcases hh with rfl|⟨x,s,rfl,hf⟩
 ·cases hm
 ·have hx:xw (aJ l x)=true:=by have:=lP hA x;rcases gG (aJ l x)with e|e|e<;>simp_all
  rcases List.mem_cons.1 hm with rfl|hm
  ·exact⟨s,rfl,hf⟩
  ·exfalso;have RQ:x<l.length:=D.Bg x (by simp);have Mo:=(gk D.gw).2.2;simp only[eF,Bool.and_eq_true,List.all_eq_true]at Mo;have hb:=(mN (Mo.1 i hm)).xj hx (lP hA i);rcases h3 x (nj x RQ) hx with rfl|h
   ·have Ry:=D.nd;have:=(List.nodup_append.1 Ry).2.1;exact(List.nodup_cons.1 this).1 hm
   ·have:=(mN h).nb;rw[hb]at this;cases this
theorem YG (hc:rI C.P C.gl call) (Yz:uK C.q call) {id:Nat} {ops:Array Oper} {R:List aC} {ms:List Nat} {w0 w:World} {Q:Exit->Act->World->Prop} {k:wQ G} {ids:List Nat} {bl:List VB} {ch:List G} {fr:List V}
 (hg:Gl C.gl ids) (hl:ids.length=bl.length) (S:St ms w0 (lits ids ids bl++ak ch R) w) (h:vcD C call ops.toList (GJ ops.toList []) fr bl ch k)
 (hk:∀fr' more bl' ch' w',(ids++more).length=bl'.length->St ms w0 (lits (ids++more) (ids++more) bl'++ak ch' R) w'->k fr' bl' ch'->Q .normal (act (ids++more) fr') w'):
 (Code.region id ops true).wp C.P Q (act ids fr) w:=by
 unfold vcD acG at h;generalize Sa:ops.toList=l at h;generalize GJ l []=pm at h;generalize nu l pm=ts at h;have af5:ops=l.toArray:=by rw[<-Sa]
 subst af5;cases hd:uB C C.q l pm ts fr.length&&cK bl.length fr with
 |true=>
  rw[hd]at h;simp only[Bool.and_eq_true]at hd;obtain⟨⟨D,d1,d2⟩,d3⟩:=DI.start hg hl S hd.1 hd.2 h;refine wp_region_any d3 ?_;obtain⟨bV,r,fr',D',hh⟩:=D.mQ ts;exact kQ hc Yz d1 d2 hk _ D' hh (by simp[List.count_replicate_self])
 |false=>
  rw[hd]at h;simp only[cond_false]at h;unfold vcS at h;split at h
  ·rename_i i r1 YB;split at h
   ·rename_i j r2 YC;unfold acF acE at h;generalize uC (eL l i j) [] pm=Rv at h;generalize uC (eL l j i) [] pm=Rw at h;generalize nu (eL l i j) Rv=ts1 at h;generalize nu (eL l j i) Rw=ts2 at h;cases hq:okS C (eL l i j) Rv ts1 i fr.length&&(okS C (eL l j i) Rw ts2 j fr.length&&(!(Nat.beq i j)&&cK bl.length fr))with
    |false=>rw[hq]at h;exact h.elim
    |true=>
     rw[hq]at h;simp only[Bool.and_eq_true,Bool.not_eq_true']at hq;obtain⟨q1,q2,q3,q4⟩:=hq;have KE:i≠j:=λe=>by rw[e,Nat.beq_refl]at q3;cases q3
     unfold okS at q1 q2;simp only[Bool.and_eq_true]at q1 q2;obtain⟨⟨a1,a2⟩,a3⟩:=q1;obtain⟨⟨c1,c2⟩,c3⟩:=q2;obtain⟨⟨D1,d1,d2⟩,d3⟩:=DI.start hg hl S a1 q4 h.1;obtain⟨⟨D2,e1,e2⟩,_⟩:=DI.start hg hl S c1 q4 h.2;rw[pZ]at D1 D2;split at a3
     ·rename_i x1 y1 g1;obtain rfl:=Nat.eq_of_beq_eq_true a3;split at c3
      ·rename_i x2 y2 g2;obtain rfl:=Nat.eq_of_beq_eq_true c3;obtain⟨ab1,rs1,f1,D1',h1⟩:=D1.mQ ts1;obtain⟨ab2,rs2,f2,YD,h2⟩:=D2.mQ ts2;have p1:=nB D1.gw g1;have p2:=nB D2.gw g2;obtain⟨s1,rfl,hn1⟩:=D1'.head a2 h1 D1.gw (λx hx=>by simpa using D1.Be x hx) g1 (D1.Bg _ (by simpa using p1.1));obtain⟨s2,rfl,hn2⟩:=YD.head c2 h2 D2.gw (λx hx=>by simpa using D2.Be x hx) g2 (D2.Bg _ (by simpa using p2.1));refine wp_region_any d3 ?_;exact IT hc Yz KE d1 d2 e1 e2 a2 c2 hk _ D1' hn1 YD hn2 (by simp[List.count_replicate_self])
      ·cases c3
     ·cases a3
   ·exact h.elim
  ·exact h.elim
def ia (C:Ctx G):Prop:=∀f,C.q f=true->∃c,C.T f=some c/\∀args bl ch K,c args bl ch K->c args bl ch λv bl' ch'=>K v bl' ch'/\∃e,bl'=bl++e
theorem Bu (hQ:ia C) {rec:xA G}:uK C.q (xB C rec):=by
 intro f hf args bl ch K h;obtain⟨c,hc,hq⟩:=hQ f hf;unfold xB at h⊢;rw[hc]at h⊢;exact hq args bl ch K h
theorem IV {ids:List Nat} (n:Nat):az ids (Ec n)=List.replicate n undef:=by
 induction n with
 |zero=>rfl
 |succ n ih=>simp[Ec,az,ih,List.replicate_succ,cG,den]
theorem IW {ids:List Nat} (a b:List V):az ids (a++b)=az ids a++az ids b:=by simp[j7]
theorem yT {P:Program} {ids:List Nat} {fr:List V} {bl:List VB} {R:List aC} {ms:List Nat} {w0 w:World} (hl:ids.length=bl.length) (S:St ms w0 (lits ids ids bl++R) w):
 ∀(rs:List ResultVar) {vs:List V},yS P fr bl rs=some vs->yj P w (az ids fr).toArray rs (az ids vs)
 |[],vs,h=>by simp only[yS,Option.some.injEq]at h;subst h;exact trivial
 |.tmp t::l,vs,h=>by
  simp only[yS]at h;split at h
  ·rename_i r hr;simp only[Option.some.injEq]at h;subst h;refine⟨?_,yT hl S l hr⟩;simp only[mA,<-lL];rfl
  ·cases h
 |.cell a t::l,vs,h=>by
  simp only[yS]at h;split at h
  ·rename_i v r hv hr;simp only[Option.some.injEq]at h;subst h;refine⟨?_,yT hl S l hr⟩;have h1:=yL (P:=P) hl S hv;have h2:∃x,den ids (nth fr a)=.pointer (some x):=by
    unfold Rq at hv;split at hv
    ·rename_i i off hx;exact⟨⟨ids.getD i 0,off,none⟩,by rw[hx];simp only[den]⟩
    ·cases hv
   obtain⟨x,hx⟩:=h2;rw[hx]at h1;simp only[Instr.loadAt,Instr.sureAddr,Sem.run_bind,Sem.run_pure,Result.andThen_ok]at h1;simp only[mA,<-lL,hx,asAddr,Sem.run_bind,Sem.run_pure,Result.andThen_ok,h1]
  ·cases h
theorem Mr {ids:List Nat} (vs:List V):yk (az ids vs)=den ids (Bt vs):=by
 match vs with
 |[]=>rfl
 |[v]=>rfl
 |_::_::_=>simp[az,yk,Bt,den]
theorem Sz {P:Program} {fn:Func} {K:VK G} {e:Exit} {fr:List V} {bl:List VB} {ch:List G} {ids:List Nat} {R:List aC} {ms:List Nat} {w0 w:World} (hl:ids.length=bl.length) (S:St ms w0 (lits ids ids bl++R) w)
 (h:Mp P fn K e fr bl ch) {R':Value->World->Prop} (hk:∀x,K x bl ch->R' (den ids x) w):bodyPost P fn (λe w'=>∃v,e=.returned v/\R' v w') e (act ids fr) w:=by
 have main:(match yS P fr bl fn.results.toList with|some vs=>K (Bt vs) bl ch|none=>False)->∃v,(results fn (act ids fr).tmps).run P w=.ok v w/\R' v w:=by
  intro h;split at h
  ·rename_i vs hvs;exact⟨_,cZ (fn:=fn) fn.results.toList _ _ (yT hl S _ hvs) (by simp) (Mr vs),hk _ h⟩
  ·exact h.elim
 unfold Mp at h;split at h
 ·obtain⟨v,h1,h2⟩:=main h;exact⟨rfl,v,h1,v,rfl,h2⟩
 ·obtain⟨v,h1,h2⟩:=main h;exact⟨rfl,v,h1,v,rfl,h2⟩
 ·exact h.elim
theorem tI {ids more:List Nat}:∀(l:List (Option V)) (fr:List V) (i:Nat) (g:Nat->Value),frM ids.length l fr->(∀t,g (i+t)=den (ids++more) (nth fr t))->az (ids++more) fr=az ids (fill l g i)
 |[],[],_,_,_,_=>by simp[fill,az]
 |some v::l,u::fr,i,g,h,hg=>by
  obtain⟨rfl,hw,h⟩:=h;simp only[fill,az];rw[bR u hw,tI l fr (i+1) g h (λt=>by have:=hg (t+1);simp only[nth]at this;rw[<-this];congr 1;omega)]
 |none::l,u::fr,i,g,h,hg=>by
  simp only[fill,az,den];rw[tI l fr (i+1) g h (λt=>by have:=hg (t+1);simp only[nth]at this;rw[<-this];congr 1;omega)];have:=hg 0;simp only[nth,Nat.add_zero]at this;rw[this]
 |[],_::_,_,_,h,_=>h.elim
 |some _::_,[],_,_,h,_=>h.elim
 |none::_,[],_,_,h,_=>h.elim
theorem Ms (ids more:List Nat) (bl j:List VB) (hl:bl.length=ids.length) (hw:ez ids.length bl=true):lits (ids++more) (ids++more) (bl++j)=lits ids ids bl++lits (ids++more) more j:=by
 rw[aY _ _ _ _ hl.symm,a_ _ _ hw]
theorem af6 {ms:List Nat} {w0 w:World} {A B R:List aC} (S:St ms w0 ((A++B)++R) w):St ms w0 (A++R) w:=S.sub (List.Sublist.append_right (List.sublist_append_left A B) R)
def Ed (C:Ctx G) (n:Nat):Prop:=∀(c:Code) {fr:List V} {bl:List VB} {ch:List G} {K:Rx G} {ids:List Nat} {R:List aC} {ms:List Nat} {w0 w:World} {Q:Exit->Act->World->Prop},
 Gl C.gl ids->ids.length=bl.length->St ms w0 (lits ids ids bl++ak ch R) w->vcC C n c fr bl ch K->
 (∀e fr' more bl' ch' w',(ids++more).length=bl'.length->St ms w0 (lits (ids++more) (ids++more) bl'++ak ch' R) w'->K e fr' bl' ch'->Q e (act (ids++more) fr') w')->
 c.wp C.P Q (act ids fr) w/\(∀b,c=.loop b->Code.rounds C.P b Q n (act ids fr) w)
theorem WW {n:Nat} (ih:Ed C n) {f:Nat} {fn:Func} {c:Code} (hf:C.P.funcs[f]?=some fn) (hb:fn.body=some c) {args:List V} {ids:List Nat} {bl:List VB} {ch:List G} {R:List aC} {ms:List Nat} {w0 w:World} {K:VK G}
 (hg:Gl C.gl ids) (hl:ids.length=bl.length) (S:St ms w0 (lits ids ids bl++ak ch R) w) (h:vcC C n c (args++Ec (fn.ntmps-args.length)) bl ch (Mp C.P fn K)):
 au C.P f (az ids args).toArray w λv w'=>∃x more bl' ch',v=den (ids++more) x/\(ids++more).length=bl'.length/\St ms w0 (lits (ids++more) (ids++more) bl'++ak ch' R) w'/\K x bl' ch':=by
 refine calls_of_wp hf hb ?_;have e:({tmps:=(az ids args).toArray++Array.replicate (fn.ntmps-(az ids args).toArray.size) undef,defers:=[]}:Act)=act ids (args++Ec (fn.ntmps-args.length)):=by
  simp only[act,IW,IV];congr 1;apply Array.ext';simp[j7]
 rw[e];refine(ih c hg hl S h ?_).1;intro e fr' more bl' ch' w' g1 g2 g3;refine Sz g1 g2 g3 ?_;intro x hx;exact⟨x,more,bl',ch',rfl,g1,g2,hx⟩
theorem Bv {n:Nat} (hT:∀f c,C.T f=some c->Sound C.P C.gl f c) (ih:Ed C n):rI C.P C.gl (xB C (vcC C n)):=by
 intro f hf args ids bl ch R ms w0 w K hg hl S h;unfold xB at h;split at h
 ·rename_i c hc;exact hT f c hc args ids bl ch R ms w0 w K hg hl S h
 ·split at h
  ·rename_i fn hfn;split at h
   ·rename_i c hc;exact WW ih hfn hc hg hl S h
   ·exact h.elim
  ·exact h.elim
theorem Mt {ids:List Nat} {fr:List V} (i:Nat):(act ids fr).eval (.tmp i)=den ids (nth fr i):=by simp only[Act.eval,act,lL]
theorem sound (hT:∀f c,C.T f=some c->Sound C.P C.gl f c) (hQ:ia C):∀n,Ed C n:=by
 intro n;induction n with
 |zero=>intro c fr bl ch K ids R ms w0 w Q hg hl S h;exact h.elim
 |succ n ih=>
  intro c fr bl ch K ids R ms w0 w Q hg hl S h hk;replace h:GP C (vcC C n) c fr bl ch K:=h;generalize YH:vcC C n=rec at h;have Mu:∀(c:Code) {fr:List V} {bl:List VB} {ch:List G} {K:Rx G} {ids:List Nat} {R:List aC} {ms:List Nat} {w0 w:World} {Q:Exit->Act->World->Prop},Gl C.gl ids->ids.length=bl.length->St ms w0 (lits ids ids bl++ak ch R) w->rec c fr bl ch K->(∀e fr' more bl' ch' w',(ids++more).length=bl'.length->St ms w0 (lits (ids++more) (ids++more) bl'++ak ch' R) w'->K e fr' bl' ch'->Q e (act (ids++more) fr') w')->c.wp C.P Q (act ids fr) w/\(∀b,c=.loop b->Code.rounds C.P b Q n (act ids fr) w):=by rw[<-YH];exact ih
  have KJ:∀e,K e fr bl ch->Q e (act ids fr) w:=λe he=>by
   have:=hk e fr [] bl ch w (by simpa using hl) (by simpa using S) he;simpa using this
  have trans:∀{more:List Nat} {e:Exit} {fr':List V} {bl':List VB} {ch':List G} {w':World},(∀e Rs bj bl2 ch2 w2,((ids++more)++bj).length=bl2.length->St ms w0 (lits ((ids++more)++bj) ((ids++more)++bj) bl2++ak ch2 R) w2->K e Rs bl2 ch2->Q e (act ((ids++more)++bj) Rs) w2):=by
   intro more e fr' bl' ch' w' e Rs bj bl2 ch2 w2 g1 g2 g3;rw[List.append_assoc]at g1 g2⊢;exact hk e Rs (more++bj) bl2 ch2 w2 g1 g2 g3
  cases c with
  |skip=>exact⟨wp_skip (KJ _ h),λb e=>nomatch e⟩
  |seq a b=>
   refine⟨?_,λb e=>nomatch e⟩;refine wp_seq ((Mu a hg hl S h ?_).1);intro e fr' more bl' ch' w' g1 g2 g3;cases e with
   |normal=>exact(Mu b (hg.app more) g1 g2 g3 (trans (e:=.normal) (fr':=fr') (bl':=bl') (ch':=ch') (w':=w'))).1
   |_=>exact hk _ fr' more bl' ch' w' g1 g2 g3
  |cond x t f=>
   refine⟨?_,λb e=>nomatch e⟩;unfold GP at h;dsimp only at h;split at h
   ·rename_i i;split at h
    ·rename_i b hb;have hs:=pV fr i;rw[hb]at hs;have hev:(act ids fr).eval (.tmp i)=.bool b:=by rw[Mt,hb];simp only[den]
     cases b with
     |true=>rw[hs]at h;exact wp_cond_true hev (Mu t hg hl S h hk).1
     |false=>rw[hs]at h;exact wp_cond_false hev (Mu f hg hl S h hk).1
    ·exact h.elim
   ·rename_i b;cases b with
    |true=>exact wp_cond_true rfl (Mu t hg hl S h hk).1
    |false=>exact wp_cond_false rfl (Mu f hg hl S h hk).1
   ·exact h.elim
  |block id b=>
   refine⟨?_,λb e=>nomatch e⟩;have fin:∀e fr' more bl' ch' w',(ids++more).length=bl'.length->St ms w0 (lits (ids++more) (ids++more) bl'++ak ch' R) w'->Mq id K e fr' bl' ch'->Exit.inBlock id Q e (act (ids++more) fr') w':=by
    intro e fr' more bl' ch' w' g1 g2 g3;cases e with
    |exit j=>
     simp only[Mq]at g3;unfold Exit.inBlock;by_cases hj:j=id
     ·subst hj;rw[Nat.beq_refl]at g3;simp only[if_true];exact hk _ _ _ _ _ _ g1 g2 g3
     ·have:Nat.beq j id=false:=by
       cases hb:Nat.beq j id with
       |true=>exact absurd (Nat.eq_of_beq_eq_true hb) hj
       |false=>rfl
      rw[this]at g3;simp only[if_neg hj];exact hk _ _ _ _ _ _ g1 g2 g3
    |_=>exact hk _ _ _ _ _ _ g1 g2 g3
   unfold GP at h;dsimp only at h;split at h
   ·rename_i I hI;split at h
    ·rename_i c hc;obtain rfl:b=.loop c:=by
      unfold lpB at hc;split at hc
      ·cases hc;rfl
      ·cases hc
     obtain⟨h0,hx⟩:=h;have key:∀N (x:I.X) (g:Nat->Value) w',I.m x<N->(I.bl x).length=ids.length->St ms w0 (lits ids ids (I.bl x)++ak (I.ch x) R) w'->Code.rounds C.P c (Exit.inBlock id Q) N (act ids (fill (I.fr x) g 0)) w':=by
      intro N;induction N with
      |zero=>intro x g w' hN;omega
      |succ N ihN=>
       intro x g w' hN KG Sx;refine(Mu c hg KG.symm Sx (hx x g) ?_).1;intro e fr' more bl' ch' w2 g1 g2 g3;cases e with
       |normal=>
        obtain⟨y,hm,hf,hly,hwf,⟨j,rfl⟩,rfl⟩:=I.ok x fr' bl' ch' g3;have e1:act (ids++more) fr'=act ids (fill (I.fr y) (λt=>den (ids++more) (nth fr' t)) 0):=by
         simp only[act];rw[tI (I.fr y) fr' 0 (λt=>den (ids++more) (nth fr' t)) (by rw[<-KG];exact hf) (λt=>by simp)]
        show Code.rounds C.P c _ N (act (ids++more) fr') w2;rw[e1];refine ihN y _ w2 (by omega) (hly.trans KG) ?_;rw[KG]at hwf hly;rw[Ms ids more (I.bl y) j hly hwf]at g2;exact af6 g2
       |_=>exact fin _ fr' more bl' ch' w2 g1 g2 (by first|exact g3|(unfold lpK at g3;exact g3))
     obtain⟨x0,hf,rfl,rfl⟩:=I.ok0 fr bl ch h0;refine wp_block (wp_loop_rounds (I.m x0+1) ?_);have e1:act ids fr=act ids (fill (I.fr x0) (λt=>den ids (nth fr t)) 0):=by
      have:=tI (ids:=ids) (more:=[]) (I.fr x0) fr 0 (λt=>den ids (nth fr t)) (by rw[hl];exact hf) (λt=>by simp);simp only[act];simp only[List.append_nil]at this;rw[this]
     rw[e1];exact key _ x0 _ w (Nat.lt_succ_self _) hl.symm S
    ·exact wp_block ((Mu b hg hl S h fin).1)
   ·exact wp_block ((Mu b hg hl S h fin).1)
  |loop b=>
   have key:Code.rounds C.P b Q (n+1) (act ids fr) w:=by
    refine(Mu b hg hl S h ?_).1;intro e fr' more bl' ch' w' g1 g2 g3;cases e with
    |normal=>exact(Mu (.loop b) (hg.app more) g1 g2 g3 (trans (e:=.normal) (fr':=fr') (bl':=bl') (ch':=ch') (w':=w'))).2 b rfl
    |_=>exact hk _ fr' more bl' ch' w' g1 g2 g3
   exact⟨wp_loop_rounds (n+1) key,λb' e=>by cases e;exact key⟩
  |exit id=>exact⟨wp_exit (KJ _ h),λb e=>nomatch e⟩
  |ret=>exact⟨wp_ret (KJ _ h),λb e=>nomatch e⟩
  |region id ops d=>
   refine⟨?_,λb e=>nomatch e⟩;cases d with
   |true=>exact YG (YH▸Bv hT ih) (Bu hQ) hg hl S h (λfr' more bl' ch' w' g1 g2 g3=>hk _ _ _ _ _ _ g1 g2 g3)
   |false=>
    refine wp_region_list ?_;exact(D9 (Bv hT ih) ops.toList hg hl S (by rw[YH];exact h) (λfr' more bl' ch' w' g1 g2 g3=>hk _ _ _ _ _ _ g1 g2 g3)).out
  |_=>exact h.elim
theorem bW (hT:∀f c,C.T f=some c->Sound C.P C.gl f c) (hQ:ia C) (n:Nat) {f:Nat} {args:List V} {ids:List Nat} {bl:List VB} {ch:List G} {R:List aC} {ms:List Nat} {w0 w:World} {K:VK G}
 (hg:Gl C.gl ids) (hl:ids.length=bl.length) (S:St ms w0 (lits ids ids bl++ak ch R) w) (h:c_ C n f args bl ch K):
 au C.P f (az ids args).toArray w λv w'=>∃x more bl' ch',v=den (ids++more) x/\(ids++more).length=bl'.length/\St ms w0 (lits (ids++more) (ids++more) bl'++ak ch' R) w'/\K x bl' ch':=by
 unfold c_ at h;split at h
 ·rename_i fn hf;split at h
  ·rename_i c hb;exact WW (sound hT hQ n) hf hb hg hl S h
  ·exact h.elim
 ·exact h.elim
end
structure eG (G:Type) where
 f:Nat
 q:Bool
 c:jq G
def Mv:List (eG G)->FuncId->Option (jq G)
 |[],_=>none
 |e::l,f=>bif Nat.beq e.f f then some e.c else Mv l f
def SA:List (eG G)->FuncId->Bool
 |[],_=>false
 |e::l,f=>bif Nat.beq e.f f then e.q else SA l f
def dQ (P:Program) (gl:Nat->Option Nat) (L:List (eG G)):Ctx G:=⟨P,Mv L,gl,SA L,noH,Mc,λ_ _=>none⟩
def fC (c:jq G):Prop:=∀args bl ch K,c args bl ch K->c args bl ch λv bl' ch'=>K v bl' ch'/\∃e,bl'=bl++e
def oc (P:Program) (gl:Nat->Option Nat) (e:eG G):Prop:=Sound P gl e.f e.c/\(e.q=true->fC e.c)
def ao (P:Program) (gl:Nat->Option Nat) (L:List (eG G)):Prop:=∀e∈L,oc P gl e
theorem ao.nil {P:Program} {gl:Nat->Option Nat}:ao (G:=G) P gl []:=λe h=>nomatch h
theorem ao.cons {P:Program} {gl:Nat->Option Nat} {e:eG G} {L:List (eG G)} (h:oc P gl e) (k:ao P gl L):ao P gl (e::L):=λx hx=>by
 rcases List.mem_cons.1 hx with rfl|hx
 ·exact h
 ·exact k x hx
theorem ao.app {P:Program} {gl:Nat->Option Nat} {L M:List (eG G)} (h:ao P gl L) (k:ao P gl M):ao P gl (L++M):=λx hx=>by
 rcases List.mem_append.1 hx with hx|hx
 ·exact h x hx
 ·exact k x hx
theorem ao.T {P:Program} {gl:Nat->Option Nat} {L:List (eG G)} (h:ao P gl L):∀f c,(dQ P gl L).T f=some c->Sound (dQ P gl L).P (dQ P gl L).gl f c:=by
 intro f c hc;replace hc:Mv L f=some c:=hc;show Sound P gl f c;induction L with
 |nil=>cases hc
 |cons e L ih=>
  unfold Mv at hc;cases hb:Nat.beq e.f f with
  |true=>
   rw[hb]at hc;obtain rfl:e.c=c:=by simpa using hc
   obtain rfl:=Nat.eq_of_beq_eq_true hb;exact(h e (by simp)).1
  |false=>
   rw[hb]at hc;exact ih (λx hx=>h x (by simp[hx])) hc
theorem ao.Q {P:Program} {gl:Nat->Option Nat} {L:List (eG G)} (h:ao P gl L):ia (dQ P gl L):=by
 intro f hf;replace hf:SA L f=true:=hf;show∃c,Mv L f=some c/\_;induction L with
 |nil=>cases hf
 |cons e L ih=>
  unfold SA at hf;unfold Mv;cases hb:Nat.beq e.f f with
  |true=>
   rw[hb]at hf;exact⟨e.c,rfl,(h e (by simp)).2 (by simpa using hf)⟩
  |false=>
   rw[hb]at hf;exact ih (λx hx=>h x (by simp[hx])) hf
def qC (F:List V->List VB->Option (Prop×V)):jq G:=λargs bl ch K=>match F args bl with
 |some (p,v)=>p/\K v bl ch
 |none=>False
theorem qa (F:List V->List VB->Option (Prop×V)):fC (G:=G) (qC F):=by
 intro args bl ch K h;unfold qC at h⊢;split at h
 ·exact⟨h.1,h.2,[],by simp⟩
 ·exact h
def Mem (ids:List Nat) (bl:List VB) (w:World):Prop:=ids.length=bl.length/\∀(i:Nat) (b:VB),bl[i]?=some b->w.heap[ids.getD i 0]?=some (.cells (ai ids b.c).toArray b.ty.t b.ty.fz)
structure QF where
 f:Nat
 F:List V->List VB->Option (Prop×V)
def QF.Ok (P:Program) (gl:Nat->Option Nat) (q:QF):Prop:=∀args bl p v,q.F args bl=some (p,v)->p->∀ids w,Gl gl ids->Mem ids bl w->au P q.f (az ids args).toArray w λx w'=>x=den ids v/\Ch [] w w'
theorem qb {P:Program} {gl:Nat->Option Nat} {q:QF} (h:q.Ok P gl):Sound P gl q.f (qC (G:=G) q.F):=by
 intro args ids bl ch R ms w0 w K hg hl S hc;unfold qC at hc;split at hc
 ·rename_i p v hF;refine(h args bl p v hF hc.1 ids w hg ⟨hl,λi b hb=>(dY hl S hb).2⟩).mono ?_;rintro x w' ⟨rfl,kq⟩;exact⟨v,[],bl,ch,by simp,by simpa using hl,by simpa using S.quiet kq,hc.2⟩
 ·exact hc.elim
def qE (G:Type) [Bl G] (q:QF):eG G:=⟨q.f,true,qC q.F⟩
def qL (G:Type) [Bl G]:List QF->List (eG G)
 |[]=>[]
 |q::l=>qE G q::qL G l
def aX (P:Program) (gl:Nat->Option Nat) (L:List QF):Prop:=∀q∈L,QF.Ok P gl q
theorem fZ {P:Program} {gl:Nat->Option Nat}:∀{L:List QF},aX P gl L->ao (G:=G) P gl (qL G L)
 |[],_=>ao.nil
 |q::l,h=>ao.cons ⟨qb (h q (by simp)),λ_=>qa q.F⟩ (fZ λx hx=>h x (by simp[hx]))
theorem aX.nil {P:Program} {gl:Nat->Option Nat}:aX P gl []:=λe h=>nomatch h
theorem aX.cons {P:Program} {gl:Nat->Option Nat} {e:QF} {L:List QF} (h:e.Ok P gl) (k:aX P gl L):aX P gl (e::L):=λx hx=>by
 rcases List.mem_cons.1 hx with rfl|hx
 ·exact h
 ·exact k x hx
theorem aX.app {P:Program} {gl:Nat->Option Nat} {L M:List QF} (h:aX P gl L) (k:aX P gl M):aX P gl (L++M):=λx hx=>by
 rcases List.mem_append.1 hx with hx|hx
 ·exact h x hx
 ·exact k x hx
instance:Bl Empty:=⟨λ_=>[]⟩
def jr (P:Program) (L:List QF) (n f:Nat) (args:List V) (X:V->Prop):Prop:=c_ (dQ P (λ_=>none) (qL Empty L)) n f args [] [] λv _ _=>X v
theorem Gl.none {ids:List Nat}:Gl (λ_=>none) ids:=λg i h=>nomatch h
theorem oK {P:Program} {L:List QF} (hL:aX P (λ_=>none) L) (n:Nat) {f:Nat} {args:List V} {v:V} (h:jr P L n f args (·=v)) (ha:cK 0 args=true) (hv:fR 0 v=true) (ids:List Nat) (w:World):
 au P f (az ids args).toArray w λx w'=>x=den ids v/\Ch [] w w':=by
 have e1:az ids args=az [] args:=by have:=dO (ids:=[]) (more:=ids) args ha;simpa using this
 have e2:∀is,den is v=den [] v:=λis=>by have:=bR (ids:=[]) (more:=is) v hv;simpa using this
 rw[e1];refine(bW (fZ hL).T (fZ hL).Q n (C:=dQ P (λ_=>none) (qL Empty L)) (ids:=[]) (bl:=[]) (ch:=[]) (R:=[]) (ms:=[]) (w0:=w) (w:=w) Gl.none rfl (St.nil [] w) h).mono ?_;rintro x w' ⟨y,more,bl',ch',rfl,h1,S,rfl⟩;exact⟨by rw[e2 ids,e2],S.ch⟩
theorem aS {b:Bool} {X Y:Prop} (h:b=true->X) (k:b=false->Y):cond b X Y:=by cases b;exact k rfl;exact h rfl
end Vx
namespace Vx
open Go Go.RowKit Go.BigFrame Sx
structure aO where
 T:TypeId
 z:Nat
 os:List Value
 x:Option Addr
 n:Nat
 c:Nat
 bl:List aC
 h:eO z T os x n c bl
instance:Bl aO:=⟨λg=>g.bl⟩
def aO.v (g:aO):V:=.raw (.slice g.x g.n g.c)
def aO.nil (T z:Nat):aO:=⟨T,z,[],none,0,0,[],iA z T⟩
def kg (P:Program) (T:TypeId):Option (Nat×Nat):=match P.info? T with
 |some i=>(match i.zero with
  |some v=>bif Nat.beq v.cells.size i.size then some (i.size,i.bytes)else none
  |none=>none)
 |none=>none
def SB (T z:Nat) (s:V) (m:Nat) (news:List Value) (bl:List VB) (K:VK aO):List aO->List aO->Prop
 |_,[]=>False
 |pre,g::l=>bif Nat.beq g.T T then cond (Nat.beq g.z z) ((s=g.v/\g.n+m<=1000000)/\∀(x:Option Addr) (c:Nat) (bk:List aC) (h:eO g.z g.T (g.os++news) x (g.n+m) c bk),K (.raw (.slice x (g.n+m) c)) bl (pre++⟨g.T,g.z,g.os++news,x,g.n+m,c,bk,h⟩::l)) False
  else SB T z s m news bl K (pre++[g]) l
def SD (P:Program):(Operand->V)->Op->List VB->List aO->VK aO->Prop:=λe op bl ch K=>match op with
 |.call c=>(match c.callee,c.args.toList,c.argTypes.toList with
  |.builtin .append,[s,xs],[t,tx]=>(match P.underlying t,P.underlying tx with
   |some (.slice T),some (.slice _)=>(match kg P T,e xs with
    |some (z,eJ),.sl i 0 m _=>(match bl[i]?with
     |some b=>cond (Nat.beq (fb b.c) (m*z)&&(cK 0 b.c&&(oF b.c&&Nat.ble eJ 10000000))) (SB T z (e s) m (ai [] b.c) bl K [] ch) False
     |none=>False)
    |_,_=>False)
   |_,_=>False)
  |_,_,_=>False)
 |_=>False
theorem fL {G:Type} [Bl G] (R:List aC):∀(a b:List G),ak (a++b) R=ak a (ak b R)
 |[],b=>rfl
 |g::a,b=>by simp only[List.cons_append,ak,fL R a b]
theorem cM {G:Type} [Bl G] (R:List aC):∀(a:List G),ak a R=ak a []++R
 |[]=>rfl
 |g::a=>by simp only[ak,cM R a,List.append_assoc]
theorem Bw {T z:Nat} {s:V} {m:Nat} {news:List Value} {bl:List VB} {K:VK aO}:∀(ch pre:List aO),SB T z s m news bl K pre ch->∃(l1:List aO) (g:aO) (l2:List aO),ch=l1++g::l2/\g.T=T/\g.z=z/\s=g.v/\g.n+m<=1000000/\
 ∀(x:Option Addr) (c:Nat) (bk:List aC) (h:eO g.z g.T (g.os++news) x (g.n+m) c bk),K (.raw (.slice x (g.n+m) c)) bl ((pre++l1)++⟨g.T,g.z,g.os++news,x,g.n+m,c,bk,h⟩::l2)
 |[],pre,h=>h.elim
 |g::l,pre,h=>by
  unfold SB at h;cases hb:Nat.beq g.T T with
  |true=>
   rw[hb]at h;simp only[cond_true]at h;cases hz:Nat.beq g.z z with
   |false=>rw[hz]at h;exact h.elim
   |true=>
    rw[hz]at h;exact⟨[],g,l,rfl,Nat.eq_of_beq_eq_true hb,Nat.eq_of_beq_eq_true hz,h.1.1,h.1.2,by simpa using h.2⟩
  |false=>
   rw[hb]at h;obtain⟨l1,g',l2,rfl,h1,h2,h3,h4,h5⟩:=Bw l _ h;refine⟨g::l1,g',l2,rfl,h1,h2,h3,h4,?_⟩;intro x c bk hh;have:=h5 x c bk hh;simpa[List.append_assoc]using this
theorem GQ {P:Program} {gl:Nat->Option Nat}:wD P gl (SD P):=by
 intro e op ids bl ch R ms w0 w K ρ o hg hl S cX ho h;unfold SD at h;split at h
 ·rename_i c;split at h
  ·rename_i s xs t tx iC ca nj;split at h
   ·rename_i T T' ht xf;split at h
    ·rename_i z eJ i m cc bd tB;split at h
     ·rename_i b hb;cases hq:Nat.beq (fb b.c) (m*z)&&(cK 0 b.c&&(oF b.c&&Nat.ble eJ 10000000))with
      |false=>rw[hq]at h;exact h.elim
      |true=>
       rw[hq]at h;simp only[cond_true]at h;simp only[Bool.and_eq_true]at hq;obtain⟨q1,q2,q3,q4⟩:=hq;have q1:=Nat.eq_of_beq_eq_true q1;have q4:=Nat.le_of_ble_eq_true q4;obtain⟨l1,g,l2,rfl,rfl,rfl,hs,hn,hK⟩:=Bw _ _ h;have hi:(P.info? g.T).map (λi=>(i.zero.map (·.cells.size),i.size,i.bytes))=some (some g.z,g.z,eJ):=by
        unfold kg at bd;split at bd
        ·rename_i inf Ee;split at bd
         ·rename_i v hv;cases SE:Nat.beq v.cells.size inf.size with
          |false=>rw[SE]at bd;simp at bd
          |true=>
           rw[SE]at bd;simp only[cond_true,Option.some.injEq,Prod.mk.injEq]at bd;have:=Nat.eq_of_beq_eq_true SE;simp[Ee,hv,this,bd.1,bd.2]
         ·cases bd
        ·cases bd
       have hd:ai ids b.c=ai [] b.c:=by have:=b_ (ids:=[]) (more:=ids) b.c q2;simpa using this
       have cD:=(dY hl S hb).2;have hlen:(ai [] b.c).length=m*g.z:=by rw[<-q1];exact cV b.c
       have gj:Src P g.z tx (.slice (some ⟨ids.getD i 0,0,none⟩) m cc) m (ai [] b.c) w:=by
        refine Src.ofSlice w xf ⟨ids.getD i 0,0,none⟩ m cc _ hlen (λj u hj=>?_) (λu hu=>nq q3 u hu);rw[Addr.add_lit,cell_of cD,hd];simpa using hj
       have e1:lits ids ids bl++ak (l1++g::l2) R=(lits ids ids bl++ak l1 [])++(g.bl++ak l2 R):=by
        rw[fL,cM (ak (g::l2) R) l1];simp only[ak,List.append_assoc];rfl
       rw[e1]at S;have Ef:(g.n+m)*eJ<=140737488355328:=Nat.le_trans (Nat.mul_le_mul hn q4) (by decide);obtain⟨v,w',bO,hc,x',c',bl',rfl,wC,SF⟩:=j5 (P:=P) (ty:=o.type) g.h (λy hy=>S.at' (by simp[hy])) eJ gj ht hi Ef (Nat.le_trans hn (by decide));have S2:=S.Lh g.h.wr hc (λy hy=>(SF y hy).1) (λy hy=>(SF y hy).2) wC.pw;refine⟨_,[],bl,_,w',.inl ?_,by simpa using hl,?_,hK x' c' bl' wC⟩
       ·obtain⟨Ru,ar,Bx⟩:=c;simp only at iC ca nj;have e2:ar=#[s,xs]:=by rw[<-ca]
        have e3:Bx=#[t,tx]:=by rw[<-nj]
        subst iC e2 e3;have:=cO (P:=P) (ρ:=ρ) (o:=o) ho (sv:=.slice g.x g.n g.c) (xv:=.slice (some ⟨ids.getD i 0,0,none⟩) m cc) (by rw[cX,hs];simp only[aO.v,den]) (by rw[cX,tB];simp only[den]) bO;simpa[den]using this
       ·rw[List.append_nil];have e4:lits ids ids bl++ak (([]++l1)++⟨g.T,g.z,g.os++ai [] b.c,x',g.n+m,c',bl',wC⟩::l2) R=(lits ids ids bl++ak l1 [])++(bl'++ak l2 R):=by
         rw[List.nil_append,fL,cM (ak (_::l2) R) l1];simp only[ak,List.append_assoc];rfl
        rw[e4];exact S2
     ·exact h.elim
    ·exact h.elim
   ·exact h.elim
  ·exact h.elim
 ·exact h.elim
def AS (P:Program) (gl:Nat->Option Nat) (L:List (eG aO)):Ctx aO:=⟨P,Mv L,gl,SA L,SD P,GQ,λ_ _=>none⟩
theorem ao.TR {P:Program} {gl:Nat->Option Nat} {L:List (eG aO)} (h:ao P gl L):∀f c,(AS P gl L).T f=some c->Sound (AS P gl L).P (AS P gl L).gl f c:=h.T
theorem ao.QR {P:Program} {gl:Nat->Option Nat} {L:List (eG aO)} (h:ao P gl L):ia (AS P gl L):=h.Q
theorem wS {P:Program} {w:World} {z T n c m b:Nat} {olds tail news:List Value} (hlen:olds.length=n*z) (AR:(olds++tail).length=c*z) (DB:n<=c) (cD:w.heap[b]?=some (.cells (olds++tail).toArray T (0,0)))
 {t tx ty:TypeId} {xv:Value} (bytes:Nat) (hs:Src P z tx xv m news w) (IA:0<m) (ht:P.underlying t=some (.slice T)) (hi:(P.info? T).map (λi=>(i.zero.map (·.cells.size),i.size,i.bytes))=some (some z,z,bytes))
 (hb:(n+m)*bytes<=140737488355328) (h63:n+m<=maxLen):
 (∃w',(Builtin.append_ #[t,tx] ty #[.slice (some ⟨b,0,none⟩) n c,xv]).run P w=.ok (.slice (some ⟨b,0,none⟩) (n+m) c) w'/\Ch [b] w w'/\w'.heap[b]?=some (.cells ((olds++news)++tail.drop news.length).toArray T (0,0))/\n+m<=c)\/
 (∃b' c' sT w',(Builtin.append_ #[t,tx] ty #[.slice (some ⟨b,0,none⟩) n c,xv]).run P w=.ok (.slice (some ⟨b',0,none⟩) (n+m) c') w'/\Ch [] w w'/\w.heap.size<=b'/\w'.heap[b']?=some (.cells ((olds++news)++sT).toArray T (0,0))/\
  ((olds++news)++sT).length=c'*z/\n+m<=c'):=by
 obtain⟨i,bd,hi⟩:=Option.map_eq_some_iff.1 hi;simp only[Prod.mk.injEq]at hi;obtain⟨hz,iZ,Dz⟩:=hi;obtain⟨z0,DA,Iy⟩:=Option.map_eq_some_iff.1 hz;have Iz:=hs.newsLen;have wA:Src P i.size tx xv m news w:=by rw[iZ];exact hs
 by_cases jz:n+m<=c
 ·left;have hbd:n*z+news.length<=(olds++tail).length:=by
   rw[AR,Iz,<-Nat.add_mul];exact Nat.mul_le_mul_right _ jz
  have nY:=run_storeCells_at (P:=P) b (n*z) T news 0 (olds++tail).toArray w cD (by simpa using hbd) hs.one;simp only[Nat.add_zero]at nY;have bO:(Builtin.append_ #[t,tx] ty #[.slice (some ⟨b,0,none⟩) n c,xv]).run P w=.ok (.slice (some ⟨b,0,none⟩) (n+m) c) (w.setRow b ((olds++tail).take (n*z)++news++(olds++tail).drop (n*z+news.length)).toArray):=by
   rcases wA.kind with⟨e',hk⟩|hk<;>simp[Builtin.append_,run_underlying ht,run_underlying hk,Go.sizeOf,typeInfo,bd,wA.len,jz,hs.cells,Addr.add_lit,iZ,nY,Result.andThen]
  refine⟨_,bO,by simpa using Ch.setRow w b _,?_,jz⟩;have:=setRow_heap w b (olds++tail).toArray ((olds++tail).take (n*z)++news++(olds++tail).drop (n*z+news.length)).toArray T (0,0) cD;rw[this];congr 3;rw[<-hlen,List.take_left,List.drop_append,List.drop_eq_nil_of_le (by omega)];simp
 ·right;have hg:c<n+m:=by omega
  have hold:(Builtin.firstCells i.size n (.slice (some ⟨b,0,none⟩) n c)).run P w.drew=.ok olds.toArray w.drew:=by
   refine run_firstCells_some (P:=P) w.drew i.size n ⟨b,0,none⟩ n c olds (by rw[hlen,iZ]) (λj v hj=>?_);rw[Addr.add_lit];have:w.drew.cell? ⟨b,0+j,none⟩=w.cell? ⟨b,j,none⟩:=by simp
   rw[this,cell_of cD];have DC:j<olds.length:=by
    rcases Nat.lt_or_ge j olds.length with h|h
    ·exact h
    ·simp[h]at hj
   simp[List.getElem?_append_left DC,hj]
  have bO:=run_append_grow_src (P:=P) w t tx ty T i z0 ht bd DA (some ⟨b,0,none⟩) n c olds hold xv m news wA hg (by simp only[maxLen]at h63;omega) (by rw[Dz];exact growslice_fits hg hb);have rC:=grownCap_ge w (n+m) c T;refine⟨w.heap.size,grownCap w (n+m) c T,(Builtin.zeroCells z0.cells (grownCap w (n+m) c T-(n+m))).toList,_,bO,?_,Nat.le_refl _,?_,?_,rC⟩
  ·exact((Ch.refl [] w).drew).trans (Ch.alloc [] w.drew _) (λx hx=>.inl hx)
  ·have:=heap_alloc_new w.drew (.cells ((olds++news).toArray++Builtin.zeroCells z0.cells (grownCap w (n+m) c T-(n+m))) T);refine Eq.trans this ?_;congr 2;apply Array.ext';simp
  ·rw[List.length_append,List.length_append,hlen,Iz,Array.length_toList,size_zeroCells,Iy,<-Nat.add_mul,<-Nat.add_mul];congr 1;omega
variable{G:Type} [Bl G]
def SG (P:Program):(Operand->V)->Op->List VB->List G->VK G->Prop:=λe op bl ch K=>match op with
 |.call c=>(match c.callee,c.args.toList,c.argTypes.toList with
  |.builtin .append,[s,xs],[t,tx]=>(match P.underlying t,P.underlying tx with
   |some (.slice T),some (.slice _)=>(match kg P T,e s,e xs with
    |some (z,eJ),.sl j 0 n c,.sl i 0 (m+1) _=>(match bl[j]?,bl[i]?with
     |some ⟨wr,⟨Ta,(0,0)⟩,ac⟩,some b=>(match A1 ac 0 (n*z)with
      |some C=>cond (Nat.beq Ta T&&(wr&&(Nat.beq (fb b.c) ((m+1)*z)&&(oF b.c&&(Nat.ble eJ 10000000&&(Nat.ble (n+(m+1)) 1000000&&(cK bl.length C&&(cK bl.length b.c&&ez bl.length bl))))))))
       ((n<=c/\fb ac=c*z)/\(∀(c':Nat) (u:List Value),n+(m+1)<=c'->fb (C++(b.c++[.rest u]))=c'*z->K (.sl j 0 (n+(m+1)) c') (bl.set j ⟨true,T,C++(b.c++[.rest u])⟩) ch)/\
         (∀(c':Nat) (u:List Value),n+(m+1)<=c'->fb (C++(b.c++[.rest u]))=c'*z->K (.sl bl.length 0 (n+(m+1)) c') (bl++[⟨true,T,C++(b.c++[.rest u])⟩]) ch)) False
      |none=>False)
     |_,_=>False)
    |_,_,_=>False)
   |_,_=>False)
  |_,_,_=>False)
 |_=>False
theorem lQ {P:Program} {T z eJ:Nat} (bd:kg P T=some (z,eJ)):(P.info? T).map (λi=>(i.zero.map (·.cells.size),i.size,i.bytes))=some (some z,z,eJ):=by
 unfold kg at bd;split at bd
 ·rename_i inf Ee;split at bd
  ·rename_i v hv;cases SE:Nat.beq v.cells.size inf.size with
   |false=>rw[SE]at bd;simp at bd
   |true=>
    rw[SE]at bd;simp only[cond_true,Option.some.injEq,Prod.mk.injEq]at bd;have:=Nat.eq_of_beq_eq_true SE;simp[Ee,hv,this,bd.1,bd.2]
  ·cases bd
 ·cases bd
theorem GR {P:Program} {gl:Nat->Option Nat}:wD (G:=G) P gl (SG P):=by
 intro e op ids bl ch R ms w0 w K ρ o hg hl S cX ho h;unfold SG at h;split at h
 ·rename_i c;split at h
  ·rename_i s xs t tx iC ca nj;split at h
   ·rename_i T T' ht xf;split at h
    ·rename_i z eJ j n cc i m DD bd yx tB;split at h
     ·rename_i wr Ta ac b ha hb;split at h
      ·rename_i C hC;cases hq:Nat.beq Ta T&&(wr&&(Nat.beq (fb b.c) ((m+1)*z)&&(oF b.c&&(Nat.ble eJ 10000000&&(Nat.ble (n+(m+1)) 1000000&&(cK bl.length C&&(cK bl.length b.c&&ez bl.length bl)))))))with
       |false=>rw[hq]at h;exact h.elim
       |true=>
        rw[hq]at h;simp only[cond_true]at h;simp only[Bool.and_eq_true]at hq;obtain⟨q1,q2,q3,q4,q5,q6,q8,q9,q10⟩:=hq;have q1:=Nat.eq_of_beq_eq_true q1;have q3:=Nat.eq_of_beq_eq_true q3;have q5:=Nat.le_of_ble_eq_true q5;have q6:=Nat.le_of_ble_eq_true q6;obtain⟨⟨q7,iZ⟩,Dy,Yf⟩:=h;subst q1 q2;have cD:=(dY hl S hb).2;obtain⟨hj,YI⟩:=dY hl S ha;obtain⟨g1,g2,g3⟩:=j8 (ids:=ids) hC;rw[List.drop_zero]at g1;have qc:(ai ids b.c).length=(m+1)*z:=by rw[cV,q3]
        have gj:Src P z tx (.slice (some ⟨ids.getD i 0,0,none⟩) (m+1) DD) (m+1) (ai ids b.c) w:=by
         refine Src.ofSlice w xf ⟨ids.getD i 0,0,none⟩ (m+1) DD _ qc (λj u hj=>?_) (λu hu=>nq q4 u hu);rw[Addr.add_lit,cell_of cD];simpa using hj
        have AR:(ai ids C++(ai ids ac).drop (n*z)).length=cc*z:=by
         rw[<-g1,List.take_append_drop,cV,iZ]
        have Mw:w.heap[ids.getD j 0]?=some (.cells (ai ids C++(ai ids ac).drop (n*z)).toArray Ta (0,0)):=by
         rw[<-g1,List.take_append_drop];exact YI
        have Ef:(n+(m+1))*eJ<=140737488355328:=Nat.le_trans (Nat.mul_le_mul q6 q5) (by decide);have dd:∀(is:List Nat) (u:List Value),ai is (C++(b.c++[.rest u]))=(ai is C++ai is b.c)++u:=λis u=>by
         rw[bH,bH];simp[ai,cl]
        have sz:∀(is:List Nat) (u:List Value) (c':Nat),((ai is C++ai is b.c)++u).length=c'*z->fb (C++(b.c++[.rest u]))=c'*z:=λis u c' hh=>by
         rw[<-cV (ids:=is),dd,hh]
        obtain⟨Ru,ar,Bx⟩:=c;simp only at iC ca nj;have e2:ar=#[s,xs]:=by rw[<-ca]
        have e3:Bx=#[t,tx]:=by rw[<-nj]
        subst iC e2 e3;have run:∀{v w'},(Builtin.append_ #[t,tx] o.type #[.slice (some ⟨ids.getD j 0,0,none⟩) n cc,.slice (some ⟨ids.getD i 0,0,none⟩) (m+1) DD]).run P w=.ok v w'->(execOp ρ o).run P w=.ok (.value v) w':=λbO=>
         cO (P:=P) (ρ:=ρ) (o:=o) ho (by rw[cX,yx];simp only[den]) (by rw[cX,tB];simp only[den]) bO
        rcases wS (P:=P) (ty:=o.type) g2 AR q7 Mw eJ gj (Nat.succ_pos m) ht (lQ bd) Ef (Nat.le_trans q6 (by decide))with⟨w',bO,hc,hh,jz⟩|⟨b',c',sT,w',bO,hc,acI,hh,acJ,jz⟩
        ·refine⟨_,[],_,ch,w',.inl ?_,by simpa using hl,?_,Dy cc (((ai ids ac).drop (n*z)).drop (ai ids b.c).length) jz (sz ids _ _ ?_)⟩
         ·have:=run bO;simpa[den]using this
         ·simp only[List.append_nil];have nY:=S.step hj rfl hc hh;have DC:j<(lits ids ids bl).length:=by rw[jC ids bl hl];rcases Nat.lt_or_ge j bl.length with h'|h';exact h';simp[h']at ha
          rw[<-jD (ids:=ids) ids bl j _ hl,<-List.set_append_left _ _ DC];simp only[aW,dd];exact nY
         ·rw[<-AR];simp only[List.length_append,List.length_drop];have:(ai ids C).length+(ai ids b.c).length<=(ai ids C++(ai ids ac).drop (n*z)).length:=by
           rw[AR,g2,qc,<-Nat.add_mul];exact Nat.mul_le_mul_right _ jz
          simp only[List.length_append,List.length_drop]at this;omega
        ·have Mx:cK ids.length (C++(b.c++[.rest sT]))=true:=by
          rw[hl];have IX:∀(x y:List V),cK bl.length x=true->cK bl.length y=true->cK bl.length (x++y)=true:=by
           intro x y;induction x with
           |nil=>intro _ h;simpa using h
           |cons v x ih=>intro h1 h2;simp only[List.cons_append,cK,Bool.and_eq_true]at h1⊢;exact⟨h1.1,ih h1.2 h2⟩
          exact IX _ _ q8 (IX _ _ q9 rfl)
         refine⟨_,[b'],_,ch,w',.inl ?_,by simp[hl],?_,Yf c' sT jz (sz ids _ _ acJ)⟩
         ·have:=run bO;rw[this];simp only[den];rw[<-hl,cQ]
         ·rw[aY _ _ _ _ hl,a_ _ _ (by rw[hl];exact q10)];simp only[lits,aW];rw[b_ _ Mx,dd];have:=S.new hc acI hh;refine this.perm ?_;rw[List.append_assoc (lits ids ids bl)];exact(List.perm_middle).symm
      ·exact h.elim
     ·exact h.elim
    ·exact h.elim
   ·exact h.elim
  ·exact h.elim
 ·exact h.elim
def KW (P:Program) (gl:Nat->Option Nat) (L:List (eG G)):Ctx G:=⟨P,Mv L,gl,SA L,SG P,GR,λ_ _=>none⟩
theorem ao.TS {P:Program} {gl:Nat->Option Nat} {L:List (eG G)} (h:ao P gl L):∀f c,(KW P gl L).T f=some c->Sound (KW P gl L).P (KW P gl L).gl f c:=h.T
theorem ao.QS {P:Program} {gl:Nat->Option Nat} {L:List (eG G)} (h:ao P gl L):ia (KW P gl L):=h.Q
end Vx
namespace Vx
open Go Go.RowKit Go.BigFrame Sx
def yU (i:Nat):List Nat->Nat->Option Nat
 |[],_=>none
 |j::l,k=>bif Nat.beq j i then some k else yU i l (k+1)
def vbz:VB:=⟨false,⟨0,(0,0)⟩,[]⟩
mutual
def SH:V->List Nat
 |.ptr i _=>[i]
 |.sl i _ _ _=>[i]
 |.je i _ _ _ _=>[i]
 |.pe i _ _ _ _=>[i]
 |.fn _ a b=>IY a++IY b
 |.A0 _ v=>SH v
 |.agg l=>IY l
 |.aI l=>IY l
 |_=>[]
def IY:List V->List Nat
 |[]=>[]
 |v::l=>SH v++IY l
end
mutual
def rM (dq:List Nat):V->Option V
 |.ptr i off=>match yU i dq 0 with|some k=>some (.ptr k off)|none=>none
 |.sl i off n c=>match yU i dq 0 with|some k=>some (.sl k off n c)|none=>none
 |.je i off n c x=>match yU i dq 0 with|some k=>some (.je k off n c x)|none=>none
 |.pe i o j z q=>match yU i dq 0 with|some k=>some (.pe k o j z q)|none=>none
 |.fn f a b=>match wT dq a,wT dq b with|some a',some b'=>some (.fn f a' b')|_,_=>none
 |.A0 t v=>match rM dq v with|some v'=>some (.A0 t v')|none=>none
 |.agg l=>match wT dq l with|some l'=>some (.agg l')|none=>none
 |.aI l=>match wT dq l with|some l'=>some (.aI l')|none=>none
 |v=>some v
def wT (dq:List Nat):List V->Option (List V)
 |[]=>some []
 |v::l=>match rM dq v,wT dq l with|some v',some l'=>some (v'::l')|_,_=>none
end
def SI (bl:List VB) (dq:List Nat):List Nat->Option (List VB)
 |[]=>some []
 |i::is=>match bl[i]?with
  |some b=>(match wT dq b.c,SI bl dq is with
   |some c,some l=>some (⟨b.wr,b.ty,c⟩::l)
   |_,_=>none)
  |none=>none
def My (dq:List Nat):List Nat->List Nat
 |[]=>dq
 |i::l=>match yU i dq 0 with|some _=>My dq l|none=>My (dq++[i]) l
def gcN (bl:List VB):Nat->Nat->List Nat->List Nat
 |0,_,dq=>dq
 |n+1,k,dq=>match dq[k]?with
  |some i=>(match bl[i]?with
   |some b=>gcN bl n (k+1) (My dq (IY b.c))
   |none=>dq)
  |none=>dq
def mS:Nat->List Nat
 |0=>[]
 |n+1=>mS n++[n]
def gcR (n0:Nat) (v:V) (bl:List VB) (dq:List Nat):Option (V×List VB):=bif rK dq&&Bz (mS n0) dq then(match rM dq v,SI bl dq dq with|some v',some bl'=>some (v',bl')|_,_=>none)else none
where Bz:List Nat->List Nat->Bool
 |[],_=>true
 |i::a,j::b=>Nat.beq i j&&Bz a b
 |_::_,[]=>false
def eB {G:Type} (n0:Nat) (K:VK G):VK G:=λv bl ch=>match gcR n0 v bl (gcN bl bl.length 0 (My (mS n0) (SH v)))with
 |some (v',bl')=>K v' bl' ch
 |none=>False
theorem GS {i:Nat}:∀{l:List Nat} {k m:Nat},yU i l k=some m->k<=m/\l[m-k]?=some i
 |[],k,m,h=>by cases h
 |j::l,k,m,h=>by
  unfold yU at h;cases hb:Nat.beq j i with
  |true=>
   rw[hb]at h;obtain rfl:k=m:=by simpa using h
   exact⟨Nat.le_refl _,by simp[Nat.eq_of_beq_eq_true hb]⟩
  |false=>
   rw[hb]at h;obtain⟨h1,h2⟩:=GS (l:=l) h;refine⟨by omega,?_⟩;rw[show m-k=(m-(k+1))+1 by omega];simpa using h2
theorem tJ {ids dq:List Nat} {i k:Nat} (h:yU i dq 0=some k):(dq.map λj=>ids.getD j 0).getD k 0=ids.getD i 0:=by
 have:=(GS h).2;simp only[Nat.sub_zero]at this;simp[List.getD,this]
mutual
theorem qe {ids dq:List Nat}:∀(v:V) {v':V},rM dq v=some v'->den (dq.map λj=>ids.getD j 0) v'=den ids v
 |.ptr i off,v',h=>by
  simp only[rM]at h;split at h
  ·rename_i k hk;cases h;simp only[den,tJ hk]
  ·cases h
 |.sl i off n c,v',h=>by
  simp only[rM]at h;split at h
  ·rename_i k hk;cases h;simp only[den,tJ hk]
  ·cases h
 |.je i off n c x,v',h=>by
  simp only[rM]at h;split at h
  ·rename_i k hk;cases h;simp only[den,tJ hk]
  ·cases h
 |.fn f a b,v',h=>by
  simp only[rM]at h;split at h
  ·rename_i a' b' ha hb;cases h;simp only[den,nC a ha,nC b hb]
  ·cases h
 |.A0 t v,v',h=>by
  simp only[rM]at h;split at h
  ·rename_i u hu;cases h;simp only[den,qe v hu]
  ·cases h
 |.agg l,v',h=>by
  simp only[rM]at h;split at h
  ·rename_i u hu;cases h;simp only[den,rN l hu]
  ·cases h
 |.aI l,v',h=>by
  simp only[rM]at h;split at h
  ·rename_i u hu;cases h;simp only[den,nC l hu]
  ·cases h
 |.int _ _,v',h=>by cases h;simp[den]
 |.bool _,v',h=>by cases h;simp[den]
 |.ew _ _ _,v',h=>by cases h;simp[den]
 |.arr _ _ _,v',h=>by cases h;simp[den]
 |.jS _ _ _ _,v',h=>by cases h;simp[den]
 |.rest _,v',h=>by cases h;simp[den]
 |.fY _ _ _,v',h=>by cases h;simp[den]
 |.pe i o j z q,v',h=>by
  simp only[rM]at h;split at h
  ·rename_i k hk;cases h;simp only[den,tJ hk]
  ·cases h
 |.raw _,v',h=>by cases h;simp[den]
theorem nC {ids dq:List Nat}:∀(l:List V) {l':List V},wT dq l=some l'->az (dq.map λj=>ids.getD j 0) l'=az ids l
 |[],l',h=>by cases h;rfl
 |v::l,l',h=>by
  simp only[wT]at h;split at h
  ·rename_i v1 l1 hv hl;cases h;simp only[az,qe v hv,nC l hl]
  ·cases h
theorem rN {ids dq:List Nat}:∀(l:List V) {l':List V},wT dq l=some l'->ai (dq.map λj=>ids.getD j 0) l'=ai ids l
 |[],l',h=>by cases h;rfl
 |v::l,l',h=>by
  simp only[wT]at h;split at h
  ·rename_i v1 l1 hv hl;cases h;simp only[ai,qe v hv,rN l hl];congr 1;cases v<;>simp only[rM]at hv<;>(try split at hv)<;>first|(cases hv;rfl)|(cases hv;done)
  ·cases h
end
theorem GU {ids dq:List Nat} {bl:List VB} (hl:ids.length=bl.length):∀(is:List Nat) {bl':List VB},SI bl dq is=some bl'->(is.map λj=>ids.getD j 0).length=bl'.length/\
 lits (dq.map λj=>ids.getD j 0) (is.map λj=>ids.getD j 0) bl'=(is.map λj=>aW ids (ids.getD j 0) (bl.getD j vbz))/\∀j∈is,j<bl.length
 |[],bl',h=>by cases h;simp[lits]
 |i::is,bl',h=>by
  unfold SI at h;split at h
  ·rename_i b hb;split at h
   ·rename_i c l hc hL;cases h;obtain⟨h1,h2,h3⟩:=GU hl is hL;have im:i<bl.length:=by rcases Nat.lt_or_ge i bl.length with h'|h';exact h';simp[h']at hb
    refine⟨by simpa using h1,?_,?_⟩
    ·simp only[List.map_cons,lits,h2];congr 1;simp only[aW,rN _ hc];simp[List.getD,hb]
    ·intro j hj;rcases List.mem_cons.1 hj with rfl|hj
     ·exact im
     ·exact h3 j hj
   ·cases h
  ·cases h
theorem xC (ids:List Nat):∀(is:List Nat) (bl:List VB),is.length=bl.length->lits ids is bl=(List.range bl.length).map λj=>aW ids (is.getD j 0) (bl.getD j vbz)
 |[],[],_=>rfl
 |i::is,b::bl,h=>by
  rw[List.length_cons,List.range_succ_eq_map,List.map_cons,List.map_map];simp only[lits];rw[xC ids is bl (by simpa using h)];rfl
theorem BA:∀{a b:List Nat},gcR.Bz a b=true->∃c,b=a++c
 |[],b,_=>⟨b,rfl⟩
 |i::a,j::b,h=>by
  simp only[gcR.Bz,Bool.and_eq_true]at h;obtain⟨c,rfl⟩:=BA h.2;exact⟨c,by simp[Nat.eq_of_beq_eq_true h.1]⟩
 |_::_,[],h=>by cases h
theorem uM (ids:List Nat):∀n,n<=ids.length->(mS n).map (λj=>ids.getD j 0)=ids.take n
 |0,_=>by simp[mS]
 |n+1,h=>by
  simp only[mS,List.map_append,List.map_cons,List.map_nil,uM ids n (by omega)];rw[List.take_add_one];congr 1;have:n<ids.length:=by omega
  simp[List.getD,List.getElem?_eq_getElem this]
theorem eQ {G:Type} {n0:Nat} {K:VK G} {v:V} {bl:List VB} {ch:List G} {ids:List Nat} {X:List aC} {ms:List Nat} {w0 w:World} (hl:ids.length=bl.length) (hn:n0<=ids.length) (S:St ms w0 (lits ids ids bl++X) w) (h:eB n0 K v bl ch):
 ∃v' more bl',den ids v=den (ids.take n0++more) v'/\(ids.take n0++more).length=bl'.length/\St ms w0 (lits (ids.take n0++more) (ids.take n0++more) bl'++X) w/\K v' bl' ch:=by
 unfold eB at h;generalize gcN bl bl.length 0 (My (mS n0) (SH v))=dq at h;unfold gcR at h;cases hq:rK dq&&gcR.Bz (mS n0) dq with
 |false=>rw[hq]at h;exact h.elim
 |true=>
  rw[hq]at h;simp only[cond_true]at h;simp only[Bool.and_eq_true]at hq;have Ry:=oH hq.1;obtain⟨c,hc⟩:=BA hq.2;split at h
  ·rename_i v' bl' hv;split at hv
   ·rename_i v1 wG Rp Ef;cases hv;obtain⟨h1,h2,h3⟩:=GU hl dq Ef;have e:dq.map (λj=>ids.getD j 0)=ids.take n0++c.map λj=>ids.getD j 0:=by
     rw[hc,List.map_append,uM ids n0 hn]
    refine⟨_,c.map λj=>ids.getD j 0,_,?_,?_,?_,h⟩
    ·rw[<-e];exact(qe v Rp).symm
    ·rw[<-e];exact h1
    ·rw[<-e,h2];obtain⟨r,hr⟩:=mI dq (List.range bl.length) Ry (λx hx=>List.mem_range.2 (h3 x hx));rw[xC ids ids bl hl]at S;have S1:=S.perm ((hr.map _).append_right X);rw[List.map_append]at S1;exact S1.sub (List.Sublist.append_right (List.sublist_append_left _ _) _)
   ·cases hv
  ·exact h.elim
theorem Eg {P:Program} {w:World} {b:Nat} {kd:IntKind} {l:List (Int×Value)} {kv:Int} {vv:Value} {mt kt et:TypeId} (hu:P.underlying mt=some (.map kt et)) (hk:P.underlying kt=some (.int kd)) (cD:w.heap[b]?=some (nM kd l)) (hn:l.all (λx=>x.1!=kv)=true):
 (Instr.mapUpdate mt (.map (some b)) (.int kd kv) vv).run P w=.ok () {w with heap:=w.heap.setIfInBounds b (nM kd (l++[(kv,vv)]))}:=by
 have BB:w.heap[b]?=some (.map ((l.zipIdx.map λx=>(⟨.int kd x.1.1,x.1.2,x.2⟩:MapEntry)).toArray) l.length):=cD;have hf:Instr.findNow (.int kd) (.int kd kv) ((l.zipIdx.map λx=>(⟨.int kd x.1.1,x.1.2,x.2⟩:MapEntry)).toArray).toList 0=some none:=uq kd kv _ 0 (Ls hn);have hc:(Instr.checkKey false 10000 kt (.int kd kv)).run P w=.ok () w:=MapKept.run_checkKey (k:=.int kd kv) hk (by simp[MapKept.IsKey]) false 9999;have acK:(Instr.mapUpdate mt (.map (some b)) (.int kd kv) vv).run P w=.ok () {w with heap:=w.heap.setIfInBounds b (Obj.map (((l.zipIdx.map λx=>(⟨.int kd x.1.1,x.1.2,x.2⟩:MapEntry)).toArray).push ⟨.int kd kv,vv,l.length⟩) (l.length+1))}:=by
  generalize ((l.zipIdx.map λx=>(⟨.int kd x.1.1,x.1.2,x.2⟩:MapEntry)).toArray)=es at*;simp[Instr.mapUpdate,run_underlying hu,MapKept.run_getObj_map BB,hc,MapKept.run_findKey hk hf,MapKept.run_setObj_map _ BB,Result.andThen]
 rw[acK,ID]
theorem Eh {P:Program} {w:World} {b:Nat} {kd:IntKind} {l:List (Int×Value)} {kv:Int} {v:Value} {mt kt et:TypeId} (hu:P.underlying mt=some (.map kt et)) (hk:P.underlying kt=some (.int kd)) (cD:w.heap[b]?=some (nM kd l))
 (hn:∃j,Instr.findNow (.int kd) (.int kd kv) ((l.zipIdx.map λx=>(⟨.int kd x.1.1,x.1.2,x.2⟩:MapEntry)).toArray).toList 0=some (some (j,v))):(Instr.lookup mt (.map (some b)) (.int kd kv) true).run P w=.ok (.tuple #[v,.bool true]) w:=by
 obtain⟨j,hf⟩:=hn;have BB:w.heap[b]?=some (.map ((l.zipIdx.map λx=>(⟨.int kd x.1.1,x.1.2,x.2⟩:MapEntry)).toArray) l.length):=cD;have hc:∀e,(Instr.checkKey e 10000 kt (.int kd kv)).run P w=.ok () w:=λe=>MapKept.run_checkKey (k:=.int kd kv) hk (by simp[MapKept.IsKey]) e 9999;simp[Instr.lookup,run_underlying hu,MapKept.run_getObj_map BB,hc,MapKept.run_findKey hk hf,Result.andThen]
structure BC where
 id:Nat
 tb:List (Int×Value)
instance:Bl BC:=⟨λg=>[⟨g.id,true,nM .i64 g.tb⟩]⟩
def YJ (P:Program):(Operand->V)->Op->List VB->List BC->VK BC->Prop:=λe op bl ch K=>match op with
 |.makeMap t none=>(match ch with
  |[]=>∀id,K (.raw (.map (some id))) bl [⟨id,[]⟩]
  |_=>False)
 |.insert mt m k x=>(match ch,e m,e k with
  |[g],.raw mv,.int .i64 kv=>(match P.underlying mt with
   |some (.map kt _)=>(match P.underlying kt with
    |some (.int .i64)=>cond (g.tb.all (λx=>x.1!=kv)&&fR 0 (e x)) (mv=.map (some g.id)/\K cG bl [⟨g.id,g.tb++[(kv,den [] (e x))]⟩]) False
    |_=>False)
   |_=>False)
  |_,_,_=>False)
 |_=>False
theorem SJ {P:Program} {gl:Nat->Option Nat}:wD P gl (YJ P):=by
 intro e op ids bl ch R ms w0 w K ρ o hg hl S cX ho h;unfold YJ at h;split at h
 ·rename_i t;split at h
  ·refine⟨_,[],bl,_,w.alloc (.map #[] 0),.inl ?_,by simpa using hl,?_,h w.heap.size⟩
   ·unfold execOp;simp[ho,run_makeMap,Result.andThen,den]
   ·have:=S.new (Ch.alloc [] w (.map #[] 0)) (Nat.le_refl _) (heap_alloc_new w _);rw[List.append_nil];refine this.perm ?_;exact List.perm_middle.symm
  ·exact h.elim
 ·rename_i mt m k x;split at h
  ·rename_i g mv kv hm hk;split at h
   ·rename_i kt et hu;split at h
    ·rename_i hkt;cases hq:g.tb.all (λx=>x.1!=kv)&&fR 0 (e x)with
     |false=>rw[hq]at h;exact h.elim
     |true=>
      rw[hq]at h;simp only[cond_true]at h;simp only[Bool.and_eq_true]at hq;obtain⟨rfl,hK⟩:=h;have e0:lits ids ids bl++ak [g] R=lits ids ids bl++(⟨g.id,true,nM .i64 g.tb⟩::R):=rfl;rw[e0]at S;have cD:=S.at' (x:=⟨g.id,true,nM .i64 g.tb⟩) (by simp);have hx:den ids (e x)=den [] (e x):=by have:=bR (ids:=[]) (more:=ids) (e x) hq.2;simpa using this
      have bO:=Eg (P:=P) (vv:=den ids (e x)) hu hkt cD hq.1;refine⟨cG,[],bl,_,{w with heap:=w.heap.setIfInBounds g.id (nM .i64 (g.tb++[(kv,den ids (e x))]))},.inr ⟨?_,rfl⟩,by simpa using hl,?_,hK⟩
      ·unfold execOp;simp only[ho,cX,hm,hk,den]at bO⊢;simp only[Sem.run_bind,bO,Result.andThen_ok];rfl
      ·rw[List.append_nil,<-hx];have hi:(lits ids ids bl++(⟨g.id,true,nM .i64 g.tb⟩::R))[(lits ids ids bl).length]?=some ⟨g.id,true,nM .i64 g.tb⟩:=by simp
       have:=S.step hi rfl (Ch.acs w g.id (nM .i64 (g.tb++[(kv,den ids (e x))]))) (MapKept.heap_set cD).1;rw[List.set_append_right _ _ (Nat.le_refl _),Nat.sub_self]at this;exact this
    ·exact h.elim
   ·exact h.elim
  ·exact h.elim
 ·exact h.elim
def YK (P:Program) (gl:Nat->Option Nat) (L:List (eG BC)):Ctx BC:=⟨P,Mv L,gl,SA L,YJ P,SJ,λ_ _=>none⟩
def wU {G:Type} [Bl G] (P:Program) (gl:Nat->Option Nat) (L:List (eG G)) (h:(Operand->V)->Op->List VB->List G->VK G->Prop) (yq:wD P gl h):Ctx G:=⟨P,Mv L,gl,SA L,h,yq,λ_ _=>none⟩
theorem Sound.gl {G:Type} [Bl G] {P:Program} {gl gl':Nat->Option Nat} {f:Nat} {c:jq G} (h:Sound P gl f c) (hg:∀ids,Gl gl' ids->Gl gl ids):Sound P gl' f c:=
 λargs ids bl ch R ms w0 w K h1 h2 S hc=>h args ids bl ch R ms w0 w K (hg ids h1) h2 S hc
inductive Sm (G:Type) where
 |g (x:G)
 |m (x:BC)
instance{G:Type} [Bl G]:Bl (Sm G):=⟨λx=>match x with|.g x=>Bl.B x|.m x=>Bl.B x⟩
def gs {G:Type}:List G->List (Sm G)
 |[]=>[]
 |x::l=>.g x::gs l
theorem GV {G:Type} [Bl G] (R:List aC):∀(l:List G) (r:List (Sm G)),ak (gs l++r) R=ak l (ak r R)
 |[],r=>rfl
 |x::l,r=>by
  simp only[gs,List.cons_append,ak,GV R l r];rfl
def BD {G:Type} (c:jq G):jq (Sm G):=λargs bl ch K=>match ch with
 |.g x::rest=>c args bl [x] λv bl' ch'=>K v bl' (gs ch'++rest)
 |_=>False
theorem Ei {G:Type} [Bl G] {P:Program} {gl:Nat->Option Nat} {f:Nat} {c:jq G} (h:Sound P gl f c):Sound P gl f (BD c):=by
 intro args ids bl ch R ms w0 w K hg hl S hc;unfold BD at hc;split at hc
 ·rename_i x rest;have e:ak (.g x::rest:List (Sm G)) R=ak [x] (ak rest R):=rfl;rw[e]at S;refine(h args ids bl [x] (ak rest R) ms w0 w _ hg hl S hc).mono ?_;rintro v w' ⟨y,more,bl',ch',rfl,h1,S1,hK⟩;exact⟨y,more,bl',_,rfl,h1,by rw[GV];exact S1,hK⟩
 ·exact hc.elim
theorem Ej {G:Type} {c:jq G} (h:fC c):fC (BD c):=by
 intro args bl ch K hc;unfold BD at hc⊢;split at hc
 ·exact h _ _ _ _ hc
 ·exact hc.elim
def Mz {G:Type}:List (eG G)->List (eG (Sm G))
 |[]=>[]
 |e::l=>⟨e.f,e.q,BD e.c⟩::Mz l
theorem BE {G:Type} [Bl G] {P:Program} {gl gl':Nat->Option Nat} (hg:∀ids,Gl gl' ids->Gl gl ids):∀{L:List (eG G)},ao P gl L->ao P gl' (Mz L)
 |[],_=>ao.nil
 |e::l,h=>ao.cons ⟨Ei ((h e (by simp)).1.gl hg),λhq=>Ej ((h e (by simp)).2 hq)⟩ (BE hg λx hx=>h x (by simp[hx]))
end Vx
