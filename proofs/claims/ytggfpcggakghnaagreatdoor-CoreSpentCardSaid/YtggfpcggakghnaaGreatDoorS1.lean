/- Part 1 of the proof. -/
import Derived.WideMake
import Derived.Test.YtggfpcggakghnaaGreatDoorS0
set_option linter.all false
set_option maxRecDepth 100000
set_option maxHeartbeats 4000000
namespace Sx
open Go Go.RowKit Go.BigFrame
def HQ (k0:Nat) (pv:Value->World->Prop) (sp:Nat->Sp) (B:Nat) (i:Nat) (v:Value) (w:World):Prop:=match Nat.beq i k0 with|true=>pv v w|false=>(sp i).holds B v w
def mV (k0:Nat) (l:List Oper) (sp:Nat->Sp) (i:Nat) (o:Oper):Bool:=o.guard.isNone&&ue (eH l sp ⟨#[],[]⟩ o) o&&
 o.op.operands.toList.all λx=>match x with|.tmp t=>(match qm l o t with|some j=>!(Nat.beq j k0)&&Nat.beq (sp j).k 0|none=>qj l i t)|_=>true
section
variable{P:Program} {lf l:List Oper} {sp:Nat->Sp} {a0:Act} {w:World} {i k0:Nat} {pre:List (List Nat)} {o:Oper} {es:List Nat} {pv:Value->World->Prop}
theorem O9 {H:Nat->Value->World->Prop} (hs:mV k0 l sp i o=true) {B:Nat} {y:Nat->Value} {w':World} (mU:∀t,qj l i t=true->y t=fI a0 t) (gh:∀j d,gD o j=true->(l[j]?).bind (·.dst)=some d->HQ k0 pv sp B j (y d) w'):
 mQ y (eH l sp a0 o)/\ue (eH l sp a0 o) o=true/\o.guard=none:=by
 simp only[mV,Bool.and_eq_true]at hs;obtain⟨⟨hg,Fv⟩,di⟩:=hs;refine⟨o8 λp hp=>?_,qn Fv,by cases hx:o.guard<;>simp_all⟩;simp only[eH,List.mem_filterMap]at hp;obtain⟨x,hx,hp⟩:=hp;cases x with
 |tmp t=>
  simp only[Option.some.injEq]at hp;subst hp;have h1:=List.all_eq_true.1 di _ hx;simp only at h1;unfold valOf;cases fZ:qm l o t with
  |some j=>
   rw[fZ]at h1;obtain⟨he,hd⟩:=lG fZ;simp only[Bool.and_eq_true,Bool.not_eq_true']at h1;have h2:=gh j t he hd;unfold HQ at h2;rw[h1.1]at h2;obtain⟨ids,h3,h4,_⟩:=h2;have h5:(sp j).k=0:=Nat.eq_of_beq_eq_true h1.2;obtain rfl:ids=[]:=List.eq_nil_of_length_eq_zero (by rw[h3,h5]);exact h4
  |none=>
   rw[fZ]at h1;exact mU t h1
 |_=>simp at hp
theorem Ai (e_:Nat.beq i k0=false) (hk:(sp i).k=0) (hb:(sp i).bl []=[]) (hs:mV k0 l sp i o=true) (h:∀w',Ch es w w'->Yields P o (j6 (eH l sp a0 o)) w' λv mN=>Ch [] w' mN/\v=(sp i).f []):
 gk P k0 pre es (HQ k0 pv sp w.heap.size) lf l (fI a0) w i o:=by
 intro y w' _ hc mU gh;obtain⟨ZA,Fv,hg⟩:=O9 (H:=λ_ _ _=>True) hs mU gh;have oJ:i≠k0:=λe=>by rw[e]at e_;simp at e_
 have hH:∀v mN,v=(sp i).f []->HQ k0 pv sp w.heap.size i v mN:=λv mN e=>by
  unfold HQ;rw[e_];exact⟨[],by simp[hk],e,by rw[hb];simp⟩
 refine⟨λ_=>?_,λhw=>by simp[fe,hg]at hw⟩;refine mR _ ZA ?_ Fv;have:=h w' hc;unfold Yields at this⊢;split at this
 ·exact⟨λe'=>absurd e' oJ,λ_=>this.1,hH _ _ this.2⟩
 ·exact⟨λe'=>absurd e' oJ,λ_=>this.1,hH _ _ this.2⟩
 ·exact this.mono λv mN h=>⟨λe'=>absurd e' oJ,λ_=>h.1,hH _ _ h.2⟩
 ·exact this.elim
def NF (k0:Nat) (l:List Oper) (sp:Nat->Sp) (i:Nat) (o:Oper):Bool:=!(Nat.beq i k0)&&Nat.beq (sp i).k 0&&(sp i).bl [] matches[]&&mV k0 l sp i o
theorem u5 (h:NF k0 l sp i o=true):Nat.beq i k0=false/\(sp i).k=0/\(sp i).bl []=[]/\mV k0 l sp i o=true:=by
 simp only[NF,Bool.and_eq_true,Bool.not_eq_true']at h;refine⟨h.1.1.1,Nat.eq_of_beq_eq_true h.1.1.2,?_,h.2⟩;have:=h.1.2;revert this;cases(sp i).bl []<;>simp
theorem NN (hs:NF k0 l sp i o=true:=by kernel_rfl) (h:(λw=>(execOp (j6 (eH l sp a0 o)) o).run P w)=(λw=>.ok (.value ((sp i).f [])) w):=by kernel_rfl):gk P k0 pre es (HQ k0 pv sp w.heap.size) lf l (fI a0) w i o:=by
 obtain⟨h1,h2,h3,h4⟩:=u5 hs;refine Ai h1 h2 h3 h4 λw' _=>?_;have h2:(execOp (j6 (eH l sp a0 o)) o).run P w'=.ok (.value ((sp i).f [])) w':=congrFun h w';unfold Yields;rw[h2];exact⟨Ch.refl _ _,rfl⟩
theorem eC_ (f:FuncId) (args:Array Value) (hg:∀w',aj P f args w' λv mN=>v=(sp i).f []/\Ch [] w' mN) (hs:NF k0 l sp i o=true:=by kernel_rfl) (h:(λw=>(execOp (j6 (eH l sp a0 o)) o).run P w)=(λw=>.ok (.enter f args) w):=by kernel_rfl):gk P k0 pre es (HQ k0 pv sp w.heap.size) lf l (fI a0) w i o:=by
 obtain⟨h1,h2,h3,h4⟩:=u5 hs;refine Ai h1 h2 h3 h4 λw' _=>?_;have h2:(execOp (j6 (eH l sp a0 o)) o).run P w'=.ok (.enter f args) w':=congrFun h w';unfold Yields;rw[h2];exact(hg w').mono λv mN h=>⟨h.2,h.1⟩
variable{ms:List Nat} {w0:World} {bs:List av}
theorem eL_ (S:∀w',Ch es w w'->St ms w0 bs w') (j b off:Nat) {x:Operand} {ty:TypeId} (ho:o.op=.load ty x:=by rfl) (hs:NF k0 l sp i o=true:=by kernel_rfl) (hx:j6 (eH l sp a0 o) x=.pointer (some ⟨b,off,none⟩):=by kernel_rfl)
 (ha:(P.underlying ty).map jt=some false:=by kernel_rfl) (hb:lk bs j off=some (b,(sp i).f []):=by kernel_rfl):gk P k0 pre es (HQ k0 pv sp w.heap.size) lf l (fI a0) w i o:=by
 obtain⟨h1,h2,h3,h4⟩:=u5 hs;exact Ai h1 h2 h3 h4 λw' hc=>Y.ir (S w' hc) j _ b off ⟨Ch.refl _ _,rfl⟩ ho hx ha hb
theorem ZB (S:∀w',Ch es w w'->St ms w0 bs w') (j b off n:Nat) (vs:Array Value) {x:Operand} {ty:TypeId} (ho:o.op=.load ty x:=by rfl) (hv:(sp i).f []=.agg vs:=by kernel_rfl) (hs:NF k0 l sp i o=true:=by kernel_rfl) (hx:j6 (eH l sp a0 o) x=.pointer (some ⟨b,off,none⟩):=by kernel_rfl)
 (ha:(P.underlying ty).map jt=some true:=by kernel_rfl) (hn:(P.info? ty).map (·.size)=some n:=by kernel_rfl) (hb:HR bs j off n=some (b,vs):=by kernel_rfl):gk P k0 pre es (HQ k0 pv sp w.heap.size) lf l (fI a0) w i o:=by
 obtain⟨h1,h2,h3,h4⟩:=u5 hs;exact Ai h1 h2 h3 h4 λw' hc=>Y.eC (S w' hc) j n vs b off ⟨Ch.refl _ _,hv.symm⟩ ho hx ha hn hb
theorem Wj (he:Nat.beq i k0=true) (hs:mV k0 l sp i o=true) (h:∀w',Ch [] w w'->Yields P o (j6 (eH l sp a0 o)) w' λv mN=>Ch es w' mN/\pv v mN):
 gk P k0 pre es (HQ k0 pv sp w.heap.size) lf l (fI a0) w i o:=by
 intro y w' hc0 _ mU gh;obtain⟨ZA,Fv,hg⟩:=O9 (H:=λ_ _ _=>True) hs mU gh;have oJ:i=k0:=Nat.eq_of_beq_eq_true he;refine⟨λ_=>?_,λhw=>by simp[fe,hg]at hw⟩;refine mR _ ZA ?_ Fv;have:=h w' (hc0 (.inl oJ));have hH:∀v mN,pv v mN->HQ k0 pv sp w.heap.size i v mN:=λv mN e=>by unfold HQ;rw[he];exact e
 unfold Yields at this⊢;split at this
 ·exact⟨λ_=>this.1,λe=>absurd oJ e,hH _ _ this.2⟩
 ·exact⟨λ_=>this.1,λe=>absurd oJ e,hH _ _ this.2⟩
 ·exact this.mono λv mN e=>⟨λ_=>e.1,λe'=>absurd oJ e',hH _ _ e.2⟩
 ·exact this.elim
def pvS (b:Nat) (bs:List av) (j off:Nat) (vs:List Value) (_:Value) (w:World):Prop:=∃x,(Wd bs j off vs)[j]?=some x/\w.heap[b]?=some x.obj
theorem eW_ (S:St ms w0 bs w) (j:Nat) (v:Value) (b off:Nat) {x y:Operand} {ty:TypeId} (ho:o.op=.store ty x y:=by rfl) (hs:mV k0 l sp i o=true:=by kernel_rfl) (he:Nat.beq i k0=true:=by kernel_rfl) (hx:j6 (eH l sp a0 o) x=.pointer (some ⟨b,off,none⟩):=by kernel_rfl) (hy:j6 (eH l sp a0 o) y=v:=by kernel_rfl)
 (hn:(P.info? ty).map (·.size)=some v.cells.toList.length:=by kernel_rfl) (h1:v.cells.toList.all (·.oneCell')=true:=by kernel_rfl) (hb:Ib bs j off v.cells.toList.length=some b:=by kernel_rfl):gk P k0 pre [b] (HQ k0 (pvS b bs j off v.cells.toList) sp w.heap.size) lf l (fI a0) w i o:=by
 refine Wj he hs λw' hc=>?_;obtain⟨cs,t,VF,hl⟩:=Ab hb;have ba:=(S.quiet hc).at_ j _ VF;unfold Yields execOp;simp only[ho,hx,hy,Instr.storeAt,Instr.sureAddr,Sem.run_bind,Sem.run_pure,Result.andThen_ok,ly (P:=P) ba rfl hn hl h1];refine⟨Ch.setRow w' b _,⟨b,true,.cells (splice cs off v.cells.toList) t (0,0)⟩,?_,setRow_heap w' b cs _ t (0,0) ba⟩;have hj:j<bs.length:=by
  rcases Nat.lt_or_ge j bs.length with h|h
  ·exact h
  ·simp[h]at VF
 simp only[Wd,VF];rw[List.getElem?_set_self hj]
theorem St.aa6 (S:St ms w0 bs w) (j off n:Nat) {b:Nat} (hb:Ib bs j off n=some b):∀w',Ch [b] w w'->St ms w0 (bs.eraseIdx j) w':=by
 intro w' hc;obtain⟨cs,t,VF,_⟩:=Ab hb;have S1:St ms w0 ([]++([⟨b,true,.cells cs t (0,0)⟩]++bs.eraseIdx j)) w:=S.perm (oK VF);exact S1.less (by simp) (by simpa using hc)
end
theorem sQ {P:Program} {k0:Nat} {pre:List (List Nat)} {es:List Nat} {H:Nat->Value->World->Prop} {lf l:List Oper} {y0:Nat->Value} {w:World} {i:Nat}:eQ P k0 pre es H lf l y0 w i []:=trivial
theorem bZ {P:Program} {k0:Nat} {pre:List (List Nat)} {es:List Nat} {H:Nat->Value->World->Prop} {lf l:List Oper} {y0:Nat->Value} {w:World} {i:Nat} {o:Oper} {rest:List Oper} (h:gk P k0 pre es H lf l y0 w i o) (k:eQ P k0 pre es H lf l y0 w (i+1) rest):eQ P k0 pre es H lf l y0 w i (o::rest):=⟨h,k⟩
theorem vT {vs:Nat->Value}:∀{l:List Oper} {dA:List Value} {k:Nat} {a:Act},dA.length=l.length->(∀i o v,l[i]?=some o->dA[i]?=some v->o.dst=none\/vs (k+i)=v)->bK vs k l a=mP dA l a
 |[],[],_,_,_,_=>rfl
 |o::rest,v::dA,k,a,h,hv=>by
  simp only[bK,mP];have h0:=hv 0 o v rfl rfl;have e:a.put o.dst (vs k)=a.put o.dst v:=by
   rcases h0 with h0|h0
   ·rw[h0];rfl
   ·rw[Nat.add_zero]at h0;rw[h0]
  rw[e];exact vT (by simpa using h) λi o' v' h1 h2=>by
   have:=hv (i+1) o' v' (by simpa using h1) (by simpa using h2)
   rwa [show k+(i+1)=k+1+i by omega]at this
 |[],_::_,_,_,h,_=>by simp at h
 |_::_,[],_,_,h,_=>by simp at h
section
variable{P:Program} {a0:Act} {w w0:World} {Q:Exit->Act->World->Prop} {id:Nat} {L:List Oper} {ms:List Nat} {bs:List av}
theorem I0 (m k0:Nat) (pre:List (List Nat)) (es:List Nat) (pv:Value->World->Prop) (dA:List Value) (paths:List (List Nat)) (sp:Nat->Sp)
 (gh:CJ (L.take m) k0 pre=true) (hpv:∀v w w',Ch [] w w'->pv v w->pv v w') (qc:∀x∈es,x<w.heap.size)
 (hs:eQ P k0 pre es (HQ k0 pv sp w.heap.size) L (L.take m) (fI a0) w 0 (L.take m))
 (hq:∀(vs:Nat->Value) w',Ch es w w'->(∀i,i<m->HQ k0 pv sp w.heap.size i (vs i) w')->WL P L.toArray Q (L.drop m) (bK vs 0 (L.take m) a0) w')
 (hm:P.follows .mixedOrders=true) (hl:Nat.ble m L.length=true) (ht:jd L m paths=true) (kB:nM a0.tmps.size (L.take m)=true) (dN:fE 0 L=true):(Code.region id L.toArray true).wp P Q a0 w:=by
 have OE:(L.take m).length=m:=by have:=Nat.le_of_ble_eq_true hl;simp;omega
 have h:=Wg (id:=id) (Q:=Q) (P:=P) (k0:=k0) (es:=es) (H:=HQ k0 pv sp w.heap.size) (a0:=a0) (w0:=w) (L.take m) (L.drop m) ?_ gh ?_ paths hm (by rw[List.take_append_drop,OE];exact ht) kB (by rw[List.take_append_drop];exact dN) (by rw[List.take_append_drop];exact hs) ?_
 ·rwa [List.take_append_drop]at h
 ·intro i v w1 w2 hc hH;unfold HQ at*;split at hH
  ·exact hpv _ _ _ hc hH
  ·exact hH.O1 hc
 ·intro i v w1 w2 oJ hle hc hH;unfold HQ at*;split at hH
  ·rename_i h;exact absurd (Nat.eq_of_beq_eq_true h) oJ
  ·obtain⟨ids,h1,h2,h3⟩:=hH;refine⟨ids,h1,h2,λp hp=>⟨(h3 p hp).1,(hc.block _ (fW (h3 p hp).2) (λhx=>?_)).trans (h3 p hp).2⟩⟩;have:=qc _ hx;have:=(h3 p hp).1;omega
 ·intro vs w' hc di;rw[List.take_append_drop];exact(hq vs w' hc λi hi=>di i _ (List.getElem?_eq_getElem (by omega))).out
theorem I1 (S:St ms w0 bs w) (m k0 j b off:Nat) (pre:List (List Nat)) (v:Value) (dA:List Value) (paths:List (List Nat))
 (hs:eQ P k0 pre [b] (HQ k0 (pvS b bs j off v.cells.toList) (OC (dA.map s0)) w.heap.size) L (L.take m) (fI a0) w 0 (L.take m))
 (hq:∀w',St ms w0 (Wd bs j off v.cells.toList) w'->WL P L.toArray Q (L.drop m) (mP dA (L.take m) a0) w')
 (hb:Ib bs j off v.cells.toList.length=some b:=by kernel_rfl) (hk:((L.take m)[k0]?).map (·.dst)=some none:=by kernel_rfl) (hvl:dA.length=m:=by kernel_rfl) (gh:CJ (L.take m) k0 pre=true:=by kernel_rfl)
 (hm:P.follows .mixedOrders=true:=by kernel_rfl) (hl:Nat.ble m L.length=true:=by kernel_rfl) (ht:jd L m paths=true:=by kernel_rfl) (kB:nM a0.tmps.size (L.take m)=true:=by kernel_rfl) (dN:fE 0 L=true:=by kernel_rfl):(Code.region id L.toArray true).wp P Q a0 w:=by
 obtain⟨cs,t,VF,hle⟩:=Ab hb;have OE:(L.take m).length=m:=by have:=Nat.le_of_ble_eq_true hl;simp;omega
 have hj:j<bs.length:=by
  rcases Nat.lt_or_ge j bs.length with h|h
  ·exact h
  ·simp[h]at VF
 have mK:Wd bs j off v.cells.toList=bs.set j ⟨b,true,.cells (splice cs off v.cells.toList) t (0,0)⟩:=by simp only[Wd,VF]
 refine I0 m k0 pre [b] _ dA paths _ gh ?_ ?_ hs ?_ hm hl ht kB dN
 ·rintro v' w1 w2 hc ⟨x,h1,h2⟩;exact⟨x,h1,(hc.block _ (fW h2) (by simp)).trans h2⟩
 ·intro x hx;obtain rfl:=List.mem_singleton.1 hx;exact S.lt VF
 ·intro vs w' hc di;obtain⟨ok,hok,hdk⟩:=Option.map_eq_some_iff.1 hk;have OF:k0<m:=by
   rcases Nat.lt_or_ge k0 m with h|h
   ·exact h
   ·rw[List.getElem?_eq_none (by omega)]at hok;simp at hok
  have hp:bK vs 0 (L.take m) a0=mP dA (L.take m) a0:=vT (by omega) λi o u ho hu=>by
   have hi:i<m:=by
    rcases Nat.lt_or_ge i dA.length with h|h
    ·omega
    ·simp[h]at hu
   by_cases oJ:i=k0
   ·subst oJ;rw[hok]at ho;exact .inl (by rw[<-Option.some.inj ho];exact hdk)
   ·have hH:=di i hi;unfold HQ at hH;have e_:Nat.beq i k0=false:=by
     cases hx:Nat.beq i k0
     ·rfl
     ·exact absurd (Nat.eq_of_beq_eq_true hx) oJ
    rw[e_]at hH;obtain⟨ids,h1,h2,_⟩:=hH;have h3:OC (dA.map s0) i=s0 u:=by
     unfold OC;rw[List.getD_eq_getElem?_getD,List.getElem?_map,hu];rfl
    rw[h3]at h1 h2;obtain rfl:ids=[]:=List.eq_nil_of_length_eq_zero (by simpa[s0]using h1);refine .inr ?_;rw[Nat.zero_add,h2];rfl
  rw[hp];refine hq w' ?_;have hH:=di k0 OF;unfold HQ at hH;rw[show Nat.beq k0 k0=true from Nat.beq_refl k0]at hH;obtain⟨x,hx,hxo⟩:=hH;rw[mK,List.getElem?_set_self hj]at hx;obtain rfl:=Option.some.inj hx;rw[mK];exact S.step VF rfl (by simpa using hc) hxo
end
end Sx
namespace Sx
open Go Go.RowKit Go.BigFrame
section
variable{P:Program} {ops:Array Oper} {rest:List Oper} {o:Oper} {a:Act} {w w0:World} {ms:List Nat} {bs:List av} {Q:Exit->Act->World->Prop}
end
end Sx
namespace Sx
open Go Go.RowKit Go.BigFrame
section
variable{P:Program} {a:Act} {w:World} {Q:Exit->Act->World->Prop}
end
section
variable{P:Program} {ops:Array Oper} {rest:List Oper} {o:Oper} {a:Act} {w:World} {Q:Exit->Act->World->Prop}
end
end Sx
namespace Sx
open Go Go.RowKit Go.BigFrame
section
variable{P:Program} {ops:Array Oper} {rest:List Oper} {o:Oper} {a:Act} {w:World} {Q:Exit->Act->World->Prop} {z T m n c:Nat} {news:List Value} {s x:Operand} {t tx:TypeId} {xv:Value}
end
end Sx
namespace Sx.Y
open Go Go.RowKit Go.BigFrame
variable{P:Program} {w:World} {o:Oper} {R:Value->World->Prop} {ρ:Operand->Value}
end Sx.Y
namespace Sx
open Go Go.RowKit Go.BigFrame
section
variable{P:Program} {ops:Array Oper} {rest:List Oper} {o:Oper} {a:Act} {w w0:World} {ms:List Nat} {bs:List av} {Q:Exit->Act->World->Prop}
end
end Sx
namespace Sx
open Go Go.RowKit Go.BigFrame
theorem mS.le {z T olds n bl B B' v} {w:World} (h:mS z T olds n bl B v w) (hb:B'<=B):mS z T olds n bl B' v w:=by
 obtain⟨x,c,bl',h1,h2,h3⟩:=h;exact⟨x,c,bl',h1,h2,λy hy=>⟨(h3 y hy).1,(h3 y hy).2.imp id (λh=>Nat.le_trans hb h)⟩⟩
def sB (m:Nat) (news:List Value) (T:TypeId):Sp:=⟨1,λids=>.slice (some ⟨ids.getD 0 0,0,none⟩) m m,λids=>[(ids.getD 0 0,.cells news.toArray T (0,0))]⟩
section
variable{P:Program} {lf l:List Oper} {sp:Nat->Sp} {a0:Act} {w:World} {i k0:Nat} {pre:List (List Nat)} {o:Oper} {es:List Nat} {pv:Value->World->Prop}
theorem eB_ (m:Nat) (news:List Value) (T:TypeId) (OD:sp i=sB m news T:=by rfl) (e_:Nat.beq i k0=false:=by kernel_rfl) (hs:mV k0 l sp i o=true:=by kernel_rfl)
 (h:(λw=>(execOp (j6 (eH l sp a0 o)) o).run P w)=(λw=>.ok (.value (.slice (some ⟨w.heap.size,0,none⟩) m m)) (w.alloc (.cells news.toArray T (0,0)))):=by kernel_rfl):
 gk P k0 pre es (HQ k0 pv sp w.heap.size) lf l (fI a0) w i o:=by
 intro y w' _ hc mU gh;obtain⟨ZA,Fv,hg⟩:=O9 (H:=λ_ _ _=>True) hs mU gh;have oJ:i≠k0:=λe=>by rw[e]at e_;simp at e_
 refine⟨λ_=>?_,λhw=>by simp[fe,hg]at hw⟩;refine mR _ ZA ?_ Fv;have h2:(execOp (j6 (eH l sp a0 o)) o).run P w'=_:=congrFun h w';unfold Yields;rw[h2];refine⟨λe=>absurd e oJ,λ_=>Ch.alloc _ _ _,?_⟩;unfold HQ;rw[e_,OD];refine⟨[w'.heap.size],rfl,rfl,λp hp=>?_⟩;obtain rfl:=List.mem_singleton.1 hp;exact⟨hc.size,heap_alloc_new w' _⟩
variable{ms:List Nat} {w0:World}
theorem eA_ {A bl R:List av} {xs:Option Addr} {z n c:Nat} {T T':TypeId} {olds:List Value} (S:St ms w0 (A++(bl++R)) w) (hr:fa z T olds xs n c bl) (d1 d2 j2 m:Nat) (news:List Value) (bytes:Nat) {t tx e':TypeId}
 (hbd:(n+m)*bytes<=140737488355328) (h63:n+m<=maxLen) (ho:o.op=.call ⟨.builtin .append,#[.tmp d1,.tmp d2],#[t,tx]⟩:=by rfl) (Lw:news.length=m*z:=by rfl) (h1:news.all (·.oneCell')=true:=by kernel_rfl)
 (hg:o.guard.isNone=true:=by kernel_rfl) (he:Nat.beq i k0=true:=by kernel_rfl)
 (sE:(match qm l o d1 with|some j=>!(Nat.beq j k0)&&Nat.beq (sp j).k 0|none=>qj l i d1)=true:=by kernel_rfl) (VG:valOf l sp a0 o d1=.slice xs n c:=by kernel_rfl)
 (Wk:qm l o d2=some j2:=by kernel_rfl) (Of:Nat.beq j2 k0=false:=by kernel_rfl) (OD:sp j2=sB m news T':=by rfl)
 (ht:P.underlying t=some (.slice T):=by kernel_rfl) (o9:P.underlying tx=some (.slice e'):=by kernel_rfl) (aF:(P.info? T).map (λi=>(i.zero.map (·.cells.size),i.size,i.bytes))=some (some z,z,bytes):=by kernel_rfl):
 gk P k0 pre (bl.map av.id) (HQ k0 (mS z T (olds++news) (n+m) bl w.heap.size) sp w.heap.size) lf l (fI a0) w i o:=by
 intro y w' hc0 hc mU gh;have oJ:i=k0:=Nat.eq_of_beq_eq_true he;have Zy:o.guard=none:=by cases hx:o.guard<;>simp_all
 have hy1:y d1=.slice xs n c:=by
  unfold valOf at VG;cases fZ:qm l o d1 with
  |some j=>
   rw[fZ]at VG sE;obtain⟨ZC,hd⟩:=lG fZ;simp only[Bool.and_eq_true,Bool.not_eq_true']at sE;have h2:=gh j d1 ZC hd;unfold HQ at h2;rw[sE.1]at h2;obtain⟨ids,h3,h4,_⟩:=h2;have h5:(sp j).k=0:=Nat.eq_of_beq_eq_true sE.2;obtain rfl:ids=[]:=List.eq_nil_of_length_eq_zero (by rw[h3,h5]);rw[h4];exact VG
  |none=>
   rw[fZ]at VG sE;rw[mU d1 sE];exact VG
 obtain⟨b,hy2,hb⟩:∃b,y d2=.slice (some ⟨b,0,none⟩) m m/\w'.heap[b]?=some (.cells news.toArray T' (0,0)):=by
  obtain⟨ZC,hd⟩:=lG Wk;have h2:=gh j2 d2 ZC hd;unfold HQ at h2;rw[Of,OD]at h2;obtain⟨ids,h3,h4,h5⟩:=h2
  match ids,h3 with
  |[b],_=>exact⟨b,h4,(h5 (b,.cells news.toArray T' (0,0)) (List.mem_singleton.2 rfl)).2⟩
 have fZ:Src P z tx (.slice (some ⟨b,0,none⟩) m m) m news w':=by
  refine Src.ofSlice w' o9 ⟨b,0,none⟩ m m news Lw (λj u hj=>?_) (λu hu=>List.all_eq_true.1 h1 u hu);rw[Addr.add_lit,cell_of hb];simpa using hj
 have Sq:=S.quiet (hc0 (.inl oJ));obtain⟨v,mN,aY,hc2,hR⟩:=gE (P:=P) (ty:=o.type) (w:=w') hr (λy hy=>Sq.at' (by simp[hy])) bytes fZ ht aF hbd h63;refine⟨λ_=>?_,λhw=>by simp[fe,Zy]at hw⟩;unfold Yields;rw[bP (ρ:=We y) ho (sv:=.slice xs n c) (xv:=.slice (some ⟨b,0,none⟩) m m) hy1 hy2 aY];refine⟨λ_=>hc2,λe=>absurd oJ e,?_⟩;unfold HQ;rw[he];exact hR.le hc.size
end
section
variable{P:Program} {a0:Act} {w w0:World} {Q:Exit->Act->World->Prop} {id:Nat} {L:List Oper} {ms:List Nat}
theorem agu {A bl R:List av} {xs:Option Addr} {z n c:Nat} {T T':TypeId} {olds:List Value} (S:St ms w0 (A++(bl++R)) w) (hr:fa z T olds xs n c bl) (m k0 i1 mm:Nat) (news:List Value) (pre:List (List Nat)) (dA:List Value) (paths:List (List Nat))
 (hs:eQ P k0 pre (bl.map av.id) (HQ k0 (mS z T (olds++news) (n+mm) bl w.heap.size) (OC ((dA.map s0).set i1 (sB mm news T'))) w.heap.size) L (L.take m) (fI a0) w 0 (L.take m))
 (hq:∀x' c' bl' u w',fa z T (olds++news) x' (n+mm) c' bl'->St ms w0 (A++(bl'++R)) w'->WL P L.toArray Q (L.drop m) (mP ((dA.set k0 (.slice x' (n+mm) c')).set i1 u) (L.take m) a0) w')
 (hk:Nat.blt k0 m=true:=by kernel_rfl) (hi:Nat.blt i1 m=true:=by kernel_rfl) (oJ:Nat.beq i1 k0=false:=by kernel_rfl) (hvl:dA.length=m:=by kernel_rfl) (gh:CJ (L.take m) k0 pre=true:=by kernel_rfl)
 (hm:P.follows .mixedOrders=true:=by kernel_rfl) (hl:Nat.ble m L.length=true:=by kernel_rfl) (ht:jd L m paths=true:=by kernel_rfl) (kB:nM a0.tmps.size (L.take m)=true:=by kernel_rfl) (dN:fE 0 L=true:=by kernel_rfl):(Code.region id L.toArray true).wp P Q a0 w:=by
 have OE:(L.take m).length=m:=by have:=Nat.le_of_ble_eq_true hl;simp;omega
 have Ej:k0<m:=by simpa[Nat.blt_eq]using hk
 have uD:i1<m:=by simpa[Nat.blt_eq]using hi
 have e_:i1≠k0:=λe=>by rw[e]at oJ;simp at oJ
 refine I0 m k0 pre (bl.map av.id) (mS z T (olds++news) (n+mm) bl w.heap.size) dA paths _ gh (λv w1 w2 hc h=>mS.O1 h hc) ?_ hs ?_ hm hl ht kB dN
 ·intro x hx;obtain⟨y,hy,rfl⟩:=List.mem_map.1 hx;exact S.ge (by simp[hy])
 ·intro vs w' hc di;have hK:=di k0 Ej;unfold HQ at hK;rw[show Nat.beq k0 k0=true from Nat.beq_refl k0]at hK;obtain⟨x',c',bl',hv,mT,ba⟩:=hK;have S2:=S.yE hr.wr hc (λy hy=>(ba y hy).1) (λy hy=>(ba y hy).2) mT.pw;have hp:bK vs 0 (L.take m) a0=mP ((dA.set k0 (.slice x' (n+mm) c')).set i1 (vs i1)) (L.take m) a0:=vT (by rw[List.length_set,List.length_set];omega) λi o u ho hu=>by
   have hi2:i<m:=by
    rcases Nat.lt_or_ge i m with h|h
    ·exact h
    ·rw[List.getElem?_eq_none (by simp;omega)]at hu;simp at hu
   refine .inr ?_;rw[Nat.zero_add];by_cases h1:i=i1
   ·subst h1;rw[List.getElem?_set_self (by simp;omega)]at hu;exact Option.some.inj hu
   ·rw[List.getElem?_set_ne (λe=>h1 e.symm)]at hu;by_cases h2:i=k0
    ·subst h2;rw[List.getElem?_set_self (by omega)]at hu;rw[hv];exact Option.some.inj hu
    ·rw[List.getElem?_set_ne (λe=>h2 e.symm)]at hu;have hH:=di i hi2;unfold HQ at hH;have hb:Nat.beq i k0=false:=by
      cases hx:Nat.beq i k0
      ·rfl
      ·exact absurd (Nat.eq_of_beq_eq_true hx) h2
     rw[hb]at hH;obtain⟨ids,g1,g2,_⟩:=hH;have h3:OC ((dA.map s0).set i1 (sB mm news T')) i=s0 u:=by
      unfold OC;rw[List.getD_eq_getElem?_getD,List.getElem?_set_ne (λe=>h1 e.symm),List.getElem?_map,hu];rfl
     rw[h3]at g1 g2;obtain rfl:ids=[]:=List.eq_nil_of_length_eq_zero (by simpa[s0]using g1);rw[g2];rfl
  rw[hp];exact hq x' c' bl' (vs i1) w' mT S2
end
def SD (val:Value) (Q:List av->Prop) (bl:List av) (B:Nat) (v:Value) (w:World):Prop:=
 v=val/\∃bl',Q bl'/\(∀y∈bl',w.heap[y.id]?=some y.obj/\(y.wr=true->(∃u∈bl,y.id=u.id)\/B<=y.id))/\bl'.Pairwise vP
theorem SD.O1 {val Q bl B v} {w w':World} (h:SD val Q bl B v w) (hc:Ch [] w w'):SD val Q bl B v w':=by
 obtain⟨h1,bl',h2,h3,h4⟩:=h;exact⟨h1,bl',h2,λy hy=>⟨(hc.block _ (fW (h3 y hy).1) (by simp)).trans (h3 y hy).1,(h3 y hy).2⟩,h4⟩
section
variable{P:Program} {lf l:List Oper} {sp:Nat->Sp} {a0:Act} {w:World} {i k0:Nat} {pre:List (List Nat)} {o:Oper} {es:List Nat} {pv:Value->World->Prop}
variable{ms:List Nat} {w0:World} {bs:List av}
end
section
variable{P:Program} {a0:Act} {w w0:World} {Q:Exit->Act->World->Prop} {id:Nat} {L:List Oper} {ms:List Nat}
end
def cat (ie:List (List av)) (R:List av):List av:=ie.foldr (·++·) R
theorem ab9 (ie:List (List av)) (R:List av):cat ie R=ie.flatten++R:=by
 induction ie with
 |nil=>rfl
 |cons a l ih=>simp[cat]at ih⊢;exact ih
def Wl (n:Nat) (is:List Nat):Bool:=is.all (λi=>Nat.blt i n)&&qo is
where qo:List Nat->Bool
 |[]=>true
 |i::l=>!(l.any (Nat.beq i))&&qo l
theorem qp:∀{l:List Nat},Wl.qo l=true->l.Nodup
 |[],_=>List.nodup_nil
 |i::l,h=>by
  simp only[Wl.qo,Bool.and_eq_true,Bool.not_eq_true']at h;refine List.nodup_cons.2 ⟨λhm=>?_,qp h.2⟩;have:l.any (Nat.beq i)=true:=List.any_eq_true.2 ⟨i,hm,by simp⟩;rw[this]at h;exact absurd h.1 (by simp)
section
variable{ms:List Nat} {w0 w:World}
theorem mW:∀(is l:List Nat),is.Nodup->(∀i∈is,i∈l)->∃r,l.Perm (is++r)
 |[],l,_,_=>⟨l,List.Perm.refl _⟩
 |i::is,l,hn,hm=>by
  have OZ:=List.nodup_cons.1 hn;obtain⟨r,hr⟩:=mW is (l.erase i) OZ.2 (λj hj=>(List.mem_erase_of_ne (λe=>OZ.1 (by rw[<-e];exact hj))).2 (hm j (by simp[hj])));exact⟨r,(List.perm_cons_erase (hm i (by simp))).trans (by simpa using hr.cons i)⟩
theorem Wm {α:Type} (ie:List α) (d:α) (is:List Nat) (hn:is.Nodup) (iK:∀i∈is,i<ie.length):∃rest,ie.Perm (is.map (λi=>ie.getD i d)++rest):=by
 have hr:(List.range ie.length).map (λi=>ie.getD i d)=ie:=by
  apply List.ext_getElem
  ·simp
  ·intro i h1 h2;simp[List.getD_eq_getElem?_getD,h2]
 obtain⟨r,Og⟩:=mW is (List.range ie.length) hn (λi hi=>List.mem_range.2 (iK i hi));refine⟨r.map λi=>ie.getD i d,?_⟩;rw[<-List.map_append];have:=Og.map (λi=>ie.getD i d)
 rwa [hr]at this
theorem St.re {bs bs' R:List av} (S:St ms w0 bs w) (ie:List (List av)) (is:List Nat) (h1:bs=cat ie R:=by kernel_rfl) (h2:Wl ie.length is=true:=by kernel_rfl) (h3:cat (is.map λi=>ie.getD i []) R=bs':=by kernel_rfl):St ms w0 bs' w:=by
 subst h1 h3;simp only[Wl,Bool.and_eq_true]at h2;obtain⟨rest,hp⟩:=Wm ie [] is (qp h2.2) (λi hi=>by have:=List.all_eq_true.1 h2.1 i hi;unfold Nat.blt at this;exact Nat.le_of_ble_eq_true this);rw[ab9]at S⊢;have h4:St ms w0 ((is.map λi=>ie.getD i []).flatten++(rest.flatten++R)) w:=S.perm (by
  rw[<-List.append_assoc,<-List.flatten_append];exact List.Perm.append_right R hp.flatten)
 exact h4.sub (List.Sublist.append_left (List.sublist_append_right _ _) _)
end
def SE:Obj->Option TypeId
 |.cells _ t _=>some t
 |_=>none
def sA (obj:Obj):Sp:=⟨1,λids=>.pointer (some ⟨ids.getD 0 0,0,none⟩),λids=>[(ids.getD 0 0,obj)]⟩
inductive VX where
 |v (x:Value)
 |a (obj:Obj)
def VX.sp:VX->Sp
 |.v x=>s0 x
 |.a o=>sA o
def VX.val (id:Nat):VX->Value
 |.v x=>x
 |.a _=>.pointer (some ⟨id,0,none⟩)
def O_ (ids:Nat->Nat):Nat->List VX->List av
 |_,[]=>[]
 |i,.v _::xs=>O_ ids (i+1) xs
 |i,.a o::xs=>⟨ids i,true,o⟩::O_ ids (i+1) xs
section
variable{ms:List Nat} {w0 w:World} {bs:List av}
end
section
variable{P:Program} {lf l:List Oper} {sp:Nat->Sp} {a0:Act} {w:World} {i k0:Nat} {pre:List (List Nat)} {o:Oper} {es:List Nat} {pv:Value->World->Prop}
variable{ms:List Nat} {w0:World} {bs:List av}
end
section
variable{P:Program} {a0:Act} {w w0:World} {Q:Exit->Act->World->Prop} {id:Nat} {L:List Oper} {ms:List Nat}
end
theorem Lz (ie:List (List av)) (R:List av):cat ie R=cat ie []++R:=by
 induction ie with
 |nil=>rfl
 |cons a l ih=>show a++cat l R=(a++cat l [])++R;rw[ih,List.append_assoc]
section
variable{ms:List Nat} {w0 w:World}
theorem St.split {A B R bs:List av} (S:St ms w0 bs w) (ie:List (List av)) (h1:bs=A++cat ie R:=by kernel_rfl) (h2:cat ie []=B:=by kernel_rfl):St ms w0 (A++(B++R)) w:=by
 subst h2;rw[<-Lz,<-h1];exact S
end
section
variable{P:Program} {lf l:List Oper} {sp:Nat->Sp} {a0:Act} {w:World} {i k0:Nat} {pre:List (List Nat)} {o:Oper} {es:List Nat} {pv:Value->World->Prop}
variable{ms:List Nat} {w0:World} {bs:List av}
end
def ak (kd:IntKind) (n:Nat) (f:Nat->Int):Array Value:=((List.range n).map λi=>Value.int kd (f i)).toArray
def o_ (f:Nat->Int) (i:Nat) (v:Int):Nat->Int:=λj=>bif Nat.beq j i then v else f j
theorem kQ (kd:IntKind) (n:Nat) (f:Nat->Int):(ak kd n f).size=n:=by simp[ak]
theorem I2 (kd:IntKind) {n:Nat} (f:Nat->Int) {i:Nat} (h:i<n):(ak kd n f)[i]?=some (.int kd (f i)):=by simp[ak,h]
theorem I3 (f:Nat->Int) (i:Nat) (v:Int):o_ f i v i=v:=by simp[o_]
theorem Aj (f:Nat->Int) {i j:Nat} (v:Int) (h:j≠i):o_ f i v j=f j:=by
 have:Nat.beq j i=false:=by
  cases hb:Nat.beq j i
  ·rfl
  ·exact absurd (Nat.eq_of_beq_eq_true hb) h
 simp[o_,this]
theorem Pa (kd:IntKind) {n:Nat} (f:Nat->Int) {i:Nat} (h:i<n) (v:Int):splice (ak kd n f) i [.int kd v]=ak kd n (o_ f i v):=by
 apply Array.ext';show((ak kd n f).toList.take i++[Value.int kd v]++(ak kd n f).toList.drop (i+1))=_;simp only[ak];apply List.ext_getElem
 ·simp;omega
 ·intro j h1 h2;simp only[List.length_append,List.length_take,List.length_map,List.length_range,List.length_drop,List.length_cons,List.length_nil]at h1 h2;rcases Nat.lt_trichotomy j i with hj|hj|hj
  ·rw[List.getElem_append_left (by simp;omega),List.getElem_append_left (by simp;omega)];simp[Aj _ _ (Nat.ne_of_lt hj)]
  ·subst hj;rw[List.getElem_append_left (by simp;omega),List.getElem_append_right (by simp;omega)];simp[I3]
  ·rw[List.getElem_append_right (by simp;omega)];simp only[List.length_append,List.length_take,List.length_map,List.length_range,List.length_cons,List.length_nil,List.getElem_drop,List.getElem_map,List.getElem_range];rw[Aj _ _ (by omega)];congr 2;omega
theorem FL (kd:IntKind) {n:Nat} {f g:Nat->Int} (h:∀i,i<n->f i=g i):ak kd n f=ak kd n g:=by
 unfold ak;congr 1;apply List.map_congr_left;intro i hi;rw[h i (List.mem_range.1 hi)]
section
variable{ms:List Nat} {w0 w:World} {bs:List av}
theorem ckF {kd:IntKind} {n:Nat} {f:Nat->Int} {i off b:Nat} {t:TypeId} (ho:off<n) (hb:bs[i]?=some ⟨b,true,.cells (ak kd n f) t (0,0)⟩:=by kernel_rfl):Ib bs i off 1=some b:=by
 have h2:Nat.ble (off+1) (ak kd n f).size=true:=by rw[kQ];exact Nat.ble_eq_true_of_le ho
 unfold Ib;rw[hb];simp only[h2]
theorem St.stF {kd:IntKind} {n:Nat} {f:Nat->Int} {i off b:Nat} {t:TypeId} {v:Int} (S:St ms w0 (Wd bs i off [.int kd v]) w) (ho:off<n) {bs':List av} (hb:bs[i]?=some ⟨b,true,.cells (ak kd n f) t (0,0)⟩:=by kernel_rfl)
 (h2:bs.set i ⟨b,true,.cells (ak kd n (o_ f off v)) t (0,0)⟩=bs':=by kernel_rfl):St ms w0 bs' w:=by
 unfold Wd at S;rw[hb]at S;simp only at S;rw[Pa kd f ho,h2]at S;exact S
end
section
variable{P:Program} {lf l:List Oper} {sp:Nat->Sp} {a0:Act} {w:World} {i k0:Nat} {pre:List (List Nat)} {o:Oper} {es:List Nat} {pv:Value->World->Prop}
variable{ms:List Nat} {w0:World} {bs:List av}
end
end Sx
namespace Sx
open Go Go.RowKit Go.BigFrame
def Wr (bl:List av):Prop:=∀x∈bl,x.wr=true
theorem Wr.nil:Wr []:=λx h=>by cases h
theorem Wr.cons {b:av} {l:List av} (h:b.wr=true) (k:Wr l):Wr (b::l):=λx hx=>by
 rcases List.mem_cons.1 hx with rfl|hx
 ·exact h
 ·exact k x hx
theorem Wr.app {a b:List av} (h:Wr a) (k:Wr b):Wr (a++b):=λx hx=>by
 rcases List.mem_append.1 hx with hx|hx
 ·exact h x hx
 ·exact k x hx
def Ty (L:List Nat) (bl:List av):Prop:=∀x∈bl,∃t,SE x.obj=some t/\t∈L
theorem Ty.nil:Ty [] []:=λx h=>by cases h
theorem Ty.cons {b:av} {l:List av} {t:Nat} {L:List Nat} (h:SE b.obj=some t) (k:Ty L l):Ty (t::L) (b::l):=λx hx=>by
 rcases List.mem_cons.1 hx with rfl|hx
 ·exact⟨t,h,by simp⟩
 ·obtain⟨u,h1,h2⟩:=k x hx;exact⟨u,h1,by simp[h2]⟩
theorem Ty.app {a b:List av} {L M:List Nat} (h:Ty L a) (k:Ty M b):Ty (L++M) (a++b):=λx hx=>by
 rcases List.mem_append.1 hx with hx|hx
 ·obtain⟨u,h1,h2⟩:=h x hx;exact⟨u,h1,by simp[h2]⟩
 ·obtain⟨u,h1,h2⟩:=k x hx;exact⟨u,h1,by simp[h2]⟩
def aa7 (L:List Nat) (ys:List (Option TypeId)):Bool:=ys.all λy=>match y with|some t=>L.all λu=>!(Nat.beq u t)|none=>true
theorem Ty.ne {L:List Nat} {bl:List av} {ys:List (Option TypeId)} (h:Ty L bl) (hd:aa7 L ys=true:=by kernel_rfl):∀x∈bl,∀t∈ys,SE x.obj≠t:=λx hx t ht e=>by
 obtain⟨u,h1,h2⟩:=h x hx;have h3:=List.all_eq_true.1 hd t ht;rw[h1]at e;subst e;simp only at h3;have h4:=List.all_eq_true.1 h3 u h2;simp at h4
theorem fa.ty {z T olds x n c bl} (h:fa z T olds x n c bl):Ty [T] bl:=by
 rcases h.2.2 with⟨_,_,_,rfl⟩|⟨b,tail,_,rfl,_⟩
 ·intro x hx;cases hx
 ·exact Ty.cons rfl Ty.nil
end Sx
namespace Sx
open Go Go.RowKit Go.BigFrame
section
variable{P:Program} {a:Act} {w:World} {Q:Exit->Act->World->Prop}
theorem vU {K:Act->World->Prop} (h:∀a',a'=a->K a' w):Exit.then K Q .normal a w:=h a rfl
theorem Ak {c:Code} (I:Nat->Act->World->Prop) (n:Nat) (h:∀a',a'=a->I n a' w)
 (hs:∀m a w,I m a w->c.wp P (Exit.then (λa' w'=>∃k,k<m/\I k a' w') Q) a w):(Code.loop c).wp P Q a w:=ab5 I n (h a rfl) hs
end
end Sx
namespace Sx
open Go
def eE (n:Nat) (f:Nat->Int):List Value:=(List.range n).map λi=>Value.int .u8 (f i)
theorem bQ (n:Nat) (f:Nat->Int):(eE n f).length=n:=by simp[eE]
theorem je {n:Nat} (f:Nat->Int) {j:Nat} (h:j<n):(eE n f)[j]?=some (.int .u8 (f j)):=by simp[eE,h]
theorem qq {n:Nat} {f:Nat->Int}:∀v∈eE n f,v.oneCell'=true:=λv h=>by
 simp only[eE,List.mem_map]at h;obtain⟨j,_,rfl⟩:=h;rfl
theorem ki {n:Nat} {f:Nat->Int} {j:Nat} {v:Value} (h:(eE n f)[j]?=some v):j<n/\v=.int .u8 (f j):=by
 have hj:j<n:=by
  rcases Nat.lt_or_ge j n with h1|h1
  ·exact h1
  ·rw[List.getElem?_eq_none (by rw[bQ];exact h1)]at h;cases h
 rw[je f hj]at h;exact⟨hj,(Option.some.inj h).symm⟩
def bI (n:Nat) (f g:Nat->Int):Nat->Int:=λj=>bif Nat.blt j n then f j else g (j-n)
theorem CK {a b:Nat} (h:a<b):Nat.blt a b=true:=by unfold Nat.blt;exact Nat.ble_eq_true_of_le h
theorem I4 {a b:Nat} (h:¬a<b):Nat.blt a b=false:=by
 cases hb:Nat.blt a b
 ·rfl
 ·unfold Nat.blt at hb;exact absurd (Nat.le_of_ble_eq_true hb) h
theorem agv {a b:Nat} (h:¬a<=b):Nat.ble a b=false:=by
 cases hb:Nat.ble a b
 ·rfl
 ·exact absurd (Nat.le_of_ble_eq_true hb) h
theorem u6 (n m:Nat) (f g:Nat->Int):eE n f++eE m g=eE (n+m) (bI n f g):=by
 apply List.ext_getElem?;intro j;by_cases h:j<n
 ·rw[List.getElem?_append_left (by rw[bQ];exact h),je f h,je _ (by omega)];simp[bI,CK h]
 ·rw[List.getElem?_append_right (by rw[bQ];omega),bQ];by_cases h2:j<n+m
  ·rw[je g (by omega),je _ h2];simp[bI,I4 h]
  ·rw[List.getElem?_eq_none (by rw[bQ];omega),List.getElem?_eq_none (by rw[bQ];omega)]
theorem kR {n:Nat} {f g:Nat->Int} (h:∀i,i<n->f i=g i):eE n f=eE n g:=by
 unfold eE;apply List.map_congr_left;intro i hi;rw[h i (List.mem_range.1 hi)]
def iF (f:Nat->Int) (o m:Nat) (g:Nat->Int):Nat->Int:=λj=>bif Nat.ble o j&&Nat.blt j (o+m)then g (j-o)else f j
theorem sR (kd:IntKind) {n:Nat} (f:Nat->Int) {o m:Nat} (h:o+m<=n) (g:Nat->Int):((ak kd n f).toList.take o++(List.range m).map (λi=>Value.int kd (g i))++(ak kd n f).toList.drop (o+m)).toArray=ak kd n (iF f o m g):=by
 apply Array.ext';simp only[ak];apply List.ext_getElem
 ·simp;omega
 ·intro j h1 h2;simp only[List.length_append,List.length_take,List.length_map,List.length_range,List.length_drop]at h1 h2;by_cases ha:j<o
  ·rw[List.getElem_append_left (by simp;omega),List.getElem_append_left (by simp;omega)];simp[iF,agv (show¬o<=j by omega)]
  ·by_cases hb:j<o+m
   ·rw[List.getElem_append_left (by simp;omega),List.getElem_append_right (by simp;omega)];have:min o n=o:=by omega
    simp[iF,Nat.ble_eq_true_of_le (show o<=j by omega),CK hb,this]
   ·rw[List.getElem_append_right (by simp;omega)];have:min o n=o:=by omega
    simp only[List.length_append,List.length_take,List.length_map,List.length_range,List.getElem_drop,List.getElem_map,List.getElem_range,this];have e:o+m+(j-(o+m))=j:=by omega
    simp[iF,I4 hb,e]
def eS (w:World) (b o n:Nat) (f:Nat->Int):Prop:=∀j,j<n->w.cell? ⟨b,o+j,none⟩=some (.int .u8 (f j))
theorem eS.cut {w:World} {b o n:Nat} {f:Nat->Int} (h:eS w b o n f) {m:Nat} (hm:m<=n):eS w b o m f:=λj hj=>h j (by omega)
theorem eS.drop {w:World} {b o n:Nat} {f:Nat->Int} (h:eS w b o n f) (k:Nat):eS w b (o+k) (n-k) (λj=>f (k+j)):=λj hj=>by
 rw[Nat.add_assoc];exact h (k+j) (by omega)
section
variable{ms:List Nat} {w0 w:World} {bs:List av}
theorem St.mC (S:St ms w0 bs w) {b o n:Nat} {f:Nat->Int} (h:eS w0 b o n f) (hm:b∉ms):eS w b o n f:=λj hj=>S.agr (h j hj) hm
theorem St.eK (S:St ms w0 bs w) (i:Nat) {b N:Nat} {wr:Bool} {f:Nat->Int} {t:TypeId} {fr:Nat×Nat} (hb:bs[i]?=some ⟨b,wr,.cells (ak .u8 N f) t fr⟩:=by kernel_rfl):eS w b 0 N f:=λj hj=>by
 rw[cell_of (S.at_ i _ hb),Nat.zero_add,I2 _ f hj]
end
section
variable{P:Program} {w:World}
theorem FM {b o n c:Nat} {f:Nat->Int} {tx e':TypeId} (h:eS w b o n f) (hk:P.underlying tx=some (.slice e'):=by kernel_rfl):Src P 1 tx (.slice (some ⟨b,o,none⟩) n c) n (eE n f) w:=
 Src.ofSlice w hk _ n c _ (by rw[bQ,Nat.mul_one]) (λj u hj=>by
  obtain⟨h1,rfl⟩:=ki hj;rw[Addr.add_lit];exact h j h1) qq
theorem u7 {ρ:Operand->Value} {o:Oper} {w':World} {s x:Operand} {t tx:TypeId} {sv xv v:Value} (ho:o.op=.call ⟨.builtin .copy,#[s,x],#[t,tx]⟩) (hs:ρ s=sv) (hx:ρ x=xv)
 (aY:(Builtin.copy_ #[t,tx] o.type #[sv,xv]).run P w=.ok v w'):(execOp ρ o).run P w=.ok (.value v) w':=by
 simp[execOp,ho,resolve,invoke,builtin,hs,hx,aY,Result.andThen]
end
section
variable{P:Program} {ops:Array Oper} {rest:List Oper} {o:Oper} {a:Act} {w w0:World} {ms:List Nat} {bs:List av} {Q:Exit->Act->World->Prop}
theorem copy_ (S:St ms w0 bs w) (i:Nat) (b N off n c:Nat) (f:Nat->Int) (sb so m sc:Nat) (g:Nat->Int) {t:TypeId} {s x:Operand} {tt tx elem:TypeId} (h8:eS w sb so m g) (hm:m<=n) (hn:off+m<=N)
 (hb:bs[i]?=some ⟨b,true,.cells (ak .u8 N f) t (0,0)⟩) {bs':List av} (h2:bs.set i ⟨b,true,.cells (ak .u8 N (iF f off m g)) t (0,0)⟩=bs')
 (k:∀w',St ms w0 bs' w'->WL P ops Q rest (a.put o.dst (.int .i64 m)) w')
 (hw:Region.wanted o (yielded ops a.tmps)=true:=by kernel_rfl) (ho:o.op=.call ⟨.builtin .copy,#[s,x],#[tt,tx]⟩:=by rfl) (hs:a.eval s=.slice (some ⟨b,off,none⟩) n c:=by kernel_rfl) (hx:a.eval x=.slice (some ⟨sb,so,none⟩) m sc:=by kernel_rfl)
 (hu:P.underlying tt=some (.slice elem):=by kernel_rfl) (hz:(P.info? elem).map (·.size)=some 1:=by kernel_rfl):WL P ops Q (o::rest) a w:=
 WL.want hw λK hK=>by
  have ba:=S.at_ i _ hb;have Pb:Nat.min m n=m:=Nat.min_eq_left hm;have aY:=run_copy_row (P:=P) w tt tx o.type elem b off n c ⟨sb,so,none⟩ m sc (ak .u8 N f) t (eE m g) hu hz ba (by rw[bQ,Pb]) (λj v hj=>by
   obtain⟨h1,rfl⟩:=ki hj;rw[Addr.add_lit];exact h8 j h1) (by rw[bQ,kQ];exact hn) qq
  unfold Oper.wp;rw[u7 ho hs hx aY];rw[bQ];have he:(goInt m:Value)=.int .i64 m:=rfl;rw[he];refine hK _ _ (k _ ?_);have hS:=S.step hb rfl (Ch.setRow w b _) (setRow_heap w b (ak .u8 N f) ((ak .u8 N f).toList.take off++eE m g++(ak .u8 N f).toList.drop (off+m)).toArray t (0,0) ba);have e2:((ak .u8 N f).toList.take off++eE m g++(ak .u8 N f).toList.drop (off+m)).toArray=ak .u8 N (iF f off m g):=sR .u8 f hn g;rw[e2,h2]at hS;rw[e2];exact hS
end
section
variable{P:Program} {ρ:Operand->Value} {o:Oper} {w:World}
theorem Pc {t e:TypeId} {x lo:Operand} {b off n c k:Nat} {kd:IntKind} (hk:k<=n) (hc:n<=c) (ab_:Nat) (yD:ab_=(if c=k then off else off+k)) (ho:o.op=.slice t x (some lo) none none:=by rfl) (hu:P.underlying t=some (.slice e):=by kernel_rfl) (hs:(P.info? e).map (·.size)=some 1:=by kernel_rfl)
 (hx:ρ x=.slice (some ⟨b,off,none⟩) n c:=by kernel_rfl) (hh:ρ lo=.int kd ((k:Nat):Int):=by kernel_rfl):(execOp ρ o).run P w=.ok (.value (.slice (some ⟨b,ab_,none⟩) (n-k) (c-k))) w:=by
 obtain⟨i,uD,iM⟩:=Option.map_eq_some_iff.1 hs;unfold execOp;simp only[ho,Option.map_none,Option.map_some,hx,hh];unfold Instr.sliceAt;simp only[Sem.run_bind,run_underlying hu,Result.andThen_ok];unfold Instr.slice;simp only[Sem.run_bind,run_underlying hu,Result.andThen_ok,Instr.sliceBounds,Instr.sliceBound,asIntOf,Sem.run_pure];have h1:(0:Int)<=(k:Int)/\(k:Int)<=(n:Int):=by omega
 have h3:(⟨b,off,none⟩:Addr).add k=⟨b,off+k,none⟩:=Addr.add_lit ..;by_cases hck:c=k
 ·rw[if_pos hck]at yD;simp[h1,Go.sizeOf,typeInfo,uD,iM,hck,yD]
 ·rw[if_neg hck]at yD;simp[h1,Go.sizeOf,typeInfo,uD,iM,hck,yD,h3]
end
end Sx
namespace Sx
open Go Go.RowKit Go.BigFrame
section
variable{P:Program} {lf l:List Oper} {sp:Nat->Sp} {a0:Act} {w:World} {i:Nat} {o:Oper}
end
section
variable{P:Program} {ops:Array Oper} {rest:List Oper} {o:Oper} {a:Act} {w:World} {Q:Exit->Act->World->Prop}
theorem Wo (vk:IntKind) (n:Nat) (f:Nat->Int) (kd:IntKind) (iv:Int) {t e:TypeId} {x y:Operand} (h0:0<=iv) (h1:iv<n) (k:WL P ops Q rest (a.put o.dst (.int vk (f iv.toNat))) w) (hw:Region.wanted o (yielded ops a.tmps)=true:=by kernel_rfl)
 (ho:o.op=.index t x y:=by rfl) (hu:P.underlying t=some (.array n e):=by kernel_rfl) (hz:(P.info? e).map (·.size)=some 1:=by kernel_rfl) (ha:(P.underlying e).map jt=some false:=by kernel_rfl)
 (hx:a.eval x=.agg (ak vk n f):=by kernel_rfl) (hy:a.eval y=.int kd iv:=by kernel_rfl):WL P ops Q (o::rest) a w:=
 aa (.int vk (f iv.toNat)) k hw (by
  obtain⟨inf,hq,iM⟩:=Option.map_eq_some_iff.1 hz;have iK:iv.toNat<n:=by omega
  have uC:(ak vk n f)[iv.toNat]?=some (.int vk (f iv.toNat)):=I2 vk f iK;unfold execOp;simp only[ho,hx,hy];unfold Instr.index;simp only[Sem.run_bind,run_underlying hu,Result.andThen_ok,asIntOf,Sem.run_pure];simp[h0,h1,Go.sizeOf,typeInfo,hq,iM,part,iq ha,uC])
end
end Sx
namespace Sx
open Go Go.RowKit Go.BigFrame
def dc (n:Nat) (f:Nat->Int) (c:Nat):Array Value:=(eE n f++List.replicate (c-n) (Value.int .u8 0)).toArray
theorem lH (k:Nat):(Builtin.zeroCells #[Value.int .u8 0] k).toList=List.replicate k (Value.int .u8 0):=by
 apply List.ext_getElem
 ·simp[Builtin.zeroCells]
 ·intro i h1 h2;simp[Builtin.zeroCells,Nat.mod_one]
def eK (T:TypeId) (n:Nat) (f:Nat->Int) (x:Option Addr) (c:Nat) (bl:List av):Prop:=
 n<=c/\((x=none/\n=0/\c=0/\bl=[])\/∃b,x=some ⟨b,0,none⟩/\bl=[⟨b,true,.cells (dc n f c) T (0,0)⟩])
theorem eK.wr {T n f x c bl} (h:eK T n f x c bl):Wr bl:=by
 rcases h.2 with⟨_,_,_,rfl⟩|⟨b,_,rfl⟩
 ·exact Wr.nil
 ·exact Wr.cons rfl Wr.nil
theorem eK.ty {T n f x c bl} (h:eK T n f x c bl):Ty [T] bl:=by
 rcases h.2 with⟨_,_,_,rfl⟩|⟨b,_,rfl⟩
 ·intro x hx;cases hx
 ·exact Ty.cons rfl Ty.nil
theorem vV (T:TypeId):eK T 0 (λ_=>0) none 0 []:=⟨Nat.le_refl _,.inl ⟨rfl,rfl,rfl,rfl⟩⟩
theorem Pd {n c:Nat} (f:Nat->Int) (h:n<=c):(dc n f c).size=c:=by simp[dc,bQ];omega
section
variable{P:Program}
theorem mX {w:World} {T n c m:Nat} {f g:Nat->Int} {x:Option Addr} {bl:List av} (hr:eK T n f x c bl) (ba:∀y∈bl,w.heap[y.id]?=some y.obj)
 {t tx ty:TypeId} {xv:Value} (hs:Src P 1 tx xv m (eE m g) w) (ht:P.underlying t=some (.slice T)) (hi:(P.info? T).map (λi=>(i.zero.map (·.cells),i.size,i.bytes))=some (some #[.int .u8 0],1,1))
 (hb:n+m<=140737488355328):
 ∃v w',(Builtin.append_ #[t,tx] ty #[.slice x n c,xv]).run P w=.ok v w'/\Ch (bl.map av.id) w w'/\∃x' c' bl',v=.slice x' (n+m) c'/\eK T (n+m) (bI n f g) x' c' bl'/\∀y∈bl',w'.heap[y.id]?=some y.obj/\((∃u∈bl,y.id=u.id)\/w.heap.size<=y.id):=by
 obtain⟨i,aF,hi⟩:=Option.map_eq_some_iff.1 hi;simp only[Prod.mk.injEq]at hi;obtain⟨hz,iM,sP⟩:=hi;obtain⟨z0,Cv,FI⟩:=Option.map_eq_some_iff.1 hz;obtain⟨vQ,j7⟩:=hr;have uZ:Src P i.size tx xv m (eE m g) w:=by rw[iM];exact hs
 have h63:n+m<=maxLen:=by unfold maxLen;omega
 by_cases jL:n+m<=c
 ·rcases Nat.eq_zero_or_pos m with Ah|Ah
  ·subst Ah;refine⟨_,_,run_append_nothing (P:=P) w t tx ty T i ht aF x n c vQ xv uZ,Ch.refl _ _,x,c,bl,rfl,⟨vQ,?_⟩,λy hy=>⟨ba y hy,.inl ⟨y,hy,rfl⟩⟩⟩;rcases j7 with h|⟨b,rfl,rfl⟩
   ·exact .inl h
   ·refine .inr ⟨b,rfl,?_⟩;have e:eE (n+0) (bI n f g)=eE n f:=kR λj hj=>by simp[bI,CK (show j<n by omega)]
    show[(⟨b,true,.cells (dc n f c) T (0,0)⟩:av)]=[⟨b,true,.cells ((eE (n+0) (bI n f g)++List.replicate (c-(n+0)) (Value.int .u8 0)).toArray) T (0,0)⟩];rw[e];rfl
  ·rcases j7 with⟨_,rfl,rfl,_⟩|⟨b,rfl,rfl⟩
   ·omega
   ·have vR:=ba _ (List.mem_singleton.2 rfl);have mK:=run_storeCells_at (P:=P) b n T (eE m g) 0 (dc n f c) w vR (by rw[Pd f vQ,bQ];omega) hs.one;simp only[Nat.add_zero,bQ]at mK;have aY:(Builtin.append_ #[t,tx] ty #[.slice (some ⟨b,0,none⟩) n c,xv]).run P w=.ok (.slice (some ⟨b,0,none⟩) (n+m) c) (w.setRow b ((dc n f c).toList.take n++eE m g++(dc n f c).toList.drop (n+m)).toArray):=by
     rcases uZ.kind with⟨e',hk⟩|hk<;>simp[Builtin.append_,run_underlying ht,run_underlying hk,Go.sizeOf,typeInfo,aF,uZ.len,jL,hs.cells,Addr.add_lit,iM,mK,Result.andThen]
    refine⟨_,_,aY,by simpa using Ch.setRow w b _,some ⟨b,0,none⟩,c,[⟨b,true,.cells (dc (n+m) (bI n f g) c) T (0,0)⟩],rfl,⟨jL,.inr ⟨b,rfl,rfl⟩⟩,?_⟩;intro y hy;obtain rfl:=List.mem_singleton.1 hy;refine⟨?_,.inl ⟨_,List.mem_singleton.2 rfl,rfl⟩⟩;have:=setRow_heap w b (dc n f c) ((dc n f c).toList.take n++eE m g++(dc n f c).toList.drop (n+m)).toArray T (0,0) vR;rw[this];congr 2;unfold dc;congr 1;show(eE n f++_).take n++_++(eE n f++_).drop (n+m)=_;rw[List.take_left' (bQ n f),<-List.drop_drop,List.drop_left' (bQ n f),List.drop_replicate,<-u6];congr 2;omega
 ·have hg:c<n+m:=by omega
  have hold:(Builtin.firstCells i.size n (.slice x n c)).run P w.drew=.ok (eE n f).toArray w.drew:=by
   rcases j7 with⟨rfl,rfl,rfl,_⟩|⟨b,rfl,rfl⟩
   ·exact run_firstCells_none (P:=P) w.drew i.size 0 0 0
   ·have vR:=ba _ (List.mem_singleton.2 rfl);refine run_firstCells_some (P:=P) w.drew i.size n ⟨b,0,none⟩ n c (eE n f) (by rw[bQ,iM,Nat.mul_one]) (λj v hj=>?_);obtain⟨yF,rfl⟩:=ki hj;rw[Addr.add_lit];have:w.drew.cell? ⟨b,0+j,none⟩=w.cell? ⟨b,j,none⟩:=by simp
    rw[this,cell_of vR];simp only[dc,List.getElem?_toArray];rw[List.getElem?_append_left (by rw[bQ];exact yF),je f yF]
  have aY:=run_append_grow_src (P:=P) w t tx ty T i z0 ht aF Cv x n c (eE n f) hold xv m (eE m g) uZ hg (by simp only[maxLen]at h63;omega) (by rw[sP];exact growslice_fits hg (by omega));have jI:=grownCap_ge w (n+m) c T;refine⟨_,_,aY,?_,some ⟨w.heap.size,0,none⟩,grownCap w (n+m) c T,[⟨w.heap.size,true,.cells (dc (n+m) (bI n f g) (grownCap w (n+m) c T)) T (0,0)⟩],rfl,⟨jI,.inr ⟨_,rfl,rfl⟩⟩,?_⟩
  ·exact((Ch.refl (bl.map av.id) w).drew).trans (Ch.alloc (bl.map av.id) w.drew _) (λx hx=>.inl hx)
  ·intro y hy;obtain rfl:=List.mem_singleton.1 hy;refine⟨?_,.inr (Nat.le_refl _)⟩;have:=heap_alloc_new w.drew (.cells ((eE n f++eE m g).toArray++Builtin.zeroCells z0.cells (grownCap w (n+m) c T-(n+m))) T);refine Eq.trans this ?_;congr 2;apply Array.ext';rw[FI,Array.toList_append,lH];show eE n f++eE m g++_=eE (n+m) (bI n f g)++_;rw[<-u6]
end
section
variable{P:Program} {ops:Array Oper} {rest:List Oper} {o:Oper} {a:Act} {w w0:World} {ms:List Nat} {Q:Exit->Act->World->Prop}
theorem CL {A bl R:List av} {xs:Option Addr} {T n c m:Nat} {f g:Nat->Int} {t tx:TypeId} {s x:Operand} {xv:Value} (S:St ms w0 (A++(bl++R)) w) (hr:eK T n f xs c bl) (hs:Src P 1 tx xv m (eE m g) w) (hbd:n+m<=140737488355328)
 (k:∀x' c' bl' w',eK T (n+m) (bI n f g) x' c' bl'->St ms w0 (A++(bl'++R)) w'->WL P ops Q rest (a.put o.dst (.slice x' (n+m) c')) w')
 (ho:o.op=.call ⟨.builtin .append,#[s,x],#[t,tx]⟩:=by rfl) (hw:Region.wanted o (yielded ops a.tmps)=true:=by kernel_rfl) (BL:a.eval s=.slice xs n c:=by kernel_rfl) (BO:a.eval x=xv:=by kernel_rfl)
 (ht:P.underlying t=some (.slice T):=by kernel_rfl) (aF:(P.info? T).map (λi=>(i.zero.map (·.cells),i.size,i.bytes))=some (some #[.int .u8 0],1,1):=by kernel_rfl):WL P ops Q (o::rest) a w:=
 WL.want hw λK hK=>by
  obtain⟨v,w',aY,hc,x',c',bl',rfl,mT,ba⟩:=mX (P:=P) (ty:=o.type) hr (λy hy=>S.at' (by simp[hy])) hs ht aF hbd;have S2:=S.yE hr.wr hc (λy hy=>(ba y hy).1) (λy hy=>(ba y hy).2) (by
   rcases mT.2 with⟨_,_,_,rfl⟩|⟨b,_,rfl⟩<;>simp)
  unfold Oper.wp;rw[bP ho BL BO aY];exact hK _ _ (k x' c' bl' w' mT S2)
end
end Sx
namespace Sx
open Go Go.RowKit Go.BigFrame
def Ek (f:Nat->Int) (k:Nat):Nat->Int:=λj=>f (k+j)
theorem qt {T n f x c bl} (h:eK T n f x c bl) (hn:0<n):∃b,n<=c/\x=some ⟨b,0,none⟩/\bl=[⟨b,true,.cells (dc n f c) T (0,0)⟩]:=by
 rcases h.2 with⟨_,h0,_,_⟩|⟨b,h1,h2⟩
 ·omega
 ·exact⟨b,h.1,h1,h2⟩
theorem St.FN {ms:List Nat} {w0 w:World} {bs:List av} (S:St ms w0 bs w) (i:Nat) {b n c:Nat} {wr:Bool} {f:Nat->Int} {t:TypeId} {fr:Nat×Nat} (hb:bs[i]?=some ⟨b,wr,.cells (dc n f c) t fr⟩:=by kernel_rfl):eS w b 0 n f:=λj hj=>by
 rw[cell_of (S.at_ i _ hb),Nat.zero_add];simp only[dc,List.getElem?_toArray];rw[List.getElem?_append_left (by rw[bQ];exact hj),je f hj]
end Sx
namespace Sx
open Go
end Sx
namespace Sx
open Go Go.RowKit Go.BigFrame
theorem Ch.agw (w:World) (r:Nat) (o:Obj):Ch [r] w {w with heap:=w.heap.setIfInBounds r o}:=
 ⟨rfl,rfl,rfl,by simp,λk hk hm=>by
  show(w.heap.setIfInBounds r o)[k]?=w.heap[k]?;rw[Array.getElem?_setIfInBounds_ne (λe=>hm (by simp[e]))]⟩
def ox (kd:IntKind) (l:List (Int×Value)):Obj:=.map ((l.zipIdx.map λx=>(⟨.int kd x.1.1,x.1.2,x.2⟩:MapEntry)).toArray) l.length
theorem vW (kd:IntKind) (k:Int):∀(l:List MapEntry) (i:Nat),(∀e∈l,∃j,e.key=.int kd j/\j≠k)->Instr.findNow (.int kd) (.int kd k) l i=some none
 |[],_,_=>rfl
 |e::es,i,h=>by
  obtain⟨j,h1,h2⟩:=h e (List.Mem.head _);have:Instr.sameNow (.int kd) (.int kd k) e.key=some false:=by
   rw[h1];simp[Instr.sameNow];exact λh=>h2 h.symm
  simp[Instr.findNow,this,vW kd k es (i+1) (λx hx=>h x (List.Mem.tail _ hx))]
theorem LD (kd:IntKind) (l:List (Int×Value)) (k:Int) (v:Value):
 Obj.map (((l.zipIdx.map λx=>(⟨.int kd x.1.1,x.1.2,x.2⟩:MapEntry)).toArray).push ⟨.int kd k,v,l.length⟩) (l.length+1)=ox kd (l++[(k,v)]):=by
 simp[ox,List.zipIdx_append]
theorem Pe {kd:IntKind} {l:List (Int×Value)} {k:Int} (h:l.all (λx=>x.1!=k)=true):∀e∈(l.zipIdx.map λx=>(⟨.int kd x.1.1,x.1.2,x.2⟩:MapEntry)),∃j,e.key=.int kd j/\j≠k:=by
 intro e he;obtain⟨x,hx,rfl⟩:=List.mem_map.1 he;have hm:=(List.mem_zipIdx hx);have h2:x.1∈l:=by
  obtain⟨_,_,h3⟩:=hm;rw[h3];exact List.getElem_mem _
 exact⟨x.1.1,rfl,by simpa using List.all_eq_true.1 h _ h2⟩
section
variable{P:Program} {ops:Array Oper} {rest:List Oper} {o:Oper} {a:Act} {w w0:World} {ms:List Nat} {bs:List av} {Q:Exit->Act->World->Prop}
end
theorem aky (g:Nat->Int):bI 0 (λ_=>0) g=g:=by
 funext j;show(bif Nat.blt j 0 then _ else _)=_;rw[show Nat.blt j 0=false from by cases j<;>rfl];simp
theorem St.beside {ms:List Nat} {w0 w w1:World} {bs bl:List av} (S:St ms w0 bs w) (T:St [] w bl w1) (h:Wr bl):St ms w0 (bl++bs) w1:=by
 have hq:=S.quiet T.ch;refine St.mk' hq.ch (λx hx=>?_) (λx hx hw=>?_) ?_
 ·rcases List.mem_append.1 hx with h1|h1
  ·exact T.at' h1
  ·exact hq.at' h1
 ·rcases List.mem_append.1 hx with h1|h1
  ·rcases T.ql h1 hw with h2|h2
   ·cases h2
   ·exact .inr (Nat.le_trans S.ch.size h2)
  ·exact hq.ql h1 hw
 ·rw[List.pairwise_append];refine⟨T.pw,hq.pw,λx hx y hy _ e=>?_⟩;rcases T.ql hx (h x hx)with h2|h2
  ·cases h2
  ·have:=S.ge hy;omega
theorem FO {w w1:World} (hc:Ch [] w w1) {a:Addr} {v:Value} (h:w.cell? a=some v):w1.cell? a=some v:=by
 have hb:a.block<w.heap.size:=by
  unfold World.cell? at h;split at h
  ·next h2=>exact fW h2
  ·cases h
 have h3:=hc.block _ hb (by simp);unfold World.cell? at h⊢;rw[h3];exact h
def gF (w:World) (a:Option Addr) (n c:Nat) (f:Nat->Int):Prop:=n<=c/\(a=none->n=0/\c=0)/\∀x,a=some x->∀j,j<n->w.cell? (x.add j)=some (.int .u8 (f j))
def cz (w:World) (a:Option Addr) (n c:Nat) (f:Nat->Int):Prop:=n<=1000000/\gF w a n c f
theorem gF.quiet {w w1:World} {a:Option Addr} {n c:Nat} {f:Nat->Int} (h:gF w a n c f) (hc:Ch [] w w1):gF w1 a n c f:=⟨h.1,h.2.1,λx e j hj=>FO hc (h.2.2 x e j hj)⟩
theorem cz.quiet {w w1:World} {a:Option Addr} {n c:Nat} {f:Nat->Int} (h:cz w a n c f) (hc:Ch [] w w1):cz w1 a n c f:=⟨h.1,h.2.quiet hc⟩
theorem gF.cut {w:World} {a:Option Addr} {n c m:Nat} {f:Nat->Int} (h:gF w a n c f) (hm:m<=n) (hb:m<=1000000):cz w a m c f:=
 ⟨hb,Nat.le_trans hm h.1,λe=>⟨by have:=h.2.1 e;omega,(h.2.1 e).2⟩,λx e j hj=>h.2.2 x e j (by omega)⟩
theorem FP {P:Program} {w:World} {a:Option Addr} {n c:Nat} {f:Nat->Int} (h:cz w a n c f) {tx e':TypeId} (hk:P.underlying tx=some (.slice e'):=by kernel_rfl):Src P 1 tx (.slice a n c) n (eE n f) w:=by
 obtain⟨h1,h2,h3,h4⟩:=h;cases a with
 |none=>
  obtain⟨rfl,rfl⟩:=h3 rfl;exact Src.ofNil _ hk 0
 |some x=>exact Src.ofSlice w hk _ n c _ (by rw[bQ,Nat.mul_one]) (λj u hj=>by
  obtain⟨h5,rfl⟩:=ki hj;exact h4 x rfl j h5) qq
def sS (m n:Nat):Nat:=min n m
theorem Wp (m n:Nat):(if((m:Nat):Int)<((n:Nat):Int)then((m:Nat):Int)else((n:Nat):Int))=((sS m n:Nat):Int):=by unfold sS;split<;>omega
theorem cz.isS {w:World} {a:Option Addr} {n c:Nat} {f:Nat->Int} (h:cz w a n c f) (hn:0<n):∃x,a=some x:=by
 cases a with
 |none=>have:=(h.2.2.1 rfl).1;omega
 |some x=>exact⟨x,rfl⟩
theorem cz.of8 {w:World} {b o n c:Nat} {f:Nat->Int} (h:eS w b o n f) (hn:n<=1000000) (hc:n<=c):cz w (some ⟨b,o,none⟩) n c f:=
 ⟨hn,hc,λe=>absurd e (by simp),λx e j hj=>by cases e;rw[Addr.add_lit];exact h j hj⟩
section
variable{P:Program} {ops:Array Oper} {rest:List Oper} {o o':Oper} {a:Act} {w w0:World} {ms:List Nat} {bs:List av} {Q:Exit->Act->World->Prop}
theorem aca (S:St ms w0 bs w) (i:Nat) (b N off n c:Nat) (f:Nat->Int) (ka:Option Addr) (m sc:Nat) (g:Nat->Int) {t:TypeId} {s x:Operand} {tt tx elem:TypeId} (h8:cz w ka m sc g) (h1:0<m) (hm:m<=n) (hn:off+m<=N)
 (hb:bs[i]?=some ⟨b,true,.cells (ak .u8 N f) t (0,0)⟩) {bs':List av} (h2:bs.set i ⟨b,true,.cells (ak .u8 N (iF f off m g)) t (0,0)⟩=bs')
 (k:∀w',St ms w0 bs' w'->WL P ops Q rest (a.put o.dst (.int .i64 m)) w')
 (hw:Region.wanted o (yielded ops a.tmps)=true:=by kernel_rfl) (ho:o.op=.call ⟨.builtin .copy,#[s,x],#[tt,tx]⟩:=by rfl) (hs:a.eval s=.slice (some ⟨b,off,none⟩) n c:=by kernel_rfl) (hx:a.eval x=.slice ka m sc:=by kernel_rfl)
 (hu:P.underlying tt=some (.slice elem):=by kernel_rfl) (hz:(P.info? elem).map (·.size)=some 1:=by kernel_rfl):WL P ops Q (o::rest) a w:=
 WL.want hw λK hK=>by
  obtain⟨x0,rfl⟩:=h8.isS h1;have ba:=S.at_ i _ hb;have Pb:Nat.min m n=m:=Nat.min_eq_left hm;have aY:=run_copy_row (P:=P) w tt tx o.type elem b off n c x0 m sc (ak .u8 N f) t (eE m g) hu hz ba (by rw[bQ,Pb]) (λj v hj=>by
   obtain⟨h1,rfl⟩:=ki hj;exact h8.2.2.2 x0 rfl j h1) (by rw[bQ,kQ];exact hn) qq
  unfold Oper.wp;rw[u7 ho hs hx aY];rw[bQ];have he:(goInt m:Value)=.int .i64 m:=rfl;rw[he];refine hK _ _ (k _ ?_);have hS:=S.step hb rfl (Ch.setRow w b _) (setRow_heap w b (ak .u8 N f) ((ak .u8 N f).toList.take off++eE m g++(ak .u8 N f).toList.drop (off+m)).toArray t (0,0) ba);have e2:((ak .u8 N f).toList.take off++eE m g++(ak .u8 N f).toList.drop (off+m)).toArray=ak .u8 N (iF f off m g):=sR .u8 f hn g;rw[e2,h2]at hS;rw[e2];exact hS
theorem kC (b o n off i:Nat) (f:Nat->Int) (h8:eS w b o n f) (hi:i<n) (he:off=o+i) {x:Operand} {ty:TypeId} (k:WL P ops Q rest (a.put o'.dst (.int .u8 (f i))) w) (hw:Region.wanted o' (yielded ops a.tmps)=true:=by kernel_rfl) (ho:o'.op=.load ty x:=by rfl) (hx:a.eval x=.pointer (some ⟨b,off,none⟩):=by kernel_rfl)
 (ha:(P.underlying ty).map jt=some false:=by kernel_rfl):WL P ops Q (o'::rest) a w:=
 aa _ k hw (by
  have:=h8 i hi;rw[<-he]at this;unfold execOp;simp only[ho,hx,Instr.loadAt,Instr.sureAddr,Sem.run_bind,Sem.run_pure,Result.andThen_ok];unfold loadVar;rw[Sem.run_bind,iq ha];simp[load,Sem.run,this])
end
section
variable{P:Program}
theorem qu {w:World} {T n c m:Nat} {f g:Nat->Int} {x:Option Addr} (hx:cz w x n c f)
 {t tx ty:TypeId} {xv:Value} (hs:Src P 1 tx xv m (eE m g) w) (ht:P.underlying t=some (.slice T)) (hi:(P.info? T).map (λi=>(i.zero.map (·.cells),i.size,i.bytes))=some (some #[.int .u8 0],1,1))
 (hb:n+m<=140737488355328) (hg:c<n+m):
 ∃b c' w',(Builtin.append_ #[t,tx] ty #[.slice x n c,xv]).run P w=.ok (.slice (some ⟨b,0,none⟩) (n+m) c') w'/\n+m<=c'/\Ch [] w w'/\w.heap.size<=b/\w'.heap[b]?=some (.cells (dc (n+m) (bI n f g) c') T (0,0)):=by
 obtain⟨i,aF,hi⟩:=Option.map_eq_some_iff.1 hi;simp only[Prod.mk.injEq]at hi;obtain⟨hz,iM,sP⟩:=hi;obtain⟨z0,Cv,FI⟩:=Option.map_eq_some_iff.1 hz;have uZ:Src P i.size tx xv m (eE m g) w:=by rw[iM];exact hs
 have h63:n+m<=maxLen:=by unfold maxLen;omega
 have hold:(Builtin.firstCells i.size n (.slice x n c)).run P w.drew=.ok (eE n f).toArray w.drew:=by
  cases x with
  |none=>
   obtain⟨rfl,rfl⟩:=hx.2.2.1 rfl;exact run_firstCells_none (P:=P) w.drew i.size 0 0 0
  |some a=>
   refine run_firstCells_some (P:=P) w.drew i.size n a n c (eE n f) (by rw[bQ,iM,Nat.mul_one]) (λj v hj=>?_);obtain⟨yF,rfl⟩:=ki hj;have:=hx.2.2.2 a rfl j yF;simpa using this
 have aY:=run_append_grow_src (P:=P) w t tx ty T i z0 ht aF Cv x n c (eE n f) hold xv m (eE m g) uZ hg (by simp only[maxLen]at h63;omega) (by rw[sP];exact growslice_fits hg (by omega));have jI:=grownCap_ge w (n+m) c T;refine⟨w.heap.size,grownCap w (n+m) c T,_,aY,jI,?_,Nat.le_refl _,?_⟩
 ·exact((Ch.refl [] w).drew).trans (Ch.alloc [] w.drew _) (λx hx=>.inl hx)
 ·have:=heap_alloc_new w.drew (.cells ((eE n f++eE m g).toArray++Builtin.zeroCells z0.cells (grownCap w (n+m) c T-(n+m))) T);refine Eq.trans this ?_;congr 2;apply Array.ext';rw[FI,Array.toList_append,lH];show eE n f++eE m g++_=eE (n+m) (bI n f g)++_;rw[<-u6]
end
section
variable{P:Program} {o:Oper} {ρ:Operand->Value} {w w0:World} {ms:List Nat} {bs:List av} {R:Value->World->Prop}
theorem Y.y9 {x0:Option Addr} {T n c m:Nat} {f g:Nat->Int} {t tx:TypeId} {s x:Operand} {xv:Value} (S:St ms w0 bs w) (SF:cz w x0 n c f) (hs:Src P 1 tx xv m (eE m g) w) (hbd:n+m<=140737488355328) (hg:c<n+m)
 (k:∀b c' w',n+m<=c'->St ms w0 (⟨b,true,.cells (dc (n+m) (bI n f g) c') T (0,0)⟩::bs) w'->R (.slice (some ⟨b,0,none⟩) (n+m) c') w')
 (ho:o.op=.call ⟨.builtin .append,#[s,x],#[t,tx]⟩:=by rfl) (BL:ρ s=.slice x0 n c:=by kernel_rfl) (BO:ρ x=xv:=by kernel_rfl)
 (ht:P.underlying t=some (.slice T):=by kernel_rfl) (aF:(P.info? T).map (λi=>(i.zero.map (·.cells),i.size,i.bytes))=some (some #[.int .u8 0],1,1):=by kernel_rfl):Yields P o ρ w R:=by
 obtain⟨b,c',w',aY,hc,eZ,hb,ba⟩:=qu (P:=P) (ty:=o.type) SF hs ht aF hbd hg;unfold Yields;rw[bP ho BL BO aY];exact k b c' w' hc (S.new eZ hb ba)
end
section
variable{P:Program} {ops:Array Oper} {rest:List Oper} {o:Oper} {a:Act} {w:World} {Q:Exit->Act->World->Prop} {ρ:Operand->Value} {R:Value->World->Prop}
theorem Pf (kd ykd:IntKind) (x y:Int) {t yt:TypeId} {xo yo:Operand} (h:0<=y) (k:WL P ops Q rest (a.put o.dst (.int kd (kd.wrap (x*2^(min y.toNat kd.bits))))) w) (hw:Region.wanted o (yielded ops a.tmps)=true:=by kernel_rfl)
 (ho:o.op=.binOp .shl t xo yo yt:=by rfl) (hx:a.eval xo=.int kd x:=by kernel_rfl) (hy:a.eval yo=.int ykd y:=by kernel_rfl):WL P ops Q (o::rest) a w:=
 aa _ k hw (by
  have hn:¬y<0:=by omega
  unfold execOp;simp[ho,hx,hy,Go.eqGuard,Go.binOp,Op.shift,hn])
theorem Y.Pf (kd ykd:IntKind) (x y:Int) {t yt:TypeId} {xo yo:Operand} (h:0<=y) (k:R (.int kd (kd.wrap (x*2^(min y.toNat kd.bits)))) w)
 (ho:o.op=.binOp .shl t xo yo yt:=by rfl) (hx:ρ xo=.int kd x:=by kernel_rfl) (hy:ρ yo=.int ykd y:=by kernel_rfl):Yields P o ρ w R:=
 Y.aa _ k (by
  have hn:¬y<0:=by omega
  unfold execOp;simp[ho,hx,hy,Go.eqGuard,Go.binOp,Op.shift,hn])
end
def gT (l:List Int):Nat->Int:=λj=>l.getD j 0
section
variable{P:Program} {ops:Array Oper} {rest:List Oper} {o:Oper} {a:Act} {w w0:World} {ms:List Nat} {bs:List av} {Q:Exit->Act->World->Prop} {ρ:Operand->Value}
theorem Wq (neg:Bool) (r:Bool) (xs ys:Array Value) {v:Value} (hv:v=.bool (bif neg then !r else r)) {t yt:TypeId} {x y:Operand} (ho:o.op=.binOp (bif neg then .neq else .eql) t x y yt:=by rfl) (hx:ρ x=.agg xs:=by kernel_rfl) (hy:ρ y=.agg ys:=by kernel_rfl) (hg:P.eqGuardType P.depth t=false:=by kernel_rfl) (he:Ic P 10000 t (.agg xs) (.agg ys)=some r:=by kernel_rfl):
 (execOp ρ o).run P w=.ok (.value v) w:=by
 rw[hv];exact Lt neg ho hx hy hg he
theorem y9 {x0:Option Addr} {T n c m:Nat} {f g:Nat->Int} {t tx:TypeId} {s x:Operand} {xv:Value} (S:St ms w0 bs w) (SF:cz w x0 n c f) (hs:Src P 1 tx xv m (eE m g) w) (hbd:n+m<=140737488355328) (hg:c<n+m)
 (k:∀b c' w',n+m<=c'->St ms w0 (⟨b,true,.cells (dc (n+m) (bI n f g) c') T (0,0)⟩::bs) w'->WL P ops Q rest (a.put o.dst (.slice (some ⟨b,0,none⟩) (n+m) c')) w')
 (hw:Region.wanted o (yielded ops a.tmps)=true:=by kernel_rfl) (ho:o.op=.call ⟨.builtin .append,#[s,x],#[t,tx]⟩:=by rfl) (BL:a.eval s=.slice x0 n c:=by kernel_rfl) (BO:a.eval x=xv:=by kernel_rfl)
 (ht:P.underlying t=some (.slice T):=by kernel_rfl) (aF:(P.info? T).map (λi=>(i.zero.map (·.cells),i.size,i.bytes))=some (some #[.int .u8 0],1,1):=by kernel_rfl):WL P ops Q (o::rest) a w:=
 WL.want hw λK hK=>by
  obtain⟨b,c',w',aY,hc,eZ,hb,ba⟩:=qu (P:=P) (ty:=o.type) SF hs ht aF hbd hg;unfold Oper.wp;rw[bP ho BL BO aY];exact hK _ _ (k b c' w' hc (S.new eZ hb ba))
end
theorem St.up {ms:List Nat} {w0 w:World} {b:Nat} {o:Obj} {B:List av} {L:List Nat} (S:St ms w0 (⟨b,false,o⟩::B) w) (acb:w0.heap.size<=b) (hT:Ty L B) (hd:aa7 L [SE o]=true:=by kernel_rfl):St ms w0 (⟨b,true,o⟩::B) w:=by
 refine St.mk' S.ch (λx hx=>?_) (λx hx hw=>?_) ?_
 ·rcases List.mem_cons.1 hx with rfl|hx
  ·exact S.at' (x:=⟨b,false,o⟩) (List.Mem.head _)
  ·exact S.at' (List.Mem.tail _ hx)
 ·rcases List.mem_cons.1 hx with rfl|hx
  ·exact .inr acb
  ·exact S.ql (List.Mem.tail _ hx) hw
 ·refine List.pairwise_cons.2 ⟨λy hy _ e=>?_,(List.pairwise_cons.1 S.pw).2⟩;have h1:=S.at' (x:=⟨b,false,o⟩) (List.Mem.head _);have h2:=S.at' (List.Mem.tail _ hy);simp only at h1 e;rw[e,h2]at h1;exact hT.ne hd y hy _ (List.Mem.head _) (congrArg SE (Option.some.inj h1))
end Sx
namespace Sd
abbrev Byt:=Nat->Int
structure Timer where
 n:Int
 most:Int
deriving DecidableEq,Inhabited
structure Tok where
 holder:Int
 epoch:Int
 offer:Int
 oa:Timer
 la:Timer
 bad:Bool
deriving DecidableEq,Inhabited
structure Label where
 mD:Int
 source:Int
 seq:Int
deriving DecidableEq,Inhabited
structure X4 where
 a:Int
 b:Int
 c:Int
 d:Int
deriving DecidableEq,Inhabited
def X4.get (x:X4) (i:Nat):Int:=match i with|0=>x.a|1=>x.b|2=>x.c|_=>x.d
def X4.map (f:Int->Int) (x:X4):X4:=⟨f x.a,f x.b,f x.c,f x.d⟩
def X4.zip (f:Int->Int->Int) (x y:X4):X4:=⟨f x.a y.a,f x.b y.b,f x.c y.c,f x.d y.d⟩
def X4.zero:X4:=⟨0,0,0,0⟩
structure Point where
 cls:Int
 bx:X4
 now:X4
 cX:Label
deriving DecidableEq,Inhabited
structure Rec where
 kind:Int
 source:Int
 seq:Int
 epoch:Int
 code:Int
 how:Int
deriving DecidableEq,Inhabited
structure bW where
 kind:Int
 seq:Int
 role:Int
 bx:Int
 epoch:Int
 mode:Int
 cls:Int
 now:Bool
 x:X4
deriving DecidableEq,Inhabited
structure Reply where
 kind:Int
 seq:Int:=0
 role:Int:=0
 fT:Int:=0
 epoch:Int:=0
 code:Int:=0
 ae:Byt:=λ_=>0
deriving Inhabited
structure dS where
 valid:Bool
 x:X4
 FQ:Bool
deriving DecidableEq,Inhabited
structure cN where
 any:Bool
 high:Int
 seen:Int
deriving DecidableEq,Inhabited
structure Ask where
 source:Int
 aV:Int
 gU:Timer
deriving DecidableEq,Inhabited
structure dQ where
 many:Int
 sG:Bool
 ae:Byt
deriving Inhabited
structure bm where
 on:Bool
 aH:Timer
 role:Int
 key:Byt
 seen:cN
deriving Inhabited
structure Act where
 mode:Int
 cls:Int
 out:X4
 bj:Label
 akt:Label
deriving DecidableEq,Inhabited
structure Pol where
 i:Nat->Int
 k:Nat->Nat×Byt
namespace Pol
def order (p:Pol) (k:Nat):Int:=p.i k
def vX (p:Pol) (s:Nat):Int:=p.i (9+s)
def table (p:Pol) (m r:Nat):Int:=p.i (14+4*m+r)
def graph (p:Pol) (m:Nat):Int:=p.i (34+m)
def start (p:Pol):Int:=p.i 39
def safe (p:Pol):Int:=p.i 40
def lost (p:Pol):Int:=p.i 41
def bh (p:Pol):Int:=p.i 42
def cY (p:Pol):Int:=p.i 43
def offer (p:Pol):Int:=p.i 44
def ask (p:Pol):Int:=p.i 45
def oL (p:Pol):Int:=p.i 46
def beyond (p:Pol):Int:=p.i 47
def queue (p:Pol):Int:=p.i 48
def aR (p:Pol):Int:=p.i 49
def most (p:Pol) (c:Nat):Int:=p.i (50+c)
def LF (p:Pol):Int:=p.i 54
def epoch (p:Pol):Int:=p.i 55
end Pol
end Sd
namespace Sd
def sat (n most:Int):Int:=if n<most then n+1 else most
def oM (n low high:Int):Int:=if n<low then low else if high<n then high else n
def jf (now bx cX:Int):Int:=
 if cX<1 then now
 else if now<=bx then(if bx-now<=cX then bx else now+cX)
 else(if now-bx<=cX then bx else now-cX)
def has (set i:Int):Bool:=decide (0<=set)&&decide (0<=i)&&decide (i<=62)&&decide (set/2^i.toNat%2=1)
namespace Timer
def zero:Timer:=⟨0,0⟩
def start (most:Int):Timer:=⟨0,max most 0⟩
def step (t:Timer):Timer:={t with n:=sat t.n t.most}
def due (t:Timer):Bool:=decide (t.most<=t.n)
end Timer
def placeOf (p:Pol) (s:Int):Int:=
 if p.i 0=s then 0 else if p.i 1=s then 1 else if p.i 2=s then 2 else if p.i 3=s then 3 else if p.i 4=s then 4 else-1
def aV (p:Pol) (s:Int):Int:=placeOf p s
def cu (p:Pol) (a b:Int):Bool:=decide (placeOf p a≠-1)&&decide (placeOf p b≠-1)&&decide (placeOf p a<placeOf p b)
def below (n bound:Int):Bool:=decide (0<=n)&&decide (n<bound)
def fm (p:Pol) (source role:Int):Bool:=below source 5&&below role 4&&has (p.vX source.toNat) role
def may (p:Pol) (mode role cls:Int):Bool:=below mode 5&&below role 4&&below cls 4&&has (p.table mode.toNat role.toNat) cls
def goes (p:Pol) (from_ bx:Int):Bool:=below from_ 5&&below bx 5&&has (p.graph from_.toNat) bx
namespace Tok
def pass (t:Tok) (bx epoch:Int):Tok:=⟨bx,epoch,-1,.zero,.zero,t.bad⟩
def new (p:Pol):Tok:=⟨4,p.epoch,-1,.zero,.zero,false⟩
def bz (t:Tok) (bx:Int):Tok×Int:=
 if bx<0\/5<=bx then(t,1)else if bx=t.holder then(t,25)else if 65535<=t.epoch then(t,24)
 else(t.pass bx (t.epoch+1),0)
def dO (t:Tok):Tok:=t.pass 4 (if t.holder≠4 then sat t.epoch 65535 else t.epoch)
def bG (t:Tok):Tok:={t with offer:=-1,oa:=.zero}
def make (p:Pol) (t:Tok) (from_ bx:Int) (there:Bool):Tok×Int:=
 if from_≠t.holder then(t,20)else if 65535<=t.epoch then(t,24)else if bx=from_ then(t,25)
 else if bx<1\/3<bx\/there=false then(t,2)else if 0<=t.offer then(t,28)
 else({t with offer:=bx,oa:=.start p.offer},0)
def accept (t:Tok) (from_ epoch:Int):Tok×Int:=
 if t.offer<0\/t.offer≠from_ then(t,28)else if epoch≠t.epoch then(t,21)else t.bz from_
def fJ (t:Tok) (from_:Int):Tok×Int:=
 if t.offer<0\/t.offer≠from_ then(t,28)else(t.bG,0)
def drop (t:Tok) (source:Int):Tok×Bool:=
 if t.offer<0\/t.offer≠source then(t,false)else(t.bG,true)
def tick (t:Tok):Tok×Int:=
 if t.offer<0 then(t,-1)
 else if t.oa.step.due then(({t with oa:=t.oa.step}:Tok).bG,t.offer)
 else({t with oa:=t.oa.step},-1)
end Tok
namespace Q
def waits (l:List Ask) (s:Int):Bool:=l.any λa=>decide (a.source=s)
def insert (l:List Ask) (a:Ask):List Ask:=(l.takeWhile λx=>decide (x.aV<=a.aV))++a::(l.dropWhile λx=>decide (x.aV<=a.aV))
def push (most:Int) (l:List Ask) (a:Ask):List Ask×Int:=
 if waits l a.source then(l,27)else if most<=l.length then(l,3)else(insert l a,0)
def drop (l:List Ask) (s:Int):List Ask:=l.filter λa=>decide (a.source≠s)
def qx (l:List Ask):List Ask:=l.map λa=>{a with gU:=a.gU.step}
def gone (l:List Ask):List Ask:=(qx l).filter λa=>a.gU.due
def kept (l:List Ask):List Ask:=(qx l).filter λa=>!a.gU.due
end Q
def cv (p:Pol) (t:Tok) (most:Int) (q:List Ask) (from_:Int) (now:Bool):Tok×Int×Int×List Ask:=
 if t.bad then(t,0,29,q)else if from_=t.holder then(t,0,25,q)else if 65535<=t.epoch then(t,0,24,q)
 else if t.holder=4\/(now=true/\cu p from_ t.holder=true)then
  (if(t.bz from_).2≠0 then(t,0,(t.bz from_).2,q)else((t.bz from_).1,3,0,Q.drop q from_))
 else if now then(t,0,26,q)
 else(t,0,(Q.push most q ⟨from_,aV p from_,.start p.ask⟩).2,(Q.push most q ⟨from_,aV p from_,.start p.ask⟩).1)
def bg (t:Tok) (q:List Ask):Tok×Int×List Ask:=
 match q with
 |[]=>(t,2,q)
 |a::_=>if(t.bz a.source).2≠0 then(t,(t.bz a.source).2,q)else((t.bz a.source).1,0,Q.drop q a.source)
def dy (t:Tok) (q:List Ask) (from_:Int):Tok×Int×List Ask:=
 if from_≠t.holder then(t,20,q)else if 65535<=t.epoch then(t,24,q)else bg t q
def bM (p:Pol) (t:Tok) (q:List Ask) (there:Bool):Tok×Int×List Ask:=
 if t.holder=4\/there=true then({t with la:=.zero},0,q)
 else
  let la:=(if t.la.most=0 then Timer.start p.cY else t.la).step
  let t1:Tok:={t with la:=la}
  if la.due=false then(t1,0,q)
  else if 65535<=t.epoch then(t1.dO,6,q)
  else if(bg t1 q).2.1≠0 then((t1.bz 4).1,5,(bg t1 q).2.2)
  else((bg t1 q).1,5,(bg t1 q).2.2)
namespace Point
def set (p:Pol) (pt:Point) (cls:Int) (x:X4) (cX:Label):Point:=
 {pt with cls:=cls,cX:=cX,bx:=if cls<0\/4<=cls then .zero else x.map λn=>oM n (-(p.most cls.toNat)) (p.most cls.toNat)}
def hold (pt:Point) (cX:Label):Point:={pt with bx:=.zero,cX:=cX}
def step (p:Pol) (pt:Point):Point:=
 let now:=X4.zip (λa b=>jf a b p.LF) pt.now pt.bx
 {pt with now:=now,cX:=if now=pt.now then pt.cX else{pt.cX with mD:=4}}
end Point
def O6 (most:Int) (x:X4):Bool:=
 (decide (x.a< -most)||decide (most<x.a))||(decide (x.b< -most)||decide (most<x.b))||(decide (x.c< -most)||decide (most<x.c))||(decide (x.d< -most)||decide (most<x.d))
def kS (p:Pol) (run:Int) (s:dS):Int×Bool:=
 if s.valid=false\/O6 p.beyond s.x=false then(0,false)
 else(sat (max run 0) p.oL,decide (p.oL<=sat (max run 0) p.oL))
def fM (p:Pol) (t:Tok) (source role mode:Int) (m:bW):Int:=
 if m.kind≠10/\m.kind≠11 then 1 else if source≠t.holder then 20 else if m.epoch≠t.epoch then 21
 else if may p mode role (if m.kind=10 then 0 else m.cls)=false then 22
 else if m.kind=10/\goes p mode m.mode=false then 23 else 0
end Sd
namespace Sd
def aD (k:Int):bW:=⟨k,0,0,0,0,0,0,false,.zero⟩
structure Crypt where
 take:Nat->Byt->Option bW
 ae:Nat×Byt->Int->Int->Byt
 right:Nat×Byt->Int->Int->Byt->Byt->Bool
 key:Nat×Byt->Int->Int->Byt->Byt
 opens:Byt->Int->Nat->Byt->Bool
 next:Byt->Rec->Byt
 kS:cN->Int->cN
structure Tab where
 aA:Bool×Timer
 ay:Nat->bm
def bm.zero:bm:=⟨false,.zero,0,λ_=>0,⟨false,0,0⟩⟩
namespace Tab
def new:Tab:=⟨(false,.zero),λ_=>.zero⟩
def cZ (t:Tab) (s:Int):Bool:=decide (1<=s)&&decide (s<=3)&&(t.ay (s.toNat-1)).on
def on (t:Tab) (s:Int):Bool:=if s=4 then true else if s=0 then t.aA.1 else t.cZ s
def role (t:Tab) (s:Int):Int:=if t.cZ s then(t.ay (s.toNat-1)).role else 0
def many (t:Tab):Int:=(if(t.ay 0).on then 1 else 0)+(if(t.ay 1).on then 1 else 0)+(if(t.ay 2).on then 1 else 0)
def dT (t:Tab) (i:Nat) (s:bm):Tab:={t with ay:=λj=>if j=i then s else t.ay j}
def br (p:Pol) (t:Tab) (s r:Int) (key:Byt):Tab×Int:=
 if s<1\/3<s\/r<0\/4<=r then(t,1)
 else if t.cZ s=false/\p.aR<=t.many then(t,19)
 else(t.dT (s.toNat-1) ⟨true,.start p.bh,r,key,⟨false,0,0⟩⟩,0)
def take (C:Crypt) (p:Pol) (t:Tab) (s:Int) (n:Nat) (f:Byt):Tab×Except Int bW:=
 if t.cZ s=false then(t,.error 16)else
 if n<8\/C.opens (t.ay (s.toNat-1)).key s n f=false then(t,.error 14)else
  match C.take (n-8) f with
  |none=>(t,.error 13)
  |some m=>
   if m.kind=1\/m.kind=2 then(t,.error 13)
   else if C.kS (t.ay (s.toNat-1)).seen m.seq=(t.ay (s.toNat-1)).seen then(t,.error 15)
   else(t.dT (s.toNat-1) {(t.ay (s.toNat-1))with seen:=C.kS (t.ay (s.toNat-1)).seen m.seq,on:=true,aH:=.start p.bh},.ok m)
def end_ (t:Tab) (s:Int):Tab:=if t.cZ s then t.dT (s.toNat-1) .zero else t
def dU (p:Pol) (t:Tab):Tab:={t with aA:=(true,.start p.bh)}
def fN (t:Tab):Bool:=t.aA.1&&t.aA.2.step.due
def dG (t:Tab) (i:Nat):Bool:=(t.ay i).on&&(t.ay i).aH.step.due
def tick (t:Tab):Tab:=
 {aA:=if t.aA.1 then(if t.aA.2.step.due then(false,.zero)else(true,t.aA.2.step))else t.aA,ay:=λi=>if(t.ay i).on then(if(t.ay i).aH.step.due then bm.zero else{(t.ay i)with aH:=(t.ay i).aH.step})else t.ay i}
def ended (t:Tab):List Int:=
 (if t.fN then[0]else[])++(if t.dG 0 then[1]else[])++(if t.dG 1 then[2]else[])++(if t.dG 2 then[3]else[])
end Tab
structure Core where
 p:Pol
 t:Tok
 q:List Ask
 doors:Nat->dQ
 tab:Tab
 samples:Int
 beyond:Int
 mode:Int
 bj:Label
 pt:Point
 head:Byt
structure Scene where
 c:Core
 sent:List (Int×Reply)
 recs:List Rec
def dV:Label:=⟨2,4,0⟩
def linked (s:Int):Bool:=decide (1<=s)&&decide (s<=3)
def dQ.zero:dQ:=⟨0,false,λ_=>0⟩
def Core.new (p:Pol):Core:=
 ⟨p,.new p,[],λ_=>.zero,.new,0,0,p.start,dV,⟨1,.zero,.zero,dV⟩,λ_=>0⟩
def Core.act (c:Core):Act:=⟨c.mode,c.pt.cls,c.pt.now,c.bj,c.pt.cX⟩
namespace Scene
variable(C:Crypt)
def tell (s:Scene) (l:Int) (r:Reply):Scene:={s with sent:=s.sent++[(l,r)]}
def hear (s:Scene) (l:Int) (r:Reply):Scene:=if linked l&&s.c.tab.on l then s.tell l r else s
def record (s:Scene) (kind source seq code how:Int):Scene:=
 let r:Rec:=⟨kind,source,seq,s.c.t.epoch,code,how⟩
 {s with recs:=s.recs++[r],c:={s.c with head:=C.next s.c.head r}}
def refuse (s:Scene) (l n code:Int):Scene:=(s.tell l {kind:=132,seq:=n,code:=code}).record C 7 l n code 0
def dp (s:Scene) (l code:Int):Scene:=s.record C 1 l 0 code 0
def done (s:Scene) (l n:Int):Scene:=s.tell l {kind:=131,seq:=n}
def goes (s:Scene) (t:Tok) (how n:Int):Scene:=
 let a:=s.c.t.holder
 let s1:Scene:={s with c:={s.c with t:=t,q:=Q.drop s.c.q t.holder}}
 let s2:=s1.hear a {kind:=134,fT:=t.holder,epoch:=t.epoch}
 let s3:=s2.hear t.holder {kind:=133,epoch:=t.epoch}
 s3.record C 8 t.holder n 0 how
def gone (s:Scene) (l fT code:Int):Scene:=s.hear l {kind:=136,fT:=fT,code:=code}
def leave (s:Scene) (source:Int):Scene:=
 let s1:Scene:={s with c:={s.c with q:=Q.drop s.c.q source}}
 if(s1.c.t.drop source).2=false then s1
 else(({s1 with c:={s1.c with t:=(s1.c.t.drop source).1}}:Scene).gone (s1.c.t.drop source).1.holder source 16).record C 12 source 0 16 0
def dH (s:Scene) (mode:Int) (cX:Label):Scene:={s with c:={s.c with mode:=mode,bj:=cX,pt:=s.c.pt.hold cX}}
def gW (s:Scene) (l:Int) (n:Nat) (f:Byt):Scene:=
 match C.take n f with
 |none=>s.dp C l 13
 |some m=>
  if fm s.c.p l m.role=false then s.refuse C l 0 18
  else
   let d:=s.c.doors (l.toNat-1)
   if 4294967295<=d.many then s.refuse C l 0 24
   else
    let x:=C.ae (s.c.p.k 3) l (d.many+1)
    let s1:Scene:={s with c:={s.c with doors:=λj=>if j=l.toNat-1 then⟨d.many+1,true,x⟩else s.c.doors j}}
    (s1.tell l {kind:=129,ae:=x}).record C 2 l 0 0 0
def prove (s:Scene) (l:Int) (n:Nat) (f:Byt):Scene:=
 if n≠10 then s.dp C l 13
 else match C.take 2 f with
 |none=>s.dp C l 13
 |some m=>
  let d:=s.c.doors (l.toNat-1)
  if d.sG=false then s.refuse C l 0 17
  else
   let s1:Scene:={s with c:={s.c with doors:=λj=>if j=l.toNat-1 then⟨d.many,false,λ_=>0⟩else s.c.doors j}}
   if C.right (s.c.p.k (l.toNat-1)) l m.role d.ae (λj=>f (2+j))=false then s1.dp C l 14
   else if fm s.c.p l m.role=false then s1.refuse C l 0 18
   else
    let(tab,e):=Tab.br s.c.p s.c.tab l m.role (C.key (s.c.p.k (l.toNat-1)) l m.role d.ae)
    if e≠0 then s1.refuse C l 0 e
    else
     let s2:Scene:={s1 with c:={s1.c with tab:=tab}}
     (s2.tell l {kind:=130,role:=m.role,fT:=s.c.t.holder,epoch:=s.c.t.epoch}).record C 3 l 0 0 0
def da (s:Scene) (t:Tok):Scene:={s with c:={s.c with t:=t}}
def En (s:Scene) (l:Int) (m:bW):Scene:=
 ((({s with c:={s.c with tab:=s.c.tab.end_ l}}:Scene).leave C l).record C 4 l m.seq 0 0).done l m.seq
def ask (s:Scene) (l:Int) (m:bW):Scene:=
 let(t,how,e,q):=cv s.c.p s.c.t s.c.p.queue s.c.q l m.now
 if e≠0 then s.refuse C l m.seq e
 else
  let s1:Scene:={s with c:={s.c with q:=q}}
  (if 0<how then s1.goes C t how m.seq else(s1.da t).record C 10 l m.seq 0 0).done l m.seq
def offer (s:Scene) (l:Int) (m:bW):Scene:=
 let(t,e):=Tok.make s.c.p s.c.t l m.bx (s.c.tab.on m.bx)
 if e≠0 then s.refuse C l m.seq e
 else((((s.da t).hear m.bx {kind:=135,fT:=l,epoch:=t.epoch}).record C 9 l m.seq 0 m.bx)).done l m.seq
def accept (s:Scene) (l:Int) (m:bW):Scene:=
 let(t,e):=s.c.t.accept l m.epoch
 if e≠0 then s.refuse C l m.seq e else(s.goes C t 1 m.seq).done l m.seq
def fJ (s:Scene) (l:Int) (m:bW):Scene:=
 let(t,e):=s.c.t.fJ l
 if e≠0 then s.refuse C l m.seq e
 else((((s.da t).gone t.holder l 0).record C 11 l m.seq 0 0)).done l m.seq
def release (s:Scene) (l:Int) (m:bW):Scene:=
 let(t,e,q):=dy s.c.t s.c.q l
 if e≠0 then s.refuse C l m.seq e else(({s with c:={s.c with q:=q}}:Scene).goes C t 2 m.seq).done l m.seq
def command (s:Scene) (l:Int) (m:bW):Scene:=
 let e:=fM s.c.p s.c.t l (s.c.tab.role l) s.c.mode m
 if e≠0 then s.refuse C l m.seq e
 else
  let cX:Label:=⟨1,l,m.seq⟩
  let s1:Scene:=if m.kind=10 then{s with c:={s.c with mode:=m.mode,bj:=cX}}
   else{s with c:={s.c with pt:=s.c.pt.set s.c.p m.cls m.x cX}}
  (s1.record C 6 l m.seq 0 0).done l m.seq
def u9 (s:Scene) (l:Int) (m:bW):Scene:=
 if m.kind=3 then s.done l m.seq else if m.kind=4 then s.En C l m else if m.kind=5 then s.ask C l m
 else if m.kind=6 then s.offer C l m else if m.kind=7 then s.accept C l m else if m.kind=8 then s.fJ C l m
 else if m.kind=9 then s.release C l m else if m.kind=10\/m.kind=11 then s.command C l m else s
def item (s:Scene) (l code:Int) (n:Nat) (f:Byt):Scene:=
 if code≠0 then s.dp C l code
 else if 0<n/\f 0=1 then s.gW C l n f
 else if 0<n/\f 0=2 then s.prove C l n f
 else
  match s.c.tab.take C s.c.p l n f with
  |(_,.error e)=>s.dp C l e
  |(tab,.ok m)=>({s with c:={s.c with tab:=tab}}:Scene).u9 C l m
def dU (s:Scene) (x:dS):Scene:=
 if x.valid=false then{s with c:={s.c with beyond:=0}}
 else
  let n:=sat s.c.samples 4294967295
  let r:=kS s.c.p s.c.beyond x
  let s1:Scene:={s with c:={s.c with samples:=n,tab:=s.c.tab.dU s.c.p,beyond:=r.1}}
  if s.c.t.holder=0/\x.FQ=true then
   let(t,e,q):=dy s.c.t s.c.q 0
   if e≠0 then s1.record C 7 0 n e 0 else({s1 with c:={s1.c with q:=q}}:Scene).goes C t 2 n
  else if s.c.t.holder=0 then
   let e:=fM s.c.p s.c.t 0 0 s.c.mode {aD 11 with epoch:=s.c.t.epoch,cls:=1}
   if e≠0 then s1.record C 7 0 n e 0
   else({s1 with c:={s1.c with pt:=s1.c.pt.set s.c.p 1 x.x ⟨1,0,n⟩}}:Scene).record C 6 0 n 0 0
  else if r.2 then
   let(t,e):=s.c.t.bz 0
   if e≠0 then s1.record C 7 0 n e 0 else s1.goes C t 4 n
  else s1
def jg (s:Scene) (bad:Bool):Scene:=
 let s1:=s.da {s.c.t with bad:=bad}
 if bad=false then s1
 else
  let t:=s1.c.t.dO
  let s2:=if s1.c.t.holder≠4 then s1.goes C t 6 0 else s1.da t
  let s3:=s2.c.q.foldl (λ(s:Scene) (a:Ask)=>({s with c:={s.c with q:=Q.drop s.c.q a.source}}:Scene).gone a.source 4 29) s2
  s3.dH s3.c.p.safe dV
def cY (s:Scene):Scene:=
 let(t,how,q):=bM s.c.p s.c.t s.c.q (s.c.tab.on s.c.t.holder)
 if how<=0 then s.da t
 else
  let s1:=({s with c:={s.c with q:=q}}:Scene).goes C t how 0
  if how=5 then s1.dH s1.c.p.lost ⟨3,4,0⟩else s1.dH s1.c.p.safe dV
def tick (s:Scene):Scene:=
 let agx:=s.c.tab.ended
 let s0:Scene:={s with c:={s.c with tab:=s.c.tab.tick}}
 let s1:=agx.foldl (λ(s:Scene) (x:Int)=>let s:=s.record C 5 x 0 0 0;if linked x then s.leave C x else s) s0
 let(t,Pg):=s1.c.t.tick
 let s2:=s1.da t
 let s3:=if 0<=Pg then(s2.gone t.holder Pg 30).record C 12 Pg 0 30 0 else s2
 let late:=Q.gone s3.c.q
 let s4:Scene:={s3 with c:={s3.c with q:=Q.kept s3.c.q}}
 let s5:=late.foldl (λ(s:Scene) (a:Ask)=>(s.gone a.source a.source 30).record C 12 a.source 0 30 0) s4
 let s6:=s5.cY C
 {s6 with c:={s6.c with pt:=s6.c.pt.step s6.c.p}}
end Scene
structure cK (p:Pol):Prop where
 o0:p.i 0=0
 o4:p.i 4=4
 perm:(p.i 1=1/\p.i 2=2/\p.i 3=3)\/(p.i 1=1/\p.i 2=3/\p.i 3=2)\/(p.i 1=2/\p.i 2=1/\p.i 3=3)\/
  (p.i 1=2/\p.i 2=3/\p.i 3=1)\/(p.i 1=3/\p.i 2=1/\p.i 3=2)\/(p.i 1=3/\p.i 2=2/\p.i 3=1)
 start:0<=p.start/\p.start<=4
 safe:0<=p.safe/\p.safe<=4
 lost:0<=p.lost/\p.lost<=4
 bh:1<=p.bh/\p.bh<=1000
 cY:1<=p.cY/\p.cY<=1000
 offer:1<=p.offer/\p.offer<=1000
 ask:1<=p.ask/\p.ask<=1000
 oL:1<=p.oL/\p.oL<=1000
 beyond:0<=p.beyond/\p.beyond<=1000
 queue:1<=p.queue/\p.queue<=3
 aR:1<=p.aR/\p.aR<=3
 most:∀c,c<4->0<=p.most c/\p.most c<=1000
 LF:1<=p.LF/\p.LF<=1000
 epoch:0<=p.epoch/\p.epoch<=65535
theorem uf {p:Pol} (h:cK p) (s:Int) (h0:0<=s) (h4:s<=4):0<=placeOf p s/\placeOf p s<=4:=by
 have e:s=0\/s=1\/s=2\/s=3\/s=4:=by omega
 have:=h.o0;have:=h.o4
 rcases e with rfl|rfl|rfl|rfl|rfl<;>rcases h.perm with⟨a,b,c⟩|⟨a,b,c⟩|⟨a,b,c⟩|⟨a,b,c⟩|⟨a,b,c⟩|⟨a,b,c⟩<;>simp[placeOf, *]
theorem y_ {p:Pol} (h:cK p) {s t:Int} (hs:0<=s/\s<=4) (ht:0<=t/\t<=4) (e:placeOf p s=placeOf p t):s=t:=by
 have es:s=0\/s=1\/s=2\/s=3\/s=4:=by omega
 have et:t=0\/t=1\/t=2\/t=3\/t=4:=by omega
 have:=h.o0;have:=h.o4
 rcases es with rfl|rfl|rfl|rfl|rfl<;>rcases et with rfl|rfl|rfl|rfl|rfl<;>first|rfl|(rcases h.perm with⟨a,b,c⟩|⟨a,b,c⟩|⟨a,b,c⟩|⟨a,b,c⟩|⟨a,b,c⟩|⟨a,b,c⟩<;>simp[placeOf, *]at e)
theorem LJ {p:Pol} (h:cK p) {s t:Int} (hs:0<=s/\s<=4) (ht:0<=t/\t<=4):cu p s t=decide (aV p s<aV p t):=by
 have a:=uf h s hs.1 hs.2;have b:=uf h t ht.1 ht.2;unfold cu aV;have a':placeOf p s≠-1:=by omega
 have b':placeOf p t≠-1:=by omega
 simp[a',b']
theorem acd {p:Pol} (h:cK p) {s:Int} (hs:0<=s/\s<=3):aV p s<aV p 4:=by
 have es:s=0\/s=1\/s=2\/s=3:=by omega
 have:=h.o0;have:=h.o4
 unfold aV;rcases es with rfl|rfl|rfl|rfl<;>rcases h.perm with⟨a,b,c⟩|⟨a,b,c⟩|⟨a,b,c⟩|⟨a,b,c⟩|⟨a,b,c⟩|⟨a,b,c⟩<;>simp[placeOf, *]
structure LN (p:Pol) (t:Tab) (holder:Int) (q:List Ask):Prop where
 each:∀a∈q,a.aV=aV p a.source/\1<=a.source/\a.source<=3/\t.on a.source=true/\a.source≠holder/\a.gU.most=p.ask/\0<=a.gU.n/\a.gU.n<p.ask
 sorted:q.Pairwise λa b=>a.aV<b.aV
 len:(q.length:Int)<=p.queue
structure iP (p:Pol) (tab:Tab) (t:Tok):Prop where
 holder:0<=t.holder/\t.holder<=4
 epoch:p.epoch<=t.epoch/\t.epoch<=65535
 offer:t.offer=-1\/(1<=t.offer/\t.offer<=3/\t.offer≠t.holder/\tab.on t.offer=true/\t.oa.most=p.offer/\0<=t.oa.n/\t.oa.n<p.offer)
 lost:(t.la.most=0/\t.la.n=0)\/(t.la.most=p.cY/\0<=t.la.n/\t.la.n<p.cY)
structure zb (p:Pol) (t:Tab):Prop where
 aA:t.aA.1=true->t.aA.2.most=p.bh/\0<=t.aA.2.n/\t.aA.2.n<p.bh
 ay:∀i,i<3->(t.ay i).on=true->(t.ay i).aH.most=p.bh/\0<=(t.ay i).aH.n/\(t.ay i).aH.n<p.bh/\0<=(t.ay i).role/\(t.ay i).role<=3/\0<=(t.ay i).seen.high/\(t.ay i).seen.high<=4294967295
structure Inv (c:Core):Prop where
 p:cK c.p
 tok:iP c.p c.tab c.t
 q:LN c.p c.tab c.t.holder c.q
 tab:zb c.p c.tab
 samples:0<=c.samples/\c.samples<=4294967295
 mode:0<=c.mode/\c.mode<=4
 doors:∀i,i<3->0<=(c.doors i).many
theorem ace {n m:Int} (h:0<=n) (hm:0<=m) (hn:n<=m):0<=sat n m/\sat n m<=m:=by unfold sat;split<;>omega
theorem Inv.new {p:Pol} (h:cK p):Inv (Core.new p) where
 p:=h
 tok:=⟨by simp[Core.new,Tok.new],by simp[Core.new,Tok.new];exact h.epoch.2,.inl rfl,.inl ⟨rfl,rfl⟩⟩
 q:=⟨by simp[Core.new],by simp[Core.new],by simp[Core.new];have:=h.queue;omega⟩
 tab:=⟨by simp[Core.new,Tab.new],by simp[Core.new,Tab.new,bm.zero]⟩
 samples:=by simp[Core.new]
 mode:=h.start
 doors:=by simp[Core.new,dQ.zero]
end Sd
namespace Vx
open Go Sx
inductive V where
 |int (k:IntKind) (n:Int)
 |bool (b:Bool)
 |ptr (i off:Nat)
 |sl (i off len cap:Nat)
 |oN (i off len cap:Nat) (x:Option Addr)
 |fn (f:FuncId) (fs cs:List V)
 |CM (t:TypeId) (v:V)
 |agg (l:List V)
 |az (l:List V)
 |dC (k:IntKind) (n:Nat) (f:Nat->Int)
 |arr (k:IntKind) (n:Nat) (f:Nat->Int)
 |j8 (p:Sd.Pol) (ka:Nat->Option Addr) (kn kc:Nat->Nat)
 |rest (l:List Value)
 |fp (z n:Nat) (g:Nat->List Value)
 |pe (i o j z k:Nat)
 |raw (v:Value)
def uE (p:Sd.Pol) (ka:Nat->Option Addr) (kn kc:Nat->Nat):List Value:=(List.range 56).map λo=>bif Nat.ble 5 o&&Nat.ble o 8 then .slice (ka (o-5)) (kn (o-5)) (kc (o-5))else .int .i64 (p.i o)
mutual
def fK (n:Nat):V->Bool
 |.ptr i _=>Nat.blt i n
 |.sl i _ _ _=>Nat.blt i n
 |.oN i _ _ _ _=>Nat.blt i n
 |.pe i _ _ _ _=>Nat.blt i n
 |.fn _ a b=>cH n a&&cH n b
 |.CM _ v=>fK n v
 |.agg l=>cH n l
 |.az l=>cH n l
 |_=>true
def cH (n:Nat):List V->Bool
 |[]=>true
 |v::l=>fK n v&&cH n l
end
def cl (v:V) (d:Value):List Value:=match v with
 |.dC k n f=>(List.range n).map λj=>Value.int k (f j)
 |.arr k n f=>(List.range n).map λj=>Value.int k (f j)
 |.j8 p ka kn kc=>uE p ka kn kc
 |.rest l=>l
 |.fp z n g=>(List.range n).flatMap g
 |_=>[d]
mutual
def den (ids:List Nat):V->Value
 |.int k n=>.int k n
 |.bool b=>.bool b
 |.ptr i off=>.pointer (some ⟨ids.getD i 0,off,none⟩)
 |.sl i off n c=>.slice (some ⟨ids.getD i 0,off,none⟩) n c
 |.oN i off n c x=>.slice (bif Nat.beq n 0 then x else some ⟨ids.getD i 0,off,none⟩) n c
 |.fn f a b=>.func (.func f) (ao ids a).toArray (ao ids b).toArray
 |.CM t v=>.iface t (den ids v)
 |.agg l=>.agg (ab ids l).toArray
 |.az l=>.tuple (ao ids l).toArray
 |.dC _ _ _=>undef
 |.arr _ _ _=>undef
 |.j8 _ _ _ _=>undef
 |.rest _=>undef
 |.fp _ _ _=>undef
 |.pe i o j z k=>.pointer (some ⟨ids.getD i 0,o+(j*z+k),none⟩)
 |.raw v=>v
def ao (ids:List Nat):List V->List Value
 |[]=>[]
 |v::l=>den ids v::ao ids l
def ab (ids:List Nat):List V->List Value
 |[]=>[]
 |v::l=>cl v (den ids v)++ab ids l
end
theorem kj (ids:List Nat) (l:List V):ao ids l=l.map (den ids):=by
 induction l with
 |nil=>simp[ao]
 |cons v l ih=>simp[ao,ih]
theorem kU {ids more:List Nat} {i:Nat} (h:Nat.blt i ids.length=true):(ids++more).getD i 0=ids.getD i 0:=by
 rw[Nat.blt_eq]at h;simp[List.getD,List.getElem?_append_left h]
mutual
theorem bC {ids more:List Nat}:∀(v:V),fK ids.length v=true->den (ids++more) v=den ids v
 |.int _ _,_=>by simp[den]
 |.bool _,_=>by simp[den]
 |.ptr i _,h=>by simp only[fK]at h;simp only[den,kU h]
 |.sl i _ _ _,h=>by simp only[fK]at h;simp only[den,kU h]
 |.oN i _ _ _ _,h=>by simp only[fK]at h;simp only[den,kU h]
 |.fn _ a b,h=>by simp only[fK,Bool.and_eq_true]at h;simp only[den,dW a h.1,dW b h.2]
 |.CM _ v,h=>by simp only[fK]at h;simp only[den,bC v h]
 |.agg l,h=>by simp only[fK]at h;simp only[den,bU l h]
 |.az l,h=>by simp only[fK]at h;simp only[den,dW l h]
 |.dC _ _ _,_=>by simp[den]
 |.arr _ _ _,_=>by simp[den]
 |.j8 _ _ _ _,_=>by simp[den]
 |.rest _,_=>by simp[den]
 |.fp _ _ _,_=>by simp[den]
 |.pe i _ _ _ _,h=>by simp only[fK]at h;simp only[den,kU h]
 |.raw _,_=>by simp[den]
theorem dW {ids more:List Nat}:∀(l:List V),cH ids.length l=true->ao (ids++more) l=ao ids l
 |[],_=>by simp[ao]
 |v::l,h=>by simp only[cH,Bool.and_eq_true]at h;simp only[ao,bC v h.1,dW l h.2]
theorem bU {ids more:List Nat}:∀(l:List V),cH ids.length l=true->ab (ids++more) l=ab ids l
 |[],_=>by simp[ab]
 |v::l,h=>by
  simp only[cH,Bool.and_eq_true]at h;simp only[ab,bC v h.1,bU l h.2]
end
def cE:V:=.raw undef
def nth:List V->Nat->V
 |[],_=>cE
 |v::_,0=>v
 |_::l,n+1=>nth l n
def j9:List V->Nat->V->List V
 |[],_,_=>[]
 |_::l,0,x=>x::l
 |v::l,n+1,x=>v::j9 l n x
def put (fr:List V) (d:Option Tmp) (v:V):List V:=match d with|some t=>j9 fr t v|none=>fr
def Eo:Value->V
 |.int k n=>.int k n
 |.bool b=>.bool b
 |v=>.raw v
def zd:Value->V
 |.int k n=>.int k n
 |.bool b=>.bool b
 |.agg cs=>.agg (cs.toList.map Eo)
 |v=>.raw v
def Al (p:Sd.Pol) (ka:Nat->Option Addr) (kn kc:Nat->Nat) (o:Nat):V:=
 bif Nat.ble 5 o&&Nat.ble o 8 then .raw (.slice (ka (o-5)) (kn (o-5)) (kc (o-5)))else .int .i64 (p.i o)
def oz:List V->Nat->Option V
 |[],_=>none
 |v::l,o=>match v with
  |.dC k n f=>bif Nat.ble n o then oz l (o-n)else some (.int k (f o))
  |.arr k n f=>bif Nat.ble n o then oz l (o-n)else some (.int k (f o))
  |.j8 p ka kn kc=>bif Nat.ble 56 o then oz l (o-56)else some (Al p ka kn kc o)
  |.rest _=>none
  |.fp _ _ _=>none
  |v=>match o with|0=>some v|o+1=>oz l o
def takeN:List V->Nat->Option (List V×List V)
 |l,0=>some ([],l)
 |[],_+1=>none
 |v::l,n+1=>match v with
  |.dC k m f=>bif Nat.ble m (n+1)then(match takeN l (n+1-m)with|some (a,b)=>some (v::a,b)|none=>none)
   else some ([.dC k (n+1) f],.dC k (m-(n+1)) (λj=>f (n+1+j))::l)
  |.arr k m f=>bif Nat.ble m (n+1)then(match takeN l (n+1-m)with|some (a,b)=>some (v::a,b)|none=>none)
   else some ([.arr k (n+1) f],.arr k (m-(n+1)) (λj=>f (n+1+j))::l)
  |.j8 .. =>bif Nat.ble 56 (n+1)then(match takeN l (n+1-56)with|some (a,b)=>some (v::a,b)|none=>none)else none
  |.rest _=>none
  |.fp _ _ _=>none
  |_=>match takeN l n with|some (a,b)=>some (v::a,b)|none=>none
def CN (l:List V) (off n:Nat):Option (List V):=match takeN l off with
 |some (_,r)=>(match takeN r n with|some (a,_)=>some a|none=>none)
 |none=>none
def Ws (l:List V) (off n:Nat) (vs:List V):Option (List V):=match takeN l off with
 |some (a,r)=>(match takeN r n with|some (_,b)=>some (a++(vs++b))|none=>none)
 |none=>none
def szV:V->Nat
 |.dC _ n _=>n
 |.arr _ n _=>n
 |.j8 .. =>56
 |.rest l=>l.length
 |.fp z n g=>((List.range n).flatMap g).length
 |_=>1
def eL:List V->Nat
 |[]=>0
 |v::l=>szV v+eL l
def Wt:V->Bool
 |.agg _=>false
 |.az _=>false
 |.rest l=>l.all (·.oneCell')
 |.fp z n g=>((List.range n).flatMap g).all (·.oneCell')
 |.raw v=>v.oneCell'
 |_=>true
def mY:List V->Bool
 |[]=>true
 |v::l=>Wt v&&mY l
def dX:V->List V
 |.agg l=>l
 |v=>[v]
def LR:V->Bool
 |.dC .. =>false
 |.arr .. =>false
 |.j8 .. =>false
 |.rest _=>false
 |.fp _ _ _=>false
 |.raw v=>v.oneCell'
 |_=>true
section
variable{ids:List Nat}
theorem qy (l:List Value):ab ids (l.map Eo)=l:=by
 induction l with
 |nil=>simp[ab]
 |cons v l ih=>cases v<;>simp[ab,cl,Eo,den,ih]
theorem LS (v:Value):den ids (zd v)=v:=by
 cases v<;>simp[zd,den,qy]
theorem lI (fr:List V) (t:Nat):den ids (nth fr t)=(ao ids fr).toArray.getD t undef:=by
 induction fr generalizing t with
 |nil=>simp[nth,ao,cE,den]
 |cons v l ih=>
  cases t with
  |zero=>simp[nth,ao]
  |succ t=>rw[nth,ih];simp[ao,Array.getD]
theorem Ph (fr:List V) (t:Nat) (x:V):(ao ids (j9 fr t x)).toArray=(ao ids fr).toArray.setIfInBounds t (den ids x):=by
 apply Array.ext';simp only[Array.toList_setIfInBounds];induction fr generalizing t with
 |nil=>simp[j9,ao]
 |cons v l ih=>cases t<;>simp[j9,ao,ih]
theorem Wu (p:Sd.Pol) (ka:Nat->Option Addr) (kn kc:Nat->Nat) {o:Nat} (h:o<56):(uE p ka kn kc)[o]?=some (den ids (Al p ka kn kc o)):=by
 unfold uE Al;rw[List.getElem?_map,List.getElem?_range h];simp only[Option.map_some];cases Nat.ble 5 o&&Nat.ble o 8<;>simp[den]
theorem mZ (p:Sd.Pol) (ka:Nat->Option Addr) (kn kc:Nat->Nat):(uE p ka kn kc).length=56:=by simp[uE]
theorem Am {l:List V} {o:Nat} {v:V} (h:oz l o=some v):(ab ids l)[o]?=some (den ids v):=by
 induction l generalizing o with
 |nil=>simp[oz]at h
 |cons a l ih=>
  cases a
  case dC k n f=>
   simp only[oz]at h;simp only[ab,cl];cases hb:Nat.ble n o with
   |true=>
    rw[hb]at h;have:=Nat.le_of_ble_eq_true hb;rw[List.getElem?_append_right (by simpa using this)];simpa using ih h
   |false=>
    rw[hb]at h;have:o<n:=Nat.lt_of_not_le λe=>by rw[Nat.ble_eq_true_of_le e]at hb;cases hb
    rw[List.getElem?_append_left (by simpa using this)];simp only[cond_false,Option.some.injEq]at h;subst h;simp[List.getElem?_range this,den]
  case arr k n f=>
   simp only[oz]at h;simp only[ab,cl];cases hb:Nat.ble n o with
   |true=>
    rw[hb]at h;have:=Nat.le_of_ble_eq_true hb;rw[List.getElem?_append_right (by simpa using this)];simpa using ih h
   |false=>
    rw[hb]at h;have:o<n:=Nat.lt_of_not_le λe=>by rw[Nat.ble_eq_true_of_le e]at hb;cases hb
    rw[List.getElem?_append_left (by simpa using this)];simp only[cond_false,Option.some.injEq]at h;subst h;simp[List.getElem?_range this,den]
  case j8 p ka kn kc=>
   simp only[oz]at h;simp only[ab,cl];cases hb:Nat.ble 56 o with
   |true=>
    rw[hb]at h;have:=Nat.le_of_ble_eq_true hb;rw[List.getElem?_append_right (by rw[mZ];exact this),mZ];simpa using ih h
   |false=>
    rw[hb]at h;have:o<56:=Nat.lt_of_not_le λe=>by rw[Nat.ble_eq_true_of_le e]at hb;cases hb
    rw[List.getElem?_append_left (by rw[mZ];exact this)];simp only[cond_false,Option.some.injEq]at h;subst h;exact Wu _ _ _ _ this
  case rest=>simp[oz]at h
  case fp=>simp[oz]at h
  all_goals
   cases o with
   |zero=>simp only[oz,Option.some.injEq]at h;subst h;simp[ab,cl]
   |succ o=>simp only[oz]at h;simpa[ab,cl]using ih h
theorem zf (k:IntKind) {m n:Nat} (f:Nat->Int) (h:n<=m):((List.range m).map λj=>Value.int k (f j))=((List.range n).map λj=>Value.int k (f j))++((List.range (m-n)).map λj=>Value.int k (f (n+j))):=by
 obtain⟨d,rfl⟩:=Nat.exists_eq_add_of_le h;rw[List.range_add,List.map_append,List.map_map,Nat.add_sub_cancel_left];rfl
theorem m9 {l a b:List V} {n:Nat} (h:takeN l n=some (a,b)):ab ids l=ab ids a++ab ids b/\(ab ids a).length=n:=by
 induction l generalizing n a b with
 |nil=>
  cases n with
  |zero=>simp only[takeN,Option.some.injEq,Prod.mk.injEq]at h;obtain⟨rfl,rfl⟩:=h;simp[ab]
  |succ n=>simp[takeN]at h
 |cons v l ih=>
  cases n with
  |zero=>simp only[takeN,Option.some.injEq,Prod.mk.injEq]at h;obtain⟨rfl,rfl⟩:=h;simp[ab]
  |succ n=>
   cases v
   case dC k m f=>
    simp only[takeN]at h;cases hb:Nat.ble m (n+1)with
    |true=>
     have hm:=Nat.le_of_ble_eq_true hb;rw[hb]at h;simp only[cond_true]at h;split at h
     ·rename_i x y hx;simp only[Option.some.injEq,Prod.mk.injEq]at h;obtain⟨rfl,rfl⟩:=h;obtain⟨i1,i2⟩:=ih hx;simp[ab,cl,i1,i2];omega
     ·cases h
    |false=>
     have hm:n+1<m:=Nat.lt_of_not_le λe=>by rw[Nat.ble_eq_true_of_le e]at hb;cases hb
     rw[hb]at h;simp only[cond_false,Option.some.injEq,Prod.mk.injEq]at h;obtain⟨rfl,rfl⟩:=h;simp only[ab,cl];rw[zf k f (n:=n+1) (by omega)];simp
   case arr k m f=>
    simp only[takeN]at h;cases hb:Nat.ble m (n+1)with
    |true=>
     have hm:=Nat.le_of_ble_eq_true hb;rw[hb]at h;simp only[cond_true]at h;split at h
     ·rename_i x y hx;simp only[Option.some.injEq,Prod.mk.injEq]at h;obtain⟨rfl,rfl⟩:=h;obtain⟨i1,i2⟩:=ih hx;simp[ab,cl,i1,i2];omega
     ·cases h
    |false=>
     have hm:n+1<m:=Nat.lt_of_not_le λe=>by rw[Nat.ble_eq_true_of_le e]at hb;cases hb
     rw[hb]at h;simp only[cond_false,Option.some.injEq,Prod.mk.injEq]at h;obtain⟨rfl,rfl⟩:=h;simp only[ab,cl];rw[zf k f (n:=n+1) (by omega)];simp
   case j8 p ka kn kc=>
    simp only[takeN]at h;cases hb:Nat.ble 56 (n+1)with
    |true=>
     have hm:=Nat.le_of_ble_eq_true hb;rw[hb]at h;simp only[cond_true]at h;split at h
     ·rename_i x y hx;simp only[Option.some.injEq,Prod.mk.injEq]at h;obtain⟨rfl,rfl⟩:=h;obtain⟨i1,i2⟩:=ih hx;simp[ab,cl,i1,i2,mZ];omega
     ·cases h
    |false=>rw[hb]at h;simp at h
   case rest=>simp[takeN]at h
   case fp=>simp[takeN]at h
   all_goals
    simp only[takeN]at h;split at h
    ·rename_i x y hx;simp only[Option.some.injEq,Prod.mk.injEq]at h;obtain⟨rfl,rfl⟩:=h;obtain⟨i1,i2⟩:=ih hx;simp[ab,cl,i1,i2]
    ·cases h
theorem km {l c:List V} {off n:Nat} (h:CN l off n=some c):((ab ids l).drop off).take n=ab ids c/\(ab ids c).length=n/\off+n<=(ab ids l).length:=by
 unfold CN at h;split at h
 ·rename_i a r ha;split at h
  ·rename_i b s hb;simp only[Option.some.injEq]at h;subst h;obtain⟨a1,a2⟩:=m9 (ids:=ids) ha;obtain⟨b1,b2⟩:=m9 (ids:=ids) hb;refine⟨?_,b2,?_⟩
   ·rw[a1,<-a2,List.drop_left,b1,<-b2,List.take_left]
   ·rw[a1,b1];simp;omega
  ·cases h
 ·cases h
theorem bo (a b:List V):ab ids (a++b)=ab ids a++ab ids b:=by
 induction a with
 |nil=>simp[ab]
 |cons v l ih=>simp[ab,ih]
theorem I5 {l c vs:List V} {off n:Nat} (h:Ws l off n vs=some c):ab ids c=(ab ids l).take off++ab ids vs++(ab ids l).drop (off+n)/\off+n<=(ab ids l).length:=by
 unfold Ws at h;split at h
 ·rename_i a r ha;split at h
  ·rename_i b s hb;simp only[Option.some.injEq]at h;subst h;obtain⟨a1,a2⟩:=m9 (ids:=ids) ha;obtain⟨b1,b2⟩:=m9 (ids:=ids) hb;refine⟨?_,?_⟩
   ·rw[bo,bo,a1,b1];have e:off+n=(ab ids a++ab ids b).length:=by simp[a2,b2]
    have e2:ab ids a++(ab ids b++ab ids s)=(ab ids a++ab ids b)++ab ids s:=by simp
    rw[e,e2,List.drop_left,<-e2,<-a2,List.take_left,List.append_assoc]
   ·rw[a1,b1];simp;omega
  ·cases h
 ·cases h
theorem cL (l:List V):(ab ids l).length=eL l:=by
 induction l with
 |nil=>simp[ab,eL]
 |cons v l ih=>cases v<;>simp[ab,cl,eL,szV,ih,mZ]<;>omega
theorem Pj {p:Sd.Pol} {ka:Nat->Option Addr} {kn kc:Nat->Nat} {v:Value} (h:v∈uE p ka kn kc):v.oneCell'=true:=by
 unfold uE at h;rw[List.mem_map]at h;obtain⟨o,_,rfl⟩:=h;cases Nat.ble 5 o&&Nat.ble o 8<;>rfl
theorem lJ {l:List V} (h:mY l=true):∀v∈ab ids l,v.oneCell'=true:=by
 induction l with
 |nil=>simp[ab]
 |cons a l ih=>
  simp only[mY,Bool.and_eq_true]at h;intro v hv;simp only[ab,List.mem_append]at hv;rcases hv with hv|hv
  ·unfold cl at hv;cases a
   case dC k n f=>simp at hv;obtain⟨_,_,rfl⟩:=hv;rfl
   case arr k n f=>simp at hv;obtain⟨_,_,rfl⟩:=hv;rfl
   case j8=>exact Pj hv
   case rest l'=>exact(List.all_eq_true.1 (by simpa[Wt]using h.1)) v hv
   case fp z n g=>
    have h1:((List.range n).flatMap g).all (·.oneCell')=true:=h.1;exact List.all_eq_true.1 h1 v hv
   all_goals (obtain rfl:v=_:=by simpa using hv);first|rfl|(simp[Wt]at h;done)|(have:=h.1;simpa[Wt,den]using this)
  ·exact ih h.2 v hv
theorem vY {v:V} (h:LR v=true):(den ids v).cells.toList=ab ids (dX v):=by
 cases v
 case agg l=>simp[den,Value.cells,dX]
 case raw v=>cases v<;>simp_all[den,Value.cells,dX,ab,cl,LR,Value.oneCell']
 case dC=>simp[LR]at h
 case arr=>simp[LR]at h
 case j8=>simp[LR]at h
 case rest=>simp[LR]at h
 case fp=>simp[LR]at h
 all_goals simp[den,Value.cells,dX,ab,cl]
end
def Pk (c:Bool) (a b:V):V:=match a,b with
 |.bool x,.bool y=>.bool (cond c x y)
 |.int k x,.int k' y=>(match decEq k k' with|isTrue _=>.int k (cond c x y)|isFalse _=>(match c with|true=>a|false=>b))
 |a,b=>match c with|true=>a|false=>b
def j_ (P:Program) (t:TypeId):Option Nat:=match P.info? t with|some i=>some i.size|none=>none
def Pm (k:IntKind):List V->Bool
 |[]=>true
 |.int k' (.ofNat 0)::l=>(match decEq k' k with|isTrue _=>Pm k l|isFalse _=>false)
 |_=>false
def acf (z:List V):List V:=match z with
 |.int k (.ofNat 0)::l=>bif Nat.ble 63 l.length&&Pm k l then[.arr k (l.length+1) λ_=>0]else z
 |_=>z
theorem CO {k:IntKind} (ids:List Nat):∀{l:List V},Pm k l=true->ab ids l=(List.range l.length).map λ_=>Value.int k 0
 |[],_=>rfl
 |v::l,h=>by
  unfold Pm at h;split at h
  ·rename_i heq;cases heq
  ·rename_i k' l' heq;obtain⟨rfl,rfl⟩:=List.cons.inj heq;split at h
   ·rename_i hk _;subst hk;rw[List.length_cons,List.range_succ_eq_map,List.map_cons,List.map_map];simp only[ab,cl,den,CO ids h];rfl
   ·cases h
  ·cases h
theorem vZ (ids:List Nat) (z:List V):ab ids (acf z)=ab ids z:=by
 unfold acf;split
 ·rename_i k l;cases hq:Nat.ble 63 l.length&&Pm k l with
  |false=>rfl
  |true=>
   simp only[Bool.and_eq_true]at hq;simp only[cond_true,ab,cl,den,CO ids hq.2,List.append_nil];rw[List.range_succ_eq_map,List.map_cons,List.map_map];rfl
 ·rfl
def jo (P:Program) (t:TypeId):Option (List V):=match P.info? t with
 |some i=>(match i.zero with|some v=>some (acf (dX (zd v)))|none=>none)
 |none=>none
def jh (P:Program) (t:TypeId):Option Bool:=match P.underlying t with|some d=>some (jt d)|none=>none
def Pn (op:BinOp) (x y:V):Option V:=match x,y with
 |.int k a,.int k' b=>(match op with
  |.shl=>(match b with|.ofNat n=>some (.int k (k.wrap (a*2^(min n k.bits))))|_=>none)
  |.shr=>(match b with|.ofNat n=>some (.int k (a.fdiv (2^(min n k.bits))))|_=>none)
  |op=>(match decEq k k' with
   |isFalse _=>none
   |isTrue _=>(match op with
    |.add=>some (.int k (k.wrap (a+b)))
    |.sub=>some (.int k (k.wrap (a-b)))
    |.mul=>some (.int k (k.wrap (a*b)))
    |.and=>some (.int k (bits .and k a b))
    |.or=>some (.int k (bits .or k a b))
    |.xor=>some (.int k (bits .xor k a b))
    |.rem=>(match b with|.ofNat (n+1)=>some (.int k (Int.tmod a (.ofNat (n+1))))|_=>none)
    |.quo=>(match b with|.ofNat (n+1)=>some (.int k (k.wrap (Int.tdiv a (.ofNat (n+1)))))|_=>none)
    |.eql=>some (.bool (a==b))
    |.neq=>some (.bool (a !=b))
    |.lss=>some (.bool (decide (a<b)))
    |.leq=>some (.bool (decide (a<=b)))
    |.gtr=>some (.bool (decide (a>b)))
    |.geq=>some (.bool (decide (a>=b)))
    |_=>none)))
 |_,_=>none
def acg (op:UnOp) (x:V):Option V:=match op,x with
 |.not,.bool b=>some (.bool (!b))
 |.neg,.int k n=>some (.int k (k.wrap (0-n)))
 |.xor,.int k n=>some (.int k (bits .xor k (bif k.signed then-1 else k.max) n))
 |_,_=>none
section
variable{ids:List Nat} {P:Program} {w:World}
theorem Po (c:Bool) (a b:V):den ids (Pk c a b)=if c then den ids a else den ids b:=by
 unfold Pk;split
 ·cases c<;>simp[den]
 ·split
  ·rename_i hk _;cases c<;>simp[den,hk]
  ·cases c<;>rfl
 ·cases c<;>rfl
theorem uF (op:BinOp) (t:TypeId) (x y:Operand) (k k':IntKind) (a b:Int):(eqGuard op t x y (.int k a) (.int k' b)).run P w=.ok () w:=by
 unfold eqGuard;cases op<;>rfl
theorem Pp {op:BinOp} {x y v:V} (h:Pn op x y=some v) (t:TypeId) (xo yo:Operand):
 ((do eqGuard op t xo yo (den ids x) (den ids y);binOp op t (den ids x) (den ids y)):Sem Value).run P w=.ok (den ids v) w:=by
 unfold Pn at h;split at h
 ·rename_i k a k' b;simp only[den,Sem.run_bind,uF,Result.andThen_ok];split at h
  ·split at h
   ·rename_i n;simp only[Option.some.injEq]at h;subst h;have h0:¬(Int.ofNat n<0):=by have:=Int.natCast_nonneg n;simp only[Int.ofNat_eq_natCast];omega
    simp only[binOp,Op.shift,den,if_neg h0];rfl
   ·cases h
  ·split at h
   ·rename_i n;simp only[Option.some.injEq]at h;subst h;have h0:¬(Int.ofNat n<0):=by have:=Int.natCast_nonneg n;simp only[Int.ofNat_eq_natCast];omega
    simp only[binOp,Op.shift,den,if_neg h0];rfl
   ·cases h
  ·rename_i akz akA;split at h
   ·cases h
   ·rename_i hk _;subst hk;cases op<;>simp only[Option.some.injEq]at h<;>first
     |(subst h;simp[binOp,Op.intArith,Op.intCmp,Op.intBits,Op.intDiv,den,bits];done)
     |(subst h;simp[binOp,Op.intArith,Op.intCmp,Op.intBits,Op.intDiv,den,bits];rfl)
     |(split at h<;>first
       |(simp only[Option.some.injEq]at h
         subst h;rename_i n;have h1:¬((Int.ofNat (n+1))=0):=by simp only[Int.ofNat_eq_natCast];omega
         simp only[binOp,Op.intDiv,den,if_neg h1,ne_eq,not_true_eq_false,if_false,ite_false];rfl)
       |cases h)
     |cases h
     |(exact absurd rfl akz)
     |(exact absurd rfl akA)
 ·cases h
theorem Wv {op:UnOp} {x v:V} (h:acg op x=some v):(Op.unary op (den ids x)).run P w=.ok (den ids v) w:=by
 unfold acg at h;split at h
 ·simp only[Option.some.injEq]at h;subst h;simp[Op.unary,den]
 ·simp only[Option.some.injEq]at h;subst h;simp[Op.unary,Op.intArith,den]
 ·simp only[Option.some.injEq]at h;subst h;rename_i k n;cases hk:k.signed<;>simp[Op.unary,Op.intBits,bits,den,hk]
 ·cases h
end
def ug (pl:Nat->Option (Nat×Nat)):List V->List (Nat×V)->Option (List V)
 |c,[]=>some c
 |c,(i,v)::l=>match pl i with
  |some (off,n)=>bif LR v&&Nat.beq (eL (dX v)) n then(match Ws c off n (dX v)with|some c'=>ug pl c' l|none=>none)else none
  |none=>none
def placesOf (P:Program) (fs:Array Field) (i:Nat):Option (Nat×Nat):=match fs[i]?with
 |some f=>(match j_ P f.type with|some n=>some (f.offset,n)|none=>none)
 |none=>none
def m_ (P:Program) (t:TypeId) (l:List V) (off:Nat):Option V:=match jh P t,j_ P t with
 |some true,some n=>(match CN l off n with|some c=>some (.agg c)|none=>none)
 |some false,_=>oz l off
 |_,_=>none
def An (e:Operand->V) (ps:Array (Nat×Operand)):List (Nat×V):=ps.toList.map λp=>(p.1,e p.2)
def Pq (P:Program) (fs:Array Field):Bool:=fs.toList.all λf=>match j_ P f.type with|some _=>true|none=>false
section
variable{ids:List Nat} {P:Program} {w:World}
theorem LU (off:Nat):∀(vs:List Value) (cs:Array Value) (k:Nat),off+k+vs.length<=cs.size->
 ((vs.zipIdx k).foldl (λ(cs:Array Value) (x:Value×Nat)=>cs.setIfInBounds (off+x.2) x.1) cs).toList=cs.toList.take (off+k)++vs++cs.toList.drop (off+k+vs.length):=by
 intro vs;induction vs with
 |nil=>intro cs k h;simp
 |cons v l ih=>
  intro cs k h;simp only[List.length_cons]at h;simp only[List.zipIdx_cons,List.foldl_cons];rw[ih _ _ (by simp;omega)];simp only[Array.toList_setIfInBounds];have h1:off+k<cs.toList.length:=by simp;omega
  rw[show off+(k+1)=off+k+1 by omega];rw[List.take_set,List.drop_set,if_pos (by omega),List.take_succ_eq_append_getElem h1,List.set_append_right _ _ (by simp;omega)];simp only[List.length_take,List.length_cons];rw[show off+k-min (off+k) cs.toList.length=0 by omega];simp only[List.set_cons_zero,List.append_assoc,List.cons_append,List.nil_append];rw[show off+k+1+l.length=off+k+(l.length+1) by omega]
theorem Ao {pl:Nat->Option (Nat×Nat)} {place:Nat->Option (Nat×Nat)} (hp:∀i x,pl i=some x->place i=some x):∀(l:List (Nat×V)) (c c':List V),ug pl c l=some c'->
 Instr.fill place (ab ids c).toArray (l.map λp=>(p.1,den ids p.2))=some (ab ids c').toArray:=by
 intro l;induction l with
 |nil=>intro c c' h;simp only[ug,Option.some.injEq]at h;subst h;simp[Instr.fill]
 |cons a l ih=>
  intro c c' h;obtain⟨i,v⟩:=a;simp only[ug]at h;split at h
  ·rename_i off n hpl;cases hb:LR v&&Nat.beq (eL (dX v)) n with
   |false=>rw[hb]at h;simp at h
   |true=>
    rw[hb]at h;simp only[cond_true]at h;simp only[Bool.and_eq_true]at hb;have iM:eL (dX v)=n:=Nat.eq_of_beq_eq_true hb.2;split at h
    ·rename_i c1 hc1;obtain⟨s1,s2⟩:=I5 (ids:=ids) hc1;have Pr:=vY (ids:=ids) hb.1;have hlen:(den ids v).cells.size=n:=by rw[<-Array.length_toList,Pr,cL,iM]
     simp only[List.map_cons,Instr.fill,hp i _ hpl];have ab8:((decide ((den ids v).cells.size≠n))||decide (off+(den ids v).cells.size>(ab ids c).toArray.size))=false:=by
      simp[hlen];omega
     rw[if_neg (by simp only[ne_eq,Bool.or_eq_true,decide_eq_true_eq];simp[hlen];omega)];have key:(den ids v).cells.zipIdx.foldl (λ(cs:Array Value) (x:Value×Nat)=>cs.setIfInBounds (off+x.2) x.1) (ab ids c).toArray=(ab ids c1).toArray:=by
      apply Array.ext';rw[<-Array.foldl_toList,Array.toList_zipIdx,LU off _ _ 0 (by simp[hlen];omega)];rw[Pr,s1];simp[cL,iM]
     rw[key];exact ih _ _ h
    ·cases h
  ·cases h
theorem qz {t:TypeId} {i:TypeInfo} (h:P.info? t=some i):(typeInfo t).run P w=.ok i w:=by simp[typeInfo,h]
theorem bu {t:TypeId} {n:Nat} (h:j_ P t=some n):(Go.sizeOf t).run P w=.ok n w:=by
 unfold j_ at h;split at h
 ·rename_i i hi;simp only[Option.some.injEq]at h;simp[Go.sizeOf,Sem.run_bind,qz hi,h]
 ·cases h
theorem jM {t:TypeId} {z:List V} (h:jo P t=some z):∃v,(zeroValue t).run P w=.ok v w/\v.cells.toList=ab ids z:=by
 unfold jo at h;split at h
 ·rename_i i hi;split at h
  ·rename_i v hv;simp only[Option.some.injEq]at h;subst h;refine⟨v,by simp[zeroValue,Sem.run_bind,qz hi,hv],?_⟩;rw[vZ];cases v<;>simp[Value.cells,zd,dX,ab,cl,den,qy]
  ·cases h
 ·cases h
theorem CP {t:TypeId} {b:Bool} (h:jh P t=some b):(isAgg t).run P w=.ok b w:=by
 unfold jh at h;split at h
 ·rename_i d hd;simp only[Option.some.injEq]at h;exact iq (by rw[hd];simp[h]) w
 ·cases h
theorem Ap {t:TypeId} {l:List V} {off:Nat} {v:V} (h:m_ P t l off=some v):(part t (ab ids l).toArray off).run P w=.ok (den ids v) w:=by
 unfold m_ at h;split at h
 ·rename_i n ha hn;split at h
  ·rename_i c hc;simp only[Option.some.injEq]at h;subst h;obtain⟨g1,g2,g3⟩:=km (ids:=ids) hc;simp only[part,Sem.run_bind,CP ha,Result.andThen_ok,if_pos,bu hn,Sem.run_pure];simp only[den];congr 2;apply Array.ext';simp[Array.toList_extract,List.extract,g1]
  ·cases h
 ·rename_i ha;have:=Am (ids:=ids) h;simp only[part,Sem.run_bind,CP ha,Result.andThen_ok,Bool.false_eq_true,if_false];simp[this]
 ·cases h
theorem CQ {fs:List Field} (h:∀f∈fs,∃n,j_ P f.type=some n):(fs.mapM λ(f:Field)=>(do pure (f.offset,<-Go.sizeOf f.type):Sem (Nat×Nat))).run P w=.ok (fs.map λf=>(f.offset,(j_ P f.type).getD 0)) w:=by
 induction fs with
 |nil=>rfl
 |cons f l ih=>
  obtain⟨n,hn⟩:=h f (by simp);have:=ih (λf hf=>h f (by simp[hf]));simp only[List.mapM_cons,Sem.run_bind,bu hn,Result.andThen_ok,Sem.run_pure,this,List.map_cons,hn,Option.getD_some]
end
end Vx
