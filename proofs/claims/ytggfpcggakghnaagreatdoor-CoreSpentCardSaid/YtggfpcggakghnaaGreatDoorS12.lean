/- Part 12 of the proof. -/
import Derived.ChangeArms
import Derived.OpenShut
import Derived.Deep.Slices
import Derived.Test.YtggfpcggakghnaaGreatDoorProg
import Derived.Test.YtggfpcggakghnaaGreatDoorS11
set_option linter.all false
set_option maxRecDepth 100000
set_option maxHeartbeats 4000000
open Go.Proofs.Tryz
open Go.IntKind (u8 u16 u32 u64 i64)
namespace Sx
open Go Go.RowKit
def Rd (P:Program) (w:World):Nat->TypeId->List Value->Prop
 |0,_,_=>True
 |d+1,t,cs=>
  match P.underlying t with
  |some .bool=>∃b,cs=[.bool b]
  |some (.int k)=>∃n,cs=[.int k n]/\k.min<=n/\n<=k.max
  |some (.slice e)=>cs=[.slice none 0 0]\/∃a len cap,cs=[.slice (some a) len cap]/\len<=cap/\cap<=maxLen/\∀i,i<cap->∃Fy,w.cells? 0 (a.add (i*P.cellsOf e)) (P.cellsOf e)=some Fy/\Rd P w d e Fy
  |some (.struct fs)=>cs.length=P.cellsOf t/\∀(i:Nat) f,fs[i]?=some f->Rd P w d f.type ((cs.drop f.offset).take (P.cellsOf f.type))
  |some (.array n e)=>cs.length=P.cellsOf t/\∀i,i<n->Rd P w d e ((cs.drop (i*P.cellsOf e)).take (P.cellsOf e))
  |_=>True
section
variable{H:Type} {enc:TypeId×Value->H} {P:Program} {w:World} {held:Bool}
theorem mj:∀(d:Nat) {fuel:Nat} {t:TypeId} {cs:List Value} {x:DataW H×List MemPlace},DataW.trod enc P w 0 (λ_=>true) held fuel t cs=some x->Rd P w d t cs
 |0,_,_,_,_,_=>trivial
 |d+1,fuel,t,cs,x,h=>by
  unfold Rd;split
  ·rename_i hu;obtain⟨b,hb,_⟩:=DataW.trod_bool hu h;exact⟨b,hb⟩
  ·rename_i k hu;obtain⟨n,hn,_,hw⟩:=DataW.trod_int hu h;refine⟨n,hn,?_⟩;unfold Lit.wf at hw;simpa using hw
  ·rename_i e hu;rcases Deep.open_slice hu h with⟨h0,_⟩|⟨a,len,cap,m,n,D,Pl,hc,_,hl,hm,hmm,_,hx⟩
   ·exact .inl h0
   ·refine .inr ⟨a,len,cap,hc,hl,hm,λi hi=>?_⟩;obtain⟨Fy,h1,h2⟩:=hx i (by rw[hmm];simpa using hi);exact⟨Fy,h1,mj d h2⟩
  ·rename_i fs hu;obtain⟨xs,n,_,_,hl,hs,hx⟩:=DataW.trod_struct hu h;refine⟨hl,λi f hf=>?_⟩;have h1:=hx i f hf;have hi:i<fs.size:=by
    rcases Nat.lt_or_ge i fs.size with h2|h2
    ·exact h2
    ·simp[h2]at hf
   rw[List.getElem?_eq_getElem (by rw[hs];exact hi)]at h1;exact mj d h1
  ·rename_i n e hu;obtain⟨xs,m,_,_,hl,hs,hx⟩:=DataW.trod_array hu h;refine⟨hl,λi hi=>?_⟩;have h1:=hx i hi;rw[List.getElem?_eq_getElem (by rw[hs];exact hi)]at h1;exact mj d h1
  ·trivial
def cellAt (P:Program):Nat->TypeId->Nat->Option TypeId
 |0,_,_=>none
 |d+1,t,j=>
  match P.underlying t with
  |some (.struct fs)=>fs.toList.findSome? λf=>bif Nat.ble f.offset j&&Nat.blt j (f.offset+P.cellsOf f.type)then cellAt P d f.type (j-f.offset)else none
  |some (.array n e)=>bif Nat.blt (j/P.cellsOf e) n&&Nat.blt 0 (P.cellsOf e)then cellAt P d e (j%P.cellsOf e)else none
  |_=>bif Nat.beq j 0 then some t else none
theorem sh:∀(d:Nat) {t:TypeId} {cs:List Value} {j:Nat} {u:TypeId} {v:Value},(∀n,Rd P w n t cs)->cellAt P d t j=some u->cs[j]?=some v->∀n,Rd P w n u [v]
 |0,_,_,_,_,_,_,h,_=>by simp[cellAt]at h
 |d+1,t,cs,j,u,v,hr,h,hv=>by
  unfold cellAt at h;split at h
  ·rename_i fs hu;obtain⟨f,hf,h⟩:=List.exists_of_findSome?_eq_some h;obtain⟨i,hi⟩:=List.getElem?_of_mem hf;have O3:fs[i]?=some f:=by simpa using hi
   rw[Bool.cond_eq_ite]at h;split at h
   ·rename_i hc;simp only[Bool.and_eq_true]at hc;have h1:=Nat.le_of_ble_eq_true hc.1;have h2:j<f.offset+P.cellsOf f.type:=by
     have:=hc.2;unfold Nat.blt at this;exact Nat.le_of_ble_eq_true this
    refine sh d (cs:=(cs.drop f.offset).take (P.cellsOf f.type)) (λn=>?_) h ?_
    ·have:=hr (n+1);unfold Rd at this;rw[hu]at this;exact this.2 i f O3
    ·rw[List.getElem?_take_of_lt (by omega),List.getElem?_drop];rw[show f.offset+(j-f.offset)=j by omega];exact hv
   ·simp at h
  ·rename_i n0 e hu;rw[Bool.cond_eq_ite]at h;split at h
   ·rename_i hc;simp only[Bool.and_eq_true]at hc;have h1:j/P.cellsOf e<n0:=by
     have:=hc.1;unfold Nat.blt at this;exact Nat.le_of_ble_eq_true this
    have h2:0<P.cellsOf e:=by
     have:=hc.2;unfold Nat.blt at this;exact Nat.le_of_ble_eq_true this
    refine sh d (cs:=(cs.drop (j/P.cellsOf e*P.cellsOf e)).take (P.cellsOf e)) (λn=>?_) h ?_
    ·have:=hr (n+1);unfold Rd at this;rw[hu]at this;exact this.2 _ h1
    ·rw[List.getElem?_take_of_lt (Nat.mod_lt _ h2),List.getElem?_drop];rw[show j/P.cellsOf e*P.cellsOf e+j%P.cellsOf e=j by rw[Nat.mul_comm];exact Nat.div_add_mod _ _];exact hv
   ·simp at h
  ·rename_i hns hna;rw[Bool.cond_eq_ite]at h;split at h
   ·rename_i hj;obtain rfl:j=0:=Nat.eq_of_beq_eq_true hj;obtain rfl:t=u:=by simpa using h
    intro n;have h1:=hr n;cases n with
    |zero=>trivial
    |succ n=>
     unfold Rd at h1⊢;split at h1
     ·obtain⟨b,rfl⟩:=h1;simp at hv;subst hv;exact⟨b,rfl⟩
     ·obtain⟨k,rfl,h2⟩:=h1;simp at hv;subst hv;exact⟨k,rfl,h2⟩
     ·rcases h1 with rfl|⟨a,len,cap,rfl,h2⟩
      ·simp at hv;subst hv;exact .inl rfl
      ·simp at hv;subst hv;exact .inr ⟨a,len,cap,rfl,h2⟩
     ·rename_i fs hu;exact absurd hu (hns fs)
     ·rename_i k e hu;exact absurd hu (hna k e)
     ·trivial
   ·simp at h
theorem Uy {u:TypeId} {v:Value} {k:IntKind} (hu:P.underlying u=some (.int k)) (h:∀n,Rd P w n u [v]):∃n,v=.int k n/\k.min<=n/\n<=k.max:=by
 have:=h 1;unfold Rd at this;rw[hu]at this;obtain⟨b,hb,h2⟩:=this;exact⟨b,by simpa using hb,h2⟩
theorem E0 {u e:TypeId} {v:Value} {z:Nat} {ts:List TypeId} (hu:P.underlying u=some (.slice e)) (h:∀n,Rd P w n u [v]) (hz:P.cellsOf e=z:=by kernel_rfl) (d:Nat) (ju:(List.range z).map (cellAt P d e)=ts.map some:=by kernel_rfl):
 v=.slice none 0 0\/∃a len cap,v=.slice (some a) len cap/\len<=cap/\cap<=maxLen/\∃c:Nat->Nat->Value,∀i,i<cap->∀j,j<z->w.cell? (a.add (i*z+j))=some (c i j)/\∀u',ts[j]?=some u'->∀n,Rd P w n u' [c i j]:=by
 have h1:=h 1;unfold Rd at h1;rw[hu]at h1;rcases h1 with h1|⟨a,len,cap,h1,h2,h3,_⟩
 ·exact .inl (by simpa using h1)
 ·obtain rfl:v=_:=by simpa using h1
  refine .inr ⟨a,len,cap,rfl,h2,h3,?_⟩;subst hz;have key:∀i,i<cap->∃Fy,w.cells? 0 (a.add (i*P.cellsOf e)) (P.cellsOf e)=some Fy/\∀n,Rd P w n e Fy:=by
   intro i hi;have ba:∀n,∃Fy,w.cells? 0 (a.add (i*P.cellsOf e)) (P.cellsOf e)=some Fy/\Rd P w n e Fy:=by
    intro n;have h4:=h (n+1);unfold Rd at h4;rw[hu]at h4;rcases h4 with h4|⟨a',amt,amu,h4,_,_,h5⟩
    ·simp at h4
    ·simp at h4;obtain⟨rfl,rfl,rfl⟩:=h4;exact h5 i hi
   obtain⟨Fy,hc,_⟩:=ba 0;refine⟨Fy,hc,λn=>?_⟩;obtain⟨amv,Tt,hr⟩:=ba n;rw[hc]at Tt;obtain rfl:Fy=amv:=by simpa using Tt
   exact hr
  obtain⟨C,hC⟩:=Deep.choose_lt key;refine⟨λi j=>(C i).getD j undef,λi hi j hj=>?_⟩;obtain⟨h5,h6⟩:=hC i hi;obtain⟨_,hl,jr⟩:=World.cells?_some h5;have h7:(C i)[j]?=some ((C i).getD j undef):=by
   have iK:j<(C i).length:=by omega
   simp[List.getD,List.getElem?_eq_getElem iK]
  refine⟨?_,λu' hu'=>?_⟩
  ·have:=jr j hj;rw[h7]at this;have e1:(a.add (i*P.cellsOf e)).add j=a.add (i*P.cellsOf e+j):=by
    unfold Addr.add;split<;>split<;>split<;>simp_all<;>omega
   rw[e1]at this;exact this
  ·have hjt:cellAt P d e j=some u':=by
    have h8:((List.range (P.cellsOf e)).map (cellAt P d e))[j]?=some (some u'):=by rw[ju];simp[hu']
    simp[hj]at h8;exact h8
   exact sh d h6 hjt h7
end
end Sx
namespace Go.Proofs.YtggfpcggakghnaaGreatDoor
open Go Go.RowKit Go.WideShapes Sd Sx
theorem Uz {W:World} {a:Option Addr} {m c:Nat} (jr:∀n,Rd prog W n 23 [.slice a m c]) (hk:KR W a m c):∃kb:Nat->Int,SR [] W a m c kb:=by
 obtain⟨h1,h2⟩:=hk;rcases h2 with⟨e1,e2,e3⟩|⟨x,e1,hc,hh⟩
 ·exact⟨λ_=>0,h1,λ_=>⟨e2,e3⟩,λad ha=>by rw[e1]at ha;cases ha⟩
 ·rcases E0 Tryz.underlying23 jr (z:=1) (by kernel_rfl) 5 (ts:=[5]) (by kernel_rfl)with h0|⟨a',amt,amu,h0,_,_,C,hC⟩
  ·rw[e1]at h0;simp at h0
  ·rw[e1]at h0;simp only[Value.slice.injEq,Option.some.injEq]at h0;obtain⟨rfl,rfl,rfl⟩:=h0;refine⟨λj=>match C j 0 with|.int _ n=>n|_=>0,h1,λh=>(by rw[e1]at h;cases h),λad ha=>⟨by simp,λj hj=>?_⟩⟩;rw[e1]at ha;obtain rfl:=Option.some.inj ha;obtain⟨h3,h4⟩:=hC j (by omega) 0 (by omega);obtain⟨n,h5,_⟩:=Uy Tryz.underlying5 (h4 _ rfl);simp only[h5]at h3⊢;simpa using h3
theorem NZ {W:World} {v:Value} (hv:Value.okWide prog W .any 0 28 v) (hr:∀n,Rd prog W n 28 v.cells.toList):
 ∃(q:Nat->Int) (ka:Nat->Option Addr) (kn kc:Nat->Nat) (kb:Nat->Nat->Int),v=.agg (Hf q ka kn kc)/\(∀i,-9223372036854775808<=q i/\q i<=9223372036854775807)/\∀i,i<4->SR [] W (ka i) (kn i) (kc i) (kb i):=by
 obtain⟨q,ka,kn,kc,rfl,hq,hk⟩:=Ux hv;have key:∀i,i<4->∃kb:Nat->Int,SR [] W (ka i) (kn i) (kc i) kb:=by
  intro i hi;have jr:∀n,Rd prog W n 23 [.slice (ka i) (kn i) (kc i)]:=by
   have h5:(Hf q ka kn kc)[5+i]?=some (.slice (ka i) (kn i) (kc i)):=by
    match i,hi with
    |0,_=>rfl
    |1,_=>rfl
    |2,_=>rfl
    |3,_=>rfl
    |i+4,h=>exact absurd h (by omega)
   have Lx:cellAt prog 6 28 (5+i)=some 23:=by
    have e:i=0\/i=1\/i=2\/i=3:=by omega
    rcases e with rfl|rfl|rfl|rfl
    ·show cellAt prog 6 28 5=some 23;kernel_rfl
    ·show cellAt prog 6 28 6=some 23;kernel_rfl
    ·show cellAt prog 6 28 7=some 23;kernel_rfl
    ·show cellAt prog 6 28 8=some 23;kernel_rfl
   exact sh 6 (P:=prog) (w:=W) (t:=28) (cs:=(Hf q ka kn kc).toList) (j:=5+i) hr Lx (by simpa using h5)
  exact Uz jr (hk i hi)
 obtain⟨kb,hkb⟩:=Deep.choose_lt key;exact⟨q,ka,kn,kc,kb,rfl,hq,hkb⟩
end Go.Proofs.YtggfpcggakghnaaGreatDoor
namespace Go.Proofs.YtggfpcggakghnaaGreatDoor
open Go Go.RowKit Go.BigFrame Go.WideShapes Go.ChangeShapes Sd Sx Vx
section
variable{H:Type} {enc:TypeId×Value->H} {P:Program} {w:World} {base:Nat} {spare:Nat->Bool} {held:Bool} {fuel:Nat} {t e:TypeId} {cs:List Value} {ps:List MemPlace}
theorem UA {zs:List Bool} (ht:P.underlying t=some (.array zs.length e)) (he:P.underlying e=some .bool) (hc:P.cellsOf e=1) (hn:P.cellsOf t=zs.length)
 (h:DataW.trod enc P w base spare held fuel t cs=some (.agg (zs.map λz=>.lit (.bool z)),ps)):cs=zs.map Value.bool:=by
 obtain⟨xs,m,rfl,hx,hlen,Wf,Fx⟩:=DataW.trod_array ht h;simp only[Prod.mk.injEq,DataW.agg.injEq]at hx;rw[hn]at hlen;apply List.ext_getElem?;intro i;by_cases hi:i<zs.length
 ·have h1:=Fx i hi;rw[hc,Nat.mul_one,List.getElem?_eq_getElem (by omega)]at h1;obtain⟨z,e1,e2⟩:=DataW.trod_bool he h1;have h3:(zs.map λz=>(DataW.lit (.bool z):DataW H))[i]?=(xs.map (·.1))[i]?:=by rw[hx.1]
  rw[List.getElem?_map,List.getElem?_map,List.getElem?_eq_getElem hi,List.getElem?_eq_getElem (by omega),Option.map_some,Option.map_some]at h3;have e3:=congrArg Prod.fst e2;rw[e3]at h3;simp at h3;rw[KM e1,List.getElem?_map,List.getElem?_eq_getElem hi,Option.map_some,h3]
 ·rw[List.getElem?_eq_none (by omega),List.getElem?_eq_none (by simp;omega)]
end
def KU:List Bool:=[false,false,false,false,false,false,false,false,false,false,true,true]
theorem Z9 {W:World} (h:laidMetH prog Ut W):∃t,W.heap[0]?=some (.cells #[.bool false,.bool false,.bool false,.bool false,.bool false,.bool false,.bool false,.bool false,.bool false,.bool false,.bool true,.bool true] t (0,0)):=by
 rw[MakeChecks.laidMetH_plain _ _ _ (by kernel_rfl)]at h;obtain⟨ps,⟨g0,t0,cs0,f0,p0,q0,hg0,ht0,OT,hd0,⟨g1,t1,cs1,f1,p1,q1,hg1,ht1,VG,Zm,_,hq⟩,Mc⟩,_,jr⟩:=h;obtain rfl:g0=0:=Option.some.inj (hg0.symm.trans (show prog.globalNamed "sidestick/gate.commands" =some 0 by kernel_rfl));have e1:(prog.globals[0]?).map (·.type)=some 269:=by kernel_rfl
 obtain rfl:t0=269:=Option.some.inj (ht0.symm.trans e1);have Jd:cs0.toList=KU.map Value.bool:=by
  have hd2:DataW.trod (λ_=>()) prog W 0 (λ_=>true) false f0 269 cs0.toList=some (.agg (KU.map λz=>.lit (.bool z)),p0):=
   hd0.trans (congrArg (λd=>some (d,p0)) (show(Rows.laid_sidestick_gate_commands:DataW Unit)=.agg (KU.map λz=>.lit (.bool z)) by kernel_rfl))
  exact UA (zs:=KU) (e:=4) (by kernel_rfl) (by kernel_rfl) (by kernel_rfl) (by kernel_rfl) hd2
 obtain⟨t,f,ba⟩:=KO (show prog.globalNamed "sidestick/gate.commands" =some 0 by kernel_rfl) OT;have hc0:cs0=#[.bool false,.bool false,.bool false,.bool false,.bool false,.bool false,.bool false,.bool false,.bool false,.bool false,.bool true,.bool true]:=by
  apply Array.ext';rw[Jd];rfl
 obtain⟨c,t',xy⟩:=(jr 0 0 (by
  rw[Mc,hc0];have:MemPlace.cell 0 0∈MemPlace.row ⟨0,0,none⟩ 12:=by
   simp[MemPlace.row]
  exact List.mem_append_left _ (List.mem_append_left _ this))).1
 rw[ba]at xy;simp only[Option.some.injEq,Obj.cells.injEq]at xy;refine⟨t,?_⟩;rw[ba,hc0,xy.2.2]
theorem Z_ {W:World} {v:Value} (h:∀n,Rd prog W n 23 [v]):∃a n c,v=.slice a n c/\gF W a n c (ft W a):=by
 rcases E0 Tryz.underlying23 h (z:=1) (by kernel_rfl) 5 (ts:=[5]) (by kernel_rfl)with rfl|⟨a,len,cap,rfl,hle,_,C,hC⟩
 ·exact⟨none,0,0,rfl,Nat.le_refl _,λ_=>⟨rfl,rfl⟩,λx e=>nomatch e⟩
 ·have hb:∀j,j<len->∃n,C j 0=.int .u8 n/\0<=n/\n<=255:=λj hj=>by
   obtain⟨n,h5,h6⟩:=Uy Tryz.underlying5 ((hC j (by omega) 0 (by omega)).2 _ rfl);exact⟨n,h5,by simpa[IntKind.min,IntKind.max,IntKind.signed,IntKind.bits]using h6⟩
  refine⟨some a,len,cap,rfl,afc (f:=λj=>match C j 0 with|.int _ n=>n|_=>0) ⟨hle,(λe=>nomatch e),λx e j hj=>?_⟩ λj hj=>?_⟩
  ·obtain rfl:=Option.some.inj e;obtain⟨n,h5,_⟩:=hb j hj;have h3:=(hC j (by omega) 0 (by omega)).1;simp only[h5]at h3⊢;simpa using h3
  ·obtain⟨n,h5,h6⟩:=hb j hj;simp only[h5];exact h6
theorem N0 {W:World} {v:Value} (hv:Value.okWide prog W .any 0 28 v) (hr:∀n,Rd prog W n 28 v.cells.toList):
 ∃(q:Nat->Int) (ka:Nat->Option Addr) (kn kc:Nat->Nat),v=.agg (uE ⟨q,λ_=>(0,λ_=>0)⟩ ka kn kc).toArray/\∀j,j<4->gF W (ka j) (kn j) (kc j) (ft W (ka j)):=by
 obtain⟨q,ka,kn,kc,kb,rfl,hq,hk⟩:=NZ hv hr;refine⟨q,ka,kn,kc,rfl,λj hj=>?_⟩;have jr:∀n,Rd prog W n 23 [.slice (ka j) (kn j) (kc j)]:=by
  have h5:(Hf q ka kn kc)[5+j]?=some (.slice (ka j) (kn j) (kc j)):=by
   match j,hj with
   |0,_=>rfl
   |1,_=>rfl
   |2,_=>rfl
   |3,_=>rfl
   |j+4,h=>exact absurd h (by omega)
  have Lx:cellAt prog 6 28 (5+j)=some 23:=by
   have e:j=0\/j=1\/j=2\/j=3:=by omega
   rcases e with rfl|rfl|rfl|rfl
   ·show cellAt prog 6 28 5=some 23;kernel_rfl
   ·show cellAt prog 6 28 6=some 23;kernel_rfl
   ·show cellAt prog 6 28 7=some 23;kernel_rfl
   ·show cellAt prog 6 28 8=some 23;kernel_rfl
  exact sh 6 (P:=prog) (w:=W) (t:=28) (cs:=(Hf q ka kn kc).toList) (j:=5+j) hr Lx (by simpa using h5)
 obtain⟨a,n,c,e,h⟩:=Z_ jr;simp only[Value.slice.injEq]at e;obtain⟨rfl,rfl,rfl⟩:=e;exact h
theorem U3 {W:World} {v:Value} {t:TypeId} {n:Nat} (hu:prog.underlying t=some (.array n 5)) (hct:prog.cellTypes prog.depth t=some (List.replicate n 5)) (hn:prog.cellsOf t=n) (hv:Value.okWide prog W .any 0 t v):
 ∃cs:Array Value,v=.agg cs/\cs.size=n/\∀(i:Nat) x,cs[i]?=some x->∃z,x=.int .u8 z/\0<=z/\z<=255:=by
 obtain⟨cs,rfl,hs,h⟩:=yb hu rfl hct (by rw[hn];simp) hv;refine⟨cs,rfl,by simpa using hs,λi x hx=>?_⟩;have hi:i<n:=by
  rcases Nat.lt_or_ge i cs.size with h1|h1
  ·simpa[hs]using h1
  ·rw[Array.getElem?_eq_none h1]at hx;cases hx
 exact Z8 Tryz.underlying5 (h i x 5 hx (by simp[hi]))
theorem aeQ {W:World} {v:Value} (hv:Value.okWide prog W .any 0 29 v):∃x0 x1,v=.agg #[.int .u8 x0,.int .u8 x1]/\(0<=x0/\x0<=255)/\0<=x1/\x1<=255:=by
 obtain⟨cs,rfl,hs,h⟩:=U3 (n:=2) (by kernel_rfl) (by kernel_rfl) (by kernel_rfl) hv;rcases cs with⟨l⟩
 match l,hs with
 |[a,b],_=>
  obtain⟨z0,rfl,h0⟩:=h 0 a rfl;obtain⟨z1,rfl,h1⟩:=h 1 b rfl;exact⟨z0,z1,rfl,h0,h1⟩
end Go.Proofs.YtggfpcggakghnaaGreatDoor
namespace Go.Proofs.YtggfpcggakghnaaGreatDoor
open Go Go.RowKit Go.BigFrame Sx Vx
variable{fr:Sd.Reply->Nat×Sd.Byt}
section
variable{G:Type} [Bl G]
theorem zU {C:Ctx G} {f n:Nat} {ids:List Nat} {bl:List VB} {ch0 rest:List G} {R:List av} {ms:List Nat} {w0 w:World} (hT:∀f c,C.T f=some c->Sound C.P C.gl f c) (hQ:iz C) (hl:ids.length=bl.length) (S:St ms w0 (lits ids ids bl++af (ch0++rest) R) w)
 (is:List Nat) (hn:is.Nodup) (hg:Gl C.gl (is.map λi=>ids.getD i 0)) (bs:List VB) (hb:is.map (bl[·]?)=bs.map some) (hw:dk 0 bs=true) {args args':List V} (a9:ao ids args=ao (is.map λi=>ids.getD i 0) args') {v0:V} (OT:fK 0 v0=true)
 (fU:cJ C n f args' bs ch0 (cP bs.length λv b c=>v=v0/\b.take bs.length=bs/\∃c2,c=ch0++c2)):aj C.P f (ao ids args).toArray w λv w'=>v=den [] v0/\St ms w0 (lits ids ids bl++af (ch0++rest) R) w':=by
 have hlen:is.length=bs.length:=by have:=congrArg List.length hb;simpa using this
 have uC:∀(k i:Nat),is[k]?=some i->∃b,bs[k]?=some b/\bl[i]?=some b:=by
  intro k i hk;have:=congrArg (λl=>l[k]?) hb;simp only[List.getElem?_map,hk,Option.map_some]at this;cases hbk:bs[k]?with
  |none=>rw[hbk]at this;simp at this
  |some b=>rw[hbk]at this;simp only[Option.map_some,Option.some.injEq]at this;exact⟨b,rfl,this⟩
 have iK:∀i∈is,i<bl.length:=by
  intro i hi;obtain⟨k,hk⟩:=List.getElem?_of_mem hi;obtain⟨b,_,h2⟩:=uC k i hk;exact bO h2
 obtain⟨r,hr,hp⟩:=ux (bl:=bl) (ids:=ids) hl hn iK;have dP:=hp bl rfl;have LY:∀(Ip:List Nat),(is.map λj=>aE ids (ids.getD j 0) (bl.getD j gK))=lits Ip (is.map λi=>ids.getD i 0) bs:=by
  intro Ip;clear hr hp dP a9 fU iK hg;induction is generalizing bs with
  |nil=>simp[lits]
  |cons i is ih=>
   cases bs with
   |nil=>simp at hlen
   |cons b bs=>
    simp only[List.map_cons,List.cons.injEq]at hb;simp only[dk,Bool.and_eq_true]at hw;simp only[List.map_cons,lits,cG hb.1];rw[cF (ids':=Ip) hw.1,ih (List.nodup_cons.1 hn).2 bs hb.2 hw.2 (by simpa using hlen) (λk i hk=>uC (k+1) i (by simpa using hk))]
 rw[LY (is.map λi=>ids.getD i 0)]at dP;have S1:St ms w0 (lits (is.map λi=>ids.getD i 0) (is.map λi=>ids.getD i 0) bs++af ch0 ((r.map λj=>aE ids (ids.getD j 0) (bl.getD j gK))++af rest R)) w:=by
  refine S.perm ((dP.append_right _).trans ?_);rw[cV,aW (af rest R) ch0,aW ((r.map λj=>aE ids (ids.getD j 0) (bl.getD j gK))++af rest R) ch0];exact cj λf=>by simp only[List.countP_append];omega
 rw[a9];refine(bw hT hQ n hg (by simpa using hlen) S1 fU).mono ?_;rintro v w' ⟨x,E1,bl0,ch',rfl,Px,S0,hK⟩;obtain⟨v2,more,bl',hv,D8,S2,rfl,hbs,c2,rfl⟩:=c9 (n0:=bs.length) Px (by simp[hlen]) S0 hK;have htk:((is.map λi=>ids.getD i 0)++E1).take bs.length=is.map λi=>ids.getD i 0:=by rw[<-hlen];have:=List.take_left (l₁:=is.map λi=>ids.getD i 0) (l₂:=E1);simpa using this
 rw[htk]at hv D8 S2;refine⟨by rw[hv];have:=bC (ids:=[]) (more:=(is.map λi=>ids.getD i 0)++more) v2 OT;simpa using this,?_⟩;have gz:bl'=bs++bl'.drop bs.length:=by have:=List.take_append_drop bs.length bl';rw[hbs]at this;exact this.symm
 rw[gz,aI _ _ _ _ (by simpa using hlen),fc (ids':=is.map λi=>ids.getD i 0) (is.map λi=>ids.getD i 0) bs hw]at S2;rw[cV,aW _ ch0,aW _ c2]at S2;have S3:St ms w0 (lits (is.map λi=>ids.getD i 0) (is.map λi=>ids.getD i 0) bs++(af ch0 []++((r.map λj=>aE ids (ids.getD j 0) (bl.getD j gK))++af rest R))) w':=by
  refine S2.sub ?_;rw[List.append_assoc];refine List.Sublist.append_left ?_ _;refine List.Sublist.trans ?_ (List.sublist_append_right _ _);exact List.Sublist.append_left (List.sublist_append_right _ _) _
 refine S3.perm (List.Perm.trans ?_ (dP.symm.append_right _));rw[cV,aW (af rest R) ch0];exact cj λf=>by simp only[List.countP_append];omega
end
theorem afr {G:Type} [Bl G] {C:Ctx Empty} {f n:Nat} {ids:List Nat} {bl:List VB} {ch:List G} {R:List av} {ms:List Nat} {w0 w:World} (hT:∀f c,C.T f=some c->Sound C.P C.gl f c) (hQ:iz C) (hg:C.gl=gv) (hl:ids.length=bl.length) (S:St ms w0 (lits ids ids bl++af ch R) w)
 (is:List Nat) (hn:is.Nodup) (bs:List VB) (hb:is.map (bl[·]?)=bs.map some) (hw:dk 0 bs=true) {args args':List V} (a9:ao ids args=ao (is.map λi=>ids.getD i 0) args') {v0:V} (OT:fK 0 v0=true)
 (fU:cJ C n f args' bs [] (cP bs.length λv b c=>v=v0/\b.take bs.length=bs/\∃c2,c=[]++c2)):aj C.P f (ao ids args).toArray w λv w'=>v=den [] v0/\St ms w0 (lits ids ids bl++af ch R) w':=
 zU (G:=Empty) (ch0:=[]) (rest:=[]) (R:=af ch R) hT hQ hl S is hn (λg i h=>by rw[hg]at h;cases h) bs hb hw a9 OT fU
theorem E2 (C:Sd.Crypt) (p:Sd.Pol) {m:Sd.bW} (hm:C.take 2 (f2 1 1)=some m) (hr:m.role=1) (ht:Sd.fm p 1 1=true):∃r e,(cQ C (ib p) 1 0 2 (f2 1 1)).sent=[(1,r)]/\(cQ C (ib p) 1 0 2 (f2 1 1)).recs=[⟨2,1,0,e,0,0⟩]/\(cQ C (ib p) 1 0 2 (f2 1 1)).c.t.holder=4/\(cQ C (ib p) 1 0 2 (f2 1 1)).c.p=p:=by
 have e:cQ C (ib p) 1 0 2 (f2 1 1)=(ib p).gW C 1 2 (f2 1 1):=rfl;rw[e];unfold Sd.Scene.gW;rw[hm];dsimp only;have ht':Sd.fm (ib p).c.p 1 m.role=true:=by rw[hr];exact ht
 rw[if_neg (by rw[ht'];simp),if_neg (by show¬(4294967295:Int)<=0;decide)];exact⟨_,_,rfl,rfl,rfl,rfl⟩
theorem afs:∃m,aT 2 (f2 1 1)=some m/\m.role=1:=⟨_,rfl,rfl⟩
def shC:gm (LG fr):=λargs bl ch K=>match args,ch,bl with
 |[],.cn u::rest,⟨w0,⟨tg,(0,0)⟩,c0⟩::⟨w1,⟨tc,(0,0)⟩,c1⟩::bl2=>(w0=false/\c0=(gi tg).c/\w1=false/\c1=(sf tc).c)/\K (.bool true) (⟨w0,⟨tg,(0,0)⟩,c0⟩::⟨w1,⟨tc,(0,0)⟩,c1⟩::bl2) (.cn u::rest)
 |_,_,_=>False
theorem Cm (u:World) (f:Nat->Int):gF u none 0 0 f:=⟨Nat.le_refl _,λ_=>⟨rfl,rfl⟩,λx e=>nomatch e⟩
theorem UC {tg tc it:Nat} {k:LK} {s:Sd.Scene} (h1:k.tg=tg) (h2:k.tc=tc) (h3:s.c.p.queue=k.most):EY tg tc it k s:=by
 subst h1 h2;exact⟨rfl,rfl,rfl,rfl,rfl,h3⟩
theorem aft {tg tc:Nat} {u:World} {K:VK (LG fr)} (hK:∀(g:Gh fr) (fB:List av),K (.bool true) [gi tg,sf tc] [.cn u,.core g fB]):shX (ah aT) tg tc u K:=by
 refine⟨⟨Cm _ _,Cm _ _,Cm _ _,Cm _ _⟩,λp n d hM=>?_⟩;have hn:∀j,j<4->1<=n j/\n j<=64:=λj hj=>by rw[hM.n j];exact TZ _
 obtain⟨h1,h2⟩:=afp (m:=2) (d:=d) hM.I hM.o hn;have h1':EX (kg 2 p n d) (n4 n):=⟨h1.code,λj hj=>by
  rw[<-h1.n j hj]
  match j,hj with
  |0,_=>rfl
  |1,_=>rfl
  |2,_=>rfl
  |3,_=>rfl
  |j+4,h=>exact absurd h (by omega),h1.k⟩
 refine⟨h1',λp2 k F hN v1 v2=>?_⟩;have hC:=Ur hN (h2 _) (λj hj=>by rw[nH _ _ _ _ hj];exact hn j hj);refine⟨UC hN.tg hN.tc hN.most.symm,⟨rfl,rfl,rfl⟩,hN.zF,⟨by rw[iB];exact hC,v1,v2,by decide,λj=>by unfold f2;split<;>decide⟩,?_⟩;rintro s' hs r fn F0 w1 w2 hfr;rw[iB]at hs;obtain⟨m,hm,hr⟩:=afs;have hp:p2.i 10=2:=by
  rw[hN.eq];show iN (nth (kg 2 p n d) 10)=2;rw[Ck 2 p n d (by decide) rfl,hM.p 10 (by decide) rfl];show bits .and .i64 2 14=2;decide
 have ht:Sd.fm p2 1 1=true:=by
  unfold Sd.fm Sd.Pol.vX;have:p2.i (9+Int.toNat 1)=2:=hp;rw[this];decide
 obtain⟨x,e,q1,q2,q3,hpq⟩:=E2 (ah aT) p2 hm hr ht;rw[<-hs]at q1 q2 q3 hpq;have l1:s'.sent.length=1:=by rw[q1];rfl
 have l2:s'.recs.length=1:=by rw[q2];rfl
 have l3:(s'.sent.getD 0 default).1=1:=by rw[q1];rfl
 have l4:(s'.recs.getD 0 default).kind=2:=by rw[q2];rfl
 unfold shE;refine aU (λ_=>⟨⟨by decide,by omega⟩,⟨by omega,λj=>rfl⟩,?_⟩) (λh=>absurd h (by simp[l1]));refine aU (λ_=>?_) (λh=>absurd h (by rw[l3];decide));refine aU (λ_=>⟨⟨by decide,by omega⟩,⟨by omega,λj=>rfl⟩,?_⟩) (λh=>absurd h (by simp[l2]));refine aU (λ_=>?_) (λh=>absurd h (by rw[l4];decide));refine⟨UC hN.tg hN.tc (by show s'.c.p.queue=k.most;rw[hpq];exact hN.most.symm),λx c ty us=>?_⟩;have:((fS s').c.t.holder==4)=true:=by show(s'.c.t.holder==4)=true;rw[q3];rfl
 rw[this];exact hK _ _
theorem N1 (ht:Body (fr:=fr) 147 bV):Sound prog gS 9 (shC (fr:=fr)):=by
 intro args ids bl ch R ms w0 w K hg hl S hc;unfold shC at hc;split at hc
 ·rename_i u rest w0' tg c0 w1' tc c1 bl2;obtain⟨⟨rfl,rfl,rfl,rfl⟩,hK⟩:=hc;have Zy:Gl gS ([0,1].map λi=>ids.getD i 0):=by
   intro g i iX;unfold gS at iX;split at iX
   ·obtain rfl:=Option.some.inj iX;exact⟨by simp,(hg 1 0 rfl).2⟩
   ·obtain rfl:=Option.some.inj iX;exact⟨by simp,(hg 0 1 rfl).2⟩
   ·cases iX
  have fU:cJ (dR prog gS (LSh fr (ah aT))) 60 9 [] [gi tg,sf tc] [.cn u] (cP 2 λv b c=>v=.bool true/\b.take 2=[gi tg,sf tc]/\∃c2,c=[.cn u]++c2):=by
   rw[ajw];exact aft λg fB=>⟨rfl,rfl,_,rfl⟩
  refine(zU (C:=dR prog gS (LSh fr (ah aT))) (Us ht).T (Us ht).Q hl (ch0:=[.cn u]) (rest:=rest) S [0,1] (by decide) Zy [gi tg,sf tc] rfl rfl (args:=[]) (args':=[]) rfl rfl fU).mono ?_;rintro v w' ⟨rfl,S2⟩;exact⟨.bool true,[],_,_,rfl,by simpa using hl,by simpa using S2,hK⟩
 ·exact hc.elim
def aab (P:Program):(Operand->V)->Op->List VB->List (LG fr)->VK (LG fr)->Prop:=λe op bl ch K=>match op with
 |.buildSlice t 0 ps=>(match ps.toList,P.underlying t with
  |[],some (.slice T)=>(match j_ P T,jo P T with
   |some (z+1),some zc=>cond (Nat.beq (eL zc) (z+1)) (∀r:aC,r.T=T->r.z=z+1->r.os=[]->r.n=0->K r.v bl (ch++[.row r])) False
   |_,_=>False)
  |_,_=>False)
 |.call c=>(match c.callee,c.args.toList,c.argTypes.toList with
  |.builtin .append,[s,xs],[t,tx]=>(match P.underlying t,P.underlying tx with
   |some (.slice T),some (.slice _)=>(match gZ P T,e xs,ch with
    |some (z,cX),.oN i 0 m cc x,.cn u::.core g fB::.row r::rest=>(match bl[i]?with
     |some ⟨_,_,[.fp z' m' f,.rest _]⟩=>cond (Nat.beq z z'&&Nat.ble cX 10000000)
      ((e s=r.v/\r.T=T/\r.z=z/\m'=m/\(∀j,(f j).length=z)/\(∀j u,u∈f j->u.oneCell'=true)/\r.n+m<=1000000)/\
        ∀r2:aC,r2.T=r.T->r2.z=r.z->r2.os=r.os++(List.range m).flatMap f->r2.n=r.n+m->K r2.v bl (.cn u::.core g fB::.row r2::rest)) False
     |_=>False)
    |_,_,_=>False)
   |_,_=>False)
  |_,_,_=>False)
 |_=>False
theorem E3 {z:Nat} {f:Nat->List Value} (h:∀j,(f j).length=z):∀m,((List.range m).flatMap f).length=m*z
 |0=>by simp
 |m+1=>by rw[List.range_succ,List.flatMap_append,List.length_append,E3 h m];simp[h,Nat.add_mul]
theorem lgB (u:World) (g:Gh fr) (fB:List av) (r:aC) (rest:List (LG fr)) (R:List av):af (LG.cn u::LG.core g fB::LG.row r::rest) R=(du u++(g.F.B++fB))++(r.bl++af rest R):=by
 show du u++((g.F.B++fB)++(r.bl++af rest R))=_;simp only[List.append_assoc]
theorem KV {P:Program} {gl:Nat->Option Nat}:oA P gl (aab (fr:=fr) P):=by
 intro e op ids bl ch R ms w0 w K ρ o hg hl S cx ho h;unfold aab at h;split at h
 ·rename_i t ps;split at h
  ·rename_i T Mc hu;split at h
   ·rename_i z zc hz hzc;cases hq:Nat.beq (eL zc) (z+1)with
    |false=>rw[hq]at h;exact h.elim
    |true=>
     rw[hq]at h;simp only[cond_true]at h;have aY:=na (P:=P) (ids:=ids) (w:=w) (len:=0) (ps:=[]) (c:=[]) hu hz hzc (Nat.eq_of_beq_eq_true hq) (by simp) rfl
     let r:aC:=⟨T,z+1,[],some ⟨w.heap.size,0,none⟩,0,0,[⟨w.heap.size,true,.cells #[] T (0,0)⟩],by simp,Nat.le_refl _,.inr ⟨w.heap.size,[],rfl,rfl,by simp⟩⟩
     have hn:=S.new (Ch.alloc [] w (.cells #[] T)) (Nat.le_refl _) (heap_alloc_new w _);refine⟨r.v,[],bl,ch++[.row r],w.alloc (.cells #[] T),.inl ?_,by simpa using hl,?_,h r rfl rfl rfl rfl⟩
     ·unfold execOp;have hp0:ps=#[]:=by apply Array.ext';simpa using Mc
      subst hp0;simp only[ho];rw[Sem.run_bind];have h2:(Instr.buildSlice t 0 #[]).run P w=.ok (.slice (some ⟨w.heap.size,0,none⟩) 0 0) (w.alloc (.cells #[] T)):=aY;have h3:((#[]:Array (Nat×Operand)).map λ(x:Nat×Operand)=>match x with|(i,x)=>(i,ρ x))=#[]:=by simp
      rw[h3,h2];rfl
     ·rw[List.append_nil,cV];have e2:af [LG.row (fr:=fr) r] R=⟨w.heap.size,true,.cells #[] T (0,0)⟩::R:=rfl;rw[e2,aW (_::R) ch];rw[aW R ch]at hn;refine hn.perm ?_;exact cj λf=>by simp only[List.countP_append,List.countP_cons];omega
   ·exact h.elim
  ·exact h.elim
 ·rename_i c;split at h
  ·rename_i s xs t tx eU a9 ju;split at h
   ·rename_i T T' ht o9;split at h
    ·rename_i z cX i m cc x u g fB r rest aF ow;split at h
     ·rename_i wr ty z' m' f us hb;cases hq:Nat.beq z z'&&Nat.ble cX 10000000 with
      |false=>rw[hq]at h;exact h.elim
      |true=>
       rw[hq]at h;simp only[cond_true]at h;simp only[Bool.and_eq_true]at hq;obtain⟨q1,q4⟩:=hq;obtain rfl:=Nat.eq_of_beq_eq_true q1;have q4:=Nat.le_of_ble_eq_true q4;obtain⟨⟨hs,rfl,rfl,rfl,hf,ho1,hn⟩,hK⟩:=h;have hi:(P.info? r.T).map (λi=>(i.zero.map (·.cells.size),i.size,i.bytes))=some (some r.z,r.z,cX):=by
        unfold gZ at aF;split at aF
        ·rename_i inf wv;split at aF
         ·rename_i v hv;cases Mg:Nat.beq v.cells.size inf.size with
          |false=>rw[Mg]at aF;simp at aF
          |true=>
           rw[Mg]at aF;simp only[cond_true,Option.some.injEq,Prod.mk.injEq]at aF;have:=Nat.eq_of_beq_eq_true Mg;simp[wv,hv,this,aF.1,aF.2]
         ·cases aF
        ·cases aF
       have ba:=(cA hl S hb).2;have hlen:=E3 hf m';have Ay:∀u∈(List.range m').flatMap f,u.oneCell'=true:=λu hu=>by
        obtain⟨j,_,hj⟩:=List.mem_flatMap.1 hu;exact ho1 j u hj
       have fZ:Src P r.z tx (.slice (bif Nat.beq m' 0 then x else some ⟨ids.getD i 0,0,none⟩) m' cc) m' ((List.range m').flatMap f) w:=by
        by_cases h0:m'=0
        ·subst h0;cases x with
         |none=>exact Src.ofNil w o9 cc
         |some a=>exact Src.ofSlice w o9 a 0 cc [] (by simp) (λj u hj=>by simp at hj) (λu hu=>by simp at hu)
        ·have WG:Nat.beq m' 0=false:=by
          cases WG:Nat.beq m' 0 with
          |false=>rfl
          |true=>exact absurd (Nat.eq_of_beq_eq_true WG) h0
         rw[WG];refine Src.ofSlice w o9 ⟨ids.getD i 0,0,none⟩ m' cc _ hlen (λj u hj=>?_) Ay;rw[Addr.add_lit,cell_of ba];simp only[ab,cl,List.append_nil];have hjl:j<((List.range m').flatMap f).length:=by
          rcases Nat.lt_or_ge j ((List.range m').flatMap f).length with h|h
          ·exact h
          ·rw[List.getElem?_eq_none h]at hj;cases hj
         rw[List.getElem?_toArray,Nat.zero_add,List.getElem?_append_left hjl];exact hj
       have e1:lits ids ids bl++af (LG.cn u::LG.core g fB::LG.row r::rest) R=(lits ids ids bl++(du u++(g.F.B++fB)))++(r.bl++af rest R):=by
        simp only[lgB,List.append_assoc]
       rw[e1]at S;have AD:(r.n+m')*cX<=140737488355328:=Nat.le_trans (Nat.mul_le_mul hn q4) (by decide);obtain⟨v,w',aY,hc,x',c',bl',rfl,mT,oC⟩:=gE (P:=P) (ty:=o.type) r.h (λy hy=>S.at' (by simp[hy])) cX fZ ht hi AD (Nat.le_trans hn (by decide));have S2:=S.yE r.h.wr hc (λy hy=>(oC y hy).1) (λy hy=>(oC y hy).2) mT.pw;refine⟨_,[],bl,_,w',.inl ?_,by simpa using hl,?_,hK ⟨r.T,r.z,_,x',r.n+m',c',bl',mT⟩ rfl rfl rfl rfl⟩
       ·obtain⟨FZ,ar,td⟩:=c;simp only at eU a9 ju;have e2:ar=#[s,xs]:=by rw[<-a9]
        have e3:td=#[t,tx]:=by rw[<-ju]
        subst eU e2 e3;have:=bP (P:=P) (ρ:=ρ) (o:=o) ho (sv:=.slice r.x r.n r.c) (xv:=.slice (bif Nat.beq m' 0 then x else some ⟨ids.getD i 0,0,none⟩) m' cc) (by rw[cx,hs];simp only[aC.v,den]) (by rw[cx,ow];simp only[den]) aY;simpa[den,aC.v]using this
       ·rw[List.append_nil];have e4:lits ids ids bl++af (LG.cn u::LG.core g fB::LG.row ⟨r.T,r.z,r.os++(List.range m').flatMap f,x',r.n+m',c',bl',mT⟩::rest) R=(lits ids ids bl++(du u++(g.F.B++fB)))++(bl'++af rest R):=by
         simp only[lgB,List.append_assoc]
        rw[e4];exact S2
     ·exact h.elim
    ·exact h.elim
   ·exact h.elim
  ·exact h.elim
 ·exact h.elim
structure SiD where
 h:Int
 e:Int
 o:Int
 m:Int
 mb:Sd.Label
 pt:Sd.Point
 b0:Bool
 b1:Bool
 b2:Bool
 b3:Bool
 b4:Bool
 r0:Int
 r1:Int
 r2:Int
 r3:Int
 r4:Int
 bad:Bool
section
variable(x:SiD) (n c c':Nat) (y y':Option Addr) (q:Nat->Int) (a b:Bool) (ty ty':BT) (u u':List Value) (K:VK Empty)
end
def siC:gm (LG fr):=λargs bl ch K=>match args,ch with
 |[.ptr ic 0],.cn u::.core g fB::rest=>(match bl[ic]?with
  |some ⟨true,⟨105,(0,0)⟩,cc⟩=>(match w6 cc with
   |some x=>(match bl[x.it]?with
    |some ⟨true,⟨157,(0,0)⟩,tc⟩=>(match uR tc with
     |some y=>cond (dk bl.length bl&&(Nat.blt 1 ic&&(Nat.blt 1 x.it&&!(Nat.beq ic x.it))))
      ((bl[0]?=some (aG g.d.k)/\bl[1]?=some (iA g.d.k)/\x=Cz g.d.k x.it (lP x y g.d g.dx g.sx)/\y.b=x.p.bh/\y.m=x.p.aR/\x.p.queue=g.d.k.most)/\
        ∀(z:Option Addr) (c ty:Nat) (us:List Value),K (qf bl.length (.agg (oW (lP x y g.d g.dx g.sx) (.oN 0 0 g.d.q.length c z)))) (bl++[Ia ty 1 g.d.q.length (yT g.d.q) us]) (.cn u::.core g fB::rest)) False
     |none=>False)
    |_=>False)
   |none=>False)
  |_=>False)
 |_,_=>False
theorem E4 {bl:List VB} {i:Nat} {b:VB} (h:bl[i]?=some b):bl.set i b=bl:=by
 apply List.ext_getElem?;intro j;rw[List.getElem?_set];split
 ·rename_i hj;subst hj;rw[h];simp[bO h]
 ·rfl
theorem Iq:cT (siC (fr:=fr)):=by
 intro args bl ch K hc;unfold siC at hc⊢;split at hc
 ·split at hc
  ·split at hc
   ·split at hc
    ·split at hc
     ·rename_i y hy;revert hc;cases dk bl.length bl&&_ with
      |false=>exact λh=>h.elim
      |true=>exact λhc=>⟨hc.1,λz c ty us=>⟨hc.2 z c ty us,_,rfl⟩⟩
     ·exact hc.elim
    ·exact hc.elim
   ·exact hc.elim
  ·exact hc.elim
 ·exact hc.elim
end Go.Proofs.YtggfpcggakghnaaGreatDoor
namespace Go.Proofs.YtggfpcggakghnaaGreatDoor
open Go Go.RowKit Go.BigFrame Sx Vx
def u8V:V->Int
 |.int .u8 n=>n
 |_=>0
def Kr:List V->Nat
 |.int .u8 _::l=>Kr l+1
 |_=>0
def CA (l:List V) (o:Nat):Nat->Int:=λj=>u8V (nth l (o+j))
theorem Ir (ids:List Nat):∀(l:List V) (j:Nat),j<Kr l->(ab ids l)[j]?=some (.int .u8 (u8V (nth l j)))
 |[],j,h=>absurd h (Nat.not_lt_zero _)
 |v::l,j,h=>by
  unfold Kr at h;split at h
  ·rename_i n l' e;cases e;cases j with
   |zero=>simp only[ab,cl,den,nth,List.cons_append,List.nil_append];rfl
   |succ j=>
    simp only[ab,cl,den,nth,List.cons_append,List.nil_append,List.getElem?_cons_succ];exact Ir ids l j (by omega)
  ·exact absurd h (Nat.not_lt_zero _)
section
variable{G:Type} [Bl G]
def N3 (P:Program):(Operand->V)->Op->List VB->List G->VK G->Prop:=λe op bl ch K=>match op with
 |.call c=>(match c.callee,c.args.toList,c.argTypes.toList with
  |.builtin .append,[s,xs],[t,tx]=>(match P.underlying t,P.underlying tx with
   |some (.slice 5),some (.slice _)=>(match e s,e xs with
    |.sl i 0 0 0,.sl j o m c=>(match bl[j]?with
     |some b=>cond (dk bl.length bl&&Nat.ble (o+m) (Kr b.c)) ((0<m/\m<=c/\m<=1000000)/\∀d:Nat,K (.sl bl.length 0 m (m+d)) (bl++[dF m d (CA b.c o)]) ch) False
     |none=>False)
    |_,_=>False)
   |_,_=>False)
  |_,_,_=>False)
 |_=>False
theorem vE {gl:Nat->Option Nat}:oA (G:=G) prog gl (N3 prog):=by
 intro e op ids bl ch R ms w0 w K ρ o hg hl S cx ho h;unfold N3 at h;split at h
 ·rename_i c;split at h
  ·rename_i s xs t tx eU a9 ju;split at h
   ·rename_i T ht o9;split at h
    ·rename_i i j q m c' qc ow;split at h
     ·rename_i b hb;cases hq:dk bl.length bl&&Nat.ble (q+m) (Kr b.c)with
      |false=>rw[hq]at h;exact h.elim
      |true=>
       rw[hq]at h;obtain⟨⟨m0,amw,hm⟩,h1⟩:=h;rw[Bool.and_eq_true]at hq;obtain⟨hq,hn⟩:=hq;have hn:=Nat.le_of_ble_eq_true hn;have ba:=(cA hl S hb).2;have hk:cz w (some ⟨ids.getD j 0,q,none⟩) m c' (CA b.c q):=⟨hm,amw,(λe=>nomatch e),λx e k hkm=>by
        obtain rfl:=Option.some.inj e;rw[Addr.add_lit,cell_of ba,List.getElem?_toArray];exact Ir ids b.c (q+k) (by omega)⟩
       have fZ:=FP (P:=prog) hk o9;obtain⟨FZ,ar,td⟩:=c;simp only at eU a9 ju;have e2:ar=#[s,xs]:=by rw[<-a9]
       have e3:td=#[t,tx]:=by rw[<-ju]
       subst eU e2 e3;have sE:ρ s=.slice (some ⟨ids.getD i 0,0,none⟩) 0 0:=by rw[cx,qc];simp only[den]
       have OM:ρ xs=.slice (some ⟨ids.getD j 0,q,none⟩) m c':=by rw[cx,ow];simp only[den]
       obtain⟨c2,w2,aY,eZ,hle,ER⟩:=xU (g:=CA b.c q) (x:=some ⟨ids.getD j 0,q,none⟩) (ty:=o.type) (t:=t) fZ ht m0 (by omega) ⟨ids.getD i 0,0,none⟩;have h2:=h1 (c2-m);rw[show m+(c2-m)=c2 by omega]at h2;refine⟨_,[w.heap.size],_,_,w2,.inl ?_,by simp[hl],?_,h2⟩
       ·rw[bP (P:=prog) (ρ:=ρ) (o:=o) ho sE OM aY];simp only[den];rw[<-hl,cy]
       ·have e:aE (ids++[w.heap.size]) w.heap.size (dF m (c2-m) (CA b.c q))=⟨w.heap.size,true,.cells (dc m (CA b.c q) c2) 5 (0,0)⟩:=by
         unfold aE;rw[jC,show m+(c2-m)=c2 by omega];rfl
        rw[aI _ _ _ _ hl,aJ _ _ (by rw[hl];exact hq)];simp only[lits,e];refine(S.new eZ (Nat.le_refl _) ER).perm ?_;rw[List.append_assoc];exact List.perm_middle.symm
     ·exact h.elim
    ·exact h.elim
   ·exact h.elim
  ·exact h.elim
 ·exact h.elim
end
def UE (cr:(Nat->Int)->Nat->Int):QF:=⟨119,λargs bl=>match args with
 |[.sl i o n c]=>(match bl[i]?with
  |some b=>bif Nat.ble (o+n) (Kr b.c)&&Nat.ble n 1000000 then some (True,.int .u16 (cr (CA b.c o) n))else none
  |none=>none)
 |_=>none⟩
theorem aac (gl:Nat->Option Nat):(UE jT).Ok prog gl:=by
 intro args bl p_ v_ h hp ids w _ hm;unfold UE at h;dsimp only at h;split at h
 ·rename_i i o n c;split at h
  ·rename_i b hb;cases hq:Nat.ble (o+n) (Kr b.c)&&Nat.ble n 1000000 with
   |false=>rw[hq]at h;cases h
   |true=>
    rw[hq]at h;simp only[cond_true,Option.some.injEq,Prod.mk.injEq]at h;obtain⟨rfl,rfl⟩:=h;rw[Bool.and_eq_true]at hq;have h1:=Nat.le_of_ble_eq_true hq.1;have ba:=hm.2 i _ hb;refine ah1 (ids.getD i 0) o n c (CA b.c o) (Nat.le_of_ble_eq_true hq.2) w ?_;intro j hj;rw[cell_of ba,List.getElem?_toArray];exact Ir ids b.c (o+j) (by omega)
  ·cases h
 ·cases h
def nxI (n:Nat) (f:Nat->Int) (hi lo:Int):List Int:=[165,1,(n:Int)]++((List.range n).map f++[hi,lo])
def Is (n:Nat) (f:Nat->Int) (hi lo:Int) (us:List Value):List V:=(nxI n f hi lo).map (λx=>V.int .u8 x)++[.rest us]
def xz (n:Nat) (f:Nat->Int) (hi lo:Int) (us:List Value):List VB:=[⟨false,⟨5,(0,0)⟩,Is n f hi lo us⟩]
def nxX (cr:(Nat->Int)->Nat->Int) (n:Nat) (f:Nat->Int) (hi lo:Int) (us:List Value) (d:Nat) (K:VK Empty):Prop:=True/\cond (cr (CA (Is n f hi lo us) 1) (n+2)!=bits .or .u16 (u16.wrap (u16.wrap hi*2^8)) (u16.wrap lo))
 (K (.agg [.int .i64 3,.int .i64 1,.int .i64 12,.raw (.slice none 0 0)]) (xz n f hi lo us) [])
 ((0<n/\n<=d+(n+5)-3/\n<=1000000)/\∀e:Nat,K (.agg [.int .i64 2,.int .i64 ((n+5:Nat):Int),.int .i64 0,.sl 1 0 n (n+e)]) (xz n f hi lo us++[dF n e (CA (Is n f hi lo us) 3)]) [])
def nxV (cr:(Nat->Int)->Nat->Int) (n:Nat) (f:Nat->Int) (hi lo:Int) (us:List Value) (d:Nat) (K:VK Empty):Prop:=cJ (mL prog gv (qL Empty [UE cr]) (N3 prog) vE) 60 48 [.sl 0 0 (n+5) (d+(n+5))] (xz n f hi lo us) [] (cP 1 K)
section
variable(cr:(Nat->Int)->Nat->Int) (f:Nat->Int) (hi lo:Int) (us:List Value) (d:Nat) (K:VK Empty)
theorem amx:nxV cr 3 f hi lo us d K=nxX cr 3 f hi lo us d K:=by kernel_rfl
theorem amy:nxV cr 4 f hi lo us d K=nxX cr 4 f hi lo us d K:=by kernel_rfl
theorem amz:nxV cr 5 f hi lo us d K=nxX cr 5 f hi lo us d K:=by kernel_rfl
theorem amA:nxV cr 6 f hi lo us d K=nxX cr 6 f hi lo us d K:=by kernel_rfl
theorem amB:nxV cr 9 f hi lo us d K=nxX cr 9 f hi lo us d K:=by kernel_rfl
end
variable{fr:Sd.Reply->Nat×Sd.Byt}
structure LwS (fr:Sd.Reply->Nat×Sd.Byt) (tg tc:TypeId) (u:World) (x:ij) (n:Nat) where
 p:Nat->Int
 m:Nat->Nat
 d:Nat->Nat
 hM:Made x p m
 p2:Sd.Pol
 k:LK
 hN:Uk (kg 4 p m d) (xZ x u) tg tc p2 k
 j:Nat
 hj:j<=n
 s:Sd.Scene
 F:bN fr (bA k s)
 fB:List av
 hC:eo k s
 hp:s.c.p=p2
 v1:cC=F.vs
 v2:cC=F.vr
def preB (tg tc:TypeId) (ops pb:VB) (ky:List VB) (rB:VB):List VB:=gi tg::sf tc::ops::pb::(ky++[rB])
section
variable(C:Sd.Crypt) (tg tc:TypeId) (ty:BT) (u:World) (x:ij) (f:Nat->Nat×Sd.Byt) (o n c:Nat) (a:Option Addr) (os:Nat->Zp) (pre post:List Value)
end
section
variable(C:Sd.Crypt) (tg tc:TypeId) (ty:BT) (u:World) (x:ij) (f:Nat->Nat×Sd.Byt) (o n c:Nat) (a:Option Addr) (os:Nat->Zp) (pre post:List Value) (K:V->Prop)
end
end Go.Proofs.YtggfpcggakghnaaGreatDoor
namespace Go.Proofs.YtggfpcggakghnaaGreatDoor
open Go Go.RowKit Go.BigFrame Sx Vx
variable{fr:Sd.Reply->Nat×Sd.Byt}
section
variable{tg tc:TypeId} {ty:BT} {u:World} {x:ij} {f:Nat->Nat×Sd.Byt} {o n c:Nat} {a:Option Addr} {os:Nat->Zp} {pre post:List Value} {K:V->Prop}
theorem LwS.UC (y:LwS fr tg tc u x n) {s:Sd.Scene} (h:s.c.p=y.p2):EY tg tc 10 y.k s:=Go.Proofs.YtggfpcggakghnaaGreatDoor.UC y.hN.tg y.hN.tc (by rw[h];exact y.hN.most.symm)
end
end Go.Proofs.YtggfpcggakghnaaGreatDoor
namespace Go.Proofs.YtggfpcggakghnaaGreatDoor
open Go Go.RowKit Go.BigFrame Sx Vx
def yC (w:Nat) (s:Int):List V:=(List.range w).map λj=>.int .u8 (aq w (u64.wrap s) j)
def fkX (n m c:Nat) (ac cells:List V) (X:Nat->List Value->Prop):Prop:=
 (n<=c/\eL ac=c*1)/\(∀(c':Nat) (u:List Value),n+m<=c'->eL (cells++[.rest u])=c'*1->X c' u)/\(∀(c':Nat) (u:List Value),n+m<=c'->eL (cells++[.rest u])=c'*1->X c' u)
def N5 (F:Prop) (E:Nat->Nat->List V->List Value->Prop):List (Int×Int×Int×Nat)->Nat->Nat->List V->List V->List Value->Prop
 |[],n,c,ac,cells,u=>E n c cells u
 |(s,lo,hi,w)::fs,n,c,ac,cells,u=>cond (decide (s<lo)) F (cond (decide (s>hi)) F (cond (Int.fdiv (u64.wrap s) (Int.ofNat (2^(8*w)))!=0) F
  (fkX n w c ac (cells++yC w s) λc' u'=>N5 F E fs (n+w) c' (cells++yC w s++[.rest u']) (cells++yC w s) u')))
def KW (k a b c d e:Int) (nc:Nat->Int):V:=.agg [.int .i64 k,.int .i64 a,.int .i64 b,.int .i64 c,.int .i64 d,.int .i64 e,.dC .u8 8 nc]
def xS (x:V) (K:VK Empty):Prop:=cJ (mL prog (λ_=>none) ([]:List (dI Empty)) (Dh prog) lQ) 60 190 [x] [] [] (cP 0 K)
def E5 (k:Int) (fs:List (Int×Int×Int×Nat)) (K:VK Empty):Prop:=N5 (K (.az [.raw (.slice none 0 0),.int .i64 1]) [] []) (λn c cells u=>K (.az [.sl 0 0 n c,.int .i64 0]) [⟨true,⟨5,(0,0)⟩,cells++[.rest u]⟩] []) fs 1 1 [.int .u8 k] [.int .u8 k] []
theorem ajy (s:Int) (K:VK Empty):xS (KW 131 s 0 0 0 0 λ_=>0) K=E5 131 [(s,0,4294967295,4)] K:=by kernel_rfl
theorem ajz (a b c:Int) (K:VK Empty):xS (KW 130 0 a b c 0 λ_=>0) K=E5 130 [(a,0,3,1),(b,0,4,1),(c,0,65535,2)] K:=by kernel_rfl
theorem ajA (s c:Int) (K:VK Empty):xS (KW 132 s 0 0 0 c λ_=>0) K=E5 132 [(s,0,4294967295,4),(c,0,255,1)] K:=by kernel_rfl
theorem ajB (e:Int) (K:VK Empty):xS (KW 133 0 0 0 e 0 λ_=>0) K=E5 133 [(e,0,65535,2)] K:=by kernel_rfl
theorem ajC (w e:Int) (K:VK Empty):xS (KW 134 0 0 w e 0 λ_=>0) K=E5 134 [(w,0,4,1),(e,0,65535,2)] K:=by kernel_rfl
theorem ajD (w e:Int) (K:VK Empty):xS (KW 135 0 0 w e 0 λ_=>0) K=E5 135 [(w,0,4,1),(e,0,65535,2)] K:=by kernel_rfl
theorem ajE (w c:Int) (K:VK Empty):xS (KW 136 0 0 w 0 c λ_=>0) K=E5 136 [(w,0,4,1),(c,0,255,1)] K:=by kernel_rfl
theorem KX (a b:List V):eL (a++b)=eL a+eL b:=by
 induction a with
 |nil=>simp[eL]
 |cons v a ih=>simp only[List.cons_append,eL,ih];omega
theorem afu (w:Nat) (s:Int):eL (yC w s)=w:=by
 have h:∀l:List Nat,eL (l.map λj=>V.int .u8 (aq w (u64.wrap s) j))=l.length:=by
  intro l;induction l with
  |nil=>rfl
  |cons j l ih=>simp only[List.map_cons,eL,ih,List.length_cons];show 1+_=_;omega
 unfold yC;rw[h,List.length_range]
theorem KY {F:Prop} {E:Nat->Nat->List V->List Value->Prop}:∀(fs:List (Int×Int×Int×Nat)) (n c:Nat) (ac cells:List V) (u:List Value),(∀f∈fs,f.2.1<=f.1/\f.1<=f.2.2.1/\0<=f.1/\f.1<18446744073709551616/\f.1<Int.ofNat (2^(8*f.2.2.2)))->n<=c->eL ac=c->n=eL cells->eL (cells++[.rest u])=c->
 (∀c' u',n+(fs.map λf=>f.2.2.2).sum<=c'->eL (cells++(fs.map λf=>yC f.2.2.2 f.1).flatten++[.rest u'])=c'->E (n+(fs.map λf=>f.2.2.2).sum) c' (cells++(fs.map λf=>yC f.2.2.2 f.1).flatten) u')->N5 F E fs n c ac cells u
 |[],n,c,ac,cells,u,_,h1,h2,h3,h4,hE=>by
  have:=hE c u (by simpa using h1) (by simpa using h4);simpa[N5]using this
 |(s,lo,hi,w)::fs,n,c,ac,cells,u,hf,h1,h2,h3,h4,hE=>by
  obtain⟨f1,f2,f3,f5,f4⟩:=hf _ (List.mem_cons_self ..);simp only at f1 f2 f3 f4 f5;have step:∀(c':Nat) (u':List Value),n+w<=c'->eL (cells++yC w s++[.rest u'])=c'*1->N5 F E fs (n+w) c' (cells++yC w s++[.rest u']) (cells++yC w s) u':=by
   intro c' u' g1 g2;rw[Nat.mul_one]at g2;refine KY fs (n+w) c' _ _ u' (λf hm=>hf f (List.mem_cons_of_mem _ hm)) g1 g2 ?_ g2 ?_
   ·rw[KX,afu,h3]
   ·intro c2 u2 g3 g4;have:=hE c2 u2 (by simpa[Nat.add_assoc]using g3) (by simpa[List.append_assoc]using g4);simpa[Nat.add_assoc,List.append_assoc]using this
  unfold N5;refine aU (λh=>absurd (by simpa using h:s<lo) (by omega)) λ_=>aU (λh=>absurd (by simpa using h:hi<s) (by omega)) λ_=>aU (λh=>?_) λ_=>⟨⟨h1,by rw[h2,Nat.mul_one]⟩,step,step⟩;exfalso;have e:Int.fdiv (u64.wrap s) (Int.ofNat (2^(8*w)))=0:=by
   have hd:∀d:Int,0<=d->s<d->Int.fdiv s d=0:=λd h0 h=>by rw[Int.fdiv_eq_ediv_of_nonneg _ h0];exact Int.ediv_eq_zero_of_lt f3 h
   rw[IntKind.wrap_u64,Int.emod_eq_of_lt f3 (by omega)];exact hd _ (Int.natCast_nonneg _) f4
  rw[e]at h;simp at h
theorem UF {k:Int} {fs:List (Int×Int×Int×Nat)} {K:VK Empty} (hf:∀f∈fs,f.2.1<=f.1/\f.1<=f.2.2.1/\0<=f.1/\f.1<18446744073709551616/\f.1<Int.ofNat (2^(8*f.2.2.2)))
 (hK:∀c' u',1+(fs.map λf=>f.2.2.2).sum<=c'->eL ([.int .u8 k]++(fs.map λf=>yC f.2.2.2 f.1).flatten++[.rest u'])=c'->K (.az [.sl 0 0 (1+(fs.map λf=>f.2.2.2).sum) c',.int .i64 0]) [⟨true,⟨5,(0,0)⟩,([.int .u8 k]++(fs.map λf=>yC f.2.2.2 f.1).flatten)++[.rest u']⟩] []):E5 k fs K:=
 KY fs 1 1 _ _ [] hf (Nat.le_refl _) rfl rfl rfl hK
theorem pZ {x:V} {k:Int} {fs:List (Int×Int×Int×Nat)} {n:Nat} (e:∀K,xS x K=E5 k fs K) (hf:∀f∈fs,f.2.1<=f.1/\f.1<=f.2.2.1/\0<=f.1/\f.1<18446744073709551616/\f.1<Int.ofNat (2^(8*f.2.2.2))) (hn:1+(fs.map λf=>f.2.2.2).sum=n) {g:Nat->Int}
 (hg:∀j,j<n->∀u:List Value,(ab [] (([.int .u8 k]++(fs.map λf=>yC f.2.2.2 f.1).flatten)++[.rest u]))[j]?=some (.int .u8 (g j))) (hw:cH 0 (([.int .u8 k]++(fs.map λf=>yC f.2.2.2 f.1).flatten))=true) (w:World):
 aj prog 190 (ao [] [x]).toArray w λv w1=>∃b c1,v=.tuple #[.slice (some ⟨b,0,none⟩) n c1,.int .i64 0]/\n<=c1/\w.heap.size<=b/\eS w1 b 0 n g/\Ch [] w w1:=by
 have h:xS x λv b _=>∃c u,v=.az [.sl 0 0 n c,.int .i64 0]/\b=[⟨true,⟨5,(0,0)⟩,([.int .u8 k]++(fs.map λf=>yC f.2.2.2 f.1).flatten)++[.rest u]⟩]/\n<=c:=by
  rw[e];exact UF hf λc u h1 h2=>⟨c,u,by rw[hn],rfl,by omega⟩
 refine(bw (ai.nil (G:=Empty) (P:=prog) (gl:=λ_=>none)).T (ai.nil (G:=Empty) (P:=prog) (gl:=λ_=>none)).Q 60 (C:=mL prog (λ_=>none) ([]:List (dI Empty)) (Dh prog) lQ) (ids:=[]) (bl:=[]) (ch:=[]) (R:=[]) Gl.none rfl (St.nil [] w) h).mono ?_;rintro v w' ⟨y,more,bl',ch',rfl,h1,S',hK⟩;obtain⟨v2,aP,bl2,e2,gx,S2,c,u,rfl,rfl,hc⟩:=c9 (n0:=0) h1 (by simp) S' hK
 match aP,gx,S2,e2 with
 |[b],_,S2,e2=>
  have S3:St [] w ([aE [b] b ⟨true,⟨5,(0,0)⟩,([.int .u8 k]++(fs.map λf=>yC f.2.2.2 f.1).flatten)++[.rest u]⟩]) w':=match ch',S2 with
   |[],S2=>S2
   |e::_,_=>nomatch e
  refine⟨b,c,e2,hc,(S3.own 0 _ rfl rfl).resolve_left (by simp),?_,S3.ch⟩;intro j hj;have ba:w'.heap[b]?=some (.cells (ab [b] (([.int .u8 k]++(fs.map λf=>yC f.2.2.2 f.1).flatten)++[.rest u])).toArray 5 (0,0)):=S3.at_ 0 _ rfl;have hd:=hg j hj u;have e3:ab [b] (([.int .u8 k]++(fs.map λf=>yC f.2.2.2 f.1).flatten)++[.rest u])=ab [] (([.int .u8 k]++(fs.map λf=>yC f.2.2.2 f.1).flatten)++[.rest u]):=by
   have gen:∀L:List V,cH 0 L=true->ab [b] (L++[.rest u])=ab [] (L++[.rest u]):=λL hL=>by
    rw[bo,bo];have q:=bU (ids:=[]) (more:=[b]) L hL;simp only[List.nil_append]at q;rw[q];rfl
   exact gen _ hw
  rw[Nat.zero_add,cell_of ba,e3];simpa using hd
 |[],h,_,_=>simp at h
 |_::_::_,h,_,_=>simp at h
theorem ajF (wh co:Int) (It:0<=wh/\wh<=4) (hco:0<=co/\co<=255) (w:World):aj prog 190 (ao [] [KW 136 0 0 wh 0 co λ_=>0]).toArray w λv w1=>∃b c1,v=.tuple #[.slice (some ⟨b,0,none⟩) 3 c1,.int .i64 0]/\3<=c1/\w.heap.size<=b/\eS w1 b 0 3 (gT [136,aq 1 (u64.wrap wh) 0,aq 1 (u64.wrap co) 0])/\Ch [] w w1:=
 pZ (n:=3) (λK=>ajE wh co K) (λf hm=>by
  rcases List.mem_cons.1 hm with rfl|hm
  ·exact⟨It.1,It.2,It.1,by omega,by show wh<256;omega⟩
  rcases List.mem_cons.1 hm with rfl|hm
  ·exact⟨hco.1,hco.2,hco.1,by omega,by show co<256;omega⟩
  cases hm) rfl (λj hj u=>by
  rcases(by omega:j=0\/j=1\/j=2)with rfl|rfl|rfl<;>rfl) rfl w
theorem ajG (sq:Int) (vF:0<=sq/\sq<=4294967295) (w:World):aj prog 190 (ao [] [KW 131 sq 0 0 0 0 λ_=>0]).toArray w λv w1=>∃b c1,v=.tuple #[.slice (some ⟨b,0,none⟩) 5 c1,.int .i64 0]/\5<=c1/\w.heap.size<=b/\eS w1 b 0 5 (gT [131,aq 4 (u64.wrap sq) 0,aq 4 (u64.wrap sq) 1,aq 4 (u64.wrap sq) 2,aq 4 (u64.wrap sq) 3])/\Ch [] w w1:=
 pZ (n:=5) (λK=>ajy sq K) (λf hm=>by
  rcases List.mem_cons.1 hm with rfl|hm
  ·exact⟨vF.1,vF.2,vF.1,by omega,by show sq<4294967296;omega⟩
  cases hm) rfl (λj hj u=>by
  rcases(by omega:j=0\/j=1\/j=2\/j=3\/j=4)with rfl|rfl|rfl|rfl|rfl<;>rfl) rfl w
theorem ajH (ro wh ep:Int) (hro:0<=ro/\ro<=3) (It:0<=wh/\wh<=4) (Iu:0<=ep/\ep<=65535) (w:World):aj prog 190 (ao [] [KW 130 0 ro wh ep 0 λ_=>0]).toArray w λv w1=>∃b c1,v=.tuple #[.slice (some ⟨b,0,none⟩) 5 c1,.int .i64 0]/\5<=c1/\w.heap.size<=b/\eS w1 b 0 5 (gT [130,aq 1 (u64.wrap ro) 0,aq 1 (u64.wrap wh) 0,aq 2 (u64.wrap ep) 0,aq 2 (u64.wrap ep) 1])/\Ch [] w w1:=
 pZ (n:=5) (λK=>ajz ro wh ep K) (λf hm=>by
  rcases List.mem_cons.1 hm with rfl|hm
  ·exact⟨hro.1,hro.2,hro.1,by omega,by show ro<256;omega⟩
  rcases List.mem_cons.1 hm with rfl|hm
  ·exact⟨It.1,It.2,It.1,by omega,by show wh<256;omega⟩
  rcases List.mem_cons.1 hm with rfl|hm
  ·exact⟨Iu.1,Iu.2,Iu.1,by omega,by show ep<65536;omega⟩
  cases hm) rfl (λj hj u=>by
  rcases(by omega:j=0\/j=1\/j=2\/j=3\/j=4)with rfl|rfl|rfl|rfl|rfl<;>rfl) rfl w
theorem ajI (sq co:Int) (vF:0<=sq/\sq<=4294967295) (hco:0<=co/\co<=255) (w:World):aj prog 190 (ao [] [KW 132 sq 0 0 0 co λ_=>0]).toArray w λv w1=>∃b c1,v=.tuple #[.slice (some ⟨b,0,none⟩) 6 c1,.int .i64 0]/\6<=c1/\w.heap.size<=b/\eS w1 b 0 6 (gT [132,aq 4 (u64.wrap sq) 0,aq 4 (u64.wrap sq) 1,aq 4 (u64.wrap sq) 2,aq 4 (u64.wrap sq) 3,aq 1 (u64.wrap co) 0])/\Ch [] w w1:=
 pZ (n:=6) (λK=>ajA sq co K) (λf hm=>by
  rcases List.mem_cons.1 hm with rfl|hm
  ·exact⟨vF.1,vF.2,vF.1,by omega,by show sq<4294967296;omega⟩
  rcases List.mem_cons.1 hm with rfl|hm
  ·exact⟨hco.1,hco.2,hco.1,by omega,by show co<256;omega⟩
  cases hm) rfl (λj hj u=>by
  rcases(by omega:j=0\/j=1\/j=2\/j=3\/j=4\/j=5)with rfl|rfl|rfl|rfl|rfl|rfl<;>rfl) rfl w
theorem ajJ (ep:Int) (Iu:0<=ep/\ep<=65535) (w:World):aj prog 190 (ao [] [KW 133 0 0 0 ep 0 λ_=>0]).toArray w λv w1=>∃b c1,v=.tuple #[.slice (some ⟨b,0,none⟩) 3 c1,.int .i64 0]/\3<=c1/\w.heap.size<=b/\eS w1 b 0 3 (gT [133,aq 2 (u64.wrap ep) 0,aq 2 (u64.wrap ep) 1])/\Ch [] w w1:=
 pZ (n:=3) (λK=>ajB ep K) (λf hm=>by
  rcases List.mem_cons.1 hm with rfl|hm
  ·exact⟨Iu.1,Iu.2,Iu.1,by omega,by show ep<65536;omega⟩
  cases hm) rfl (λj hj u=>by
  rcases(by omega:j=0\/j=1\/j=2)with rfl|rfl|rfl<;>rfl) rfl w
theorem ajK (wh ep:Int) (It:0<=wh/\wh<=4) (Iu:0<=ep/\ep<=65535) (w:World):aj prog 190 (ao [] [KW 134 0 0 wh ep 0 λ_=>0]).toArray w λv w1=>∃b c1,v=.tuple #[.slice (some ⟨b,0,none⟩) 4 c1,.int .i64 0]/\4<=c1/\w.heap.size<=b/\eS w1 b 0 4 (gT [134,aq 1 (u64.wrap wh) 0,aq 2 (u64.wrap ep) 0,aq 2 (u64.wrap ep) 1])/\Ch [] w w1:=
 pZ (n:=4) (λK=>ajC wh ep K) (λf hm=>by
  rcases List.mem_cons.1 hm with rfl|hm
  ·exact⟨It.1,It.2,It.1,by omega,by show wh<256;omega⟩
  rcases List.mem_cons.1 hm with rfl|hm
  ·exact⟨Iu.1,Iu.2,Iu.1,by omega,by show ep<65536;omega⟩
  cases hm) rfl (λj hj u=>by
  rcases(by omega:j=0\/j=1\/j=2\/j=3)with rfl|rfl|rfl|rfl<;>rfl) rfl w
theorem ajL (wh ep:Int) (It:0<=wh/\wh<=4) (Iu:0<=ep/\ep<=65535) (w:World):aj prog 190 (ao [] [KW 135 0 0 wh ep 0 λ_=>0]).toArray w λv w1=>∃b c1,v=.tuple #[.slice (some ⟨b,0,none⟩) 4 c1,.int .i64 0]/\4<=c1/\w.heap.size<=b/\eS w1 b 0 4 (gT [135,aq 1 (u64.wrap wh) 0,aq 2 (u64.wrap ep) 0,aq 2 (u64.wrap ep) 1])/\Ch [] w w1:=
 pZ (n:=4) (λK=>ajD wh ep K) (λf hm=>by
  rcases List.mem_cons.1 hm with rfl|hm
  ·exact⟨It.1,It.2,It.1,by omega,by show wh<256;omega⟩
  rcases List.mem_cons.1 hm with rfl|hm
  ·exact⟨Iu.1,Iu.2,Iu.1,by omega,by show ep<65536;omega⟩
  cases hm) rfl (λj hj u=>by
  rcases(by omega:j=0\/j=1\/j=2\/j=3)with rfl|rfl|rfl|rfl<;>rfl) rfl w
def Iv (nc:Nat->Int):List V:=[.int .i64 129,.int .i64 0,.int .i64 0,.int .i64 0,.int .i64 0,.int .i64 0,.int .u8 (nc 0),.int .u8 (nc 1),.int .u8 (nc 2),.int .u8 (nc 3),.int .u8 (nc 4),.int .u8 (nc 5),.int .u8 (nc 6),.int .u8 (nc 7)]
def Cb (nc:Nat->Int):VB:=⟨true,⟨40,(0,0)⟩,Iv nc⟩
def E6 (j:Nat):List V:=[.int .i64 1,.int .i64 0,.int .i64 255,.fn 173 [] [.ptr j 0],.fn 174 [] [.ptr j 0]]
def amC (u:List Value):VB:=⟨true,⟨175,(0,0)⟩,E6 2++(E6 3++(E6 4++(E6 5++(E6 6++(E6 7++(E6 8++(E6 9++[.rest u])))))))⟩
def bx9:List VB:=(List.range 8).map λj=>⟨true,⟨220,(0,0)⟩,[.ptr 0 (6+j)]⟩
def mI (nc:Nat->Int) (u:List Value):List VB:=Cb nc::amC u::bx9
def LC (n:Nat) (u:List Value) (c:Nat):Prop:=eL (List.replicate (5*n) (V.bool true)++[.rest u])=c*5
def UG (X:Nat->List Value->Prop):Nat->Nat->Nat->List Value->Prop
 |0,_,c,u=>X c u
 |k+1,n,c,u=>(n<=c/\LC n u c)/\(∀(c':Nat) (u':List Value),n+1<=c'->LC (n+1) u' c'->UG X k (n+1) c' u')/\(∀(c':Nat) (u':List Value),n+1<=c'->LC (n+1) u' c'->UG X k (n+1) c' u')
theorem Cn {X:Nat->List Value->Prop}:∀(k n c:Nat) (u:List Value),n<=c->LC n u c->(∀c u,n+k<=c->LC (n+k) u c->X c u)->UG X k n c u
 |0,_,c,u,h1,h2,hX=>hX c u h1 h2
 |k+1,n,c,u,h1,h2,hX=>by
  have st:∀(c':Nat) (u':List Value),n+1<=c'->LC (n+1) u' c'->UG X k (n+1) c' u':=λc' u' a b=>Cn k (n+1) c' u' a b λc u d e=>hX c u (by omega) (by rw[show n+(k+1)=n+1+k by omega];exact e);exact⟨⟨h1,h2⟩,st,st⟩
def Zu (n:Nat) (f:FuncId) (args:List V) (bl:List VB) (K:VK Empty):Prop:=cJ (mL prog (λ_=>none) ([]:List (dI Empty)) (P1 prog) vg) n f args bl [] K
def tV (k:Nat) (x:Int) (pre post:List Value):List VB:=[⟨false,⟨220,(0,0)⟩,[.pe 1 k 0 1 0]⟩,⟨false,⟨40,(0,0)⟩,[.rest pre,.fp 1 1 λ_=>[.int .u8 x],.rest post]⟩]
def afv (x:Int):Int:=u8.wrap (Int.fdiv (u64.wrap (i64.wrap x)) (2^0))
def ajM (k:Nat) (x:Int) (pre post:List Value) (K:VK Empty):Prop:=(k=pre.length/\0<1/\∀_:Nat,[Value.int .u8 x].length=1)/\cond (decide (i64.wrap x<0)) (K (.az [.raw (.slice none 0 0),.bool false]) (tV k x pre post) [])
 (cond (decide (i64.wrap x>255)) (K (.az [.raw (.slice none 0 0),.bool false]) (tV k x pre post) []) (cond (Int.fdiv (u64.wrap (i64.wrap x)) (Int.ofNat (2^(8*1)))!=0) (K (.az [.raw (.slice none 0 0),.bool false]) (tV k x pre post) [])
  (K (.az [.sl 2 0 1 1,.bool true]) (tV k x pre post++[⟨true,⟨5,(0,0)⟩,[.int .u8 (afv x)]⟩]) [])))
theorem afw (k:Nat) (x:Int) (pre post:List Value) (K:VK Empty):Zu 60 118 [.agg [.int .i64 1,.int .i64 0,.int .i64 255,.fn 173 [] [.ptr 0 0],.fn 174 [] [.ptr 0 0]]] (tV k x pre post) (cP 2 K)=ajM k x pre post K:=by kernel_rfl
theorem aad {x:Int} (h:0<=x/\x<=255):afv x=x:=by
 unfold afv;rw[kF (by omega),IntKind.wrap_u64,Int.emod_eq_of_lt (by omega) (by omega)];rw[show(2:Int)^0=1 from rfl,Int.fdiv_one,IntKind.wrap_u8,Int.emod_eq_of_lt (by omega) (by omega)]
theorem aae {k:Nat} {x:Int} {pre post:List Value} {K:VK Empty} (hk:k=pre.length) (h:0<=x/\x<=255) (hK:K (.az [.sl 2 0 1 1,.bool true]) (tV k x pre post++[⟨true,⟨5,(0,0)⟩,[.int .u8 x]⟩]) []):ajM k x pre post K:=by
 have e1:i64.wrap x=x:=kF (by omega);have e2:Int.fdiv (u64.wrap x) (Int.ofNat (2^(8*1)))=0:=by
  rw[IntKind.wrap_u64,Int.emod_eq_of_lt (by omega) (by omega),show Int.ofNat (2^(8*1))=256 from rfl,Int.fdiv_eq_ediv_of_nonneg _ (by omega)];omega
 refine⟨⟨hk,by omega,λ_=>rfl⟩,aU (λa=>?_) λ_=>aU (λa=>?_) λ_=>aU (λa=>?_) λ_=>?_⟩
 ·rw[e1]at a;exact absurd (of_decide_eq_true a) (by omega)
 ·rw[e1]at a;exact absurd (of_decide_eq_true a) (by omega)
 ·rw[e1,e2]at a;cases a
 ·rw[aad h];exact hK
theorem Co {n f n0:Nat} {args:List V} {bl:List VB} {K:VK Empty} (h:Mm (Zu n f args bl (cP n0 K))) {ids:List Nat} (hl:ids.length=bl.length) (hn:n0<=ids.length) {bs:List av} {ms:List Nat} {w0 w:World} (S:St ms w0 (lits ids ids bl++bs) w):
 aj prog f (ao ids args).toArray w λv w1=>∃x more b,v=den (ids.take n0++more) x/\(ids.take n0++more).length=b.length/\St ms w0 (lits (ids.take n0++more) (ids.take n0++more) b++bs) w1/\K x b []:=by
 refine(bw (ai.nil (G:=Empty) (P:=prog) (gl:=λ_=>none)).T (ai.nil (G:=Empty) (P:=prog) (gl:=λ_=>none)).Q n (C:=mL prog (λ_=>none) ([]:List (dI Empty)) (P1 prog) vg) (ids:=ids) (bl:=bl) (ch:=[]) (R:=bs) Gl.none hl S h.h).mono ?_;rintro v w' ⟨y,more,bl',ch',rfl,h1,S',hK⟩
 match ch',S',hK with
 |[],S',hK=>
  obtain⟨v2,aP,bl2,e,gx,S2,hK⟩:=c9 (n0:=n0) h1 (by simp;omega) S' hK;rw[List.take_append_of_le_length hn]at e gx S2;exact⟨v2,aP,bl2,e,gx,S2,hK⟩
 |e::_,_,_=>nomatch e
theorem aaf {q r k:Nat} {x:Int} {pre post:List Value} {w:World} {f1 f2:Nat×Nat} (WY:f1=(0,0)) (WZ:f2=(0,0)) (hq:w.heap[q]?=some (.cells #[.pointer (some ⟨r,k,none⟩)] 220 f1)) (hr:w.heap[r]?=some (.cells (pre++(.int .u8 x::post)).toArray 40 f2)) (hk:k=pre.length) (h:0<=x/\x<=255):
 aj prog 118 #[.agg #[.int .i64 1,.int .i64 0,.int .i64 255,.func (.func 173) #[] #[.pointer (some ⟨q,0,none⟩)],.func (.func 174) #[] #[.pointer (some ⟨q,0,none⟩)]]] w λv w1=>∃b,v=.tuple #[.slice (some ⟨b,0,none⟩) 1 1,.bool true]/\St [] w [⟨b,true,.cells #[.int .u8 x] 5 (0,0)⟩] w1:=by
 subst WY WZ;have S:St [] w (lits [q,r] [q,r] (tV k x pre post)++[]) w:=by
  have:=St.given (w:=w) [(q,.cells #[.pointer (some ⟨r,k,none⟩)] 220 (0,0)),(r,.cells (pre++(.int .u8 x::post)).toArray 40 (0,0))] (by
   intro p hp;simp only[List.mem_cons,List.not_mem_nil,or_false]at hp;rcases hp with rfl|rfl
   ·exact hq
   ·exact hr)
  have e:lits [q,r] [q,r] (tV k x pre post)=[⟨q,false,.cells #[.pointer (some ⟨r,k,none⟩)] 220 (0,0)⟩,⟨r,false,.cells (pre++(.int .u8 x::post)).toArray 40 (0,0)⟩]:=by
   simp[lits,aE,tV,ab,cl,den,List.range_succ]
  rw[e];exact this
 have hx:Mm (Zu 60 118 [.agg [.int .i64 1,.int .i64 0,.int .i64 255,.fn 173 [] [.ptr 0 0],.fn 174 [] [.ptr 0 0]]] (tV k x pre post) (cP 2 λv b _=>v=.az [.sl 2 0 1 1,.bool true]/\b=tV k x pre post++[⟨true,⟨5,(0,0)⟩,[.int .u8 x]⟩])):=⟨by rw[afw];exact aae hk h ⟨rfl,rfl⟩⟩;have mT:=Co hx (ids:=[q,r]) rfl (by simp) S;clear hx;refine mT.mono ?_;rintro v w' ⟨y,more,b,rfl,hl,S',rfl,rfl⟩
 match more,hl with
 |[b],_=>
  refine⟨b,rfl,?_⟩;have e:lits ([q,r].take 2++[b]) ([q,r].take 2++[b]) (tV k x pre post++[⟨true,⟨5,(0,0)⟩,[.int .u8 x]⟩])=lits [q,r,b] [q,r] (tV k x pre post)++[⟨b,true,.cells #[.int .u8 x] 5 (0,0)⟩]:=rfl;rw[e]at S';exact(S'.sub (List.sublist_append_left _ _)).sub (List.sublist_append_right _ _)
def afx {G:Type}:gm G:=λargs bl ch K=>match args with
 |[.agg [.int .i64 1,.int .i64 0,.int .i64 255,.fn 173 [] [.ptr q 0],.fn 174 [] [.ptr q' 0]]]=>(match bl[q]?with
  |some ⟨_,⟨220,(0,0)⟩,[.ptr r k]⟩=>(match bl[r]?with
   |some ⟨_,⟨40,(0,0)⟩,c⟩=>(match takeN c k with
    |some (_,.int .u8 x::_)=>cond (Nat.beq q q'&&dk bl.length bl) ((0<=x/\x<=255)/\K (.az [.sl bl.length 0 1 1,.bool true]) (bl++[⟨true,⟨5,(0,0)⟩,[.int .u8 x]⟩]) ch) False
    |_=>False)
   |_=>False)
  |_=>False)
 |_=>False
theorem Iw {G:Type} [Bl G] (gl:Nat->Option Nat):Sound (G:=G) prog gl 118 afx:=by
 intro args ids bl ch R ms w0 w K hg hl S hc;unfold afx at hc;split at hc
 ·rename_i q q';split at hc
  ·rename_i w1 r k Mg;split at hc
   ·rename_i w2 c hbr;split at hc
    ·rename_i a x b ht;cases hq:Nat.beq q q'&&dk bl.length bl with
     |false=>rw[hq]at hc;exact hc.elim
     |true=>
      rw[hq]at hc;simp only[Bool.and_eq_true]at hq;obtain⟨hx,hK⟩:=hc;obtain rfl:=Nat.eq_of_beq_eq_true hq.1;have h1:=(cA hl S Mg).2;have h2:=(cA hl S hbr).2;obtain⟨t1,t2⟩:=m9 (ids:=ids) ht;rw[t1]at h2;have e2:ab ids (.int .u8 x::b)=.int .u8 x::ab ids b:=rfl;rw[e2]at h2;have e0:(ao ids [.agg [.int .i64 1,.int .i64 0,.int .i64 255,.fn 173 [] [.ptr q 0],.fn 174 [] [.ptr q 0]]]).toArray=#[.agg #[.int .i64 1,.int .i64 0,.int .i64 255,.func (.func 173) #[] #[.pointer (some ⟨ids.getD q 0,0,none⟩)],.func (.func 174) #[] #[.pointer (some ⟨ids.getD q 0,0,none⟩)]]]:=rfl;rw[e0];refine(aaf (q:=ids.getD q 0) (r:=ids.getD r 0) (k:=k) rfl rfl h1 h2 t2.symm hx).mono ?_;rintro v w' ⟨b',rfl,T⟩;have S2:=S.beside T (Wr.cons rfl Wr.nil);refine⟨_,[b'],_,ch,?_,by simp[hl],?_,hK⟩
      ·simp only[den,ao,<-hl,cy]
      ·rw[aI _ _ _ _ hl,aJ _ _ (by rw[hl];exact hq.2)];rw[List.append_assoc];exact S2.perm (List.perm_append_comm_assoc [_] (lits ids ids bl) (af ch R))
    ·exact hc.elim
   ·exact hc.elim
  ·exact hc.elim
 ·exact hc.elim
def afy (P:Program):(Operand->V)->Op->List VB->List aC->VK aC->Prop:=λe op bl ch K=>match op with
 |.call c=>(match c.callee,c.args.toList,c.argTypes.toList with
  |.builtin .append,[s,xs],[t,tx]=>(match P.underlying t,P.underlying tx with
   |some (.slice T),some (.slice _)=>(match gZ P T,e s,e xs with
    |some (z,cX),.sl j 0 n c,.sl i 0 (m+1) _=>(match bl[j]?,bl[i]?with
     |some ⟨_,⟨_,(0,0)⟩,ac⟩,some b=>(match CN ac 0 (n*z)with
      |some C=>cond (Nat.beq n c&&(Nat.beq (eL ac) (c*z)&&(Nat.beq (eL b.c) ((m+1)*z)&&(mY b.c&&(Nat.ble cX 10000000&&(Nat.ble (n+(m+1)) 1000000&&(cH 0 C&&cH 0 b.c)))))))
       (∀(x:Option Addr) (c':Nat) (bk:List av) (h:fa z T (ab [] C++ab [] b.c) x (n+(m+1)) c' bk),K (.raw (.slice x (n+(m+1)) c')) bl (⟨T,z,ab [] C++ab [] b.c,x,n+(m+1),c',bk,h⟩::ch)) False
      |none=>False)
     |_,_=>False)
    |_,_,_=>False)
   |_,_=>False)
  |_,_,_=>False)
 |_=>False
theorem aag {P:Program} {gl:Nat->Option Nat}:oA P gl (afy P):=by
 intro e op ids bl ch R ms w0 w K ρ o hg hl S cx ho h;unfold afy at h;split at h
 ·rename_i c;split at h
  ·rename_i s xs t tx eU a9 ju;split at h
   ·rename_i T T' ht o9;split at h
    ·rename_i z cX j n cc i m Fw aF qc ow;split at h
     ·rename_i wr Ta ac b ha hb;split at h
      ·rename_i C hC;cases hq:Nat.beq n cc&&(Nat.beq (eL ac) (cc*z)&&(Nat.beq (eL b.c) ((m+1)*z)&&(mY b.c&&(Nat.ble cX 10000000&&(Nat.ble (n+(m+1)) 1000000&&(cH 0 C&&cH 0 b.c))))))with
       |false=>rw[hq]at h;exact h.elim
       |true=>
        rw[hq]at h;simp only[cond_true]at h;simp only[Bool.and_eq_true]at hq;obtain⟨q1,q2,q3,q4,q5,q6,q8,q9⟩:=hq;obtain rfl:=Nat.eq_of_beq_eq_true q1;have q2:=Nat.eq_of_beq_eq_true q2;have q3:=Nat.eq_of_beq_eq_true q3;have q5:=Nat.le_of_ble_eq_true q5;have q6:=Nat.le_of_ble_eq_true q6;have ba:=(cA hl S hb).2;have acw:=(cA hl S ha).2;obtain⟨g1,g2,g3⟩:=km (ids:=ids) hC;rw[List.drop_zero]at g1;have e1:∀l:List V,cH 0 l=true->ab ids l=ab [] l:=λl hw=>bU (ids:=[]) (more:=ids) l hw;have UH:ab ids ac=ab [] C:=by rw[<-e1 C q8,<-g1,List.take_of_length_le (by rw[cL,q2];exact Nat.le_refl _)]
        obtain⟨inf,wv,hi⟩:=Option.map_eq_some_iff.1 (jR aF);simp only[Prod.mk.injEq]at hi;obtain⟨hz,iM,sP⟩:=hi;obtain⟨z0,Cv,FI⟩:=Option.map_eq_some_iff.1 hz;have qJ:(ab ids b.c).length=(m+1)*z:=by rw[cL,q3]
        have fZ:Src P z tx (.slice (some ⟨ids.getD i 0,0,none⟩) (m+1) Fw) (m+1) (ab [] b.c) w:=by
         rw[<-e1 b.c q9];refine Src.ofSlice w o9 ⟨ids.getD i 0,0,none⟩ (m+1) Fw _ qJ (λj u hj=>?_) (λu hu=>lJ q4 u hu);rw[Addr.add_lit,cell_of ba];simpa using hj
        have PV:w.heap[ids.getD j 0]?=some (.cells (ab [] C++[]).toArray Ta (0,0)):=by rw[List.append_nil,<-UH];exact acw
        have AD:(n+(m+1))*cX<=140737488355328:=Nat.le_trans (Nat.mul_le_mul q6 q5) (by decide);have hold:(Builtin.firstCells inf.size n (.slice (some ⟨ids.getD j 0,0,none⟩) n n)).run P w.drew=.ok (ab [] C).toArray w.drew:=by
         refine run_firstCells_some (P:=P) w.drew inf.size n ⟨ids.getD j 0,0,none⟩ n n (ab [] C) (by rw[<-UH,cL,q2,iM]) (λk v hk=>?_);rw[Addr.add_lit];have:w.drew.cell? ⟨ids.getD j 0,0+k,none⟩=w.cell? ⟨ids.getD j 0,k,none⟩:=by simp
         rw[this,cell_of PV,List.append_nil];simpa using hk
        have aY:=run_append_grow_src (P:=P) w t tx o.type T inf z0 ht wv Cv (some ⟨ids.getD j 0,0,none⟩) n n (ab [] C) hold (.slice (some ⟨ids.getD i 0,0,none⟩) (m+1) Fw) (m+1) (ab [] b.c) (by rw[iM];exact fZ) (by omega) (by omega) (by rw[sP];exact growslice_fits (by omega) AD);have jI:=grownCap_ge w (n+(m+1)) n T;obtain⟨FZ,ar,td⟩:=c;simp only at eU a9 ju;have e2:ar=#[s,xs]:=by rw[<-a9]
        have e3:td=#[t,tx]:=by rw[<-ju]
        subst eU e2 e3;have sE:ρ s=.slice (some ⟨ids.getD j 0,0,none⟩) n n:=by rw[cx,qc];simp only[den]
        have OM:ρ xs=.slice (some ⟨ids.getD i 0,0,none⟩) (m+1) Fw:=by rw[cx,ow];simp only[den]
        let tl:=(Builtin.zeroCells z0.cells (grownCap w (n+(m+1)) n T-(n+(m+1)))).toList
        have j7:fa z T (ab [] C++ab [] b.c) (some ⟨w.heap.size,0,none⟩) (n+(m+1)) (grownCap w (n+(m+1)) n T) [⟨w.heap.size,true,.cells ((ab [] C++ab [] b.c)++tl).toArray T (0,0)⟩]:=by
         have l1:(ab [] C).length=n*z:=by rw[<-UH,cL,q2]
         have l2:(ab [] b.c).length=(m+1)*z:=by rw[<-e1 b.c q9,qJ]
         refine⟨by rw[List.length_append,l1,l2,<-Nat.add_mul],jI,.inr ⟨_,tl,rfl,rfl,?_⟩⟩;rw[List.length_append,List.length_append,l1,l2,Array.length_toList,size_zeroCells,FI,<-Nat.add_mul,<-Nat.add_mul];congr 1;omega
        refine⟨.raw (.slice (some ⟨w.heap.size,0,none⟩) (n+(m+1)) (grownCap w (n+(m+1)) n T)),[],bl,_,_,.inl (bP (P:=P) (ρ:=ρ) (o:=o) ho sE OM aY),by simpa using hl,?_,h _ _ _ j7⟩;rw[List.append_nil];have hn:=heap_alloc_new w.drew (.cells ((ab [] C++ab [] b.c).toArray++Builtin.zeroCells z0.cells (grownCap w (n+(m+1)) n T-(n+(m+1)))) T);have hce:(ab [] C++ab [] b.c).toArray++Builtin.zeroCells z0.cells (grownCap w (n+(m+1)) n T-(n+(m+1)))=((ab [] C++ab [] b.c)++tl).toArray:=by apply Array.ext';simp[tl]
        rw[hce]at hn⊢;have S2:=S.new (((Ch.refl [] w).drew).trans (Ch.alloc [] w.drew _) (λx hx=>.inl hx)) (Nat.le_refl _) hn;refine S2.perm ?_;exact List.perm_append_comm_assoc [_] (lits ids ids bl) (af ch R)
      ·exact h.elim
     ·exact h.elim
    ·exact h.elim
   ·exact h.elim
  ·exact h.elim
 ·exact h.elim
def ajN (e:Operand->V) (op:Op):Bool:=match op with
 |.call c=>(match c.args.toList with
  |s::_=>(match e s with|.raw _=>true|_=>false)
  |_=>false)
 |_=>false
def afz (P:Program):(Operand->V)->Op->List VB->List aC->VK aC->Prop:=λe op bl ch K=>cond (ajN e op) (W5 P e op bl ch K) (afy P e op bl ch K)
theorem KZ {P:Program} {gl:Nat->Option Nat}:oA P gl (afz P):=lO ajN Jg aag
def LB9:List (dI aC):=[⟨118,false,afx⟩]
theorem UI:ai prog (λ_=>none) LB9:=ai.cons ⟨Iw _,λe=>by cases e⟩ ai.nil
def vcV (n:Nat) (f:FuncId) (args:List V) (bl:List VB) (K:VK aC):Prop:=cJ (mL prog (λ_=>none) LB9 (afz prog) KZ) n f args bl [] K
def ap9 (g:aC) (x:Int) (k:aC->Prop):Prop:=(g.v=g.v/\g.n+1<=1000000)/\∀(xa:Option Addr) (c:Nat) (bk:List av) (h:fa g.z g.T (g.os++[.int .u8 x]) xa (g.n+1) c bk),k ⟨g.T,g.z,g.os++[.int .u8 x],xa,g.n+1,c,bk,h⟩
def afA (nc:Nat->Int) (E:aC->Prop):Nat->Nat->aC->Prop
 |0,_,g=>E g
 |k+1,i,g=>(0<=nc i/\nc i<=255)/\ap9 g (nc i) (afA nc E k (i+1))
def amD (nc:Nat->Int) (E:aC->Prop):Prop:=(0<=nc 0/\nc 0<=255)/\∀(x:Option Addr) (c:Nat) (bk:List av) (h:fa 1 5 ([.int .u8 129]++[.int .u8 (nc 0)]) x 2 c bk),afA nc E 7 1 ⟨5,1,[.int .u8 129]++[.int .u8 (nc 0)],x,2,c,bk,h⟩
theorem afB (nc:Nat->Int) (c:Nat) (u:List Value) (K:VK aC):vcV 90 72 [.int .i64 129,.sl 1 0 8 c] (mI nc u) (cP 10 K)=amD nc λg=>K (.az [g.v,.bool true]) (mI nc u) [g]:=by kernel_rfl
theorem UJ (nc:Nat->Int) (K:VK Empty):Zu 60 76 [.ptr 0 0] [Cb nc] (cP 1 K)=∀(c:Nat) (u:List Value),1<=c->LC 1 u c->UG (λc u=>K (.az [.sl 1 0 8 c,.bool true]) (mI nc u) []) 7 1 c u:=by kernel_rfl
theorem aah {n f n0:Nat} {args:List V} {bl:List VB} {K:VK aC} (h:Mm (vcV n f args bl (cP n0 K))) {ids:List Nat} (hl:ids.length=bl.length) (hn:n0<=ids.length) {bs:List av} {ms:List Nat} {w0 w:World} (S:St ms w0 (lits ids ids bl++bs) w):
 aj prog f (ao ids args).toArray w λv w1=>∃x more b ch,v=den (ids.take n0++more) x/\(ids.take n0++more).length=b.length/\St ms w0 (lits (ids.take n0++more) (ids.take n0++more) b++af ch bs) w1/\K x b ch:=by
 refine(bw UI.T UI.Q n (C:=mL prog (λ_=>none) LB9 (afz prog) KZ) (ids:=ids) (bl:=bl) (ch:=[]) (R:=bs) Gl.none hl S h.h).mono ?_;rintro v w' ⟨y,more,bl',ch',rfl,h1,S',hK⟩;obtain⟨v2,aP,bl2,e,gx,S2,hK⟩:=c9 (n0:=n0) h1 (by simp;omega) S' hK;rw[List.take_append_of_le_length hn]at e gx S2;exact⟨v2,aP,bl2,ch',e,gx,S2,hK⟩
def f9 (nc:Nat->Int):Nat->Int:=gT [129,nc 0,nc 1,nc 2,nc 3,nc 4,nc 5,nc 6,nc 7]
structure Ok9 (nc:Nat->Int) (g:aC):Prop where
 T:g.T=5
 z:g.z=1
 n:g.n=9
 os:g.os=(List.range 9).map λj=>.int .u8 (f9 nc j)
def UK:gm aC:=λargs bl ch K=>match args,bl with
 |[.ptr 0 0],[⟨true,⟨40,(0,0)⟩,c⟩]=>∃nc,c=Iv nc/\∀(k:Nat) (u:List Value),8<=k->K (.az [.sl 1 0 8 k,.bool true]) (mI nc u) ch
 |_,_=>False
def UL:gm aC:=λargs bl ch K=>match args with
 |[.int .i64 129,.sl 1 0 8 _]=>∃nc u,bl=mI nc u/\(∀j,0<=nc j/\nc j<=255)/\∀g:aC,Ok9 nc g->K (.az [g.v,.bool true]) bl (g::ch)
 |_=>False
theorem Ix:Sound prog (λ_=>none) 76 UK:=by
 intro args ids bl ch R ms w0 w K hg hl S hc;unfold UK at hc;split at hc
 ·rename_i c;obtain⟨nc,rfl,hK⟩:=hc
  match ids,hl with
  |[r],_=>
   have hv:Mm (Zu 60 76 [.ptr 0 0] [Cb nc] (cP 1 λv b _=>∃k u,v=.az [.sl 1 0 8 k,.bool true]/\b=mI nc u/\8<=k)):=⟨by rw[UJ];exact λc u h1 h2=>Cn 7 1 c u h1 h2 λk u h _=>⟨k,u,rfl,rfl,h⟩⟩;have hr:=Co hv (ids:=[r]) (bs:=af ch R) rfl (by simp) S;clear hv;refine hr.mono ?_;rintro v w' ⟨x,more,b,rfl,h1,S2,k,u,rfl,rfl,h8⟩;exact⟨_,more,_,ch,rfl,h1,S2,hK k u h8⟩
 ·exact hc.elim
theorem K1 {nc:Nat->Int} (vQ:∀j,0<=nc j/\nc j<=255) {E:aC->Prop}:∀(k i:Nat) (g:aC),g.T=5->g.z=1->g.n=i+1->g.os=.int .u8 129::(List.range i).map (λj=>.int .u8 (nc j))->i+k<=100->
 (∀g:aC,g.T=5->g.z=1->g.n=i+k+1->g.os=.int .u8 129::(List.range (i+k)).map (λj=>.int .u8 (nc j))->E g)->afA nc E k i g
 |0,i,g,h1,h2,h3,h4,_,hE=>hE g h1 h2 h3 h4
 |k+1,i,g,h1,h2,h3,h4,hb,hE=>⟨vQ i,⟨rfl,by omega⟩,λxa c bk h=>K1 vQ k (i+1) _ h1 h2 (by show g.n+1=_;omega) (by show g.os++_=_;rw[h4,List.range_succ,List.map_append];rfl) (by omega) λg a b c d=>hE g a b (by omega) (by rw[d,show i+1+k=i+(k+1) by omega])⟩
theorem Iy:Sound prog (λ_=>none) 72 UL:=by
 intro args ids bl ch R ms w0 w K hg hl S hc;unfold UL at hc;split at hc
 ·rename_i c;obtain⟨nc,u,rfl,vQ,hK⟩:=hc;have hv:Mm (vcV 90 72 [.int .i64 129,.sl 1 0 8 c] (mI nc u) (cP 10 λv b ch=>∃g,v=.az [g.v,.bool true]/\b=mI nc u/\ch=[g]/\Ok9 nc g)):=⟨by
   rw[afB];exact⟨vQ 0,λx c bk h=>K1 vQ 7 1 _ rfl rfl rfl rfl (by omega) λg a b c d=>⟨g,rfl,rfl,rfl,a,b,c,by rw[d];rfl⟩⟩⟩
  have hr:=aah hv (ids:=ids) (bs:=af ch R) hl (by rw[hl];simp[mI,bx9]) S;clear hv;refine hr.mono ?_;rintro v w' ⟨x,more,b,ch',rfl,h1,S2,g,rfl,rfl,rfl,h9⟩;have hlen:ids.length=10:=by rw[hl];simp[mI,bx9]
  have hm:more=[]:=by
   have:(ids.take 10++more).length=10:=by rw[h1];simp[mI,bx9]
   rw[List.length_append,List.length_take,hlen]at this;exact List.eq_nil_of_length_eq_zero (by simpa using this)
  subst hm;rw[List.take_of_length_le (by omega)]at S2 h1;refine⟨_,[],_,_,?_,h1,S2,hK g h9⟩;rw[List.take_of_length_le (by omega)]
 ·exact hc.elim
def LR9:List (dI aC):=[⟨76,false,UK⟩,⟨72,false,UL⟩]
theorem UM:ai prog (λ_=>none) LR9:=ai.cons ⟨Ix,λe=>by cases e⟩ (ai.cons ⟨Iy,λe=>by cases e⟩ ai.nil)
def vcX (n:Nat) (f:FuncId) (args:List V) (K:VK aC):Prop:=cJ (dR prog (λ_=>none) LR9) n f args [] [] K
theorem aai {n f:Nat} {args:List V} {K:VK aC} (h:Mm (vcX n f args (cP 0 K))) {w:World}:
 aj prog f (ao [] args).toArray w λv w1=>∃x b ch,(b=[]->v=den [] x)/\(b=[]->St [] w (af ch []) w1)/\K x b ch:=by
 refine(bw UM.T UM.Q n (C:=dR prog (λ_=>none) LR9) (ids:=[]) (bl:=[]) (ch:=[]) (R:=[]) (ms:=[]) (w0:=w) (w:=w) Gl.none rfl (St.nil [] w) h.h).mono ?_;rintro v w' ⟨y,more,bl',ch',rfl,h1,S',hK⟩;obtain⟨v2,aP,bl2,e,gx,S2,hK⟩:=c9 (n0:=0) (ids:=more) h1 (by simp) S' hK;refine⟨v2,bl2,ch',λhb=>?_,λhb=>?_,hK⟩
 ·subst hb;obtain rfl:aP=[]:=by simpa using gx
  exact e
 ·subst hb;obtain rfl:aP=[]:=by simpa using gx
  exact S2
theorem afC (nc:Nat->Int) (K:VK aC):vcX 60 190 [.agg (Iv nc)] (cP 0 K)=∃nc1,Iv nc=Iv nc1/\∀(k:Nat) (u:List Value),8<=k->∃nc2 u2,mI nc1 u=mI nc2 u2/\(∀j,0<=nc2 j/\nc2 j<=255)/\∀g:aC,Ok9 nc2 g->K (.az [g.v,.int .i64 0]) [] [g]:=by kernel_rfl
theorem ajO (nc:Nat->Int) (h:∀j,0<=nc j/\nc j<=255) (w:World):aj prog 190 (ao [] [.agg (Iv nc)]).toArray w λv w1=>∃b c1,v=.tuple #[.slice (some ⟨b,0,none⟩) 9 c1,.int .i64 0]/\9<=c1/\w.heap.size<=b/\eS w1 b 0 9 (f9 nc)/\Ch [] w w1:=by
 have hv:Mm (vcX 60 190 [.agg (Iv nc)] (cP 0 λv b ch=>∃g,v=.az [g.v,.int .i64 0]/\b=[]/\ch=[g]/\Ok9 nc g)):=⟨by rw[afC];exact⟨nc,rfl,λk u _=>⟨nc,u,rfl,h,λg hg=>⟨g,rfl,rfl,rfl,hg⟩⟩⟩⟩;have hr:=aai hv (w:=w);clear hv;refine hr.mono ?_;rintro v w' ⟨x,b,ch',e,S2,g,rfl,rfl,rfl,h1,h2,h3,h4⟩;have e:=e rfl;have S2:=S2 rfl;have hg:=g.h;rw[h1,h2,h3,h4]at hg;obtain⟨_,hc,hx⟩:=hg;rcases hx with⟨_,h0,_⟩|⟨b,t,hx,hb,_⟩
 ·cases h0
 ·have S3:St [] w ([⟨b,true,.cells (((List.range 9).map λj=>Value.int .u8 (f9 nc j))++t).toArray 5 (0,0)⟩]++[]) w':=by
   have:St [] w (g.bl++[]) w':=S2;rw[hb]at this;exact this
  refine⟨b,g.c,?_,hc,(S3.own 0 _ rfl rfl).resolve_left (by simp),λj hj=>?_,S3.ch⟩
  ·rw[e];simp only[den,ao,aC.v,hx,h3]
  ·rw[Nat.zero_add,cell_of (S3.at_ 0 _ rfl)];simp only[List.getElem?_toArray];rw[List.getElem?_append_left (by simpa using hj)];simp[List.getElem?_range hj]
end Go.Proofs.YtggfpcggakghnaaGreatDoor
namespace Go.Proofs.YtggfpcggakghnaaGreatDoor
open Go Go.RowKit Go.BigFrame Sx
def afD (r:Sd.Reply):Array Value:=#[.int .i64 r.kind,.int .i64 r.seq,.int .i64 r.role,.int .i64 r.fT,.int .i64 r.epoch,.int .i64 r.code,.int .u8 (r.ae 0),.int .u8 (r.ae 1),.int .u8 (r.ae 2),.int .u8 (r.ae 3),.int .u8 (r.ae 4),.int .u8 (r.ae 5),.int .u8 (r.ae 6),.int .u8 (r.ae 7)]
def fL (r:Sd.Reply):Nat:=if r.kind=129 then 9 else if r.kind=130\/r.kind=131 then 5 else if r.kind=132 then 6 else if r.kind=133\/r.kind=136 then 3 else 4
def yU (r:Sd.Reply):Nat->Int:=if r.kind=129 then f9 r.ae else if r.kind=130 then gT [130,aq 1 (u64.wrap r.role) 0,aq 1 (u64.wrap r.fT) 0,aq 2 (u64.wrap r.epoch) 0,aq 2 (u64.wrap r.epoch) 1]
 else if r.kind=131 then gT [131,aq 4 (u64.wrap r.seq) 0,aq 4 (u64.wrap r.seq) 1,aq 4 (u64.wrap r.seq) 2,aq 4 (u64.wrap r.seq) 3]else if r.kind=132 then gT [132,aq 4 (u64.wrap r.seq) 0,aq 4 (u64.wrap r.seq) 1,aq 4 (u64.wrap r.seq) 2,aq 4 (u64.wrap r.seq) 3,aq 1 (u64.wrap r.code) 0]
 else if r.kind=133 then gT [133,aq 2 (u64.wrap r.epoch) 0,aq 2 (u64.wrap r.epoch) 1]else if r.kind=134 then gT [134,aq 1 (u64.wrap r.fT) 0,aq 2 (u64.wrap r.epoch) 0,aq 2 (u64.wrap r.epoch) 1]
 else if r.kind=135 then gT [135,aq 1 (u64.wrap r.fT) 0,aq 2 (u64.wrap r.epoch) 0,aq 2 (u64.wrap r.epoch) 1]else gT [136,aq 1 (u64.wrap r.fT) 0,aq 1 (u64.wrap r.code) 0]
theorem UN (r:Sd.Reply):fL r=3\/fL r=4\/fL r=5\/fL r=6\/fL r=9:=by
 unfold fL;repeat' split
 all_goals simp
theorem aaj (r:Sd.Reply) (h:RB r) (w:World):aj prog 190 #[.agg (afD r)] w λv w1=>∃b c1,v=.tuple #[.slice (some ⟨b,0,none⟩) (fL r) c1,.int .i64 0]/\fL r<=c1/\w.heap.size<=b/\eS w1 b 0 (fL r) (yU r)/\Ch [] w w1:=by
 have hk:r.kind=129\/r.kind=130\/r.kind=131\/r.kind=132\/r.kind=133\/r.kind=134\/r.kind=135\/r.kind=136:=by have:=h.kind;omega
 obtain⟨k,sq,ro,wh,ep,co,nc⟩:=r;obtain⟨_,⟨s1,s2⟩,⟨r1,r2⟩,⟨w1,w2⟩,⟨e1,e2⟩,⟨c1,c2⟩,⟨n1,n2⟩⟩:=h;simp only at*;rcases hk with rfl|rfl|rfl|rfl|rfl|rfl|rfl|rfl<;>simp at s2 r2 w2 e2 c2 n2<;>subst_vars
 ·exact ajO nc n1 w
 ·exact ajH ro wh ep r1 w1 e1 w
 ·exact ajG sq s1 w
 ·exact ajI sq co s1 c1 w
 ·exact ajJ ep e1 w
 ·exact ajK wh ep w1 e1 w
 ·exact ajL wh ep w1 e1 w
 ·exact ajF wh co w1 c1 w
theorem ajP (n:Nat) (hn:n=3\/n=4\/n=5\/n=6\/n=9) (b o c:Nat) (f:Nat->Int) (w:World) (hB:eS w b o n f):
 aj prog 191 #[.slice (some ⟨b,o,none⟩) n c] w λv w1=>∃b c1,v=.tuple #[.slice (some ⟨b,0,none⟩) (n+5) c1,.int .i64 0]/\n+5<=c1/\w.heap.size<=b/\w1.heap[b]?=some (.cells (dc (n+5) (pI n f) c1) 5 (0,0))/\Ch [] w w1:=by
 exact adI b o n c f (by omega) w hB
theorem ajQ (xs:Option Addr) (ns cs:Nat) (jc bc:Nat) (x:Option Addr) (n c:Nat) (bl:List av) (so:List Value) (l:Int) (r:Sd.Reply) (hrb:RB r) (w:World) {ms:List Nat} {w0:World} {bs:List av} (S0:St ms w0 ([⟨jc,true,.cells #[.pointer (some ⟨bc,0,none⟩),.slice xs ns cs,.slice x n c] 128 (0,0)⟩]++(bl++bs)) w) (hR:fa 2 85 so xs ns cs bl) (hn:ns<=1000):
 aj prog 147 #[.pointer (some ⟨jc,0,none⟩),.int .i64 l,.agg #[.int .i64 r.kind,.int .i64 r.seq,.int .i64 r.role,.int .i64 r.fT,.int .i64 r.epoch,.int .i64 r.code,.int .u8 (r.ae 0),.int .u8 (r.ae 1),.int .u8 (r.ae 2),.int .u8 (r.ae 3),.int .u8 (r.ae 4),.int .u8 (r.ae 5),.int .u8 (r.ae 6),.int .u8 (r.ae 7)]] w λv w1=>∃x1 c1 yA bf cf,v=.tuple #[]/\fa 2 85 (so++[.int .i64 l,.slice (some ⟨bf,0,none⟩) (fL r+5) cf]) x1 (ns+1) c1 yA/\fL r+5<=cf/\St ms w0 ([⟨jc,true,.cells #[.pointer (some ⟨bc,0,none⟩),.slice x1 (ns+1) c1,.slice x n c] 128 (0,0)⟩]++(yA++(⟨bf,true,.cells (dc (fL r+5) (pI (fL r) (yU r)) cf) 5 (0,0)⟩::bs))) w1:=by
 refine dz Tryz.func147 rfl ?_;refine au (ax ?_);refine eD S0 (λb=>.pointer (some ⟨b,0,none⟩)) (.cells #[.int .i64 r.kind,.int .i64 r.seq,.int .i64 r.role,.int .i64 r.fT,.int .i64 r.epoch,.int .i64 r.code,.int .u8 (r.ae 0),.int .u8 (r.ae 1),.int .u8 (r.ae 2),.int .u8 (r.ae 3),.int .u8 (r.ae 4),.int .u8 (r.ae 5),.int .u8 (r.ae 6),.int .u8 (r.ae 7)] 40) ?_;intro de sH i_;refine aw (ag (au (ax ?_)));refine eC i_ 0 14 #[.int .i64 r.kind,.int .i64 r.seq,.int .i64 r.role,.int .i64 r.fT,.int .i64 r.epoch,.int .i64 r.code,.int .u8 (r.ae 0),.int .u8 (r.ae 1),.int .u8 (r.ae 2),.int .u8 (r.ae 3),.int .u8 (r.ae 4),.int .u8 (r.ae 5),.int .u8 (r.ae 6),.int .u8 (r.ae 7)] de 0 ?_;refine dh 190 #[.agg #[.int .i64 r.kind,.int .i64 r.seq,.int .i64 r.role,.int .i64 r.fT,.int .i64 r.epoch,.int .i64 r.code,.int .u8 (r.ae 0),.int .u8 (r.ae 1),.int .u8 (r.ae 2),.int .u8 (r.ae 3),.int .u8 (r.ae 4),.int .u8 (r.ae 5),.int .u8 (r.ae 6),.int .u8 (r.ae 7)]] ?_;refine(aaj r hrb _).mono ?_;rintro _ zw4 ⟨Qm,zc8,rfl,Xr,lR,kG,zh5⟩;have gw:=i_.quiet zh5;refine bY ?_;refine aa (.slice (some ⟨Qm,0,none⟩) (fL r) zc8) ?_;refine aa (.int .i64 0) ?_;refine bJ ?_;refine aa (.int .i64 0) ?_;refine aw (ag (au (ax ?_)));refine bY ?_;refine dh 191 #[.slice (some ⟨Qm,0,none⟩) (fL r) zc8] ?_;refine(ajP (fL r) (UN r) Qm 0 zc8 (yU r) _ kG).mono ?_;rintro _ acR ⟨nn,kY,rfl,Mu,Qd,Dq,oD⟩;have qR:=gw.new oD Qd Dq;refine bY ?_;refine aa (.slice (some ⟨nn,0,none⟩) (fL r+5) kY) ?_;refine aa (.int .i64 0) ?_;refine bJ ?_;refine aa (.int .i64 0) ?_;refine aw (ag (ax ?_));refine bY ?_;refine bY ?_;refine aa (.pointer (some ⟨jc,0,none⟩)) ?_;refine aa (.pointer (some ⟨jc,1,none⟩)) ?_;refine ir qR 2 (.slice xs ns cs) jc 1 ?_;refine aa (.int .i64 l) ?_;refine bY ?_;refine aa (.agg #[.int .i64 l,.slice (some ⟨nn,0,none⟩) (fL r+5) kY]) ?_;refine eD qR (λb=>.slice (some ⟨b,0,none⟩) 1 1) (.cells #[.int .i64 l,.slice (some ⟨nn,0,none⟩) (fL r+5) kY] 85) ?_;intro UO adB yM;have amE:St ms w0 ([⟨UO,true,.cells #[.int .i64 l,.slice (some ⟨nn,0,none⟩) (fL r+5) kY] 85 (0,0)⟩,⟨nn,true,.cells (dc (fL r+5) (pI (fL r) (yU r)) kY) 5 (0,0)⟩,⟨de,true,.cells #[.int .i64 r.kind,.int .i64 r.seq,.int .i64 r.role,.int .i64 r.fT,.int .i64 r.epoch,.int .i64 r.code,.int .u8 (r.ae 0),.int .u8 (r.ae 1),.int .u8 (r.ae 2),.int .u8 (r.ae 3),.int .u8 (r.ae 4),.int .u8 (r.ae 5),.int .u8 (r.ae 6),.int .u8 (r.ae 7)] 40 (0,0)⟩,⟨jc,true,.cells #[.pointer (some ⟨bc,0,none⟩),.slice xs ns cs,.slice x n c] 128 (0,0)⟩]++(bl++bs)) adB:=yM.re (R:=bs) [[⟨UO,true,.cells #[.int .i64 l,.slice (some ⟨nn,0,none⟩) (fL r+5) kY] 85 (0,0)⟩],[⟨nn,true,.cells (dc (fL r+5) (pI (fL r) (yU r)) kY) 5 (0,0)⟩],[⟨de,true,.cells #[.int .i64 r.kind,.int .i64 r.seq,.int .i64 r.role,.int .i64 r.fT,.int .i64 r.epoch,.int .i64 r.code,.int .u8 (r.ae 0),.int .u8 (r.ae 1),.int .u8 (r.ae 2),.int .u8 (r.ae 3),.int .u8 (r.ae 4),.int .u8 (r.ae 5),.int .u8 (r.ae 6),.int .u8 (r.ae 7)] 40 (0,0)⟩],[⟨jc,true,.cells #[.pointer (some ⟨bc,0,none⟩),.slice xs ns cs,.slice x n c] 128 (0,0)⟩],bl] [0,1,2,3,4];refine O8 (z:=2) (T:=85) (olds:=so) (xs:=xs) (n:=ns) (c:=cs) (m:=1) (news:=[.int .i64 l,.slice (some ⟨nn,0,none⟩) (fL r+5) kY]) (xv:=.slice (some ⟨UO,0,none⟩) 1 1) (A:=[⟨UO,true,.cells #[.int .i64 l,.slice (some ⟨nn,0,none⟩) (fL r+5) kY] 85 (0,0)⟩,⟨nn,true,.cells (dc (fL r+5) (pI (fL r) (yU r)) kY) 5 (0,0)⟩,⟨de,true,.cells #[.int .i64 r.kind,.int .i64 r.seq,.int .i64 r.role,.int .i64 r.fT,.int .i64 r.epoch,.int .i64 r.code,.int .u8 (r.ae 0),.int .u8 (r.ae 1),.int .u8 (r.ae 2),.int .u8 (r.ae 3),.int .u8 (r.ae 4),.int .u8 (r.ae 5),.int .u8 (r.ae 6),.int .u8 (r.ae 7)] 40 (0,0)⟩,⟨jc,true,.cells #[.pointer (some ⟨bc,0,none⟩),.slice xs ns cs,.slice x n c] 128 (0,0)⟩]) (bl:=bl) (R:=bs) amE hR (akx yM 0 1 2 [.int .i64 l,.slice (some ⟨nn,0,none⟩) (fL r+5) kY] (tx:=59) (e':=85) (by kernel_rfl) (by kernel_rfl) (by kernel_rfl) (by rfl)) 32 (hbd:=(by omega)) (h63:=(by unfold maxLen;omega)) (k:=?_);intro afE afF ajR anN Du amF;refine aa (.pointer (some ⟨jc,0,none⟩)) ?_;refine aa (.pointer (some ⟨jc,1,none⟩)) ?_;refine store_ amF 3 (.slice afE (ns+1) afF) jc 1 ?_;intro Xm acG;refine aw ?_;refine end_ rfl (fY [] [] (.tuple #[]) trivial) ?_;refine⟨afE,afF,ajR,nn,kY,rfl,?_,Mu,?_⟩
 ·exact Du
 ·exact acG.re (R:=bs) [[⟨UO,true,.cells #[.int .i64 l,.slice (some ⟨nn,0,none⟩) (fL r+5) kY] 85 (0,0)⟩],[⟨nn,true,.cells (dc (fL r+5) (pI (fL r) (yU r)) kY) 5 (0,0)⟩],[⟨de,true,.cells #[.int .i64 r.kind,.int .i64 r.seq,.int .i64 r.role,.int .i64 r.fT,.int .i64 r.epoch,.int .i64 r.code,.int .u8 (r.ae 0),.int .u8 (r.ae 1),.int .u8 (r.ae 2),.int .u8 (r.ae 3),.int .u8 (r.ae 4),.int .u8 (r.ae 5),.int .u8 (r.ae 6),.int .u8 (r.ae 7)] 40 (0,0)⟩],[⟨jc,true,.cells #[.pointer (some ⟨bc,0,none⟩),.slice afE (ns+1) afF,.slice x n c] 128 (0,0)⟩],ajR] [3,4,1]
end Go.Proofs.YtggfpcggakghnaaGreatDoor
namespace Go.Proofs.YtggfpcggakghnaaGreatDoor
open Go Go.RowKit Go.BigFrame Sx Vx
def eB (r:Sd.Reply):Nat×Sd.Byt:=(fL r+5,pI (fL r) (yU r))
theorem aak {l:List V} {r:Sd.Reply} (h:aex l=some r) (ids:List Nat):(ab ids l).toArray=afD r:=by
 unfold aex at h;split at h
 ·split at h
  ·obtain rfl:=Option.some.inj h;kernel_rfl
  ·obtain rfl:=Option.some.inj h;kernel_rfl
  ·cases h
 ·cases h
theorem zV (r c s k t:av) (A B E R:List av):([r,c,s,k,t]++((A++(B++E))++R)).Perm ([s]++(B++(r::c::k::t::(A++(E++R))))):=by
 have h1:([r,c,s,k,t]++((A++(B++E))++R)).Perm (s::r::c::k::t::((A++(B++E))++R)):=by
  refine((List.Perm.swap s c _).cons r).trans ?_;exact List.Perm.swap s r _
 refine h1.trans (List.Perm.cons s ?_);have h2:([r,c,k,t]++(A++(B++(E++R)))).Perm (B++([r,c,k,t]++(A++(E++R)))):=by
  have e1:[r,c,k,t]++(A++(B++(E++R)))=([r,c,k,t]++A)++(B++(E++R)):=by simp
  have e2:B++([r,c,k,t]++(A++(E++R)))=B++(([r,c,k,t]++A)++(E++R)):=by simp
  rw[e1,e2];exact List.perm_append_comm_assoc _ _ _
 simpa[List.append_assoc]using h2
def bN.tell {fr:Sd.Reply->Nat×Sd.Byt} {k:LK} {s:Sd.Scene} (F:bN fr (bA k s)) (l:Int) (r:Sd.Reply) {x1:Option Addr} {c1:Nat} {yA Bf:List av} {so:List Value} (hs:fa 2 85 so x1 (s.tell l r).sent.length c1 yA) (hf:w5 fr (s.tell l r).sent so Bf):bN fr (bA k (s.tell l r)):=
 ⟨x1,c1,F.xr,F.cr,F.Bq,F.Br,yA,Bf,F.Bk,so,F.hq,F.hr,hs,hf,F.hk⟩
theorem iC:Body (fr:=eB) 147 bV:=by
 intro ar k s F Kb a b c R ms w0 w h0 hq hM S;unfold bV at hM;split at hM
 ·rename_i l rl;split at hM
  ·rename_i r hr;have hrm:=hM.1.1;have hrb:=hM.1.2;have hK:=hM.2;have e1:lits (a_ a b c) (a_ a b c) (cS k s F)=[aE (a_ a b c) 1 (aG k),aE (a_ a b c) 0 (iA k),⟨a,true,.cells #[.pointer (some ⟨b,0,none⟩),F.vs,F.vr] 128 (0,0)⟩,aE (a_ a b c) b (ew k 4 s),aE (a_ a b c) c (gP s)]:=by kernel_rfl
   rw[e1,aen]at S;have S1:=S.perm (zV _ _ _ _ _ _ _ _ _);have e2:(ao (a_ a b c) (.ptr 2 0::[.int .i64 l,.agg rl])).toArray=#[.pointer (some ⟨a,0,none⟩),.int .i64 l,.agg (afD r)]:=by
    have:=aak hr (a_ a b c);simp only[ao,den,this];rfl
   rw[e2];have hn:s.sent.length<=1000:=by have:=hrm.1;omega
   refine(ajQ _ _ _ _ _ _ _ _ _ _ l r hrb w S1 F.hs hn).mono ?_;rintro v w1 ⟨x1,c1,yA,bf,cf,rfl,sE,hcf,S2⟩;have hl:(s.tell l r).sent.length=s.sent.length+1:=by simp[Sd.Scene.tell]
   have uZ:fa 2 85 (F.so++[.int .i64 l,.slice (some ⟨bf,0,none⟩) (eB r).1 cf]) x1 (s.tell l r).sent.length c1 yA:=by rw[hl];exact sE
   have hf':w5 eB (s.tell l r).sent (F.so++[.int .i64 l,.slice (some ⟨bf,0,none⟩) (eB r).1 cf]) (F.Bf++[⟨bf,true,.cells (dc (eB r).1 (eB r).2 cf) 5 (0,0)⟩]):=F.hf.snoc l r (some ⟨bf,0,none⟩) cf _ ⟨hcf,.inr ⟨bf,rfl,rfl⟩⟩
   let F':bN eB (bA k (s.tell l r)):=F.tell l r uZ hf'
   refine⟨.az [],_,F',rfl,rfl,rfl,hK F',?_⟩;have e3:lits (a_ a b c) (a_ a b c) (cS k (s.tell l r) F')=[aE (a_ a b c) 1 (aG k),aE (a_ a b c) 0 (iA k),⟨a,true,.cells #[.pointer (some ⟨b,0,none⟩),.slice x1 (s.tell l r).sent.length c1,F.vr] 128 (0,0)⟩,aE (a_ a b c) b (ew k 4 s),aE (a_ a b c) c (gP s)]:=by kernel_rfl
   have e4:F'.B=F.Br++(yA++((F.Bf++[⟨bf,true,.cells (dc (eB r).1 (eB r).2 cf) 5 (0,0)⟩])++(F.Bq++F.Bk))):=rfl;rw[e3,e4,hl];refine(S2.perm ?_).perm (zV _ _ _ _ _ _ _ _ _).symm;refine List.Perm.append_left _ (List.Perm.append_left _ ?_);have p:∀(f x1 x2 x3 x4:av) (A E D R:List av),(f::x1::x2::x3::x4::(A++((E++D)++R))).Perm (x1::x2::x3::x4::(A++(((E++[f])++D)++R))):=by
    intro f x1 x2 x3 x4 A E D R;have q1:f::x1::x2::x3::x4::(A++((E++D)++R))=[f]++(([x1,x2,x3,x4]++(A++E))++(D++R)):=by simp
    have q2:x1::x2::x3::x4::(A++(((E++[f])++D)++R))=([x1,x2,x3,x4]++(A++E))++([f]++(D++R)):=by simp
    rw[q1,q2];exact List.perm_append_comm_assoc _ _ _
   exact p _ _ _ _ _ _ _ _ _
  ·exact hM.elim
 ·exact hM.elim
end Go.Proofs.YtggfpcggakghnaaGreatDoor
namespace Sx
open Go Go.RowKit Go.BigFrame
theorem St.K2 {w:World} {bs:List av} (h:∀y∈bs,y.wr=false/\w.heap[y.id]?=some y.obj):St [] w bs w:=by
 refine St.mk' (Ch.refl _ _) (λy hy=>(h y hy).2) (λy hy e=>by rw[(h y hy).1]at e;cases e) ?_;refine List.pairwise_of_forall_mem_list (λx hx y hy hc=>?_);rcases hc with hc|hc
 ·rw[(h x hx).1]at hc;cases hc
 ·rw[(h y hy).1]at hc;cases hc
end Sx
namespace Go.Proofs.YtggfpcggakghnaaGreatDoor
open Go Go.RowKit Go.BigFrame Go.WideShapes Sx Vx
theorem afG (u:World):∀y∈du u,y.wr=false/\u.heap[y.id]?=some y.obj:=by
 intro y hy;unfold du at hy;rw[List.mem_map]at hy;obtain⟨⟨o,i⟩,hp,rfl⟩:=hy;refine⟨rfl,?_⟩;rw[List.mk_mem_zipIdx_iff_getElem?]at hp;simpa using hp
theorem yd {cs:List Value} {off z:Nat} (g:Nat->List Value) (hz:∀j,(g j).length=z):∀n,(∀k,k<n->∀j,j<z->cs[off+k*z+j]?=(g k)[j]?)->cs.drop off=(List.range n).flatMap g++cs.drop (off+n*z)
 |0,_=>by simp
 |n+1,h=>by
  rw[yd g hz n (λk hk=>h k (by omega)),List.range_succ,List.flatMap_append,List.append_assoc];congr 1;have e:(cs.drop (off+n*z)).take z=g n:=by
   apply List.ext_getElem?;intro j;by_cases hj:j<z
   ·rw[List.getElem?_take_of_lt hj,List.getElem?_drop];exact h n (by omega) j hj
   ·rw[List.getElem?_eq_none (by simp;omega),List.getElem?_eq_none (by rw[hz];omega)]
  have e2:=List.take_append_drop z (cs.drop (off+n*z));rw[e,List.drop_drop]at e2;rw[List.flatMap_cons,List.flatMap_nil,List.append_nil,<-e2];congr 2;rw[Nat.add_mul];omega
structure K3 (W:World) (v:Value) (z:Nat) (g:Nat->List Value) (i o n c:Nat) (a:Option Addr) (ty:BT) (pre post:List Value):Prop where
 v:v=.slice (bif Nat.beq n 0 then a else some ⟨i,o,none⟩) n c
 le:n<=c
 po:∀j,j<n->o=pre.length
 at_:W.heap[i]?=some (.cells (pre++((List.range n).flatMap g++post)).toArray ty.t ty.fz)
theorem K3.nil {W:World} {z:Nat} {g:Nat->List Value} {cs:Array Value} {t:TypeId} {f:Nat×Nat} {i:Nat} (h:W.heap[i]?=some (.cells cs t f)):K3 W (.slice none 0 0) z g i 0 0 0 none ⟨t,f⟩ [] cs.toList:=
 ⟨rfl,Nat.le_refl _,(λj hj=>absurd hj (by omega)),by simpa using h⟩
theorem K3.some {W:World} {z b o n c:Nat} {g:Nat->List Value} {cs:Array Value} {t:TypeId} {f:Nat×Nat} (hle:n<=c) (hz:∀j,(g j).length=z) (ba:W.heap[b]?=some (.cells cs t f)) (h:∀k,k<n->∀j,j<z->W.cell? ⟨b,o+k*z+j,none⟩=(g k)[j]?) (hp:0<z):
 ∃pre post,K3 W (.slice (some ⟨b,o,none⟩) n c) z g b o n c (some ⟨b,o,none⟩) ⟨t,f⟩ pre post:=by
 have hc:∀k,k<n->∀j,j<z->cs.toList[o+k*z+j]?=(g k)[j]?:=λk hk j hj=>by
  have:=h k hk j hj;rw[cell_of ba]at this;simpa using this
 have hs:=yd g hz n hc;by_cases hn:n=0
 ·subst hn;exact⟨[],cs.toList,by cases Nat.beq 0 0<;>rfl,hle,(λj hj=>absurd hj (by omega)),by simpa using ba⟩
 ·refine⟨cs.toList.take o,cs.toList.drop (o+n*z),by cases Nat.beq n 0<;>rfl,hle,λj hj=>?_,?_⟩
  ·have h0:=hc 0 (by omega) 0 hp;have:o<cs.toList.length:=by
    rcases Nat.lt_or_ge o cs.toList.length with h1|h1
    ·exact h1
    ·exfalso;rw[List.getElem?_eq_none (by omega)]at h0;have h2:=hz 0;rw[List.getElem?_eq_getElem (by omega)]at h0;cases h0
   rw[List.length_take];omega
  ·rw[<-hs,List.take_append_drop];exact ba
end Go.Proofs.YtggfpcggakghnaaGreatDoor
namespace Go.Proofs.YtggfpcggakghnaaGreatDoor
open Go Go.RowKit Go.BigFrame Sx Vx
def K4 (l:List Int):Int:=i64.wrap (l.foldl (λs b=>bits .or .u64 (u64.wrap (s*2^8)) (u64.wrap b)) 0)
def trT (bad:Prop) (UP:List Int->Prop):List (List Int×Int×Int)->List Int->Prop
 |[],acc=>UP acc
 |(bs,lo,hi)::l,acc=>cond (decide (K4 bs<lo)) bad (cond (decide (K4 bs>hi)) bad (trT bad UP l (acc++[K4 bs])))
def xA (l:List Int) (us:List Value):List VB:=[⟨false,⟨5,(0,0)⟩,l.map (λx=>V.int .u8 x)++[.rest us]⟩]
def xI (n:Nat) (l:List Int) (us:List Value) (e:Nat) (K:VK Empty):Prop:=cJ (mL prog gv ([]:List (dI Empty)) (N3 prog) vE) 60 49 [.sl 0 0 n (e+n)] (xA l us) [] (cP 1 K)
def zG (k a b c d e:Int) (code:Int):V:=.az [.agg [.int .i64 k,.int .i64 a,.int .i64 b,.int .i64 c,.int .i64 d,.int .i64 e,.int .u8 0,.int .u8 0,.int .u8 0,.int .u8 0,.int .u8 0,.int .u8 0,.int .u8 0,.int .u8 0],.int .i64 code]
def zH (l:List Int) (us:List Value) (K:VK Empty) (fs:List (List Int×Int×Int)) (g:List Int->V):Prop:=trT (K (zG 0 0 0 0 0 0 13) (xA l us) []) (λx=>K (g x) (xA l us) []) fs []
section
variable(a b c d x:Int) (us:List Value) (e:Nat) (K:VK Empty)
theorem afH:xI 5 [131,a,b,c,d] us e K=zH [131,a,b,c,d] us K [([a,b,c,d],0,4294967295)] (λl=>zG 131 (l.getD 0 0) 0 0 0 0 0):=by kernel_rfl
theorem afI:xI 5 [130,a,b,c,d] us e K=zH [130,a,b,c,d] us K [([a],0,3),([b],0,4),([c,d],0,65535)] (λl=>zG 130 0 (l.getD 0 0) (l.getD 1 0) (l.getD 2 0) 0 0):=by kernel_rfl
theorem afJ:xI 6 [132,a,b,c,d,x] us e K=zH [132,a,b,c,d,x] us K [([a,b,c,d],0,4294967295),([x],0,255)] (λl=>zG 132 (l.getD 0 0) 0 0 0 (l.getD 1 0) 0):=by kernel_rfl
theorem afK:xI 3 [133,a,b] us e K=zH [133,a,b] us K [([a,b],0,65535)] (λl=>zG 133 0 0 0 (l.getD 0 0) 0 0):=by kernel_rfl
theorem afL:xI 4 [134,a,b,c] us e K=zH [134,a,b,c] us K [([a],0,4),([b,c],0,65535)] (λl=>zG 134 0 0 (l.getD 0 0) (l.getD 1 0) 0 0):=by kernel_rfl
theorem afM:xI 4 [135,a,b,c] us e K=zH [135,a,b,c] us K [([a],0,4),([b,c],0,65535)] (λl=>zG 135 0 0 (l.getD 0 0) (l.getD 1 0) 0 0):=by kernel_rfl
theorem afN:xI 3 [136,a,b] us e K=zH [136,a,b] us K [([a],0,4),([b],0,255)] (λl=>zG 136 0 0 (l.getD 0 0) 0 (l.getD 1 0) 0):=by kernel_rfl
end
theorem or8 {s b:Int} (hs:0<=s/\s<2^56) (hb:0<=b/\b<=255):bits .or .u64 (u64.wrap (s*2^8)) (u64.wrap b)=s*256+b:=by
 rw[show u64.wrap b=b by rw[IntKind.wrap_u64];omega];exact tF s b hs (by omega)
theorem UQ {a:Int} (ha:0<=a/\a<=255):K4 [a]=a:=by
 unfold K4;simp only[List.foldl_cons,List.foldl_nil];rw[or8 (by omega) ha,fG (by omega)];omega
theorem abT {a b:Int} (ha:0<=a/\a<=255) (hb:0<=b/\b<=255):K4 [a,b]=a*256+b:=by
 unfold K4;simp only[List.foldl_cons,List.foldl_nil];rw[or8 (by omega) ha,or8 (by omega) hb,fG (by omega)];omega
theorem abU {a b c d:Int} (ha:0<=a/\a<=255) (hb:0<=b/\b<=255) (hc:0<=c/\c<=255) (hd:0<=d/\d<=255):K4 [a,b,c,d]=((a*256+b)*256+c)*256+d:=by
 unfold K4;simp only[List.foldl_cons,List.foldl_nil];rw[or8 (by omega) ha,or8 (by omega) hb,or8 (by omega) hc,or8 (by omega) hd,fG (by omega)];omega
theorem fk (k:Nat) (x:Int) (j:Nat):0<=aq k x j/\aq k x j<=255:=by
 unfold aq;rw[IntKind.wrap_u8];omega
theorem E7 {v:Int} (h:0<=v/\v<=255):K4 [aq 1 (u64.wrap v) 0]=v:=by
 rw[UQ (fk _ _ _)];unfold aq;rw[show u64.wrap v=v by rw[IntKind.wrap_u64];omega,IntKind.wrap_u8,Int.fdiv_eq_ediv_of_nonneg _ (by decide)];show v/1%256=v;omega
theorem UR {v:Int} (h:0<=v/\v<=65535):K4 [aq 2 (u64.wrap v) 0,aq 2 (u64.wrap v) 1]=v:=by
 rw[abT (fk _ _ _) (fk _ _ _)];unfold aq;rw[show u64.wrap v=v by rw[IntKind.wrap_u64];omega,IntKind.wrap_u8,IntKind.wrap_u8,Int.fdiv_eq_ediv_of_nonneg _ (by decide),Int.fdiv_eq_ediv_of_nonneg _ (by decide)];show v/256%256*256+v/1%256=v;omega
theorem afO {v:Int} (h:0<=v/\v<=4294967295):K4 [aq 4 (u64.wrap v) 0,aq 4 (u64.wrap v) 1,aq 4 (u64.wrap v) 2,aq 4 (u64.wrap v) 3]=v:=by
 rw[abU (fk _ _ _) (fk _ _ _) (fk _ _ _) (fk _ _ _)];unfold aq;rw[show u64.wrap v=v by rw[IntKind.wrap_u64];omega];simp only[IntKind.wrap_u8];rw[Int.fdiv_eq_ediv_of_nonneg _ (by decide),Int.fdiv_eq_ediv_of_nonneg _ (by decide),Int.fdiv_eq_ediv_of_nonneg _ (by decide),Int.fdiv_eq_ediv_of_nonneg _ (by decide)];show((v/16777216%256*256+v/65536%256)*256+v/256%256)*256+v/1%256=v;omega
def trP:List (List Int×Int×Int)->List Int->Prop
 |[],[]=>True
 |(bs,lo,hi)::fs,v::vs=>(K4 bs=v/\lo<=v/\v<=hi)/\trP fs vs
 |_,_=>False
theorem mn {bad:Prop} {UP:List Int->Prop}:∀(fs:List (List Int×Int×Int)) (vs acc:List Int),trP fs vs->UP (acc++vs)->trT bad UP fs acc
 |[],[],acc,_,hg=>by
  unfold trT;simpa using hg
 |[],v::vs,acc,h,_=>h.elim
 |(bs,lo,hi)::fs,[],acc,h,_=>h.elim
 |(bs,lo,hi)::fs,v::vs,acc,h,hg=>by
  obtain⟨⟨h1,h2,h3⟩,hf⟩:=h;unfold trT;rw[h1];refine aU (λe=>?_) (λ_=>aU (λe=>?_) (λ_=>mn fs vs _ hf (by simpa using hg)))
  ·have:=of_decide_eq_true e;omega
  ·have:=of_decide_eq_true e;omega
def rpI (r:Sd.Reply):List Int:=(List.range (fL r)).map (yU r)
def iD (r:Sd.Reply):List V:=[.int .i64 r.kind,.int .i64 r.seq,.int .i64 r.role,.int .i64 r.fT,.int .i64 r.epoch,.int .i64 r.code,.int .u8 (r.ae 0),.int .u8 (r.ae 1),.int .u8 (r.ae 2),.int .u8 (r.ae 3),.int .u8 (r.ae 4),.int .u8 (r.ae 5),.int .u8 (r.ae 6),.int .u8 (r.ae 7)]
theorem mq {n:Nat} {l:List Int} {us:List Value} {e:Nat} {v0:V} (OT:fK 0 v0=true) (h:Hd (xI n l us e λv b c=>v=v0)) {w:World} {b:Nat} (ba:w.heap[b]?=some (.cells (l.map (λx=>Value.int .u8 x)++us).toArray 5 (0,0))):
 aj prog 49 #[.slice (some ⟨b,0,none⟩) n (e+n)] w λv w'=>v=den [] v0/\Ch [] w w':=by
 have hd:∀l:List Int,ab [b] (l.map (λx=>V.int .u8 x)++[.rest us])=l.map (λx=>Value.int .u8 x)++us:=by
  intro l;induction l with
  |nil=>simp only[List.map_nil,List.nil_append,ab,cl,List.append_nil]
  |cons x l ih=>simp only[List.map_cons,List.cons_append,ab,cl,den,ih,List.nil_append]
 have S:St [] w (lits [b] [b] (xA l us)++af ([]:List Empty) []) w:=by
  refine St.K2 ?_;intro y hy;simp only[xA,lits,af,List.append_nil,List.mem_cons,List.not_mem_nil,or_false]at hy;subst hy;refine⟨rfl,ba.trans ?_⟩;simp only[aE,hd]
 have hok:ai (G:=Empty) prog gv []:=ai.nil;refine(bw (C:=mL prog gv ([]:List (dI Empty)) (N3 prog) vE) hok.T hok.Q 60 (ids:=[b]) (λg i h=>by cases h) rfl S h.h).mono ?_;rintro v w' ⟨y,more,bl',ch',rfl,h1,S',hK⟩;obtain⟨v2,aP,bl2,zJ,-,S2,Mx⟩:=c9 (n0:=1) h1 (by simp) S' hK;obtain rfl:v2=v0:=Mx;refine⟨?_,S2.ch⟩;rw[zJ];have:=bC (ids:=[]) (more:=List.take 1 ([b]++more)++aP) v2 OT;simpa using this
theorem Iz (r:Sd.Reply) (h:RB r) (h9:r.kind≠129) {us:List Value} {e:Nat} {w:World} {b:Nat} (ba:w.heap[b]?=some (.cells ((rpI r).map (λx=>Value.int .u8 x)++us).toArray 5 (0,0))):
 aj prog 49 #[.slice (some ⟨b,0,none⟩) (fL r) (e+fL r)] w λv w'=>v=den [] (.az [.agg (iD r),.int .i64 0])/\Ch [] w w':=by
 have hk:r.kind=130\/r.kind=131\/r.kind=132\/r.kind=133\/r.kind=134\/r.kind=135\/r.kind=136:=by have:=h.kind;omega
 obtain⟨k,sq,ro,wh,ep,co,nc⟩:=r;obtain⟨_,⟨s1,s2⟩,⟨r1,r2⟩,⟨w1,w2⟩,⟨e1,e2⟩,⟨c1,c2⟩,⟨n1,n2⟩⟩:=h;simp only at*;rcases hk with rfl|rfl|rfl|rfl|rfl|rfl|rfl<;>simp at s2 r2 w2 e2 c2 n2<;>subst_vars
 ·exact mq (n:=5) (l:=[130,aq 1 (u64.wrap ro) 0,aq 1 (u64.wrap wh) 0,aq 2 (u64.wrap ep) 0,aq 2 (u64.wrap ep) 1]) rfl ⟨by rw[afI];exact mn _ [ro,wh,ep] [] ⟨⟨E7 (by omega),r1⟩,⟨E7 ⟨w1.1,by have:=w1.2;omega⟩,w1⟩,⟨UR e1,e1⟩,trivial⟩ rfl⟩ ba
 ·exact mq (n:=5) (l:=[131,aq 4 (u64.wrap sq) 0,aq 4 (u64.wrap sq) 1,aq 4 (u64.wrap sq) 2,aq 4 (u64.wrap sq) 3]) rfl ⟨by rw[afH];exact mn _ [sq] [] ⟨⟨afO s1,s1⟩,trivial⟩ rfl⟩ ba
 ·exact mq (n:=6) (l:=[132,aq 4 (u64.wrap sq) 0,aq 4 (u64.wrap sq) 1,aq 4 (u64.wrap sq) 2,aq 4 (u64.wrap sq) 3,aq 1 (u64.wrap co) 0]) rfl ⟨by rw[afJ];exact mn _ [sq,co] [] ⟨⟨afO s1,s1⟩,⟨E7 c1,c1⟩,trivial⟩ rfl⟩ ba
 ·exact mq (n:=3) (l:=[133,aq 2 (u64.wrap ep) 0,aq 2 (u64.wrap ep) 1]) rfl ⟨by rw[afK];exact mn _ [ep] [] ⟨⟨UR e1,e1⟩,trivial⟩ rfl⟩ ba
 ·exact mq (n:=4) (l:=[134,aq 1 (u64.wrap wh) 0,aq 2 (u64.wrap ep) 0,aq 2 (u64.wrap ep) 1]) rfl ⟨by rw[afL];exact mn _ [wh,ep] [] ⟨⟨E7 ⟨w1.1,by have:=w1.2;omega⟩,w1⟩,⟨UR e1,e1⟩,trivial⟩ rfl⟩ ba
 ·exact mq (n:=4) (l:=[135,aq 1 (u64.wrap wh) 0,aq 2 (u64.wrap ep) 0,aq 2 (u64.wrap ep) 1]) rfl ⟨by rw[afM];exact mn _ [wh,ep] [] ⟨⟨E7 ⟨w1.1,by have:=w1.2;omega⟩,w1⟩,⟨UR e1,e1⟩,trivial⟩ rfl⟩ ba
 ·exact mq (n:=3) (l:=[136,aq 1 (u64.wrap wh) 0,aq 1 (u64.wrap co) 0]) rfl ⟨by rw[afN];exact mn _ [wh,co] [] ⟨⟨E7 ⟨w1.1,by have:=w1.2;omega⟩,w1⟩,⟨E7 c1,c1⟩,trivial⟩ rfl⟩ ba
def E8 (j:Nat):List V:=[.int .i64 1,.int .i64 0,.int .i64 255,.fn 173 [] [.ptr j 0],.fn 174 [] [.ptr j 0]]
def afP (u:List Value):VB:=⟨true,⟨175,(0,0)⟩,E8 4++(E8 5++(E8 6++(E8 7++(E8 8++(E8 9++(E8 10++(E8 11++[.rest u])))))))⟩
def bxT:List VB:=(List.range 8).map λj=>⟨true,⟨220,(0,0)⟩,[.ptr 2 (6+j)]⟩
def E9:gm Empty:=λargs bl ch K=>match args,bl with
 |[.ptr 2 0],[b0,b1,⟨true,⟨40,(0,0)⟩,c⟩]=>cond (dk 3 [b0,b1]) (∃nc,c=Iv nc/\∀(k:Nat) (u:List Value),8<=k->K (.az [.sl 3 0 8 k,.bool true]) ([b0,b1]++(Cb nc::afP u::bxT)) ch) False
 |_,_=>False
theorem E_:Sound prog (λ_=>none) 76 E9:=by
 intro args ids bl ch R ms w0 w K hg hl S hc;unfold E9 at hc;split at hc
 ·rename_i b0 b1 c;cases hw:dk 3 [b0,b1]with
  |false=>rw[hw]at hc;exact hc.elim
  |true=>
   rw[hw]at hc;obtain⟨nc,rfl,hK⟩:=hc
   match ids,hl with
   |[x0,x1,r],hl3=>
    have S1:St ms w0 (lits [r] [r] [Cb nc]++([aE [x0,x1,r] x0 b0,aE [x0,x1,r] x1 b1]++af ch R)) w:=by
     have e:lits [x0,x1,r] [x0,x1,r] [b0,b1,⟨true,⟨40,(0,0)⟩,Iv nc⟩]=[aE [x0,x1,r] x0 b0,aE [x0,x1,r] x1 b1,aE [r] r (Cb nc)]:=rfl;rw[e]at S;exact S.perm (cj λf=>by simp only[lits,List.countP_append,List.countP_cons,List.countP_nil];omega)
    have hv:Mm (Zu 60 76 [.ptr 0 0] [Cb nc] (cP 1 λv b _=>∃k u,v=.az [.sl 1 0 8 k,.bool true]/\b=mI nc u/\8<=k)):=⟨by rw[UJ];exact λc u h1 h2=>Cn 7 1 c u h1 h2 λk u h _=>⟨k,u,rfl,rfl,h⟩⟩;have hr:=Co hv (ids:=[r]) rfl (by simp) S1;clear hv;refine hr.mono ?_;rintro v w' ⟨x,more,b,rfl,h1,S2,k,u,rfl,rfl,h8⟩;have hm:more.length=9:=by simpa[mI,bx9]using h1
    match more,hm with
    |[m0,m1,m2,m3,m4,m5,m6,m7,m8],_=>
     refine⟨.az [.sl 3 0 8 k,.bool true],[m0,m1,m2,m3,m4,m5,m6,m7,m8],[b0,b1]++(Cb nc::afP u::bxT),ch,rfl,rfl,?_,hK k u h8⟩;have e2:lits ([x0,x1,r]++[m0,m1,m2,m3,m4,m5,m6,m7,m8]) ([x0,x1,r]++[m0,m1,m2,m3,m4,m5,m6,m7,m8]) ([b0,b1]++(Cb nc::afP u::bxT))=lits ([x0,x1,r]++[m0,m1,m2,m3,m4,m5,m6,m7,m8]) [x0,x1] [b0,b1]++lits ([r]++[m0,m1,m2,m3,m4,m5,m6,m7,m8]) ([r]++[m0,m1,m2,m3,m4,m5,m6,m7,m8]) (mI nc u):=rfl;rw[e2,aJ (ids:=[x0,x1,r]) [x0,x1] [b0,b1] hw];have S3:St ms w0 (lits ([r]++[m0,m1,m2,m3,m4,m5,m6,m7,m8]) ([r]++[m0,m1,m2,m3,m4,m5,m6,m7,m8]) (mI nc u)++([aE [x0,x1,r] x0 b0,aE [x0,x1,r] x1 b1]++af ch R)) w':=S2;generalize lits ([r]++[m0,m1,m2,m3,m4,m5,m6,m7,m8]) ([r]++[m0,m1,m2,m3,m4,m5,m6,m7,m8]) (mI nc u)=L at S3⊢;refine S3.perm (cj λf=>?_);simp only[lits,List.countP_append,List.countP_cons,List.countP_nil];omega
 ·exact hc.elim
def trU (n:Nat) (l:List Int) (us:List Value) (e:Nat) (K:VK Empty):Prop:=cJ (dR prog (λ_=>none) [⟨76,false,E9⟩]) 60 49 [.sl 0 0 n (e+n)] (xA l us) [] (cP 1 K)
def rpO (l:List Int):V:=.az [.agg ([.int .i64 129,.int .i64 0,.int .i64 0,.int .i64 0,.int .i64 0,.int .i64 0]++l.map λx=>.int .u8 (u8.wrap x)),.int .i64 0]
section
variable(a b c d a' b' c' d':Int) (us:List Value) (e:Nat) (K:VK Empty)
theorem afQ:trU 9 [129,a,b,c,d,a',b',c',d'] us e K=∃nc,Iv (λ_=>0)=Iv nc/\∀(k:Nat) (u:List Value),8<=k->zH [129,a,b,c,d,a',b',c',d'] us K [([a],0,255),([b],0,255),([c],0,255),([d],0,255),([a'],0,255),([b'],0,255),([c'],0,255),([d'],0,255)] rpO:=by kernel_rfl
end
theorem aal {n:Nat} {l:List Int} {us:List Value} {e:Nat} {v0:V} (OT:fK 0 v0=true) (h:Hd (trU n l us e λv b c=>v=v0)) {w:World} {b:Nat} (ba:w.heap[b]?=some (.cells (l.map (λx=>Value.int .u8 x)++us).toArray 5 (0,0))):
 aj prog 49 #[.slice (some ⟨b,0,none⟩) n (e+n)] w λv w'=>v=den [] v0/\Ch [] w w':=by
 have hd:∀l:List Int,ab [b] (l.map (λx=>V.int .u8 x)++[.rest us])=l.map (λx=>Value.int .u8 x)++us:=by
  intro l;induction l with
  |nil=>simp only[List.map_nil,List.nil_append,ab,cl,List.append_nil]
  |cons x l ih=>simp only[List.map_cons,List.cons_append,ab,cl,den,ih,List.nil_append]
 have S:St [] w (lits [b] [b] (xA l us)++af ([]:List Empty) []) w:=by
  refine St.K2 ?_;intro y hy;simp only[xA,lits,af,List.append_nil,List.mem_cons,List.not_mem_nil,or_false]at hy;subst hy;refine⟨rfl,ba.trans ?_⟩;simp only[aE,hd]
 have hok:ai (G:=Empty) prog (λ_=>none) [⟨76,false,E9⟩]:=ai.cons ⟨E_,λe=>by cases e⟩ ai.nil;refine(bw (C:=dR prog (λ_=>none) [⟨76,false,E9⟩]) hok.T hok.Q 60 (ids:=[b]) (λg i h=>by cases h) rfl S h.h).mono ?_;rintro v w' ⟨y,more,bl',ch',rfl,h1,S',hK⟩;obtain⟨v2,aP,bl2,zJ,-,S2,Mx⟩:=c9 (n0:=1) h1 (by simp) S' hK;obtain rfl:v2=v0:=Mx;refine⟨?_,S2.ch⟩;rw[zJ];have:=bC (ids:=[]) (more:=List.take 1 ([b]++more)++aP) v2 OT;simpa using this
theorem US (r:Sd.Reply) (h:RB r) {us:List Value} {e:Nat} {w:World} {b:Nat} (ba:w.heap[b]?=some (.cells ((rpI r).map (λx=>Value.int .u8 x)++us).toArray 5 (0,0))):
 aj prog 49 #[.slice (some ⟨b,0,none⟩) (fL r) (e+fL r)] w λv w'=>v=den [] (.az [.agg (iD r),.int .i64 0])/\Ch [] w w':=by
 by_cases h9:r.kind=129
 ·obtain⟨k,sq,ro,wh,ep,co,nc⟩:=r;obtain⟨_,⟨s1,s2⟩,⟨r1,r2⟩,⟨w1,w2⟩,⟨e1,e2⟩,⟨c1,c2⟩,⟨n1,n2⟩⟩:=h;simp only at*;subst h9;simp at s2 r2 w2 e2 c2 n2
  subst_vars
  have hw:∀j,u8.wrap (nc j)=nc j:=λj=>by have:=n1 j;rw[IntKind.wrap_u8];omega
  have hn:∀j,K4 [nc j]=nc j/\0<=nc j/\nc j<=255:=λj=>⟨UQ (n1 j),n1 j⟩;exact aal (n:=9) (l:=[129,nc 0,nc 1,nc 2,nc 3,nc 4,nc 5,nc 6,nc 7]) rfl ⟨by
   rw[afQ];exact⟨λ_=>0,rfl,λ_ _ _=>mn _ [nc 0,nc 1,nc 2,nc 3,nc 4,nc 5,nc 6,nc 7] [] ⟨hn 0,hn 1,hn 2,hn 3,hn 4,hn 5,hn 6,hn 7,trivial⟩ (by
    show rpO _=_;simp only[rpO,List.nil_append,List.map_cons,List.map_nil,hw];rfl)⟩⟩ ba
 ·exact Iz r h h9 ba
theorem afR (op:BinOp) (a b:Int):0<=bits op .u16 a b/\bits op .u16 a b<=65535:=by
 unfold bits;rw[IntKind.wrap_u16];omega
theorem aam (x:Int):0<=DF x/\DF x<=65535:=by
 unfold DF;cases(bits .and .u16 x 32768!=0)with
 |true=>exact afR .xor (u16.wrap (x*2^1)) 4129
 |false=>
  simp only[cond_false];rw[IntKind.wrap_u16];omega
theorem aan (f:Nat->Int):∀n,0<=jT f n/\jT f n<=65535
 |0=>⟨(by decide:(0:Int)<=65535),(by decide:(65535:Int)<=65535)⟩
 |n+1=>aam _
theorem yf {f g:Nat->Int}:∀n,(∀j,j<n->f j=g j)->jT f n=jT g n
 |0,_=>rfl
 |n+1,h=>by
  show MN (jT f n) (f n)=MN (jT g n) (g n);rw[yf n (λj hj=>h j (by omega)),h n (by omega)]
theorem amG {x:Int} (hx:0<=x/\x<=65535):bits .or .u16 (u16.wrap (u16.wrap (u8.wrap (Int.fdiv x (2^8)))*2^8)) (u16.wrap (u8.wrap x))=x:=by
 have e1:u8.wrap (Int.fdiv x (2^8))=x/256:=by
  rw[IntKind.wrap_u8,Int.fdiv_eq_ediv_of_nonneg _ (by decide)];show x/256%256=x/256;omega
 have e2:u8.wrap x=x%256:=IntKind.wrap_u8 x;have e3:u16.wrap (u16.wrap (x/256)*2^8)=x/256*256:=by
  rw[IntKind.wrap_u16,IntKind.wrap_u16];omega
 have e4:u16.wrap (x%256)=x%256:=by rw[IntKind.wrap_u16];omega
 rw[e1,e2,e3,e4];obtain⟨a,ha⟩:∃a:Nat,x/256=a:=⟨(x/256).toNat,by omega⟩;obtain⟨b,hb⟩:∃b:Nat,x%256=b:=⟨(x%256).toNat,by omega⟩;have VH:a<256:=by omega
 have Wh:b<256:=by omega
 rw[ha,hb];unfold bits;have h1:(BitVec.ofInt 16 ((a:Int)*256)).toNat=a*256:=by simp only[BitVec.toNat_ofInt];omega
 have h2:(BitVec.ofInt 16 (b:Int)).toNat=b:=by simp only[BitVec.toNat_ofInt];omega
 have h3:(a*256|||b)=a*256+b:=by
  have:=Nat.shiftLeft_add_eq_or_of_lt (i:=8) (b:=b) (by omega) a;rw[Nat.shiftLeft_eq]at this;exact this.symm
 show u16.wrap (((BitVec.ofInt 16 ((a:Int)*256)|||BitVec.ofInt 16 (b:Int)).toNat:Nat):Int)=_;rw[BitVec.toNat_or,h1,h2,h3,IntKind.wrap_u16];omega
def crC (n:Nat) (f:Nat->Int):Int:=jT (Ek (bI 3 (gT [165,1,n]) f) 1) (3+n-1)
def N6 (n:Nat) (f:Nat->Int):Int:=u8.wrap (Int.fdiv (crC n f) (2^8))
def N7 (n:Nat) (f:Nat->Int):Int:=u8.wrap (crC n f)
def Fa (n:Nat):Prop:=n=3\/n=4\/n=5\/n=6\/n=9
theorem afS {n:Nat} (h:Fa n) (cr:(Nat->Int)->Nat->Int) (f:Nat->Int) (hi lo:Int) (us:List Value) (d:Nat) (K:VK Empty):nxV cr n f hi lo us d K=nxX cr n f hi lo us d K:=by
 rcases h with rfl|rfl|rfl|rfl|rfl
 ·exact amx ..
 ·exact amy ..
 ·exact amz ..
 ·exact amA ..
 ·exact amB ..
theorem UT {n:Nat} (h:Fa n) (f:Nat->Int):(List.range (n+5)).map (pI n f)=nxI n f (N6 n f) (N7 n f):=by
 rcases h with rfl|rfl|rfl|rfl|rfl<;>rfl
theorem afT {n:Nat} (h:Fa n) (f:Nat->Int) (hi lo:Int) (us:List Value):∀j,j<n+2->CA (Is n f hi lo us) 1 j=Ek (bI 3 (gT [165,1,n]) f) 1 j:=by
 have e:(List.range (n+2)).map (CA (Is n f hi lo us) 1)=(List.range (n+2)).map (Ek (bI 3 (gT [165,1,n]) f) 1):=by
  rcases h with rfl|rfl|rfl|rfl|rfl<;>rfl
 intro j hj;have:=congrArg (λl=>l[j]?) e;simpa[List.getElem?_range hj]using this
theorem aao {n:Nat} (h:Fa n) (f:Nat->Int) (hi lo:Int) (us:List Value):∀j,j<n->CA (Is n f hi lo us) 3 j=f j:=by
 have e:(List.range n).map (CA (Is n f hi lo us) 3)=(List.range n).map f:=by
  rcases h with rfl|rfl|rfl|rfl|rfl<;>rfl
 intro j hj;have:=congrArg (λl=>l[j]?) e;simpa[List.getElem?_range hj]using this
theorem aap {n:Nat} (h:Fa n) (f:Nat->Int) (us:List Value) (d:Nat) {K:VK Empty} (hK:∀e:Nat,K (.agg [.int .i64 2,.int .i64 ((n+5:Nat):Int),.int .i64 0,.sl 1 0 n (n+e)]) (xz n f (N6 n f) (N7 n f) us++[dF n e (CA (Is n f (N6 n f) (N7 n f) us) 3)]) []):nxX jT n f (N6 n f) (N7 n f) us d K:=by
 have e1:jT (CA (Is n f (N6 n f) (N7 n f) us) 1) (n+2)=crC n f:=by
  unfold crC;rw[yf (n+2) (afT h f _ _ us),show 3+n-1=n+2 by omega]
 have e2:=amG (aan (Ek (bI 3 (gT [165,1,n]) f) 1) (3+n-1));have hn:0<n/\n<=9:=by unfold Fa at h;omega
 refine⟨trivial,aU (λe=>?_) (λ_=>⟨⟨hn.1,by omega,by omega⟩,hK⟩)⟩;rw[e1]at e;have:(bits .or .u16 (u16.wrap (u16.wrap (N6 n f)*2^8)) (u16.wrap (N7 n f)))=crC n f:=e2;rw[this]at e;simp at e
theorem afU (r:Sd.Reply):Fa (fL r):=UN r
theorem afV {n c:Nat} {f g:Nat->Int} (h:∀j,j<n->f j=g j):dc n f c=dc n g c:=by
 have e:eE n f=eE n g:=List.map_congr_left λj hj=>by rw[h j (List.mem_range.1 hj)]
 unfold dc;rw[e]
theorem aaq {ids:List Nat} (n:Nat) (f:Nat->Int) (hi lo:Int) (us:List Value):ab ids (Is n f hi lo us)=(nxI n f hi lo).map (λx=>Value.int .u8 x)++us:=by
 unfold Is;generalize nxI n f hi lo=l;induction l with
 |nil=>simp only[List.map_nil,List.nil_append,ab,cl,List.append_nil]
 |cons x l ih=>simp only[List.map_cons,List.cons_append,ab,cl,den,ih,List.nil_append]
theorem UU {n:Nat} (hn:Fa n) (f:Nat->Int) {w:World} {b c:Nat} (hc:n+5<=c) (ba:w.heap[b]?=some (.cells (dc (n+5) (pI n f) c) 5 (0,0))):
 aj prog 48 #[.slice (some ⟨b,0,none⟩) (n+5) c] w λv w'=>∃b2 e,v=.agg #[.int .i64 2,.int .i64 ((n+5:Nat):Int),.int .i64 0,.slice (some ⟨b2,0,none⟩) n (n+e)]/\w.heap.size<=b2/\w'.heap[b2]?=some (.cells (dc n f (n+e)) 5 (0,0))/\Ch [] w w':=by
 obtain⟨d,rfl⟩:∃d,c=d+(n+5):=⟨c-(n+5),by omega⟩
 let us:List Value:=List.replicate (d+(n+5)-(n+5)) (.int .u8 0)
 have S:St [] w (lits [b] [b] (xz n f (N6 n f) (N7 n f) us)++af ([]:List Empty) []) w:=by
  refine St.K2 ?_;intro y hy;simp only[xz,lits,af,List.append_nil,List.mem_cons,List.not_mem_nil,or_false]at hy;subst hy;refine⟨rfl,ba.trans ?_⟩;simp only[aE,aaq,<-UT hn f];unfold dc eE;rw[List.map_map];rfl
 have fU:Hd (nxV jT n f (N6 n f) (N7 n f) us d λv bl _=>∃e,v=.agg [.int .i64 2,.int .i64 ((n+5:Nat):Int),.int .i64 0,.sl 1 0 n (n+e)]/\bl=xz n f (N6 n f) (N7 n f) us++[dF n e (CA (Is n f (N6 n f) (N7 n f) us) 3)]):=⟨by
  rw[afS hn];exact aap hn f us d λe=>⟨e,rfl,rfl⟩⟩
 have hok:ai (G:=Empty) prog gv (qL Empty [UE jT]):=f_ (aZ.cons (aac _) aZ.nil);refine(bw (C:=mL prog gv (qL Empty [UE jT]) (N3 prog) vE) hok.T hok.Q 60 (ids:=[b]) (λg i h=>by cases h) rfl S fU.h).mono ?_;rintro v w' ⟨y,more,bl',ch',rfl,h1,S',hK⟩;obtain⟨v2,aP,bl2,zJ,gx,S2,e,rfl,rfl⟩:=c9 (n0:=1) h1 (by simp) S' hK;have ht:List.take 1 ([b]++more)=[b]:=rfl;rw[ht]at zJ gx S2;have hm:aP.length=1:=by simpa[xz]using gx
 match aP,hm with
 |[x],_=>
  have va:aE ([b]++[x]) x (dF n e (CA (Is n f (N6 n f) (N7 n f) us) 3))=⟨x,true,.cells (dc n f (n+e)) 5 (0,0)⟩:=by
   unfold aE;rw[jC,afV (aao hn f _ _ us)];rfl
  have S3:St [] w ([aE ([b]++[x]) b ⟨false,⟨5,(0,0)⟩,Is n f (N6 n f) (N7 n f) us⟩,aE ([b]++[x]) x (dF n e (CA (Is n f (N6 n f) (N7 n f) us) 3))]++af ch' []) w':=S2;rw[va]at S3;refine⟨x,e,?_,(S3.own 1 _ rfl rfl).resolve_left (by simp),S3.at_ 1 _ rfl,S3.ch⟩;rw[zJ];rfl
end Go.Proofs.YtggfpcggakghnaaGreatDoor
