/- Part 27 of the proof. -/
import Derived.Test.YtlkpikfddnjilaaGreatDoorE26
set_option linter.all false
set_option maxRecDepth 100000
set_option maxHeartbeats 4000000
open Go.Proofs.Tryz
open Go.IntKind (u8 u16 u32 u64 i64)
namespace Go.Proofs.YtlkpikfddnjilaaGreatDoor
open Go Go.RowKit Go.WideShapes Sd
def Ip (W:World) (a:Option Addr) (n c:Nat):Prop:=n<=c/\((a=none/\n=0/\c=0)\/∃x,a=some x/\(c:Int)<=i64.max/\W.has prog .any 0 x 5 c)
theorem pF {W:World} {v:Value} {t e:TypeId} (hu:prog.underlying t=some (.slice e)) (h:Cell.okWide prog W .any 0 t v):
 ∃a n c,v=.slice a n c/\n<=c/\((a=none/\n=0/\c=0)\/∃x,a=some x/\(c:Int)<=i64.max/\W.has prog .any 0 x e c):=by
 unfold Cell.okWide at h;rw[hu]at h;cases v with
 |slice a n c=>
  unfold Cell.ok at h;rw[hu]at h;cases a with
  |none=>
   cases n<;>cases c<;>first|exact⟨_,_,_,rfl,by omega,Or.inl ⟨rfl,rfl,rfl⟩⟩|(simp at h)
  |some a=>exact⟨_,_,_,rfl,h.1,Or.inr ⟨a,rfl,h.2⟩⟩
 |_=>unfold Cell.ok at h;rw[hu]at h;simp at h
theorem Rc {W:World} {v:Value} (hv:Value.okWide prog W .any 0 28 v):
 ∃(q:Nat->Int) (ka:Nat->Option Addr) (kn kc:Nat->Nat),v=.agg (Fa q ka kn kc)/\(∀i,-9223372036854775808<=q i/\q i<=9223372036854775807)/\∀i,i<4->Ip W (ka i) (kn i) (kc i):=by
 obtain⟨cs,rfl,iZ,GN⟩:=Gw Tryz.underlying28 rfl (ts:=[3,3,3,3,3,23,23,23,23,3,3,3,3,3,3,3,3,3,3,3,3,3,3,3,3,3,3,3,3,3,3,3,3,3,3,3,3,3,3,3,3,3,3,3,3,3,3,3,3,3,3,3,3,3,3,3]) (by kernel_rfl) (by kernel_rfl) hv;have cD:∀i,i<56->∃x,cs[i]?=some x:=λi hi=>⟨cs[i]'(by rw[iZ];exact hi),by rw[Array.getElem?_eq_getElem]⟩;have hI:∀i,i<56->(i<5\/8<i)->∃n,cs[i]?=some (.int .i64 n)/\I64 n:=by
  intro i hi fc;obtain⟨x,hx⟩:=cD i hi;have ht:([3,3,3,3,3,23,23,23,23,3,3,3,3,3,3,3,3,3,3,3,3,3,3,3,3,3,3,3,3,3,3,3,3,3,3,3,3,3,3,3,3,3,3,3,3,3,3,3,3,3,3,3,3,3,3,3]:List Nat)[i]?=some 3:=by clear hx;revert i;decide
  obtain⟨n,rfl,hn⟩:=Rb Tryz.underlying3 (GN i x 3 hx ht);exact⟨n,hx,hn⟩
 have hS:∀i,i<4->∃a n c,cs[5+i]?=some (.slice a n c)/\Ip W a n c:=by
  intro i hi;obtain⟨x,hx⟩:=cD (5+i) (by omega);have ht:([3,3,3,3,3,23,23,23,23,3,3,3,3,3,3,3,3,3,3,3,3,3,3,3,3,3,3,3,3,3,3,3,3,3,3,3,3,3,3,3,3,3,3,3,3,3,3,3,3,3,3,3,3,3,3,3]:List Nat)[5+i]?=some 23:=by clear hx;revert i;decide
  obtain⟨a,n,c,rfl,h1,h2⟩:=pF Tryz.underlying23 (GN (5+i) x 23 hx ht);exact⟨a,n,c,hx,h1,h2⟩
 let q:Nat->Int:=λi=>match cs[i]?with|some (.int _ n)=>n|_=>0
 let ka:Nat->Option Addr:=λi=>match cs[5+i]?with|some (.slice a _ _)=>a|_=>none
 let kn:Nat->Nat:=λi=>match cs[5+i]?with|some (.slice _ n _)=>n|_=>0
 let kc:Nat->Nat:=λi=>match cs[5+i]?with|some (.slice _ _ c)=>c|_=>0
 have hq:∀i,i<56->(i<5\/8<i)->cs[i]?=some (.int .i64 (q i))/\I64 (q i):=by
  intro i hi fc;obtain⟨n,hx,hn⟩:=hI i hi fc;have:q i=n:=by simp only[q,hx]
  rw[this];exact⟨hx,hn⟩
 have hk:∀i,i<4->cs[5+i]?=some (.slice (ka i) (kn i) (kc i))/\Ip W (ka i) (kn i) (kc i):=by
  intro i hi;obtain⟨a,n,c,hx,hn⟩:=hS i hi;have h1:ka i=a:=by simp only[ka,hx]
  have h2:kn i=n:=by simp only[kn,hx]
  have h3:kc i=c:=by simp only[kc,hx]
  rw[h1,h2,h3];exact⟨hx,hn⟩
 refine⟨q,ka,kn,kc,?_,?_,λi hi=>(hk i hi).2⟩
 ·congr 1;apply Array.ext_getElem?;intro i;by_cases hi:i<56
  ·match i,hi with
   |0,_=>exact(hq 0 (by omega) (by omega)).1.trans rfl
   |1,_=>exact(hq 1 (by omega) (by omega)).1.trans rfl
   |2,_=>exact(hq 2 (by omega) (by omega)).1.trans rfl
   |3,_=>exact(hq 3 (by omega) (by omega)).1.trans rfl
   |4,_=>exact(hq 4 (by omega) (by omega)).1.trans rfl
   |5,_=>exact(hk 0 (by omega)).1.trans rfl
   |6,_=>exact(hk 1 (by omega)).1.trans rfl
   |7,_=>exact(hk 2 (by omega)).1.trans rfl
   |8,_=>exact(hk 3 (by omega)).1.trans rfl
   |9,_=>exact(hq 9 (by omega) (by omega)).1.trans rfl
   |10,_=>exact(hq 10 (by omega) (by omega)).1.trans rfl
   |11,_=>exact(hq 11 (by omega) (by omega)).1.trans rfl
   |12,_=>exact(hq 12 (by omega) (by omega)).1.trans rfl
   |13,_=>exact(hq 13 (by omega) (by omega)).1.trans rfl
   |14,_=>exact(hq 14 (by omega) (by omega)).1.trans rfl
   |15,_=>exact(hq 15 (by omega) (by omega)).1.trans rfl
   |16,_=>exact(hq 16 (by omega) (by omega)).1.trans rfl
   |17,_=>exact(hq 17 (by omega) (by omega)).1.trans rfl
   |18,_=>exact(hq 18 (by omega) (by omega)).1.trans rfl
   |19,_=>exact(hq 19 (by omega) (by omega)).1.trans rfl
   |20,_=>exact(hq 20 (by omega) (by omega)).1.trans rfl
   |21,_=>exact(hq 21 (by omega) (by omega)).1.trans rfl
   |22,_=>exact(hq 22 (by omega) (by omega)).1.trans rfl
   |23,_=>exact(hq 23 (by omega) (by omega)).1.trans rfl
   |24,_=>exact(hq 24 (by omega) (by omega)).1.trans rfl
   |25,_=>exact(hq 25 (by omega) (by omega)).1.trans rfl
   |26,_=>exact(hq 26 (by omega) (by omega)).1.trans rfl
   |27,_=>exact(hq 27 (by omega) (by omega)).1.trans rfl
   |28,_=>exact(hq 28 (by omega) (by omega)).1.trans rfl
   |29,_=>exact(hq 29 (by omega) (by omega)).1.trans rfl
   |30,_=>exact(hq 30 (by omega) (by omega)).1.trans rfl
   |31,_=>exact(hq 31 (by omega) (by omega)).1.trans rfl
   |32,_=>exact(hq 32 (by omega) (by omega)).1.trans rfl
   |33,_=>exact(hq 33 (by omega) (by omega)).1.trans rfl
   |34,_=>exact(hq 34 (by omega) (by omega)).1.trans rfl
   |35,_=>exact(hq 35 (by omega) (by omega)).1.trans rfl
   |36,_=>exact(hq 36 (by omega) (by omega)).1.trans rfl
   |37,_=>exact(hq 37 (by omega) (by omega)).1.trans rfl
   |38,_=>exact(hq 38 (by omega) (by omega)).1.trans rfl
   |39,_=>exact(hq 39 (by omega) (by omega)).1.trans rfl
   |40,_=>exact(hq 40 (by omega) (by omega)).1.trans rfl
   |41,_=>exact(hq 41 (by omega) (by omega)).1.trans rfl
   |42,_=>exact(hq 42 (by omega) (by omega)).1.trans rfl
   |43,_=>exact(hq 43 (by omega) (by omega)).1.trans rfl
   |44,_=>exact(hq 44 (by omega) (by omega)).1.trans rfl
   |45,_=>exact(hq 45 (by omega) (by omega)).1.trans rfl
   |46,_=>exact(hq 46 (by omega) (by omega)).1.trans rfl
   |47,_=>exact(hq 47 (by omega) (by omega)).1.trans rfl
   |48,_=>exact(hq 48 (by omega) (by omega)).1.trans rfl
   |49,_=>exact(hq 49 (by omega) (by omega)).1.trans rfl
   |50,_=>exact(hq 50 (by omega) (by omega)).1.trans rfl
   |51,_=>exact(hq 51 (by omega) (by omega)).1.trans rfl
   |52,_=>exact(hq 52 (by omega) (by omega)).1.trans rfl
   |53,_=>exact(hq 53 (by omega) (by omega)).1.trans rfl
   |54,_=>exact(hq 54 (by omega) (by omega)).1.trans rfl
   |55,_=>exact(hq 55 (by omega) (by omega)).1.trans rfl
   |i+56,h=>exact absurd h (by omega)
  ·rw[Array.getElem?_eq_none (by rw[iZ];exact Nat.le_of_not_lt hi),Array.getElem?_eq_none (Nat.le_of_not_lt hi)]
 ·intro i;by_cases hi:i<56/\(i<5\/8<i)
  ·exact(hq i hi.1 hi.2).2
  ·have:q i=0:=by
    by_cases h5:i<56
    ·obtain⟨a,n,c,hx,_⟩:=hS (i-5) (by omega);rw[show 5+(i-5)=i by omega]at hx;simp only[q,hx]
    ·have hx:cs[i]?=none:=Array.getElem?_eq_none (by rw[iZ];exact Nat.le_of_not_lt h5);simp only[q,hx]
   rw[this];omega
end Go.Proofs.YtlkpikfddnjilaaGreatDoor
namespace Go.Proofs.YtlkpikfddnjilaaGreatDoor
open Go Go.RowKit Go.WideShapes Sd Sx
theorem Re {W:World} {a:Option Addr} {m c:Nat} (gb:∀n,Rd prog W n 23 [.slice a m c]) (hk:Ip W a m c):∃kb:Nat->Int,Pe [] W a m c kb:=by
 obtain⟨h1,h2⟩:=hk;rcases h2 with⟨e1,e2,e3⟩|⟨x,e1,hc,hh⟩
 ·exact⟨λ_=>0,h1,λ_=>⟨e2,e3⟩,λad ha=>by rw[e1]at ha;cases ha⟩
 ·rcases wv Tryz.underlying23 gb (z:=1) (by kernel_rfl) 5 (ts:=[5]) (by kernel_rfl)with h0|⟨a',afS,afT,h0,_,_,C,hC⟩
  ·rw[e1]at h0;simp at h0
  ·rw[e1]at h0;simp only[Value.slice.injEq,Option.some.injEq]at h0;obtain⟨rfl,rfl,rfl⟩:=h0;refine⟨λj=>match C j 0 with|.int _ n=>n|_=>0,h1,λh=>(by rw[e1]at h;cases h),λad ha=>⟨by simp,λj hj=>?_⟩⟩;rw[e1]at ha;obtain rfl:=Option.some.inj ha;obtain⟨h3,h4⟩:=hC j (by omega) 0 (by omega);obtain⟨n,h5,_⟩:=wu Tryz.underlying5 (h4 _ rfl);simp only[h5]at h3⊢;simpa using h3
theorem KC {W:World} {v:Value} (hv:Value.okWide prog W .any 0 28 v) (hr:∀n,Rd prog W n 28 v.cells.toList):
 ∃(q:Nat->Int) (ka:Nat->Option Addr) (kn kc:Nat->Nat) (kb:Nat->Nat->Int),v=.agg (Fa q ka kn kc)/\(∀i,-9223372036854775808<=q i/\q i<=9223372036854775807)/\∀i,i<4->Pe [] W (ka i) (kn i) (kc i) (kb i):=by
 obtain⟨q,ka,kn,kc,rfl,hq,hk⟩:=Rc hv;have key:∀i,i<4->∃kb:Nat->Int,Pe [] W (ka i) (kn i) (kc i) kb:=by
  intro i hi;have gb:∀n,Rd prog W n 23 [.slice (ka i) (kn i) (kc i)]:=by
   have h5:(Fa q ka kn kc)[5+i]?=some (.slice (ka i) (kn i) (kc i)):=by
    match i,hi with
    |0,_=>rfl
    |1,_=>rfl
    |2,_=>rfl
    |3,_=>rfl
    |i+4,h=>exact absurd h (by omega)
   have AR:cellAt prog 6 28 (5+i)=some 23:=by
    have e:i=0\/i=1\/i=2\/i=3:=by omega
    rcases e with rfl|rfl|rfl|rfl
    ·show cellAt prog 6 28 5=some 23;kernel_rfl
    ·show cellAt prog 6 28 6=some 23;kernel_rfl
    ·show cellAt prog 6 28 7=some 23;kernel_rfl
    ·show cellAt prog 6 28 8=some 23;kernel_rfl
   exact ry 6 (P:=prog) (w:=W) (t:=28) (cs:=(Fa q ka kn kc).toList) (j:=5+i) hr AR (by simpa using h5)
  exact Re gb (hk i hi)
 obtain⟨kb,hkb⟩:=Deep.choose_lt key;exact⟨q,ka,kn,kc,kb,rfl,hq,hkb⟩
end Go.Proofs.YtlkpikfddnjilaaGreatDoor
namespace Go.Proofs.YtlkpikfddnjilaaGreatDoor
open Go Go.RowKit Go.BigFrame Go.WideShapes Go.ChangeShapes Sd Sx Vx
section
variable{H:Type} {enc:TypeId×Value->H} {P:Program} {w:World} {base:Nat} {spare:Nat->Bool} {held:Bool} {fuel:Nat} {t e:TypeId} {cs:List Value} {ps:List MemPlace}
theorem Rf {zs:List Bool} (ht:P.underlying t=some (.array zs.length e)) (he:P.underlying e=some .bool) (hc:P.cellsOf e=1) (hn:P.cellsOf t=zs.length)
 (h:DataW.trod enc P w base spare held fuel t cs=some (.agg (zs.map λz=>.lit (.bool z)),ps)):cs=zs.map Value.bool:=by
 obtain⟨xs,m,rfl,hx,hlen,RQ,GW⟩:=DataW.trod_array ht h;simp only[Prod.mk.injEq,DataW.agg.injEq]at hx;rw[hn]at hlen;apply List.ext_getElem?;intro i;by_cases hi:i<zs.length
 ·have h1:=GW i hi;rw[hc,Nat.mul_one,List.getElem?_eq_getElem (by omega)]at h1;obtain⟨z,e1,e2⟩:=DataW.trod_bool he h1;have h3:(zs.map λz=>(DataW.lit (.bool z):DataW H))[i]?=(xs.map (·.1))[i]?:=by rw[hx.1]
  rw[List.getElem?_map,List.getElem?_map,List.getElem?_eq_getElem hi,List.getElem?_eq_getElem (by omega),Option.map_some,Option.map_some]at h3;have e3:=congrArg Prod.fst e2;rw[e3]at h3;simp at h3;rw[Im e1,List.getElem?_map,List.getElem?_eq_getElem hi,Option.map_some,h3]
 ·rw[List.getElem?_eq_none (by omega),List.getElem?_eq_none (by simp;omega)]
end
def Iq:List Bool:=[false,false,false,false,false,false,false,false,false,false,true,true]
theorem Wv {W:World} (h:laidMetH prog Q8 W):∃t,W.heap[2]?=some (.cells #[.bool false,.bool false,.bool false,.bool false,.bool false,.bool false,.bool false,.bool false,.bool false,.bool false,.bool true,.bool true] t (0,0)):=by
 rw[MakeChecks.laidMetH_plain _ _ _ (by kernel_rfl)]at h;obtain⟨ps,⟨g0,t0,cs0,f0,p0,q0,hg0,ht0,XJ,hd0,⟨g1,t1,cs1,f1,p1,q1,hg1,ht1,Rp,hd1,_,hq⟩,Mo⟩,_,gb⟩:=h;obtain rfl:g0=2:=Option.some.inj (hg0.symm.trans (show prog.globalNamed "sidestick/gate.commands" =some 2 by kernel_rfl));have e1:(prog.globals[2]?).map (·.type)=some 273:=by kernel_rfl
 obtain rfl:t0=273:=Option.some.inj (ht0.symm.trans e1);have GN:cs0.toList=Iq.map Value.bool:=by
  have hd2:DataW.trod (λ_=>()) prog W 0 (λ_=>true) false f0 273 cs0.toList=some (.agg (Iq.map λz=>.lit (.bool z)),p0):=
   hd0.trans (congrArg (λd=>some (d,p0)) (show(Rows.laid_sidestick_gate_commands:DataW Unit)=.agg (Iq.map λz=>.lit (.bool z)) by kernel_rfl))
  exact Rf (zs:=Iq) (e:=4) (by kernel_rfl) (by kernel_rfl) (by kernel_rfl) (by kernel_rfl) hd2
 obtain⟨t,f,cD⟩:=Io (show prog.globalNamed "sidestick/gate.commands" =some 2 by kernel_rfl) XJ;have Yb:cs0=#[.bool false,.bool false,.bool false,.bool false,.bool false,.bool false,.bool false,.bool false,.bool false,.bool false,.bool true,.bool true]:=by
  apply Array.ext';rw[GN];rfl
 obtain⟨c,t',XR⟩:=(gb 2 0 (by
  rw[Mo,Yb];have:MemPlace.cell 2 0∈MemPlace.row ⟨2,0,none⟩ 12:=by
   simp[MemPlace.row]
  exact List.mem_append_left _ (List.mem_append_left _ this))).1
 rw[cD]at XR;simp only[Option.some.injEq,Obj.cells.injEq]at XR;refine⟨t,?_⟩;rw[cD,Yb,XR.2.2]
theorem Ir {W:World} {v:Value} (h:∀n,Rd prog W n 23 [v]):∃a n c,v=.slice a n c/\eE W a n c (dt W a):=by
 rcases wv Tryz.underlying23 h (z:=1) (by kernel_rfl) 5 (ts:=[5]) (by kernel_rfl)with rfl|⟨a,len,cap,rfl,hle,_,C,hC⟩
 ·exact⟨none,0,0,rfl,Nat.le_refl _,λ_=>⟨rfl,rfl⟩,λx e=>nomatch e⟩
 ·have hb:∀j,j<len->∃n,C j 0=.int .u8 n/\0<=n/\n<=255:=λj hj=>by
   obtain⟨n,h5,h6⟩:=wu Tryz.underlying5 ((hC j (by omega) 0 (by omega)).2 _ rfl);exact⟨n,h5,by simpa[IntKind.min,IntKind.max,IntKind.signed,IntKind.bits]using h6⟩
  refine⟨some a,len,cap,rfl,abq (f:=λj=>match C j 0 with|.int _ n=>n|_=>0) ⟨hle,(λe=>nomatch e),λx e j hj=>?_⟩ λj hj=>?_⟩
  ·obtain rfl:=Option.some.inj e;obtain⟨n,h5,_⟩:=hb j hj;have h3:=(hC j (by omega) 0 (by omega)).1;simp only[h5]at h3⊢;simpa using h3
  ·obtain⟨n,h5,h6⟩:=hb j hj;simp only[h5];exact h6
theorem Rg {W:World} {v:Value} (gb:Cell.okWide prog W .any 0 29 v) (hrd:∀k,Rd prog W k 29 [v]) {cs0:Array Value} {t0:TypeId} {f0:Nat×Nat} (h0:W.heap[0]?=some (.cells cs0 t0 f0)):
 ∃(os:Nat->AI) (i o n c:Nat) (a:Option Addr) (ty:BT) (pre post:List Value),s9 W v 11 (Wb os) i o n c a ty pre post/\QY W os n:=by
 have z4:Sd.DL ⟨0,0,0,0⟩:=Sd.x40
 let od:AI:=⟨0,0,0,none,0,0,⟨false,⟨0,0,0,0⟩,false⟩,false⟩
 obtain⟨a,m,c,rfl,hmc,ho⟩:=pF Tryz.underlying29 gb;rcases ho with⟨rfl,rfl,rfl⟩|⟨x,rfl,aiZ,afW⟩
 ·exact⟨λ_=>od,0,0,0,0,none,_,[],_,s9.nil h0,λj hj=>absurd hj (by omega),λ_=>z4,λj hj=>absurd hj (by omega)⟩
 obtain⟨bk,off,spot⟩:=x;obtain rfl:spot=none:=afW.2.1;obtain⟨row,cells,hsh,_⟩:=afW.2.2;have ahY:∃cs t f,W.heap[bk]?=some (.cells cs t f):=by
  unfold World.shape? at hsh;split at hsh
  ·rename_i cs t f hh;exact⟨cs,t,f,hh⟩
  ·cases hsh
 obtain⟨cs,t,f,cD⟩:=ahY;rcases wv Tryz.underlying29 hrd (z:=11) rfl 5 (ts:=[5,3,33,23,4,3,3,3,3,4,4])with h0'|⟨a',afS,afT,h0',_,_,C,hC⟩
 ·simp at h0'
 simp only[Value.slice.injEq,Option.some.injEq]at h0';obtain⟨rfl,rfl,rfl⟩:=h0'
 let num:Value->Int:=λv=>match v with|.int _ n=>n|_=>0
 let tv:Value->Bool:=λv=>match v with|.bool b=>b|_=>false
 let sa:Value->Option Addr:=λv=>match v with|.slice a _ _=>a|_=>none
 let sn:Value->Nat:=λv=>match v with|.slice _ n _=>n|_=>0
 let sc:Value->Nat:=λv=>match v with|.slice _ _ c=>c|_=>0
 have hB:∀k,k<c->C k 3=.slice (sa (C k 3)) (sn (C k 3)) (sc (C k 3))/\eE W (sa (C k 3)) (sn (C k 3)) (sc (C k 3)) (dt W (sa (C k 3))):=λk hk=>by
  obtain⟨a,n,c',e,h⟩:=Ir ((hC k hk 3 (by omega)).2 _ rfl);rw[e];exact⟨rfl,h⟩
 have hI:∀k,k<c->∀j,(j=1\/j=5\/j=6\/j=7\/j=8)->C k j=.int .i64 (num (C k j))/\Sd.Bd (num (C k j)):=λk hk j hj=>by
  have ht:([5,3,33,23,4,3,3,3,3,4,4]:List Nat)[j]?=some 3:=by
   rcases hj with rfl|rfl|rfl|rfl|rfl<;>rfl
  obtain⟨n,h1,h2⟩:=wu Tryz.underlying3 ((hC k hk j (by omega)).2 _ ht);rw[h1];refine⟨rfl,?_⟩;have h3:-9223372036854775808<=n/\n<=9223372036854775807:=by simpa[IntKind.min,IntKind.max,IntKind.signed,IntKind.bits]using h2
  exact h3
 have hE:∀k,k<c->C k 2=.int .i64 (num (C k 2)):=λk hk=>by
  obtain⟨n,h1,_⟩:=wu Tryz.underlying33 ((hC k hk 2 (by omega)).2 _ rfl);rw[h1]
 have hK:∀k,k<c->C k 0=.int .u8 (num (C k 0))/\0<=num (C k 0):=λk hk=>by
  obtain⟨n,h1,h2⟩:=wu Tryz.underlying5 ((hC k hk 0 (by omega)).2 _ rfl);rw[h1];have h3:0<=n/\n<=255:=by simpa[IntKind.min,IntKind.max,IntKind.signed,IntKind.bits]using h2
  exact⟨rfl,h3.1⟩
 have hT:∀k,k<c->∀j,(j=4\/j=9\/j=10)->C k j=.bool (tv (C k j)):=λk hk j hj=>by
  have ht:([5,3,33,23,4,3,3,3,3,4,4]:List Nat)[j]?=some 4:=by
   rcases hj with rfl|rfl|rfl<;>rfl
  obtain⟨n,h1⟩:=Wt Tryz.underlying4 ((hC k hk j (by omega)).2 _ ht);rw[h1]
 let os:Nat->AI:=λk=>if k<c then⟨num (C k 0),num (C k 1),num (C k 2),sa (C k 3),sn (C k 3),sc (C k 3),⟨tv (C k 4),⟨num (C k 5),num (C k 6),num (C k 7),num (C k 8)⟩,tv (C k 9)⟩,tv (C k 10)⟩else od
 have hos:∀k,k<c->os k=⟨num (C k 0),num (C k 1),num (C k 2),sa (C k 3),sn (C k 3),sc (C k 3),⟨tv (C k 4),⟨num (C k 5),num (C k 6),num (C k 7),num (C k 8)⟩,tv (C k 9)⟩,tv (C k 10)⟩:=λk hk=>if_pos hk;have wK:∀q:Nat,(⟨bk,off,none⟩:Addr).add q=⟨bk,off+q,none⟩:=λq=>by
  by_cases hq:q=0
  ·subst hq;rfl
  ·simp[Addr.add,hq]
 have AR:∀k,k<m->∀j,j<11->W.cell? ⟨bk,off+k*11+j,none⟩=(Wb os k)[j]?:=by
  intro k hk j hj;have wM:k<c:=by omega
  have h1:W.cell? ⟨bk,off+k*11+j,none⟩=some (C k j):=by
   have:=(hC k wM j hj).1;rw[wK]at this;rw[Nat.add_assoc];exact this
  rw[h1];have e:Wb os k=[.int .u8 (num (C k 0)),.int .i64 (num (C k 1)),.int .i64 (num (C k 2)),.slice (sa (C k 3)) (sn (C k 3)) (sc (C k 3)),.bool (tv (C k 4)),.int .i64 (num (C k 5)),.int .i64 (num (C k 6)),.int .i64 (num (C k 7)),.int .i64 (num (C k 8)),.bool (tv (C k 9)),.bool (tv (C k 10))]:=by
   unfold Wb;rw[hos k wM];rfl
  rw[e]
  match j,hj with
  |0,_=>rw[(hK k wM).1];rfl
  |1,_=>rw[(hI k wM 1 (by omega)).1];rfl
  |2,_=>rw[hE k wM];rfl
  |3,_=>rw[(hB k wM).1];rfl
  |4,_=>rw[hT k wM 4 (by omega)];rfl
  |5,_=>rw[(hI k wM 5 (by omega)).1];rfl
  |6,_=>rw[(hI k wM 6 (by omega)).1];rfl
  |7,_=>rw[(hI k wM 7 (by omega)).1];rfl
  |8,_=>rw[(hI k wM 8 (by omega)).1];rfl
  |9,_=>rw[hT k wM 9 (by omega)];rfl
  |10,_=>rw[hT k wM 10 (by omega)];rfl
  |j+11,h=>omega
 obtain⟨pre,post,hR⟩:=s9.some (z:=11) (g:=Wb os) hmc (λj=>Ia os j) cD AR (by decide);refine⟨os,bk,off,m,c,_,_,pre,post,hR,λj hj=>?_,λj=>?_,λj hj=>?_⟩
 ·rw[hos j (by omega)];exact(hB j (by omega)).2
 rotate_left
 ·rw[hos j (by omega)];exact(hK j (by omega)).2
 ·by_cases hj:j<c
  ·rw[hos j hj];exact⟨(hI j hj 5 (by omega)).2,(hI j hj 6 (by omega)).2,(hI j hj 7 (by omega)).2,(hI j hj 8 (by omega)).2⟩
  ·have:os j=od:=if_neg hj;rw[this];exact z4
theorem KD {W:World} {v:Value} (hv:Value.okWide prog W .any 0 28 v) (hr:∀n,Rd prog W n 28 v.cells.toList):
 ∃(q:Nat->Int) (ka:Nat->Option Addr) (kn kc:Nat->Nat),v=.agg (ta ⟨q,λ_=>(0,λ_=>0)⟩ ka kn kc).toArray/\∀j,j<4->eE W (ka j) (kn j) (kc j) (dt W (ka j)):=by
 obtain⟨q,ka,kn,kc,kb,rfl,hq,hk⟩:=KC hv hr;refine⟨q,ka,kn,kc,rfl,λj hj=>?_⟩;have gb:∀n,Rd prog W n 23 [.slice (ka j) (kn j) (kc j)]:=by
  have h5:(Fa q ka kn kc)[5+j]?=some (.slice (ka j) (kn j) (kc j)):=by
   match j,hj with
   |0,_=>rfl
   |1,_=>rfl
   |2,_=>rfl
   |3,_=>rfl
   |j+4,h=>exact absurd h (by omega)
  have AR:cellAt prog 6 28 (5+j)=some 23:=by
   have e:j=0\/j=1\/j=2\/j=3:=by omega
   rcases e with rfl|rfl|rfl|rfl
   ·show cellAt prog 6 28 5=some 23;kernel_rfl
   ·show cellAt prog 6 28 6=some 23;kernel_rfl
   ·show cellAt prog 6 28 7=some 23;kernel_rfl
   ·show cellAt prog 6 28 8=some 23;kernel_rfl
  exact ry 6 (P:=prog) (w:=W) (t:=28) (cs:=(Fa q ka kn kc).toList) (j:=5+j) hr AR (by simpa using h5)
 obtain⟨a,n,c,e,h⟩:=Ir gb;simp only[Value.slice.injEq]at e;obtain⟨rfl,rfl,rfl⟩:=e;exact h
end Go.Proofs.YtlkpikfddnjilaaGreatDoor
namespace Go.Proofs.YtlkpikfddnjilaaGreatDoor
open Go Go.RowKit Go.BigFrame Sx Vx
variable{fr:Sd.Reply->Nat×Sd.Byt}
def ajk (P:Program):(Operand->V)->Op->List VB->List (LG fr)->VK (LG fr)->Prop:=λe op bl ch K=>match op with
 |.buildSlice t 0 ps=>(match ps.toList,P.underlying t with
  |[],some (.slice T)=>(match kY P T,j9 P T with
   |some (z+1),some zc=>cond (Nat.beq (fb zc) (z+1)) (∀r:aO,r.T=T->r.z=z+1->r.os=[]->r.n=0->K r.v bl (ch++[.row r])) False
   |_,_=>False)
  |_,_=>False)
 |.call c=>(match c.callee,c.args.toList,c.argTypes.toList with
  |.builtin .append,[s,xs],[t,tx]=>(match P.underlying t,P.underlying tx with
   |some (.slice T),some (.slice _)=>(match kg P T,e xs,ch with
    |some (z,eJ),.je i 0 m cc x,.gh u::.core g fB::.row r::rest=>(match bl[i]?with
     |some ⟨_,_,[.fY z' m' f,.rest _]⟩=>cond (Nat.beq z z'&&Nat.ble eJ 10000000)
      ((e s=r.v/\r.T=T/\r.z=z/\m'=m/\(∀j,(f j).length=z)/\(∀j u,u∈f j->u.oneCell'=true)/\r.n+m<=1000000)/\
        ∀r2:aO,r2.T=r.T->r2.z=r.z->r2.os=r.os++(List.range m).flatMap f->r2.n=r.n+m->K r2.v bl (.gh u::.core g fB::.row r2::rest)) False
     |_=>False)
    |_,_,_=>False)
   |_,_=>False)
  |_,_,_=>False)
 |_=>False
theorem ju {z:Nat} {f:Nat->List Value} (h:∀j,(f j).length=z):∀m,((List.range m).flatMap f).length=m*z
 |0=>by simp
 |m+1=>by rw[List.range_succ,List.flatMap_append,List.length_append,ju h m];simp[h,Nat.add_mul]
theorem lgB (u:World) (g:Gh fr) (fB:List aC) (r:aO) (rest:List (LG fr)) (R:List aC):ak (LG.gh u::LG.core g fB::LG.row r::rest) R=(fu u++(g.F.B++fB))++(r.bl++ak rest R):=by
 show fu u++((g.F.B++fB)++(r.bl++ak rest R))=_;simp only[List.append_assoc]
theorem ajb {P:Program} {gl:Nat->Option Nat}:wD P gl (ajk (fr:=fr) P):=by
 intro e op ids bl ch R ms w0 w K ρ o hg hl S cX ho h;unfold ajk at h;split at h
 ·rename_i t ps;split at h
  ·rename_i T Mo hu;split at h
   ·rename_i z zc hz hzc;cases hq:Nat.beq (fb zc) (z+1)with
    |false=>rw[hq]at h;exact h.elim
    |true=>
     rw[hq]at h;simp only[cond_true]at h;have bO:=uz (P:=P) (ids:=ids) (w:=w) (len:=0) (ps:=[]) (c:=[]) hu hz hzc (Nat.eq_of_beq_eq_true hq) (by simp) rfl
     let r:aO:=⟨T,z+1,[],some ⟨w.heap.size,0,none⟩,0,0,[⟨w.heap.size,true,.cells #[] T (0,0)⟩],by simp,Nat.le_refl _,.inr ⟨w.heap.size,[],rfl,rfl,by simp⟩⟩
     have hn:=S.new (Ch.alloc [] w (.cells #[] T)) (Nat.le_refl _) (heap_alloc_new w _);refine⟨r.v,[],bl,ch++[.row r],w.alloc (.cells #[] T),.inl ?_,by simpa using hl,?_,h r rfl rfl rfl rfl⟩
     ·unfold execOp;have hp0:ps=#[]:=by apply Array.ext';simpa using Mo
      subst hp0;simp only[ho];rw[Sem.run_bind];have h2:(Instr.buildSlice t 0 #[]).run P w=.ok (.slice (some ⟨w.heap.size,0,none⟩) 0 0) (w.alloc (.cells #[] T)):=bO;have h3:((#[]:Array (Nat×Operand)).map λ(x:Nat×Operand)=>match x with|(i,x)=>(i,ρ x))=#[]:=by simp
      rw[h3,h2];rfl
     ·rw[List.append_nil,fL];have e2:ak [LG.row (fr:=fr) r] R=⟨w.heap.size,true,.cells #[] T (0,0)⟩::R:=rfl;rw[e2,cM (_::R) ch];rw[cM R ch]at hn;refine hn.perm ?_;exact di λf=>by simp only[List.countP_append,List.countP_cons];omega
   ·exact h.elim
  ·exact h.elim
 ·rename_i c;split at h
  ·rename_i s xs t tx iC ca nj;split at h
   ·rename_i T T' ht xf;split at h
    ·rename_i z eJ i m cc x u g fB r rest bd tB;split at h
     ·rename_i wr ty z' m' f us hb;cases hq:Nat.beq z z'&&Nat.ble eJ 10000000 with
      |false=>rw[hq]at h;exact h.elim
      |true=>
       rw[hq]at h;simp only[cond_true]at h;simp only[Bool.and_eq_true]at hq;obtain⟨q1,q4⟩:=hq;obtain rfl:=Nat.eq_of_beq_eq_true q1;have q4:=Nat.le_of_ble_eq_true q4;obtain⟨⟨hs,rfl,rfl,rfl,hf,ho1,hn⟩,hK⟩:=h;have hi:(P.info? r.T).map (λi=>(i.zero.map (·.cells.size),i.size,i.bytes))=some (some r.z,r.z,eJ):=by
        unfold kg at bd;split at bd
        ·rename_i inf Ee;split at bd
         ·rename_i v hv;cases SE:Nat.beq v.cells.size inf.size with
          |false=>rw[SE]at bd;simp at bd
          |true=>
           rw[SE]at bd;simp only[cond_true,Option.some.injEq,Prod.mk.injEq]at bd;have:=Nat.eq_of_beq_eq_true SE;simp[Ee,hv,this,bd.1,bd.2]
         ·cases bd
        ·cases bd
       have cD:=(dY hl S hb).2;have hlen:=ju hf m';have Eb:∀u∈(List.range m').flatMap f,u.oneCell'=true:=λu hu=>by
        obtain⟨j,_,hj⟩:=List.mem_flatMap.1 hu;exact ho1 j u hj
       have gj:Src P r.z tx (.slice (bif Nat.beq m' 0 then x else some ⟨ids.getD i 0,0,none⟩) m' cc) m' ((List.range m').flatMap f) w:=by
        by_cases h0:m'=0
        ·subst h0;cases x with
         |none=>exact Src.ofNil w xf cc
         |some a=>exact Src.ofSlice w xf a 0 cc [] (by simp) (λj u hj=>by simp at hj) (λu hu=>by simp at hu)
        ·have hb0:Nat.beq m' 0=false:=by
          cases hb0:Nat.beq m' 0 with
          |false=>rfl
          |true=>exact absurd (Nat.eq_of_beq_eq_true hb0) h0
         rw[hb0];refine Src.ofSlice w xf ⟨ids.getD i 0,0,none⟩ m' cc _ hlen (λj u hj=>?_) Eb;rw[Addr.add_lit,cell_of cD];simp only[ai,cl,List.append_nil];have hjl:j<((List.range m').flatMap f).length:=by
          rcases Nat.lt_or_ge j ((List.range m').flatMap f).length with h|h
          ·exact h
          ·rw[List.getElem?_eq_none h]at hj;cases hj
         rw[List.getElem?_toArray,Nat.zero_add,List.getElem?_append_left hjl];exact hj
       have e1:lits ids ids bl++ak (LG.gh u::LG.core g fB::LG.row r::rest) R=(lits ids ids bl++(fu u++(g.F.B++fB)))++(r.bl++ak rest R):=by
        simp only[lgB,List.append_assoc]
       rw[e1]at S;have Ef:(r.n+m')*eJ<=140737488355328:=Nat.le_trans (Nat.mul_le_mul hn q4) (by decide);obtain⟨v,w',bO,hc,x',c',bl',rfl,wC,SF⟩:=j5 (P:=P) (ty:=o.type) r.h (λy hy=>S.at' (by simp[hy])) eJ gj ht hi Ef (Nat.le_trans hn (by decide));have S2:=S.Lh r.h.wr hc (λy hy=>(SF y hy).1) (λy hy=>(SF y hy).2) wC.pw;refine⟨_,[],bl,_,w',.inl ?_,by simpa using hl,?_,hK ⟨r.T,r.z,_,x',r.n+m',c',bl',wC⟩ rfl rfl rfl rfl⟩
       ·obtain⟨Ru,ar,Bx⟩:=c;simp only at iC ca nj;have e2:ar=#[s,xs]:=by rw[<-ca]
        have e3:Bx=#[t,tx]:=by rw[<-nj]
        subst iC e2 e3;have:=cO (P:=P) (ρ:=ρ) (o:=o) ho (sv:=.slice r.x r.n r.c) (xv:=.slice (bif Nat.beq m' 0 then x else some ⟨ids.getD i 0,0,none⟩) m' cc) (by rw[cX,hs];simp only[aO.v,den]) (by rw[cX,tB];simp only[den]) bO;simpa[den,aO.v]using this
       ·rw[List.append_nil];have e4:lits ids ids bl++ak (LG.gh u::LG.core g fB::LG.row ⟨r.T,r.z,r.os++(List.range m').flatMap f,x',r.n+m',c',bl',wC⟩::rest) R=(lits ids ids bl++(fu u++(g.F.B++fB)))++(bl'++ak rest R):=by
         simp only[lgB,List.append_assoc]
        rw[e4];exact S2
     ·exact h.elim
    ·exact h.elim
   ·exact h.elim
  ·exact h.elim
 ·exact h.elim
def z3 (P:Program) (gl:Nat->Option Nat) (L:List (eG (LG fr))) (lp:Nat->List V->Option (Lp (LG fr))):Ctx (LG fr):=⟨P,Mv L,gl,SA L,ajk P,ajb,lp⟩
theorem ajl {P:Program} {gl:Nat->Option Nat} {L:List (eG (LG fr))} {lp:Nat->List V->Option (Lp (LG fr))} (h:ao P gl L):∀f c,(z3 P gl L lp).T f=some c->Sound (z3 P gl L lp).P (z3 P gl L lp).gl f c:=h.T
theorem ajm {P:Program} {gl:Nat->Option Nat} {L:List (eG (LG fr))} {lp:Nat->List V->Option (Lp (LG fr))} (h:ao P gl L):ia (z3 P gl L lp):=h.Q
def u8N:V->Int
 |.int .u8 n=>n
 |_=>0
def QW (h:Nat->Int):List V:=(List.range 32).map λi=>.int .u8 (h i)
def Wg:List V->Bool
 |[]=>true
 |.int .u8 _::l=>Wg l
 |_=>false
def ajn (l:List V):Option (Nat->Int):=bif Wg l&&Nat.beq l.length 32 then some (λi=>u8N (nth l i))else none
def kB (h:Nat->Int):Nat->Int:=λi=>u8N (nth (QW h) i)
theorem abQ (h:Nat->Int) {i:Nat} (hi:i<32):kB h i=h i:=by
 unfold kB QW;rw[AN _ _ i i (by rw[List.getElem?_range hi])];rfl
theorem nv (ids:List Nat):∀l:List V,Wg l=true->ai ids l=(List.range l.length).map λi=>Value.int .u8 (u8N (nth l i))
 |[],_=>rfl
 |v::l,h=>by
  unfold Wg at h;split at h
  ·rename_i e;cases e
  ·rename_i n l' e;cases e;rw[List.length_cons,List.range_succ_eq_map,List.map_cons,List.map_map];simp only[ai,cl,den,nv ids l h,List.cons_append,List.nil_append];rfl
  ·cases h
theorem vY {l:List V} {h:Nat->Int} (e:ajn l=some h) (ids:List Nat):(ai ids l).toArray=aj .u8 32 h:=by
 unfold ajn at e;cases hb:Wg l&&Nat.beq l.length 32 with
 |false=>rw[hb]at e;cases e
 |true=>
  rw[hb]at e;simp only[cond_true,Option.some.injEq]at e;subst e;rw[Bool.and_eq_true]at hb;rw[nv ids l hb.1,Nat.eq_of_beq_eq_true hb.2];rfl
theorem aji {f g:Nat->Int} (h:∀i,i<32->f i=g i):aj .u8 32 f=aj .u8 32 g:=by
 have e:(List.range 32).map (λi=>Value.int .u8 (f i))=(List.range 32).map λi=>.int .u8 (g i):=List.map_congr_left λi hi=>by rw[h i (List.mem_range.1 hi)]
 exact congrArg List.toArray e
theorem QX (h:Nat->Int) (ids:List Nat):(ai ids (QW h)).toArray=aj .u8 32 h:=by
 rw[vY (l:=QW h) (h:=kB h) rfl ids];exact aji λi hi=>abQ h hi
def ck (C:Sd.Crypt):QF:=⟨42,λargs bl=>match args,bl with
 |[.agg l,.agg [.int .i64 a,.int .i64 b,.int .i64 c,.int .i64 d,.int .i64 e,.int .i64 f]],⟨false,⟨tg,(0,0)⟩,rc⟩::_=>(match ajn l with
  |some h=>some (rc=(jP tg).c,.agg (QW (C.next h ⟨a,b,c,d,e,f⟩)))
  |none=>none)
 |_,_=>none⟩
def gRo:Nat->Option Nat:=λg=>bif Nat.beq g 0 then some 0 else none
theorem abR:(ck (aq cu)).Ok prog gRo:=by
 intro args bl p_ v_ h hp ids w hg hm;unfold ck at h;dsimp only at h;split at h
 ·rename_i l a b c d e f tg rc bl2;split at h
  ·rename_i hh hr;simp only[Option.some.injEq,Prod.mk.injEq]at h;obtain⟨rfl,rfl⟩:=h;have h0:=(hg 0 0 rfl).2;have h1:=hm.2 0 _ rfl;rw[h0,hp]at h1;have hG:w.heap[0]?=some (.cells (aj .u32 64 aT) tg (0,0)):=by
    rw[h1];simp only[jP,ai,cl,List.append_nil];rfl
   have:=adY hh ⟨a,b,c,d,e,f⟩ w hG;have ea:(az ids [.agg l,.agg [.int .i64 a,.int .i64 b,.int .i64 c,.int .i64 d,.int .i64 e,.int .i64 f]]).toArray=#[.agg (aj .u8 32 hh),.agg (recC ⟨a,b,c,d,e,f⟩)]:=by
    simp only[az,den,vY hr,ai,cl,List.cons_append,List.nil_append];rfl
   rw[show(az ids [.agg l,.agg [.int .i64 a,.int .i64 b,.int .i64 c,.int .i64 d,.int .i64 e,.int .i64 f]]).toArray=_ from ea];refine this.mono ?_;rintro v w' ⟨rfl,kq⟩;refine⟨?_,kq⟩;simp only[den,QX];rfl
  ·cases h
 ·cases h
def v3 (C:Sd.Crypt) (l:List Sd.Rec):Nat->Int:=l.foldl (λh r=>C.next (kB h) r) λ_=>0
theorem abS (C:Sd.Crypt) (l:List Sd.Rec) (r:Sd.Rec):v3 C (l++[r])=C.next (kB (v3 C l)) r:=by unfold v3;rw[List.foldl_append];rfl
section
variable(C:Sd.Crypt) (tg:TypeId) (l:List Sd.Rec) (n c:Nat) (x:Option Addr) (ty:BT) (us:List Value) (K:VK Empty)
def ofB:List VB:=[jP tg,⟨false,ty,[.fY 6 n (C_ l),.rest us]⟩]
def ofV (j:{j:Nat //j<=n}):List V:=[.ptr 2 0,.ptr 3 0,.je 1 0 n c x,.int .i64 n,.int .i64 j.1]
def ajo (j:{j:Nat //j<=n}):List VB:=ofB tg l n ty us++[⟨true,⟨50,(0,0)⟩,QW λ_=>0⟩,⟨true,⟨50,(0,0)⟩,QW (v3 C (l.take j.1))⟩]
def ajr:Lp Empty:=MC (X:={j:Nat //j<=n}) (λj=>n-j.1) 17 4 [2,3,6,7,8] (ofV n c x) (ajo C tg l n ty us) (λ_=>[]) (λ_=>rfl) (λ_=>by kernel_rfl) (λ_=>rfl)
def ofE (j:{j:Nat //j<=n}) (h:Nat->Int):Prop:=true=true/\enD (λj:{j:Nat //j<=n}=>n-j.1) (ofV n c x) (ajo C tg l n ty us) (λ_=>([]:List Empty)) j [.ptr 2 0,.ptr 3 0,.je 1 0 n c x,.int .i64 n,.int .i64 (i64.wrap ((j.1:Int)+1))] (ofB tg l n ty us++[⟨true,⟨50,(0,0)⟩,QW λ_=>0⟩,⟨true,⟨50,(0,0)⟩,QW h⟩]) []
def ofX:Prop:=(true=true/\IZ (ofV n c x) (ajo C tg l n ty us) (λ_=>([]:List Empty)) [.ptr 2 0,.ptr 3 0,.je 1 0 n c x,.int .i64 n,.int .i64 0] (ofB tg l n ty us++[⟨true,⟨50,(0,0)⟩,QW λ_=>0⟩,⟨true,⟨50,(0,0)⟩,QW λ_=>0⟩]) [])/\
 ∀(j:{j:Nat //j<=n}) (g:Nat->Value),cond (decide ((j.1:Int)<(n:Int))) ((0<=(j.1:Int)/\(j.1:Int)<(n:Int))/\((j.1:Int).toNat<n/\∀i,(C_ l i).length=6)/\(jP tg).c=(jP tg).c/\ofE C tg l n c x ty us j (C.next (kB (v3 C (l.take j.1))) (l.getD (j.1:Int).toNat default)))
  (K (.agg (QW (v3 C (l.take j.1)))) (ofB tg l n ty us) [])
theorem ajC:c_ (DE prog gRo (qL Empty [ck C]) (SR 0 (ajr C tg l n c x ty us))) 60 19 [.je 1 0 n c x] (ofB tg l n ty us) [] (eB 2 K)=ofX C tg l n c x ty us K:=by kernel_rfl
end
theorem abT {l:List Sd.Rec} {j:Nat} (h:j<l.length):l.take (j+1)=l.take j++[l.getD j default]:=by
 rw[List.take_add_one,List.getD_eq_getElem?_getD,List.getElem?_eq_getElem h];rfl
theorem ajD {C:Sd.Crypt} {tg:TypeId} {l:List Sd.Rec} {n c:Nat} {x:Option Addr} {ty:BT} {us:List Value} {K:VK Empty} (hn:l.length=n) (hb:n<=1000000) (hK:K (.agg (QW (v3 C l))) (ofB tg l n ty us) []):ofX C tg l n c x ty us K:=by
 refine⟨⟨rfl,⟨0,Nat.zero_le _⟩,rfl,rfl,rfl⟩,λj g=>aS (λe=>?_) (λe=>?_)⟩
 ·have im:j.1<n:=by simpa using e
  have hjj:((j.1:Int)).toNat=j.1:=Int.toNat_natCast _;rw[hjj];refine⟨⟨by omega,by omega⟩,⟨im,λi=>rfl⟩,rfl,rfl,⟨j.1+1,im⟩,by show n-(j.1+1)<n-j.1;omega,?_,?_,rfl⟩
  ·rw[nH (by omega)];rfl
  ·rw[<-abS,<-abT (by omega)];rfl
 ·have rC:¬j.1<n:=by simpa using e
  rw[List.take_of_length_le (by omega)];exact hK
theorem Q7:∀(l:List Sd.Rec) (h h':Nat->Int),(∀i,i<32->h i=h' i)->∀i,i<32->l.foldl (λh r=>qq (kB h) r) h i=l.foldl qq h' i
 |[],h,h',e,i,hi=>e i hi
 |r::l,h,h',e,i,hi=>by
  rw[List.foldl_cons,List.foldl_cons];refine Q7 l _ _ (λi hi=>?_) i hi;have:qq (kB h) r=qq h' r:=by
   unfold qq;congr 1;funext j;unfold an;cases hb:Nat.blt j 32 with
   |false=>rfl
   |true=>
    have hj:j<32:=by unfold Nat.blt at hb;exact Nat.le_of_ble_eq_true hb
    simp only[cond_true];rw[abQ h hj,e j hj]
  rw[this]
theorem ajs (C:Sd.Crypt) (hC:C.next=qq) (l:List Sd.Rec):aj .u8 32 (v3 C l)=aj .u8 32 (l.foldl qq λ_=>0):=by
 refine aji λk hk=>?_;unfold v3;rw[hC];exact Q7 l _ _ (λ_ _=>rfl) k hk
theorem ajt (i:Nat):Gl gRo [0,i]:=by
 intro g j hg;unfold gRo at hg;cases hb:Nat.beq g 0 with
 |false=>rw[hb]at hg;cases hg
 |true=>rw[hb]at hg;cases hg;exact⟨by simp,(Nat.eq_of_beq_eq_true hb).symm⟩
theorem ajI {C:Sd.Crypt} (yq:ao (G:=Empty) prog gRo (qL Empty [ck C])) {w:World} {tg:TypeId} (hG:w.heap[0]?=some (.cells (aj .u32 64 aT) tg (0,0))) (l:List Sd.Rec) (hb:l.length<=1000000) {x:Option Addr} {c:Nat} {B:List aC} (h:eO 6 65 (oh l) x l.length c B) (hB:∀y∈B,w.heap[y.id]?=some y.obj):
 au prog 19 #[.slice x l.length c] w λv w'=>v=.agg (aj .u8 32 (v3 C l))/\Ch [] w w':=by
 have key:∃(i:Nat) (ty:BT) (us:List Value),Value.slice x l.length c=.slice (bif Nat.beq l.length 0 then x else some ⟨i,0,none⟩) l.length c/\w.heap[i]?=some (.cells ((List.range l.length).flatMap (C_ l)++us).toArray ty.t ty.fz):=by
  rcases h.2.2 with⟨rfl,h0,rfl,rfl⟩|⟨b,tail,rfl,rfl,_⟩
  ·refine⟨0,tg,(aj .u32 64 aT).toList,by rw[h0];rfl,?_⟩;rw[hG,h0];rfl
  ·refine⟨b,65,tail,?_,?_⟩
   ·cases Nat.beq l.length 0<;>rfl
   ·rw[Da];exact hB _ List.mem_cons_self
 obtain⟨i,ty,us,hv,cD⟩:=key;have S:St [] w (lits [0,i] [0,i] (ofB tg l l.length ty us)++ak ([]:List Empty) []) w:=by
  refine St.afU ?_;intro y hy;simp only[ofB,lits,ak,List.append_nil,List.mem_cons,List.not_mem_nil,or_false]at hy;rcases hy with rfl|rfl
  ·exact⟨rfl,hG.trans (by kernel_rfl)⟩
  ·refine⟨rfl,cD.trans ?_⟩;simp only[aW,ai,cl,List.append_nil]
 have fW:c_ (DE prog gRo (qL Empty [ck C]) (SR 0 (ajr C tg l l.length c x ty us))) 60 19 [.je 1 0 l.length c x] (ofB tg l l.length ty us) [] (eB 2 λv _ _=>v=.agg (QW (v3 C l))):=by
  rw[ajC];exact ajD rfl hb rfl
 have ca:(az [0,i] [.je 1 0 l.length c x]).toArray=#[.slice x l.length c]:=by
  rw[hv];rfl
 rw[<-ca];refine(bW (C:=DE prog gRo (qL Empty [ck C]) (SR 0 (ajr C tg l l.length c x ty us))) (_root_.Go.Proofs.YtlkpikfddnjilaaGreatDoor.ao.TL yq) (_root_.Go.Proofs.YtlkpikfddnjilaaGreatDoor.ao.QL yq) 60 (ajt i) rfl S fW).mono ?_;rintro v w' ⟨y,more,bl',ch',rfl,h1,S',hK⟩;obtain⟨v2,bj,bl2,hv2,-,S2,-,hK2⟩:=eQ (n0:=2) h1 (by simp) S' hK;refine⟨?_,S2.ch⟩;rw[hv2];simp only[den,QX]
theorem ajO:ao (G:=Empty) prog gRo (qL Empty [ck (aq cu)]):=fZ (aX.cons abR aX.nil)
def ofC (C:Sd.Crypt):jq (LG fr):=λargs bl ch K=>match args,ch,bl with
 |[v],.gh u::.core g fB::.row r::rest,⟨false,⟨tg,(0,0)⟩,rc⟩::bl2=>∃l:List Sd.Rec,(v=r.v/\rc=(jP tg).c/\r.T=65/\r.z=6/\r.os=oh l/\r.n=l.length/\l.length<=1000000)/\K (.agg [.ew .u8 32 (l.foldl C.next λ_=>0)]) (⟨false,⟨tg,(0,0)⟩,rc⟩::bl2) (.gh u::.core g fB::.row r::rest)
 |_,_,_=>False
theorem afv:Sound prog gS 19 (ofC (fr:=fr) (aq cu)):=by
 intro args ids bl ch R ms w0 w K hg hl S hc;unfold ofC at hc;split at hc
 ·rename_i v u g fB r rest tg rc bl2;obtain⟨l,⟨rfl,rfl,hT,hz,hos,hn,hb⟩,hK⟩:=hc;have h0:=(hg 0 0 rfl).2;have h1:=(dY hl S (i:=0) (b:=⟨false,⟨tg,(0,0)⟩,(jP tg).c⟩) rfl).2;rw[h0]at h1;have hG:w.heap[0]?=some (.cells (aj .u32 64 aT) tg (0,0)):=by
   rw[h1];simp only[jP,ai,cl,List.append_nil];rfl
  have hr:=r.h;rw[hT,hz,hos,hn]at hr;have:=ajI ajO hG l hb hr (λy hy=>S.at' (by
   rw[lgB];simp only[List.mem_append];exact .inr (.inr (.inl hy))))
  rw[ajs _ rfl]at this;have ea:(az ids [r.v]).toArray=#[.slice r.x l.length r.c]:=by
   simp only[aO.v,az,den,hn]
  rw[ea];refine this.mono ?_;rintro v w' ⟨rfl,kq⟩;refine⟨.agg [.ew .u8 32 (l.foldl qq λ_=>0)],[],_,_,?_,by simpa using hl,by simpa using S.quiet kq,hK⟩;simp only[den,ai,cl,List.append_nil];rfl
 ·exact hc.elim
theorem cH (C:Sd.Crypt):fC (ofC (fr:=fr) C):=by
 intro args bl ch K hc;unfold ofC at hc⊢;split at hc
 ·obtain⟨l,h,hK⟩:=hc;exact⟨l,h,hK,[],by simp⟩
 ·exact hc.elim
def LHe (fr:Sd.Reply->Nat×Sd.Byt) (C:Sd.Crypt):List (eG (LG fr)):=⟨19,true,ofC C⟩::Wc fr C
structure ajc (C:Sd.Crypt) (head:Nat->Int) (r:aO) (l:List Sd.Rec) (m:Nat):Prop where
 T:r.T=65
 z:r.z=6
 o:r.os=oh l
 n:r.n=l.length
 b:l.length<=50*m
 h:head=l.foldl C.next λ_=>0
structure LhS (C:Sd.Crypt) (fr:Sd.Reply->Nat×Sd.Byt) (tg tc:TypeId) (u:World) (x:nW) (n:Nat) where
 w:QQ fr tg tc u x n
 r:aO
 l:List Sd.Rec
 hr:ajc C w.s.c.head r l w.j
 ep:Int
 he:ep<=w.s.c.t.epoch
structure LiS (C:Sd.Crypt) (fr:Sd.Reply->Nat×Sd.Byt) (tg tc:TypeId) (u:World) (x:nW) (n:Nat) where
 w:QQ fr tg tc u x n
 hj:w.j<n
 s:Sd.Scene
 tr:TR
 fn:List aC
 F:cz fr (b9 w.k (nn s))
 hC:bo w.k (nn s)
 hp:s.c.p=w.p2
 v1:cJ=F.vs
 v2:cJ=F.vr
 r:aO
 l:List Sd.Rec
 hr:ajc C s.c.head r l (w.j+1)
 len:s.recs.length<=1000
 up:s.recs.Pairwise λa b=>a.epoch<=b.epoch
 hi:∀q∈s.recs,q.epoch<=s.c.t.epoch
 za:Option Addr
 zc:Nat
 zt:Nat
 zu:List Value
 i:Nat
 ep:Int
 he:ep<=s.c.t.epoch
 lo:∀j,i<=j->j<s.recs.length->ep<=(s.recs.getD j default).epoch
def eqF (f g:Nat->Int):Nat->Nat->Bool
 |0,_=>true
 |n+1,i=>f i==g i&&eqF f g n (i+1)
def tdC (tr:TR) (s:Sd.Scene) (i:Nat):List V:=match tr.v s i with|.agg l=>l|_=>[]
section
variable(C:Sd.Crypt) (tg tc:TypeId) (ty:BT) (u:World) (x:nW) (f:Nat->Nat×Sd.Byt) (o n c:Nat) (a:Option Addr) (os:Nat->AI) (pre post:List Value)
def heV (y:LhS C fr tg tc u x (bJ 80 n)):List V:=[.ptr 8 0,.ptr 9 0,y.r.v,.int .i64 y.ep,.je 2 o (bJ 80 n) c a,.int .i64 y.w.j]
def ajw (y:LhS C fr tg tc u x (bJ 80 n)):List VB:=lwB tg tc ty u x f n os pre post y.w.p y.w.m y.w.d y.w.k y.w.s
def ajx (y:LhS C fr tg tc u x (bJ 80 n)):List (LG fr):=[.gh u,.core (cB y.w.k y.w.s y.w.F) y.w.fB,.row y.r]
def ajP:Lp (LG fr):=MC (X:=LhS C fr tg tc u x (bJ 80 n)) (λy=>bJ 80 n-y.w.j) 133 11 [6,7,9,10,11,12] (heV C tg tc u x o n c a) (ajw C tg tc ty u x f n os pre post) (ajx C tg tc u x n) (λ_=>rfl) (λ_=>by kernel_rfl) (λ_=>rfl)
abbrev HiX (jv:Int):={z:LiS C fr tg tc u x (bJ 80 n) //(z.w.j:Int)=jv/\z.i<=z.s.recs.length}
def hiV (jv:Int) (z:HiX (fr:=fr) C tg tc u x n jv):List V:=[.ptr 8 0,.ptr 9 0,z.1.r.v,.int .i64 z.1.ep,.je 2 o (bJ 80 n) c a,.int .i64 z.1.w.j,.ptr 13 0,.ptr 15 0,.int .i64 z.1.i]
def hiB (w:QQ fr tg tc u x (bJ 80 n)) (s:Sd.Scene) (tr:TR) (za:Option Addr) (zc zt:Nat) (zu:List Value):List VB:=lwB tg tc ty u x f n os pre post w.p w.m w.d w.k (nn s)++[tr.sB s,tr.rB s,⟨true,⟨52,(0,0)⟩,tdC tr s 11⟩,FZ zt 1 s.c.q.length (sw s.c.q) zu,⟨true,⟨44,(0,0)⟩,ot s (.je 14 0 s.c.q.length zc za)⟩]
def ajd (jv:Int) (z:HiX (fr:=fr) C tg tc u x n jv):List VB:=hiB tg tc ty u x f n os pre post z.1.w z.1.s z.1.tr z.1.za z.1.zc z.1.zt z.1.zu
def aje (jv:Int) (z:HiX (fr:=fr) C tg tc u x n jv):List (LG fr):=[.gh u,.core (cB z.1.w.k (nn z.1.s) z.1.F) (z.1.fn++z.1.w.fB),.row z.1.r]
def ajQ (jv:Int):Lp (LG fr):=MC (X:=HiX (fr:=fr) C tg tc u x n jv) (λz=>z.1.s.recs.length-z.1.i) 133 16 [6,7,9,10,11,12,13,14,15] (hiV C tg tc u x o n c a jv) (ajd C tg tc ty u x f n os pre post jv) (aje C tg tc u x n jv) (λ_=>rfl) (λ_=>by kernel_rfl) (λ_=>rfl)
def ajy:Nat->List V->Option (Lp (LG fr)):=λi w=>bif Nat.beq i 0 then some (ajP C tg tc ty u x f o n c a os pre post)else bif Nat.beq i 2 then(match nth w 12 with|.int .i64 jv=>some (ajQ C tg tc ty u x f o n c a os pre post jv)|_=>none)else none
section
variable(K:V->Prop)
def ajR (y:LhS C fr tg tc u x (bJ 80 n)) (w:QQ fr tg tc u x (bJ 80 n)) (s:Sd.Scene) (F:cz fr (b9 w.k s)) (fB:List aC) (r:aO) (ep:Int):Prop:=true=true/\enD (λy=>bJ 80 n-y.w.j) (heV C tg tc u x o n c a) (ajw C tg tc ty u x f n os pre post) (ajx C tg tc u x n) y [.ptr 8 0,.ptr 9 0,r.v,.int .i64 ep,.je 2 o (bJ 80 n) c a,.int .i64 (i64.wrap ((w.j:Int)+1))] (lwB tg tc ty u x f n os pre post w.p w.m w.d w.k s) [.gh u,.core (cB w.k s F) fB,.row r]
def ajY (jv:Int) (z:HiX (fr:=fr) C tg tc u x n jv) (ep:Int):Prop:=true=true/\enD (λz=>z.1.s.recs.length-z.1.i) (hiV C tg tc u x o n c a jv) (ajd C tg tc ty u x f n os pre post jv) (aje C tg tc u x n jv) z [.ptr 8 0,.ptr 9 0,z.1.r.v,.int .i64 ep,.je 2 o (bJ 80 n) c a,.int .i64 z.1.w.j,.ptr 13 0,.ptr 15 0,.int .i64 (i64.wrap ((z.1.i:Int)+1))] (ajd C tg tc ty u x f n os pre post jv z) (aje C tg tc u x n jv z)
def ajh (l:List Sd.Rec) (i:Nat):Prop:=(i:Int).toNat<l.length/\∀j,(C_ l j).length=6
def z6 (y:LhS C fr tg tc u x (bJ 80 n)) (z:HiX (fr:=fr) C tg tc u x n (y.w.j:Int)):Prop:=
 let q:=z.1.s.recs.getD (z.1.i:Int).toNat default
 let N:=z.1.s.recs.length
 cond (decide ((z.1.i:Int)<(N:Int))) (We z.1.i N/\ajh z.1.s.recs z.1.i/\cond (decide (q.epoch<z.1.ep)) (K (.bool false)) (We z.1.i N/\ajh z.1.s.recs z.1.i/\cond (decide (q.epoch>z.1.s.c.t.epoch)) (K (.bool false)) (We z.1.i N/\ajh z.1.s.recs z.1.i/\ajY C tg tc ty u x f o n c a os pre post _ z q.epoch)))
 (ajR C tg tc ty u x f o n c a os pre post y z.1.w (nn z.1.s) z.1.F (z.1.fn++z.1.w.fB) z.1.r z.1.ep)
def ofP (r:aO) (X:(Nat->Int)->Prop):Prop:=∃l:List Sd.Rec,(r.v=r.v/\(jP tg).c=(jP tg).c/\r.T=65/\r.z=6/\r.os=oh l/\r.n=l.length/\l.length<=1000000)/\X (l.foldl C.next λ_=>0)
def ajz (y:LhS C fr tg tc u x (bJ 80 n)):Prop:=
 let N:=bJ 80 n
 let j:=(y.w.j:Int).toNat
 We y.w.j N/\opP o n os pre y.w.j/\Dk tg tc 10 y.w.k y.w.s/\(CoA y.w.k y.w.s y.w.F/\wc y.w.k/\eE u (os j).x (os j).n (os j).c (dt u (os j).x))/\afu (fr:=fr) (k:=y.w.k) (lE C u (du y.w.s) (os j)) λs2 tr fn2 F2=>
  (y.r.v=y.r.v/\y.r.T=65/\y.r.z=6/\s2.recs.length=s2.recs.length/\(∀j,(C_ s2.recs j).length=6)/\(∀j u,u∈C_ s2.recs j->u.oneCell'=true)/\y.r.n+s2.recs.length<=1000000)/\∀r2:aO,r2.T=y.r.T->r2.z=y.r.z->r2.os=y.r.os++(List.range s2.recs.length).flatMap (C_ s2.recs)->r2.n=y.r.n+s2.recs.length->
   Dk tg tc 10 y.w.k (nn s2)/\∀(za:Option Addr) (zc zt:Nat) (zu:List Value),ofP C tg r2 λh=>cond (!(eqF s2.c.head h 32 0)) (K (.bool false)) (cond (!(aja s2 s2)) (K (.bool false))
    ((true=true/\IZ (hiV C tg tc u x o n c a (y.w.j:Int)) (ajd C tg tc ty u x f n os pre post (y.w.j:Int)) (aje C tg tc u x n (y.w.j:Int)) [.ptr 8 0,.ptr 9 0,r2.v,.int .i64 y.ep,.je 2 o (bJ 80 n) c a,.int .i64 y.w.j,.ptr 13 0,.ptr 15 0,.int .i64 0] (hiB tg tc ty u x f n os pre post y.w s2 tr za zc zt zu) [.gh u,.core (cB y.w.k (nn s2) F2) (fn2++y.w.fB),.row r2])/\
      ∀(z:HiX (fr:=fr) C tg tc u x n (y.w.j:Int)) (g:Nat->Value),z6 C tg tc ty u x f o n c a os pre post K y z))
def ajJ (y:LhS C fr tg tc u x (bJ 80 n)):Prop:=Dk tg tc 10 y.w.k y.w.s/\CoA y.w.k y.w.s y.w.F/\afu (fr:=fr) (k:=y.w.k) (du y.w.s) λs1 tr fn1 F1=>
 ofP C tg y.r λh=>cond (eqF s1.c.head h 32 0) (cond ((s1.sent.length:Int)==0) (K (.bool ((s1.recs.length:Int)==0))) (K (.bool false))) (K (.bool false))
def heX:Prop:=(false=false/\(jP tg).c=(jP tg).c/\false=false/\(pD tc).c=(pD tc).c)/\rdA x u/\∀(p:Nat->Int) (m d:Nat->Nat) (hM:Made x p m),
 yc (jY 4 p m d) (n4 m)/\∀(p2:Sd.Pol) (k:LK) (F:cz fr (b9 k (iM p2))) (hN:Gg (jY 4 p m d) (Dj x u) tg tc p2 k) (v1:cJ=F.vs) (v2:cJ=F.vr),∀r:aO,r.T=65->r.z=5+1->r.os=[]->r.n=0->n<=c/\
  (true=true/\IZ (heV (fr:=fr) C tg tc u x o n c a) (ajw C tg tc ty u x f n os pre post) (ajx C tg tc u x n) [.ptr 8 0,.ptr 9 0,r.v,.int .i64 (p 55),.je 2 o (bJ 80 n) c a,.int .i64 0] (lwB tg tc ty u x f n os pre post p m d k (iM p2)) [.gh u,.core (cB k (iM p2) F) [],.row r])/\
  ∀(y:LhS C fr tg tc u x (bJ 80 n)) (g:Nat->Value),cond (decide ((y.w.j:Int)<(bJ 80 n:Nat))) (ajz C tg tc ty u x f o n c a os pre post K y) (ajJ C tg tc u x n K y)
theorem ajK:c_ (z3 prog gS (LHe fr C) (ajy (fr:=fr) C tg tc ty u x f o n c a os pre post)) 60 6 [.agg [.jS ⟨x.q,f⟩ x.ka x.kn x.kc],.je 2 o n c a] [jP tg,pD tc,QO ty n os pre post] [.gh u] (λv _ _=>K v)=heX (fr:=fr) C tg tc ty u x f o n c a os pre post K:=by kernel_rfl
end
end
end Go.Proofs.YtlkpikfddnjilaaGreatDoor
namespace Sd
def Gr (n:Nat) (s t:Scene):Prop:=t.recs.length<=s.recs.length+n/\t.sent.length<=s.sent.length+n
theorem Gr.trans {n m:Nat} {s t u:Scene} (h:Gr n s t) (k:Gr m t u):Gr (n+m) s u:=⟨by have:=h.1;have:=k.1;omega,by have:=h.2;have:=k.2;omega⟩
theorem Gr.le {n m:Nat} {s t:Scene} (h:Gr n s t) (k:n<=m):Gr m s t:=⟨by have:=h.1;omega,by have:=h.2;omega⟩
theorem Gr.of {n m:Nat} {s s0 t:Scene} (h:Gr n s0 t) (h1:s0.recs=s.recs) (h2:s0.sent=s.sent) (k:n<=m):Gr m s t:=⟨by have:=h.1;rw[h1]at this;omega,by have:=h.2;rw[h2]at this;omega⟩
theorem Gr.fin {n:Nat} {s t t':Scene} (h:Gr n s t) (h1:t'.recs=t.recs) (h2:t'.sent=t.sent):Gr n s t':=⟨by rw[h1];exact h.1,by rw[h2];exact h.2⟩
theorem Gr.c0 {s t:Scene} (h1:t.recs=s.recs) (h2:t.sent=s.sent):Gr 0 s t:=⟨by rw[h1];exact Nat.le_refl _,by rw[h2];exact Nat.le_refl _⟩
section
variable(C:Crypt) (s:Scene)
theorem abU (l:Int) (r:Reply):Gr 1 s (s.tell l r):=⟨by simp[Scene.tell],by simp[Scene.tell]⟩
theorem afw (l:Int) (r:Reply):Gr 1 s (s.hear l r):=by
 unfold Scene.hear;split
 ·exact abU s l r
 ·exact(Gr.c0 rfl rfl).le (by omega)
theorem dL (k a n e h:Int):Gr 1 s (s.record C k a n e h):=⟨by simp[Scene.record],by simp[Scene.record]⟩
theorem lC (l n e:Int):Gr 2 s (s.refuse C l n e):=(abU s _ _).trans (dL C _ _ _ _ _ _)
theorem FU (l e:Int):Gr 1 s (s.dp C l e):=dL C _ _ _ _ _ _
theorem sr (l n:Int):Gr 1 s (s.done l n):=abU s _ _
theorem abW (l w e:Int):Gr 1 s (s.gone l w e):=afw s _ _
theorem Km (t:Tok) (how n:Int):Gr 3 s (s.goes C t how n):=
 ((Gr.c0 (s:=s) (t:={s with c:={s.c with t:=t,q:=Q.drop s.c.q t.holder}}) rfl rfl).trans (((afw _ _ _).trans (afw _ _ _)).trans (dL C _ _ _ _ _ _))).le (by omega)
theorem ajf (a:Int):Gr 2 s (s.leave C a):=by
 unfold Scene.leave;dsimp only;split
 ·exact(Gr.c0 rfl rfl).le (by omega)
 ·exact(Gr.of ((abW _ _ _ _).trans (dL C _ _ _ _ _ _)) rfl rfl (by omega))
theorem ai7 (m:Int) (b:Label):Gr 0 s (s.dF m b):=Gr.c0 rfl rfl
theorem afx {α:Type} {f:Scene->α->Scene} {n:Nat} (h:∀s a,Gr n s (f s a)):∀(l:List α) (s:Scene),Gr (n*l.length) s (l.foldl f s)
 |[],s=>(Gr.c0 rfl rfl).le (by omega)
 |a::l,s=>by
  rw[List.foldl_cons];exact((h s a).trans (afx h l _)).le (by rw[List.length_cons,Nat.mul_add];omega)
theorem ajF (l:Int) (n:Nat) (f:Byt):Gr 10 s (s.kW C l n f):=by
 unfold Scene.kW;dsimp only
 repeat' split
 all_goals first
  |exact(FU C s _ _).le (by omega)
  |exact(lC C s _ _ _).le (by omega)
  |exact Gr.of ((abU _ _ _).trans (dL C _ _ _ _ _ _)) rfl rfl (by omega)
theorem ajG (l:Int) (n:Nat) (f:Byt):Gr 10 s (s.prove C l n f):=by
 unfold Scene.prove;dsimp only
 repeat' split
 all_goals first
  |exact Gr.of (FU C _ _ _) rfl rfl (by omega)
  |exact Gr.of (lC C _ _ _ _) rfl rfl (by omega)
  |exact Gr.of ((abU _ _ _).trans (dL C _ _ _ _ _ _)) rfl rfl (by omega)
theorem akc (l:Int) (m:dw):Gr 10 s (s.wO C l m):=by
 unfold Scene.wO;split
 ·exact(sr s _ _).le (by omega)
 split
 ·exact(Gr.of ((ajf C _ _).trans ((dL C _ _ _ _ _ _).trans (sr _ _ _))) rfl rfl (by omega))
 split
 ·unfold Scene.ask;dsimp only;split
  ·exact(lC C s _ _ _).le (by omega)
  ·split
   ·exact(Gr.of ((Km C _ _ _ _).trans (sr _ _ _)) rfl rfl (by omega))
   ·exact(Gr.of ((dL C _ _ _ _ _ _).trans (sr _ _ _)) rfl rfl (by omega))
 split
 ·unfold Scene.offer;dsimp only;split
  ·exact(lC C s _ _ _).le (by omega)
  ·exact(Gr.of ((afw _ _ _).trans ((dL C _ _ _ _ _ _).trans (sr _ _ _))) rfl rfl (by omega))
 split
 ·unfold Scene.accept;dsimp only;split
  ·exact(lC C s _ _ _).le (by omega)
  ·exact((Km C _ _ _ _).trans (sr _ _ _)).le (by omega)
 split
 ·unfold Scene.ft;dsimp only;split
  ·exact(lC C s _ _ _).le (by omega)
  ·exact(Gr.of ((abW _ _ _ _).trans ((dL C _ _ _ _ _ _).trans (sr _ _ _))) rfl rfl (by omega))
 split
 ·unfold Scene.release;dsimp only;split
  ·exact(lC C s _ _ _).le (by omega)
  ·exact(Gr.of ((Km C _ _ _ _).trans (sr _ _ _)) rfl rfl (by omega))
 split
 ·unfold Scene.command;dsimp only;split
  ·exact(lC C s _ _ _).le (by omega)
  ·split
   ·exact(Gr.of ((dL C _ _ _ _ _ _).trans (sr _ _ _)) rfl rfl (by omega))
   ·exact(Gr.of ((dL C _ _ _ _ _ _).trans (sr _ _ _)) rfl rfl (by omega))
 ·exact(Gr.c0 rfl rfl).le (by omega)
theorem ajT (l code:Int) (n:Nat) (f:Byt):Gr 10 s (s.item C l code n f):=by
 unfold Scene.item;split
 ·exact(FU C s _ _).le (by omega)
 split
 ·exact ajF C s _ _ _
 split
 ·exact ajG C s _ _ _
 split
 ·exact(FU C s _ _).le (by omega)
 ·exact(Gr.of (akc C _ _ _) rfl rfl (by omega))
theorem aju (x:dM):Gr 10 s (s.dD C x):=by
 unfold Scene.dD;dsimp only
 repeat' split
 all_goals first
  |exact Gr.of (Km C _ _ _ _) rfl rfl (by omega)
  |exact Gr.of (dL C _ _ _ _ _ _) rfl rfl (by omega)
  |exact(Gr.c0 rfl rfl).le (by omega)
end
def Ql (s t:Scene):Prop:=t.c.q.length<=s.c.q.length
theorem Ql.trans {s t u:Scene} (h:Ql s t) (k:Ql t u):Ql s u:=Nat.le_trans k h
theorem Ql.of {s t:Scene} (h:t.c.q=s.c.q):Ql s t:=by unfold Ql;rw[h];exact Nat.le_refl _
theorem ai8 (q:List Ask) (a:Int):(Q.drop q a).length<=q.length:=List.length_filter_le _ _
theorem ajH (C:Crypt) (s:Scene) (a:Int):Ql s (s.leave C a):=by
 unfold Scene.leave;dsimp only;split
 ·exact ai8 _ _
 ·unfold Ql;rw[Scene.record_q,Scene.gone_c];exact ai8 _ _
theorem ajU (C:Crypt) (s:Scene) (t:Tok) (how n:Int):Ql s (s.goes C t how n):=by
 unfold Ql Scene.goes;dsimp only;rw[Scene.record_q,Scene.hear_c,Scene.hear_c];exact ai8 _ _
theorem ajq {α:Type} {f:Scene->α->Scene} (h:∀s a,Ql s (f s a)):∀(l:List α) (s:Scene),Ql s (l.foldl f s)
 |[],s=>Nat.le_refl _
 |a::l,s=>(h s a).trans (ajq h l _)
theorem ajv (C:Crypt) (s:Scene) (bad:Bool) (hq:s.c.q.length<=3):Gr 10 s (s.h_ C bad):=by
 unfold Scene.h_;dsimp only;split
 ·exact(Gr.c0 rfl rfl).le (by omega)
 ·have h2:∀s2:Scene,Gr 3 s s2->Ql s s2->Gr 10 s (s2.c.q.foldl (λ(s:Scene) (a:Ask)=>({s with c:={s.c with q:=Q.drop s.c.q a.source}}:Scene).gone a.source 4 29) s2):=by
   intro s2 g q;refine(g.trans (afx (n:=1) (f:=λ(s:Scene) (a:Ask)=>({s with c:={s.c with q:=Q.drop s.c.q a.source}}:Scene).gone a.source 4 29) (λs a=>Gr.of (abW _ _ _ _) rfl rfl (by omega)) s2.c.q s2)).le ?_;have:s2.c.q.length<=s.c.q.length:=q;omega
  split
  ·refine Gr.fin ?_ rfl rfl;exact h2 _ (Gr.of (Km C _ _ _ _) rfl rfl (by omega)) (Ql.trans (Ql.of (s:=s) rfl) (ajU C _ _ _ _))
  ·refine Gr.fin ?_ rfl rfl;exact h2 _ ((Gr.c0 rfl rfl).le (by omega)) (Ql.of rfl)
theorem ajV (C:Crypt) (s:Scene):Gr 3 s (s.dg C):=by
 unfold Scene.dg;dsimp only
 repeat' split
 all_goals first
  |exact Gr.of ((Km C _ _ _ _).trans (ai7 _ _ _)) rfl rfl (by omega)
  |exact(Gr.c0 rfl rfl).le (by omega)
theorem ajW (C:Crypt) (s:Scene) (hq:s.c.q.length<=3) (he:s.c.tab.ended.length<=4):Gr 40 s (s.tick C):=by
 unfold Scene.tick;dsimp only;have g1:=afx (n:=3) (f:=λ(s:Scene) (x:Int)=>if linked x then(s.record C 5 x 0 0 0).leave C x else s.record C 5 x 0 0 0) (λs x=>by
  split
  ·exact(dL C s _ _ _ _ _).trans (ajf C _ _)
  ·exact(dL C s _ _ _ _ _).le (by omega)) s.c.tab.ended {s with c:={s.c with tab:=s.c.tab.tick}}
 have q1:=ajq (f:=λ(s:Scene) (x:Int)=>if linked x then(s.record C 5 x 0 0 0).leave C x else s.record C 5 x 0 0 0) (λs x=>by
  split
  ·exact Ql.trans (Ql.of (Scene.record_q C s _ _ _ _ _)) (ajH C _ _)
  ·exact Ql.of (Scene.record_q C s _ _ _ _ _)) s.c.tab.ended {s with c:={s.c with tab:=s.c.tab.tick}}
 generalize List.foldl (λ(s:Scene) (x:Int)=>if linked x then(s.record C 5 x 0 0 0).leave C x else s.record C 5 x 0 0 0) {s with c:={s.c with tab:=s.c.tab.tick}} s.c.tab.ended=s1 at*;have G1:Gr 12 s s1:=(Gr.of g1 rfl rfl (by omega));have Q1:s1.c.q.length<=3:=Nat.le_trans q1 hq;have H:∀s3:Scene,Gr 2 s1 s3->s3.c.q=s1.c.q->Gr 40 s (((Q.gone s3.c.q).foldl (λ(s:Scene) (a:Ask)=>(s.gone a.source a.source 30).record C 12 a.source 0 30 0) {s3 with c:={s3.c with q:=Q.kept s3.c.q}}).dg C):=by
  intro s3 g3 e3;have hl:(Q.gone s3.c.q).length<=3:=by
   rw[e3];refine Nat.le_trans ?_ Q1;unfold Q.gone;refine Nat.le_trans (List.length_filter_le _ _) ?_;unfold Q.pS;rw[List.length_map];exact Nat.le_refl _
  have hf:=afx (n:=2) (f:=λ(s:Scene) (a:Ask)=>(s.gone a.source a.source 30).record C 12 a.source 0 30 0) (λs a=>(abW s _ _ _).trans (dL C _ _ _ _ _ _)) (Q.gone s3.c.q) {s3 with c:={s3.c with q:=Q.kept s3.c.q}};have hf:Gr 6 s3 _:=Gr.of hf rfl rfl (Nat.mul_le_mul_left 2 hl);have:=((G1.trans g3).trans hf).trans (ajV C _);exact⟨Nat.le_trans this.1 (by show s.recs.length+(12+2+6+3)<=_;omega),Nat.le_trans this.2 (by show s.sent.length+(12+2+6+3)<=_;omega)⟩
 refine Gr.fin (H _ ?_ ?_) rfl rfl
 ·split
  ·exact Gr.of ((abW _ _ _ _).trans (dL C _ _ _ _ _ _)) rfl rfl (by omega)
  ·exact(Gr.c0 rfl rfl).le (by omega)
 ·split
  ·rw[Scene.record_q,Scene.gone_c];rfl
  ·rfl
def Ic (l:List Rec):Int:=l.foldl (λa r=>if r.kind=8 then a+1 else a) 0
def abX (l:List Rec):Int:=l.foldl (λa r=>if r.kind=8 then r.how else a) 0
structure Wn where
 p:Pol
 xh:Int
 xe:Int
 xo:Int
 akI:Bool
 n:Nat
 q:Nat->Int
 yh:Int
 ye:Int
 yo:Int
 akJ:Bool
 on:Int->Bool
 l:List Rec
 kind:Int
 link:Int
def ajX (w:Wn) (how:Int):Prop:=
 (how=1/\w.kind=0/\w.xo=w.yh/\w.link=w.yh)\/
 (how=2/\w.kind<2/\0<w.n/\w.q 0=w.yh/\(w.kind=1↔w.xh=0))\/
 (how=3/\w.kind=0/\w.link=w.yh/\cp w.p w.yh w.xh=true/\w.akI=false)\/
 (how=4/\w.kind=1/\w.yh=0)\/
 (how=5/\w.kind=3/\w.on w.xh=false/\w.on w.yh=true)\/
 (how=6/\w.yh=4/\((w.kind=2/\w.akJ=true)\/(w.kind=3/\w.xe=65535/\w.on w.xh=false)))
structure ai1 (w:Wn):Prop where
 hx:0<=w.xh/\w.xh<=4
 hy:0<=w.yh/\w.yh<=4
 ex:0<=w.xe/\w.xe<=65535
 kd:0<=w.kind/\w.kind<=3
 len:w.l.length<=1000
 akv:∀j,j<w.l.length->(w.l.getD j default).kind=8->(w.l.getD j default).source=w.yh/\(w.l.getD j default).epoch=w.ye
 how:(w.yh=w.xh/\w.ye=w.xe/\Ic w.l=0)\/(w.yh≠w.xh/\Ic w.l=1/\w.yo=-1/\((w.ye=w.xe+1)\/(w.xe=65535/\w.ye=w.xe/\abX w.l=6))/\ajX w (abX w.l))
theorem xF.link {a b:Core} {k l l' how:Int} (h:xF a b k l how) (hk:k≠0):xF a b k l' how:=by
 unfold xF at h⊢;rcases h with h|h|h|h|h|h
 ·exact absurd h.2.1 hk
 ·exact .inr (.inl h)
 ·exact absurd h.2.1 hk
 ·exact .inr (.inr (.inr (.inl h)))
 ·exact .inr (.inr (.inr (.inr (.inl h))))
 ·exact .inr (.inr (.inr (.inr (.inr h))))
theorem nV.link {C:Crypt} {b:Prop} {s s':Scene} {k l l':Int} (h:nV C b s s' k l) (hk:k≠0):nV C b s s' k l':=
 ⟨h.inv,h.NK.imp id λ⟨how,g,w⟩=>⟨how,g,w.link hk⟩⟩
theorem ajg {l:List Rec} {j:Nat} (h:j<l.length):l.getD j default∈l:=by
 rw[List.getD_eq_getElem?_getD,List.getElem?_eq_getElem h];exact List.getElem_mem h
end Sd
namespace Go.Proofs.YtlkpikfddnjilaaGreatDoor
open Go Go.RowKit Go.BigFrame Sx Vx
theorem ajL {k:LK} {s:Sd.Scene} (h:bo k s) (u:World) (o:AI) (hk:0<=o.kind):Sd.nV (aq cu) False s (lE (aq cu) u s o) (o.kind.tmod 4) o.link:=by
 unfold lE;split
 ·rename_i e;rw[e];exact(Sd.vT h.i).link (by decide)
 split
 ·rename_i e;rw[e];exact(Sd.vW h.i).link (by decide)
 split
 ·rename_i e;rw[e];exact(Sd.C4 h.i).1.link (by decide)
 ·rename_i e1 e2 e3;have e:o.kind.tmod 4=0:=by
   rw[Int.tmod_eq_emod_of_nonneg hk]at*;omega
  rw[e];unfold iL;split
  ·rename_i hl;exact Sd.Ce jN h.i hl (λe=>e.elim)
  ·exact .cH h.i (Sd.Quiet.refl ..)
theorem aj1 {k:LK} {s:Sd.Scene} (h:bo k s) (u:World) (o:AI):Sd.Gr 40 s (lE (aq cu) u s o):=by
 have hq:s.c.q.length<=3:=by have:=h.i.q.len;have:=h.i.p.queue;omega
 unfold lE;split
 ·exact(Sd.aju _ _ _).le (by decide)
 split
 ·exact(Sd.ajv _ _ _ hq).le (by decide)
 split
 ·exact Sd.ajW _ _ hq (Vz _).2
 ·unfold iL;split
  ·exact(Sd.ajT _ _ _ _ _ _).le (by decide)
  ·exact(Sd.Gr.c0 rfl rfl).le (by decide)
end Go.Proofs.YtlkpikfddnjilaaGreatDoor
namespace Sd
structure Wd (C:Crypt) (s s':Scene):Prop where
 head:s'.c.head=s'.recs.foldl C.next s.c.head
 lo:∀r∈s'.recs,s.c.t.epoch<=r.epoch
 hi:∀r∈s'.recs,r.epoch<=s'.c.t.epoch
 up:s'.recs.Pairwise λa b=>a.epoch<=b.epoch
 ep:s.c.t.epoch<=s'.c.t.epoch
theorem cn {l:List Rec} {e:Int} (h:∀r∈l,r.epoch=e):l.Pairwise λa b=>a.epoch<=b.epoch:=by
 refine List.pairwise_of_forall_mem_list λa ha b hb=>?_;rw[h a ha,h b hb];exact Int.le_refl _
theorem ai0 {C:Crypt} {b:Prop} {s s':Scene} {k l:Int} (h:nV C b s s' k l) (hr:s.recs=[]):Wd C s s':=by
 rcases h.NK with q|⟨how,g,w⟩
 ·obtain⟨rs,r1,r2,r3⟩:=q.recs;rw[hr,List.nil_append]at r1;have he:∀r∈s'.recs,r.epoch=s.c.t.epoch:=λr h=>by rw[r1]at h;exact(r2 r h).2.1
  refine⟨by rw[r1];exact r3,λr h=>by rw[he r h];exact Int.le_refl _,λr h=>by rw[he r h,q.epoch];exact Int.le_refl _,cn he,by rw[q.epoch];exact Int.le_refl _⟩
 ·obtain⟨pre,n,post,q1,q2,q3,q4,q5⟩:=g.recs;rw[hr,List.nil_append]at q1;have hle:s.c.t.epoch<=s'.c.t.epoch:=by rcases g.epoch with⟨_,e⟩|⟨e1,e2,_⟩<;>omega
  have hx:∀r∈s'.recs,(r∈pre/\r.epoch=s.c.t.epoch)\/r.epoch=s'.c.t.epoch:=by
   intro r hm;rw[q1]at hm;rcases List.mem_append.1 hm with hm|hm
   ·exact .inl ⟨hm,(q2 r hm).2.1⟩
   ·rcases List.mem_cons.1 hm with rfl|hm
    ·exact .inr rfl
    ·exact .inr (q4 r hm).2.1
  refine⟨by rw[q1];exact q5,λr h=>?_,λr h=>?_,?_,hle⟩
  ·rcases hx r h with⟨_,e⟩|e<;>omega
  ·rcases hx r h with⟨_,e⟩|e<;>omega
  ·rw[q1];have hp:∀r∈(⟨8,s'.c.t.holder,n,s'.c.t.epoch,0,how⟩::post:List Rec),r.epoch=s'.c.t.epoch:=by
    intro r hm;rcases List.mem_cons.1 hm with rfl|hm
    ·rfl
    ·exact(q4 r hm).2.1
   refine List.pairwise_append.2 ⟨cn λr h=>(q2 r h).2.1,cn hp,λa ha b hb=>?_⟩;rw[(q2 a ha).2.1,hp b hb];exact hle
end Sd
