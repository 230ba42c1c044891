/- Part 26 of the proof. -/
import Derived.Test.YtlkpikfddnjilaaGreatDoorQ25
set_option linter.all false
set_option maxRecDepth 100000
set_option maxHeartbeats 4000000
open Go.Proofs.Tryz
open Go.IntKind (u8 u16 u32 u64 i64)
namespace Go.Proofs.YtlkpikfddnjilaaGreatDoor
open Go Go.RowKit Go.WideShapes Sd
def Je (W:World) (a:Option Addr) (n c:Nat):Prop:=n<=c/\((a=none/\n=0/\c=0)\/∃x,a=some x/\(c:Int)<=i64.max/\W.has prog .any 0 x 5 c)
theorem pH {W:World} {v:Value} {t e:TypeId} (hu:prog.underlying t=some (.slice e)) (h:Cell.okWide prog W .any 0 t v):
 ∃a n c,v=.slice a n c/\n<=c/\((a=none/\n=0/\c=0)\/∃x,a=some x/\(c:Int)<=i64.max/\W.has prog .any 0 x e c):=by
 unfold Cell.okWide at h;rw[hu]at h;cases v with
 |slice a n c=>
  unfold Cell.ok at h;rw[hu]at h;cases a with
  |none=>
   cases n<;>cases c<;>first|exact⟨_,_,_,rfl,by omega,Or.inl ⟨rfl,rfl,rfl⟩⟩|(simp at h)
  |some a=>exact⟨_,_,_,rfl,h.1,Or.inr ⟨a,rfl,h.2⟩⟩
 |_=>unfold Cell.ok at h;rw[hu]at h;simp at h
theorem SB {W:World} {v:Value} (hv:Value.okWide prog W .any 0 28 v):
 ∃(q:Nat->Int) (ka:Nat->Option Addr) (kn kc:Nat->Nat),v=.agg (FP q ka kn kc)/\(∀i,-9223372036854775808<=q i/\q i<=9223372036854775807)/\∀i,i<4->Je W (ka i) (kn i) (kc i):=by
 obtain⟨cs,rfl,iQ,HC⟩:=Ha Tryz.underlying28 rfl (ts:=[3,3,3,3,3,23,23,23,23,3,3,3,3,3,3,3,3,3,3,3,3,3,3,3,3,3,3,3,3,3,3,3,3,3,3,3,3,3,3,3,3,3,3,3,3,3,3,3,3,3,3,3,3,3,3,3]) (by kernel_rfl) (by kernel_rfl) hv;have bD:∀i,i<56->∃x,cs[i]?=some x:=λi hi=>⟨cs[i]'(by rw[iQ];exact hi),by rw[Array.getElem?_eq_getElem]⟩;have hI:∀i,i<56->(i<5\/8<i)->∃n,cs[i]?=some (.int .i64 n)/\I64 n:=by
  intro i hi eS;obtain⟨x,hx⟩:=bD i hi;have ht:([3,3,3,3,3,23,23,23,23,3,3,3,3,3,3,3,3,3,3,3,3,3,3,3,3,3,3,3,3,3,3,3,3,3,3,3,3,3,3,3,3,3,3,3,3,3,3,3,3,3,3,3,3,3,3,3]:List Nat)[i]?=some 3:=by clear hx;revert i;decide
  obtain⟨n,rfl,hn⟩:=SA Tryz.underlying3 (HC i x 3 hx ht);exact⟨n,hx,hn⟩
 have hS:∀i,i<4->∃a n c,cs[5+i]?=some (.slice a n c)/\Je W a n c:=by
  intro i hi;obtain⟨x,hx⟩:=bD (5+i) (by omega);have ht:([3,3,3,3,3,23,23,23,23,3,3,3,3,3,3,3,3,3,3,3,3,3,3,3,3,3,3,3,3,3,3,3,3,3,3,3,3,3,3,3,3,3,3,3,3,3,3,3,3,3,3,3,3,3,3,3]:List Nat)[5+i]?=some 23:=by clear hx;revert i;decide
  obtain⟨a,n,c,rfl,h1,h2⟩:=pH Tryz.underlying23 (HC (5+i) x 23 hx ht);exact⟨a,n,c,hx,h1,h2⟩
 let q:Nat->Int:=λi=>match cs[i]?with|some (.int _ n)=>n|_=>0
 let ka:Nat->Option Addr:=λi=>match cs[5+i]?with|some (.slice a _ _)=>a|_=>none
 let kn:Nat->Nat:=λi=>match cs[5+i]?with|some (.slice _ n _)=>n|_=>0
 let kc:Nat->Nat:=λi=>match cs[5+i]?with|some (.slice _ _ c)=>c|_=>0
 have hq:∀i,i<56->(i<5\/8<i)->cs[i]?=some (.int .i64 (q i))/\I64 (q i):=by
  intro i hi eS;obtain⟨n,hx,hn⟩:=hI i hi eS;have:q i=n:=by simp only[q,hx]
  rw[this];exact⟨hx,hn⟩
 have hk:∀i,i<4->cs[5+i]?=some (.slice (ka i) (kn i) (kc i))/\Je W (ka i) (kn i) (kc i):=by
  intro i hi;obtain⟨a,n,c,hx,hn⟩:=hS i hi;have h1:ka i=a:=by simp only[ka,hx]
  have h2:kn i=n:=by simp only[kn,hx]
  have h3:kc i=c:=by simp only[kc,hx]
  rw[h1,h2,h3];exact⟨hx,hn⟩
 refine⟨q,ka,kn,kc,?_,?_,λi hi=>(hk i hi).2⟩
 ·congr 1;apply Array.ext_getElem?;intro i;by_cases hi:i<56
  ·match i,hi with
   |0,_=>exact(hq 0 (by omega) (by omega)).1.trans rfl
   |1,_=>exact(hq 1 (by omega) (by omega)).1.trans rfl
   |2,_=>exact(hq 2 (by omega) (by omega)).1.trans rfl
   |3,_=>exact(hq 3 (by omega) (by omega)).1.trans rfl
   |4,_=>exact(hq 4 (by omega) (by omega)).1.trans rfl
   |5,_=>exact(hk 0 (by omega)).1.trans rfl
   |6,_=>exact(hk 1 (by omega)).1.trans rfl
   |7,_=>exact(hk 2 (by omega)).1.trans rfl
   |8,_=>exact(hk 3 (by omega)).1.trans rfl
   |9,_=>exact(hq 9 (by omega) (by omega)).1.trans rfl
   |10,_=>exact(hq 10 (by omega) (by omega)).1.trans rfl
   |11,_=>exact(hq 11 (by omega) (by omega)).1.trans rfl
   |12,_=>exact(hq 12 (by omega) (by omega)).1.trans rfl
   |13,_=>exact(hq 13 (by omega) (by omega)).1.trans rfl
   |14,_=>exact(hq 14 (by omega) (by omega)).1.trans rfl
   |15,_=>exact(hq 15 (by omega) (by omega)).1.trans rfl
   |16,_=>exact(hq 16 (by omega) (by omega)).1.trans rfl
   |17,_=>exact(hq 17 (by omega) (by omega)).1.trans rfl
   |18,_=>exact(hq 18 (by omega) (by omega)).1.trans rfl
   |19,_=>exact(hq 19 (by omega) (by omega)).1.trans rfl
   |20,_=>exact(hq 20 (by omega) (by omega)).1.trans rfl
   |21,_=>exact(hq 21 (by omega) (by omega)).1.trans rfl
   |22,_=>exact(hq 22 (by omega) (by omega)).1.trans rfl
   |23,_=>exact(hq 23 (by omega) (by omega)).1.trans rfl
   |24,_=>exact(hq 24 (by omega) (by omega)).1.trans rfl
   |25,_=>exact(hq 25 (by omega) (by omega)).1.trans rfl
   |26,_=>exact(hq 26 (by omega) (by omega)).1.trans rfl
   |27,_=>exact(hq 27 (by omega) (by omega)).1.trans rfl
   |28,_=>exact(hq 28 (by omega) (by omega)).1.trans rfl
   |29,_=>exact(hq 29 (by omega) (by omega)).1.trans rfl
   |30,_=>exact(hq 30 (by omega) (by omega)).1.trans rfl
   |31,_=>exact(hq 31 (by omega) (by omega)).1.trans rfl
   |32,_=>exact(hq 32 (by omega) (by omega)).1.trans rfl
   |33,_=>exact(hq 33 (by omega) (by omega)).1.trans rfl
   |34,_=>exact(hq 34 (by omega) (by omega)).1.trans rfl
   |35,_=>exact(hq 35 (by omega) (by omega)).1.trans rfl
   |36,_=>exact(hq 36 (by omega) (by omega)).1.trans rfl
   |37,_=>exact(hq 37 (by omega) (by omega)).1.trans rfl
   |38,_=>exact(hq 38 (by omega) (by omega)).1.trans rfl
   |39,_=>exact(hq 39 (by omega) (by omega)).1.trans rfl
   |40,_=>exact(hq 40 (by omega) (by omega)).1.trans rfl
   |41,_=>exact(hq 41 (by omega) (by omega)).1.trans rfl
   |42,_=>exact(hq 42 (by omega) (by omega)).1.trans rfl
   |43,_=>exact(hq 43 (by omega) (by omega)).1.trans rfl
   |44,_=>exact(hq 44 (by omega) (by omega)).1.trans rfl
   |45,_=>exact(hq 45 (by omega) (by omega)).1.trans rfl
   |46,_=>exact(hq 46 (by omega) (by omega)).1.trans rfl
   |47,_=>exact(hq 47 (by omega) (by omega)).1.trans rfl
   |48,_=>exact(hq 48 (by omega) (by omega)).1.trans rfl
   |49,_=>exact(hq 49 (by omega) (by omega)).1.trans rfl
   |50,_=>exact(hq 50 (by omega) (by omega)).1.trans rfl
   |51,_=>exact(hq 51 (by omega) (by omega)).1.trans rfl
   |52,_=>exact(hq 52 (by omega) (by omega)).1.trans rfl
   |53,_=>exact(hq 53 (by omega) (by omega)).1.trans rfl
   |54,_=>exact(hq 54 (by omega) (by omega)).1.trans rfl
   |55,_=>exact(hq 55 (by omega) (by omega)).1.trans rfl
   |i+56,h=>exact absurd h (by omega)
  ·rw[Array.getElem?_eq_none (by rw[iQ];exact Nat.le_of_not_lt hi),Array.getElem?_eq_none (Nat.le_of_not_lt hi)]
 ·intro i;by_cases hi:i<56/\(i<5\/8<i)
  ·exact(hq i hi.1 hi.2).2
  ·have:q i=0:=by
    by_cases h5:i<56
    ·obtain⟨a,n,c,hx,_⟩:=hS (i-5) (by omega);rw[show 5+(i-5)=i by omega]at hx;simp only[q,hx]
    ·have hx:cs[i]?=none:=Array.getElem?_eq_none (by rw[iQ];exact Nat.le_of_not_lt h5);simp only[q,hx]
   rw[this];omega
end Go.Proofs.YtlkpikfddnjilaaGreatDoor
namespace Go.Proofs.YtlkpikfddnjilaaGreatDoor
open Go Go.RowKit Go.WideShapes Sd Sx
theorem SD {W:World} {a:Option Addr} {m c:Nat} (fR:∀n,Rd prog W n 23 [.slice a m c]) (hk:Je W a m c):∃kb:Nat->Int,Qv [] W a m c kb:=by
 obtain⟨h1,h2⟩:=hk;rcases h2 with⟨e1,e2,e3⟩|⟨x,e1,hc,hh⟩
 ·exact⟨λ_=>0,h1,λ_=>⟨e2,e3⟩,λad ha=>by rw[e1]at ha;cases ha⟩
 ·rcases wW Tryz.underlying23 fR (z:=1) (by kernel_rfl) 5 (ts:=[5]) (by kernel_rfl)with h0|⟨a',ahM,ahN,h0,_,_,C,hC⟩
  ·rw[e1]at h0;simp at h0
  ·rw[e1]at h0;simp only[Value.slice.injEq,Option.some.injEq]at h0;obtain⟨rfl,rfl,rfl⟩:=h0;refine⟨λj=>match C j 0 with|.int _ n=>n|_=>0,h1,λh=>(by rw[e1]at h;cases h),λad ha=>⟨by simp,λj hj=>?_⟩⟩;rw[e1]at ha;obtain rfl:=Option.some.inj ha;obtain⟨h3,h4⟩:=hC j (by omega) 0 (by omega);obtain⟨n,h5,_⟩:=wV Tryz.underlying5 (h4 _ rfl);simp only[h5]at h3⊢;simpa using h3
theorem Md {W:World} {v:Value} (hv:Value.okWide prog W .any 0 28 v) (hr:∀n,Rd prog W n 28 v.cells.toList):
 ∃(q:Nat->Int) (ka:Nat->Option Addr) (kn kc:Nat->Nat) (kb:Nat->Nat->Int),v=.agg (FP q ka kn kc)/\(∀i,-9223372036854775808<=q i/\q i<=9223372036854775807)/\∀i,i<4->Qv [] W (ka i) (kn i) (kc i) (kb i):=by
 obtain⟨q,ka,kn,kc,rfl,hq,hk⟩:=SB hv;have key:∀i,i<4->∃kb:Nat->Int,Qv [] W (ka i) (kn i) (kc i) kb:=by
  intro i hi;have fR:∀n,Rd prog W n 23 [.slice (ka i) (kn i) (kc i)]:=by
   have h5:(FP q ka kn kc)[5+i]?=some (.slice (ka i) (kn i) (kc i)):=by
    match i,hi with
    |0,_=>rfl
    |1,_=>rfl
    |2,_=>rfl
    |3,_=>rfl
    |i+4,h=>exact absurd h (by omega)
   have Ey:cellAt prog 6 28 (5+i)=some 23:=by
    have e:i=0\/i=1\/i=2\/i=3:=by omega
    rcases e with rfl|rfl|rfl|rfl
    ·show cellAt prog 6 28 5=some 23;kernel_rfl
    ·show cellAt prog 6 28 6=some 23;kernel_rfl
    ·show cellAt prog 6 28 7=some 23;kernel_rfl
    ·show cellAt prog 6 28 8=some 23;kernel_rfl
   exact rG 6 (P:=prog) (w:=W) (t:=28) (cs:=(FP q ka kn kc).toList) (j:=5+i) hr Ey (by simpa using h5)
  exact SD fR (hk i hi)
 obtain⟨kb,hkb⟩:=Deep.choose_lt key;exact⟨q,ka,kn,kc,kb,rfl,hq,hkb⟩
end Go.Proofs.YtlkpikfddnjilaaGreatDoor
namespace Go.Proofs.YtlkpikfddnjilaaGreatDoor
open Go Go.RowKit Go.BigFrame Go.WideShapes Go.ChangeShapes Sd Sx Vx
section
variable{H:Type} {enc:TypeId×Value->H} {P:Program} {w:World} {base:Nat} {spare:Nat->Bool} {held:Bool} {fuel:Nat} {t e:TypeId} {cs:List Value} {ps:List MemPlace}
theorem SE {zs:List Bool} (ht:P.underlying t=some (.array zs.length e)) (he:P.underlying e=some .bool) (hc:P.cellsOf e=1) (hn:P.cellsOf t=zs.length)
 (h:DataW.trod enc P w base spare held fuel t cs=some (.agg (zs.map λz=>.lit (.bool z)),ps)):cs=zs.map Value.bool:=by
 obtain⟨xs,m,rfl,hx,hlen,TH,Ei⟩:=DataW.trod_array ht h;simp only[Prod.mk.injEq,DataW.agg.injEq]at hx;rw[hn]at hlen;apply List.ext_getElem?;intro i;by_cases hi:i<zs.length
 ·have h1:=Ei i hi;rw[hc,Nat.mul_one,List.getElem?_eq_getElem (by omega)]at h1;obtain⟨z,e1,e2⟩:=DataW.trod_bool he h1;have h3:(zs.map λz=>(DataW.lit (.bool z):DataW H))[i]?=(xs.map (·.1))[i]?:=by rw[hx.1]
  rw[List.getElem?_map,List.getElem?_map,List.getElem?_eq_getElem hi,List.getElem?_eq_getElem (by omega),Option.map_some,Option.map_some]at h3;have e3:=congrArg Prod.fst e2;rw[e3]at h3;simp at h3;rw[Jc e1,List.getElem?_map,List.getElem?_eq_getElem hi,Option.map_some,h3]
 ·rw[List.getElem?_eq_none (by omega),List.getElem?_eq_none (by simp;omega)]
end
def Jf:List Bool:=[false,false,false,false,false,false,false,false,false,false,true,true]
theorem X2 {W:World} (h:laidMetH prog Su W):∃t,W.heap[2]?=some (.cells #[.bool false,.bool false,.bool false,.bool false,.bool false,.bool false,.bool false,.bool false,.bool false,.bool false,.bool true,.bool true] t (0,0)):=by
 rw[MakeChecks.laidMetH_plain _ _ _ (by kernel_rfl)]at h;obtain⟨ps,⟨g0,t0,cs0,f0,p0,q0,hg0,ht0,MG,hd0,⟨g1,t1,cs1,f1,p1,q1,hg1,ht1,Te,hd1,_,hq⟩,JK⟩,_,fR⟩:=h;obtain rfl:g0=2:=Option.some.inj (hg0.symm.trans (show prog.globalNamed "sidestick/gate.commands" =some 2 by kernel_rfl));have e1:(prog.globals[2]?).map (·.type)=some 273:=by kernel_rfl
 obtain rfl:t0=273:=Option.some.inj (ht0.symm.trans e1);have HC:cs0.toList=Jf.map Value.bool:=by
  have hd2:DataW.trod (λ_=>()) prog W 0 (λ_=>true) false f0 273 cs0.toList=some (.agg (Jf.map λz=>.lit (.bool z)),p0):=
   hd0.trans (congrArg (λd=>some (d,p0)) (show(Rows.laid_sidestick_gate_commands:DataW Unit)=.agg (Jf.map λz=>.lit (.bool z)) by kernel_rfl))
  exact SE (zs:=Jf) (e:=4) (by kernel_rfl) (by kernel_rfl) (by kernel_rfl) (by kernel_rfl) hd2
 obtain⟨t,f,bD⟩:=Jd (show prog.globalNamed "sidestick/gate.commands" =some 2 by kernel_rfl) MG;have ZZ:cs0=#[.bool false,.bool false,.bool false,.bool false,.bool false,.bool false,.bool false,.bool false,.bool false,.bool false,.bool true,.bool true]:=by
  apply Array.ext';rw[HC];rfl
 obtain⟨c,t',Zz⟩:=(fR 2 0 (by
  rw[JK,ZZ];have:MemPlace.cell 2 0∈MemPlace.row ⟨2,0,none⟩ 12:=by
   simp[MemPlace.row]
  exact List.mem_append_left _ (List.mem_append_left _ this))).1
 rw[bD]at Zz;simp only[Option.some.injEq,Obj.cells.injEq]at Zz;refine⟨t,?_⟩;rw[bD,ZZ,Zz.2.2]
theorem Jg {W:World} {v:Value} (h:∀n,Rd prog W n 23 [v]):∃a n c,v=.slice a n c/\eA W a n c (de W a):=by
 rcases wW Tryz.underlying23 h (z:=1) (by kernel_rfl) 5 (ts:=[5]) (by kernel_rfl)with rfl|⟨a,len,cap,rfl,hle,_,C,hC⟩
 ·exact⟨none,0,0,rfl,Nat.le_refl _,λ_=>⟨rfl,rfl⟩,λx e=>nomatch e⟩
 ·have hb:∀j,j<len->∃n,C j 0=.int .u8 n/\0<=n/\n<=255:=λj hj=>by
   obtain⟨n,h5,h6⟩:=wV Tryz.underlying5 ((hC j (by omega) 0 (by omega)).2 _ rfl);exact⟨n,h5,by simpa[IntKind.min,IntKind.max,IntKind.signed,IntKind.bits]using h6⟩
  refine⟨some a,len,cap,rfl,ac7 (f:=λj=>match C j 0 with|.int _ n=>n|_=>0) ⟨hle,(λe=>nomatch e),λx e j hj=>?_⟩ λj hj=>?_⟩
  ·obtain rfl:=Option.some.inj e;obtain⟨n,h5,_⟩:=hb j hj;have h3:=(hC j (by omega) 0 (by omega)).1;simp only[h5]at h3⊢;simpa using h3
  ·obtain⟨n,h5,h6⟩:=hb j hj;simp only[h5];exact h6
theorem SF {W:World} {v:Value} (fR:Cell.okWide prog W .any 0 29 v) (hrd:∀k,Rd prog W k 29 [v]) {cs0:Array Value} {t0:TypeId} {f0:Nat×Nat} (h0:W.heap[0]?=some (.cells cs0 t0 f0)):
 ∃(os:Nat->sV) (i o n c:Nat) (a:Option Addr) (ty:BT) (pre post:List Value),tA W v 11 (XK os) i o n c a ty pre post/\Sf W os n:=by
 have z4:Sd.Eo ⟨0,0,0,0⟩:=Sd.x40
 let od:sV:=⟨0,0,0,none,0,0,⟨false,⟨0,0,0,0⟩,false⟩,false⟩
 obtain⟨a,m,c,rfl,hmc,ho⟩:=pH Tryz.underlying29 fR;rcases ho with⟨rfl,rfl,rfl⟩|⟨x,rfl,alc,ahP⟩
 ·exact⟨λ_=>od,0,0,0,0,none,_,[],_,tA.nil h0,λj hj=>absurd hj (by omega),λ_=>z4,λj hj=>absurd hj (by omega)⟩
 obtain⟨bk,off,spot⟩:=x;obtain rfl:spot=none:=ahP.2.1;obtain⟨row,cells,hsh,_⟩:=ahP.2.2;have aj7:∃cs t f,W.heap[bk]?=some (.cells cs t f):=by
  unfold World.shape? at hsh;split at hsh
  ·rename_i cs t f hh;exact⟨cs,t,f,hh⟩
  ·cases hsh
 obtain⟨cs,t,f,bD⟩:=aj7;rcases wW Tryz.underlying29 hrd (z:=11) rfl 5 (ts:=[5,3,33,23,4,3,3,3,3,4,4])with h0'|⟨a',ahM,ahN,h0',_,_,C,hC⟩
 ·simp at h0'
 simp only[Value.slice.injEq,Option.some.injEq]at h0';obtain⟨rfl,rfl,rfl⟩:=h0'
 let num:Value->Int:=λv=>match v with|.int _ n=>n|_=>0
 let tv:Value->Bool:=λv=>match v with|.bool b=>b|_=>false
 let sa:Value->Option Addr:=λv=>match v with|.slice a _ _=>a|_=>none
 let sn:Value->Nat:=λv=>match v with|.slice _ n _=>n|_=>0
 let sc:Value->Nat:=λv=>match v with|.slice _ _ c=>c|_=>0
 have hB:∀k,k<c->C k 3=.slice (sa (C k 3)) (sn (C k 3)) (sc (C k 3))/\eA W (sa (C k 3)) (sn (C k 3)) (sc (C k 3)) (de W (sa (C k 3))):=λk hk=>by
  obtain⟨a,n,c',e,h⟩:=Jg ((hC k hk 3 (by omega)).2 _ rfl);rw[e];exact⟨rfl,h⟩
 have hI:∀k,k<c->∀j,(j=1\/j=5\/j=6\/j=7\/j=8)->C k j=.int .i64 (num (C k j))/\Sd.Bd (num (C k j)):=λk hk j hj=>by
  have ht:([5,3,33,23,4,3,3,3,3,4,4]:List Nat)[j]?=some 3:=by
   rcases hj with rfl|rfl|rfl|rfl|rfl<;>rfl
  obtain⟨n,h1,h2⟩:=wV Tryz.underlying3 ((hC k hk j (by omega)).2 _ ht);rw[h1];refine⟨rfl,?_⟩;have h3:-9223372036854775808<=n/\n<=9223372036854775807:=by simpa[IntKind.min,IntKind.max,IntKind.signed,IntKind.bits]using h2
  exact h3
 have hE:∀k,k<c->C k 2=.int .i64 (num (C k 2)):=λk hk=>by
  obtain⟨n,h1,_⟩:=wV Tryz.underlying33 ((hC k hk 2 (by omega)).2 _ rfl);rw[h1]
 have hK:∀k,k<c->C k 0=.int .u8 (num (C k 0))/\0<=num (C k 0):=λk hk=>by
  obtain⟨n,h1,h2⟩:=wV Tryz.underlying5 ((hC k hk 0 (by omega)).2 _ rfl);rw[h1];have h3:0<=n/\n<=255:=by simpa[IntKind.min,IntKind.max,IntKind.signed,IntKind.bits]using h2
  exact⟨rfl,h3.1⟩
 have hT:∀k,k<c->∀j,(j=4\/j=9\/j=10)->C k j=.bool (tv (C k j)):=λk hk j hj=>by
  have ht:([5,3,33,23,4,3,3,3,3,4,4]:List Nat)[j]?=some 4:=by
   rcases hj with rfl|rfl|rfl<;>rfl
  obtain⟨n,h1⟩:=X0 Tryz.underlying4 ((hC k hk j (by omega)).2 _ ht);rw[h1]
 let os:Nat->sV:=λk=>if k<c then⟨num (C k 0),num (C k 1),num (C k 2),sa (C k 3),sn (C k 3),sc (C k 3),⟨tv (C k 4),⟨num (C k 5),num (C k 6),num (C k 7),num (C k 8)⟩,tv (C k 9)⟩,tv (C k 10)⟩else od
 have hos:∀k,k<c->os k=⟨num (C k 0),num (C k 1),num (C k 2),sa (C k 3),sn (C k 3),sc (C k 3),⟨tv (C k 4),⟨num (C k 5),num (C k 6),num (C k 7),num (C k 8)⟩,tv (C k 9)⟩,tv (C k 10)⟩:=λk hk=>if_pos hk;have xk:∀q:Nat,(⟨bk,off,none⟩:Addr).add q=⟨bk,off+q,none⟩:=λq=>by
  by_cases hq:q=0
  ·subst hq;rfl
  ·simp[Addr.add,hq]
 have Ey:∀k,k<m->∀j,j<11->W.cell? ⟨bk,off+k*11+j,none⟩=(XK os k)[j]?:=by
  intro k hk j hj;have xn:k<c:=by omega
  have h1:W.cell? ⟨bk,off+k*11+j,none⟩=some (C k j):=by
   have:=(hC k xn j hj).1;rw[xk]at this;rw[Nat.add_assoc];exact this
  rw[h1];have e:XK os k=[.int .u8 (num (C k 0)),.int .i64 (num (C k 1)),.int .i64 (num (C k 2)),.slice (sa (C k 3)) (sn (C k 3)) (sc (C k 3)),.bool (tv (C k 4)),.int .i64 (num (C k 5)),.int .i64 (num (C k 6)),.int .i64 (num (C k 7)),.int .i64 (num (C k 8)),.bool (tv (C k 9)),.bool (tv (C k 10))]:=by
   unfold XK;rw[hos k xn];rfl
  rw[e]
  match j,hj with
  |0,_=>rw[(hK k xn).1];rfl
  |1,_=>rw[(hI k xn 1 (by omega)).1];rfl
  |2,_=>rw[hE k xn];rfl
  |3,_=>rw[(hB k xn).1];rfl
  |4,_=>rw[hT k xn 4 (by omega)];rfl
  |5,_=>rw[(hI k xn 5 (by omega)).1];rfl
  |6,_=>rw[(hI k xn 6 (by omega)).1];rfl
  |7,_=>rw[(hI k xn 7 (by omega)).1];rfl
  |8,_=>rw[(hI k xn 8 (by omega)).1];rfl
  |9,_=>rw[hT k xn 9 (by omega)];rfl
  |10,_=>rw[hT k xn 10 (by omega)];rfl
  |j+11,h=>omega
 obtain⟨pre,post,hR⟩:=tA.some (z:=11) (g:=XK os) hmc (λj=>I6 os j) bD Ey (by decide);refine⟨os,bk,off,m,c,_,_,pre,post,hR,λj hj=>?_,λj=>?_,λj hj=>?_⟩
 ·rw[hos j (by omega)];exact(hB j (by omega)).2
 rotate_left
 ·rw[hos j (by omega)];exact(hK j (by omega)).2
 ·by_cases hj:j<c
  ·rw[hos j hj];exact⟨(hI j hj 5 (by omega)).2,(hI j hj 6 (by omega)).2,(hI j hj 7 (by omega)).2,(hI j hj 8 (by omega)).2⟩
  ·have:os j=od:=if_neg hj;rw[this];exact z4
theorem Me {W:World} {v:Value} (hv:Value.okWide prog W .any 0 28 v) (hr:∀n,Rd prog W n 28 v.cells.toList):
 ∃(q:Nat->Int) (ka:Nat->Option Addr) (kn kc:Nat->Nat),v=.agg (tD ⟨q,λ_=>(0,λ_=>0)⟩ ka kn kc).toArray/\∀j,j<4->eA W (ka j) (kn j) (kc j) (de W (ka j)):=by
 obtain⟨q,ka,kn,kc,kb,rfl,hq,hk⟩:=Md hv hr;refine⟨q,ka,kn,kc,rfl,λj hj=>?_⟩;have fR:∀n,Rd prog W n 23 [.slice (ka j) (kn j) (kc j)]:=by
  have h5:(FP q ka kn kc)[5+j]?=some (.slice (ka j) (kn j) (kc j)):=by
   match j,hj with
   |0,_=>rfl
   |1,_=>rfl
   |2,_=>rfl
   |3,_=>rfl
   |j+4,h=>exact absurd h (by omega)
  have Ey:cellAt prog 6 28 (5+j)=some 23:=by
   have e:j=0\/j=1\/j=2\/j=3:=by omega
   rcases e with rfl|rfl|rfl|rfl
   ·show cellAt prog 6 28 5=some 23;kernel_rfl
   ·show cellAt prog 6 28 6=some 23;kernel_rfl
   ·show cellAt prog 6 28 7=some 23;kernel_rfl
   ·show cellAt prog 6 28 8=some 23;kernel_rfl
  exact rG 6 (P:=prog) (w:=W) (t:=28) (cs:=(FP q ka kn kc).toList) (j:=5+j) hr Ey (by simpa using h5)
 obtain⟨a,n,c,e,h⟩:=Jg fR;simp only[Value.slice.injEq]at e;obtain⟨rfl,rfl,rfl⟩:=e;exact h
end Go.Proofs.YtlkpikfddnjilaaGreatDoor
namespace Go.Proofs.YtlkpikfddnjilaaGreatDoor
open Go Go.RowKit Go.BigFrame Sx Vx
variable{fr:Sd.Reply->Nat×Sd.Byt}
def adQ (P:Program):(Operand->V)->Op->List VB->List (LG fr)->VK (LG fr)->Prop:=λe op bl ch K=>match op with
 |.buildSlice t 0 ps=>(match ps.toList,P.underlying t with
  |[],some (.slice T)=>(match jQ P T,iS P T with
   |some (z+1),some zc=>cond (Nat.beq (eF zc) (z+1)) (∀r:aE,r.T=T->r.z=z+1->r.os=[]->r.n=0->K r.v bl (ch++[.row r])) False
   |_,_=>False)
  |_,_=>False)
 |.call c=>(match c.callee,c.args.toList,c.argTypes.toList with
  |.builtin .append,[s,xs],[t,tx]=>(match P.underlying t,P.underlying tx with
   |some (.slice T),some (.slice _)=>(match g9 P T,e xs,ch with
    |some (z,eo),.ij i 0 m cc x,.dC u::.core g fB::.row r::rest=>(match bl[i]?with
     |some ⟨_,_,[.fN z' m' f,.rest _]⟩=>cond (Nat.beq z z'&&Nat.ble eo 10000000)
      ((e s=r.v/\r.T=T/\r.z=z/\m'=m/\(∀j,(f j).length=z)/\(∀j u,u∈f j->u.oneCell'=true)/\r.n+m<=1000000)/\
        ∀r2:aE,r2.T=r.T->r2.z=r.z->r2.os=r.os++(List.range m).flatMap f->r2.n=r.n+m->K r2.v bl (.dC u::.core g fB::.row r2::rest)) False
     |_=>False)
    |_,_,_=>False)
   |_,_=>False)
  |_,_,_=>False)
 |_=>False
theorem D8 {z:Nat} {f:Nat->List Value} (h:∀j,(f j).length=z):∀m,((List.range m).flatMap f).length=m*z
 |0=>by simp
 |m+1=>by rw[List.range_succ,List.flatMap_append,List.length_append,D8 h m];simp[h,Nat.add_mul]
theorem lgB (u:World) (g:Gh fr) (fB:List ax) (r:aE) (rest:List (LG fr)) (R:List ax):ag (LG.dC u::LG.core g fB::LG.row r::rest) R=(dV u++(g.F.B++fB))++(r.bl++ag rest R):=by
 show dV u++((g.F.B++fB)++(r.bl++ag rest R))=_;simp only[List.append_assoc]
theorem X3 {P:Program} {gl:Nat->Option Nat}:rR P gl (adQ (fr:=fr) P):=by
 intro e op ids bl ch R ms w0 w K ρ o hg hl S cz ho h;unfold adQ at h;split at h
 ·rename_i t ps;split at h
  ·rename_i T JK hu;split at h
   ·rename_i z zc hz hzc;cases hq:Nat.beq (eF zc) (z+1)with
    |false=>rw[hq]at h;exact h.elim
    |true=>
     rw[hq]at h;simp only[cond_true]at h;have a_:=mD (P:=P) (ids:=ids) (w:=w) (len:=0) (ps:=[]) (c:=[]) hu hz hzc (Nat.eq_of_beq_eq_true hq) (by simp) rfl
     let r:aE:=⟨T,z+1,[],some ⟨w.heap.size,0,none⟩,0,0,[⟨w.heap.size,true,.cells #[] T (0,0)⟩],by simp,Nat.le_refl _,.inr ⟨w.heap.size,[],rfl,rfl,by simp⟩⟩
     have hn:=S.new (Ch.alloc [] w (.cells #[] T)) (Nat.le_refl _) (heap_alloc_new w _);refine⟨r.v,[],bl,ch++[.row r],w.alloc (.cells #[] T),.inl ?_,by simpa using hl,?_,h r rfl rfl rfl rfl⟩
     ·unfold execOp;have hp0:ps=#[]:=by apply Array.ext';simpa using JK
      subst hp0;simp only[ho];rw[Sem.run_bind];have h2:(Instr.buildSlice t 0 #[]).run P w=.ok (.slice (some ⟨w.heap.size,0,none⟩) 0 0) (w.alloc (.cells #[] T)):=a_;have h3:((#[]:Array (Nat×Operand)).map λ(x:Nat×Operand)=>match x with|(i,x)=>(i,ρ x))=#[]:=by simp
      rw[h3,h2];rfl
     ·rw[List.append_nil,dY];have e2:ag [LG.row (fr:=fr) r] R=⟨w.heap.size,true,.cells #[] T (0,0)⟩::R:=rfl;rw[e2,bH (_::R) ch];rw[bH R ch]at hn;refine hn.perm ?_;exact cH λf=>by simp only[List.countP_append,List.countP_cons];omega
   ·exact h.elim
  ·exact h.elim
 ·rename_i c;split at h
  ·rename_i s xs t tx eV bd jL;split at h
   ·rename_i T T' ht pJ;split at h
    ·rename_i z eo i m cc x u g fB r rest aI pI;split at h
     ·rename_i wr ty z' m' f us hb;cases hq:Nat.beq z z'&&Nat.ble eo 10000000 with
      |false=>rw[hq]at h;exact h.elim
      |true=>
       rw[hq]at h;simp only[cond_true]at h;simp only[Bool.and_eq_true]at hq;obtain⟨q1,q4⟩:=hq;obtain rfl:=Nat.eq_of_beq_eq_true q1;have q4:=Nat.le_of_ble_eq_true q4;obtain⟨⟨hs,rfl,rfl,rfl,hf,ho1,hn⟩,hK⟩:=h;have hi:(P.info? r.T).map (λi=>(i.zero.map (·.cells.size),i.size,i.bytes))=some (some r.z,r.z,eo):=by
        unfold g9 at aI;split at aI
        ·rename_i inf va;split at aI
         ·rename_i v hv;cases JO:Nat.beq v.cells.size inf.size with
          |false=>rw[JO]at aI;simp at aI
          |true=>
           rw[JO]at aI;simp only[cond_true,Option.some.injEq,Prod.mk.injEq]at aI;have:=Nat.eq_of_beq_eq_true JO;simp[va,hv,this,aI.1,aI.2]
         ·cases aI
        ·cases aI
       have bD:=(cQ hl S hb).2;have hlen:=D8 hf m';have zv:∀u∈(List.range m').flatMap f,u.oneCell'=true:=λu hu=>by
        obtain⟨j,_,hj⟩:=List.mem_flatMap.1 hu;exact ho1 j u hj
       have fp:Src P r.z tx (.slice (bif Nat.beq m' 0 then x else some ⟨ids.getD i 0,0,none⟩) m' cc) m' ((List.range m').flatMap f) w:=by
        by_cases h0:m'=0
        ·subst h0;cases x with
         |none=>exact Src.ofNil w pJ cc
         |some a=>exact Src.ofSlice w pJ a 0 cc [] (by simp) (λj u hj=>by simp at hj) (λu hu=>by simp at hu)
        ·have hb0:Nat.beq m' 0=false:=by
          cases hb0:Nat.beq m' 0 with
          |false=>rfl
          |true=>exact absurd (Nat.eq_of_beq_eq_true hb0) h0
         rw[hb0];refine Src.ofSlice w pJ ⟨ids.getD i 0,0,none⟩ m' cc _ hlen (λj u hj=>?_) zv;rw[Addr.add_lit,cell_of bD];simp only[af,cl,List.append_nil];have hjl:j<((List.range m').flatMap f).length:=by
          rcases Nat.lt_or_ge j ((List.range m').flatMap f).length with h|h
          ·exact h
          ·rw[List.getElem?_eq_none h]at hj;cases hj
         rw[List.getElem?_toArray,Nat.zero_add,List.getElem?_append_left hjl];exact hj
       have e1:lits ids ids bl++ag (LG.dC u::LG.core g fB::LG.row r::rest) R=(lits ids ids bl++(dV u++(g.F.B++fB)))++(r.bl++ag rest R):=by
        simp only[lgB,List.append_assoc]
       rw[e1]at S;have Bt:(r.n+m')*eo<=140737488355328:=Nat.le_trans (Nat.mul_le_mul hn q4) (by decide);obtain⟨v,w',a_,hc,x',c',bl',rfl,oG,vb⟩:=ie (P:=P) (ty:=o.type) r.h (λy hy=>S.at' (by simp[hy])) eo fp ht hi Bt (Nat.le_trans hn (by decide));have S2:=S.BD r.h.wr hc (λy hy=>(vb y hy).1) (λy hy=>(vb y hy).2) oG.pw;refine⟨_,[],bl,_,w',.inl ?_,by simpa using hl,?_,hK ⟨r.T,r.z,_,x',r.n+m',c',bl',oG⟩ rfl rfl rfl rfl⟩
       ·obtain⟨HA,ar,tJ⟩:=c;simp only at eV bd jL;have e2:ar=#[s,xs]:=by rw[<-bd]
        have e3:tJ=#[t,tx]:=by rw[<-jL]
        subst eV e2 e3;have:=bN (P:=P) (ρ:=ρ) (o:=o) ho (sv:=.slice r.x r.n r.c) (xv:=.slice (bif Nat.beq m' 0 then x else some ⟨ids.getD i 0,0,none⟩) m' cc) (by rw[cz,hs];simp only[aE.v,den]) (by rw[cz,pI];simp only[den]) a_;simpa[den,aE.v]using this
       ·rw[List.append_nil];have e4:lits ids ids bl++ag (LG.dC u::LG.core g fB::LG.row ⟨r.T,r.z,r.os++(List.range m').flatMap f,x',r.n+m',c',bl',oG⟩::rest) R=(lits ids ids bl++(dV u++(g.F.B++fB)))++(bl'++ag rest R):=by
         simp only[lgB,List.append_assoc]
        rw[e4];exact S2
     ·exact h.elim
    ·exact h.elim
   ·exact h.elim
  ·exact h.elim
 ·exact h.elim
def Hb (P:Program) (gl:Nat->Option Nat) (L:List (dF (LG fr))) (lp:Nat->List V->Option (Lp (LG fr))):Ctx (LG fr):=⟨P,Mw L,gl,To L,adQ P,X3,lp⟩
theorem adR {P:Program} {gl:Nat->Option Nat} {L:List (dF (LG fr))} {lp:Nat->List V->Option (Lp (LG fr))} (h:ah P gl L):∀f c,(Hb P gl L lp).T f=some c->Sound (Hb P gl L lp).P (Hb P gl L lp).gl f c:=h.T
theorem adS {P:Program} {gl:Nat->Option Nat} {L:List (dF (LG fr))} {lp:Nat->List V->Option (Lp (LG fr))} (h:ah P gl L):gy (Hb P gl L lp):=h.Q
def u8N:V->Int
 |.int .u8 n=>n
 |_=>0
def c32 (h:Nat->Int):List V:=(List.range 32).map λi=>.int .u8 (h i)
def aj8 (h:Nat->Int):Nat->Int:=λi=>u8N (nth (c32 h) i)
def hdS (C:Sd.Crypt) (l:List Sd.Rec):Nat->Int:=l.foldl (λh r=>C.next (aj8 h) r) λ_=>0
section
variable(C:Sd.Crypt) (tg:TypeId) (l:List Sd.Rec) (n c:Nat) (x:Option Addr) (ty:BT) (us:List Value) (K:VK Empty)
end
def ofC (C:Sd.Crypt):gZ (LG fr):=λargs bl ch K=>match args,ch,bl with
 |[v],.dC u::.core g fB::.row r::rest,⟨false,⟨tg,(0,0)⟩,rc⟩::bl2=>∃l:List Sd.Rec,(v=r.v/\rc=(iW tg).c/\r.T=65/\r.z=6/\r.os=mP l/\r.n=l.length/\l.length<=1000000)/\K (.agg [.dS .u8 32 (l.foldl C.next λ_=>0)]) (⟨false,⟨tg,(0,0)⟩,rc⟩::bl2) (.dC u::.core g fB::.row r::rest)
 |_,_,_=>False
theorem cg (C:Sd.Crypt):dU (ofC (fr:=fr) C):=by
 intro args bl ch K hc;unfold ofC at hc⊢;split at hc
 ·obtain⟨l,h,hK⟩:=hc;exact⟨l,h,hK,[],by simp⟩
 ·exact hc.elim
def tdC (tr:TR) (s:Sd.Scene) (i:Nat):List V:=match tr.v s i with|.agg l=>l|_=>[]
section
variable(C:Sd.Crypt) (tg tc:TypeId) (ty:BT) (u:World) (x:kY) (f:Nat->Nat×Sd.Byt) (o n c:Nat) (a:Option Addr) (os:Nat->sV) (pre post:List Value)
section
variable(K:V->Prop)
def aj9 (l:List Sd.Rec) (i:Nat):Prop:=(i:Int).toNat<l.length/\∀j,(DH l j).length=6
end
end
end Go.Proofs.YtlkpikfddnjilaaGreatDoor
namespace Go.Proofs.YtlkpikfddnjilaaGreatDoor
open Go Go.RowKit Go.BigFrame Sx Vx
def u8V:V->Int
 |.int .u8 n=>n
 |_=>0
def pfx:List V->Nat
 |.int .u8 _::l=>pfx l+1
 |_=>0
def Bw (l:List V) (o:Nat):Nat->Int:=λj=>u8V (nth l (o+j))
theorem Hc (ids:List Nat):∀(l:List V) (j:Nat),j<pfx l->(af ids l)[j]?=some (.int .u8 (u8V (nth l j)))
 |[],j,h=>absurd h (Nat.not_lt_zero _)
 |v::l,j,h=>by
  unfold pfx at h;split at h
  ·rename_i n l' e;cases e;cases j with
   |zero=>simp only[af,cl,den,nth,List.cons_append,List.nil_append];rfl
   |succ j=>
    simp only[af,cl,den,nth,List.cons_append,List.nil_append,List.getElem?_cons_succ];exact Hc ids l j (by omega)
  ·exact absurd h (Nat.not_lt_zero _)
section
variable{G:Type} [Bl G]
def Mf (P:Program):(Operand->V)->Op->List VB->List G->VK G->Prop:=λe op bl ch K=>match op with
 |.call c=>(match c.callee,c.args.toList,c.argTypes.toList with
  |.builtin .append,[s,xs],[t,tx]=>(match P.underlying t,P.underlying tx with
   |some (.slice 5),some (.slice _)=>(match e s,e xs with
    |.sl i 0 0 0,.sl j o m c=>(match bl[j]?with
     |some b=>cond (dE bl.length bl&&Nat.ble (o+m) (pfx b.c)) ((0<m/\m<=c/\m<=1000000)/\∀d:Nat,K (.sl bl.length 0 m (m+d)) (bl++[dD m d (Bw b.c o)]) ch) False
     |none=>False)
    |_,_=>False)
   |_,_=>False)
  |_,_,_=>False)
 |_=>False
theorem uz {gl:Nat->Option Nat}:rR (G:=G) prog gl (Mf prog):=by
 intro e op ids bl ch R ms w0 w K ρ o hg hl S cz ho h;unfold Mf at h;split at h
 ·rename_i c;split at h
  ·rename_i s xs t tx eV bd jL;split at h
   ·rename_i T ht pJ;split at h
    ·rename_i i j q m c' rJ pI;split at h
     ·rename_i b hb;cases hq:dE bl.length bl&&Nat.ble (q+m) (pfx b.c)with
      |false=>rw[hq]at h;exact h.elim
      |true=>
       rw[hq]at h;obtain⟨⟨m0,aj_,hm⟩,h1⟩:=h;rw[Bool.and_eq_true]at hq;obtain⟨hq,hn⟩:=hq;have hn:=Nat.le_of_ble_eq_true hn;have bD:=(cQ hl S hb).2;have hk:cn w (some ⟨ids.getD j 0,q,none⟩) m c' (Bw b.c q):=⟨hm,aj_,(λe=>nomatch e),λx e k hkm=>by
        obtain rfl:=Option.some.inj e;rw[Addr.add_lit,cell_of bD,List.getElem?_toArray];exact Hc ids b.c (q+k) (by omega)⟩
       have fp:=y9 (P:=prog) hk pJ;obtain⟨HA,ar,tJ⟩:=c;simp only at eV bd jL;have e2:ar=#[s,xs]:=by rw[<-bd]
       have e3:tJ=#[t,tx]:=by rw[<-jL]
       subst eV e2 e3;have w_:ρ s=.slice (some ⟨ids.getD i 0,0,none⟩) 0 0:=by rw[cz,rJ];simp only[den]
       have My:ρ xs=.slice (some ⟨ids.getD j 0,q,none⟩) m c':=by rw[cz,pI];simp only[den]
       obtain⟨c2,w2,a_,fP,hle,rC⟩:=rA (g:=Bw b.c q) (x:=some ⟨ids.getD j 0,q,none⟩) (ty:=o.type) (t:=t) fp ht m0 (by omega) ⟨ids.getD i 0,0,none⟩;have h2:=h1 (c2-m);rw[show m+(c2-m)=c2 by omega]at h2;refine⟨_,[w.heap.size],_,_,w2,.inl ?_,by simp[hl],?_,h2⟩
       ·rw[bN (P:=prog) (ρ:=ρ) (o:=o) ho w_ My a_];simp only[den];rw[<-hl,cv]
       ·have e:aL (ids++[w.heap.size]) w.heap.size (dD m (c2-m) (Bw b.c q))=⟨w.heap.size,true,.cells (cN m (Bw b.c q) c2) 5 (0,0)⟩:=by
         unfold aL;rw[j8,show m+(c2-m)=c2 by omega];rfl
        rw[aQ _ _ _ _ hl,aR _ _ (by rw[hl];exact hq)];simp only[lits,e];refine(S.new fP (Nat.le_refl _) rC).perm ?_;rw[List.append_assoc];exact List.perm_middle.symm
     ·exact h.elim
    ·exact h.elim
   ·exact h.elim
  ·exact h.elim
 ·exact h.elim
end
def SG (cr:(Nat->Int)->Nat->Int):QF:=⟨73,λargs bl=>match args with
 |[.sl i o n c]=>(match bl[i]?with
  |some b=>bif Nat.ble (o+n) (pfx b.c)&&Nat.ble n 1000000 then some (True,.int .u16 (cr (Bw b.c o) n))else none
  |none=>none)
 |_=>none⟩
theorem X5 (gl:Nat->Option Nat):(SG jA).Ok prog gl:=by
 intro args bl p_ v_ h hp ids w _ hm;unfold SG at h;dsimp only at h;split at h
 ·rename_i i o n c;split at h
  ·rename_i b hb;cases hq:Nat.ble (o+n) (pfx b.c)&&Nat.ble n 1000000 with
   |false=>rw[hq]at h;cases h
   |true=>
    rw[hq]at h;simp only[cond_true,Option.some.injEq,Prod.mk.injEq]at h;obtain⟨rfl,rfl⟩:=h;rw[Bool.and_eq_true]at hq;have h1:=Nat.le_of_ble_eq_true hq.1;have bD:=hm.2 i _ hb;refine afO (ids.getD i 0) o n c (Bw b.c o) (Nat.le_of_ble_eq_true hq.2) w ?_;intro j hj;rw[cell_of bD,List.getElem?_toArray];exact Hc ids b.c (o+j) (by omega)
  ·cases h
 ·cases h
def nxI (n:Nat) (f:Nat->Int) (hi lo:Int):List Int:=[165,1,(n:Int)]++((List.range n).map f++[hi,lo])
def He (n:Nat) (f:Nat->Int) (hi lo:Int) (us:List Value):List V:=(nxI n f hi lo).map (λx=>V.int .u8 x)++[.rest us]
def ZB (n:Nat) (f:Nat->Int) (hi lo:Int) (us:List Value):List VB:=[⟨false,⟨5,(0,0)⟩,He n f hi lo us⟩]
def nxX (cr:(Nat->Int)->Nat->Int) (n:Nat) (f:Nat->Int) (hi lo:Int) (us:List Value) (d:Nat) (K:VK Empty):Prop:=True/\cond (cr (Bw (He n f hi lo us) 1) (n+2)!=bits .or .u16 (u16.wrap (u16.wrap hi*2^8)) (u16.wrap lo))
 (K (.agg [.int .i64 3,.int .i64 1,.int .i64 12,.raw (.slice none 0 0)]) (ZB n f hi lo us) [])
 ((0<n/\n<=d+(n+5)-3/\n<=1000000)/\∀e:Nat,K (.agg [.int .i64 2,.int .i64 ((n+5:Nat):Int),.int .i64 0,.sl 1 0 n (n+e)]) (ZB n f hi lo us++[dD n e (Bw (He n f hi lo us) 3)]) [])
def nxV (cr:(Nat->Int)->Nat->Int) (n:Nat) (f:Nat->Int) (hi lo:Int) (us:List Value) (d:Nat) (K:VK Empty):Prop:=cI (nz prog gz (qL Empty [SG cr]) (Mf prog) uz) 60 20 [.sl 0 0 (n+5) (d+(n+5))] (ZB n f hi lo us) [] (du 1 K)
section
variable(cr:(Nat->Int)->Nat->Int) (f:Nat->Int) (hi lo:Int) (us:List Value) (d:Nat) (K:VK Empty)
theorem aka:nxV cr 3 f hi lo us d K=nxX cr 3 f hi lo us d K:=by kernel_rfl
theorem akb:nxV cr 4 f hi lo us d K=nxX cr 4 f hi lo us d K:=by kernel_rfl
theorem akc:nxV cr 5 f hi lo us d K=nxX cr 5 f hi lo us d K:=by kernel_rfl
theorem akd:nxV cr 6 f hi lo us d K=nxX cr 6 f hi lo us d K:=by kernel_rfl
theorem ake:nxV cr 9 f hi lo us d K=nxX cr 9 f hi lo us d K:=by kernel_rfl
end
def Jh (l:List Int):Int:=i64.wrap (l.foldl (λs b=>bits .or .u64 (u64.wrap (s*2^8)) (u64.wrap b)) 0)
def trT (bad:Prop) (SH:List Int->Prop):List (List Int×Int×Int)->List Int->Prop
 |[],acc=>SH acc
 |(bs,lo,hi)::l,acc=>cond (decide (Jh bs<lo)) bad (cond (decide (Jh bs>hi)) bad (trT bad SH l (acc++[Jh bs])))
def ZC (l:List Int) (us:List Value):List VB:=[⟨false,⟨5,(0,0)⟩,l.map (λx=>V.int .u8 x)++[.rest us]⟩]
def ZD (n:Nat) (l:List Int) (us:List Value) (e:Nat) (K:VK Empty):Prop:=cI (nz prog gz ([]:List (dF Empty)) (Mf prog) uz) 60 21 [.sl 0 0 n (e+n)] (ZC l us) [] (du 1 K)
def ZE (k a b c d e:Int) (code:Int):V:=.aC [.agg [.int .i64 k,.int .i64 a,.int .i64 b,.int .i64 c,.int .i64 d,.int .i64 e,.int .u8 0,.int .u8 0,.int .u8 0,.int .u8 0,.int .u8 0,.int .u8 0,.int .u8 0,.int .u8 0],.int .i64 code]
def ZF (l:List Int) (us:List Value) (K:VK Empty) (fs:List (List Int×Int×Int)) (g:List Int->V):Prop:=trT (K (ZE 0 0 0 0 0 0 13) (ZC l us) []) (λx=>K (g x) (ZC l us) []) fs []
section
variable(a b c d x:Int) (us:List Value) (e:Nat) (K:VK Empty)
theorem adT:ZD 5 [131,a,b,c,d] us e K=ZF [131,a,b,c,d] us K [([a,b,c,d],0,4294967295)] (λl=>ZE 131 (l.getD 0 0) 0 0 0 0 0):=by kernel_rfl
theorem adU:ZD 5 [130,a,b,c,d] us e K=ZF [130,a,b,c,d] us K [([a],0,3),([b],0,4),([c,d],0,65535)] (λl=>ZE 130 0 (l.getD 0 0) (l.getD 1 0) (l.getD 2 0) 0 0):=by kernel_rfl
theorem adV:ZD 6 [132,a,b,c,d,x] us e K=ZF [132,a,b,c,d,x] us K [([a,b,c,d],0,4294967295),([x],0,255)] (λl=>ZE 132 (l.getD 0 0) 0 0 0 (l.getD 1 0) 0):=by kernel_rfl
theorem adW:ZD 3 [133,a,b] us e K=ZF [133,a,b] us K [([a,b],0,65535)] (λl=>ZE 133 0 0 0 (l.getD 0 0) 0 0):=by kernel_rfl
theorem adX:ZD 4 [134,a,b,c] us e K=ZF [134,a,b,c] us K [([a],0,4),([b,c],0,65535)] (λl=>ZE 134 0 0 (l.getD 0 0) (l.getD 1 0) 0 0):=by kernel_rfl
theorem adY:ZD 4 [135,a,b,c] us e K=ZF [135,a,b,c] us K [([a],0,4),([b,c],0,65535)] (λl=>ZE 135 0 0 (l.getD 0 0) (l.getD 1 0) 0 0):=by kernel_rfl
theorem adZ:ZD 3 [136,a,b] us e K=ZF [136,a,b] us K [([a],0,4),([b],0,255)] (λl=>ZE 136 0 0 (l.getD 0 0) 0 (l.getD 1 0) 0):=by kernel_rfl
end
theorem or8 {s b:Int} (hs:0<=s/\s<2^56) (hb:0<=b/\b<=255):bits .or .u64 (u64.wrap (s*2^8)) (u64.wrap b)=s*256+b:=by
 rw[show u64.wrap b=b by rw[IntKind.wrap_u64];omega];exact su s b hs (by omega)
theorem ZG {a:Int} (ha:0<=a/\a<=255):Jh [a]=a:=by
 unfold Jh;simp only[List.foldl_cons,List.foldl_nil];rw[or8 (by omega) ha,gE (by omega)];omega
theorem ahQ {a b:Int} (ha:0<=a/\a<=255) (hb:0<=b/\b<=255):Jh [a,b]=a*256+b:=by
 unfold Jh;simp only[List.foldl_cons,List.foldl_nil];rw[or8 (by omega) ha,or8 (by omega) hb,gE (by omega)];omega
theorem ahR {a b c d:Int} (ha:0<=a/\a<=255) (hb:0<=b/\b<=255) (hc:0<=c/\c<=255) (hd:0<=d/\d<=255):Jh [a,b,c,d]=((a*256+b)*256+c)*256+d:=by
 unfold Jh;simp only[List.foldl_cons,List.foldl_nil];rw[or8 (by omega) ha,or8 (by omega) hb,or8 (by omega) hc,or8 (by omega) hd,gE (by omega)];omega
theorem lP (k:Nat) (x:Int) (j:Nat):0<=ay k x j/\ay k x j<=255:=by
 unfold ay;rw[IntKind.wrap_u8];omega
theorem Hf {v:Int} (h:0<=v/\v<=255):Jh [ay 1 (u64.wrap v) 0]=v:=by
 rw[ZG (lP _ _ _)];unfold ay;rw[show u64.wrap v=v by rw[IntKind.wrap_u64];omega,IntKind.wrap_u8,Int.fdiv_eq_ediv_of_nonneg _ (by decide)];show v/1%256=v;omega
theorem X6 {v:Int} (h:0<=v/\v<=65535):Jh [ay 2 (u64.wrap v) 0,ay 2 (u64.wrap v) 1]=v:=by
 rw[ahQ (lP _ _ _) (lP _ _ _)];unfold ay;rw[show u64.wrap v=v by rw[IntKind.wrap_u64];omega,IntKind.wrap_u8,IntKind.wrap_u8,Int.fdiv_eq_ediv_of_nonneg _ (by decide),Int.fdiv_eq_ediv_of_nonneg _ (by decide)];show v/256%256*256+v/1%256=v;omega
theorem ahS {v:Int} (h:0<=v/\v<=4294967295):Jh [ay 4 (u64.wrap v) 0,ay 4 (u64.wrap v) 1,ay 4 (u64.wrap v) 2,ay 4 (u64.wrap v) 3]=v:=by
 rw[ahR (lP _ _ _) (lP _ _ _) (lP _ _ _) (lP _ _ _)];unfold ay;rw[show u64.wrap v=v by rw[IntKind.wrap_u64];omega];simp only[IntKind.wrap_u8];rw[Int.fdiv_eq_ediv_of_nonneg _ (by decide),Int.fdiv_eq_ediv_of_nonneg _ (by decide),Int.fdiv_eq_ediv_of_nonneg _ (by decide),Int.fdiv_eq_ediv_of_nonneg _ (by decide)];show((v/16777216%256*256+v/65536%256)*256+v/256%256)*256+v/1%256=v;omega
def trP:List (List Int×Int×Int)->List Int->Prop
 |[],[]=>True
 |(bs,lo,hi)::fs,v::vs=>(Jh bs=v/\lo<=v/\v<=hi)/\trP fs vs
 |_,_=>False
theorem lQ {bad:Prop} {SH:List Int->Prop}:∀(fs:List (List Int×Int×Int)) (vs acc:List Int),trP fs vs->SH (acc++vs)->trT bad SH fs acc
 |[],[],acc,_,hg=>by
  unfold trT;simpa using hg
 |[],v::vs,acc,h,_=>h.elim
 |(bs,lo,hi)::fs,[],acc,h,_=>h.elim
 |(bs,lo,hi)::fs,v::vs,acc,h,hg=>by
  obtain⟨⟨h1,h2,h3⟩,hf⟩:=h;unfold trT;rw[h1];refine aO (λe=>?_) (λ_=>aO (λe=>?_) (λ_=>lQ fs vs _ hf (by simpa using hg)))
  ·have:=of_decide_eq_true e;omega
  ·have:=of_decide_eq_true e;omega
def rpI (r:Sd.Reply):List Int:=(List.range (ff r)).map (xH r)
def Mg (r:Sd.Reply):List V:=[.int .i64 r.kind,.int .i64 r.seq,.int .i64 r.role,.int .i64 r.iY,.int .i64 r.epoch,.int .i64 r.code,.int .u8 (r.ab 0),.int .u8 (r.ab 1),.int .u8 (r.ab 2),.int .u8 (r.ab 3),.int .u8 (r.ab 4),.int .u8 (r.ab 5),.int .u8 (r.ab 6),.int .u8 (r.ab 7)]
theorem lR {n:Nat} {l:List Int} {us:List Value} {e:Nat} {v0:V} (MG:fu 0 v0=true) (h:Hd (ZD n l us e λv b c=>v=v0)) {w:World} {b:Nat} (bD:w.heap[b]?=some (.cells (l.map (λx=>Value.int .u8 x)++us).toArray 5 (0,0))):
 ak prog 21 #[.slice (some ⟨b,0,none⟩) n (e+n)] w λv w'=>v=den [] v0/\Ch [] w w':=by
 have hd:∀l:List Int,af [b] (l.map (λx=>V.int .u8 x)++[.rest us])=l.map (λx=>Value.int .u8 x)++us:=by
  intro l;induction l with
  |nil=>simp only[List.map_nil,List.nil_append,af,cl,List.append_nil]
  |cons x l ih=>simp only[List.map_cons,List.cons_append,af,cl,den,ih,List.nil_append]
 have S:St [] w (lits [b] [b] (ZC l us)++ag ([]:List Empty) []) w:=by
  refine St.Jb ?_;intro y hy;simp only[ZC,lits,ag,List.append_nil,List.mem_cons,List.not_mem_nil,or_false]at hy;subst hy;refine⟨rfl,bD.trans ?_⟩;simp only[aL,hd]
 have hok:ah (G:=Empty) prog gz []:=ah.nil;refine(bw (C:=nz prog gz ([]:List (dF Empty)) (Mf prog) uz) hok.T hok.Q 60 (ids:=[b]) (λg i h=>by cases h) rfl S h.h).mono ?_;rintro v w' ⟨y,more,bl',ch',rfl,h1,S',hK⟩;obtain⟨v2,aS,bl2,hv2,-,S2,J_⟩:=dr (n0:=1) h1 (by simp) S' hK;obtain rfl:v2=v0:=J_;refine⟨?_,S2.ch⟩;rw[hv2];have:=bx (ids:=[]) (more:=List.take 1 ([b]++more)++aS) v2 MG;simpa using this
theorem Hg (r:Sd.Reply) (h:RB r) (h9:r.kind≠129) {us:List Value} {e:Nat} {w:World} {b:Nat} (bD:w.heap[b]?=some (.cells ((rpI r).map (λx=>Value.int .u8 x)++us).toArray 5 (0,0))):
 ak prog 21 #[.slice (some ⟨b,0,none⟩) (ff r) (e+ff r)] w λv w'=>v=den [] (.aC [.agg (Mg r),.int .i64 0])/\Ch [] w w':=by
 have hk:r.kind=130\/r.kind=131\/r.kind=132\/r.kind=133\/r.kind=134\/r.kind=135\/r.kind=136:=by have:=h.kind;omega
 obtain⟨k,sq,ro,wh,ep,co,nc⟩:=r;obtain⟨_,⟨s1,s2⟩,⟨r1,r2⟩,⟨w1,w2⟩,⟨e1,e2⟩,⟨c1,c2⟩,⟨n1,n2⟩⟩:=h;simp only at*;rcases hk with rfl|rfl|rfl|rfl|rfl|rfl|rfl<;>simp at s2 r2 w2 e2 c2 n2<;>subst_vars
 ·exact lR (n:=5) (l:=[130,ay 1 (u64.wrap ro) 0,ay 1 (u64.wrap wh) 0,ay 2 (u64.wrap ep) 0,ay 2 (u64.wrap ep) 1]) rfl ⟨by rw[adU];exact lQ _ [ro,wh,ep] [] ⟨⟨Hf (by omega),r1⟩,⟨Hf ⟨w1.1,by have:=w1.2;omega⟩,w1⟩,⟨X6 e1,e1⟩,trivial⟩ rfl⟩ bD
 ·exact lR (n:=5) (l:=[131,ay 4 (u64.wrap sq) 0,ay 4 (u64.wrap sq) 1,ay 4 (u64.wrap sq) 2,ay 4 (u64.wrap sq) 3]) rfl ⟨by rw[adT];exact lQ _ [sq] [] ⟨⟨ahS s1,s1⟩,trivial⟩ rfl⟩ bD
 ·exact lR (n:=6) (l:=[132,ay 4 (u64.wrap sq) 0,ay 4 (u64.wrap sq) 1,ay 4 (u64.wrap sq) 2,ay 4 (u64.wrap sq) 3,ay 1 (u64.wrap co) 0]) rfl ⟨by rw[adV];exact lQ _ [sq,co] [] ⟨⟨ahS s1,s1⟩,⟨Hf c1,c1⟩,trivial⟩ rfl⟩ bD
 ·exact lR (n:=3) (l:=[133,ay 2 (u64.wrap ep) 0,ay 2 (u64.wrap ep) 1]) rfl ⟨by rw[adW];exact lQ _ [ep] [] ⟨⟨X6 e1,e1⟩,trivial⟩ rfl⟩ bD
 ·exact lR (n:=4) (l:=[134,ay 1 (u64.wrap wh) 0,ay 2 (u64.wrap ep) 0,ay 2 (u64.wrap ep) 1]) rfl ⟨by rw[adX];exact lQ _ [wh,ep] [] ⟨⟨Hf ⟨w1.1,by have:=w1.2;omega⟩,w1⟩,⟨X6 e1,e1⟩,trivial⟩ rfl⟩ bD
 ·exact lR (n:=4) (l:=[135,ay 1 (u64.wrap wh) 0,ay 2 (u64.wrap ep) 0,ay 2 (u64.wrap ep) 1]) rfl ⟨by rw[adY];exact lQ _ [wh,ep] [] ⟨⟨Hf ⟨w1.1,by have:=w1.2;omega⟩,w1⟩,⟨X6 e1,e1⟩,trivial⟩ rfl⟩ bD
 ·exact lR (n:=3) (l:=[136,ay 1 (u64.wrap wh) 0,ay 1 (u64.wrap co) 0]) rfl ⟨by rw[adZ];exact lQ _ [wh,co] [] ⟨⟨Hf ⟨w1.1,by have:=w1.2;omega⟩,w1⟩,⟨Hf c1,c1⟩,trivial⟩ rfl⟩ bD
def D9 (j:Nat):List V:=[.int .i64 1,.int .i64 0,.int .i64 255,.fn 119 [] [.ptr j 0],.fn 120 [] [.ptr j 0]]
def ad0 (u:List Value):VB:=⟨true,⟨168,(0,0)⟩,D9 4++(D9 5++(D9 6++(D9 7++(D9 8++(D9 9++(D9 10++(D9 11++[.rest u])))))))⟩
def bxT:List VB:=(List.range 8).map λj=>⟨true,⟨170,(0,0)⟩,[.ptr 2 (6+j)]⟩
def D_:gZ Empty:=λargs bl ch K=>match args,bl with
 |[.ptr 2 0],[b0,b1,⟨true,⟨75,(0,0)⟩,c⟩]=>cond (dE 3 [b0,b1]) (∃nc,c=Sg nc/\∀(k:Nat) (u:List Value),8<=k->K (.aC [.sl 3 0 8 k,.bool true]) ([b0,b1]++(XQ nc::ad0 u::bxT)) ch) False
 |_,_=>False
theorem Ea:Sound prog (λ_=>none) 46 D_:=by
 intro args ids bl ch R ms w0 w K hg hl S hc;unfold D_ at hc;split at hc
 ·rename_i b0 b1 c;cases hw:dE 3 [b0,b1]with
  |false=>rw[hw]at hc;exact hc.elim
  |true=>
   rw[hw]at hc;obtain⟨nc,rfl,hK⟩:=hc
   match ids,hl with
   |[x0,x1,r],hl3=>
    have S1:St ms w0 (lits [r] [r] [XQ nc]++([aL [x0,x1,r] x0 b0,aL [x0,x1,r] x1 b1]++ag ch R)) w:=by
     have e:lits [x0,x1,r] [x0,x1,r] [b0,b1,⟨true,⟨75,(0,0)⟩,Sg nc⟩]=[aL [x0,x1,r] x0 b0,aL [x0,x1,r] x1 b1,aL [r] r (XQ nc)]:=rfl;rw[e]at S;exact S.perm (cH λf=>by simp only[lits,List.countP_append,List.countP_cons,List.countP_nil];omega)
    have hv:JY (vcU 60 46 [.ptr 0 0] [XQ nc] (du 1 λv b _=>∃k u,v=.aC [.sl 1 0 8 k,.bool true]/\b=me nc u/\8<=k)):=⟨by rw[Sk];exact λc u h1 h2=>Bg 7 1 c u h1 h2 λk u h _=>⟨k,u,rfl,rfl,h⟩⟩;have hr:=Bh hv (ids:=[r]) rfl (by simp) S1;clear hv;refine hr.mono ?_;rintro v w' ⟨x,more,b,rfl,h1,S2,k,u,rfl,rfl,h8⟩;have hm:more.length=9:=by simpa[me,bx9]using h1
    match more,hm with
    |[m0,m1,m2,m3,m4,m5,m6,m7,m8],_=>
     refine⟨.aC [.sl 3 0 8 k,.bool true],[m0,m1,m2,m3,m4,m5,m6,m7,m8],[b0,b1]++(XQ nc::ad0 u::bxT),ch,rfl,rfl,?_,hK k u h8⟩;have e2:lits ([x0,x1,r]++[m0,m1,m2,m3,m4,m5,m6,m7,m8]) ([x0,x1,r]++[m0,m1,m2,m3,m4,m5,m6,m7,m8]) ([b0,b1]++(XQ nc::ad0 u::bxT))=lits ([x0,x1,r]++[m0,m1,m2,m3,m4,m5,m6,m7,m8]) [x0,x1] [b0,b1]++lits ([r]++[m0,m1,m2,m3,m4,m5,m6,m7,m8]) ([r]++[m0,m1,m2,m3,m4,m5,m6,m7,m8]) (me nc u):=rfl;rw[e2,aR (ids:=[x0,x1,r]) [x0,x1] [b0,b1] hw];have S3:St ms w0 (lits ([r]++[m0,m1,m2,m3,m4,m5,m6,m7,m8]) ([r]++[m0,m1,m2,m3,m4,m5,m6,m7,m8]) (me nc u)++([aL [x0,x1,r] x0 b0,aL [x0,x1,r] x1 b1]++ag ch R)) w':=S2;generalize lits ([r]++[m0,m1,m2,m3,m4,m5,m6,m7,m8]) ([r]++[m0,m1,m2,m3,m4,m5,m6,m7,m8]) (me nc u)=L at S3⊢;refine S3.perm (cH λf=>?_);simp only[lits,List.countP_append,List.countP_cons,List.countP_nil];omega
 ·exact hc.elim
def trU (n:Nat) (l:List Int) (us:List Value) (e:Nat) (K:VK Empty):Prop:=cI (dw prog (λ_=>none) [⟨46,false,D_⟩]) 60 21 [.sl 0 0 n (e+n)] (ZC l us) [] (du 1 K)
def rpO (l:List Int):V:=.aC [.agg ([.int .i64 129,.int .i64 0,.int .i64 0,.int .i64 0,.int .i64 0,.int .i64 0]++l.map λx=>.int .u8 (u8.wrap x)),.int .i64 0]
section
variable(a b c d a' b' c' d':Int) (us:List Value) (e:Nat) (K:VK Empty)
theorem ad1:trU 9 [129,a,b,c,d,a',b',c',d'] us e K=∃nc,Sg (λ_=>0)=Sg nc/\∀(k:Nat) (u:List Value),8<=k->ZF [129,a,b,c,d,a',b',c',d'] us K [([a],0,255),([b],0,255),([c],0,255),([d],0,255),([a'],0,255),([b'],0,255),([c'],0,255),([d'],0,255)] rpO:=by kernel_rfl
end
theorem X7 {n:Nat} {l:List Int} {us:List Value} {e:Nat} {v0:V} (MG:fu 0 v0=true) (h:Hd (trU n l us e λv b c=>v=v0)) {w:World} {b:Nat} (bD:w.heap[b]?=some (.cells (l.map (λx=>Value.int .u8 x)++us).toArray 5 (0,0))):
 ak prog 21 #[.slice (some ⟨b,0,none⟩) n (e+n)] w λv w'=>v=den [] v0/\Ch [] w w':=by
 have hd:∀l:List Int,af [b] (l.map (λx=>V.int .u8 x)++[.rest us])=l.map (λx=>Value.int .u8 x)++us:=by
  intro l;induction l with
  |nil=>simp only[List.map_nil,List.nil_append,af,cl,List.append_nil]
  |cons x l ih=>simp only[List.map_cons,List.cons_append,af,cl,den,ih,List.nil_append]
 have S:St [] w (lits [b] [b] (ZC l us)++ag ([]:List Empty) []) w:=by
  refine St.Jb ?_;intro y hy;simp only[ZC,lits,ag,List.append_nil,List.mem_cons,List.not_mem_nil,or_false]at hy;subst hy;refine⟨rfl,bD.trans ?_⟩;simp only[aL,hd]
 have hok:ah (G:=Empty) prog (λ_=>none) [⟨46,false,D_⟩]:=ah.cons ⟨Ea,λe=>by cases e⟩ ah.nil;refine(bw (C:=dw prog (λ_=>none) [⟨46,false,D_⟩]) hok.T hok.Q 60 (ids:=[b]) (λg i h=>by cases h) rfl S h.h).mono ?_;rintro v w' ⟨y,more,bl',ch',rfl,h1,S',hK⟩;obtain⟨v2,aS,bl2,hv2,-,S2,J_⟩:=dr (n0:=1) h1 (by simp) S' hK;obtain rfl:v2=v0:=J_;refine⟨?_,S2.ch⟩;rw[hv2];have:=bx (ids:=[]) (more:=List.take 1 ([b]++more)++aS) v2 MG;simpa using this
theorem SI (r:Sd.Reply) (h:RB r) {us:List Value} {e:Nat} {w:World} {b:Nat} (bD:w.heap[b]?=some (.cells ((rpI r).map (λx=>Value.int .u8 x)++us).toArray 5 (0,0))):
 ak prog 21 #[.slice (some ⟨b,0,none⟩) (ff r) (e+ff r)] w λv w'=>v=den [] (.aC [.agg (Mg r),.int .i64 0])/\Ch [] w w':=by
 by_cases h9:r.kind=129
 ·obtain⟨k,sq,ro,wh,ep,co,nc⟩:=r;obtain⟨_,⟨s1,s2⟩,⟨r1,r2⟩,⟨w1,w2⟩,⟨e1,e2⟩,⟨c1,c2⟩,⟨n1,n2⟩⟩:=h;simp only at*;subst h9;simp at s2 r2 w2 e2 c2 n2
  subst_vars
  have hw:∀j,u8.wrap (nc j)=nc j:=λj=>by have:=n1 j;rw[IntKind.wrap_u8];omega
  have hn:∀j,Jh [nc j]=nc j/\0<=nc j/\nc j<=255:=λj=>⟨ZG (n1 j),n1 j⟩;exact X7 (n:=9) (l:=[129,nc 0,nc 1,nc 2,nc 3,nc 4,nc 5,nc 6,nc 7]) rfl ⟨by
   rw[ad1];exact⟨λ_=>0,rfl,λ_ _ _=>lQ _ [nc 0,nc 1,nc 2,nc 3,nc 4,nc 5,nc 6,nc 7] [] ⟨hn 0,hn 1,hn 2,hn 3,hn 4,hn 5,hn 6,hn 7,trivial⟩ (by
    show rpO _=_;simp only[rpO,List.nil_append,List.map_cons,List.map_nil,hw];rfl)⟩⟩ bD
 ·exact Hg r h h9 bD
theorem ad2 (op:BinOp) (a b:Int):0<=bits op .u16 a b/\bits op .u16 a b<=65535:=by
 unfold bits;rw[IntKind.wrap_u16];omega
theorem X8 (x:Int):0<=CB x/\CB x<=65535:=by
 unfold CB;cases(bits .and .u16 x 32768!=0)with
 |true=>exact ad2 .xor (u16.wrap (x*2^1)) 4129
 |false=>
  simp only[cond_false];rw[IntKind.wrap_u16];omega
theorem X9 (f:Nat->Int):∀n,0<=jA f n/\jA f n<=65535
 |0=>⟨(by decide:(0:Int)<=65535),(by decide:(65535:Int)<=65535)⟩
 |n+1=>X8 _
theorem w6 {f g:Nat->Int}:∀n,(∀j,j<n->f j=g j)->jA f n=jA g n
 |0,_=>rfl
 |n+1,h=>by
  show Ko (jA f n) (f n)=Ko (jA g n) (g n);rw[w6 n (λj hj=>h j (by omega)),h n (by omega)]
theorem akf {x:Int} (hx:0<=x/\x<=65535):bits .or .u16 (u16.wrap (u16.wrap (u8.wrap (Int.fdiv x (2^8)))*2^8)) (u16.wrap (u8.wrap x))=x:=by
 have e1:u8.wrap (Int.fdiv x (2^8))=x/256:=by
  rw[IntKind.wrap_u8,Int.fdiv_eq_ediv_of_nonneg _ (by decide)];show x/256%256=x/256;omega
 have e2:u8.wrap x=x%256:=IntKind.wrap_u8 x;have e3:u16.wrap (u16.wrap (x/256)*2^8)=x/256*256:=by
  rw[IntKind.wrap_u16,IntKind.wrap_u16];omega
 have e4:u16.wrap (x%256)=x%256:=by rw[IntKind.wrap_u16];omega
 rw[e1,e2,e3,e4];obtain⟨a,ha⟩:∃a:Nat,x/256=a:=⟨(x/256).toNat,by omega⟩;obtain⟨b,hb⟩:∃b:Nat,x%256=b:=⟨(x%256).toNat,by omega⟩;have Tf:a<256:=by omega
 have TK:b<256:=by omega
 rw[ha,hb];unfold bits;have h1:(BitVec.ofInt 16 ((a:Int)*256)).toNat=a*256:=by simp only[BitVec.toNat_ofInt];omega
 have h2:(BitVec.ofInt 16 (b:Int)).toNat=b:=by simp only[BitVec.toNat_ofInt];omega
 have h3:(a*256|||b)=a*256+b:=by
  have:=Nat.shiftLeft_add_eq_or_of_lt (i:=8) (b:=b) (by omega) a;rw[Nat.shiftLeft_eq]at this;exact this.symm
 show u16.wrap (((BitVec.ofInt 16 ((a:Int)*256)|||BitVec.ofInt 16 (b:Int)).toNat:Nat):Int)=_;rw[BitVec.toNat_or,h1,h2,h3,IntKind.wrap_u16];omega
def crC (n:Nat) (f:Nat->Int):Int:=jA (Z4 (cy 3 (rN [165,1,n]) f) 1) (3+n-1)
def Mh (n:Nat) (f:Nat->Int):Int:=u8.wrap (Int.fdiv (crC n f) (2^8))
def Mi (n:Nat) (f:Nat->Int):Int:=u8.wrap (crC n f)
def Eb (n:Nat):Prop:=n=3\/n=4\/n=5\/n=6\/n=9
theorem ad3 {n:Nat} (h:Eb n) (cr:(Nat->Int)->Nat->Int) (f:Nat->Int) (hi lo:Int) (us:List Value) (d:Nat) (K:VK Empty):nxV cr n f hi lo us d K=nxX cr n f hi lo us d K:=by
 rcases h with rfl|rfl|rfl|rfl|rfl
 ·exact aka ..
 ·exact akb ..
 ·exact akc ..
 ·exact akd ..
 ·exact ake ..
theorem SJ {n:Nat} (h:Eb n) (f:Nat->Int):(List.range (n+5)).map (o9 n f)=nxI n f (Mh n f) (Mi n f):=by
 rcases h with rfl|rfl|rfl|rfl|rfl<;>rfl
theorem ad4 {n:Nat} (h:Eb n) (f:Nat->Int) (hi lo:Int) (us:List Value):∀j,j<n+2->Bw (He n f hi lo us) 1 j=Z4 (cy 3 (rN [165,1,n]) f) 1 j:=by
 have e:(List.range (n+2)).map (Bw (He n f hi lo us) 1)=(List.range (n+2)).map (Z4 (cy 3 (rN [165,1,n]) f) 1):=by
  rcases h with rfl|rfl|rfl|rfl|rfl<;>rfl
 intro j hj;have:=congrArg (λl=>l[j]?) e;simpa[List.getElem?_range hj]using this
theorem X_ {n:Nat} (h:Eb n) (f:Nat->Int) (hi lo:Int) (us:List Value):∀j,j<n->Bw (He n f hi lo us) 3 j=f j:=by
 have e:(List.range n).map (Bw (He n f hi lo us) 3)=(List.range n).map f:=by
  rcases h with rfl|rfl|rfl|rfl|rfl<;>rfl
 intro j hj;have:=congrArg (λl=>l[j]?) e;simpa[List.getElem?_range hj]using this
theorem Ya {n:Nat} (h:Eb n) (f:Nat->Int) (us:List Value) (d:Nat) {K:VK Empty} (hK:∀e:Nat,K (.agg [.int .i64 2,.int .i64 ((n+5:Nat):Int),.int .i64 0,.sl 1 0 n (n+e)]) (ZB n f (Mh n f) (Mi n f) us++[dD n e (Bw (He n f (Mh n f) (Mi n f) us) 3)]) []):nxX jA n f (Mh n f) (Mi n f) us d K:=by
 have e1:jA (Bw (He n f (Mh n f) (Mi n f) us) 1) (n+2)=crC n f:=by
  unfold crC;rw[w6 (n+2) (ad4 h f _ _ us),show 3+n-1=n+2 by omega]
 have e2:=akf (X9 (Z4 (cy 3 (rN [165,1,n]) f) 1) (3+n-1));have hn:0<n/\n<=9:=by unfold Eb at h;omega
 refine⟨trivial,aO (λe=>?_) (λ_=>⟨⟨hn.1,by omega,by omega⟩,hK⟩)⟩;rw[e1]at e;have:(bits .or .u16 (u16.wrap (u16.wrap (Mh n f)*2^8)) (u16.wrap (Mi n f)))=crC n f:=e2;rw[this]at e;simp at e
theorem ad5 (r:Sd.Reply):Eb (ff r):=Sr r
theorem ad6 {n c:Nat} {f g:Nat->Int} (h:∀j,j<n->f j=g j):cN n f c=cN n g c:=by
 have e:fi n f=fi n g:=List.map_congr_left λj hj=>by rw[h j (List.mem_range.1 hj)]
 unfold cN;rw[e]
theorem Yb {ids:List Nat} (n:Nat) (f:Nat->Int) (hi lo:Int) (us:List Value):af ids (He n f hi lo us)=(nxI n f hi lo).map (λx=>Value.int .u8 x)++us:=by
 unfold He;generalize nxI n f hi lo=l;induction l with
 |nil=>simp only[List.map_nil,List.nil_append,af,cl,List.append_nil]
 |cons x l ih=>simp only[List.map_cons,List.cons_append,af,cl,den,ih,List.nil_append]
theorem SL {n:Nat} (hn:Eb n) (f:Nat->Int) {w:World} {b c:Nat} (hc:n+5<=c) (bD:w.heap[b]?=some (.cells (cN (n+5) (o9 n f) c) 5 (0,0))):
 ak prog 20 #[.slice (some ⟨b,0,none⟩) (n+5) c] w λv w'=>∃b2 e,v=.agg #[.int .i64 2,.int .i64 ((n+5:Nat):Int),.int .i64 0,.slice (some ⟨b2,0,none⟩) n (n+e)]/\w.heap.size<=b2/\w'.heap[b2]?=some (.cells (cN n f (n+e)) 5 (0,0))/\Ch [] w w':=by
 obtain⟨d,rfl⟩:∃d,c=d+(n+5):=⟨c-(n+5),by omega⟩
 let us:List Value:=List.replicate (d+(n+5)-(n+5)) (.int .u8 0)
 have S:St [] w (lits [b] [b] (ZB n f (Mh n f) (Mi n f) us)++ag ([]:List Empty) []) w:=by
  refine St.Jb ?_;intro y hy;simp only[ZB,lits,ag,List.append_nil,List.mem_cons,List.not_mem_nil,or_false]at hy;subst hy;refine⟨rfl,bD.trans ?_⟩;simp only[aL,Yb,<-SJ hn f];unfold cN fi;rw[List.map_map];rfl
 have fI:Hd (nxV jA n f (Mh n f) (Mi n f) us d λv bl _=>∃e,v=.agg [.int .i64 2,.int .i64 ((n+5:Nat):Int),.int .i64 0,.sl 1 0 n (n+e)]/\bl=ZB n f (Mh n f) (Mi n f) us++[dD n e (Bw (He n f (Mh n f) (Mi n f) us) 3)]):=⟨by
  rw[ad3 hn];exact Ya hn f us d λe=>⟨e,rfl,rfl⟩⟩
 have hok:ah (G:=Empty) prog gz (qL Empty [SG jA]):=fJ (aW.cons (X5 _) aW.nil);refine(bw (C:=nz prog gz (qL Empty [SG jA]) (Mf prog) uz) hok.T hok.Q 60 (ids:=[b]) (λg i h=>by cases h) rfl S fI.h).mono ?_;rintro v w' ⟨y,more,bl',ch',rfl,h1,S',hK⟩;obtain⟨v2,aS,bl2,hv2,gH,S2,e,rfl,rfl⟩:=dr (n0:=1) h1 (by simp) S' hK;have ht:List.take 1 ([b]++more)=[b]:=rfl;rw[ht]at hv2 gH S2;have hm:aS.length=1:=by simpa[ZB]using gH
 match aS,hm with
 |[x],_=>
  have zo:aL ([b]++[x]) x (dD n e (Bw (He n f (Mh n f) (Mi n f) us) 3))=⟨x,true,.cells (cN n f (n+e)) 5 (0,0)⟩:=by
   unfold aL;rw[j8,ad6 (X_ hn f _ _ us)];rfl
  have S3:St [] w ([aL ([b]++[x]) b ⟨false,⟨5,(0,0)⟩,He n f (Mh n f) (Mi n f) us⟩,aL ([b]++[x]) x (dD n e (Bw (He n f (Mh n f) (Mi n f) us) 3))]++ag ch' []) w':=S2;rw[zo]at S3;refine⟨x,e,?_,(S3.own 1 _ rfl rfl).resolve_left (by simp),S3.at_ 1 _ rfl,S3.ch⟩;rw[hv2];rfl
def yy:gZ (LG n8):=λargs bl ch K=>match args,ch with
 |[.raw (.slice x n c)],.dC u::.core g fB::rest=>cond (dE bl.length bl) (∃(r:Sd.Reply) (b:List ax),(n=ff r+5/\dG 5 n (o9 (ff r) (xH r)) x c b/\∀y∈b,y∈fB)/\
  ∀d:Nat,K (.agg [.int .i64 2,.int .i64 ((ff r+5:Nat):Int),.int .i64 0,.sl bl.length 0 (ff r) (ff r+d)]) (bl++[dD (ff r) d (xH r)]) (.dC u::.core g fB::rest)) False
 |_,_=>False
theorem Hh {gl:Nat->Option Nat}:Sound prog gl 20 yy:=by
 intro args ids bl ch R ms w0 w K hg hl S hc;unfold yy at hc;split at hc
 ·rename_i x n c u g fB rest;cases hq:dE bl.length bl with
  |false=>rw[hq]at hc;exact hc.elim
  |true=>
   rw[hq]at hc;obtain⟨r,b,⟨rfl,hr,hb⟩,hK⟩:=hc;rcases hr.2 with⟨_,h0,_,_⟩|⟨bk,rfl,rfl⟩
   ·omega
   ·have bD:w.heap[bk]?=some (.cells (cN (ff r+5) (o9 (ff r) (xH r)) c) 5 (0,0)):=S.at' (x:=⟨bk,true,.cells (cN (ff r+5) (o9 (ff r) (xH r)) c) 5 (0,0)⟩) (by
     have:=hb _ List.mem_cons_self;refine List.mem_append_right _ ?_;show _∈dV u++((g.F.B++fB)++ag rest R);exact List.mem_append_right _ (List.mem_append_left _ (List.mem_append_right _ this)))
    have ha:(aq ids [.raw (.slice (some ⟨bk,0,none⟩) (ff r+5) c)]).toArray=#[.slice (some ⟨bk,0,none⟩) (ff r+5) c]:=rfl;rw[ha];refine(SL (ad5 r) (xH r) hr.1 bD).mono ?_;rintro v w' ⟨b2,e,rfl,mj,tK,fP⟩;refine⟨_,[b2],_,_,?_,by simp[hl],?_,hK e⟩
    ·simp only[den,af,cl,List.cons_append,List.nil_append,List.append_nil];rw[<-hl,cv]
    ·have em:aL (ids++[b2]) b2 (dD (ff r) e (xH r))=⟨b2,true,.cells (cN (ff r) (xH r) (ff r+e)) 5 (0,0)⟩:=by
      unfold aL;rw[j8];rfl
     rw[aQ _ _ _ _ hl,aR _ _ (by rw[hl];exact hq)];simp only[lits,em];refine(S.new fP mj tK).perm ?_;rw[List.append_assoc];exact List.perm_middle.symm
 ·exact hc.elim
def trC {G:Type}:gZ G:=λargs bl ch K=>match args with
 |[.sl i 0 n c]=>(match bl[i]?with
  |some ⟨_,⟨5,(0,0)⟩,[.dS .u8 n' f,.dS .u8 d z]⟩=>∃r:Sd.Reply,(RB r/\n=ff r/\n'=ff r/\f=xH r/\c=ff r+d/\z=l0)/\K (.aC [.agg (Mg r),.int .i64 0]) bl ch
  |_=>False)
 |_=>False
theorem Yc (r:Sd.Reply):fu 0 (.aC [.agg (Mg r),.int .i64 0])=true:=rfl
theorem SN {G:Type} [Bl G] {gl:Nat->Option Nat}:Sound (G:=G) prog gl 21 trC:=by
 intro args ids bl ch R ms w0 w K hg hl S hc;unfold trC at hc;split at hc
 ·rename_i i n c;split at hc
  ·rename_i wr n' f d z hb;obtain⟨r,⟨hr,rfl,rfl,rfl,rfl,rfl⟩,hK⟩:=hc;have bD:=(cQ hl S hb).2;have hd:af ids [V.dS .u8 (ff r) (xH r),.dS .u8 d l0]=(rpI r).map (λx=>Value.int .u8 x)++(List.range d).map (λj=>Value.int .u8 (l0 j)):=by
    simp only[af,cl,List.append_nil,rpI,List.map_map];rfl
   rw[hd]at bD;have ha:(aq ids [.sl i 0 (ff r) (ff r+d)]).toArray=#[.slice (some ⟨ids.getD i 0,0,none⟩) (ff r) (d+ff r)]:=by
    rw[Nat.add_comm d];rfl
   rw[ha];refine(SI r hr bD).mono ?_;rintro v w' ⟨rfl,fP⟩;refine⟨.aC [.agg (Mg r),.int .i64 0],[],bl,ch,?_,by simpa using hl,by simpa using S.quiet fP,hK⟩;have:=bx (ids:=[]) (more:=ids++[]) (.aC [.agg (Mg r),.int .i64 0]) (Yc r);simpa using this.symm
  ·exact hc.elim
 ·exact hc.elim
theorem SO {G:Type}:dU (trC (G:=G)):=by
 intro args bl ch K hc;unfold trC at hc⊢;split at hc
 ·split at hc
  ·obtain⟨r,h,hK⟩:=hc;exact⟨r,h,hK,[],by simp⟩
  ·exact hc.elim
 ·exact hc.elim
theorem Hj:dU yy:=by
 intro args bl ch K hc;unfold yy at hc⊢;split at hc
 ·revert hc;cases dE bl.length bl with
  |false=>exact λh=>h.elim
  |true=>
   rintro⟨r,b,h,hK⟩;exact⟨r,b,h,λd=>⟨hK d,_,rfl⟩⟩
 ·exact hc.elim
end Go.Proofs.YtlkpikfddnjilaaGreatDoor
