/- Part 27 of the proof. -/
import Derived.Test.YtlkpikfddnjilaaGreatDoorRows
import Derived.ProofKit
import Derived.OpenShut
import Derived.FnData
import Derived.MakeChecks
import Derived.Stop.Joined
import Derived.WalkKit
import Derived.Below
import Derived.BigQuiet
import Derived.WalkSpells
import Derived.Lib.Hide
import Derived.Laws.CopyOwn
import Derived.Carry
import Derived.Test.YtlkpikfddnjilaaGreatDoorQ26
set_option linter.all false
set_option maxRecDepth 100000
set_option maxHeartbeats 4000000
open Go.Proofs.Tryz
open Go.IntKind (u8 u16 u32 u64 i64)
namespace Go.Proofs.YtlkpikfddnjilaaGreatDoor
open Go Go.RowKit Go.BigFrame Sx Go.ChangeShapes Go.WideShapes
section
variable{H:Type} {enc:TypeId×Value->H} {P:Program} {w:World} {base:Nat} {spare:Nat->Bool} {held:Bool} {fuel:Nat} {t e:TypeId} {cs:List Value} {ps:List MemPlace}
theorem Im {l:List Value} {i:Nat} {v:Value} (h:(l.drop i).take 1=[v]):l[i]?=some v:=by
 have h1:((l.drop i).take 1)[0]?=some v:=by rw[h];rfl
 rw[List.getElem?_take]at h1;simpa using h1
theorem Wu {k:IntKind} {zs:List Int} (ht:P.underlying t=some (.array zs.length e)) (he:P.underlying e=some (.int k)) (hc:P.cellsOf e=1) (hn:P.cellsOf t=zs.length)
 (h:DataW.trod enc P w base spare held fuel t cs=some (.agg (zs.map λz=>.lit (.int k z)),ps)):cs=zs.map (Value.int k):=by
 obtain⟨xs,m,rfl,hx,hlen,RQ,GW⟩:=DataW.trod_array ht h;simp only[Prod.mk.injEq,DataW.agg.injEq]at hx;rw[hn]at hlen;apply List.ext_getElem?;intro i;by_cases hi:i<zs.length
 ·have h1:=GW i hi;rw[hc,Nat.mul_one,List.getElem?_eq_getElem (by omega)]at h1;obtain⟨z,e1,e2,_⟩:=DataW.trod_int he h1;have h3:(zs.map λz=>(DataW.lit (.int k z):DataW H))[i]?=(xs.map (·.1))[i]?:=by rw[hx.1]
  rw[List.getElem?_map,List.getElem?_map,List.getElem?_eq_getElem hi,List.getElem?_eq_getElem (by omega),Option.map_some,Option.map_some,e2]at h3;simp at h3;rw[Im e1,List.getElem?_map,List.getElem?_eq_getElem hi,Option.map_some,h3]
 ·rw[List.getElem?_eq_none (by omega),List.getElem?_eq_none (by simp;omega)]
theorem Io {n:String} {g:Nat} {c:Array Value} (hg:P.globalNamed n=some g) (h:w.var? P n=some c):∃t f,w.heap[g]?=some (.cells c t f):=by
 simp only[World.var?,hg,Option.bind_some]at h;split at h
 ·next c' t f h2=>simp at h;subst h;exact⟨t,f,h2⟩
 ·cases h
end
def wy:List Int:=(List.range 64).map λi=>aT i
def Q8:List (String×DataW Unit):=[("sidestick/gate.commands",Rows.laid_sidestick_gate_commands),("sidestick/sha.roots",Rows.laid_sidestick_sha_roots)]
theorem Q9 {W:World} (h:laidMetH prog Q8 W):∃t,W.heap[0]?=some (.cells (aj .u32 64 aT) t (0,0)):=by
 rw[MakeChecks.laidMetH_plain _ _ _ (by kernel_rfl)]at h;obtain⟨ps,⟨g0,t0,cs0,f0,p0,q0,hg0,ht0,XJ,hd0,⟨g1,t1,cs1,f1,p1,q1,hg1,ht1,Rp,hd1,_,hq⟩,Mo⟩,_,gb⟩:=h;obtain rfl:g1=0:=Option.some.inj (hg1.symm.trans (show prog.globalNamed "sidestick/sha.roots" =some 0 by kernel_rfl));have e1:(prog.globals[0]?).map (·.type)=some 244:=by kernel_rfl
 obtain rfl:t1=244:=Option.some.inj (ht1.symm.trans e1);have GN:cs1.toList=wy.map (Value.int .u32):=by
  have hd2:DataW.trod (λ_=>()) prog W 0 (λ_=>true) false f1 244 cs1.toList=some (.agg (wy.map λz=>.lit (.int .u32 z)),p1):=
   hd1.trans (congrArg (λd=>some (d,p1)) (show(Rows.laid_sidestick_sha_roots:DataW Unit)=.agg (wy.map λz=>.lit (.int .u32 z)) by kernel_rfl))
  exact Wu (k:=.u32) (zs:=wy) (e:=207) (by kernel_rfl) (by kernel_rfl) (by kernel_rfl) (by kernel_rfl) hd2
 obtain⟨t,f,cD⟩:=Io (show prog.globalNamed "sidestick/sha.roots" =some 0 by kernel_rfl) Rp;have hc1:cs1=aj .u32 64 aT:=by
  apply Array.ext';rw[GN];simp[wy,aj]
 obtain⟨c,t',XR⟩:=(gb 0 0 (by
  rw[Mo,hq,hc1];have:MemPlace.cell 0 0∈MemPlace.row ⟨0,0,none⟩ (aj .u32 64 aT).size:=by
   rw[kU];simp[MemPlace.row]
  simp[this])).1
 rw[cD]at XR;simp only[Option.some.injEq,Obj.cells.injEq]at XR;refine⟨t,?_⟩;rw[cD,hc1,XR.2.2]
end Go.Proofs.YtlkpikfddnjilaaGreatDoor
namespace Sd
open Go Go.RowKit
noncomputable def over (w:World) (B:Nat) (u:World):World:=@ite _ (Below B w u) (Classical.propDecidable _) u w
theorem over_below (w:World) (B:Nat) (u:World):Below B w (over w B u):=by
 unfold over;split
 ·assumption
 ·exact Below.refl _ _
@[go_sem] theorem cell?_over (w:World) (B:Nat) (u:World) (b o:Nat) (h:b<B):(over w B u).cell? ⟨b,o,none⟩=w.cell? ⟨b,o,none⟩:=(over_below w B u).cell h
@[go_sem] theorem frozen?_over (w:World) (B:Nat) (u:World) (b o:Nat) (h:b<B):(over w B u).frozen? ⟨b,o,none⟩=w.frozen? ⟨b,o,none⟩:=(over_below w B u).frozen h
section
variable{P:Program}
end
theorem bt {w a b:World} (h:Below w.heap.size w a) (k:Below a.heap.size a b):Below w.heap.size w b:=h.trans (k.mono h.size)
theorem bs {w a:World} (h:Below w.heap.size w a) {p:Addr} (hp:w.heap.size<=p.block) (v:Value):Below w.heap.size w (a.setCell p v):=h.setCell hp v
def jc (d:TypeDesc):Bool:=match d with|.struct _|.array _ _=>true|_=>false
structure afV (P:Program) (ty n:Nat):Prop where
 desc:∃d,P.underlying ty=some d/\jc d=true
 size:(P.info? ty).map (·.size)=some n
theorem afV.load {P:Program} {ty n:Nat} (h:afV P ty n) {w:World} {g:Nat} {t:TypeId} {cs:Array Value} {fr:Nat×Nat} (hg:w.heap[g]?=some (.cells cs t fr)) (hn:cs.size=n):
 (loadVar ty ⟨g,0,none⟩).run P w=.ok (.agg cs) w:=by
 obtain⟨⟨d,hu,hd⟩,hs⟩:=h;exact run_loadVar_row w g t ty cs fr d hg hu (by cases d<;>first|rfl|simp[jc]at hd) (by rw[hs,hn])
section
variable{P:Program} {ops:Array Oper} {rest:List Oper} {o:Oper} {a:Act} {w:World} {Q:Exit->Act->World->Prop}
end
def I64 (n:Int):Prop:=-9223372036854775808<=n/\n<=9223372036854775807
theorem i64 {n:Int} (h:-9223372036854775808<=n/\n<=9223372036854775807):I64 n:=h
end Sd
namespace Sd
open Go Go.RowKit Go.ChangeShapes Go.WideShapes Go.ChangeAt
theorem ox {H:Type} {enc:TypeId×Value->H} {P:Program} (hl:laidOutB P=true) {W W':World} (hb:Below W.heap.size W W'):
 ∀{ts:List TypeId} {vs:List Value} {ds:List (DataW H)} {ps:List MemPlace},(ts.all λt=>P.readableRec t&&decide (t<P.types.size))=true->
  DataW.TrodAll enc P W 0 (λ_=>true) true ts vs ds ps->(∀p∈ps,p.block<W.heap.size)->DataW.TrodAll enc P W' 0 (λb=>decide (b<W.heap.size)) true ts vs ds ps
 |[],[],[],_,_,h,_=>h
 |t::ts,v::vs,d::ds,ps,hr,h,hp=>by
  obtain⟨p,q,h1,h2,rfl⟩:=h;simp only[List.all_cons,Bool.and_eq_true,decide_eq_true_eq]at hr;exact⟨p,q,Below.trod hl hr.1.1 hr.1.2 h1 hb (λx hx=>hp x (List.mem_append_left _ hx)),ox hl hb hr.2 h2 (λx hx=>hp x (List.mem_append_right _ hx)),rfl⟩
 |[],[],_::_,_,_,h,_=>h.elim
 |[],_::_,_,_,_,h,_=>h.elim
 |_::_,[],_,_,_,h,_=>h.elim
 |_::_,_::_,[],_,_,h,_=>h.elim
theorem Q_ {H:Type} {enc:TypeId×Value->H} {P:Program} {f:Func} {s:ChangeSpec} {W W':World} {args:Array Value} {ds gs:List (DataW H)} {before:List MemPlace} {tb:TypeId}
 (hl:laidOutB P=true) (hr:(f.params.toList.all λt=>P.readableRec t&&decide (t<P.types.size))=true) (XS:s.vars=[]) (Ps:f.resultTypes=#[tb]) (htb:P.underlying tb=some .bool)
 (hs:s.fn H (ds++gs)={results:=[.lit (.bool true)],args:=ds,vars:=[]}) (hW:DataW.Whole enc P f.params.toList s.vars false W args.toList ds gs before) (hb:Below W.heap.size W W'):
 s.post enc P f false true false false W args (.bool true) W':=by
 have hW0:=hW;have im:=λp hp=>hW.lt p hp;obtain⟨p,q,hA,hV,rfl,hz,hn⟩:=hW;rw[XS]at hV;obtain⟨rfl,rfl⟩:=trodVars_none hV;refine⟨ds,[],p++[],[],p,[],hW0,?_,?_,?_,?_,λh=>by cases h⟩
 ·rw[hs,Ps];exact trodAll_mk1 (shut_bool htb _)
 ·rw[hs];exact ox hl hb hr hA (λx hx=>im x (by simpa using hx))
 ·rw[hs,XS];exact rfl
 ·exact hb.frame _
section
variable{P:Program} {w:World} {r:Reach} {b0:Nat} {t:TypeId} {v:Value}
theorem Gw {d:TypeDesc} {ts:List TypeId} (hu:P.underlying t=some d) (hd:jc d=true) (hct:P.cellTypes P.depth t=some ts) (hn:P.cellsOf t=ts.length) (hv:Value.okWide P w r b0 t v):
 ∃cs:Array Value,v=.agg cs/\cs.size=ts.length/\∀(i:Nat) x u,cs[i]?=some x->ts[i]?=some u->Cell.okWide P w r b0 u x:=by
 have h:∃cs,v=.agg cs/\cs.size=P.cellsOf t/\Row.okWide P w r b0 t cs:=by
  unfold Value.okWide at hv;rw[hu]at hv;cases d<;>first|exact hv|simp[jc]at hd
 obtain⟨cs,rfl,iZ,ts',h1,_,h2⟩:=h;rw[hct]at h1;obtain rfl:ts=ts':=by simpa using h1
 refine⟨cs,rfl,iZ.trans hn,?_⟩;intro i x u hx hu';obtain⟨u',h3,h4⟩:=h2 i x hx;have hi:i<ts.length:=by
  rcases Nat.lt_or_ge i ts.length with h|h
  ·exact h
  ·simp[h]at hu'
 rw[Nat.mod_eq_of_lt hi,hu']at h3;obtain rfl:u=u':=by simpa using h3
 exact h4
theorem Dx {d:TypeDesc} (hu:P.underlying t=some d) (hd:jc d=false) (hv:Value.okWide P w r b0 t v):Cell.okWide P w r b0 t v:=by
 unfold Value.okWide at hv;rw[hu]at hv;cases d<;>first|exact hv|simp[jc]at hd
theorem Ra {k:IntKind} (hu:P.underlying t=some (.int k)) (h:Cell.okWide P w r b0 t v):∃n,v=.int k n/\k.min<=n/\n<=k.max:=by
 unfold Cell.okWide at h;rw[hu]at h;unfold Cell.ok at h;rw[hu]at h;cases v<;>simp at h;obtain⟨rfl,h1,h2⟩:=h;exact⟨_,rfl,h1,h2⟩
theorem Rb (hu:P.underlying t=some (.int .i64)) (h:Cell.okWide P w r b0 t v):∃n,v=.int .i64 n/\I64 n:=by
 obtain⟨n,h1,h2,h3⟩:=Ra hu h;exact⟨n,h1,by unfold I64;simpa[IntKind.min,IntKind.max,IntKind.signed,IntKind.bits]using And.intro h2 h3⟩
end
end Sd
namespace Go.Proofs.YtlkpikfddnjilaaGreatDoor
open Go Go.RowKit Go.WideShapes Sd
def Ip (W:World) (a:Option Addr) (n c:Nat):Prop:=n<=c/\((a=none/\n=0/\c=0)\/∃x,a=some x/\(c:Int)<=i64.max/\W.has prog .any 0 x 5 c)
theorem pF {W:World} {v:Value} {t e:TypeId} (hu:prog.underlying t=some (.slice e)) (h:Cell.okWide prog W .any 0 t v):
 ∃a n c,v=.slice a n c/\n<=c/\((a=none/\n=0/\c=0)\/∃x,a=some x/\(c:Int)<=i64.max/\W.has prog .any 0 x e c):=by
 unfold Cell.okWide at h;rw[hu]at h;cases v with
 |slice a n c=>
  unfold Cell.ok at h;rw[hu]at h;cases a with
  |none=>
   cases n<;>cases c<;>first|exact⟨_,_,_,rfl,by omega,Or.inl ⟨rfl,rfl,rfl⟩⟩|(simp at h)
  |some a=>exact⟨_,_,_,rfl,h.1,Or.inr ⟨a,rfl,h.2⟩⟩
 |_=>unfold Cell.ok at h;rw[hu]at h;simp at h
theorem Rc {W:World} {v:Value} (hv:Value.okWide prog W .any 0 28 v):
 ∃(q:Nat->Int) (ka:Nat->Option Addr) (kn kc:Nat->Nat),v=.agg (Fa q ka kn kc)/\(∀i,-9223372036854775808<=q i/\q i<=9223372036854775807)/\∀i,i<4->Ip W (ka i) (kn i) (kc i):=by
 obtain⟨cs,rfl,iZ,GN⟩:=Gw Tryz.underlying28 rfl (ts:=[3,3,3,3,3,23,23,23,23,3,3,3,3,3,3,3,3,3,3,3,3,3,3,3,3,3,3,3,3,3,3,3,3,3,3,3,3,3,3,3,3,3,3,3,3,3,3,3,3,3,3,3,3,3,3,3]) (by kernel_rfl) (by kernel_rfl) hv;have cD:∀i,i<56->∃x,cs[i]?=some x:=λi hi=>⟨cs[i]'(by rw[iZ];exact hi),by rw[Array.getElem?_eq_getElem]⟩;have hI:∀i,i<56->(i<5\/8<i)->∃n,cs[i]?=some (.int .i64 n)/\I64 n:=by
  intro i hi fc;obtain⟨x,hx⟩:=cD i hi;have ht:([3,3,3,3,3,23,23,23,23,3,3,3,3,3,3,3,3,3,3,3,3,3,3,3,3,3,3,3,3,3,3,3,3,3,3,3,3,3,3,3,3,3,3,3,3,3,3,3,3,3,3,3,3,3,3,3]:List Nat)[i]?=some 3:=by clear hx;revert i;decide
  obtain⟨n,rfl,hn⟩:=Rb Tryz.underlying3 (GN i x 3 hx ht);exact⟨n,hx,hn⟩
 have hS:∀i,i<4->∃a n c,cs[5+i]?=some (.slice a n c)/\Ip W a n c:=by
  intro i hi;obtain⟨x,hx⟩:=cD (5+i) (by omega);have ht:([3,3,3,3,3,23,23,23,23,3,3,3,3,3,3,3,3,3,3,3,3,3,3,3,3,3,3,3,3,3,3,3,3,3,3,3,3,3,3,3,3,3,3,3,3,3,3,3,3,3,3,3,3,3,3,3]:List Nat)[5+i]?=some 23:=by clear hx;revert i;decide
  obtain⟨a,n,c,rfl,h1,h2⟩:=pF Tryz.underlying23 (GN (5+i) x 23 hx ht);exact⟨a,n,c,hx,h1,h2⟩
 let q:Nat->Int:=λi=>match cs[i]?with|some (.int _ n)=>n|_=>0
 let ka:Nat->Option Addr:=λi=>match cs[5+i]?with|some (.slice a _ _)=>a|_=>none
 let kn:Nat->Nat:=λi=>match cs[5+i]?with|some (.slice _ n _)=>n|_=>0
 let kc:Nat->Nat:=λi=>match cs[5+i]?with|some (.slice _ _ c)=>c|_=>0
 have hq:∀i,i<56->(i<5\/8<i)->cs[i]?=some (.int .i64 (q i))/\I64 (q i):=by
  intro i hi fc;obtain⟨n,hx,hn⟩:=hI i hi fc;have:q i=n:=by simp only[q,hx]
  rw[this];exact⟨hx,hn⟩
 have hk:∀i,i<4->cs[5+i]?=some (.slice (ka i) (kn i) (kc i))/\Ip W (ka i) (kn i) (kc i):=by
  intro i hi;obtain⟨a,n,c,hx,hn⟩:=hS i hi;have h1:ka i=a:=by simp only[ka,hx]
  have h2:kn i=n:=by simp only[kn,hx]
  have h3:kc i=c:=by simp only[kc,hx]
  rw[h1,h2,h3];exact⟨hx,hn⟩
 refine⟨q,ka,kn,kc,?_,?_,λi hi=>(hk i hi).2⟩
 ·congr 1;apply Array.ext_getElem?;intro i;by_cases hi:i<56
  ·match i,hi with
   |0,_=>exact(hq 0 (by omega) (by omega)).1.trans rfl
   |1,_=>exact(hq 1 (by omega) (by omega)).1.trans rfl
   |2,_=>exact(hq 2 (by omega) (by omega)).1.trans rfl
   |3,_=>exact(hq 3 (by omega) (by omega)).1.trans rfl
   |4,_=>exact(hq 4 (by omega) (by omega)).1.trans rfl
   |5,_=>exact(hk 0 (by omega)).1.trans rfl
   |6,_=>exact(hk 1 (by omega)).1.trans rfl
   |7,_=>exact(hk 2 (by omega)).1.trans rfl
   |8,_=>exact(hk 3 (by omega)).1.trans rfl
   |9,_=>exact(hq 9 (by omega) (by omega)).1.trans rfl
   |10,_=>exact(hq 10 (by omega) (by omega)).1.trans rfl
   |11,_=>exact(hq 11 (by omega) (by omega)).1.trans rfl
   |12,_=>exact(hq 12 (by omega) (by omega)).1.trans rfl
   |13,_=>exact(hq 13 (by omega) (by omega)).1.trans rfl
   |14,_=>exact(hq 14 (by omega) (by omega)).1.trans rfl
   |15,_=>exact(hq 15 (by omega) (by omega)).1.trans rfl
   |16,_=>exact(hq 16 (by omega) (by omega)).1.trans rfl
   |17,_=>exact(hq 17 (by omega) (by omega)).1.trans rfl
   |18,_=>exact(hq 18 (by omega) (by omega)).1.trans rfl
   |19,_=>exact(hq 19 (by omega) (by omega)).1.trans rfl
   |20,_=>exact(hq 20 (by omega) (by omega)).1.trans rfl
   |21,_=>exact(hq 21 (by omega) (by omega)).1.trans rfl
   |22,_=>exact(hq 22 (by omega) (by omega)).1.trans rfl
   |23,_=>exact(hq 23 (by omega) (by omega)).1.trans rfl
   |24,_=>exact(hq 24 (by omega) (by omega)).1.trans rfl
   |25,_=>exact(hq 25 (by omega) (by omega)).1.trans rfl
   |26,_=>exact(hq 26 (by omega) (by omega)).1.trans rfl
   |27,_=>exact(hq 27 (by omega) (by omega)).1.trans rfl
   |28,_=>exact(hq 28 (by omega) (by omega)).1.trans rfl
   |29,_=>exact(hq 29 (by omega) (by omega)).1.trans rfl
   |30,_=>exact(hq 30 (by omega) (by omega)).1.trans rfl
   |31,_=>exact(hq 31 (by omega) (by omega)).1.trans rfl
   |32,_=>exact(hq 32 (by omega) (by omega)).1.trans rfl
   |33,_=>exact(hq 33 (by omega) (by omega)).1.trans rfl
   |34,_=>exact(hq 34 (by omega) (by omega)).1.trans rfl
   |35,_=>exact(hq 35 (by omega) (by omega)).1.trans rfl
   |36,_=>exact(hq 36 (by omega) (by omega)).1.trans rfl
   |37,_=>exact(hq 37 (by omega) (by omega)).1.trans rfl
   |38,_=>exact(hq 38 (by omega) (by omega)).1.trans rfl
   |39,_=>exact(hq 39 (by omega) (by omega)).1.trans rfl
   |40,_=>exact(hq 40 (by omega) (by omega)).1.trans rfl
   |41,_=>exact(hq 41 (by omega) (by omega)).1.trans rfl
   |42,_=>exact(hq 42 (by omega) (by omega)).1.trans rfl
   |43,_=>exact(hq 43 (by omega) (by omega)).1.trans rfl
   |44,_=>exact(hq 44 (by omega) (by omega)).1.trans rfl
   |45,_=>exact(hq 45 (by omega) (by omega)).1.trans rfl
   |46,_=>exact(hq 46 (by omega) (by omega)).1.trans rfl
   |47,_=>exact(hq 47 (by omega) (by omega)).1.trans rfl
   |48,_=>exact(hq 48 (by omega) (by omega)).1.trans rfl
   |49,_=>exact(hq 49 (by omega) (by omega)).1.trans rfl
   |50,_=>exact(hq 50 (by omega) (by omega)).1.trans rfl
   |51,_=>exact(hq 51 (by omega) (by omega)).1.trans rfl
   |52,_=>exact(hq 52 (by omega) (by omega)).1.trans rfl
   |53,_=>exact(hq 53 (by omega) (by omega)).1.trans rfl
   |54,_=>exact(hq 54 (by omega) (by omega)).1.trans rfl
   |55,_=>exact(hq 55 (by omega) (by omega)).1.trans rfl
   |i+56,h=>exact absurd h (by omega)
  ·rw[Array.getElem?_eq_none (by rw[iZ];exact Nat.le_of_not_lt hi),Array.getElem?_eq_none (Nat.le_of_not_lt hi)]
 ·intro i;by_cases hi:i<56/\(i<5\/8<i)
  ·exact(hq i hi.1 hi.2).2
  ·have:q i=0:=by
    by_cases h5:i<56
    ·obtain⟨a,n,c,hx,_⟩:=hS (i-5) (by omega);rw[show 5+(i-5)=i by omega]at hx;simp only[q,hx]
    ·have hx:cs[i]?=none:=Array.getElem?_eq_none (by rw[iZ];exact Nat.le_of_not_lt h5);simp only[q,hx]
   rw[this];omega
end Go.Proofs.YtlkpikfddnjilaaGreatDoor
namespace Go.Proofs.YtlkpikfddnjilaaGreatDoor
open Go Go.RowKit Go.WideShapes Sd Sx
theorem Re {W:World} {a:Option Addr} {m c:Nat} (gb:∀n,Rd prog W n 23 [.slice a m c]) (hk:Ip W a m c):∃kb:Nat->Int,Pe [] W a m c kb:=by
 obtain⟨h1,h2⟩:=hk;rcases h2 with⟨e1,e2,e3⟩|⟨x,e1,hc,hh⟩
 ·exact⟨λ_=>0,h1,λ_=>⟨e2,e3⟩,λad ha=>by rw[e1]at ha;cases ha⟩
 ·rcases wv Tryz.underlying23 gb (z:=1) (by kernel_rfl) 5 (ts:=[5]) (by kernel_rfl)with h0|⟨a',afS,afT,h0,_,_,C,hC⟩
  ·rw[e1]at h0;simp at h0
  ·rw[e1]at h0;simp only[Value.slice.injEq,Option.some.injEq]at h0;obtain⟨rfl,rfl,rfl⟩:=h0;refine⟨λj=>match C j 0 with|.int _ n=>n|_=>0,h1,λh=>(by rw[e1]at h;cases h),λad ha=>⟨by simp,λj hj=>?_⟩⟩;rw[e1]at ha;obtain rfl:=Option.some.inj ha;obtain⟨h3,h4⟩:=hC j (by omega) 0 (by omega);obtain⟨n,h5,_⟩:=wu Tryz.underlying5 (h4 _ rfl);simp only[h5]at h3⊢;simpa using h3
theorem KC {W:World} {v:Value} (hv:Value.okWide prog W .any 0 28 v) (hr:∀n,Rd prog W n 28 v.cells.toList):
 ∃(q:Nat->Int) (ka:Nat->Option Addr) (kn kc:Nat->Nat) (kb:Nat->Nat->Int),v=.agg (Fa q ka kn kc)/\(∀i,-9223372036854775808<=q i/\q i<=9223372036854775807)/\∀i,i<4->Pe [] W (ka i) (kn i) (kc i) (kb i):=by
 obtain⟨q,ka,kn,kc,rfl,hq,hk⟩:=Rc hv;have key:∀i,i<4->∃kb:Nat->Int,Pe [] W (ka i) (kn i) (kc i) kb:=by
  intro i hi;have gb:∀n,Rd prog W n 23 [.slice (ka i) (kn i) (kc i)]:=by
   have h5:(Fa q ka kn kc)[5+i]?=some (.slice (ka i) (kn i) (kc i)):=by
    match i,hi with
    |0,_=>rfl
    |1,_=>rfl
    |2,_=>rfl
    |3,_=>rfl
    |i+4,h=>exact absurd h (by omega)
   have AR:cellAt prog 6 28 (5+i)=some 23:=by
    have e:i=0\/i=1\/i=2\/i=3:=by omega
    rcases e with rfl|rfl|rfl|rfl
    ·show cellAt prog 6 28 5=some 23;kernel_rfl
    ·show cellAt prog 6 28 6=some 23;kernel_rfl
    ·show cellAt prog 6 28 7=some 23;kernel_rfl
    ·show cellAt prog 6 28 8=some 23;kernel_rfl
   exact ry 6 (P:=prog) (w:=W) (t:=28) (cs:=(Fa q ka kn kc).toList) (j:=5+i) hr AR (by simpa using h5)
  exact Re gb (hk i hi)
 obtain⟨kb,hkb⟩:=Deep.choose_lt key;exact⟨q,ka,kn,kc,kb,rfl,hq,hkb⟩
end Go.Proofs.YtlkpikfddnjilaaGreatDoor
namespace Go.Proofs.YtlkpikfddnjilaaGreatDoor
open Go Go.RowKit Go.BigFrame Go.WideShapes Go.ChangeShapes Sd Sx Vx
section
variable{H:Type} {enc:TypeId×Value->H} {P:Program} {w:World} {base:Nat} {spare:Nat->Bool} {held:Bool} {fuel:Nat} {t e:TypeId} {cs:List Value} {ps:List MemPlace}
theorem Rf {zs:List Bool} (ht:P.underlying t=some (.array zs.length e)) (he:P.underlying e=some .bool) (hc:P.cellsOf e=1) (hn:P.cellsOf t=zs.length)
 (h:DataW.trod enc P w base spare held fuel t cs=some (.agg (zs.map λz=>.lit (.bool z)),ps)):cs=zs.map Value.bool:=by
 obtain⟨xs,m,rfl,hx,hlen,RQ,GW⟩:=DataW.trod_array ht h;simp only[Prod.mk.injEq,DataW.agg.injEq]at hx;rw[hn]at hlen;apply List.ext_getElem?;intro i;by_cases hi:i<zs.length
 ·have h1:=GW i hi;rw[hc,Nat.mul_one,List.getElem?_eq_getElem (by omega)]at h1;obtain⟨z,e1,e2⟩:=DataW.trod_bool he h1;have h3:(zs.map λz=>(DataW.lit (.bool z):DataW H))[i]?=(xs.map (·.1))[i]?:=by rw[hx.1]
  rw[List.getElem?_map,List.getElem?_map,List.getElem?_eq_getElem hi,List.getElem?_eq_getElem (by omega),Option.map_some,Option.map_some]at h3;have e3:=congrArg Prod.fst e2;rw[e3]at h3;simp at h3;rw[Im e1,List.getElem?_map,List.getElem?_eq_getElem hi,Option.map_some,h3]
 ·rw[List.getElem?_eq_none (by omega),List.getElem?_eq_none (by simp;omega)]
end
def Iq:List Bool:=[false,false,false,false,false,false,false,false,false,false,true,true]
theorem Wv {W:World} (h:laidMetH prog Q8 W):∃t,W.heap[2]?=some (.cells #[.bool false,.bool false,.bool false,.bool false,.bool false,.bool false,.bool false,.bool false,.bool false,.bool false,.bool true,.bool true] t (0,0)):=by
 rw[MakeChecks.laidMetH_plain _ _ _ (by kernel_rfl)]at h;obtain⟨ps,⟨g0,t0,cs0,f0,p0,q0,hg0,ht0,XJ,hd0,⟨g1,t1,cs1,f1,p1,q1,hg1,ht1,Rp,hd1,_,hq⟩,Mo⟩,_,gb⟩:=h;obtain rfl:g0=2:=Option.some.inj (hg0.symm.trans (show prog.globalNamed "sidestick/gate.commands" =some 2 by kernel_rfl));have e1:(prog.globals[2]?).map (·.type)=some 273:=by kernel_rfl
 obtain rfl:t0=273:=Option.some.inj (ht0.symm.trans e1);have GN:cs0.toList=Iq.map Value.bool:=by
  have hd2:DataW.trod (λ_=>()) prog W 0 (λ_=>true) false f0 273 cs0.toList=some (.agg (Iq.map λz=>.lit (.bool z)),p0):=
   hd0.trans (congrArg (λd=>some (d,p0)) (show(Rows.laid_sidestick_gate_commands:DataW Unit)=.agg (Iq.map λz=>.lit (.bool z)) by kernel_rfl))
  exact Rf (zs:=Iq) (e:=4) (by kernel_rfl) (by kernel_rfl) (by kernel_rfl) (by kernel_rfl) hd2
 obtain⟨t,f,cD⟩:=Io (show prog.globalNamed "sidestick/gate.commands" =some 2 by kernel_rfl) XJ;have Yb:cs0=#[.bool false,.bool false,.bool false,.bool false,.bool false,.bool false,.bool false,.bool false,.bool false,.bool false,.bool true,.bool true]:=by
  apply Array.ext';rw[GN];rfl
 obtain⟨c,t',XR⟩:=(gb 2 0 (by
  rw[Mo,Yb];have:MemPlace.cell 2 0∈MemPlace.row ⟨2,0,none⟩ 12:=by
   simp[MemPlace.row]
  exact List.mem_append_left _ (List.mem_append_left _ this))).1
 rw[cD]at XR;simp only[Option.some.injEq,Obj.cells.injEq]at XR;refine⟨t,?_⟩;rw[cD,Yb,XR.2.2]
theorem Ir {W:World} {v:Value} (h:∀n,Rd prog W n 23 [v]):∃a n c,v=.slice a n c/\eE W a n c (dt W a):=by
 rcases wv Tryz.underlying23 h (z:=1) (by kernel_rfl) 5 (ts:=[5]) (by kernel_rfl)with rfl|⟨a,len,cap,rfl,hle,_,C,hC⟩
 ·exact⟨none,0,0,rfl,Nat.le_refl _,λ_=>⟨rfl,rfl⟩,λx e=>nomatch e⟩
 ·have hb:∀j,j<len->∃n,C j 0=.int .u8 n/\0<=n/\n<=255:=λj hj=>by
   obtain⟨n,h5,h6⟩:=wu Tryz.underlying5 ((hC j (by omega) 0 (by omega)).2 _ rfl);exact⟨n,h5,by simpa[IntKind.min,IntKind.max,IntKind.signed,IntKind.bits]using h6⟩
  refine⟨some a,len,cap,rfl,abq (f:=λj=>match C j 0 with|.int _ n=>n|_=>0) ⟨hle,(λe=>nomatch e),λx e j hj=>?_⟩ λj hj=>?_⟩
  ·obtain rfl:=Option.some.inj e;obtain⟨n,h5,_⟩:=hb j hj;have h3:=(hC j (by omega) 0 (by omega)).1;simp only[h5]at h3⊢;simpa using h3
  ·obtain⟨n,h5,h6⟩:=hb j hj;simp only[h5];exact h6
theorem Rg {W:World} {v:Value} (gb:Cell.okWide prog W .any 0 29 v) (hrd:∀k,Rd prog W k 29 [v]) {cs0:Array Value} {t0:TypeId} {f0:Nat×Nat} (h0:W.heap[0]?=some (.cells cs0 t0 f0)):
 ∃(os:Nat->AI) (i o n c:Nat) (a:Option Addr) (ty:BT) (pre post:List Value),s9 W v 11 (Wb os) i o n c a ty pre post/\QY W os n:=by
 have z4:Sd.DL ⟨0,0,0,0⟩:=Sd.x40
 let od:AI:=⟨0,0,0,none,0,0,⟨false,⟨0,0,0,0⟩,false⟩,false⟩
 obtain⟨a,m,c,rfl,hmc,ho⟩:=pF Tryz.underlying29 gb;rcases ho with⟨rfl,rfl,rfl⟩|⟨x,rfl,aiZ,afW⟩
 ·exact⟨λ_=>od,0,0,0,0,none,_,[],_,s9.nil h0,λj hj=>absurd hj (by omega),λ_=>z4,λj hj=>absurd hj (by omega)⟩
 obtain⟨bk,off,spot⟩:=x;obtain rfl:spot=none:=afW.2.1;obtain⟨row,cells,hsh,_⟩:=afW.2.2;have ahY:∃cs t f,W.heap[bk]?=some (.cells cs t f):=by
  unfold World.shape? at hsh;split at hsh
  ·rename_i cs t f hh;exact⟨cs,t,f,hh⟩
  ·cases hsh
 obtain⟨cs,t,f,cD⟩:=ahY;rcases wv Tryz.underlying29 hrd (z:=11) rfl 5 (ts:=[5,3,33,23,4,3,3,3,3,4,4])with h0'|⟨a',afS,afT,h0',_,_,C,hC⟩
 ·simp at h0'
 simp only[Value.slice.injEq,Option.some.injEq]at h0';obtain⟨rfl,rfl,rfl⟩:=h0'
 let num:Value->Int:=λv=>match v with|.int _ n=>n|_=>0
 let tv:Value->Bool:=λv=>match v with|.bool b=>b|_=>false
 let sa:Value->Option Addr:=λv=>match v with|.slice a _ _=>a|_=>none
 let sn:Value->Nat:=λv=>match v with|.slice _ n _=>n|_=>0
 let sc:Value->Nat:=λv=>match v with|.slice _ _ c=>c|_=>0
 have hB:∀k,k<c->C k 3=.slice (sa (C k 3)) (sn (C k 3)) (sc (C k 3))/\eE W (sa (C k 3)) (sn (C k 3)) (sc (C k 3)) (dt W (sa (C k 3))):=λk hk=>by
  obtain⟨a,n,c',e,h⟩:=Ir ((hC k hk 3 (by omega)).2 _ rfl);rw[e];exact⟨rfl,h⟩
 have hI:∀k,k<c->∀j,(j=1\/j=5\/j=6\/j=7\/j=8)->C k j=.int .i64 (num (C k j))/\Sd.Bd (num (C k j)):=λk hk j hj=>by
  have ht:([5,3,33,23,4,3,3,3,3,4,4]:List Nat)[j]?=some 3:=by
   rcases hj with rfl|rfl|rfl|rfl|rfl<;>rfl
  obtain⟨n,h1,h2⟩:=wu Tryz.underlying3 ((hC k hk j (by omega)).2 _ ht);rw[h1];refine⟨rfl,?_⟩;have h3:-9223372036854775808<=n/\n<=9223372036854775807:=by simpa[IntKind.min,IntKind.max,IntKind.signed,IntKind.bits]using h2
  exact h3
 have hE:∀k,k<c->C k 2=.int .i64 (num (C k 2)):=λk hk=>by
  obtain⟨n,h1,_⟩:=wu Tryz.underlying33 ((hC k hk 2 (by omega)).2 _ rfl);rw[h1]
 have hK:∀k,k<c->C k 0=.int .u8 (num (C k 0))/\0<=num (C k 0):=λk hk=>by
  obtain⟨n,h1,h2⟩:=wu Tryz.underlying5 ((hC k hk 0 (by omega)).2 _ rfl);rw[h1];have h3:0<=n/\n<=255:=by simpa[IntKind.min,IntKind.max,IntKind.signed,IntKind.bits]using h2
  exact⟨rfl,h3.1⟩
 have hT:∀k,k<c->∀j,(j=4\/j=9\/j=10)->C k j=.bool (tv (C k j)):=λk hk j hj=>by
  have ht:([5,3,33,23,4,3,3,3,3,4,4]:List Nat)[j]?=some 4:=by
   rcases hj with rfl|rfl|rfl<;>rfl
  obtain⟨n,h1⟩:=Wt Tryz.underlying4 ((hC k hk j (by omega)).2 _ ht);rw[h1]
 let os:Nat->AI:=λk=>if k<c then⟨num (C k 0),num (C k 1),num (C k 2),sa (C k 3),sn (C k 3),sc (C k 3),⟨tv (C k 4),⟨num (C k 5),num (C k 6),num (C k 7),num (C k 8)⟩,tv (C k 9)⟩,tv (C k 10)⟩else od
 have hos:∀k,k<c->os k=⟨num (C k 0),num (C k 1),num (C k 2),sa (C k 3),sn (C k 3),sc (C k 3),⟨tv (C k 4),⟨num (C k 5),num (C k 6),num (C k 7),num (C k 8)⟩,tv (C k 9)⟩,tv (C k 10)⟩:=λk hk=>if_pos hk;have wK:∀q:Nat,(⟨bk,off,none⟩:Addr).add q=⟨bk,off+q,none⟩:=λq=>by
  by_cases hq:q=0
  ·subst hq;rfl
  ·simp[Addr.add,hq]
 have AR:∀k,k<m->∀j,j<11->W.cell? ⟨bk,off+k*11+j,none⟩=(Wb os k)[j]?:=by
  intro k hk j hj;have wM:k<c:=by omega
  have h1:W.cell? ⟨bk,off+k*11+j,none⟩=some (C k j):=by
   have:=(hC k wM j hj).1;rw[wK]at this;rw[Nat.add_assoc];exact this
  rw[h1];have e:Wb os k=[.int .u8 (num (C k 0)),.int .i64 (num (C k 1)),.int .i64 (num (C k 2)),.slice (sa (C k 3)) (sn (C k 3)) (sc (C k 3)),.bool (tv (C k 4)),.int .i64 (num (C k 5)),.int .i64 (num (C k 6)),.int .i64 (num (C k 7)),.int .i64 (num (C k 8)),.bool (tv (C k 9)),.bool (tv (C k 10))]:=by
   unfold Wb;rw[hos k wM];rfl
  rw[e]
  match j,hj with
  |0,_=>rw[(hK k wM).1];rfl
  |1,_=>rw[(hI k wM 1 (by omega)).1];rfl
  |2,_=>rw[hE k wM];rfl
  |3,_=>rw[(hB k wM).1];rfl
  |4,_=>rw[hT k wM 4 (by omega)];rfl
  |5,_=>rw[(hI k wM 5 (by omega)).1];rfl
  |6,_=>rw[(hI k wM 6 (by omega)).1];rfl
  |7,_=>rw[(hI k wM 7 (by omega)).1];rfl
  |8,_=>rw[(hI k wM 8 (by omega)).1];rfl
  |9,_=>rw[hT k wM 9 (by omega)];rfl
  |10,_=>rw[hT k wM 10 (by omega)];rfl
  |j+11,h=>omega
 obtain⟨pre,post,hR⟩:=s9.some (z:=11) (g:=Wb os) hmc (λj=>Ia os j) cD AR (by decide);refine⟨os,bk,off,m,c,_,_,pre,post,hR,λj hj=>?_,λj=>?_,λj hj=>?_⟩
 ·rw[hos j (by omega)];exact(hB j (by omega)).2
 rotate_left
 ·rw[hos j (by omega)];exact(hK j (by omega)).2
 ·by_cases hj:j<c
  ·rw[hos j hj];exact⟨(hI j hj 5 (by omega)).2,(hI j hj 6 (by omega)).2,(hI j hj 7 (by omega)).2,(hI j hj 8 (by omega)).2⟩
  ·have:os j=od:=if_neg hj;rw[this];exact z4
theorem KD {W:World} {v:Value} (hv:Value.okWide prog W .any 0 28 v) (hr:∀n,Rd prog W n 28 v.cells.toList):
 ∃(q:Nat->Int) (ka:Nat->Option Addr) (kn kc:Nat->Nat),v=.agg (ta ⟨q,λ_=>(0,λ_=>0)⟩ ka kn kc).toArray/\∀j,j<4->eE W (ka j) (kn j) (kc j) (dt W (ka j)):=by
 obtain⟨q,ka,kn,kc,kb,rfl,hq,hk⟩:=KC hv hr;refine⟨q,ka,kn,kc,rfl,λj hj=>?_⟩;have gb:∀n,Rd prog W n 23 [.slice (ka j) (kn j) (kc j)]:=by
  have h5:(Fa q ka kn kc)[5+j]?=some (.slice (ka j) (kn j) (kc j)):=by
   match j,hj with
   |0,_=>rfl
   |1,_=>rfl
   |2,_=>rfl
   |3,_=>rfl
   |j+4,h=>exact absurd h (by omega)
  have AR:cellAt prog 6 28 (5+j)=some 23:=by
   have e:j=0\/j=1\/j=2\/j=3:=by omega
   rcases e with rfl|rfl|rfl|rfl
   ·show cellAt prog 6 28 5=some 23;kernel_rfl
   ·show cellAt prog 6 28 6=some 23;kernel_rfl
   ·show cellAt prog 6 28 7=some 23;kernel_rfl
   ·show cellAt prog 6 28 8=some 23;kernel_rfl
  exact ry 6 (P:=prog) (w:=W) (t:=28) (cs:=(Fa q ka kn kc).toList) (j:=5+j) hr AR (by simpa using h5)
 obtain⟨a,n,c,e,h⟩:=Ir gb;simp only[Value.slice.injEq]at e;obtain⟨rfl,rfl,rfl⟩:=e;exact h
end Go.Proofs.YtlkpikfddnjilaaGreatDoor
namespace Sd
def Gr (n:Nat) (s t:Scene):Prop:=t.recs.length<=s.recs.length+n/\t.sent.length<=s.sent.length+n
theorem Gr.trans {n m:Nat} {s t u:Scene} (h:Gr n s t) (k:Gr m t u):Gr (n+m) s u:=⟨by have:=h.1;have:=k.1;omega,by have:=h.2;have:=k.2;omega⟩
theorem Gr.le {n m:Nat} {s t:Scene} (h:Gr n s t) (k:n<=m):Gr m s t:=⟨by have:=h.1;omega,by have:=h.2;omega⟩
theorem Gr.of {n m:Nat} {s s0 t:Scene} (h:Gr n s0 t) (h1:s0.recs=s.recs) (h2:s0.sent=s.sent) (k:n<=m):Gr m s t:=⟨by have:=h.1;rw[h1]at this;omega,by have:=h.2;rw[h2]at this;omega⟩
theorem Gr.fin {n:Nat} {s t t':Scene} (h:Gr n s t) (h1:t'.recs=t.recs) (h2:t'.sent=t.sent):Gr n s t':=⟨by rw[h1];exact h.1,by rw[h2];exact h.2⟩
theorem Gr.c0 {s t:Scene} (h1:t.recs=s.recs) (h2:t.sent=s.sent):Gr 0 s t:=⟨by rw[h1];exact Nat.le_refl _,by rw[h2];exact Nat.le_refl _⟩
section
variable(C:Crypt) (s:Scene)
theorem abU (l:Int) (r:Reply):Gr 1 s (s.tell l r):=⟨by simp[Scene.tell],by simp[Scene.tell]⟩
theorem afw (l:Int) (r:Reply):Gr 1 s (s.hear l r):=by
 unfold Scene.hear;split
 ·exact abU s l r
 ·exact(Gr.c0 rfl rfl).le (by omega)
theorem dL (k a n e h:Int):Gr 1 s (s.record C k a n e h):=⟨by simp[Scene.record],by simp[Scene.record]⟩
theorem lC (l n e:Int):Gr 2 s (s.refuse C l n e):=(abU s _ _).trans (dL C _ _ _ _ _ _)
theorem FU (l e:Int):Gr 1 s (s.dp C l e):=dL C _ _ _ _ _ _
theorem sr (l n:Int):Gr 1 s (s.done l n):=abU s _ _
theorem abW (l w e:Int):Gr 1 s (s.gone l w e):=afw s _ _
theorem Km (t:Tok) (how n:Int):Gr 3 s (s.goes C t how n):=
 ((Gr.c0 (s:=s) (t:={s with c:={s.c with t:=t,q:=Q.drop s.c.q t.holder}}) rfl rfl).trans (((afw _ _ _).trans (afw _ _ _)).trans (dL C _ _ _ _ _ _))).le (by omega)
theorem ajf (a:Int):Gr 2 s (s.leave C a):=by
 unfold Scene.leave;dsimp only;split
 ·exact(Gr.c0 rfl rfl).le (by omega)
 ·exact(Gr.of ((abW _ _ _ _).trans (dL C _ _ _ _ _ _)) rfl rfl (by omega))
theorem ai7 (m:Int) (b:Label):Gr 0 s (s.dF m b):=Gr.c0 rfl rfl
theorem afx {α:Type} {f:Scene->α->Scene} {n:Nat} (h:∀s a,Gr n s (f s a)):∀(l:List α) (s:Scene),Gr (n*l.length) s (l.foldl f s)
 |[],s=>(Gr.c0 rfl rfl).le (by omega)
 |a::l,s=>by
  rw[List.foldl_cons];exact((h s a).trans (afx h l _)).le (by rw[List.length_cons,Nat.mul_add];omega)
theorem ajF (l:Int) (n:Nat) (f:Byt):Gr 10 s (s.kW C l n f):=by
 unfold Scene.kW;dsimp only
 repeat' split
 all_goals first
  |exact(FU C s _ _).le (by omega)
  |exact(lC C s _ _ _).le (by omega)
  |exact Gr.of ((abU _ _ _).trans (dL C _ _ _ _ _ _)) rfl rfl (by omega)
theorem ajG (l:Int) (n:Nat) (f:Byt):Gr 10 s (s.prove C l n f):=by
 unfold Scene.prove;dsimp only
 repeat' split
 all_goals first
  |exact Gr.of (FU C _ _ _) rfl rfl (by omega)
  |exact Gr.of (lC C _ _ _ _) rfl rfl (by omega)
  |exact Gr.of ((abU _ _ _).trans (dL C _ _ _ _ _ _)) rfl rfl (by omega)
theorem akc (l:Int) (m:dw):Gr 10 s (s.wO C l m):=by
 unfold Scene.wO;split
 ·exact(sr s _ _).le (by omega)
 split
 ·exact(Gr.of ((ajf C _ _).trans ((dL C _ _ _ _ _ _).trans (sr _ _ _))) rfl rfl (by omega))
 split
 ·unfold Scene.ask;dsimp only;split
  ·exact(lC C s _ _ _).le (by omega)
  ·split
   ·exact(Gr.of ((Km C _ _ _ _).trans (sr _ _ _)) rfl rfl (by omega))
   ·exact(Gr.of ((dL C _ _ _ _ _ _).trans (sr _ _ _)) rfl rfl (by omega))
 split
 ·unfold Scene.offer;dsimp only;split
  ·exact(lC C s _ _ _).le (by omega)
  ·exact(Gr.of ((afw _ _ _).trans ((dL C _ _ _ _ _ _).trans (sr _ _ _))) rfl rfl (by omega))
 split
 ·unfold Scene.accept;dsimp only;split
  ·exact(lC C s _ _ _).le (by omega)
  ·exact((Km C _ _ _ _).trans (sr _ _ _)).le (by omega)
 split
 ·unfold Scene.ft;dsimp only;split
  ·exact(lC C s _ _ _).le (by omega)
  ·exact(Gr.of ((abW _ _ _ _).trans ((dL C _ _ _ _ _ _).trans (sr _ _ _))) rfl rfl (by omega))
 split
 ·unfold Scene.release;dsimp only;split
  ·exact(lC C s _ _ _).le (by omega)
  ·exact(Gr.of ((Km C _ _ _ _).trans (sr _ _ _)) rfl rfl (by omega))
 split
 ·unfold Scene.command;dsimp only;split
  ·exact(lC C s _ _ _).le (by omega)
  ·split
   ·exact(Gr.of ((dL C _ _ _ _ _ _).trans (sr _ _ _)) rfl rfl (by omega))
   ·exact(Gr.of ((dL C _ _ _ _ _ _).trans (sr _ _ _)) rfl rfl (by omega))
 ·exact(Gr.c0 rfl rfl).le (by omega)
theorem ajT (l code:Int) (n:Nat) (f:Byt):Gr 10 s (s.item C l code n f):=by
 unfold Scene.item;split
 ·exact(FU C s _ _).le (by omega)
 split
 ·exact ajF C s _ _ _
 split
 ·exact ajG C s _ _ _
 split
 ·exact(FU C s _ _).le (by omega)
 ·exact(Gr.of (akc C _ _ _) rfl rfl (by omega))
theorem aju (x:dM):Gr 10 s (s.dD C x):=by
 unfold Scene.dD;dsimp only
 repeat' split
 all_goals first
  |exact Gr.of (Km C _ _ _ _) rfl rfl (by omega)
  |exact Gr.of (dL C _ _ _ _ _ _) rfl rfl (by omega)
  |exact(Gr.c0 rfl rfl).le (by omega)
end
def Ql (s t:Scene):Prop:=t.c.q.length<=s.c.q.length
theorem Ql.trans {s t u:Scene} (h:Ql s t) (k:Ql t u):Ql s u:=Nat.le_trans k h
theorem Ql.of {s t:Scene} (h:t.c.q=s.c.q):Ql s t:=by unfold Ql;rw[h];exact Nat.le_refl _
theorem ai8 (q:List Ask) (a:Int):(Q.drop q a).length<=q.length:=List.length_filter_le _ _
theorem ajH (C:Crypt) (s:Scene) (a:Int):Ql s (s.leave C a):=by
 unfold Scene.leave;dsimp only;split
 ·exact ai8 _ _
 ·unfold Ql;rw[Scene.record_q,Scene.gone_c];exact ai8 _ _
theorem ajU (C:Crypt) (s:Scene) (t:Tok) (how n:Int):Ql s (s.goes C t how n):=by
 unfold Ql Scene.goes;dsimp only;rw[Scene.record_q,Scene.hear_c,Scene.hear_c];exact ai8 _ _
theorem ajq {α:Type} {f:Scene->α->Scene} (h:∀s a,Ql s (f s a)):∀(l:List α) (s:Scene),Ql s (l.foldl f s)
 |[],s=>Nat.le_refl _
 |a::l,s=>(h s a).trans (ajq h l _)
theorem ajv (C:Crypt) (s:Scene) (bad:Bool) (hq:s.c.q.length<=3):Gr 10 s (s.h_ C bad):=by
 unfold Scene.h_;dsimp only;split
 ·exact(Gr.c0 rfl rfl).le (by omega)
 ·have h2:∀s2:Scene,Gr 3 s s2->Ql s s2->Gr 10 s (s2.c.q.foldl (λ(s:Scene) (a:Ask)=>({s with c:={s.c with q:=Q.drop s.c.q a.source}}:Scene).gone a.source 4 29) s2):=by
   intro s2 g q;refine(g.trans (afx (n:=1) (f:=λ(s:Scene) (a:Ask)=>({s with c:={s.c with q:=Q.drop s.c.q a.source}}:Scene).gone a.source 4 29) (λs a=>Gr.of (abW _ _ _ _) rfl rfl (by omega)) s2.c.q s2)).le ?_;have:s2.c.q.length<=s.c.q.length:=q;omega
  split
  ·refine Gr.fin ?_ rfl rfl;exact h2 _ (Gr.of (Km C _ _ _ _) rfl rfl (by omega)) (Ql.trans (Ql.of (s:=s) rfl) (ajU C _ _ _ _))
  ·refine Gr.fin ?_ rfl rfl;exact h2 _ ((Gr.c0 rfl rfl).le (by omega)) (Ql.of rfl)
theorem ajV (C:Crypt) (s:Scene):Gr 3 s (s.dg C):=by
 unfold Scene.dg;dsimp only
 repeat' split
 all_goals first
  |exact Gr.of ((Km C _ _ _ _).trans (ai7 _ _ _)) rfl rfl (by omega)
  |exact(Gr.c0 rfl rfl).le (by omega)
theorem ajW (C:Crypt) (s:Scene) (hq:s.c.q.length<=3) (he:s.c.tab.ended.length<=4):Gr 40 s (s.tick C):=by
 unfold Scene.tick;dsimp only;have g1:=afx (n:=3) (f:=λ(s:Scene) (x:Int)=>if linked x then(s.record C 5 x 0 0 0).leave C x else s.record C 5 x 0 0 0) (λs x=>by
  split
  ·exact(dL C s _ _ _ _ _).trans (ajf C _ _)
  ·exact(dL C s _ _ _ _ _).le (by omega)) s.c.tab.ended {s with c:={s.c with tab:=s.c.tab.tick}}
 have q1:=ajq (f:=λ(s:Scene) (x:Int)=>if linked x then(s.record C 5 x 0 0 0).leave C x else s.record C 5 x 0 0 0) (λs x=>by
  split
  ·exact Ql.trans (Ql.of (Scene.record_q C s _ _ _ _ _)) (ajH C _ _)
  ·exact Ql.of (Scene.record_q C s _ _ _ _ _)) s.c.tab.ended {s with c:={s.c with tab:=s.c.tab.tick}}
 generalize List.foldl (λ(s:Scene) (x:Int)=>if linked x then(s.record C 5 x 0 0 0).leave C x else s.record C 5 x 0 0 0) {s with c:={s.c with tab:=s.c.tab.tick}} s.c.tab.ended=s1 at*;have G1:Gr 12 s s1:=(Gr.of g1 rfl rfl (by omega));have Q1:s1.c.q.length<=3:=Nat.le_trans q1 hq;have H:∀s3:Scene,Gr 2 s1 s3->s3.c.q=s1.c.q->Gr 40 s (((Q.gone s3.c.q).foldl (λ(s:Scene) (a:Ask)=>(s.gone a.source a.source 30).record C 12 a.source 0 30 0) {s3 with c:={s3.c with q:=Q.kept s3.c.q}}).dg C):=by
  intro s3 g3 e3;have hl:(Q.gone s3.c.q).length<=3:=by
   rw[e3];refine Nat.le_trans ?_ Q1;unfold Q.gone;refine Nat.le_trans (List.length_filter_le _ _) ?_;unfold Q.pS;rw[List.length_map];exact Nat.le_refl _
  have hf:=afx (n:=2) (f:=λ(s:Scene) (a:Ask)=>(s.gone a.source a.source 30).record C 12 a.source 0 30 0) (λs a=>(abW s _ _ _).trans (dL C _ _ _ _ _ _)) (Q.gone s3.c.q) {s3 with c:={s3.c with q:=Q.kept s3.c.q}};have hf:Gr 6 s3 _:=Gr.of hf rfl rfl (Nat.mul_le_mul_left 2 hl);have:=((G1.trans g3).trans hf).trans (ajV C _);exact⟨Nat.le_trans this.1 (by show s.recs.length+(12+2+6+3)<=_;omega),Nat.le_trans this.2 (by show s.sent.length+(12+2+6+3)<=_;omega)⟩
 refine Gr.fin (H _ ?_ ?_) rfl rfl
 ·split
  ·exact Gr.of ((abW _ _ _ _).trans (dL C _ _ _ _ _ _)) rfl rfl (by omega)
  ·exact(Gr.c0 rfl rfl).le (by omega)
 ·split
  ·rw[Scene.record_q,Scene.gone_c];rfl
  ·rfl
def Ic (l:List Rec):Int:=l.foldl (λa r=>if r.kind=8 then a+1 else a) 0
def abX (l:List Rec):Int:=l.foldl (λa r=>if r.kind=8 then r.how else a) 0
theorem Q7 (l:List Rec) (r:Rec):Ic (l++[r])=if r.kind=8 then Ic l+1 else Ic l:=by simp[Ic,List.foldl_append]
theorem abS (l:List Rec) (r:Rec):abX (l++[r])=if r.kind=8 then r.how else abX l:=by simp[abX,List.foldl_append]
theorem ai0:∀(m l:List Rec),Ic l<=Ic (l++m)
 |[],l=>by simp
 |r::m,l=>by
  have h:=ai0 m (l++[r]);rw[List.append_assoc,List.singleton_append]at h;refine Int.le_trans ?_ h;rw[Q7];split<;>omega
theorem ajw (l:List Rec) (j:Nat):0<=Ic (l.take j)/\Ic (l.take j)<=Ic l:=by
 refine⟨by have:=ai0 (l.take j) [];simpa[Ic]using this,?_⟩;have:=ai0 (l.drop j) (l.take j)
 rwa [List.take_append_drop]at this
theorem Wd:∀(m l:List Rec),(∀r∈m,r.kind≠8)->Ic (l++m)=Ic l/\abX (l++m)=abX l
 |[],l,_=>by simp
 |r::m,l,h=>by
  have h1:=Wd m (l++[r]) λx hx=>h x (List.mem_cons_of_mem _ hx);rw[List.append_assoc,List.singleton_append]at h1;have h2:=h r List.mem_cons_self;rw[h1.1,h1.2,Q7,abS,if_neg h2,if_neg h2];exact⟨rfl,rfl⟩
structure Wn where
 p:Pol
 xh:Int
 xe:Int
 xo:Int
 akI:Bool
 n:Nat
 q:Nat->Int
 yh:Int
 ye:Int
 yo:Int
 akJ:Bool
 on:Int->Bool
 l:List Rec
 kind:Int
 link:Int
def ajX (w:Wn) (how:Int):Prop:=
 (how=1/\w.kind=0/\w.xo=w.yh/\w.link=w.yh)\/
 (how=2/\w.kind<2/\0<w.n/\w.q 0=w.yh/\(w.kind=1↔w.xh=0))\/
 (how=3/\w.kind=0/\w.link=w.yh/\cp w.p w.yh w.xh=true/\w.akI=false)\/
 (how=4/\w.kind=1/\w.yh=0)\/
 (how=5/\w.kind=3/\w.on w.xh=false/\w.on w.yh=true)\/
 (how=6/\w.yh=4/\((w.kind=2/\w.akJ=true)\/(w.kind=3/\w.xe=65535/\w.on w.xh=false)))
structure ai1 (w:Wn):Prop where
 hx:0<=w.xh/\w.xh<=4
 hy:0<=w.yh/\w.yh<=4
 ex:0<=w.xe/\w.xe<=65535
 kd:0<=w.kind/\w.kind<=3
 len:w.l.length<=1000
 akv:∀j,j<w.l.length->(w.l.getD j default).kind=8->(w.l.getD j default).source=w.yh/\(w.l.getD j default).epoch=w.ye
 how:(w.yh=w.xh/\w.ye=w.xe/\Ic w.l=0)\/(w.yh≠w.xh/\Ic w.l=1/\w.yo=-1/\((w.ye=w.xe+1)\/(w.xe=65535/\w.ye=w.xe/\abX w.l=6))/\ajX w (abX w.l))
theorem xF.link {a b:Core} {k l l' how:Int} (h:xF a b k l how) (hk:k≠0):xF a b k l' how:=by
 unfold xF at h⊢;rcases h with h|h|h|h|h|h
 ·exact absurd h.2.1 hk
 ·exact .inr (.inl h)
 ·exact absurd h.2.1 hk
 ·exact .inr (.inr (.inr (.inl h)))
 ·exact .inr (.inr (.inr (.inr (.inl h))))
 ·exact .inr (.inr (.inr (.inr (.inr h))))
theorem nV.link {C:Crypt} {b:Prop} {s s':Scene} {k l l':Int} (h:nV C b s s' k l) (hk:k≠0):nV C b s s' k l':=
 ⟨h.inv,h.NK.imp id λ⟨how,g,w⟩=>⟨how,g,w.link hk⟩⟩
theorem ajg {l:List Rec} {j:Nat} (h:j<l.length):l.getD j default∈l:=by
 rw[List.getD_eq_getElem?_getD,List.getElem?_eq_getElem h];exact List.getElem_mem h
theorem ajh {p p':Pol} (h:p'.i=p.i) (a b:Int):cp p' a b=cp p a b:=by unfold cp placeOf;rw[h]
theorem ajY {C:Crypt} {b:Prop} {s s':Scene} {k l:Int} (h:nV C b s s' k l) (hI:Inv s.c) (hr:s.recs=[]) (hk:0<=k/\k<=3) (hg:Gr 40 s s') {p':Pol} (hp':p'.i=s.c.p.i) {on:Int->Bool} (tp:∀i,0<=i/\i<=4->on i=s'.c.tab.on i):
 ai1 ⟨p',s.c.t.holder,s.c.t.epoch,s.c.t.offer,s.c.t.bad,s.c.q.length,λj=>(s.c.q.getD j default).source,s'.c.t.holder,s'.c.t.epoch,s'.c.t.offer,s'.c.t.bad,on,s'.recs,k,l⟩:=by
 have e0:=hI.eH;have hl:s'.recs.length<=1000:=by have:=hg.1;rw[hr]at this;simp at this;omega
 refine⟨hI.tok.holder,h.inv.tok.holder,e0,hk,hl,?_,?_⟩
 ·intro j hj h8;dsimp only at hj h8⊢;rcases h.NK with q|⟨how,g,w⟩
  ·obtain⟨rs,r1,r2,r3⟩:=q.recs;rw[hr,List.nil_append]at r1;have hm:=ajg hj;rw[r1]at hm h8;exact absurd h8 (r2 _ hm).1
  ·obtain⟨pre,n,post,q1,q2,q3,q4,q5⟩:=g.recs;rw[hr,List.nil_append]at q1;have hm:=ajg hj;generalize s'.recs.getD j default=x at*;rw[q1]at hm;rcases List.mem_append.1 hm with hm|hm
   ·exact absurd h8 (q2 _ hm).1
   ·rcases List.mem_cons.1 hm with rfl|hm
    ·exact⟨rfl,rfl⟩
    ·exact absurd h8 (q4 _ hm).1
 ·dsimp only;rcases h.NK with q|⟨how,g,w⟩
  ·obtain⟨rs,r1,r2,r3⟩:=q.recs;rw[hr,List.nil_append]at r1;have:=Wd rs [] λr hr=>(r2 r hr).1;rw[List.nil_append]at this;exact .inl ⟨q.holder,q.epoch,by rw[r1,this.1];rfl⟩
  ·obtain⟨pre,n,post,q1,q2,q3,q4,q5⟩:=g.recs;rw[hr,List.nil_append]at q1;have h1:=Wd pre [] λr hr=>(q2 r hr).1;rw[List.nil_append]at h1;have h2:=Wd post (pre++[⟨8,s'.c.t.holder,n,s'.c.t.epoch,0,how⟩]) λr hr=>(q4 r hr).1;rw[List.append_assoc,List.singleton_append,<-q1,Q7,abS,if_pos rfl,if_pos rfl,h1.1]at h2;have hc:Ic s'.recs=1:=by rw[h2.1];rfl
   have hh:abX s'.recs=how:=h2.2;refine .inr ⟨g.holder,hc,g.offer,?_,?_⟩
   ·rw[hh];rcases g.epoch with⟨a,b⟩|⟨a,b,c⟩
    ·exact .inl b
    ·exact .inr ⟨a,by rw[a,b],c⟩
   ·rw[hh];unfold xF at w;unfold ajX;dsimp only;rw[tp _ hI.tok.holder,tp _ h.inv.tok.holder,ajh hp'];rcases w with w|w|w|w|w|w
    ·exact .inl ⟨w.1,w.2.1,w.2.2.1,w.2.2.2⟩
    ·obtain⟨w1,w2,⟨a,t,w3,w4⟩,w5⟩:=w;exact .inr (.inl ⟨w1,w2,by rw[w3];simp,by rw[w3];exact w4,w5⟩)
    ·exact .inr (.inr (.inl w))
    ·exact .inr (.inr (.inr (.inl w)))
    ·exact .inr (.inr (.inr (.inr (.inl w))))
    ·exact .inr (.inr (.inr (.inr (.inr w))))
end Sd
namespace Go.Proofs.YtlkpikfddnjilaaGreatDoor
open Go Go.RowKit Go.BigFrame Sx Vx
structure TdD where
 a0:Int
 a1:Int
 a2:Int
 a3:Int
 a4:Int
 a5:Int
 a6:Int
 a7:Int
 a8:Int
 a9:Int
 a10:Int
 a11:Int
 hd:Nat->Int
def tdL (t:TdD) (vs vr:V):List V:=[.int .i64 t.a0,.int .i64 t.a1,.int .i64 t.a2,.int .i64 t.a3,.int .i64 t.a4,.int .i64 t.a5,.int .i64 t.a6,.int .i64 t.a7,.int .i64 t.a8,.int .i64 t.a9,.int .i64 t.a10,.int .i64 t.a11,vs,vr,.ew .u8 32 t.hd]
def tdR:List V->Option (TdD×V×V)
 |[.int .i64 a0,.int .i64 a1,.int .i64 a2,.int .i64 a3,.int .i64 a4,.int .i64 a5,.int .i64 a6,.int .i64 a7,.int .i64 a8,.int .i64 a9,.int .i64 a10,.int .i64 a11,vs,vr,.ew .u8 32 f]=>some (⟨a0,a1,a2,a3,a4,a5,a6,a7,a8,a9,a10,a11,f⟩,vs,vr)
 |_=>none
theorem akd {l:List V} {t:TdD} {a b:V} (h:tdR l=some (t,a,b)):l=tdL t a b:=by
 unfold tdR at h;split at h
 ·simp only[Option.some.injEq,Prod.mk.injEq]at h;obtain⟨rfl,rfl,rfl⟩:=h;rfl
 ·cases h
section
variable(p:Sd.Pol) (ka:Nat->Option Addr) (kn kc:Nat->Nat) (x y:SiD) (t:TdD) (o:AI) (n cn k ck:Nat) (zn zk:Option Addr) (nv sv:Value) (q:Nat->Int) (l:List Sd.Rec) (a b:Bool) (ty nf:BT) (u u':List Value) (K:VK Empty)
def wnB:List VB:=[⟨a,ty,[.fY 1 n (K6 q),.rest u]⟩,⟨b,nf,[.fY 6 k (C_ l),.rest u']⟩]
def wnA:List V:=[.agg [.jS p ka kn kc],.agg (XN x (.je 0 0 n cn zn)),.agg (XN y (.raw nv)),.agg (tdL t (.raw sv) (.je 1 0 k ck zk)),.agg (opL o)]
def ajI (_:{j:Nat //j<=k}):List VB:=wnB n k q l a b ty nf u u'++[⟨true,⟨28,(0,0)⟩,[.jS p ka kn kc]⟩,⟨true,⟨44,(0,0)⟩,XN x (.je 0 0 n cn zn)⟩,⟨true,⟨44,(0,0)⟩,XN y (.raw nv)⟩,⟨true,⟨52,(0,0)⟩,tdL t (.raw sv) (.je 1 0 k ck zk)⟩,⟨true,⟨59,(0,0)⟩,opL o⟩]
def wnV (j:{j:Nat //j<=k}):List V:=[.ptr 2 0,.ptr 3 0,.ptr 4 0,.ptr 5 0,.ptr 6 0,.int .i64 (Sd.abX (l.take j.1)),.int .i64 (Sd.Ic (l.take j.1)),.int .i64 j.1]
def ake:Lp Empty:=MC (X:={j:Nat //j<=k}) (λj=>k-j.1) 251 7 [5,6,7,8,9,11,12,13] (wnV k l) (ajI p ka kn kc x y t o n cn k ck zn zk nv sv q l a b ty nf u u') (λ_=>[]) (λ_=>rfl) (λ_=>by kernel_rfl) (λ_=>rfl)
def wnK (r:Bool):Prop:=K (.bool r) (wnB n k q l a b ty nf u u') []
def onL:List Bool:=[y.b0,y.b1,y.b2,y.b3,y.b4]
def ajZ (h:Int) (kB:Bool->Prop):Prop:=
 cond (h==1) (cond (decide (o.kind.tmod 4=0)) (cond (decide (x.o=y.h)) (kB (decide (o.link=y.h))) (kB false)) (kB false))
 (cond (h==2) (cond (decide (o.kind.tmod 4<2)) (cond (decide ((0:Int)<(n:Int))) ((0<=(0:Int)/\(0:Int)<(n:Int))/\((0:Int).toNat<n/\∀j,(K6 q j).length=1)/\cond (decide (q (0:Int).toNat=y.h)) (kB ((decide (o.kind.tmod 4=1))==(decide (x.h=0)))) (kB false)) (kB false)) (kB false))
 (cond (h==3) (cond (decide (o.kind.tmod 4=0)) (cond (decide (o.link=y.h)) (cond (Sd.cp p y.h x.h) (kB (!x.bad)) (kB false)) (kB false)) (kB false))
 (cond (h==4) (cond (decide (o.kind.tmod 4=1)) (kB (decide (y.h=0))) (kB false))
 (cond (h==5) (cond (decide (o.kind.tmod 4=3)) ((0<=x.h/\x.h<(5:Nat))/\x.h.toNat<5/\cond (!(acx (onL y) x.h.toNat)) (cond (decide (y.h=4)) (kB true) ((0<=y.h/\y.h<(5:Nat))/\y.h.toNat<5/\kB (acx (onL y) y.h.toNat))) (kB false)) (kB false))
 (cond (h==6) (cond (decide (y.h=4)) (cond (decide (o.kind.tmod 4=2)) (cond y.bad (kB true) (cond (decide (o.kind.tmod 4=3)) (cond (decide (x.e=65535)) ((0<=x.h/\x.h<(5:Nat))/\x.h.toNat<5/\kB (!(acx (onL y) x.h.toNat))) (kB false)) (kB false))) (cond (decide (o.kind.tmod 4=3)) (cond (decide (x.e=65535)) ((0<=x.h/\x.h<(5:Nat))/\x.h.toNat<5/\kB (!(acx (onL y) x.h.toNat))) (kB false)) (kB false))) (kB false))
 (kB false))))))
def ajj (many h:Int) (kB:Bool->Prop):Prop:=
 let M:=cond (many==0) (cond (decide (y.e=x.e)) (cond (decide (0<=y.h)) (kB (decide (y.h<=4))) (kB false)) (kB false)) (kB false)
 let OFF:=cond (!(y.o==-1)) (kB false) (True/\ajZ p x y o n q h kB)
 cond (decide (y.h<0)) M (cond (decide (4<y.h)) M (cond (decide (y.h=x.h)) M (cond (many !=1) (kB false) (cond (!(y.e==i64.wrap (x.e+1))) (cond (decide (x.e=65535)) (cond (h==6) (cond (!(y.e==x.e)) (kB false) OFF) (kB false)) (kB false)) OFF))))
def wnE (j:{j:Nat //j<=k}) (how many:Int):Prop:=true=true/\enD (λj:{j:Nat //j<=k}=>k-j.1) (wnV k l) (ajI p ka kn kc x y t o n cn k ck zn zk nv sv q l a b ty nf u u') (λ_=>([]:List Empty)) j [.ptr 2 0,.ptr 3 0,.ptr 4 0,.ptr 5 0,.ptr 6 0,.int .i64 how,.int .i64 many,.int .i64 (i64.wrap ((j.1:Int)+1))] (ajI p ka kn kc x y t o n cn k ck zn zk nv sv q l a b ty nf u u' j) []
def ajJ (kB:Bool->Prop) (j:{j:Nat //j<=k}):Prop:=
 let r:=l.getD (j.1:Int).toNat default
 (0<=(j.1:Int)/\(j.1:Int)<(k:Int))/\((j.1:Int).toNat<k/\∀i,(C_ l i).length=6)/\cond (r.kind !=8) (wnE p ka kn kc x y t o n cn k ck zn zk nv sv q l a b ty nf u u' j (Sd.abX (l.take j.1)) (Sd.Ic (l.take j.1)))
  (cond (r.source !=y.h) (kB false) (cond (r.epoch !=y.e) (kB false) (wnE p ka kn kc x y t o n cn k ck zn zk nv sv q l a b ty nf u u' j r.how (i64.wrap (Sd.Ic (l.take j.1)+1)))))
def wnX:Prop:=(true=true/\IZ (wnV k l) (ajI p ka kn kc x y t o n cn k ck zn zk nv sv q l a b ty nf u u') (λ_=>([]:List Empty)) [.ptr 2 0,.ptr 3 0,.ptr 4 0,.ptr 5 0,.ptr 6 0,.int .i64 0,.int .i64 0,.int .i64 0] (ajI p ka kn kc x y t o n cn k ck zn zk nv sv q l a b ty nf u u' ⟨0,Nat.zero_le _⟩) [])/\
 ∀(j:{j:Nat //j<=k}) (g:Nat->Value),cond (decide ((j.1:Int)<(k:Int))) (ajJ p ka kn kc x y t o n cn k ck zn zk nv sv q l a b ty nf u u' (wnK n k q l a b ty nf u u' K) j) (ajj p x y o n q (Sd.Ic (l.take j.1)) (Sd.abX (l.take j.1)) (wnK n k q l a b ty nf u u' K))
theorem akw:c_ (DE prog my (qL Empty [qhi]) (SR 0 (ake p ka kn kc x y t o n cn k ck zn zk nv sv q l a b ty nf u u'))) 60 14 (wnA p ka kn kc x y t o n cn k ck zn zk nv sv) (wnB n k q l a b ty nf u u') [] (eB 2 K)=wnX p ka kn kc x y t o n cn k ck zn zk nv sv q l a b ty nf u u' K:=by kernel_rfl
end
variable{fr:Sd.Reply->Nat×Sd.Byt}
def wnW (p:Sd.Pol) (x y:SiD) (n:Nat) (q:Nat->Int) (l:List Sd.Rec) (o:AI):Sd.Wn:=⟨p,x.h,x.e,x.o,x.bad,n,q,y.h,y.e,y.o,y.bad,aka y,l,o.kind.tmod 4,o.link⟩
theorem cndT {b:Bool} {X Y:Prop} (h:b=true) (k:X):cond b X Y:=by rw[h];exact k
theorem cndF {b:Bool} {X Y:Prop} (h:b=false) (k:Y):cond b X Y:=by rw[h];exact k
theorem aj0 {p:Sd.Pol} {x y:SiD} {n:Nat} {q:Nat->Int} {l:List Sd.Rec} {o:AI} {h:Int} (hx:0<=x.h/\x.h<=4) (hy:0<=y.h/\y.h<=4) (hW:Sd.ajX (wnW p x y n q l o) h) {kB:Bool->Prop} (hK:kB true):ajZ p x y o n q h kB:=by
 have b1:(0<=x.h/\x.h<(5:Nat))/\x.h.toNat<5:=⟨⟨by omega,by omega⟩,by omega⟩;have b3:(0<=y.h/\y.h<(5:Nat))/\y.h.toNat<5:=⟨⟨by omega,by omega⟩,by omega⟩;have hk:∀{b:Bool},b=true->kB b:=λh=>by rw[h];exact hK
 have d:=@decide_eq_true;unfold Sd.ajX wnW at hW;dsimp only at hW;rcases hW with⟨rfl,w1,w2,w3⟩|⟨rfl,w1,w2,w3,w4⟩|⟨rfl,w1,w2,w3,w4⟩|⟨rfl,w1,w2⟩|⟨rfl,w1,w2,w3⟩|⟨rfl,w1,w2⟩
 ·exact cndT rfl (cndT (d w1) (cndT (d w2) (hk (d w3))))
 ·refine cndF rfl (cndT rfl (cndT (d w1) (cndT (d (by omega)) ⟨⟨Int.le_refl _,by omega⟩,⟨w2,λj=>rfl⟩,cndT (d w3) (hk ?_)⟩)));by_cases h1:o.kind.tmod 4=1
  ·rw[d h1,d (w4.1 h1)];rfl
  ·rw[decide_eq_false h1,decide_eq_false (λe=>h1 (w4.2 e))];rfl
 ·exact cndF rfl (cndF rfl (cndT rfl (cndT (d w1) (cndT (d w2) (cndT w3 (hk (by rw[w4];rfl)))))))
 ·exact cndF rfl (cndF rfl (cndF rfl (cndT rfl (cndT (d w1) (hk (d w2))))))
 ·have w4:acx (onL y) x.h.toNat=false:=w2;exact cndF rfl (cndF rfl (cndF rfl (cndF rfl (cndT rfl (cndT (d w1) ⟨b1.1,b1.2,cndT (by rw[w4];rfl) (aS (λ_=>hK) λ_=>⟨b3.1,b3.2,hk w3⟩)⟩)))))
 ·refine cndF rfl (cndF rfl (cndF rfl (cndF rfl (cndF rfl (cndT rfl (cndT (d w1) ?_))))));rcases w2 with⟨v1,v2⟩|⟨v1,v2,v3⟩
  ·exact cndT (d v1) (cndT v2 hK)
  ·have v4:acx (onL y) x.h.toNat=false:=v3;exact cndF (decide_eq_false (by rw[v1];decide)) (cndT (d v1) (cndT (d v2) ⟨b1.1,b1.2,hk (by rw[v4];rfl)⟩))
theorem ajx {p:Sd.Pol} {x y:SiD} {n:Nat} {q:Nat->Int} {l:List Sd.Rec} {o:AI} (hW:Sd.ai1 (wnW p x y n q l o)) {kB:Bool->Prop} (hK:kB true):ajj p x y o n q (Sd.Ic l) (Sd.abX l) kB:=by
 obtain⟨hx,hy,ex,kd,len,akv,how⟩:=hW;dsimp only[wnW]at hx hy ex how;have e1:decide (y.h<0)=false:=decide_eq_false (by omega);have e2:decide (4<y.h)=false:=decide_eq_false (by omega);have hwr:i64.wrap (x.e+1)=x.e+1:=nH (by omega);unfold ajj;rcases how with⟨h1,h2,h3⟩|⟨h1,h2,h3,h4,h5⟩
 ·have e4:decide (0<=x.h)=true:=decide_eq_true hx.1;have e5:decide (x.h<=4)=true:=decide_eq_true hx.2;simp only[e1,e2,h1,h2,h3,e4,e5,decide_true,cond_false,cond_true];rw[<-h1,e1,e2];simp only[h1,e4,e5,show((0:Int)==0)=true from rfl,cond_true,cond_false];exact hK
 ·have e3:decide (y.h=x.h)=false:=decide_eq_false h1;have hO:cond (!(y.o==-1)) (kB false) (True/\ajZ p x y o n q (Sd.abX l) kB):=by
   rw[h3];exact⟨trivial,aj0 hx hy h5 hK⟩
  simp only[e1,e2,e3,h2,hwr,cond_false];refine aS (λe=>?_) (λ_=>aS (λe=>?_) (λ_=>hO))
  ·cases e
  ·have h6:y.e≠x.e+1:=by simpa using e
   rcases h4 with h4|⟨g1,g2,g3⟩
   ·exact absurd h4 h6
   ·rw[g3]at hO⊢;simp only[g1,g2,decide_true,cond_true,show((6:Int)==6)=true from rfl,beq_self_eq_true,Bool.not_true,cond_false];exact hO
section
variable{p:Sd.Pol} {ka:Nat->Option Addr} {kn kc:Nat->Nat} {x y:SiD} {t:TdD} {o:AI} {n cn k ck:Nat} {zn zk:Option Addr} {nv sv:Value} {q:Nat->Int} {l:List Sd.Rec} {a b:Bool} {ty nf:BT} {u u':List Value} {K:VK Empty}
theorem ajy {l:List Sd.Rec} {j:Nat} (h:j<l.length):l.take (j+1)=l.take j++[l.getD j default]:=by
 rw[List.take_add_one,List.getD_eq_getElem?_getD,List.getElem?_eq_getElem h];rfl
theorem ajK (AQ:l.length=k) (j:{j:Nat //j<=k}) (hj:j.1<k) (hk:k<=1000) {how many:Int} (h1:how=Sd.abX (l.take (j.1+1))) (h2:many=Sd.Ic (l.take (j.1+1))):wnE p ka kn kc x y t o n cn k ck zn zk nv sv q l a b ty nf u u' j how many:=by
 refine⟨rfl,⟨j.1+1,hj⟩,by show k-(j.1+1)<k-j.1;omega,?_,rfl,rfl⟩;rw[h1,h2,nH (by omega)];rfl
theorem akx (AQ:l.length=k) (hW:Sd.ai1 (wnW p x y n q l o)) (hK:K (.bool true) (wnB n k q l a b ty nf u u') []):wnX p ka kn kc x y t o n cn k ck zn zk nv sv q l a b ty nf u u' K:=by
 refine⟨⟨rfl,⟨0,Nat.zero_le _⟩,rfl,rfl,rfl⟩,?_⟩;intro j g;have hlen:l.length<=1000:=hW.len;refine aS (λe=>?_) (λe=>?_)
 ·have im:j.1<k:=by simpa using e
  have hjj:((j.1:Int)).toNat=j.1:=Int.toNat_natCast _;have hjl:j.1<l.length:=by omega
  have hr:=hW.akv j.1 hjl;dsimp only[wnW]at hr;have hc:=Sd.ajw l j.1;have hc1:Sd.Ic l<=1:=by
   rcases hW.how with h|h
   ·have:=h.2.2;dsimp only[wnW]at this;omega
   ·have:=h.2.1;dsimp only[wnW]at this;omega
  have ts:=ajy hjl;unfold ajJ;rw[hjj];dsimp only;refine⟨⟨by omega,by omega⟩,⟨im,λi=>rfl⟩,aS (λe8=>?_) (λe8=>?_)⟩
  ·have h8:¬(l.getD j.1 default).kind=8:=by simpa using e8
   exact ajK AQ j im (by omega) (by rw[ts,Sd.abS,if_neg h8]) (by rw[ts,Sd.Q7,if_neg h8])
  ·have h8:(l.getD j.1 default).kind=8:=by simpa using e8
   obtain⟨r1,r2⟩:=hr h8;rw[r1,r2];refine aS (λe=>?_) (λ_=>aS (λe=>?_) (λ_=>?_))
   ·simp at e
   ·simp at e
   ·exact ajK AQ j im (by omega) (by rw[ts,Sd.abS,if_pos h8]) (by rw[ts,Sd.Q7,if_pos h8];exact nH (by omega))
 ·have rC:¬j.1<k:=by simpa using e
  have hjk:l.take j.1=l:=List.take_of_length_le (by omega);rw[hjk];exact ajx hW hK
end
def aji {G:Type}:jq G:=λargs bl ch K=>match args with
 |[.agg pl,.agg la,.agg lb,.agg lt,.agg lo]=>cond (sE pl 0) (match siR la,siR lb,tdR lt,opR lo with
  |some (x,.je i 0 n _ _),some (y,.je _ 0 _ _ _),some (_,.je _ 0 _ _ _,.je r 0 k _ _),some o=>(match bl[i]?,bl[r]?with
   |some ⟨_,_,[.fY 1 n' g,.rest _]⟩,some ⟨_,_,[.fY 6 k' h,.rest _]⟩=>cond (!(Nat.beq i r)) ((n'=n/\k'=k/\∃(q:Nat->Int) (l:List Sd.Rec),g=K6 q/\h=C_ l/\l.length=k/\Sd.ai1 (wnW (nP pl zkF) x y n q l o))/\K (.bool true) bl ch) False
   |_,_=>False)
  |_,_,_,_=>False) False
 |_=>False
theorem ajk {G:Type} [Bl G] {gl:Nat->Option Nat}:Sound (G:=G) prog gl 14 aji:=by
 intro args ids bl ch R ms w0 w K hg hl S hc;unfold aji at hc;split at hc
 ·rename_i pl la lb lt lo;cases hpc:sE pl 0 with
  |false=>rw[hpc]at hc;exact hc.elim
  |true=>
   rw[hpc]at hc;simp only[cond_true]at hc;split at hc
   ·rename_i x i n c a1 y j m c' a2 t i2 n2 c2 a3 r k c3 a4 o hx hy ht ho;split at hc
    ·rename_i a ty n' g u b nf k' h u' hi hr;cases hq:!(Nat.beq i r)with
     |false=>rw[hq]at hc;exact hc.elim
     |true=>
      rw[hq]at hc;obtain⟨⟨rfl,rfl,q,l,rfl,rfl,AQ,hW⟩,hK⟩:=hc;obtain rfl:=QM hx;obtain rfl:=QM hy;obtain rfl:=akd ht;obtain rfl:=abu ho;have KE:i≠r:=λe=>by rw[e,Nat.beq_refl]at hq;cases hq
      have fW:c_ (DE prog my (qL Empty [qhi]) (SR 0 (ake (nP pl zkF) (kyA ids pl) (wJ pl) (kyC pl) x y t o n' c k' c3 a1 a4 (den ids (.je j 0 m c' a2)) (den ids (.je i2 0 n2 c2 a3)) q l a b ty nf u u'))) 60 14 (wnA (nP pl zkF) (kyA ids pl) (wJ pl) (kyC pl) x y t o n' c k' c3 a1 a4 (den ids (.je j 0 m c' a2)) (den ids (.je i2 0 n2 c2 a3))) (wnB n' k' q l a b ty nf u u') [] (eB (wnB n' k' q l a b ty nf u u').length λv bl c=>v=.bool true/\bl.take (wnB n' k' q l a b ty nf u u').length=wnB n' k' q l a b ty nf u u'/\∃c2,c=[]++c2):=by
       show c_ _ 60 14 _ _ _ (eB 2 _);rw[akw];exact akx AQ hW ⟨rfl,rfl,[],rfl⟩
      have hp:=abN (C:=DE prog my (qL Empty [qhi]) (SR 0 (ake (nP pl zkF) (kyA ids pl) (wJ pl) (kyC pl) x y t o n' c k' c3 a1 a4 (den ids (.je j 0 m c' a2)) (den ids (.je i2 0 n2 c2 a3)) q l a b ty nf u u'))) (_root_.Go.Proofs.YtlkpikfddnjilaaGreatDoor.ao.TL ajD) (_root_.Go.Proofs.YtlkpikfddnjilaaGreatDoor.ao.QL ajD) rfl hl S [i,r] (by simp[KE]) (wnB n' k' q l a b ty nf u u') (by simp[hi,hr,wnB]) rfl (args:=[.agg pl,.agg (XN x (.je i 0 n' c a1)),.agg (XN y (.je j 0 m c' a2)),.agg (tdL t (.je i2 0 n2 c2 a3) (.je r 0 k' c3 a4)),.agg (opL o)]) ?_ rfl fW
      ·refine hp.mono ?_;rintro v w' ⟨rfl,S2⟩;exact⟨.bool true,[],bl,ch,rfl,by simpa using hl,by simpa using S2,hK⟩
      ·simp only[wnA,az,den,QA hpc zkF ids,XN,tdL,opL,mr,RE,pg,ai,cl,List.cons_append,List.nil_append,List.append_nil];rfl
    ·exact hc.elim
   ·exact hc.elim
 ·exact hc.elim
theorem ajl {G:Type}:fC (aji (G:=G)):=by
 intro args bl ch K hc;unfold aji at hc⊢;split at hc
 ·rename_i pl la lb lt lo;revert hc;cases sE pl 0 with
  |false=>exact λh=>h.elim
  |true=>
   intro hc;simp only[cond_true]at hc⊢;split at hc
   ·split at hc
    ·revert hc;cases !(Nat.beq _ _)with
     |false=>exact λh=>h.elim
     |true=>exact λhc=>⟨hc.1,hc.2,[],by simp⟩
    ·exact hc.elim
   ·exact hc.elim
 ·exact hc.elim
def LHo (fr:Sd.Reply->Nat×Sd.Byt) (C:Sd.Crypt):List (eG (LG fr)):=⟨14,true,aji⟩::Wc fr C
section
variable(C:Sd.Crypt) (tg tc:TypeId) (ty:BT) (u:World) (x:nW) (f:Nat->Nat×Sd.Byt) (o n c:Nat) (a:Option Addr) (os:Nat->AI) (pre post:List Value) (K:V->Prop)
def hoV (y:QQ fr tg tc u x (bJ 80 n)):List V:=[.ptr 8 0,.ptr 9 0,.je 2 o (bJ 80 n) c a,.int .i64 y.j]
def akf:Lp (LG fr):=MC (X:=QQ fr tg tc u x (bJ 80 n)) (λy=>bJ 80 n-y.j) 62 11 [6,7,9,10] (hoV tg tc u x o n c a) (abQ tg tc ty u x f n os pre post) (abR tg tc u x n) (λ_=>rfl) (λ_=>by kernel_rfl) (λ_=>rfl)
def aky (y:QQ fr tg tc u x (bJ 80 n)) (s:Sd.Scene) (F:cz fr (b9 y.k s)) (fB:List aC):Prop:=true=true/\enD (λy=>bJ 80 n-y.j) (hoV tg tc u x o n c a) (abQ tg tc ty u x f n os pre post) (abR tg tc u x n) y [.ptr 8 0,.ptr 9 0,.je 2 o (bJ 80 n) c a,.int .i64 (i64.wrap ((y.j:Int)+1))] (lwB tg tc ty u x f n os pre post y.p y.m y.d y.k s) [.gh u,.core (cB y.k s F) fB]
def aj5 (s s2:Sd.Scene) (p:Sd.Pol) (op:AI) (l2:List Sd.Rec):Prop:=s.c.q.length=s.c.q.length/\l2.length=l2.length/\∃(q:Nat->Int) (l:List Sd.Rec),sw s.c.q=K6 q/\C_ l2=C_ l/\l.length=l2.length/\Sd.ai1 (wnW p (siD s) (siD s2) s.c.q.length q l op)
def akg (y:QQ fr tg tc u x (bJ 80 n)):Prop:=
 let N:=bJ 80 n
 let j:=(y.j:Int).toNat
 Dk tg tc 10 y.k y.s/\∀(z1:Option Addr) (c1 ty1:Nat) (us1:List Value),We y.j N/\opP o n os pre y.j/\Dk tg tc 10 y.k y.s/\(CoA y.k y.s y.F/\wc y.k/\eE u (os j).x (os j).n (os j).c (dt u (os j).x))/\afu (fr:=fr) (k:=y.k) (lE C u (du y.s) (os j)) λs2 r2 fn2 F2=>
  Dk tg tc 10 y.k (nn s2)/\∀(z3:Option Addr) (c3 ty3:Nat) (us3:List Value),We y.j N/\opP o n os pre y.j/\aj5 (du y.s) (du (nn s2)) (nP (jY 4 y.p y.m y.d) zkF) (os j) s2.recs/\aky tg tc ty u x f o n c a os pre post y (nn s2) F2 (fn2++y.fB)
def hoX:Prop:=QW (fr:=fr) tg tc u x n c λp m d hM p2 k F hN v1 v2=>
 (true=true/\IZ (hoV tg tc u x o n c a) (abQ (fr:=fr) tg tc ty u x f n os pre post) (abR tg tc u x n) [.ptr 8 0,.ptr 9 0,.je 2 o (bJ 80 n) c a,.int .i64 0] (lwB tg tc ty u x f n os pre post p m d k (iM p2)) [.gh u,.core (cB k (iM p2) F) []])/\
  ∀(y:QQ fr tg tc u x (bJ 80 n)) (g:Nat->Value),cond (decide ((y.j:Int)<(bJ 80 n:Nat))) (akg C tg tc ty u x f o n c a os pre post y) (K (.bool true))
theorem akz:c_ (DE prog gS (LHo fr C) (SR 0 (akf (fr:=fr) tg tc ty u x f o n c a os pre post))) 60 3 [.agg [.jS ⟨x.q,f⟩ x.ka x.kn x.kc],.je 2 o n c a] [jP tg,pD tc,QO ty n os pre post] [.gh u] (λv _ _=>K v)=hoX (fr:=fr) C tg tc ty u x f o n c a os pre post K:=by kernel_rfl
end
end Go.Proofs.YtlkpikfddnjilaaGreatDoor
